import Derived.Test.YtiopaclofkncaaaDoorPOpsx9
import Derived.Test.YtiopaclofkncaaaDoorPureOps2
namespace Go.Proofs.YtiopaclofkncaaaDoor.Pure
open Go.RowKit Go.Proofs.YtiopaclofkncaaaDoorW.PrintWords Go.Proofs.YtiopaclofkncaaaDoor.POps
def places (k : Nat) (a0 : Int) : Option Bool := (ops_Align.f k a0).bind fun t287 => ((bodkinref05_Align.f k a0).bind fun t288 => (if t287 = t288 then ((ops_Lanes.f k a0).bind fun t289 => ((bodkinref05_Lanes.f k a0).bind fun t290 => (some (t289 == t290)))) else (none)))
theorem places_def (k : Nat) (a0 : Int) : bodkinlaw05_OpsPlaces.f k a0 = (bodkinlaw05_awake.f k).bind fun t => (if t = true then places k a0 else some false) := rfl
theorem places_out {i : Int} (h : Out i) : places KK i = some true := by
  unfold places
  rw [align_out h, Option.bind_some, ralign_out h, Option.bind_some, lanes_out h, rlanes_out h]
  decide +kernel
set_option maxRecDepth 100000 in
set_option maxHeartbeats 100000000 in
theorem places_A : ((List.range 211).all fun (j : Nat) => places KK (0 + Int.ofNat j) == some true) = true := by decide +kernel
set_option maxRecDepth 100000 in
set_option maxHeartbeats 100000000 in
theorem places_B : ((List.range 18).all fun (j : Nat) => places KK (64512 + Int.ofNat j) == some true) = true := by decide +kernel
set_option maxRecDepth 100000 in
set_option maxHeartbeats 100000000 in
theorem places_C : ((List.range 256).all fun (j : Nat) => places KK (64768 + Int.ofNat j) == some true) = true := by decide +kernel
theorem places_all (i : Int) : (places KK i == some true) = true :=
  everyone (p := fun i => places KK i == some true) places_A places_B places_C (fun i h => by rw [places_out h]; rfl) i
theorem OpsPlaces : bodkinlaw05_OpsPlaces.Pure := by
  intro a0 _
  refine ⟨KK, ?_⟩
  rw [places_def, awake_f, Option.bind_some, if_pos rfl]
  exact eq_of_beq (places_all a0)
end Go.Proofs.YtiopaclofkncaaaDoor.Pure

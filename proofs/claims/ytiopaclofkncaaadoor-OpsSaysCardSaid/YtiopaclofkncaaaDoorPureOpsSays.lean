import Derived.Test.YtiopaclofkncaaaDoorPOpsx8
import Derived.Test.YtiopaclofkncaaaDoorPureOps2
namespace Go.Proofs.YtiopaclofkncaaaDoor.Pure
open Go.RowKit Go.Proofs.YtiopaclofkncaaaDoorW.PrintWords Go.Proofs.YtiopaclofkncaaaDoor.POps
def says (k : Nat) (a0 : Int) : Option Bool := (bodkinref05_Of.f k a0).bind fun bt257 => ((ops_Sign.f a0).bind fun bt264 => ((ops_Known.f a0).bind fun t271 => (if (t271 == (decide (bt257.1 ≥ 0))) = true then ((ops_Name.f a0).bind fun t272 => (if t272.toList = bt257.2.1.toList then ((ops_Imm.f a0).bind fun t273 => (if t273 = bt257.2.2.1 then (if (bt264.2.2 == bt257.2.2.2.2.2) = true then ((bodkinref05_Types.f k bt257.2.2.2.1).bind fun t274 => ((bodkinref05_Same.f k bt264.1 t274).bind fun t277 => (if t277 = true then ((bodkinref05_Types.f k bt257.2.2.2.2.1).bind fun t278 => ((bodkinref05_Same.f k bt264.2.1 t278).bind fun t281 => (if t281 = true then ((ops_Align.f k a0).bind fun t282 => ((bodkinref05_Align.f k a0).bind fun t283 => (if t282 = t283 then ((ops_Lanes.f k a0).bind fun t284 => ((bodkinref05_Lanes.f k a0).bind fun t285 => (some (t284 == t285)))) else (none)))) else (none)))) else (none)))) else (none)) else (none))) else (none))) else (none))))
theorem says_def (k : Nat) (a0 : Int) : bodkinlaw05_OpsSays.f k a0 = (bodkinlaw05_awake.f k).bind fun t => (if t = true then says k a0 else some false) := rfl
theorem says_out {i : Int} (h : Out i) : says KK i = some true := by
  unfold says
  rw [of_out h, Option.bind_some, sign_out h, Option.bind_some, known_out h, Option.bind_some, name_out h]
  simp only [Option.bind_some]
  rw [imm_out h, Option.bind_some, align_out h, ralign_out h, lanes_out h, rlanes_out h]
  decide +kernel
set_option maxRecDepth 100000 in
set_option maxHeartbeats 100000000 in
theorem says_A : ((List.range 211).all fun (j : Nat) => says KK (0 + Int.ofNat j) == some true) = true := by decide +kernel
set_option maxRecDepth 100000 in
set_option maxHeartbeats 100000000 in
theorem says_B : ((List.range 18).all fun (j : Nat) => says KK (64512 + Int.ofNat j) == some true) = true := by decide +kernel
set_option maxRecDepth 100000 in
set_option maxHeartbeats 100000000 in
theorem says_C0 : ((List.range 64).all fun (j : Nat) => says KK (64768 + Int.ofNat j) == some true) = true := by decide +kernel
set_option maxRecDepth 100000 in
set_option maxHeartbeats 100000000 in
theorem says_C1 : ((List.range 64).all fun (j : Nat) => says KK (64832 + Int.ofNat j) == some true) = true := by decide +kernel
set_option maxRecDepth 100000 in
set_option maxHeartbeats 100000000 in
theorem says_C2 : ((List.range 64).all fun (j : Nat) => says KK (64896 + Int.ofNat j) == some true) = true := by decide +kernel
set_option maxRecDepth 100000 in
set_option maxHeartbeats 100000000 in
theorem says_C3 : ((List.range 64).all fun (j : Nat) => says KK (64960 + Int.ofNat j) == some true) = true := by decide +kernel
theorem says_C : ((List.range 256).all fun (j : Nat) => says KK (64768 + Int.ofNat j) == some true) = true :=
  four (p := fun i => says KK i == some true) says_C0 says_C1 says_C2 says_C3
theorem says_all (i : Int) : (says KK i == some true) = true :=
  everyone (p := fun i => says KK i == some true) says_A says_B says_C (fun i h => by rw [says_out h]; rfl) i
theorem OpsSays : bodkinlaw05_OpsSays.Pure := by
  intro a0 _
  refine ⟨KK, ?_⟩
  rw [says_def, awake_f, Option.bind_some, if_pos rfl]
  exact eq_of_beq (says_all a0)
end Go.Proofs.YtiopaclofkncaaaDoor.Pure

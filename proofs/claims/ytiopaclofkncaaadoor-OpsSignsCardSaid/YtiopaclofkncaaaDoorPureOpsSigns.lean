import Derived.Test.YtiopaclofkncaaaDoorPOpsx9
import Derived.Test.YtiopaclofkncaaaDoorPureOps2
namespace Go.Proofs.YtiopaclofkncaaaDoor.Pure
open Go.RowKit Go.Proofs.YtiopaclofkncaaaDoorW.PrintWords Go.Proofs.YtiopaclofkncaaaDoor.POps
def signs (k : Nat) (a0 : Int) : Option Bool := (bodkinref05_Of.f k a0).bind fun bt292 => ((ops_Sign.f a0).bind fun bt299 => ((bodkinref05_Types.f k bt292.2.2.2.1).bind fun t306 => ((bodkinref05_Same.f k bt299.1 t306).bind fun t309 => (if t309 = true then ((bodkinref05_Types.f k bt292.2.2.2.2.1).bind fun t310 => ((bodkinref05_Same.f k bt299.2.1 t310).bind fun t313 => (if t313 = true then (bodkinlaw05_OpsSigns.l0 k a0 bt299.1 bt299.2.1 (bt299.2.2 == bt292.2.2.2.2.2) 0 bt292.1 bt292.2.1 bt292.2.2.1 bt292.2.2.2.1 bt292.2.2.2.2.1 bt292.2.2.2.2.2) else (none)))) else (none)))))
theorem signs_def (k : Nat) (a0 : Int) : bodkinlaw05_OpsSigns.f k a0 = (bodkinlaw05_awake.f k).bind fun t => (if t = true then signs k a0 else some false) := rfl
theorem signs_l1 {i : Int} (h : Out i) (k : Nat) (ht : bodkinref05_Types.f k ⟨#[]⟩ = some []) (hs : bodkinref05_Same.f k [] [] = some true) : bodkinlaw05_OpsSigns.l1 (k + 1) i [] true 0 (-1) ⟨#[]⟩ 0 ⟨#[]⟩ ⟨#[]⟩ false = some true := by
  simp only [bodkinlaw05_OpsSigns.l1]
  rw [if_neg (by decide), sign_out h, Option.bind_some, if_pos trivial, ht, Option.bind_some, hs, Option.bind_some, if_pos rfl, Option.bind_some, hs, Option.bind_some]
theorem signs_l0' {i : Int} (h : Out i) (k : Nat) (ht : bodkinref05_Types.f k ⟨#[]⟩ = some []) (hs : bodkinref05_Same.f k [] [] = some true) : bodkinlaw05_OpsSigns.l0 (k + 1 + 1) i [] [] true 0 (-1) ⟨#[]⟩ 0 ⟨#[]⟩ ⟨#[]⟩ false = some true := by
  simp only [bodkinlaw05_OpsSigns.l0]
  rw [if_neg (by decide)]
  exact signs_l1 h k ht hs
theorem signs_l0 {i : Int} (h : Out i) : bodkinlaw05_OpsSigns.l0 KK i [] [] true 0 (-1) ⟨#[]⟩ 0 ⟨#[]⟩ ⟨#[]⟩ false = some true :=
  signs_l0' h 69998 (by decide +kernel) (by decide +kernel)
theorem signs_out {i : Int} (h : Out i) : signs KK i = some true := by
  unfold signs
  rw [of_out h, Option.bind_some, sign_out h, Option.bind_some]
  rw [show bodkinref05_Types.f KK noneR.2.2.2.1 = some [] from by decide +kernel, Option.bind_some]
  rw [show bodkinref05_Same.f KK (([], [], false) : List Int × List Int × Bool).1 [] = some true from by decide +kernel, Option.bind_some, if_pos rfl]
  rw [show bodkinref05_Types.f KK noneR.2.2.2.2.1 = some [] from by decide +kernel, Option.bind_some]
  rw [show bodkinref05_Same.f KK (([], [], false) : List Int × List Int × Bool).2.1 [] = some true from by decide +kernel, Option.bind_some, if_pos rfl]
  exact signs_l0 h
set_option maxRecDepth 100000 in
set_option maxHeartbeats 100000000 in
theorem signs_A : ((List.range 211).all fun (j : Nat) => signs KK (0 + Int.ofNat j) == some true) = true := by decide +kernel
set_option maxRecDepth 100000 in
set_option maxHeartbeats 100000000 in
theorem signs_B : ((List.range 18).all fun (j : Nat) => signs KK (64512 + Int.ofNat j) == some true) = true := by decide +kernel
set_option maxRecDepth 100000 in
set_option maxHeartbeats 100000000 in
theorem signs_C : ((List.range 256).all fun (j : Nat) => signs KK (64768 + Int.ofNat j) == some true) = true := by decide +kernel
theorem signs_all (i : Int) : (signs KK i == some true) = true :=
  everyone (p := fun i => signs KK i == some true) signs_A signs_B signs_C (fun i h => by rw [signs_out h]; rfl) i
theorem OpsSigns : bodkinlaw05_OpsSigns.Pure := by
  intro a0 _
  refine ⟨KK, ?_⟩
  rw [signs_def, awake_f, Option.bind_some, if_pos rfl]
  exact eq_of_beq (signs_all a0)
end Go.Proofs.YtiopaclofkncaaaDoor.Pure

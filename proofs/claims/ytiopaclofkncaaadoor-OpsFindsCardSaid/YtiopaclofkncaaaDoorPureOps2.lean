import Derived.Test.YtiopaclofkncaaaDoorPOpsx7
import Derived.Test.YtiopaclofkncaaaDoorPureOps
import Derived.KernelRfl
namespace Go.Proofs.YtiopaclofkncaaaDoor.Pure
open Go.RowKit Go.Proofs.YtiopaclofkncaaaDoorW.PrintWords Go.Proofs.YtiopaclofkncaaaDoor.POps
def Out (i : Int) : Prop := ¬ (0 ≤ i ∧ i < 211) ∧ ¬ (64512 ≤ i ∧ i < 64530) ∧ ¬ (64768 ≤ i ∧ i < 65024)
def noneR : Int × ByteArray × Int × ByteArray × ByteArray × Bool := (-1, ⟨#[]⟩, 0, ⟨#[]⟩, ⟨#[]⟩, false)
theorem j2_out (i : Int) : bodkinref05_Of.j2 69998 i ⟨#[]⟩ = some noneR := by kernel_rfl
theorem j1_out {i : Int} (h : Out i) : bodkinref05_Of.j1 69999 i ⟨#[]⟩ false = some noneR := by
  rw [show (69999 : Nat) = 69998 + 1 from rfl]
  simp only [bodkinref05_Of.j1]
  rw [if_neg (by decide)]
  by_cases c : i ≥ 64768
  · rw [if_pos c, if_neg (fun c2 => h.2.2 ⟨c, c2⟩)]; exact j2_out i
  · rw [if_neg c]; exact j2_out i
theorem j0_out {i : Int} (h : Out i) : bodkinref05_Of.j0 KK i ⟨#[]⟩ false = some noneR := by
  unfold KK
  rw [show (70000 : Nat) = 69999 + 1 from rfl]
  simp only [bodkinref05_Of.j0]
  rw [if_neg (by decide)]
  by_cases c : i ≥ 64512
  · rw [if_pos c]
    rw [show decide (i < 64530) = false from decide_eq_false (fun c2 => h.2.1 ⟨c, c2⟩)]
    exact j1_out h
  · rw [if_neg c]; exact j1_out h
theorem of_out {i : Int} (h : Out i) : bodkinref05_Of.f KK i = some noneR := by
  unfold bodkinref05_Of.f
  by_cases c : i ≥ 0
  · rw [if_pos c, show decide (i < 211) = false from decide_eq_false (fun c2 => h.1 ⟨c, c2⟩)]; exact j0_out h
  · rw [if_neg c]; exact j0_out h
theorem stretch {p : Int → Bool} {a : Int} {n : Nat} (h : ((List.range n).all fun (j : Nat) => p (a + Int.ofNat j)) = true) (i : Int) (h0 : a ≤ i) (h1 : i < a + n) : p i = true := by
  have := List.all_eq_true.1 h (i - a).toNat (List.mem_range.2 (by omega))
  have e : a + Int.ofNat (i - a).toNat = i := by simp only [Int.ofNat_eq_natCast]; omega
  rwa [e] at this
theorem everyone {p : Int → Bool} (hA : ((List.range 211).all fun (j : Nat) => p (0 + Int.ofNat j)) = true) (hB : ((List.range 18).all fun (j : Nat) => p (64512 + Int.ofNat j)) = true)
    (hC : ((List.range 256).all fun (j : Nat) => p (64768 + Int.ofNat j)) = true) (hO : ∀ i, Out i → p i = true) (i : Int) : p i = true := by
  by_cases a : 0 ≤ i ∧ i < 211
  · exact stretch hA i a.1 (by omega)
  · by_cases b : 64512 ≤ i ∧ i < 64530
    · exact stretch hB i b.1 (by omega)
    · by_cases c : 64768 ≤ i ∧ i < 65024
      · exact stretch hC i c.1 (by omega)
      · exact hO i ⟨a, b, c⟩
end Go.Proofs.YtiopaclofkncaaaDoor.Pure

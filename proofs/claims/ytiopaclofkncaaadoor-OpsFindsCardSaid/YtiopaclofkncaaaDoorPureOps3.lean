import Derived.Test.YtiopaclofkncaaaDoorPureOps
namespace Go.Proofs.YtiopaclofkncaaaDoor.Pure
open Go.RowKit Go.Proofs.YtiopaclofkncaaaDoorW.PrintWords Go.Proofs.YtiopaclofkncaaaDoor.POps
theorem all_parts {p : Int → Bool} (n : Nat) {l : List Int} (h1 : (l.take n).all p = true) (h2 : (l.drop n).all p = true) : l.all p = true := by
  rw [← List.take_append_drop n l, List.all_append, h1, h2]
  rfl
def nmOf (op : Int) : ByteArray := (ops_Name.f op).getD ⟨#[]⟩
set_option maxRecDepth 100000 in
set_option maxHeartbeats 100000000 in
theorem names_ok : (allLit.all fun op => (ops_Name.f op).isSome) = true := by decide +kernel
theorem name_of {op : Int} (h : op ∈ allLit) : ops_Name.f op = some (nmOf op) := by
  have := List.all_eq_true.1 names_ok op h
  unfold nmOf
  cases e : ops_Name.f op with
  | none => rw [e] at this; cases this
  | some s => rfl
def findFrom (x : ByteArray) : List Int → Int × Bool
  | [] => (0, false)
  | op :: l => if (nmOf op).toList = x.toList then (op, true) else findFrom x l
theorem allLit_len : allLit.length = 435 := by decide +kernel
theorem rd_mid (l1 l2 : List Int) (op : Int) : rd (l1 ++ op :: l2) (l1.length : Int) = op := by simp [rd]
theorem find_run (x : ByteArray) : ∀ (l2 l1 : List Int), l1 ++ l2 = allLit → ∀ k, l2.length < k → ops_Find.l0 k x allLit 435 (l1.length : Int) = some (findFrom x l2)
  | [], l1, h, k, hk => by
    obtain ⟨k, rfl⟩ : ∃ m, k = m + 1 := ⟨k - 1, by simp at hk; omega⟩
    have hl : l1.length = 435 := by rw [← allLit_len, ← h, List.append_nil]
    simp only [ops_Find.l0]
    rw [if_neg (by omega)]
    rfl
  | op :: l2, l1, h, k, hk => by
    obtain ⟨k, rfl⟩ : ∃ m, k = m + 1 := ⟨k - 1, by simp at hk; omega⟩
    have hl : l1.length + (l2.length + 1) = 435 := by rw [← allLit_len, ← h]; simp
    have hm : op ∈ allLit := by rw [← h]; simp
    have hr : rd allLit (l1.length : Int) = op := by rw [← h]; exact rd_mid l1 l2 op
    have ih := find_run x l2 (l1 ++ [op]) (by rw [List.append_assoc]; exact h) k (by simp at hk; omega)
    simp only [ops_Find.l0]
    rw [if_pos (by omega), if_pos (by omega), if_pos (by rw [allLit_len]; omega), hr, name_of hm, Option.bind_some, wrap_small (by omega) (by omega)]
    unfold findFrom
    by_cases c : (nmOf op).toList = x.toList
    · rw [if_pos c, if_pos c]
    · rw [if_neg c, if_neg c, ← ih]
      congr 1
      simp
theorem find_fk (k : Nat) (hk : 65025 ≤ k) (x : ByteArray) (hx : ¬ x.toList = ([] : List UInt8)) : ops_Find.f k x = some (findFrom x allLit) := by
  unfold ops_Find.f
  rw [if_neg hx, all_f k hk, Option.bind_some, allLit_len]
  exact find_run x allLit [] rfl k (by rw [allLit_len]; omega)
theorem find_f (x : ByteArray) (hx : ¬ x.toList = ([] : List UInt8)) : ops_Find.f KK x = some (findFrom x allLit) := find_fk KK (by decide) x hx
theorem find_none (x : ByteArray) (hx : x.toList = ([] : List UInt8)) : ops_Find.f KK x = some (0, false) := by
  unfold ops_Find.f
  rw [if_pos hx]
end Go.Proofs.YtiopaclofkncaaaDoor.Pure

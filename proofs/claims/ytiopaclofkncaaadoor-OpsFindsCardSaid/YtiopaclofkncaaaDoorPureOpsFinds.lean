import Derived.Test.YtiopaclofkncaaaDoorPOpsx10
import Derived.Test.YtiopaclofkncaaaDoorPureOps2
import Derived.Test.YtiopaclofkncaaaDoorPureOps3
namespace Go.Proofs.YtiopaclofkncaaaDoor.Pure
open Go.RowKit Go.Proofs.YtiopaclofkncaaaDoorW.PrintWords Go.Proofs.YtiopaclofkncaaaDoor.POps
def ofOk (op : Int) : Bool := match bodkinref05_Of.f 200 op with | some r => r.2.1.toList == (nmOf op).toList | none => false
set_option maxRecDepth 100000 in
set_option maxHeartbeats 100000000 in
theorem ofs_0 : ((allLit.take 110).all ofOk) = true := by decide +kernel
set_option maxRecDepth 100000 in
set_option maxHeartbeats 100000000 in
theorem ofs_1 : (((allLit.drop 110).take 100).all ofOk) = true := by decide +kernel
set_option maxRecDepth 100000 in
set_option maxHeartbeats 100000000 in
theorem ofs_2 : ((((allLit.drop 110).drop 100).take 75).all ofOk) = true := by decide +kernel
set_option maxRecDepth 100000 in
set_option maxHeartbeats 100000000 in
theorem ofs_3 : (((((allLit.drop 110).drop 100).drop 75).take 75).all ofOk) = true := by decide +kernel
set_option maxRecDepth 100000 in
set_option maxHeartbeats 100000000 in
theorem ofs_4 : (((((allLit.drop 110).drop 100).drop 75).drop 75).all ofOk) = true := by decide +kernel
theorem ofs_ok : (allLit.all ofOk) = true := (all_parts 110 ofs_0 (all_parts 100 ofs_1 (all_parts 75 ofs_2 (all_parts 75 ofs_3 ofs_4))))
theorem of_name {op : Int} (h : op ∈ allLit) (k : Nat) (hk : 200 ≤ k) : ∃ r, bodkinref05_Of.f k op = some r ∧ r.2.1.toList = (nmOf op).toList := by
  have := List.all_eq_true.1 ofs_ok op h
  unfold ofOk at this
  cases e : bodkinref05_Of.f 200 op with
  | none => rw [e] at this; cases this
  | some r =>
    rw [e] at this
    exact ⟨r, at_rounds (fun k => bodkinref05_Of.mono op k) hk e, eq_of_beq this⟩
set_option maxRecDepth 100000 in
set_option maxHeartbeats 100000000 in
theorem rall_f : bodkinref05_All.f KK = some allLit := by decide +kernel
theorem rfind_run (x : ByteArray) : ∀ (l2 l1 : List Int), l1 ++ l2 = allLit → ∀ k, l2.length + 200 < k → bodkinref05_Find.l0 k x allLit (l1.length : Int) = some (findFrom x l2)
  | [], l1, h, k, hk => by
    obtain ⟨k, rfl⟩ : ∃ m, k = m + 1 := ⟨k - 1, by simp at hk; omega⟩
    have hl : l1.length = 435 := by rw [← allLit_len, ← h, List.append_nil]
    simp only [bodkinref05_Find.l0]
    rw [if_neg (by rw [allLit_len]; omega)]
    rfl
  | op :: l2, l1, h, k, hk => by
    obtain ⟨k, rfl⟩ : ∃ m, k = m + 1 := ⟨k - 1, by simp at hk; omega⟩
    have hl : l1.length + (l2.length + 1) = 435 := by rw [← allLit_len, ← h]; simp
    have hm : op ∈ allLit := by rw [← h]; simp
    have hr : rd allLit (l1.length : Int) = op := by rw [← h]; exact rd_mid l1 l2 op
    have ih := rfind_run x l2 (l1 ++ [op]) (by rw [List.append_assoc]; exact h) k (by simp at hk; omega)
    obtain ⟨r, e1, e2⟩ := of_name hm k (by simp at hk; omega)
    simp only [bodkinref05_Find.l0]
    rw [if_pos (by rw [allLit_len]; omega), if_pos (by omega), hr, e1, Option.bind_some, wrap_small (by omega) (by omega)]
    unfold findFrom
    by_cases c : (nmOf op).toList = x.toList
    · rw [if_pos (e2.trans c), if_pos c]
    · rw [if_neg (fun e => c (e2.symm.trans e)), if_neg c, ← ih]
      congr 1
      simp
theorem rfind_f (x : ByteArray) : bodkinref05_Find.f KK x = some (findFrom x allLit) := by
  unfold bodkinref05_Find.f
  rw [rall_f, Option.bind_some]
  exact rfind_run x allLit [] rfl KK (by rw [allLit_len]; decide)
set_option maxRecDepth 100000 in
set_option maxHeartbeats 100000000 in
theorem of_A : ((List.range 211).all fun (j : Nat) => (bodkinref05_Of.f KK (0 + Int.ofNat j)).isSome) = true := by decide +kernel
set_option maxRecDepth 100000 in
set_option maxHeartbeats 100000000 in
theorem of_B : ((List.range 18).all fun (j : Nat) => (bodkinref05_Of.f KK (64512 + Int.ofNat j)).isSome) = true := by decide +kernel
set_option maxRecDepth 100000 in
set_option maxHeartbeats 100000000 in
theorem of_C : ((List.range 256).all fun (j : Nat) => (bodkinref05_Of.f KK (64768 + Int.ofNat j)).isSome) = true := by decide +kernel
theorem of_some (i : Int) : ∃ r, bodkinref05_Of.f KK i = some r :=
  Option.isSome_iff_exists.1 (everyone (p := fun i => (bodkinref05_Of.f KK i).isSome) of_A of_B of_C (fun i h => by rw [of_out h]; rfl) i)
theorem OpsFinds : bodkinlaw05_OpsFinds.Pure := by
  intro a0 a1 _ _
  refine ⟨KK, ?_⟩
  obtain ⟨r, hr⟩ := of_some a1
  have tail : ∀ x : ByteArray, ∃ p : Int × Bool, ops_Find.f KK x = some p ∧ (¬ x.toList = ([] : List UInt8) → p = findFrom x allLit) ∧ (x.toList = ([] : List UInt8) → p = (0, false)) := by
    intro x
    by_cases hx : x.toList = ([] : List UInt8)
    · exact ⟨_, find_none x hx, fun h => absurd hx h, fun _ => rfl⟩
    · exact ⟨_, find_f x hx, fun _ => rfl, fun h => absurd h hx⟩
  obtain ⟨p, hp, p1, p2⟩ := tail a0
  obtain ⟨q, hq, q1, q2⟩ := tail r.2.1
  unfold bodkinlaw05_OpsFinds.f
  rw [awake_f, Option.bind_some, if_pos rfl, hp, Option.bind_some, rfind_f, Option.bind_some, hr, Option.bind_some, hq, Option.bind_some, rfind_f, Option.bind_some]
  have second : (if r.2.1.toList = ([] : List UInt8) then (if q.2 = true then (if q.1 = (findFrom r.2.1 allLit).1 then (some (q.2 == (findFrom r.2.1 allLit).2)) else (none)) else (some true)) else (if q.1 = (findFrom r.2.1 allLit).1 then (some (q.2 == (findFrom r.2.1 allLit).2)) else (none))) = some true := by
    by_cases c : r.2.1.toList = ([] : List UInt8)
    · rw [if_pos c, q2 c, if_neg (by decide)]
    · rw [if_neg c, q1 c, if_pos rfl]
      simp
  by_cases c : a0.toList = ([] : List UInt8)
  · rw [if_pos c, p2 c, if_neg (by decide), if_pos rfl]
    exact second
  · rw [if_neg c, p1 c, if_pos rfl, if_pos (by simp)]
    exact second
end Go.Proofs.YtiopaclofkncaaaDoor.Pure

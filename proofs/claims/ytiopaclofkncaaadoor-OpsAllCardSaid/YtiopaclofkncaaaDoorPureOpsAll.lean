import Derived.Test.YtiopaclofkncaaaDoorPOpsx11
import Derived.Test.YtiopaclofkncaaaDoorPureOps3
import Derived.Laws.BitsLemmas
namespace Go.Proofs.YtiopaclofkncaaaDoor.Pure
open Go.RowKit Go.Proofs.YtiopaclofkncaaaDoorW.PrintWords Go.Proofs.YtiopaclofkncaaaDoor.POps
theorem i64_and511 (n : Int) : bits .and .i64 n 511 = n % 512 := by
  have h511 : (BitVec.ofInt 64 511).toNat = 2 ^ 9 - 1 := by decide
  have key : (BitVec.ofInt 64 n &&& BitVec.ofInt 64 511).toNat = (n % ((2 ^ 64 : Nat) : Int)).toNat % 2 ^ 9 := by
    rw [BitVec.toNat_and, BitVec.toNat_ofInt, h511, Nat.and_two_pow_sub_one_eq_mod]
  show IntKind.i64.wrap ((BitVec.ofInt 64 n &&& BitVec.ofInt 64 511).toNat : Nat) = n % 512
  rw [key, IntKind.wrap_i64]
  omega
theorem mem_fr {i x : Int} {n : Nat} : i ∈ fr x n ↔ (x ≤ i ∧ i < x + n ∧ kn i = true) := by
  unfold fr
  rw [List.mem_filter, List.mem_map]
  constructor
  · rintro ⟨⟨j, hj, rfl⟩, h⟩
    have := List.mem_range.1 hj
    simp only [Int.ofNat_eq_natCast] at h ⊢
    exact ⟨by omega, by omega, h⟩
  · rintro ⟨h1, h2, h3⟩
    refine ⟨⟨(i - x).toNat, List.mem_range.2 (by omega), ?_⟩, h3⟩
    simp only [Int.ofNat_eq_natCast]; omega
theorem kn_mem (i : Int) : kn i = decide (i ∈ allLit) := by
  rw [← fr_all]
  by_cases h : i ∈ fr 0 65024
  · rw [decide_eq_true h]; exact (mem_fr.1 h).2.2
  · rw [decide_eq_false h]
    by_cases c : 0 ≤ i ∧ i < 65024
    · cases e : kn i with
      | false => rfl
      | true => exact absurd (mem_fr.2 ⟨c.1, by omega, e⟩) h
    · exact kn_out (by omega) (by omega) (by omega)
set_option maxRecDepth 100000 in
set_option maxHeartbeats 100000000 in
theorem named_ok : (allLit.all fun op => (nmOf op).toList != ([] : List UInt8)) = true := by decide +kernel
def risesB : List Int → Bool
  | a :: b :: l => decide (a < b) && risesB (b :: l)
  | _ => true
set_option maxRecDepth 100000 in
theorem rises_ok : risesB allLit = true := by decide +kernel
theorem rises_mid : ∀ (l1 : List Int) (a b : Int) (l2 : List Int), risesB (l1 ++ a :: b :: l2) = true → a < b
  | [], a, b, l2, h => by simp [risesB] at h; exact h.1
  | [c], a, b, l2, h => by simp [risesB] at h; exact h.2.1
  | c :: d :: l1, a, b, l2, h => by
    have : risesB ((d :: l1) ++ a :: b :: l2) = true := by simp [risesB] at h; exact h.2
    exact rises_mid (d :: l1) a b l2 this
theorem rises_all : ∀ (l2 : List Int) (a : Int), risesB (a :: l2) = true → ∀ b ∈ l2, a < b
  | [], _, _, b, hb => by cases hb
  | c :: l2, a, h, b, hb => by
    simp only [risesB, Bool.and_eq_true, decide_eq_true_eq] at h
    rcases List.mem_cons.1 hb with rfl | hb
    · exact h.1
    · have := rises_all l2 c h.2 b hb; omega
/-- The first number of a name is no greater than any of that name. -/
theorem find_first (x : ByteArray) : ∀ (l : List Int) (op : Int), risesB l = true → op ∈ l → (nmOf op).toList = x.toList → ∃ q, findFrom x l = (q, true) ∧ q ∈ l ∧ (nmOf q).toList = x.toList ∧ q ≤ op
  | [], _, _, h, _ => by cases h
  | c :: l, op, hr, hm, hn => by
    unfold findFrom
    by_cases hc : (nmOf c).toList = x.toList
    · rw [if_pos hc]
      refine ⟨c, rfl, List.mem_cons_self, hc, ?_⟩
      rcases List.mem_cons.1 hm with rfl | hm
      · exact Int.le_refl _
      · exact Int.le_of_lt (rises_all l c hr op hm)
    · rw [if_neg hc]
      rcases List.mem_cons.1 hm with rfl | hm
      · exact absurd hn hc
      · have hr2 : risesB l = true := by
          cases l with
          | nil => rfl
          | cons d l => simp only [risesB, Bool.and_eq_true] at hr; exact hr.2
        obtain ⟨q, h1, h2, h3, h4⟩ := find_first x l op hr2 hm hn
        exact ⟨q, h1, List.mem_cons_of_mem _ h2, h3, h4⟩
theorem rd_mem (i : Int) (h0 : 0 ≤ i) (h1 : i < 435) : rd allLit i ∈ allLit := by
  have : i.toNat < allLit.length := by rw [allLit_len]; omega
  unfold rd
  rw [List.getD_eq_getElem?_getD, List.getElem?_eq_getElem this]
  exact List.getElem_mem this
theorem all_j3 (k : Nat) (hk : 65025 ≤ k) (i : Int) (h0 : 0 ≤ i) (h1 : i < 435) : bodkinlaw05_OpsAll.j3 (k + 1) allLit i = some true := by
  have hm := rd_mem i h0 h1
  have hne : ¬ (nmOf (rd allLit i)).toList = ([] : List UInt8) := by
    have := List.all_eq_true.1 named_ok _ hm
    simpa using this
  obtain ⟨q, e1, e2, e3, e4⟩ := find_first (nmOf (rd allLit i)) allLit (rd allLit i) rises_ok hm rfl
  simp only [bodkinlaw05_OpsAll.j3]
  rw [if_pos h0, if_pos (by rw [allLit_len]; omega), name_of hm, Option.bind_some, find_fk k hk _ hne, Option.bind_some, e1, if_pos (by rw [allLit_len]; omega), all_f k hk, Option.bind_some]
  simp only [if_true]
  rw [Option.bind_some, if_pos (by rw [allLit_len]; omega), if_pos e4, name_of e2, Option.bind_some, if_pos (by rw [allLit_len]; omega), name_of hm, Option.bind_some, if_pos e3, if_pos (by rw [allLit_len]; omega)]
  decide +kernel
theorem all_j2 (k : Nat) (hk : 65025 ≤ k) (a0 : Int) : bodkinlaw05_OpsAll.j2 (k + 1 + 1) a0 allLit false = some true := by
  simp only [bodkinlaw05_OpsAll.j2]
  rw [if_neg (by decide), i64_and511, allLit_len]
  by_cases c : a0 % 512 ≥ ((435 : Nat) : Int)
  · rw [if_pos c]; exact all_j3 k hk 0 (by omega) (by omega)
  · rw [if_neg c]; exact all_j3 k hk _ (by omega) (by omega)
theorem all_loop (a0 : Int) : ∀ (l2 l1 : List Int) (b : Bool), l1 ++ l2 = allLit → b = decide (a0 ∈ l1) → ∀ k, 65025 ≤ k → bodkinlaw05_OpsAll.l0 (k + 2 * l2.length + 3) a0 allLit b (l1.length : Int) = some true
  | [], l1, b, h, hb, k, hk => by
    have hl : l1 = allLit := by rw [← h, List.append_nil]
    subst hl
    simp only [bodkinlaw05_OpsAll.l0, List.length_nil, Nat.mul_zero, Nat.add_zero]
    rw [if_neg (by omega), if_pos (by rw [allLit_len]; rfl), known_f, Option.bind_some, kn_mem, hb]
    rw [show (decide (a0 ∈ allLit) != decide (a0 ∈ allLit)) = false from by simp]
    exact all_j2 k hk a0
  | op :: l2, l1, b, h, hb, k, hk => by
    have hl : l1.length + (l2.length + 1) = 435 := by rw [← allLit_len, ← h]; simp
    have hm : op ∈ allLit := by rw [← h]; simp
    have hr : rd allLit (l1.length : Int) = op := by rw [← h]; exact rd_mid l1 l2 op
    have ih := all_loop a0 l2 (l1 ++ [op]) (b || (op == a0)) (by rw [List.append_assoc]; exact h) (by rw [hb]; simp [List.mem_append, eq_comm, Bool.beq_eq_decide_eq]) k hk
    have hlen : ((l1 ++ [op]).length : Int) = (l1.length : Int) + 1 := by simp
    rw [hlen] at ih
    have hkn : kn op = true := by rw [kn_mem]; exact decide_eq_true hm
    have hne : ¬ (nmOf op).toList = ([] : List UInt8) := by
      have := List.all_eq_true.1 named_ok _ hm
      simpa using this
    have j1 : ∀ c : Bool, c = (b || (op == a0)) → bodkinlaw05_OpsAll.j1 (k + 2 * l2.length + 3 + 1) a0 allLit c (l1.length : Int) = some true := by
      rintro c rfl
      simp only [bodkinlaw05_OpsAll.j1]
      by_cases z : (l1.length : Int) > 0
      · have hw : wrap64 ((l1.length : Int) - 1) = (l1.length : Int) - 1 := by unfold wrap64; omega
        rw [if_pos z, hw, if_pos (by omega), if_pos (by rw [allLit_len]; omega), if_pos (by omega), if_pos (by rw [allLit_len]; omega), hr]
        have hlt : ¬ (rd allLit ((l1.length : Int) - 1) ≥ op) := by
          obtain ⟨l0, d, rfl⟩ : ∃ l0 d, l1 = l0 ++ [d] := by
            rcases List.eq_nil_or_concat l1 with e | ⟨l0, d, e⟩
            · subst e; simp at z
            · exact ⟨l0, d, by rw [e, List.concat_eq_append]⟩
          have e1 : ((l0 ++ [d]).length : Int) - 1 = (l0.length : Int) := by simp
          have h2 : l0 ++ d :: op :: l2 = allLit := by rw [← h]; simp
          have hd : rd allLit (l0.length : Int) = d := by rw [← h2]; exact rd_mid l0 (op :: l2) d
          have := rises_mid l0 d op l2 (by rw [h2]; exact rises_ok)
          rw [e1, hd]; omega
        rw [if_neg hlt, known_f, hkn, Option.bind_some, if_pos rfl, name_of hm, Option.bind_some, if_neg hne, wrap_small (by omega) (by omega)]
        exact ih
      · rw [if_neg z, if_pos (by omega), if_pos (by rw [allLit_len]; omega), hr, known_f, hkn, Option.bind_some, if_pos rfl, name_of hm, Option.bind_some, if_neg hne, wrap_small (by omega) (by omega)]
        exact ih
    rw [show k + 2 * (op :: l2).length + 3 = (k + 2 * l2.length + 3 + 1) + 1 from by simp; omega]
    simp only [bodkinlaw05_OpsAll.l0]
    rw [if_pos (by rw [allLit_len]; omega)]
    by_cases hbt : b = true
    · rw [if_pos hbt]; exact j1 true (by rw [hbt]; rfl)
    · rw [if_neg hbt, if_pos (by omega), hr]
      exact j1 _ (by cases b <;> simp_all)
theorem OpsAll : bodkinlaw05_OpsAll.Pure := by
  intro a0 _
  refine ⟨KK, ?_⟩
  unfold bodkinlaw05_OpsAll.f
  rw [awake_f, Option.bind_some, if_pos rfl, all_f KK (by decide), Option.bind_some]
  have := all_loop a0 allLit [] false rfl (by simp) (KK - 873) (by decide)
  rw [allLit_len] at this
  exact this
end Go.Proofs.YtiopaclofkncaaaDoor.Pure

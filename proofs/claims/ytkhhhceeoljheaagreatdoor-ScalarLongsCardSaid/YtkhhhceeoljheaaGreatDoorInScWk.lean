import Derived.Test.YtkhhhceeoljheaaGreatDoorInPIntx17
import Derived.Laws.Bits64
import Derived.Lib.BitFns
import Derived.Lib.TrailingZeros
set_option linter.unusedVariables false
set_option linter.unusedSimpArgs false
namespace Go.Proofs.YtkhhhceeoljheaaGreatDoor.Pure
open Go.RowKit Go.Proofs.YtkhhhceeoljheaaGreatDoorW.PrintWords Go.Proofs.YtkhhhceeoljheaaGreatDoor.PInt
theorem wu (n : Int) : IntKind.u64.wrap n = n % 18446744073709551616 := IntKind.wrap_u64 n
theorem wu_id {n : Int} (h0 : 0 ≤ n) (h1 : n < 18446744073709551616) : IntKind.u64.wrap n = n := by rw [wu]; omega
theorem w64_id {n : Int} (h0 : -9223372036854775808 ≤ n) (h1 : n < 9223372036854775808) : wrap64 n = n := by unfold wrap64; omega
theorem two_pow_le {i n : Nat} (h : i ≤ n) : 2 ^ i ≤ 2 ^ n := Nat.pow_le_pow_right (by omega) h
theorem tdiv_nat (a b : Nat) : Int.tdiv (a : Int) (b : Int) = ((a / b : Nat) : Int) := by
  rw [Int.tdiv_eq_ediv_of_nonneg (by omega)]; rfl
theorem tmod_nat (a b : Nat) : Int.tmod (a : Int) (b : Int) = ((a % b : Nat) : Int) := by
  rw [Int.tmod_eq_emod_of_nonneg (by omega)]; rfl
theorem cut_l0 (n a : Nat) (hn : n < 64) : ∀ (d k i : Nat), i + d = n → d < k → bodkinref02_Cut.l0 k n a ((2 ^ i : Nat) : Int) i = some ((a % 2 ^ n : Nat) : Int)
  | 0, k, i, h, hk => by
    obtain ⟨k, rfl⟩ : ∃ m, k = m + 1 := ⟨k - 1, by omega⟩
    obtain rfl : i = n := by omega
    have hp : 0 < 2 ^ i := Nat.two_pow_pos i
    simp only [bodkinref02_Cut.l0]
    rw [if_neg (by omega), if_neg (by omega), tmod_nat]
  | d + 1, k, i, h, hk => by
    obtain ⟨k, rfl⟩ : ∃ m, k = m + 1 := ⟨k - 1, by omega⟩
    have hp : 2 ^ (i + 1) ≤ 2 ^ 63 := two_pow_le (by omega)
    have ih := cut_l0 n a hn d k (i + 1) (by omega) (by omega)
    have e1 : IntKind.u64.wrap (((2 ^ i : Nat) : Int) * 2) = ((2 ^ (i + 1) : Nat) : Int) := by
      rw [wu, Nat.pow_succ]
      rw [Nat.pow_succ] at hp
      generalize 2 ^ i = p at *
      omega
    have e2 : wrap64 ((i : Int) + 1) = ((i + 1 : Nat) : Int) := by rw [w64_id (by omega) (by omega)]; rfl
    simp only [bodkinref02_Cut.l0]
    rw [if_pos (by omega), e1, e2]
    exact ih
theorem cut_f (n a k : Nat) (hn : n ≤ 64) (ha : a < 18446744073709551616) (hk : n + 1 < k) : bodkinref02_Cut.f k n a = some ((a % 2 ^ n : Nat) : Int) := by
  unfold bodkinref02_Cut.f
  by_cases c : (n : Int) = 64
  · rw [if_pos c]
    obtain rfl : n = 64 := by omega
    rw [Nat.mod_eq_of_lt (by simpa using ha)]
  · rw [if_neg c]
    exact cut_l0 n a (by omega) n k 0 (by omega) (by omega)
theorem bit_l0 (n : Nat) : ∀ (d k i a : Nat), i + d = n → d < k → n < 1000 → a < 18446744073709551616 → bodkinref02_bit.l0 k a n i = some ((a / 2 ^ d % 2 : Nat) : Int)
  | 0, k, i, a, h, hk, _, _ => by
    obtain ⟨k, rfl⟩ : ∃ m, k = m + 1 := ⟨k - 1, by omega⟩
    simp only [bodkinref02_bit.l0]
    rw [if_neg (by omega), show ((2 : Int)) = ((2 : Nat) : Int) from rfl, tmod_nat]
    simp
  | d + 1, k, i, a, h, hk, hn, ha => by
    obtain ⟨k, rfl⟩ : ∃ m, k = m + 1 := ⟨k - 1, by omega⟩
    have ih := bit_l0 n d k (i + 1) (a / 2) (by omega) (by omega) hn (by omega)
    have e1 : IntKind.u64.wrap (Int.tdiv (a : Int) 2) = ((a / 2 : Nat) : Int) := by
      rw [show ((2 : Int)) = ((2 : Nat) : Int) from rfl, tdiv_nat, wu]; omega
    have e2 : wrap64 ((i : Int) + 1) = ((i + 1 : Nat) : Int) := by rw [w64_id (by omega) (by omega)]; rfl
    simp only [bodkinref02_bit.l0]
    rw [if_pos (by omega), e1, e2, ih, Nat.div_div_eq_div_mul, Nat.pow_succ, Nat.mul_comm]
theorem bit_f (n a k : Nat) (hn : n < 1000) (ha : a < 18446744073709551616) (hk : n < k) : bodkinref02_bit.f k a n = some ((a / 2 ^ n % 2 : Nat) : Int) :=
  bit_l0 n n k 0 a (by omega) hk hn ha
def bitsL (n a : Nat) : List Int := (List.range n).map fun i => ((a / 2 ^ i % 2 : Nat) : Int)
theorem bitsL_length (n a : Nat) : (bitsL n a).length = n := by simp [bitsL]
theorem bitsL_succ (n a : Nat) : bitsL (n + 1) a = ((a % 2 : Nat) : Int) :: bitsL n (a / 2) := by
  unfold bitsL
  rw [List.range_succ_eq_map, List.map_cons, List.map_map]
  congr 1
  · simp
  · apply List.map_congr_left
    intro i _
    simp only [Function.comp]
    rw [Nat.div_div_eq_div_mul, Nat.pow_succ, Nat.mul_comm]
theorem list_l0 (n : Nat) (hn : n < 1000) : ∀ (d k i a : Nat) (o : List Int), i + d = n → d < k → o.length = i → a < 18446744073709551616 → bodkinref02_list.l0 k n a o i = some (o ++ bitsL d a)
  | 0, k, i, a, o, h, hk, _, _ => by
    obtain ⟨k, rfl⟩ : ∃ m, k = m + 1 := ⟨k - 1, by omega⟩
    simp only [bodkinref02_list.l0]
    rw [if_neg (by omega)]
    simp [bitsL]
  | d + 1, k, i, a, o, h, hk, ho, ha => by
    obtain ⟨k, rfl⟩ : ∃ m, k = m + 1 := ⟨k - 1, by omega⟩
    have ih := list_l0 n hn d k (i + 1) (a / 2) (o ++ [((a % 2 : Nat) : Int)]) (by omega) (by omega) (by simp [ho]) (by omega)
    have e1 : IntKind.u64.wrap (Int.tdiv (a : Int) 2) = ((a / 2 : Nat) : Int) := by
      rw [show ((2 : Int)) = ((2 : Nat) : Int) from rfl, tdiv_nat, wu]; omega
    have e2 : wrap64 ((i : Int) + 1) = ((i + 1 : Nat) : Int) := by rw [w64_id (by omega) (by omega)]; rfl
    have e3 : Int.tmod (a : Int) 2 = ((a % 2 : Nat) : Int) := by rw [show ((2 : Int)) = ((2 : Nat) : Int) from rfl, tmod_nat]
    simp only [bodkinref02_list.l0]
    rw [if_pos (by omega), if_pos (by omega), e1, e2, e3, ih, bitsL_succ, List.append_assoc]
    rfl
theorem list_f (n a k : Nat) (hn : n < 1000) (ha : a < 18446744073709551616) (hk : n < k) : bodkinref02_list.f k n a = some (bitsL n a) := by
  have := list_l0 n hn n k 0 a [] (by omega) hk rfl ha
  rw [List.nil_append] at this
  exact this
def val : List Int → Int
  | [] => 0
  | b :: l => b + 2 * val l
def B01 (l : List Int) : Prop := ∀ b ∈ l, b = 0 ∨ b = 1
theorem B01.tail {b : Int} {l : List Int} (h : B01 (b :: l)) : B01 l := fun x hx => h x (List.mem_cons_of_mem _ hx)
theorem val_bound : ∀ (l : List Int), B01 l → 0 ≤ val l ∧ val l < ((2 ^ l.length : Nat) : Int)
  | [], _ => by simp [val]
  | b :: l, h => by
    have ih := val_bound l h.tail
    have hb := h b List.mem_cons_self
    simp only [val, List.length_cons, Nat.pow_succ]
    generalize 2 ^ l.length = p at *
    omega
theorem B01.drop {l : List Int} (h : B01 l) (i : Nat) : B01 (l.drop i) := fun x hx => h x (List.mem_of_mem_drop hx)
theorem rd_nat (l : List Int) (i : Nat) (hi : i < l.length) : rd l (i : Int) = l[i] := by simp [rd, hi]
theorem of_l0 (l : List Int) (hb : B01 l) (hl : l.length ≤ 64) : ∀ (i k : Nat), i ≤ l.length → i < k → bodkinref02_of.l0 k l (val (l.drop i)) ((i : Int) - 1) = some (val l)
  | 0, k, _, hk => by
    obtain ⟨k, rfl⟩ : ∃ m, k = m + 1 := ⟨k - 1, by omega⟩
    simp only [bodkinref02_of.l0]
    rw [if_neg (by omega)]
    simp
  | i + 1, k, hi, hk => by
    obtain ⟨k, rfl⟩ : ∃ m, k = m + 1 := ⟨k - 1, by omega⟩
    have ih := of_l0 l hb hl i k (by omega) (by omega)
    have hd : l.drop i = l[i] :: l.drop (i + 1) := List.drop_eq_getElem_cons (by omega)
    have h1 := val_bound _ (hb.drop i)
    rw [hd] at h1 ih
    simp only [val] at h1 ih
    have h2 := val_bound _ (hb.drop (i + 1))
    have hlen : (l[i] :: l.drop (i + 1)).length ≤ 64 := by rw [← hd, List.length_drop]; omega
    have hp := two_pow_le hlen
    have h3 : (2 : Nat) ^ 64 = 18446744073709551616 := rfl
    have hbi := hb l[i] (List.getElem_mem _)
    have e1 : IntKind.u64.wrap ((IntKind.u64.wrap (val (l.drop (i + 1)) * 2)) + l[i]) = l[i] + 2 * val (l.drop (i + 1)) := by
      rw [h3] at hp
      rw [wu_id (n := val (l.drop (i + 1)) * 2) (by omega) (by omega), wu_id (by omega) (by omega)]; omega
    have e2 : ((i + 1 : Nat) : Int) - 1 = (i : Int) := by omega
    have e3 : wrap64 ((i : Int) - 1) = (i : Int) - 1 := w64_id (by omega) (by omega)
    simp only [bodkinref02_of.l0]
    rw [e2, if_pos (by omega), if_pos (by omega), if_pos (by omega), rd_nat l i (by omega), e1, e3]
    exact ih
theorem of_f (l : List Int) (hb : B01 l) (hl : l.length ≤ 64) (k : Nat) (hk : l.length < k) : bodkinref02_of.f k l = some (val l) := by
  unfold bodkinref02_of.f
  rw [w64_id (by omega) (by omega)]
  have := of_l0 l hb hl l.length k (Nat.le_refl _) hk
  rw [List.drop_length] at this
  exact this
theorem val_bitsL : ∀ (n a : Nat), val (bitsL n a) = ((a % 2 ^ n : Nat) : Int)
  | 0, a => by simp [bitsL, val, Nat.mod_one]
  | n + 1, a => by
    rw [bitsL_succ]
    simp only [val]
    rw [val_bitsL n (a / 2), Nat.pow_succ, Nat.mul_comm (2 ^ n) 2, Nat.mod_mul]
    omega
theorem val_of_bits (n : Nat) (g : Nat → Nat) (x : Nat) (hx : x < 2 ^ n) (h : ∀ i, i < n → g i = x / 2 ^ i % 2) : val ((List.range n).map fun i => ((g i : Nat) : Int)) = (x : Int) := by
  have e : ((List.range n).map fun i => ((g i : Nat) : Int)) = bitsL n x := by
    apply List.map_congr_left
    intro i hi
    rw [h i (List.mem_range.1 hi)]
  rw [e, val_bitsL, Nat.mod_eq_of_lt hx]
def sg (n a : Nat) : Int := if a / 2 ^ (n - 1) % 2 = 1 then ((a % 2 ^ n : Nat) : Int) - ((2 ^ n : Nat) : Int) else ((a % 2 ^ n : Nat) : Int)
theorem right_f (n : Nat) (h : n = 8 ∨ n = 16 ∨ n = 32 ∨ n = 64) : bodkinref02_Right.f n = some true := by
  rcases h with rfl | rfl | rfl | rfl <;> rfl
theorem mod_bit {n a : Nat} (hn : 0 < n) : (a % 2 ^ n) / 2 ^ (n - 1) % 2 = a / 2 ^ (n - 1) % 2 := by
  obtain ⟨m, rfl⟩ : ∃ m, n = m + 1 := ⟨n - 1, by omega⟩
  rw [Nat.add_sub_cancel, Nat.pow_succ, Nat.mod_mul_right_div_self]
  omega
theorem low_of_bit {n a : Nat} (hn : 0 < n) : (a / 2 ^ (n - 1) % 2 = 1 → 2 ^ (n - 1) ≤ a % 2 ^ n) ∧ (¬ a / 2 ^ (n - 1) % 2 = 1 → a % 2 ^ n < 2 ^ (n - 1)) := by
  obtain ⟨m, rfl⟩ : ∃ m, n = m + 1 := ⟨n - 1, by omega⟩
  rw [Nat.add_sub_cancel, Nat.pow_succ, Nat.mod_mul]
  have hp : 0 < 2 ^ m := Nat.two_pow_pos m
  have h1 := Nat.mod_lt a hp
  have h2 := Nat.mod_lt (a / 2 ^ m) (show 0 < 2 by omega)
  generalize a / 2 ^ m % 2 = c at *
  generalize 2 ^ m = p at *
  constructor
  · intro h; subst h; omega
  · intro h
    obtain rfl : c = 0 := by omega
    omega
theorem signed_f (n a k : Nat) (h : n = 8 ∨ n = 16 ∨ n = 32 ∨ n = 64) (ha : a < 18446744073709551616) (hk : 70 < k) : bodkinref02_Signed.f k n a = some (sg n a) := by
  have hn : 0 < n ∧ n ≤ 64 := by omega
  have hm := Nat.mod_lt a (Nat.two_pow_pos n)
  have hp := two_pow_le hn.2
  have h64 : (2 : Nat) ^ 64 = 18446744073709551616 := rfl
  have hb := low_of_bit (n := n) (a := a) hn.1
  have hh : 2 ^ n = 2 * 2 ^ (n - 1) := by
    obtain ⟨m, rfl⟩ : ∃ m, n = m + 1 := ⟨n - 1, by omega⟩
    rw [Nat.add_sub_cancel, Nat.pow_succ, Nat.mul_comm]
  unfold bodkinref02_Signed.f
  rw [right_f n h, Option.bind_some, if_pos rfl, cut_f n a k hn.2 ha (by omega), Option.bind_some, w64_id (by omega) (by omega), show (n : Int) - 1 = ((n - 1 : Nat) : Int) by omega, bit_f (n - 1) _ k (by omega) (by omega) (by omega), Option.bind_some, mod_bit hn.1]
  unfold sg
  by_cases c : a / 2 ^ (n - 1) % 2 = 1
  · rw [if_pos c, if_pos (by omega)]
    have hc := hb.1 c
    generalize hx : a % 2 ^ n = x at *
    have e1 : IntKind.u64.wrap (-(x : Int)) = ((18446744073709551616 - x : Nat) : Int) := by rw [wu]; omega
    have e2 : (18446744073709551616 - x) % 2 ^ n = 2 ^ n - x := by
      have hd : 2 ^ n ∣ 18446744073709551616 := by rw [← h64]; exact Nat.pow_dvd_pow 2 hn.2
      obtain ⟨q, hq⟩ := hd
      have hq0 : 0 < q := by
        rcases Nat.eq_zero_or_pos q with rfl | h0
        · simp at hq
        · exact h0
      obtain ⟨r, rfl⟩ : ∃ r, q = r + 1 := ⟨q - 1, by omega⟩
      rw [hq, Nat.mul_add, Nat.mul_one, Nat.add_sub_assoc (by omega), Nat.mul_add_mod]
      exact Nat.mod_eq_of_lt (by omega)
    rw [e1, cut_f n _ k hn.2 (by omega) (by omega), Option.bind_some, e2]
    generalize 2 ^ n = p at *
    generalize 2 ^ (n - 1) = q at *
    rw [wu_id (by omega) (by omega)]
    have g1 : wrap64 (((p - x : Nat) : Int) - 1) = ((p - x : Nat) : Int) - 1 := w64_id (by omega) (by omega)
    rw [g1]
    have g2 : wrap64 (-(((p - x : Nat) : Int) - 1)) = -(((p - x : Nat) : Int) - 1) := w64_id (by omega) (by omega)
    rw [g2]
    have g3 : wrap64 (-(((p - x : Nat) : Int) - 1) - 1) = -(((p - x : Nat) : Int) - 1) - 1 := w64_id (by omega) (by omega)
    rw [g3]
    congr 1
    omega
  · rw [if_neg c, if_neg (by omega)]
    have hc := hb.2 c
    rw [w64_id (by omega) (by omega)]
end Go.Proofs.YtkhhhceeoljheaaGreatDoor.Pure
namespace Go.Proofs.YtkhhhceeoljheaaGreatDoor.Pure
open Go.RowKit Go.Proofs.YtkhhhceeoljheaaGreatDoorW.PrintWords Go.Proofs.YtkhhhceeoljheaaGreatDoor.PInt
def bt (x i : Nat) : Nat := x / 2 ^ i % 2
theorem bt_test (x i : Nat) : bt x i = (x.testBit i).toNat := by
  unfold bt
  rw [Nat.testBit_eq_decide_div_mod_eq]
  by_cases h : x / 2 ^ i % 2 = 1
  · rw [h]; rfl
  · have : x / 2 ^ i % 2 = 0 := by omega
    rw [this]; rfl
theorem bitsL_bt (n a : Nat) : bitsL n a = (List.range n).map fun i => ((bt a i : Nat) : Int) := rfl
theorem rd_map (n : Nat) (g : Nat → Nat) (i : Nat) (hi : i < n) : rd ((List.range n).map fun j => ((g j : Nat) : Int)) (i : Int) = ((g i : Nat) : Int) := by
  rw [rd_nat _ i (by simpa using hi)]
  simp
theorem rd_bits (n a i : Nat) (hi : i < n) : rd (bitsL n a) (i : Int) = ((bt a i : Nat) : Int) := rd_map n (bt a) i hi
theorem set_map (n : Nat) (g : Nat → Nat) (i : Nat) (v : Int) (u : Nat) (hv : v = (u : Int)) : ((List.range n).map fun j => ((g j : Nat) : Int)).set i v = (List.range n).map fun j => (((if j = i then u else g j) : Nat) : Int) := by
  subst hv
  apply List.ext_getElem
  · simp
  · intro j h1 h2
    rw [List.getElem_set]
    simp only [List.getElem_map, List.getElem_range]
    by_cases c : i = j
    · rw [if_pos c, if_pos c.symm]
    · rw [if_neg c, if_neg (fun h => c h.symm)]
theorem of_map (n : Nat) (g : Nat → Nat) (x k : Nat) (hn : n ≤ 64) (hk : n < k) (hx : x < 2 ^ n) (h : ∀ i, i < n → g i = bt x i) : bodkinref02_of.f k ((List.range n).map fun j => ((g j : Nat) : Int)) = some (x : Int) := by
  rw [of_f _ _ (by simpa using hn) _ (by simpa using hk), val_of_bits n g x hx h]
  intro b hb
  obtain ⟨i, hi, rfl⟩ := List.mem_map.1 hb
  rw [h i (List.mem_range.1 hi)]
  unfold bt
  omega
theorem quo_l0 (b a : Nat) (hb : 0 < b) (hb' : b < 18446744073709551616) (ha : a < 18446744073709551616) : ∀ (i k q r : Nat), i ≤ 64 → i < k → a / 2 ^ i = b * q + r → r < b →
    bodkinref02_quo.l0 k b q r (bitsL 64 a) ((i : Int) - 1) = some (((a / b : Nat) : Int), ((a % b : Nat) : Int))
  | 0, k, q, r, _, hk, h, hr => by
    obtain ⟨k, rfl⟩ : ∃ m, k = m + 1 := ⟨k - 1, by omega⟩
    simp only [bodkinref02_quo.l0]
    rw [if_neg (by omega)]
    have := (Nat.div_mod_unique hb (a := a) (c := r) (d := q)).2 ⟨by simp at h; omega, hr⟩
    rw [this.1, this.2]
  | i + 1, k, q, r, hi, hk, h, hr => by
    obtain ⟨k, rfl⟩ : ∃ m, k = m + 1 := ⟨k - 1, by omega⟩
    have e2 : ((i + 1 : Nat) : Int) - 1 = (i : Int) := by omega
    have e3 : wrap64 ((i : Int) - 1) = (i : Int) - 1 := w64_id (by omega) (by omega)
    have hd : a / 2 ^ i = 2 * (a / 2 ^ (i + 1)) + bt a i := by
      unfold bt; rw [Nat.pow_succ, ← Nat.div_div_eq_div_mul]; omega
    have hbt : bt a i < 2 := by unfold bt; omega
    have hq : q ≤ a / 2 ^ (i + 1) := by
      have : q ≤ b * q := Nat.le_mul_of_pos_left _ hb
      omega
    have hq2 : a / 2 ^ (i + 1) < 9223372036854775808 := by
      rw [Nat.pow_succ, Nat.mul_comm, ← Nat.div_div_eq_div_mul]
      have := Nat.div_le_self (a / 2) (2 ^ i)
      omega
    simp only [bodkinref02_quo.l0]
    rw [e2, if_pos (by omega), if_pos (by omega), if_pos (by rw [bitsL_length]; omega), rd_bits 64 a i (by omega), e3]
    rw [h] at hd
    have hd' : a / 2 ^ i = b * (2 * q) + (2 * r + bt a i) := by rw [hd, Nat.mul_add]; rw [Nat.mul_left_comm]; omega
    have q2 : IntKind.u64.wrap ((q : Int) * 2) = ((2 * q : Nat) : Int) := by rw [wu]; omega
    by_cases c : 2 * r + bt a i ≥ b
    · have hd'' : a / 2 ^ i = b * (2 * q + 1) + (2 * r + bt a i - b) := by rw [hd', Nat.mul_add b (2 * q) 1]; omega
      have ih := quo_l0 b a hb hb' ha i k (2 * q + 1) (2 * r + bt a i - b) (by omega) (by omega) hd'' (by omega)
      have q3 : IntKind.u64.wrap (((2 * q : Nat) : Int) + 1) = ((2 * q + 1 : Nat) : Int) := by rw [wu]; omega
      have r3 : IntKind.u64.wrap ((IntKind.u64.wrap ((IntKind.u64.wrap ((r : Int) * 2)) + (bt a i : Int))) - (b : Int)) = ((2 * r + bt a i - b : Nat) : Int) := by
        simp only [wu]; omega
      rw [q2, q3, r3]
      by_cases o : (r : Int) ≥ 9223372036854775808
      · rw [if_pos o]; exact ih
      · rw [if_neg o, if_pos (by simp only [wu]; omega)]; exact ih
    · have ih := quo_l0 b a hb hb' ha i k (2 * q) (2 * r + bt a i) (by omega) (by omega) hd' (by omega)
      have r3 : IntKind.u64.wrap ((IntKind.u64.wrap ((r : Int) * 2)) + (bt a i : Int)) = ((2 * r + bt a i : Nat) : Int) := by
        simp only [wu]; omega
      rw [if_neg (by omega), q2, r3, if_neg (by omega)]
      exact ih
theorem quo_f (b a k : Nat) (hb : 0 < b) (hb' : b < 18446744073709551616) (ha : a < 18446744073709551616) (hk : 64 < k) : bodkinref02_quo.f k a b = some (((a / b : Nat) : Int), ((a % b : Nat) : Int)) := by
  unfold bodkinref02_quo.f
  rw [show (64 : Int) = ((64 : Nat) : Int) from rfl, list_f 64 a k (by omega) ha hk, Option.bind_some]
  exact quo_l0 b a hb hb' ha 64 k 0 0 (by omega) hk (by simp; omega) hb
theorem size_f (x : Int) (h0 : -9223372036854775808 ≤ x) (h1 : x < 9223372036854775808) : bodkinref02_size.f x = some ((x.natAbs : Nat) : Int) := by
  unfold bodkinref02_size.f
  split
  · rw [w64_id (n := x + 1) (by omega) (by omega), w64_id (by omega) (by omega)]
    simp only [wu]
    congr 1
    omega
  · rw [wu]
    congr 1
    omega
theorem sg_bound (n a : Nat) (h : n = 8 ∨ n = 16 ∨ n = 32 ∨ n = 64) : -((2 ^ (n - 1) : Nat) : Int) ≤ sg n a ∧ sg n a < ((2 ^ (n - 1) : Nat) : Int) := by
  have hb := low_of_bit (n := n) (a := a) (by omega)
  have hm := Nat.mod_lt a (Nat.two_pow_pos n)
  have hh : 2 ^ n = 2 * 2 ^ (n - 1) := by
    obtain ⟨m, rfl⟩ : ∃ m, n = m + 1 := ⟨n - 1, by omega⟩
    rw [Nat.add_sub_cancel, Nat.pow_succ, Nat.mul_comm]
  unfold sg
  split
  · rename_i c; have := hb.1 c; omega
  · rename_i c; have := hb.2 c; omega
def sumBit (op s : Nat) : Nat := if op = 8 then (if s = 2 then 1 else 0) else if op = 9 then (if s > 0 then 1 else 0) else (if s = 1 then 1 else 0)
theorem bt_lt (a i : Nat) : bt a i < 2 := by unfold bt; omega
theorem set_set_map (l : List Int) (i : Nat) (u v : Int) : (l.set i u).set i v = l.set i v := List.set_set ..
theorem bin_l1 (n a b op : Nat) (hn : n ≤ 64) (hop : op = 8 ∨ op = 9 ∨ op = 10) (x : Nat) (hx : x < 2 ^ n) (hv : ∀ i, i < n → sumBit op (bt a i + bt b i) = bt x i) : ∀ (d k i : Nat), i + d = n → d + n + 1 < k →
    bodkinref02_Bin.l1 k n op ((List.range n).map fun j => (((if j < i then sumBit op (bt a j + bt b j) else bt a j) : Nat) : Int)) (bitsL n b) i = some ((x : Int), 0)
  | 0, k, i, h, hk => by
    obtain ⟨k, rfl⟩ : ∃ m, k = m + 1 := ⟨k - 1, by omega⟩
    obtain rfl : i = n := by omega
    simp only [bodkinref02_Bin.l1]
    rw [if_neg (by omega), of_map i _ x k hn (by omega) hx (fun j hj => by rw [if_pos hj]; exact hv j hj)]
    rfl
  | d + 1, k, i, h, hk => by
    obtain ⟨k, rfl⟩ : ∃ m, k = m + 1 := ⟨k - 1, by omega⟩
    have ih := bin_l1 n a b op hn hop x hx hv d k (i + 1) (by omega) (by omega)
    have e2 : wrap64 ((i : Int) + 1) = ((i + 1 : Nat) : Int) := by rw [w64_id (by omega) (by omega)]; rfl
    have h1 := bt_lt a i
    have h2 := bt_lt b i
    have e4 : IntKind.u64.wrap ((bt a i : Int) + (bt b i : Int)) = ((bt a i + bt b i : Nat) : Int) := by rw [wu]; omega
    have fin : ∀ u : Nat, u = sumBit op (bt a i + bt b i) → (List.range n).map (fun j => (((if j = i then u else if j < i then sumBit op (bt a j + bt b j) else bt a j) : Nat) : Int)) = (List.range n).map fun j => (((if j < i + 1 then sumBit op (bt a j + bt b j) else bt a j) : Nat) : Int) := by
      intro u hu
      apply List.map_congr_left
      intro j _
      by_cases c : j = i
      · subst c; rw [if_pos rfl, if_pos (by omega), hu]
      · rw [if_neg c]
        by_cases c2 : j < i
        · rw [if_pos c2, if_pos (by omega)]
        · rw [if_neg c2, if_neg (by omega)]
    simp only [bodkinref02_Bin.l1]
    rw [if_pos (by omega), if_pos (by omega), if_pos (by simp; omega), if_pos (by rw [bitsL_length]; omega), Option.bind_some, rd_map n _ i (by omega), rd_bits n b i (by omega), if_neg (by omega : ¬ i < i), e4, e2, Int.toNat_natCast, set_set_map, set_map n _ i 1 1 rfl, set_map n _ i 0 0 rfl]
    have s8 : op = 8 → sumBit op (bt a i + bt b i) = if bt a i + bt b i = 2 then 1 else 0 := fun h => by subst h; rfl
    have s9 : op = 9 → sumBit op (bt a i + bt b i) = if bt a i + bt b i > 0 then 1 else 0 := fun h => by subst h; rfl
    have s10 : op = 10 → sumBit op (bt a i + bt b i) = if bt a i + bt b i = 1 then 1 else 0 := fun h => by subst h; rfl
    rcases hop with rfl | rfl | rfl
    · rw [if_pos (by omega)]
      by_cases c : bt a i + bt b i = 2
      · rw [if_pos (by omega), fin 1 (by rw [s8 rfl, if_pos c])]; exact ih
      · rw [if_neg (by omega), if_neg (by omega), if_neg (by omega), fin 0 (by rw [s8 rfl, if_neg c])]; exact ih
    · rw [if_neg (by omega), if_pos (by omega)]
      by_cases c : bt a i + bt b i > 0
      · rw [if_pos (by omega), fin 1 (by rw [s9 rfl, if_pos c])]; exact ih
      · rw [if_neg (by omega), if_neg (by omega), fin 0 (by rw [s9 rfl, if_neg c])]; exact ih
    · rw [if_neg (by omega), if_neg (by omega), if_pos (by omega)]
      by_cases c : bt a i + bt b i = 1
      · rw [if_pos (by omega), fin 1 (by rw [s10 rfl, if_pos c])]; exact ih
      · rw [if_neg (by omega), fin 0 (by rw [s10 rfl, if_neg c])]; exact ih
theorem sum_and (a b i : Nat) : sumBit 8 (bt a i + bt b i) = bt (a &&& b) i := by
  simp only [bt_test, Nat.testBit_and]
  cases a.testBit i <;> cases b.testBit i <;> rfl
theorem sum_or (a b i : Nat) : sumBit 9 (bt a i + bt b i) = bt (a ||| b) i := by
  simp only [bt_test, Nat.testBit_or]
  cases a.testBit i <;> cases b.testBit i <;> rfl
theorem sum_xor (a b i : Nat) : sumBit 10 (bt a i + bt b i) = bt (a ^^^ b) i := by
  simp only [bt_test, Nat.testBit_xor]
  cases a.testBit i <;> cases b.testBit i <;> rfl
theorem mul_l0 (n a b : Nat) (hn : n = 32 ∨ n = 64) (hb : b < 2 ^ n) : ∀ (d k i : Nat), i + d = n → d + n + 2 < k →
    bodkinref02_Bin.l0 k n ((a * 2 ^ i % 18446744073709551616 : Nat) : Int) b ((a * (b % 2 ^ i) % 18446744073709551616 : Nat) : Int) i = some (((a * b % 2 ^ n : Nat) : Int), 0)
  | 0, k, i, h, hk => by
    obtain ⟨k, rfl⟩ : ∃ m, k = m + 1 := ⟨k - 1, by omega⟩
    obtain rfl : i = n := by omega
    have hm := Nat.mod_lt (a * (b % 2 ^ i)) (show 0 < 18446744073709551616 by omega)
    simp only [bodkinref02_Bin.l0]
    rw [if_neg (by omega), cut_f i _ k (by omega) hm (by omega), Option.bind_some, Nat.mod_eq_of_lt hb]
    have hd : 2 ^ i ∣ 18446744073709551616 := by rcases hn with rfl | rfl <;> decide
    rw [Nat.mod_mod_of_dvd _ hd]
  | d + 1, k, i, h, hk => by
    obtain ⟨k, rfl⟩ : ∃ m, k = m + 1 := ⟨k - 1, by omega⟩
    have ih := mul_l0 n a b hn hb d k (i + 1) (by omega) (by omega)
    have hbl : b < 18446744073709551616 := Nat.lt_of_lt_of_le hb (by rcases hn with rfl | rfl <;> decide)
    have e2 : wrap64 ((i : Int) + 1) = ((i + 1 : Nat) : Int) := by rw [w64_id (by omega) (by omega)]; rfl
    have e1 : IntKind.u64.wrap (((a * 2 ^ i % 18446744073709551616 : Nat) : Int) * 2) = ((a * 2 ^ (i + 1) % 18446744073709551616 : Nat) : Int) := by
      rw [wu, Nat.pow_succ, ← Nat.mul_assoc]
      omega
    simp only [bodkinref02_Bin.l0]
    rw [if_pos (by omega), bit_f i b k (by omega) hbl (by omega), Option.bind_some, e1, e2]
    have hs : b % 2 ^ (i + 1) = b % 2 ^ i + 2 ^ i * (b / 2 ^ i % 2) := by rw [Nat.pow_succ, Nat.mod_mul]
    have hbt := bt_lt b i
    unfold bt at hbt
    by_cases c : b / 2 ^ i % 2 = 1
    · rw [if_pos (by omega)]
      have e3 : IntKind.u64.wrap (((a * (b % 2 ^ i) % 18446744073709551616 : Nat) : Int) + ((a * 2 ^ i % 18446744073709551616 : Nat) : Int)) = ((a * (b % 2 ^ (i + 1)) % 18446744073709551616 : Nat) : Int) := by
        rw [wu, hs, c, Nat.mul_one, Nat.mul_add]
        omega
      rw [e3]; exact ih
    · rw [if_neg (by omega)]
      have e3 : b % 2 ^ (i + 1) = b % 2 ^ i := by rw [hs, show b / 2 ^ i % 2 = 0 by omega]; omega
      rw [e3] at ih
      exact ih
end Go.Proofs.YtkhhhceeoljheaaGreatDoor.Pure
namespace Go.Proofs.YtkhhhceeoljheaaGreatDoor.Pure
open Go.RowKit Go.Proofs.YtkhhhceeoljheaaGreatDoorW.PrintWords Go.Proofs.YtkhhhceeoljheaaGreatDoor.PInt
def mv (op : Int) (n a s i : Nat) : Nat :=
  if op = 11 then (if s ≤ i then bt a (i - s) else 0)
  else if op = 12 then (if i + s < n then bt a (i + s) else bt a (n - 1))
  else if op = 13 then (if i + s < n then bt a (i + s) else 0)
  else if op = 14 then bt a ((i + n - s) % n)
  else bt a ((i + s) % n)
theorem mv_fin (op : Int) (n a s i u : Nat) (hu : u = mv op n a s i) : (List.range n).map (fun j => (((if j = i then u else if j < i then mv op n a s j else 0) : Nat) : Int)) = (List.range n).map fun j => (((if j < i + 1 then mv op n a s j else 0) : Nat) : Int) := by
  apply List.map_congr_left
  intro j _
  by_cases c : j = i
  · subst c; rw [if_pos rfl, if_pos (by omega), hu]
  · rw [if_neg c]
    by_cases c2 : j < i
    · rw [if_pos c2, if_pos (by omega)]
    · rw [if_neg c2, if_neg (by omega)]
theorem mv_same (op : Int) (n a s i : Nat) (hu : 0 = mv op n a s i) : (List.range n).map (fun j => (((if j < i then mv op n a s j else 0) : Nat) : Int)) = (List.range n).map fun j => (((if j < i + 1 then mv op n a s j else 0) : Nat) : Int) := by
  apply List.map_congr_left
  intro j _
  by_cases c : j = i
  · subst c; rw [if_neg (by omega), if_pos (by omega), ← hu]
  · by_cases c2 : j < i
    · rw [if_pos c2, if_pos (by omega)]
    · rw [if_neg c2, if_neg (by omega)]
theorem tmod_n (x : Int) (z n : Nat) (h : x = (z : Int)) : Int.tmod x (n : Int) = ((z % n : Nat) : Int) := by subst h; exact tmod_nat z n
theorem moved_l0 (op : Int) (n a s : Nat) (h0 : 0 < n) (hn : n ≤ 64) (hs : s < n) (hop : op = 11 ∨ op = 12 ∨ op = 13 ∨ op = 14 ∨ op = 15) (x : Nat) (hx : x < 2 ^ n) (hv : ∀ i, i < n → mv op n a s i = bt x i) : ∀ (d k i : Nat), i + d = n → 4 * d + n + 1 < k →
    bodkinref02_moved.l0 k n op s (bitsL n a) ((List.range n).map fun j => (((if j < i then mv op n a s j else 0) : Nat) : Int)) i = some (x : Int)
  | 0, k, i, h, hk => by
    obtain ⟨k, rfl⟩ : ∃ m, k = m + 1 := ⟨k - 1, by omega⟩
    obtain rfl : i = n := by omega
    simp only [bodkinref02_moved.l0]
    rw [if_neg (by omega), of_map i _ x k hn (by omega) hx (fun j hj => by rw [if_pos hj]; exact hv j hj)]
    rfl
  | d + 1, k, i, h, hk => by
    obtain ⟨k, rfl⟩ : ∃ m, k = m + 4 := ⟨k - 4, by omega⟩
    have ih := moved_l0 op n a s h0 hn hs hop x hx hv d k (i + 1) (by omega) (by omega)
    have e2 : wrap64 ((i : Int) + 1) = ((i + 1 : Nat) : Int) := by rw [w64_id (by omega) (by omega)]; rfl
    have e3 : wrap64 ((i : Int) - (s : Int)) = (i : Int) - (s : Int) := w64_id (by omega) (by omega)
    have e4 : wrap64 ((i : Int) + (s : Int)) = ((i + s : Nat) : Int) := by rw [w64_id (by omega) (by omega)]; rfl
    have e5 : wrap64 ((n : Int) - 1) = ((n - 1 : Nat) : Int) := by rw [w64_id (by omega) (by omega)]; omega
    have hl : (bitsL n a).length = n := bitsL_length n a
    have st := set_map n (fun j => if j < i then mv op n a s j else 0) i
    rcases hop with rfl | rfl | rfl | rfl | rfl
    · simp only [bodkinref02_moved.l0, bodkinref02_moved.j1, bodkinref02_moved.j2, bodkinref02_moved.j3, Int.reduceEq, Int.reduceBEq, ↓reduceIte, Bool.false_eq_true]
      rw [if_pos (by omega), if_neg (by omega), e3, e2, Int.toNat_natCast]
      by_cases c : s ≤ i
      · rw [if_pos (by omega), if_pos (by omega), if_pos (by omega), if_pos (by omega), if_pos (by omega), if_pos (by simp; omega), show (i : Int) - (s : Int) = ((i - s : Nat) : Int) by omega, rd_bits n a _ (by omega), st _ (bt a (i - s)) rfl, mv_fin 11 n a s i (bt a (i - s)) (by unfold mv; rw [if_pos rfl, if_pos c])]
        exact ih
      · rw [if_neg (by omega), mv_same 11 n a s i (by unfold mv; rw [if_pos rfl, if_neg c])]
        exact ih
    · simp only [bodkinref02_moved.l0, bodkinref02_moved.j1, bodkinref02_moved.j2, bodkinref02_moved.j3, Int.reduceEq, Int.reduceBEq, ↓reduceIte, Bool.false_eq_true]
      rw [if_pos (by omega), if_neg (by omega), e4, e2, e5, Int.toNat_natCast]
      by_cases c : i + s < n
      · rw [if_neg (by omega), if_pos (by omega), if_pos (by omega), if_pos (by omega), if_pos (by simp; omega), rd_bits n a _ (by omega), st _ (bt a (i + s)) rfl, mv_fin 12 n a s i (bt a (i + s)) (by unfold mv; rw [if_neg (by decide), if_pos rfl, if_pos c])]
        exact ih
      · rw [if_pos (by omega), if_pos (by omega), if_pos (by omega), if_pos (by omega), if_pos (by simp; omega), rd_bits n a _ (by omega), st _ (bt a (n - 1)) rfl, mv_fin 12 n a s i (bt a (n - 1)) (by unfold mv; rw [if_neg (by decide), if_pos rfl, if_neg c])]
        exact ih
    · simp only [bodkinref02_moved.l0, bodkinref02_moved.j1, bodkinref02_moved.j2, bodkinref02_moved.j3, Int.reduceEq, Int.reduceBEq, ↓reduceIte, Bool.false_eq_true]
      rw [if_pos (by omega), if_neg (by omega), e4, e2, Int.toNat_natCast]
      by_cases c : i + s < n
      · rw [if_pos (by omega), if_pos (by omega), if_pos (by omega), if_pos (by omega), if_pos (by omega), if_pos (by simp; omega), rd_bits n a _ (by omega), st _ (bt a (i + s)) rfl, mv_fin 13 n a s i (bt a (i + s)) (by unfold mv; rw [if_neg (by decide), if_neg (by decide), if_pos rfl, if_pos c])]
        exact ih
      · rw [if_pos (by omega), if_neg (by omega), mv_same 13 n a s i (by unfold mv; rw [if_neg (by decide), if_neg (by decide), if_pos rfl, if_neg c])]
        exact ih
    · have hz : (i + n - s) % n < n := Nat.mod_lt _ h0
      simp only [bodkinref02_moved.l0, bodkinref02_moved.j1, bodkinref02_moved.j2, bodkinref02_moved.j3, Int.reduceEq, Int.reduceBEq, ↓reduceIte, Bool.false_eq_true]
      rw [if_pos (by omega), if_neg (by omega), e3, e2, Int.toNat_natCast, tmod_n _ (i + n - s) n (by rw [w64_id (by omega) (by omega)]; omega), if_pos (by omega), if_pos (by omega), if_pos (by omega), if_pos (by simp; omega), rd_bits n a _ hz, st _ (bt a ((i + n - s) % n)) rfl, mv_fin 14 n a s i (bt a ((i + n - s) % n)) (by unfold mv; rw [if_neg (by decide), if_neg (by decide), if_neg (by decide), if_pos rfl])]
      exact ih
    · have hz : (i + s) % n < n := Nat.mod_lt _ h0
      simp only [bodkinref02_moved.l0, bodkinref02_moved.j1, bodkinref02_moved.j2, bodkinref02_moved.j3, Int.reduceEq, Int.reduceBEq, ↓reduceIte, Bool.false_eq_true]
      rw [if_pos (by omega), if_neg (by omega), e4, e2, Int.toNat_natCast, tmod_n _ (i + s + n) n (by rw [w64_id (by omega) (by omega)]; omega), Nat.add_mod_right, if_pos (by omega), if_pos (by omega), if_pos (by omega), if_pos (by simp; omega), rd_bits n a _ hz, st _ (bt a ((i + s) % n)) rfl, mv_fin 15 n a s i (bt a ((i + s) % n)) (by unfold mv; rw [if_neg (by decide), if_neg (by decide), if_neg (by decide), if_neg (by decide)])]
      exact ih
theorem moved_f (op : Int) (n a s k : Nat) (h0 : 0 < n) (hn : n ≤ 64) (hs : s < n) (ha : a < 18446744073709551616) (hop : op = 11 ∨ op = 12 ∨ op = 13 ∨ op = 14 ∨ op = 15) (x : Nat) (hx : x < 2 ^ n) (hv : ∀ i, i < n → mv op n a s i = bt x i) (hk : 400 < k) : bodkinref02_moved.f k n op a s = some (x : Int) := by
  unfold bodkinref02_moved.f
  rw [list_f n a k (by omega) ha (by omega), Option.bind_some, if_pos (by omega), Int.toNat_natCast, if_pos (by omega)]
  have := moved_l0 op n a s h0 hn hs hop x hx hv n k 0 (by omega) (by omega)
  rw [← this]
  congr 1
  simp only [Nat.not_lt_zero, if_false]
  apply List.ext_getElem <;> simp
theorem no_bit (n a i : Nat) (ha : a < 2 ^ n) (hi : n ≤ i) : a.testBit i = false := Nat.testBit_lt_two_pow (Nat.lt_of_lt_of_le ha (two_pow_le hi))
theorem mv11 (n a s : Nat) (i : Nat) (hi : i < n) : mv 11 n a s i = bt (a * 2 ^ s % 2 ^ n) i := by
  unfold mv
  rw [if_pos rfl]
  simp only [bt_test, Nat.testBit_mod_two_pow, ← Nat.shiftLeft_eq, Nat.testBit_shiftLeft, hi, decide_true, Bool.true_and]
  by_cases c : s ≤ i
  · simp [c, bt_test]
  · simp [c]
theorem mv13 (n a s : Nat) (ha : a < 2 ^ n) (i : Nat) : mv 13 n a s i = bt (a / 2 ^ s) i := by
  unfold mv
  rw [if_neg (by decide), if_neg (by decide), if_pos rfl]
  simp only [bt_test, ← Nat.shiftRight_eq_div_pow, Nat.testBit_shiftRight]
  rw [Nat.add_comm s i]
  by_cases c : i + s < n
  · rw [if_pos c]
  · rw [if_neg c, no_bit n a _ ha (by omega)]; rfl
def rot (n a s : Nat) : Nat := a * 2 ^ s % 2 ^ n + a / 2 ^ (n - s)
theorem rot_lt (n a s : Nat) (hs : s ≤ n) (ha : a < 2 ^ n) : rot n a s = (a * 2 ^ s % 2 ^ n) ||| (a / 2 ^ (n - s)) := by
  unfold rot
  have h1 : a * 2 ^ s % 2 ^ n = 2 ^ s * (a % 2 ^ (n - s)) := by
    have : 2 ^ n = 2 ^ s * 2 ^ (n - s) := by rw [← Nat.pow_add]; congr 1; omega
    rw [this, Nat.mul_comm a, Nat.mul_mod_mul_left]
  have h2 : a / 2 ^ (n - s) < 2 ^ s := by
    apply Nat.div_lt_of_lt_mul
    rw [← Nat.pow_add]
    rw [show n - s + s = n by omega]; exact ha
  rw [h1, Nat.two_pow_add_eq_or_of_lt h2]
theorem rot_lt2 (n a s : Nat) (hs : s ≤ n) (ha : a < 2 ^ n) : rot n a s < 2 ^ n := by
  rw [rot_lt n a s hs ha]
  apply Nat.or_lt_two_pow (Nat.mod_lt _ (Nat.two_pow_pos n))
  exact Nat.lt_of_le_of_lt (Nat.div_le_self _ _) ha
theorem rot_bit (n a s i : Nat) (hs : s ≤ n) (ha : a < 2 ^ n) (hi : i < n) : (rot n a s).testBit i = if s ≤ i then a.testBit (i - s) else a.testBit (i + n - s) := by
  rw [rot_lt n a s hs ha]
  simp only [Nat.testBit_or, Nat.testBit_mod_two_pow, ← Nat.shiftLeft_eq, Nat.testBit_shiftLeft, hi, decide_true, Bool.true_and, ← Nat.shiftRight_eq_div_pow, Nat.testBit_shiftRight]
  by_cases c : s ≤ i
  · rw [if_pos c, no_bit n a (n - s + i) ha (by omega)]; simp [c]
  · rw [if_neg c, show i + n - s = n - s + i by omega]; simp [c]
theorem mv14 (n a s : Nat) (hs : s < n) (ha : a < 2 ^ n) (i : Nat) (hi : i < n) : mv 14 n a s i = bt (rot n a s) i := by
  unfold mv
  rw [if_neg (by decide), if_neg (by decide), if_neg (by decide), if_pos rfl]
  simp only [bt_test]
  rw [rot_bit n a s i (by omega) ha hi]
  by_cases c : s ≤ i
  · rw [if_pos c, show i + n - s = (i - s) + n by omega, Nat.add_mod_right, Nat.mod_eq_of_lt (by omega)]
  · rw [if_neg c, Nat.mod_eq_of_lt (by omega)]
theorem mv15 (n a s : Nat) (hs : s < n) (ha : a < 2 ^ n) (i : Nat) (hi : i < n) : mv 15 n a s i = bt (rot n a ((n - s) % n)) i := by
  unfold mv
  rw [if_neg (by decide), if_neg (by decide), if_neg (by decide), if_neg (by decide)]
  simp only [bt_test]
  have hm : (n - s) % n ≤ n := Nat.le_of_lt (Nat.mod_lt _ (by omega))
  rw [rot_bit n a _ i hm ha hi]
  by_cases z : s = 0
  · subst z
    rw [Nat.sub_zero, Nat.mod_self, if_pos (by omega), Nat.add_zero, Nat.mod_eq_of_lt hi]; rfl
  · rw [Nat.mod_eq_of_lt (show n - s < n by omega)]
    by_cases c : n - s ≤ i
    · rw [if_pos c, show i + s = (i - (n - s)) + n by omega, Nat.add_mod_right, Nat.mod_eq_of_lt (by omega)]
    · rw [if_neg c, Nat.mod_eq_of_lt (by omega)]
      congr 2; omega
def sar (n a s : Nat) : Nat := if a.testBit (n - 1) = true then 2 ^ (n - s) * (2 ^ s - 1) + a / 2 ^ s else a / 2 ^ s
theorem sar_lt (n a s : Nat) (hs : s < n) (ha : a < 2 ^ n) : sar n a s < 2 ^ n := by
  unfold sar
  have h2 : a / 2 ^ s < 2 ^ (n - s) := by
    apply Nat.div_lt_of_lt_mul
    rw [← Nat.pow_add, show s + (n - s) = n by omega]; exact ha
  have h3 : 2 ^ n = 2 ^ (n - s) * 2 ^ s := by rw [← Nat.pow_add]; congr 1; omega
  have h4 := Nat.two_pow_pos s
  split
  · have : 2 ^ (n - s) * (2 ^ s - 1) + 2 ^ (n - s) = 2 ^ n := by rw [h3, ← Nat.mul_succ]; congr 1; omega
    omega
  · exact Nat.lt_of_le_of_lt (Nat.div_le_self _ _) ha
theorem mv12 (n a s : Nat) (hs : s < n) (ha : a < 2 ^ n) (i : Nat) (hi : i < n) : mv 12 n a s i = bt (sar n a s) i := by
  unfold mv sar
  rw [if_neg (by decide), if_pos rfl]
  have h2 : a / 2 ^ s < 2 ^ (n - s) := by
    apply Nat.div_lt_of_lt_mul
    rw [← Nat.pow_add, show s + (n - s) = n by omega]; exact ha
  simp only [bt_test]
  by_cases t : a.testBit (n - 1) = true
  · rw [if_pos t, Nat.testBit_two_pow_mul_add _ h2]
    by_cases c : i + s < n
    · rw [if_pos c, if_pos (by omega), ← Nat.shiftRight_eq_div_pow, Nat.testBit_shiftRight, Nat.add_comm]
    · rw [if_neg c, if_neg (by omega), t, Nat.testBit_two_pow_sub_one, decide_eq_true (by omega)]
  · have t' : a.testBit (n - 1) = false := by simpa using t
    rw [if_neg t, ← Nat.shiftRight_eq_div_pow, Nat.testBit_shiftRight, Nat.add_comm s i]
    by_cases c : i + s < n
    · rw [if_pos c]
    · rw [if_neg c, t', no_bit n a _ ha (by omega)]
end Go.Proofs.YtkhhhceeoljheaaGreatDoor.Pure
namespace Go.Proofs.YtkhhhceeoljheaaGreatDoor.Pure
open Go.RowKit Go.Proofs.YtkhhhceeoljheaaGreatDoorW.PrintWords Go.Proofs.YtkhhhceeoljheaaGreatDoor.PInt
theorem cut_int (n : Nat) (z : Int) (k : Nat) (hn : n = 32 ∨ n = 64) (hk : 70 < k) : bodkinref02_Cut.f k n (IntKind.u64.wrap z) = some (z % ((2 ^ n : Nat) : Int)) := by
  have h : IntKind.u64.wrap z = (((z % 18446744073709551616).toNat : Nat) : Int) := by rw [wu]; omega
  rw [h, cut_f n _ k (by omega) (by omega) (by omega)]
  congr 1
  rcases hn with rfl | rfl
  · show (((z % 18446744073709551616).toNat % 4294967296 : Nat) : Int) = z % ((4294967296 : Nat) : Int); omega
  · show (((z % 18446744073709551616).toNat % 18446744073709551616 : Nat) : Int) = z % ((18446744073709551616 : Nat) : Int); omega
theorem sign_cases (x : Int) : (0 ≤ x ∧ ∃ m : Nat, x = m ∧ x.natAbs = m) ∨ (x < 0 ∧ ∃ m : Nat, 0 < m ∧ x = -(m : Int) ∧ x.natAbs = m) := by
  by_cases h : 0 ≤ x
  · exact .inl ⟨h, x.toNat, by omega, by omega⟩
  · exact .inr ⟨by omega, (-x).toNat, by omega, by omega, by omega⟩
theorem tmod_abs (x y : Int) : Int.tmod x y = if x < 0 then -((x.natAbs % y.natAbs : Nat) : Int) else ((x.natAbs % y.natAbs : Nat) : Int) := by
  rcases sign_cases x with ⟨hx, m, rfl, _⟩ | ⟨hx, m, _, rfl, _⟩ <;> rcases sign_cases y with ⟨hy, l, rfl, _⟩ | ⟨hy, l, _, rfl, _⟩
  · rw [if_neg (by omega), tmod_nat]; simp
  · rw [if_neg (by omega), Int.tmod_neg, tmod_nat]; simp
  · rw [if_pos hx, Int.neg_tmod, tmod_nat]; simp
  · rw [if_pos hx, Int.neg_tmod, Int.tmod_neg, tmod_nat]; simp
theorem tdiv_abs (x y : Int) (hy0 : y ≠ 0) : Int.tdiv x y = if (decide (x < 0) != decide (y < 0)) = true then -((x.natAbs / y.natAbs : Nat) : Int) else ((x.natAbs / y.natAbs : Nat) : Int) := by
  rcases sign_cases x with ⟨hx, m, rfl, _⟩ | ⟨hx, m, _, rfl, _⟩ <;> rcases sign_cases y with ⟨hy, l, rfl, _⟩ | ⟨hy, l, _, rfl, _⟩
  · rw [decide_eq_false (by omega), decide_eq_false (by omega), tdiv_nat]; simp
  · rw [decide_eq_false (by omega), decide_eq_true (by omega), Int.tdiv_neg, tdiv_nat]; simp
  · rw [decide_eq_true (by omega), decide_eq_false (by omega), Int.neg_tdiv, tdiv_nat]; simp
  · rw [decide_eq_true (by omega), decide_eq_true (by omega), Int.neg_tdiv, Int.tdiv_neg, tdiv_nat]; simp
def divV (n : Nat) (op : Int) (a b : Nat) : Int × Int :=
  if b = 0 then (0, 41)
  else if op = 5 then (((a / b : Nat) : Int), 0)
  else if op = 7 then (((a % b : Nat) : Int), 0)
  else if op = 6 then (Int.tmod (sg n a) (sg n b) % ((2 ^ n : Nat) : Int), 0)
  else if sg n b = -1 ∧ a = 2 ^ (n - 1) then (0, 42)
  else (Int.tdiv (sg n a) (sg n b) % ((2 ^ n : Nat) : Int), 0)
theorem sg_small (n a : Nat) (h : n = 32 ∨ n = 64) (ha : a < 2 ^ n) : (a < 2 ^ (n - 1) ∧ sg n a = a) ∨ (2 ^ (n - 1) ≤ a ∧ sg n a = (a : Int) - ((2 ^ n : Nat) : Int)) := by
  have hb := low_of_bit (n := n) (a := a) (by omega)
  unfold sg
  rw [Nat.mod_eq_of_lt ha] at *
  by_cases c : a / 2 ^ (n - 1) % 2 = 1
  · exact .inr ⟨hb.1 c, by rw [if_pos c]⟩
  · exact .inl ⟨hb.2 c, by rw [if_neg c]⟩
theorem ref_divided (n : Nat) (op : Int) (a b k : Nat) (hn : n = 32 ∨ n = 64) (ha : a < 2 ^ n) (hb : b < 2 ^ n) (hop : op = 4 ∨ op = 5 ∨ op = 6 ∨ op = 7) (hk : 500 < k) :
    bodkinref02_divided.f k n op a b (sg n a) (sg n b) = some (divV n op a b) := by
  obtain ⟨k, rfl⟩ : ∃ m, k = m + 1 := ⟨k - 1, by omega⟩
  have hp : 2 ^ n ≤ 18446744073709551616 := by rcases hn with rfl | rfl <;> decide
  have hx := sg_bound n a (by omega)
  have hy := sg_bound n b (by omega)
  have hq : (2 ^ (n - 1) : Nat) ≤ 9223372036854775808 := by rcases hn with rfl | rfl <;> decide
  have sx := size_f (sg n a) (by omega) (by omega)
  have sy := size_f (sg n b) (by omega) (by omega)
  have cx := sg_small n a hn ha
  have cy := sg_small n b hn hb
  have h2 : 2 ^ n = 2 * 2 ^ (n - 1) := by rcases hn with rfl | rfl <;> decide
  unfold bodkinref02_divided.f divV
  by_cases hb0 : b = 0
  · subst hb0
    rw [if_pos (by omega), if_pos rfl]
  · rw [if_neg (by omega), if_neg hb0]
    have hyn : sg n b ≠ 0 := by
      rcases cy with ⟨_, e⟩ | ⟨_, e⟩ <;> rw [e] <;> omega
    have hyl : (sg n b).natAbs < 18446744073709551616 := by omega
    have hxl : (sg n a).natAbs < 18446744073709551616 := by omega
    have q2 := quo_f (sg n b).natAbs (sg n a).natAbs k (by omega) hyl hxl (by omega)
    rcases hop with rfl | rfl | rfl | rfl
    · simp only [bodkinref02_divided.j0, Int.reduceEq, Int.reduceBEq, ↓reduceIte, Bool.false_eq_true]
      rw [sx, Option.bind_some, sy, Option.bind_some, q2, Option.bind_some, tdiv_abs _ _ hyn]
      dsimp only
      have hle : (sg n a).natAbs / (sg n b).natAbs ≤ (sg n a).natAbs := Nat.div_le_self _ _
      have hle2 : 2 ≤ (sg n b).natAbs → (sg n a).natAbs / (sg n b).natAbs ≤ (sg n a).natAbs / 2 := fun h => Nat.div_le_div_left h (by omega)
      have hle1 : (sg n b).natAbs = 1 → (sg n a).natAbs / (sg n b).natAbs = (sg n a).natAbs := fun h => by rw [h, Nat.div_one]
      have hpos := Nat.two_pow_pos (n - 1)
      by_cases c : (decide (sg n a < 0) != decide (sg n b < 0)) = true
      · rw [if_pos c, if_pos c, cut_int n _ k hn (by omega), Option.bind_some, if_neg]
        rintro ⟨e1, e2⟩
        have : sg n a < 0 := by rcases cx with ⟨_, e⟩ | ⟨_, e⟩ <;> omega
        rw [decide_eq_true this, decide_eq_true (by omega)] at c
        cases c
      · rw [if_neg c, if_neg c, w64_id (by omega) (by omega), show (n : Int) - 1 = ((n - 1 : Nat) : Int) by omega, bit_f (n - 1) _ k (by omega) (by omega) (by omega), Option.bind_some]
        generalize hqq : (sg n a).natAbs / (sg n b).natAbs = q at *
        have hql : q ≤ 2 ^ (n - 1) := by omega
        by_cases e : q = 2 ^ (n - 1)
        · have e1 : q / 2 ^ (n - 1) % 2 = 1 := by rw [e, Nat.div_self hpos]
          rw [if_pos (by omega), if_pos]
          have hy1 : (sg n b).natAbs = 1 := by
            by_cases h : 2 ≤ (sg n b).natAbs
            · have := hle2 h; omega
            · omega
          have hx1 := hle1 hy1
          have hxn : sg n a < 0 := by omega
          have hyn' : sg n b < 0 := by
            by_cases h : sg n b < 0
            · exact h
            · rw [decide_eq_true hxn, decide_eq_false h] at c
              exact absurd rfl c
          refine ⟨by omega, ?_⟩
          rcases cx with ⟨_, e⟩ | ⟨_, e⟩ <;> omega
        · have e1 : q / 2 ^ (n - 1) = 0 := Nat.div_eq_of_lt (by omega)
          rw [if_neg (by omega), if_neg]
          · congr 2
            exact (Int.emod_eq_of_lt (by omega) (by omega)).symm
          · rintro ⟨h1, h3⟩
            have := hle1 (by omega)
            rcases cx with ⟨_, e⟩ | ⟨_, e⟩ <;> omega
    · simp only [bodkinref02_divided.j0, Int.reduceEq, Int.reduceBEq, ↓reduceIte, Bool.false_eq_true]
      rw [quo_f b a k (by omega) (by omega) (by omega) (by omega), Option.bind_some]
    · simp only [bodkinref02_divided.j0, Int.reduceEq, Int.reduceBEq, ↓reduceIte, Bool.false_eq_true]
      rw [sx, Option.bind_some, sy, Option.bind_some, q2, Option.bind_some, tmod_abs]
      dsimp only
      by_cases c : sg n a < 0
      · rw [if_pos c, if_pos c, cut_int n _ k hn (by omega), Option.bind_some]
      · rw [if_neg c, if_neg c]
        have := Nat.mod_le (sg n a).natAbs (sg n b).natAbs
        have e := cut_int n (((sg n a).natAbs % (sg n b).natAbs : Nat) : Int) k hn (by omega)
        rw [wu_id (by omega) (by omega)] at e
        rw [e, Option.bind_some]
    · simp only [bodkinref02_divided.j0, Int.reduceEq, Int.reduceBEq, ↓reduceIte, Bool.false_eq_true]
      rw [quo_f b a k (by omega) (by omega) (by omega) (by omega), Option.bind_some]
def binV (n : Nat) (op : Int) (a b : Nat) : Int × Int :=
  if op = 1 then (((a : Int) + b) % ((2 ^ n : Nat) : Int), 0)
  else if op = 2 then (((a : Int) - b) % ((2 ^ n : Nat) : Int), 0)
  else if op = 3 then (((a * b % 2 ^ n : Nat) : Int), 0)
  else if op ≤ 7 then divV n op a b
  else if op = 8 then (((a &&& b : Nat) : Int), 0)
  else if op = 9 then (((a ||| b : Nat) : Int), 0)
  else if op = 10 then (((a ^^^ b : Nat) : Int), 0)
  else if op = 11 then (((a * 2 ^ (b % n) % 2 ^ n : Nat) : Int), 0)
  else if op = 12 then (((sar n a (b % n) : Nat) : Int), 0)
  else if op = 13 then (((a / 2 ^ (b % n) : Nat) : Int), 0)
  else if op = 14 then (((rot n a (b % n) : Nat) : Int), 0)
  else (((rot n a ((n - b % n) % n) : Nat) : Int), 0)
theorem ref_bin (n : Nat) (op : Int) (a b k : Nat) (hn : n = 32 ∨ n = 64) (ha : a < 18446744073709551616) (hb : b < 18446744073709551616) (hop : 1 ≤ op ∧ op ≤ 15) (hk : 600 < k) :
    bodkinref02_Bin.f k n op a b = some (binV n op (a % 2 ^ n) (b % 2 ^ n)) := by
  obtain ⟨k, rfl⟩ : ∃ m, k = m + 4 := ⟨k - 4, by omega⟩
  have hr : bodkinref02_Right.f n = some true := right_f n (by omega)
  have hA := Nat.mod_lt a (Nat.two_pow_pos n)
  have hB := Nat.mod_lt b (Nat.two_pow_pos n)
  have hp : 2 ^ n ≤ 18446744073709551616 := by rcases hn with rfl | rfl <;> decide
  unfold bodkinref02_Bin.f
  rw [if_pos ⟨by omega, hop⟩]
  unfold bodkinref02_Bin.g
  rw [hr, Option.bind_some, if_pos rfl, if_neg (by omega), if_neg (by omega), if_neg (by omega)]
  simp only [bodkinref02_Bin.j0]
  rw [if_neg (by decide), cut_f n a _ (by omega) ha (by omega), Option.bind_some, cut_f n b _ (by omega) hb (by omega), Option.bind_some]
  generalize a % 2 ^ n = a at *
  generalize b % 2 ^ n = b at *
  rw [signed_f n a _ (by omega) (by omega) (by omega), Option.bind_some, signed_f n b _ (by omega) (by omega) (by omega), Option.bind_some, wu_id (by omega) (by omega), if_neg (by omega), tmod_nat]
  have hmn : b % n < n := Nat.mod_lt _ (by omega)
  rw [w64_id (by omega) (by omega)]
  have hops : op = 1 ∨ op = 2 ∨ op = 3 ∨ op = 4 ∨ op = 5 ∨ op = 6 ∨ op = 7 ∨ op = 8 ∨ op = 9 ∨ op = 10 ∨ op = 11 ∨ op = 12 ∨ op = 13 ∨ op = 14 ∨ op = 15 := by omega
  have pairs : ∀ x : Int × Int, (some (x.1, x.2) : Option (Int × Int)) = some x := fun _ => rfl
  have l1 := fun (o : Nat) (ho : o = 8 ∨ o = 9 ∨ o = 10) x hx hv => bin_l1 n a b o (by omega) ho x hx hv n (k + 1) 0 (by omega) (by omega)
  have st : ∀ o : Nat, ((List.range n).map fun j => (((if j < 0 then sumBit o (bt a j + bt b j) else bt a j) : Nat) : Int)) = bitsL n a := by
    intro o; rw [bitsL_bt]; simp
  simp only [st] at l1
  have la := list_f n a (k + 1) (by omega) (by omega) (by omega)
  have lb := list_f n b (k + 1) (by omega) (by omega) (by omega)
  rcases hops with rfl | rfl | rfl | rfl | rfl | rfl | rfl | rfl | rfl | rfl | rfl | rfl | rfl | rfl | rfl
  · rw [if_pos rfl, cut_int n _ _ hn (by omega)]; rfl
  · rw [if_neg (by decide), if_pos rfl, cut_int n _ _ hn (by omega)]; rfl
  · rw [if_neg (by decide), if_neg (by decide), if_pos rfl]
    have := mul_l0 n a b hn hB n (k + 3) 0 (by omega) (by omega)
    rw [Nat.pow_zero, Nat.mul_one, Nat.mod_one, Nat.mul_zero, Nat.zero_mod, Nat.mod_eq_of_lt (by omega)] at this
    exact this
  · simp only [bodkinref02_Bin.j2, Int.reduceEq, Int.reduceBEq, ↓reduceIte]
    rw [ref_divided n 4 a b _ hn hA hB (by omega) (by omega), Option.bind_some]; rfl
  · simp only [bodkinref02_Bin.j2, Int.reduceEq, Int.reduceBEq, ↓reduceIte]
    rw [ref_divided n 5 a b _ hn hA hB (by omega) (by omega), Option.bind_some]; rfl
  · simp only [bodkinref02_Bin.j2, Int.reduceEq, Int.reduceBEq, ↓reduceIte]
    rw [ref_divided n 6 a b _ hn hA hB (by omega) (by omega), Option.bind_some]; rfl
  · simp only [bodkinref02_Bin.j2, Int.reduceEq, Int.reduceBEq, ↓reduceIte]
    rw [ref_divided n 7 a b _ hn hA hB (by omega) (by omega), Option.bind_some]; rfl
  · simp only [bodkinref02_Bin.j2, bodkinref02_Bin.j3, Int.reduceEq, Int.reduceBEq, ↓reduceIte, Bool.false_eq_true]
    rw [la, Option.bind_some, lb, Option.bind_some]
    exact l1 8 (by omega) (a &&& b) (Nat.and_lt_two_pow _ hB) (fun i _ => sum_and a b i)
  · simp only [bodkinref02_Bin.j2, bodkinref02_Bin.j3, Int.reduceEq, Int.reduceBEq, ↓reduceIte, Bool.false_eq_true]
    rw [la, Option.bind_some, lb, Option.bind_some]
    exact l1 9 (by omega) (a ||| b) (Nat.or_lt_two_pow hA hB) (fun i _ => sum_or a b i)
  · simp only [bodkinref02_Bin.j2, bodkinref02_Bin.j3, Int.reduceEq, Int.reduceBEq, ↓reduceIte, Bool.false_eq_true]
    rw [la, Option.bind_some, lb, Option.bind_some]
    exact l1 10 (by omega) (a ^^^ b) (Nat.xor_lt_two_pow hA hB) (fun i _ => sum_xor a b i)
  · simp only [bodkinref02_Bin.j2, bodkinref02_Bin.j3, bodkinref02_Bin.j5, Int.reduceEq, Int.reduceBEq, ↓reduceIte, Bool.false_eq_true]
    rw [moved_f 11 n a (b % n) _ (by omega) (by omega) hmn (by omega) (by omega) _ (Nat.mod_lt _ (Nat.two_pow_pos n)) (fun i hi => mv11 n a _ i hi) (by omega)]; rfl
  · simp only [bodkinref02_Bin.j2, bodkinref02_Bin.j3, bodkinref02_Bin.j5, Int.reduceEq, Int.reduceBEq, ↓reduceIte, Bool.false_eq_true]
    rw [moved_f 12 n a (b % n) _ (by omega) (by omega) hmn (by omega) (by omega) _ (sar_lt n a _ hmn hA) (fun i hi => mv12 n a _ hmn hA i hi) (by omega)]; rfl
  · simp only [bodkinref02_Bin.j2, bodkinref02_Bin.j3, bodkinref02_Bin.j5, Int.reduceEq, Int.reduceBEq, ↓reduceIte, Bool.false_eq_true]
    rw [moved_f 13 n a (b % n) _ (by omega) (by omega) hmn (by omega) (by omega) (a / 2 ^ (b % n)) (Nat.lt_of_le_of_lt (Nat.div_le_self _ _) hA) (fun i _ => mv13 n a _ hA i) (by omega)]; rfl
  · simp only [bodkinref02_Bin.j2, bodkinref02_Bin.j3, bodkinref02_Bin.j5, Int.reduceEq, Int.reduceBEq, ↓reduceIte, Bool.false_eq_true]
    rw [moved_f 14 n a (b % n) _ (by omega) (by omega) hmn (by omega) (by omega) _ (rot_lt2 n a _ (by omega) hA) (fun i hi => mv14 n a _ hmn hA i hi) (by omega)]; rfl
  · simp only [bodkinref02_Bin.j2, bodkinref02_Bin.j3, bodkinref02_Bin.j5, Int.reduceEq, Int.reduceBEq, ↓reduceIte, Bool.false_eq_true]
    rw [moved_f 15 n a (b % n) _ (by omega) (by omega) hmn (by omega) (by omega) _ (rot_lt2 n a _ (Nat.le_of_lt (Nat.mod_lt _ (by omega))) hA) (fun i hi => mv15 n a _ hmn hA i hi) (by omega)]; rfl
end Go.Proofs.YtkhhhceeoljheaaGreatDoor.Pure
namespace Go.Proofs.YtkhhhceeoljheaaGreatDoor.Pure
open Go.RowKit Go.Proofs.YtkhhhceeoljheaaGreatDoorW.PrintWords Go.Proofs.YtkhhhceeoljheaaGreatDoor.PInt
theorem bitLen_top (i a : Nat) (h0 : 2 ^ i ≤ a) (h1 : a < 2 ^ (i + 1)) (hi : i < 64) : Lib.bitLen a = i + 1 := by
  have h64 : 2 ^ (i + 1) ≤ 2 ^ 64 := two_pow_le (by omega)
  rw [Lib.bitLen_shift i a h0 (by omega)]
  have : a / 2 ^ i = 1 := by
    have hp := Nat.two_pow_pos i
    rw [Nat.pow_succ] at h1
    apply Nat.div_eq_of_lt_le <;> omega
  rw [this]; rfl
theorem clz_l0 (n a : Nat) (hn : n ≤ 64) : ∀ (i k : Nat), i ≤ n → i < k → a < 2 ^ i → bodkinref02_Un.l0 k (bitsL n a) ((n - i : Nat) : Int) ((i : Int) - 1) = some (((n - Lib.bitLen a : Nat) : Int), 0)
  | 0, k, hi, hk, ha => by
    obtain ⟨k, rfl⟩ : ∃ m, k = m + 1 := ⟨k - 1, by omega⟩
    obtain rfl : a = 0 := by simpa using ha
    simp only [bodkinref02_Un.l0]
    rw [if_neg (by omega)]
    rfl
  | i + 1, k, hi, hk, ha => by
    obtain ⟨k, rfl⟩ : ∃ m, k = m + 1 := ⟨k - 1, by omega⟩
    have e2 : ((i + 1 : Nat) : Int) - 1 = (i : Int) := by omega
    have e3 : wrap64 ((i : Int) - 1) = (i : Int) - 1 := w64_id (by omega) (by omega)
    simp only [bodkinref02_Un.l0]
    rw [e2, if_pos (by omega), if_pos (by omega), if_pos (by rw [bitsL_length]; omega), rd_bits n a i (by omega), e3]
    by_cases c : bt a i = 0
    · have ha' : a < 2 ^ i := by
        apply Nat.lt_of_not_le
        intro hle
        have hp := Nat.two_pow_pos i
        have : a / 2 ^ i = 1 := by rw [Nat.pow_succ] at ha; apply Nat.div_eq_of_lt_le <;> omega
        unfold bt at c
        rw [this] at c
        omega
      have ih := clz_l0 n a hn i k (by omega) (by omega) ha'
      rw [if_pos (by omega), wu_id (by omega) (by omega), show ((n - (i + 1) : Nat) : Int) + 1 = ((n - i : Nat) : Int) by omega]
      exact ih
    · rw [if_neg (by omega), bitLen_top i a _ ha (by omega)]
      apply Nat.le_of_not_lt
      intro hlt
      apply c
      unfold bt
      rw [Nat.div_eq_of_lt hlt]
theorem ctz_at : ∀ (i f a : Nat), i < f → a % 2 ^ i = 0 → bt a i = 1 → Lib.ctzFrom f a = i
  | 0, f + 1, a, _, _, h => by
    simp [bt] at h
    simp [Lib.ctzFrom, h]
  | i + 1, f + 1, a, hi, h0, h => by
    have h2 : a % 2 = 0 := by
      rw [Nat.pow_succ, Nat.mul_comm, Nat.mod_mul] at h0
      omega
    have h3 : a / 2 % 2 ^ i = 0 := by
      rw [Nat.pow_succ, Nat.mul_comm, Nat.mod_mul] at h0
      omega
    have h4 : bt (a / 2) i = 1 := by
      unfold bt at h ⊢
      rw [Nat.pow_succ, Nat.mul_comm, ← Nat.div_div_eq_div_mul] at h
      exact h
    have ih := ctz_at i f (a / 2) (by omega) h3 h4
    simp only [Lib.ctzFrom]
    rw [if_neg (by omega), ih]
    omega
theorem ctz_l1 (n a : Nat) (hn : n ≤ 64) (ha : a < 2 ^ n) : ∀ (d k i : Nat), i + d = n → d < k → a % 2 ^ i = 0 → bodkinref02_Un.l1 k n (bitsL n a) i i = some (((min (Lib.ctz 64 a) n : Nat) : Int), 0)
  | 0, k, i, h, hk, h0 => by
    obtain ⟨k, rfl⟩ : ∃ m, k = m + 1 := ⟨k - 1, by omega⟩
    obtain rfl : i = n := by omega
    rw [Nat.mod_eq_of_lt ha] at h0
    subst h0
    simp only [bodkinref02_Un.l1]
    rw [if_neg (by omega)]
    have : min (Lib.ctz 64 0) i = i := by show min 64 i = i; omega
    rw [this]
  | d + 1, k, i, h, hk, h0 => by
    obtain ⟨k, rfl⟩ : ∃ m, k = m + 1 := ⟨k - 1, by omega⟩
    have e2 : wrap64 ((i : Int) + 1) = ((i + 1 : Nat) : Int) := by rw [w64_id (by omega) (by omega)]; rfl
    have e3 : IntKind.u64.wrap ((i : Int) + 1) = ((i + 1 : Nat) : Int) := by rw [wu_id (by omega) (by omega)]; rfl
    have hb := bt_lt a i
    simp only [bodkinref02_Un.l1]
    rw [if_pos (by omega), if_pos (by omega), if_pos (by rw [bitsL_length]; omega), rd_bits n a i (by omega), e2, e3]
    by_cases c : bt a i = 0
    · have ih := ctz_l1 n a hn ha d k (i + 1) (by omega) (by omega) (by
        unfold bt at c
        rw [Nat.pow_succ, Nat.mod_mul, h0, c, Nat.mul_zero])
      rw [if_pos (by omega)]
      exact ih
    · rw [if_neg (by omega)]
      have hz : a ≠ 0 := by
        rintro rfl
        apply c
        simp [bt]
      have := ctz_at i 64 a (by omega) h0 (by omega)
      unfold Lib.ctz
      rw [if_neg hz, this, Nat.min_eq_left (by omega)]
theorem pop_le : ∀ (d a : Nat), Lib.popAux d a ≤ d
  | 0, a => by simp [Lib.popAux]
  | d + 1, a => by
    have := pop_le d (a / 2)
    simp only [Lib.popAux]
    omega
theorem pop_l2 (n a : Nat) (hn : n ≤ 64) : ∀ (d k i c : Nat), i + d = n → d < k → c ≤ i → bodkinref02_Un.l2 k n (bitsL n a) c i = some (((c + Lib.popAux d (a / 2 ^ i) : Nat) : Int), 0)
  | 0, k, i, c, h, hk, hc => by
    obtain ⟨k, rfl⟩ : ∃ m, k = m + 1 := ⟨k - 1, by omega⟩
    simp only [bodkinref02_Un.l2]
    rw [if_neg (by omega)]
    rfl
  | d + 1, k, i, c, h, hk, hc => by
    obtain ⟨k, rfl⟩ : ∃ m, k = m + 1 := ⟨k - 1, by omega⟩
    have e2 : wrap64 ((i : Int) + 1) = ((i + 1 : Nat) : Int) := by rw [w64_id (by omega) (by omega)]; rfl
    have hb := bt_lt a i
    have e3 : IntKind.u64.wrap ((c : Int) + (bt a i : Int)) = ((c + bt a i : Nat) : Int) := by rw [wu_id (by omega) (by omega)]; rfl
    have ih := pop_l2 n a hn d k (i + 1) (c + bt a i) (by omega) (by omega) (by omega)
    simp only [bodkinref02_Un.l2]
    rw [if_pos (by omega), if_pos (by omega), if_pos (by rw [bitsL_length]; omega), rd_bits n a i (by omega), e2, e3, ih]
    simp only [Lib.popAux]
    rw [Nat.pow_succ, ← Nat.div_div_eq_div_mul]
    unfold bt
    congr 3
    omega
def unV (n : Nat) (op : Int) (a : Nat) : Int × Int :=
  if op = 1 then (((n - Lib.bitLen a : Nat) : Int), 0) else if op = 2 then (((min (Lib.ctz 64 a) n : Nat) : Int), 0) else (((Lib.popAux n a : Nat) : Int), 0)
theorem ref_un (n : Nat) (op : Int) (a k : Nat) (hn : n = 32 ∨ n = 64) (ha : a < 18446744073709551616) (hop : op = 1 ∨ op = 2 ∨ op = 3) (hk : 600 < k) :
    bodkinref02_Un.f k n op a = some (unV n op (a % 2 ^ n)) := by
  obtain ⟨k, rfl⟩ : ∃ m, k = m + 1 := ⟨k - 1, by omega⟩
  have hr : bodkinref02_Right.f n = some true := right_f n (by omega)
  have hA := Nat.mod_lt a (Nat.two_pow_pos n)
  have hp : 2 ^ n ≤ 18446744073709551616 := by rcases hn with rfl | rfl <;> decide
  unfold bodkinref02_Un.f
  rw [hr, Option.bind_some, if_pos rfl, if_neg (by omega), if_neg (by omega), if_neg (by omega), if_neg (by omega), if_neg (by omega)]
  simp only [bodkinref02_Un.j0]
  rw [if_neg (by decide), cut_f n a _ (by omega) ha (by omega), Option.bind_some]
  generalize a % 2 ^ n = a at *
  rw [list_f n a _ (by omega) (by omega) (by omega), Option.bind_some]
  rcases hop with rfl | rfl | rfl
  · rw [if_pos rfl, w64_id (by omega) (by omega)]
    have := clz_l0 n a (by omega) n k (by omega) (by omega) hA
    rw [Nat.sub_self] at this
    exact this
  · rw [if_neg (by decide), if_pos rfl]
    exact ctz_l1 n a (by omega) hA n k 0 (by omega) (by omega) (by simp [Nat.mod_one])
  · rw [if_neg (by decide), if_neg (by decide), if_pos rfl]
    have := pop_l2 n a (by omega) n k 0 0 (by omega) (by omega) (by omega)
    rw [Nat.pow_zero, Nat.div_one, Nat.zero_add] at this
    exact this
end Go.Proofs.YtkhhhceeoljheaaGreatDoor.Pure
namespace Go.Proofs.YtkhhhceeoljheaaGreatDoor.Pure
open Go.RowKit Go.Proofs.YtkhhhceeoljheaaGreatDoorW.PrintWords Go.Proofs.YtkhhhceeoljheaaGreatDoorW.PrintLast Go.Proofs.YtkhhhceeoljheaaGreatDoorW.PrintMore Go.Proofs.YtkhhhceeoljheaaGreatDoor.PInt
theorem wu64 (n : Int) (h0 : 0 ≤ n) (h1 : n < 2 ^ 64) : IntKind.u64.wrap n = n := wu_id h0 (by omega)
theorem andN (a b : Nat) (ha : a < 18446744073709551616) (hb : b < 18446744073709551616) : Go.bits .and .u64 (a : Int) (b : Int) = ((a &&& b : Nat) : Int) := (bits_nat .u64 64 (by decide) wu64 a b (by omega) (by omega)).1
theorem orN (a b : Nat) (ha : a < 18446744073709551616) (hb : b < 18446744073709551616) : Go.bits .or .u64 (a : Int) (b : Int) = ((a ||| b : Nat) : Int) := (bits_nat .u64 64 (by decide) wu64 a b (by omega) (by omega)).2
def msk (n : Nat) : Int := ((2 ^ n - 1 : Nat) : Int)
theorem mask_f (n : Nat) (hn : n = 32 ∨ n = 64) : ints_mask.f n = some (msk n) := by
  rcases hn with rfl | rfl <;> decide +kernel
theorem andm (n : Nat) (hn : n = 32 ∨ n = 64) (a : Nat) (ha : a < 18446744073709551616) : Go.bits .and .u64 (a : Int) (msk n) = ((a % 2 ^ n : Nat) : Int) := by
  unfold msk
  rw [andN a _ ha (by rcases hn with rfl | rfl <;> decide), Nat.and_two_pow_sub_one_eq_mod]
theorem andw (n : Nat) (hn : n = 32 ∨ n = 64) (z : Int) : Go.bits .and .u64 (IntKind.u64.wrap z) (msk n) = z % ((2 ^ n : Nat) : Int) := by
  have h : IntKind.u64.wrap z = (((z % 18446744073709551616).toNat : Nat) : Int) := by rw [wu]; omega
  rw [h, andm n hn _ (by omega)]
  rcases hn with rfl | rfl
  · show (((z % 18446744073709551616).toNat % 4294967296 : Nat) : Int) = z % ((4294967296 : Nat) : Int); omega
  · show (((z % 18446744073709551616).toNat % 18446744073709551616 : Nat) : Int) = z % ((18446744073709551616 : Nat) : Int); omega
theorem isigned (n a : Nat) (hn : n = 32 ∨ n = 64) (ha : a < 2 ^ n) : ints_Signed.f n a = some (sg n a) := by
  have c := sg_small n a hn ha
  rcases hn with rfl | rfl
  · have e : ints_Signed.f ((32 : Nat) : Int) a = some (shr .i64 (wrap64 (shl .u64 a 32)) 32) := rfl
    rw [e]
    have e1 : shl .u64 (a : Int) 32 = (a : Int) * 4294967296 := by
      show IntKind.u64.wrap ((a : Int) * 4294967296) = _
      rw [wu_id (by omega) (by omega)]
    rw [e1]
    show some (wrap64 ((a : Int) * 4294967296) / 4294967296) = _
    congr 1
    unfold wrap64
    rcases c with ⟨h, c⟩ | ⟨h, c⟩ <;> rw [c] <;> omega
  · have e : ints_Signed.f ((64 : Nat) : Int) a = some (shr .i64 (wrap64 (shl .u64 a 0)) 0) := rfl
    rw [e]
    have e1 : shl .u64 (a : Int) 0 = (a : Int) := by
      show IntKind.u64.wrap ((a : Int) * 1) = _
      rw [Int.mul_one, wu_id (by omega) (by omega)]
    rw [e1]
    show some (wrap64 (a : Int) / 1) = _
    congr 1
    unfold wrap64
    rcases c with ⟨h, c⟩ | ⟨h, c⟩ <;> rw [c] <;> omega
theorem wrap_wrap64 (z : Int) : IntKind.u64.wrap (wrap64 z) = IntKind.u64.wrap z := by
  rw [wu, wu]; unfold wrap64; omega
theorem fn_right (n : Nat) (hn : n = 32 ∨ n = 64) : ints_right.f n = some true := by rcases hn with rfl | rfl <;> rfl
theorem idivided (n : Nat) (op : Int) (a b k : Nat) (hn : n = 32 ∨ n = 64) (ha : a < 2 ^ n) (hb : b < 2 ^ n) (hop : op = 4 ∨ op = 5 ∨ op = 6 ∨ op = 7) (hk : 5 < k) :
    (ints_divided.f k n op a b).bind (fun r => some (Go.bits .and .u64 r.1 (msk n), r.2)) = some (divV n op a b) := by
  obtain ⟨k, rfl⟩ : ∃ m, k = m + 1 := ⟨k - 1, by omega⟩
  have hp : 2 ^ n ≤ 18446744073709551616 := by rcases hn with rfl | rfl <;> decide
  have cy := sg_small n b hn hb
  have h2 : 2 ^ n = 2 * 2 ^ (n - 1) := by rcases hn with rfl | rfl <;> decide
  have z0 : Go.bits .and .u64 0 (msk n) = 0 := by
    have := andm n hn 0 (by omega)
    rw [Nat.zero_mod] at this
    exact this
  unfold ints_divided.f divV
  rw [isigned n a hn ha, Option.bind_some, isigned n b hn hb, Option.bind_some]
  by_cases hb0 : b = 0
  · subst hb0
    rw [if_pos (by omega), if_pos rfl, Option.bind_some]
    dsimp only
    rw [z0]
  · have hyn : sg n b ≠ 0 := by
      rcases cy with ⟨_, e⟩ | ⟨_, e⟩ <;> rw [e] <;> omega
    rw [if_neg (by omega), if_neg hb0]
    rcases hop with rfl | rfl | rfl | rfl
    · have hsh : shl .u64 1 (wrap64 ((n : Int) - 1)) = ((2 ^ (n - 1) : Nat) : Int) := by rcases hn with rfl | rfl <;> decide +kernel
      simp only [ints_divided.j0, Int.reduceEq, Int.reduceBEq, ↓reduceIte, Bool.false_eq_true]
      rw [hsh, w64_id (n := (n : Int) - 1) (by omega) (by omega)]
      have fin : (some (IntKind.u64.wrap (wrap64 ((sg n a).tdiv (sg n b))), (0 : Int))).bind (fun r => some (Go.bits .and .u64 r.1 (msk n), r.2)) = some ((sg n a).tdiv (sg n b) % ((2 ^ n : Nat) : Int), 0) := by
        rw [Option.bind_some]
        dsimp only
        rw [wrap_wrap64, andw n hn]
      by_cases c : sg n b = -1
      · rw [if_pos c, if_pos (by omega)]
        by_cases d : a = 2 ^ (n - 1)
        · rw [if_pos (by omega), if_pos ⟨c, d⟩, Option.bind_some]
          dsimp only
          rw [z0]
        · rw [if_neg (by omega), if_neg hyn, if_neg (fun h => d h.2)]
          exact fin
      · rw [if_neg c, if_neg hyn, if_neg (fun h => c h.1)]
        exact fin
    · rw [if_pos rfl, if_pos rfl, tdiv_nat, Option.bind_some]
      dsimp only
      have := Nat.div_le_self a b
      rw [andw n hn]
      congr 2
      exact Int.emod_eq_of_lt (Int.natCast_nonneg _) (by omega)
    · simp only [ints_divided.j0, Int.reduceEq, ↓reduceIte]
      by_cases c : sg n b = -1
      · rw [c]
        simp only [Int.reduceNeg, BEq.rfl, ↓reduceIte]
        rw [Option.bind_some]
        dsimp only
        rw [z0, show Int.tmod (sg n a) (-1) = 0 by rw [Int.tmod_neg]; simp]
        rfl
      · rw [if_neg (by simpa using c), if_neg hyn, Option.bind_some]
        dsimp only
        rw [andw n hn]
    · rw [if_neg (by decide), if_pos rfl, if_neg (by decide), if_pos rfl, tmod_nat, Option.bind_some]
      dsimp only
      have := Nat.mod_le a b
      rw [andm n hn _ (by omega), Nat.mod_eq_of_lt (by omega)]
theorem pow_cast (m : Nat) : (2 : Int) ^ m = ((2 ^ m : Nat) : Int) := by simp
theorem shl_n (a s : Nat) (hs : s ≤ 64) : shl .u64 (a : Int) (s : Int) = IntKind.u64.wrap ((a * 2 ^ s : Nat) : Int) := by
  show IntKind.u64.wrap ((a : Int) * 2 ^ min ((s : Int)).toNat 64) = _
  rw [Int.toNat_natCast, Nat.min_eq_left hs, pow_cast, Int.natCast_mul]
theorem shr_n (k : IntKind) (hk : k.bits = 64) (x : Int) (s : Nat) (hs : s ≤ 64) : shr k x (s : Int) = x / ((2 ^ s : Nat) : Int) := by
  unfold shr
  rw [hk, Int.toNat_natCast, Nat.min_eq_left hs, pow_cast]
theorem rot_and (n : Nat) (hn : n = 32 ∨ n = 64) (a s : Nat) (hs : s < n) (ha : a < 2 ^ n) : Go.bits .and .u64 (Go.bits .or .u64 (shl .u64 (a : Int) (s : Int)) (shr .u64 (a : Int) ((n - s : Nat) : Int))) (msk n) = ((rot n a s : Nat) : Int) := by
  have hp : 2 ^ n ≤ 18446744073709551616 := by rcases hn with rfl | rfl <;> decide
  have hd : 2 ^ n ∣ 18446744073709551616 := by rcases hn with rfl | rfl <;> decide
  have h1 : a / 2 ^ (n - s) ≤ a := Nat.div_le_self _ _
  have e1 : IntKind.u64.wrap ((a * 2 ^ s : Nat) : Int) = ((a * 2 ^ s % 18446744073709551616 : Nat) : Int) := by rw [wu]; omega
  have e2 : (a : Int) / ((2 ^ (n - s) : Nat) : Int) = ((a / 2 ^ (n - s) : Nat) : Int) := rfl
  have hb : (a * 2 ^ s % 18446744073709551616 ||| a / 2 ^ (n - s)) < 2 ^ 64 := Nat.or_lt_two_pow (by omega) (by omega)
  rw [shl_n a s (by omega), shr_n .u64 rfl a (n - s) (by omega), e1, e2, orN _ _ (by omega) (by omega), andm n hn _ (by omega), rot_lt n a s (by omega) ha, Nat.or_mod_two_pow, Nat.mod_mod_of_dvd _ hd, Nat.mod_eq_of_lt (show a / 2 ^ (n - s) < 2 ^ n by omega)]
theorem imoved (n : Nat) (op : Int) (a s : Nat) (hn : n = 32 ∨ n = 64) (ha : a < 2 ^ n) (hs : s < n) (hop : op = 11 ∨ op = 12 ∨ op = 13 ∨ op = 14 ∨ op = 15) (b : Nat) (hb : b % n = s) :
    (ints_moved.f n op a s).bind (fun r => some (Go.bits .and .u64 r (msk n), (0 : Int))) = some (binV n op a b) := by
  have hp : 2 ^ n ≤ 18446744073709551616 := by rcases hn with rfl | rfl <;> decide
  have h2 : 2 ^ n = 2 * 2 ^ (n - 1) := by rcases hn with rfl | rfl <;> decide
  unfold ints_moved.f binV
  rw [hb]
  rcases hop with rfl | rfl | rfl | rfl | rfl
  · simp only [Int.reduceEq, Int.reduceLE, ↓reduceIte]
    rw [if_pos (by omega), shl_n a s (by omega), Option.bind_some, andw n hn]
    rfl
  · simp only [Int.reduceEq, Int.reduceLE, ↓reduceIte]
    rw [isigned n a hn ha, Option.bind_some, if_pos (by omega), shr_n .i64 rfl _ s (by omega), Option.bind_some, andw n hn]
    congr 2
    have hsl := sar_lt n a s hs ha
    have cx := sg_small n a hn ha
    unfold sar at hsl ⊢
    have h3 : 2 ^ n = 2 ^ (n - s) * 2 ^ s := by rw [← Nat.pow_add]; congr 1; omega
    rcases cx with ⟨h, e⟩ | ⟨h, e⟩
    · have t : a.testBit (n - 1) = false := Nat.testBit_lt_two_pow h
      rw [t] at hsl ⊢
      rw [e]
      simp only [Bool.false_eq_true, ↓reduceIte] at hsl ⊢
      exact Int.emod_eq_of_lt (Int.natCast_nonneg _) (by omega)
    · have t : a.testBit (n - 1) = true := by
        rw [Nat.testBit_eq_decide_div_mod_eq, decide_eq_true]
        have : a / 2 ^ (n - 1) = 1 := by apply Nat.div_eq_of_lt_le <;> omega
        rw [this]
      rw [t] at hsl ⊢
      simp only [↓reduceIte] at hsl ⊢
      rw [e]
      have h4 := Nat.two_pow_pos s
      have e5 : (((a : Int) - ((2 ^ n : Nat) : Int)) / ((2 ^ s : Nat) : Int)) = ((a / 2 ^ s : Nat) : Int) - ((2 ^ (n - s) : Nat) : Int) := by
        rw [h3, Int.natCast_mul, Int.sub_mul_ediv_right _ _ (by omega)]; rfl
      rw [e5]
      have e6 : 2 ^ (n - s) * (2 ^ s - 1) + 2 ^ (n - s) = 2 ^ n := by rw [h3, ← Nat.mul_succ]; congr 1; omega
      generalize 2 ^ (n - s) * (2 ^ s - 1) = u at *
      have e7 : ((a / 2 ^ s : Nat) : Int) - ((2 ^ (n - s) : Nat) : Int) = ((u + a / 2 ^ s : Nat) : Int) + ((2 ^ n : Nat) : Int) * (-1) := by omega
      rw [e7, Int.add_mul_emod_self_left]
      exact Int.emod_eq_of_lt (Int.natCast_nonneg _) (by omega)
  · simp only [Int.reduceEq, Int.reduceLE, ↓reduceIte]
    have h1 : a / 2 ^ s ≤ a := Nat.div_le_self _ _
    have e2 : (a : Int) / ((2 ^ s : Nat) : Int) = ((a / 2 ^ s : Nat) : Int) := rfl
    rw [if_pos (by omega), shr_n .u64 rfl _ s (by omega), Option.bind_some, e2, andm n hn _ (by omega), Nat.mod_eq_of_lt (by omega)]
  · simp only [Int.reduceEq, Int.reduceLE, ↓reduceIte]
    rw [wu_id (n := (n : Int)) (by omega) (by omega), wu_id (n := (n : Int) - (s : Int)) (by omega) (by omega), if_pos (by omega), if_pos (by omega), Option.bind_some, show (n : Int) - (s : Int) = ((n - s : Nat) : Int) by omega, rot_and n hn a s hs ha]
  · have hm : (n - s) % n < n := Nat.mod_lt _ (by omega)
    simp only [Int.reduceEq, Int.reduceLE, ↓reduceIte]
    rw [wu_id (n := (n : Int)) (by omega) (by omega), wu_id (n := (n : Int) - (s : Int)) (by omega) (by omega), show (n : Int) - (s : Int) = ((n - s : Nat) : Int) by omega, tmod_nat, wu_id (n := (n : Int) - (((n - s) % n : Nat) : Int)) (by omega) (by omega), if_neg (by omega), if_pos (by omega), if_pos (by omega), Option.bind_some, show (n : Int) - (((n - s) % n : Nat) : Int) = ((n - (n - s) % n : Nat) : Int) by omega, rot_and n hn a _ hm ha]
theorem pro_bin (n : Nat) (op : Int) (a b k : Nat) (hn : n = 32 ∨ n = 64) (ha : a < 18446744073709551616) (hb : b < 18446744073709551616) (hop : 1 ≤ op ∧ op ≤ 15) (hk : 600 < k) :
    ints_Bin.f k n op a b = some (binV n op (a % 2 ^ n) (b % 2 ^ n)) := by
  obtain ⟨k, rfl⟩ : ∃ m, k = m + 4 := ⟨k - 4, by omega⟩
  have hA := Nat.mod_lt a (Nat.two_pow_pos n)
  have hB := Nat.mod_lt b (Nat.two_pow_pos n)
  have hp : 2 ^ n ≤ 18446744073709551616 := by rcases hn with rfl | rfl <;> decide
  have hd : 2 ^ n ∣ 18446744073709551616 := by rcases hn with rfl | rfl <;> decide
  unfold ints_Bin.f
  rw [fn_right n hn, Option.bind_some, if_pos rfl, if_neg (by omega), if_neg (by omega), if_neg (by omega)]
  simp only [ints_Bin.j0]
  rw [if_neg (by decide), mask_f n hn, Option.bind_some, andm n hn a ha, andm n hn b hb]
  generalize a % 2 ^ n = a at *
  generalize b % 2 ^ n = b at *
  have hops : op = 1 ∨ op = 2 ∨ op = 3 ∨ op = 4 ∨ op = 5 ∨ op = 6 ∨ op = 7 ∨ op = 8 ∨ op = 9 ∨ op = 10 ∨ op = 11 ∨ op = 12 ∨ op = 13 ∨ op = 14 ∨ op = 15 := by omega
  have mvd := fun o ho => imoved n o a (b % n) hn hA (Nat.mod_lt _ (by omega)) ho b rfl
  have dv := fun o ho => idivided n o a b (k + 2) hn hA hB ho (by omega)
  have wn : IntKind.u64.wrap (n : Int) = (n : Int) := wu_id (by omega) (by omega)
  rcases hops with rfl | rfl | rfl | rfl | rfl | rfl | rfl | rfl | rfl | rfl | rfl | rfl | rfl | rfl | rfl
  · simp only [ints_Bin.j1, ints_Bin.j2, ints_plain.f, Int.reduceEq, Int.reduceGE, Int.reduceLE, ↓reduceIte, Bool.false_eq_true, Option.bind_some, decide_true, decide_false]
    rw [andw n hn]; rfl
  · simp only [ints_Bin.j1, ints_Bin.j2, ints_plain.f, Int.reduceEq, Int.reduceGE, Int.reduceLE, ↓reduceIte, Bool.false_eq_true, Option.bind_some, decide_true, decide_false]
    rw [andw n hn]
    show some _ = some (((a : Int) - b) % ((2 ^ n : Nat) : Int), 0)
    congr 2
    rw [wu]
    rcases hn with rfl | rfl
    · show ((a : Int) + -(b : Int) % 18446744073709551616) % ((4294967296 : Nat) : Int) = ((a : Int) - b) % ((4294967296 : Nat) : Int); omega
    · show ((a : Int) + -(b : Int) % 18446744073709551616) % ((18446744073709551616 : Nat) : Int) = ((a : Int) - b) % ((18446744073709551616 : Nat) : Int); omega
  · simp only [ints_Bin.j1, ints_Bin.j2, ints_plain.f, Int.reduceEq, Int.reduceGE, Int.reduceLE, ↓reduceIte, Bool.false_eq_true, Option.bind_some, decide_true, decide_false]
    rw [andw n hn]; rfl
  · simp only [ints_Bin.j1, Int.reduceEq, Int.reduceGE, Int.reduceLE, ↓reduceIte, decide_true]
    rw [dv 4 (by omega)]; rfl
  · simp only [ints_Bin.j1, Int.reduceEq, Int.reduceGE, Int.reduceLE, ↓reduceIte, decide_true]
    rw [dv 5 (by omega)]; rfl
  · simp only [ints_Bin.j1, Int.reduceEq, Int.reduceGE, Int.reduceLE, ↓reduceIte, decide_true]
    rw [dv 6 (by omega)]; rfl
  · simp only [ints_Bin.j1, Int.reduceEq, Int.reduceGE, Int.reduceLE, ↓reduceIte, decide_true]
    rw [dv 7 (by omega)]; rfl
  · simp only [ints_Bin.j1, ints_Bin.j2, ints_plain.f, Int.reduceEq, Int.reduceGE, Int.reduceLE, ↓reduceIte, Bool.false_eq_true, Option.bind_some, decide_true, decide_false]
    have := Nat.and_lt_two_pow a hB
    rw [andN a b (by omega) (by omega), andm n hn _ (by omega), Nat.mod_eq_of_lt this]; rfl
  · simp only [ints_Bin.j1, ints_Bin.j2, ints_plain.f, Int.reduceEq, Int.reduceGE, Int.reduceLE, ↓reduceIte, Bool.false_eq_true, Option.bind_some, decide_true, decide_false]
    have := Nat.or_lt_two_pow hA hB
    rw [orN a b (by omega) (by omega), andm n hn _ (by omega), Nat.mod_eq_of_lt this]; rfl
  · simp only [ints_Bin.j1, ints_Bin.j2, ints_plain.f, Int.reduceEq, Int.reduceGE, Int.reduceLE, ↓reduceIte, Bool.false_eq_true, Option.bind_some, decide_true, decide_false]
    have := Nat.xor_lt_two_pow hA hB
    rw [bits_xor_u64_nat a b (by omega) (by omega), andm n hn _ (by omega), Nat.mod_eq_of_lt this]; rfl
  · simp only [ints_Bin.j1, ints_Bin.j2, Int.reduceEq, Int.reduceGE, Int.reduceLE, ↓reduceIte, Bool.false_eq_true, decide_true, decide_false]
    rw [wn, if_neg (by omega), tmod_nat, mvd 11 (by omega)]
  · simp only [ints_Bin.j1, ints_Bin.j2, Int.reduceEq, Int.reduceGE, Int.reduceLE, ↓reduceIte, Bool.false_eq_true, decide_true, decide_false]
    rw [wn, if_neg (by omega), tmod_nat, mvd 12 (by omega)]
  · simp only [ints_Bin.j1, ints_Bin.j2, Int.reduceEq, Int.reduceGE, Int.reduceLE, ↓reduceIte, Bool.false_eq_true, decide_true, decide_false]
    rw [wn, if_neg (by omega), tmod_nat, mvd 13 (by omega)]
  · simp only [ints_Bin.j1, ints_Bin.j2, Int.reduceEq, Int.reduceGE, Int.reduceLE, ↓reduceIte, Bool.false_eq_true, decide_true, decide_false]
    rw [wn, if_neg (by omega), tmod_nat, mvd 14 (by omega)]
  · simp only [ints_Bin.j1, ints_Bin.j2, Int.reduceEq, Int.reduceGE, Int.reduceLE, ↓reduceIte, Bool.false_eq_true, decide_true, decide_false]
    rw [wn, if_neg (by omega), tmod_nat, mvd 15 (by omega)]
end Go.Proofs.YtkhhhceeoljheaaGreatDoor.Pure
namespace Go.Proofs.YtkhhhceeoljheaaGreatDoor.Pure
open Go.RowKit Go.Proofs.YtkhhhceeoljheaaGreatDoorW.PrintWords Go.Proofs.YtkhhhceeoljheaaGreatDoorW.PrintLast Go.Proofs.YtkhhhceeoljheaaGreatDoorW.PrintMore Go.Proofs.YtkhhhceeoljheaaGreatDoor.PInt
def rep (c : Nat) : Nat → Nat
  | 0 => 0
  | n + 1 => c + 256 * rep c n
theorem and_split (x y : Nat) : x &&& y = (x % 256 &&& y % 256) + 256 * (x / 256 &&& y / 256) := by
  have h1 : (x &&& y) % 2 ^ 8 = (x % 2 ^ 8 &&& y % 2 ^ 8) := Nat.and_mod_two_pow
  have h2 : (x &&& y) / 2 ^ 8 = (x / 2 ^ 8 &&& y / 2 ^ 8) := Nat.and_div_two_pow
  have e : (2 : Nat) ^ 8 = 256 := rfl
  rw [e] at h1 h2
  rw [← h1, ← h2]
  omega
theorem and_rep (x c n : Nat) (hc : c < 256) : x &&& rep c (n + 1) = (x % 256 &&& c) + 256 * (x / 256 &&& rep c n) := by
  rw [and_split]
  simp only [rep]
  rw [show (c + 256 * rep c n) % 256 = c by omega, show (c + 256 * rep c n) / 256 = rep c n by omega]
def f1 (b : Nat) : Nat := (b / 2 &&& 85) + (b &&& 85)
def f2 (b : Nat) : Nat := (b / 4 &&& 51) + (b &&& 51)
def F1 (n a : Nat) : Nat := (a / 2 &&& rep 85 n) + (a &&& rep 85 n)
def F2 (n a : Nat) : Nat := (a / 4 &&& rep 51 n) + (a &&& rep 51 n)
theorem lo2 : ∀ c : Fin 512, (c.val / 2 % 256 &&& 85) = (c.val % 256 / 2 &&& 85) := by decide +kernel
theorem lo4 : ∀ c : Fin 1024, (c.val / 4 % 256 &&& 51) = (c.val % 256 / 4 &&& 51) := by decide +kernel
theorem F1_succ (n a : Nat) : F1 (n + 1) a = f1 (a % 256) + 256 * F1 n (a / 256) := by
  unfold F1 f1
  rw [and_rep _ 85 n (by omega), and_rep _ 85 n (by omega)]
  have h := lo2 ⟨a % 512, by omega⟩
  dsimp only at h
  rw [show a % 512 / 2 % 256 = a / 2 % 256 by omega, show a % 512 % 256 = a % 256 by omega] at h
  rw [h, show a / 2 / 256 = a / 256 / 2 by omega]
  omega
theorem F2_succ (n b s : Nat) (hb : b < 256) : F2 (n + 1) (b + 256 * s) = f2 b + 256 * F2 n s := by
  unfold F2 f2
  rw [and_rep _ 51 n (by omega), and_rep _ 51 n (by omega)]
  have h := lo4 ⟨(b + 256 * s) % 1024, by omega⟩
  dsimp only at h
  rw [show (b + 256 * s) % 1024 / 4 % 256 = (b + 256 * s) / 4 % 256 by omega, show (b + 256 * s) % 1024 % 256 = b by omega] at h
  rw [h, show (b + 256 * s) / 4 / 256 = s / 4 by omega, show (b + 256 * s) % 256 = b by omega, show (b + 256 * s) / 256 = s by omega]
  omega
theorem small : ∀ c : Fin 256, f1 c.val < 256 ∧ f2 (f1 c.val) % 16 ≤ 4 ∧ f2 (f1 c.val) / 16 ≤ 4 ∧ f2 (f1 c.val) / 16 + f2 (f1 c.val) % 16 = Lib.popAux 8 c.val := by decide +kernel
theorem pop_split : ∀ (d n a : Nat), Lib.popAux (d + n) a = Lib.popAux d (a % 2 ^ d) + Lib.popAux n (a / 2 ^ d)
  | 0, n, a => by simp [Lib.popAux]
  | d + 1, n, a => by
    rw [show d + 1 + n = (d + n) + 1 by omega]
    simp only [Lib.popAux]
    rw [pop_split d n (a / 2), Nat.pow_succ, Nat.mul_comm (2 ^ d) 2, Nat.mod_mul, ← Nat.div_div_eq_div_mul, show (a % 2 + 2 * (a / 2 % 2 ^ d)) % 2 = a % 2 by omega, show (a % 2 + 2 * (a / 2 % 2 ^ d)) / 2 = a / 2 % 2 ^ d by omega]
    omega
def D : Nat → Nat → Nat
  | 0, _ => 0
  | n + 1, a => Lib.popAux 8 (a % 256) + 256 * D n (a / 256)
theorem s2_ok : ∀ (n a : Nat), (F2 n (F1 n a) % 16 ≤ 4) ∧ ((F2 n (F1 n a) / 16 + F2 n (F1 n a)) &&& rep 15 n) = D n a
  | 0, a => by simp [rep, D, F2]
  | n + 1, a => by
    obtain ⟨ih0, ih⟩ := s2_ok n (a / 256)
    have hs := small ⟨a % 256, by omega⟩
    dsimp only at hs
    rw [F1_succ, F2_succ _ _ _ hs.1]
    generalize F2 n (F1 n (a / 256)) = S at *
    generalize f2 (f1 (a % 256)) = b at *
    refine ⟨by omega, ?_⟩
    rw [and_rep _ 15 n (by omega), show ((b + 256 * S) / 16 + (b + 256 * S)) / 256 = S / 16 + S by omega, ih]
    have e : ∀ x, x &&& 15 = x % 16 := fun x => Nat.and_two_pow_sub_one_eq_mod x 4
    rw [e]
    simp only [D]
    rw [← hs.2.2.2]
    omega
theorem F1_small (a : Nat) (ha : a < 18446744073709551616) : F1 8 a < 18446744073709551616 := by
  unfold F1
  have h1 : (a / 2 &&& rep 85 8) ≤ rep 85 8 := Nat.and_le_right
  have h2 : (a &&& rep 85 8) ≤ rep 85 8 := Nat.and_le_right
  have h3 : rep 85 8 = 6148914691236517205 := rfl
  omega
theorem F2_small (a : Nat) : F2 8 a ≤ 7378697629483820646 := by
  unfold F2
  have h1 : (a / 4 &&& rep 51 8) ≤ rep 51 8 := Nat.and_le_right
  have h2 : (a &&& rep 51 8) ≤ rep 51 8 := Nat.and_le_right
  have h3 : rep 51 8 = 3689348814741910323 := rfl
  omega
theorem fold4 (d0 d2 d4 d6 s t : Nat) (h0 : d0 < 8192) (h2 : d2 < 8192) (h4 : d4 < 8192) (h6 : d6 < 8192) (ht : t = d0 + 65536 * (d2 + 65536 * (d4 + 65536 * d6))) (hs : s + s / 256 = t) :
    ∃ t u v : Nat, s + s / 256 = t ∧ t + t / 65536 = u ∧ u + u / 4294967296 = v ∧ v < 9223372036854775808 ∧ v % 128 = (d0 + d2 + d4 + d6) % 128 := by
  have e3 : t / 65536 = d2 + 65536 * (d4 + 65536 * d6) := by omega
  have e4 : t + t / 65536 = (d0 + d2) + 65536 * (d2 + d4) + 4294967296 * ((d4 + d6) + 65536 * d6) := by rw [e3, ht]; omega
  have e5 : (t + t / 65536) / 4294967296 = (d4 + d6) + 65536 * d6 := by rw [e4]; omega
  have e6 : t + t / 65536 + (t + t / 65536) / 4294967296 = (d0 + d2 + d4 + d6) + 65536 * (d2 + d4 + d6 + 65536 * ((d4 + d6) + 65536 * d6)) := by rw [e5, e4]; omega
  refine ⟨t, _, _, hs, rfl, rfl, ?_⟩
  rw [e6]
  constructor <;> omega
theorem cut256 (c R : Nat) (h : c ≤ 8) : (c + 256 * R) / 256 = R := by omega
theorem pair (c d : Nat) (h : c ≤ 8) (h' : d ≤ 8) (e : Nat) (h'' : e ≤ 8) : (c + d) + 256 * (d + e) < 8192 := by omega
theorem lin (c0 c1 c2 c3 c4 c5 c6 c7 : Nat) : (c0 + 256 * (c1 + 256 * (c2 + 256 * (c3 + 256 * (c4 + 256 * (c5 + 256 * (c6 + 256 * c7))))))) + (c1 + 256 * (c2 + 256 * (c3 + 256 * (c4 + 256 * (c5 + 256 * (c6 + 256 * c7)))))) = ((c0 + c1) + 256 * (c1 + c2)) + 65536 * (((c2 + c3) + 256 * (c3 + c4)) + 65536 * (((c4 + c5) + 256 * (c5 + c6)) + 65536 * ((c6 + c7) + 256 * (c7 + 0)))) := by
  omega
theorem lastm (x c : Nat) (hc : c ≤ 64) (K : Nat) (h : x = c + 256 * K) : x % 128 = c := by omega
theorem fold8 (c0 c1 c2 c3 c4 c5 c6 c7 s : Nat) (h0 : c0 ≤ 8) (h1 : c1 ≤ 8) (h2 : c2 ≤ 8) (h3 : c3 ≤ 8) (h4 : c4 ≤ 8) (h5 : c5 ≤ 8) (h6 : c6 ≤ 8) (h7 : c7 ≤ 8)
    (hs : s = c0 + 256 * (c1 + 256 * (c2 + 256 * (c3 + 256 * (c4 + 256 * (c5 + 256 * (c6 + 256 * c7))))))) :
    ∃ t u v : Nat, s + s / 256 = t ∧ t + t / 65536 = u ∧ u + u / 4294967296 = v ∧ v < 9223372036854775808 ∧ v % 128 = c0 + c1 + c2 + c3 + c4 + c5 + c6 + c7 := by
  have e2 : s + s / 256 = ((c0 + c1) + 256 * (c1 + c2)) + 65536 * (((c2 + c3) + 256 * (c3 + c4)) + 65536 * (((c4 + c5) + 256 * (c5 + c6)) + 65536 * ((c6 + c7) + 256 * (c7 + 0)))) := by
    rw [hs, cut256 _ _ h0, lin]
  clear hs
  obtain ⟨t, u, v, a1, a2, a3, a4, a5⟩ := fold4 _ _ _ _ s _ (pair c0 c1 h0 h1 c2 h2) (pair c2 c3 h2 h3 c4 h4) (pair c4 c5 h4 h5 c6 h6) (pair c6 c7 h6 h7 0 (by decide)) rfl e2
  refine ⟨t, u, v, a1, a2, a3, a4, ?_⟩
  rw [a5]
  clear a1 a2 a3 a4 a5 e2
  exact lastm _ _ (by omega) (c1 + c2 + (c3 + c4) + (c5 + c6) + c7) (by omega)
theorem D_at (n a : Nat) : D (n + 1) a = Lib.popAux 8 (a % 256) + 256 * D n (a / 256) := rfl
theorem pop_at (n a : Nat) : Lib.popAux (8 + n) a = Lib.popAux 8 (a % 256) + Lib.popAux n (a / 256) := pop_split 8 n a
theorem D8 (a : Nat) : ∃ t u v : Nat, D 8 a + D 8 a / 256 = t ∧ t + t / 65536 = u ∧ u + u / 4294967296 = v ∧ v < 9223372036854775808 ∧ v % 128 = Lib.popAux 64 a := by
  have hp := fun x => pop_le 8 (x % 256)
  have z0 : ∀ x, D 0 x = 0 := fun _ => rfl
  have p0 : ∀ x, Lib.popAux 0 x = 0 := fun _ => rfl
  have d0 := D_at 7 a
  have q0 := pop_at 56 a
  simp only [Nat.reduceAdd] at d0 q0
  generalize D 8 a = X0 at *
  generalize Lib.popAux 64 a = Y0 at *
  have b0 := hp a
  generalize Lib.popAux 8 (a % 256) = c0 at *
  generalize a / 256 = a at *
  have d1 := D_at 6 a
  have q1 := pop_at 48 a
  simp only [Nat.reduceAdd] at d1 q1
  generalize D 7 a = X1 at *
  generalize Lib.popAux 56 a = Y1 at *
  have b1 := hp a
  generalize Lib.popAux 8 (a % 256) = c1 at *
  generalize a / 256 = a at *
  have d2 := D_at 5 a
  have q2 := pop_at 40 a
  simp only [Nat.reduceAdd] at d2 q2
  generalize D 6 a = X2 at *
  generalize Lib.popAux 48 a = Y2 at *
  have b2 := hp a
  generalize Lib.popAux 8 (a % 256) = c2 at *
  generalize a / 256 = a at *
  have d3 := D_at 4 a
  have q3 := pop_at 32 a
  simp only [Nat.reduceAdd] at d3 q3
  generalize D 5 a = X3 at *
  generalize Lib.popAux 40 a = Y3 at *
  have b3 := hp a
  generalize Lib.popAux 8 (a % 256) = c3 at *
  generalize a / 256 = a at *
  have d4 := D_at 3 a
  have q4 := pop_at 24 a
  simp only [Nat.reduceAdd] at d4 q4
  generalize D 4 a = X4 at *
  generalize Lib.popAux 32 a = Y4 at *
  have b4 := hp a
  generalize Lib.popAux 8 (a % 256) = c4 at *
  generalize a / 256 = a at *
  have d5 := D_at 2 a
  have q5 := pop_at 16 a
  simp only [Nat.reduceAdd] at d5 q5
  generalize D 3 a = X5 at *
  generalize Lib.popAux 24 a = Y5 at *
  have b5 := hp a
  generalize Lib.popAux 8 (a % 256) = c5 at *
  generalize a / 256 = a at *
  have d6 := D_at 1 a
  have q6 := pop_at 8 a
  simp only [Nat.reduceAdd] at d6 q6
  generalize D 2 a = X6 at *
  generalize Lib.popAux 16 a = Y6 at *
  have b6 := hp a
  generalize Lib.popAux 8 (a % 256) = c6 at *
  generalize a / 256 = a at *
  have d7 := D_at 0 a
  have q7 := pop_at 0 a
  simp only [Nat.reduceAdd, Nat.zero_add, Nat.add_zero, z0, p0] at d7 q7
  generalize D 1 a = X7 at *
  have b7 := hp a
  rw [← q7] at d7 b7
  generalize Lib.popAux 8 a = c7 at *
  obtain ⟨t, u, v, h1, h2, h3, h4, h5⟩ := fold8 c0 c1 c2 c3 c4 c5 c6 c7 X0 b0 b1 b2 b3 b4 b5 b6 b7 (by omega)
  exact ⟨t, u, v, h1, h2, h3, h4, by omega⟩
end Go.Proofs.YtkhhhceeoljheaaGreatDoor.Pure
namespace Go.Proofs.YtkhhhceeoljheaaGreatDoor.Pure
open Go.RowKit Go.Proofs.YtkhhhceeoljheaaGreatDoorW.PrintWords Go.Proofs.YtkhhhceeoljheaaGreatDoorW.PrintLast Go.Proofs.YtkhhhceeoljheaaGreatDoorW.PrintMore Go.Proofs.YtkhhhceeoljheaaGreatDoor.PInt
theorem stepA (a m : Nat) (M : Int) (hM : M = (m : Int)) (ha : a < 18446744073709551616) (hm : m < 18446744073709551616) (hs : (a / 2 &&& m) + (a &&& m) < 18446744073709551616) :
    IntKind.u64.wrap (Go.bits .and .u64 ((a : Int) / 2) M + Go.bits .and .u64 (a : Int) M) = (((a / 2 &&& m) + (a &&& m) : Nat) : Int) := by
  subst hM
  rw [show (a : Int) / 2 = ((a / 2 : Nat) : Int) from rfl, andN _ _ (by omega) hm, andN _ _ ha hm, ← Int.natCast_add, wu_id (by omega) (by omega)]
theorem stepB (a m : Nat) (M : Int) (hM : M = (m : Int)) (ha : a < 18446744073709551616) (hm : m < 18446744073709551616) (hs : (a / 4 &&& m) + (a &&& m) < 18446744073709551616) :
    IntKind.u64.wrap (Go.bits .and .u64 ((a : Int) / 4) M + Go.bits .and .u64 (a : Int) M) = (((a / 4 &&& m) + (a &&& m) : Nat) : Int) := by
  subst hM
  rw [show (a : Int) / 4 = ((a / 4 : Nat) : Int) from rfl, andN _ _ (by omega) hm, andN _ _ ha hm, ← Int.natCast_add, wu_id (by omega) (by omega)]
theorem stepC (a m : Nat) (M : Int) (hM : M = (m : Int)) (hm : m < 18446744073709551616) (hs : a / 16 + a < 18446744073709551616) :
    Go.bits .and .u64 (IntKind.u64.wrap ((a : Int) / 16 + (a : Int))) M = (((a / 16 + a) &&& m : Nat) : Int) := by
  subst hM
  rw [show (a : Int) / 16 + (a : Int) = ((a / 16 + a : Nat) : Int) from rfl, wu_id (by omega) (by omega), andN _ _ hs hm]
theorem stepD (s t : Nat) (h : s + s / 256 = t) (ht : t < 9223372036854775808) : IntKind.u64.wrap ((s : Int) + (s : Int) / 256) = (t : Int) := by
  rw [show (s : Int) + (s : Int) / 256 = ((s + s / 256 : Nat) : Int) from rfl, h, wu_id (by omega) (by omega)]
theorem stepE (s t : Nat) (h : s + s / 65536 = t) (ht : t < 9223372036854775808) : IntKind.u64.wrap ((s : Int) + (s : Int) / 65536) = (t : Int) := by
  rw [show (s : Int) + (s : Int) / 65536 = ((s + s / 65536 : Nat) : Int) from rfl, h, wu_id (by omega) (by omega)]
theorem stepF (s t : Nat) (h : s + s / 4294967296 = t) (ht : t < 9223372036854775808) : IntKind.u64.wrap ((s : Int) + (s : Int) / 4294967296) = (t : Int) := by
  rw [show (s : Int) + (s : Int) / 4294967296 = ((s + s / 4294967296 : Nat) : Int) from rfl, h, wu_id (by omega) (by omega)]
theorem stepG (v c : Nat) (hv : v < 9223372036854775808) (h : v % 128 = c) : Go.bits .and .i64 (wrap64 (v : Int)) 127 = (c : Int) := by
  have := bits_mask .i64 63 (by decide) (fun n h0 h1 => by rw [IntKind.wrap_i64]; omega) 7 (by decide) (v : Int) (by omega) (by omega)
  rw [w64_id (by omega) (by omega), show (127 : Int) = 2 ^ 7 - 1 from rfl, this, ← h]
  rfl
theorem ones_any (a c x y z t u v : Nat) (e1 : IntKind.u64.wrap (Go.bits .and .u64 ((a : Int) / 2) 6148914691236517205 + Go.bits .and .u64 (a : Int) 6148914691236517205) = (x : Int)) (e2 : IntKind.u64.wrap (Go.bits .and .u64 ((x : Int) / 4) 3689348814741910323 + Go.bits .and .u64 (x : Int) 3689348814741910323) = (y : Int))
    (e3 : Go.bits .and .u64 (IntKind.u64.wrap ((y : Int) / 16 + (y : Int))) 1085102592571150095 = (z : Int)) (ht : z + z / 256 = t) (hu : t + t / 65536 = u) (hv : u + u / 4294967296 = v) (hb : v < 9223372036854775808) (hf : v % 128 = c) : bits_OnesCount64.f a = some (c : Int) := by
  have et := stepD z t ht (by omega)
  have eu := stepE t u hu (by omega)
  have ev := stepF u v hv hb
  have eg := stepG v c hb hf
  unfold bits_OnesCount64.f
  simp only [e1, e2, e3, et, eu, ev, eg]
theorem ones_f (a : Nat) (ha : a < 18446744073709551616) : bits_OnesCount64.f a = some ((Lib.popAux 64 a : Nat) : Int) := by
  obtain ⟨t, u, v, ht, hu, hv, hb, hf⟩ := D8 a
  have g1 := F1_small a ha
  have g2 := F2_small (F1 8 a)
  have d := (s2_ok 8 a).2
  have e1 := stepA a (rep 85 8) 6148914691236517205 (by decide +kernel) ha (by decide +kernel) g1
  have e2 := stepB (F1 8 a) (rep 51 8) 3689348814741910323 (by decide +kernel) g1 (by decide +kernel) (Nat.lt_of_le_of_lt g2 (by decide))
  have e3 := stepC (F2 8 (F1 8 a)) (rep 15 8) 1085102592571150095 (by decide +kernel) (by decide +kernel) (by omega)
  rw [d] at e3
  exact ones_any a _ _ _ _ t u v e1 e2 e3 ht hu hv hb hf
theorem pop_zero : ∀ d, Lib.popAux d 0 = 0
  | 0 => rfl
  | d + 1 => by simp only [Lib.popAux]; rw [show 0 / 2 = 0 from rfl, pop_zero d]
theorem pop_add (d n m a : Nat) (hm : m = d + n) (ha : a < 2 ^ d) : Lib.popAux m a = Lib.popAux d a := by
  subst hm
  rw [pop_split d n a, Nat.div_eq_of_lt ha, Nat.mod_eq_of_lt ha, pop_zero, Nat.add_zero]
theorem pop_n (n a : Nat) (hn : n = 32 ∨ n = 64) (ha : a < 2 ^ n) : Lib.popAux 64 a = Lib.popAux n a :=
  pop_add n (64 - n) 64 a (by omega) ha
theorem pro_un (n : Nat) (op : Int) (a k : Nat) (hn : n = 32 ∨ n = 64) (ha : a < 18446744073709551616) (hop : op = 1 ∨ op = 2 ∨ op = 3) (hk : 600 < k) :
    ints_Un.f k n op a = some (unV n op (a % 2 ^ n)) := by
  obtain ⟨k, rfl⟩ : ∃ m, k = m + 1 := ⟨k - 1, by omega⟩
  have hA := Nat.mod_lt a (Nat.two_pow_pos n)
  have hp : 2 ^ n ≤ 18446744073709551616 := by rcases hn with rfl | rfl <;> decide
  unfold ints_Un.f
  rw [fn_right n hn, Option.bind_some, if_pos rfl, if_neg (by omega), decide_eq_false (by omega)]
  simp only [ints_Un.j0]
  rw [if_neg (by decide), mask_f n hn, Option.bind_some, andm n hn a ha]
  generalize a % 2 ^ n = a at *
  have hl := Lib.bitLen_le a n (by omega) hA
  rcases hop with rfl | rfl | rfl
  · rw [if_pos rfl]
    unfold bits_Len64.f
    rw [if_pos (by omega), Option.bind_some, Int.toNat_natCast, w64_id (by omega) (by omega), wu_id (by omega) (by omega)]
    show _ = some (((n - Lib.bitLen a : Nat) : Int), (0 : Int))
    congr 2
    omega
  · rw [if_neg (by decide), if_pos rfl]
    unfold bits_TrailingZeros64.f
    rw [if_pos (by omega), Option.bind_some, Int.toNat_natCast]
    show some (IntKind.u64.wrap (if (n : Int) < (Lib.ctz 64 a : Int) then (n : Int) else (Lib.ctz 64 a : Int)), (0 : Int)) = some (((min (Lib.ctz 64 a) n : Nat) : Int), (0 : Int))
    congr 2
    by_cases c : n < Lib.ctz 64 a
    · rw [if_pos (by omega), wu_id (by omega) (by omega), Nat.min_eq_right (by omega)]
    · rw [if_neg (by omega), wu_id (by omega) (by omega), Nat.min_eq_left (by omega)]
  · rw [if_neg (by decide), if_neg (by decide), if_pos rfl, ones_f a (by omega), Option.bind_some]
    have := pop_le 64 a
    rw [wu_id (by omega) (by omega)]
    rw [pop_n n a hn hA]
    rfl
end Go.Proofs.YtkhhhceeoljheaaGreatDoor.Pure
namespace Go.Proofs.YtkhhhceeoljheaaGreatDoor.Pure
open Go.RowKit Go.Proofs.YtkhhhceeoljheaaGreatDoorW.PrintWords Go.Proofs.YtkhhhceeoljheaaGreatDoorW.PrintLast Go.Proofs.YtkhhhceeoljheaaGreatDoorW.PrintMore Go.Proofs.YtkhhhceeoljheaaGreatDoor.PInt
theorem lift {α : Type} (f : Nat → Option α) (hm : ∀ k, LeO (f k) (f (k + 1))) (r : α) (K : Nat) (h : f K = some r) : ∀ k, K ≤ k → f k = some r := by
  intro k hk
  obtain ⟨d, rfl⟩ : ∃ d, k = K + d := ⟨k - K, by omega⟩
  clear hk
  induction d with
  | zero => exact h
  | succ d ih => exact hm _ r ih
def ty (n : Nat) : Int := if n = 32 then 127 else 126
theorem ty_cases {n : Nat} (hn : n = 32 ∨ n = 64) : (n = 32 ∧ ty n = 127) ∨ (n = 64 ∧ ty n = 126) := by rcases hn with rfl | rfl <;> simp [ty]
def vl (n a : Nat) : S33 := ⟨ty n, (a : Int), 0, false⟩
theorem w01 : wrap64 (0 + 1) = 1 := w64_id (by decide) (by decide)
theorem w11 : wrap64 (1 + 1) = 2 := w64_id (by decide) (by decide)
theorem m32 : (4294967295 : Int) = msk 32 := rfl
theorem clean_v (n : Nat) (hn : n = 32 ∨ n = 64) (xs ys : List S33) (a k m : Nat) (i : Nat) (ha : a < 18446744073709551616) (hi : i < 100) (hm : i < m) (hm' : m < 100) (hx : xs.length < 100) (hlen : ys.length = m) (hy : rd_T33 ys (i : Int) = vl n a) :
    scalar_clean.l0 (k + 2) xs ys (m : Int) (i : Int) = scalar_clean.l0 k (xs ++ [vl n (a % 2 ^ n)]) ys (m : Int) ((i + 1 : Nat) : Int) := by
  have e2 : wrap64 ((i : Int) + 1) = ((i + 1 : Nat) : Int) := by rw [w64_id (by omega) (by omega)]; rfl
  simp only [scalar_clean.l0]
  rw [if_pos (by omega), if_pos (by omega), if_pos (by omega), hy]
  rcases ty_cases hn with ⟨rfl, ht⟩ | ⟨rfl, ht⟩
  · simp only [vl, ht, ↓reduceIte, scalar_clean.j1, BEq.rfl]
    rw [if_pos (by omega), m32, andm 32 (by omega) a ha, e2]
  · simp only [vl, ht, ↓reduceIte, scalar_clean.j1, Int.reduceEq, Int.reduceBEq, Bool.false_eq_true]
    rw [if_pos (by omega), Nat.mod_eq_of_lt (by omega), e2]
theorem clean_end (xs ys : List S33) (k m : Nat) : scalar_clean.l0 (k + 1) xs ys (m : Int) (m : Int) = some xs := by
  simp only [scalar_clean.l0]
  rw [if_neg (by omega)]
theorem clean1 (n : Nat) (hn : n = 32 ∨ n = 64) (a k : Nat) (ha : a < 18446744073709551616) : scalar_clean.f (k + 3) [vl n a] = some [vl n (a % 2 ^ n)] := by
  unfold scalar_clean.f
  have h := clean_v n hn [] [vl n a] a (k + 1) 1 0 ha (by omega) (by omega) (by omega) (by decide) rfl rfl
  exact h.trans (clean_end _ _ k 1)
theorem clean2 (n : Nat) (hn : n = 32 ∨ n = 64) (a b k : Nat) (ha : a < 18446744073709551616) (hb : b < 18446744073709551616) : scalar_clean.f (k + 5) [vl n a, vl n b] = some [vl n (a % 2 ^ n), vl n (b % 2 ^ n)] := by
  unfold scalar_clean.f
  have h := clean_v n hn [] [vl n a, vl n b] a (k + 3) 2 0 ha (by omega) (by omega) (by omega) (by decide) rfl rfl
  have h2 := clean_v n hn [vl n (a % 2 ^ n)] [vl n a, vl n b] b (k + 1) 2 1 hb (by omega) (by omega) (by omega) (by show 1 < 100; omega) rfl rfl
  exact h.trans (h2.trans (clean_end _ _ k 2))
theorem width_ty (n : Nat) (hn : n = 32 ∨ n = 64) : scalar_width.f (ty n) = some (n : Int) := by rcases hn with rfl | rfl <;> rfl
theorem bits_ty (n : Nat) (hn : n = 32 ∨ n = 64) : bodkinref07_Bits.f (ty n) = some (n : Int) := by rcases hn with rfl | rfl <;> rfl
def out (n : Nat) (x : Nat) (e : Int) : Int × Int × Int × Bool × Int := if e = 0 then (ty n, ((x % 2 ^ n : Nat) : Int), 0, false, 0) else (0, 0, 0, false, e)
theorem do_j1 (n : Nat) (hn : n = 32 ∨ n = 64) (op : Int) (l : List Int) (a b : Int) (x : Nat) (e : Int) (k : Nat) (hx : x < 18446744073709551616) (h : scalar_work.f (k + 3) op n a b = some ((x : Int), e)) :
    scalar_Do.j1 (k + 4) op (ty n :: l) [ty n] a b = some (out n x e) := by
  have r0 : rd (ty n :: l) 0 = ty n := rfl
  have r1 : rd [ty n] 0 = ty n := rfl
  simp only [scalar_Do.j1]
  rw [if_pos (by rw [List.length_cons]; omega), r0, width_ty n hn, Option.bind_some, h, Option.bind_some]
  dsimp only
  unfold out
  by_cases c : e = 0
  · have hc := clean1 n hn x k hx
    rw [if_pos c, if_pos c, if_pos (by show (0 : Int) < 1; decide), r1]
    show ((scalar_clean.f (k + 3) [vl n x]).bind _) = _
    rw [hc, Option.bind_some, if_pos (by show (0 : Int) < 1; decide)]
    rfl
  · rw [if_neg c, if_neg c]
theorem scalar_do2 (n : Nat) (hn : n = 32 ∨ n = 64) (op : Int) (ok : Bool) (a b x : Nat) (e : Int) (k : Nat) (hk : 2000 < k) (ha : a < 18446744073709551616) (hb : b < 18446744073709551616) (hx : x < 18446744073709551616)
    (hop : op < 64768) (hS : ops_Sign.f op = some ([ty n, ty n], [ty n], ok)) (hN : scalar_Numeric.f op = some true) (h : ∀ k, 1000 < k → scalar_work.f k op n ((a % 2 ^ n : Nat) : Int) ((b % 2 ^ n : Nat) : Int) = some ((x : Int), e)) :
    scalar_Do.f k op [] [vl n a, vl n b] = some (out n x e) := by
  obtain ⟨k, rfl⟩ : ∃ m, k = m + 9 := ⟨k - 9, by omega⟩
  unfold scalar_Do.f
  rw [if_neg (by omega), hS, Option.bind_some, hN, Option.bind_some, if_pos rfl, if_neg (by decide), if_pos (by show (2 : Int) = 2; rfl)]
  have f0 : (rd_T33 [vl n a, vl n b] 0).f0 = rd [ty n, ty n] 0 := rfl
  have f1 : (rd_T33 [vl n a, vl n b] 1).f0 = rd [ty n, ty n] 1 := rfl
  have L : (([vl n a, vl n b] : List S33).length : Int) = 2 := rfl
  have L2 : (([ty n, ty n] : List Int).length : Int) = 2 := rfl
  have L3 : (([vl n (a % 2 ^ n), vl n (b % 2 ^ n)] : List S33).length : Int) = 2 := rfl
  simp only [scalar_Do.l0, L, L2, w01, w11, f0, f1, Int.reduceLT, Int.reduceLE, ↓reduceIte]
  rw [show k + 5 + 1 = (k + 1) + 5 by omega, clean2 n hn a b (k + 1) ha hb, Option.bind_some]
  simp only [L3, Int.reduceLT, Int.reduceGT, ↓reduceIte]
  exact do_j1 n hn op [ty n] ((a % 2 ^ n : Nat) : Int) ((b % 2 ^ n : Nat) : Int) x e (k + 2) hx (h _ (by omega))
theorem scalar_do1 (n : Nat) (hn : n = 32 ∨ n = 64) (op : Int) (ok : Bool) (a x : Nat) (e : Int) (k : Nat) (hk : 2000 < k) (ha : a < 18446744073709551616) (hx : x < 18446744073709551616)
    (hop : op < 64768) (hS : ops_Sign.f op = some ([ty n], [ty n], ok)) (hN : scalar_Numeric.f op = some true) (h : ∀ k, 1000 < k → scalar_work.f k op n ((a % 2 ^ n : Nat) : Int) 0 = some ((x : Int), e)) :
    scalar_Do.f k op [] [vl n a] = some (out n x e) := by
  obtain ⟨k, rfl⟩ : ∃ m, k = m + 9 := ⟨k - 9, by omega⟩
  unfold scalar_Do.f
  rw [if_neg (by omega), hS, Option.bind_some, hN, Option.bind_some, if_pos rfl, if_neg (by decide), if_pos (by show (1 : Int) = 1; rfl)]
  have f0 : (rd_T33 [vl n a] 0).f0 = rd [ty n] 0 := rfl
  have L : (([vl n a] : List S33).length : Int) = 1 := rfl
  have L2 : (([ty n] : List Int).length : Int) = 1 := rfl
  have L3 : (([vl n (a % 2 ^ n)] : List S33).length : Int) = 1 := rfl
  simp only [scalar_Do.l0, L, L2, w01, f0, Int.reduceLT, Int.reduceLE, ↓reduceIte]
  rw [show k + 6 + 1 = (k + 4) + 3 by omega, clean1 n hn a (k + 4) ha, Option.bind_some]
  simp only [L3, Int.reduceLT, Int.reduceGT, ↓reduceIte]
  exact do_j1 n hn op [] ((a % 2 ^ n : Nat) : Int) 0 x e (k + 3) hx (h _ (by omega))
theorem rclean (n : Nat) (hn : n = 32 ∨ n = 64) (a k : Nat) (ha : a < 18446744073709551616) (hk : 100 < k) : bodkinref07_Clean.f k (ty n) a 0 false = some (ty n, ((a % 2 ^ n : Nat) : Int), 0, false) := by
  obtain ⟨k, rfl⟩ : ∃ m, k = m + 1 := ⟨k - 1, by omega⟩
  unfold bodkinref07_Clean.f
  rcases ty_cases hn with ⟨rfl, ht⟩ | ⟨rfl, ht⟩
  · rw [ht]
    simp only [bodkinref07_Clean.j0, ↓reduceIte, BEq.rfl]
    rw [show (32 : Int) = ((32 : Nat) : Int) from rfl, cut_f 32 a k (by omega) ha (by omega)]; rfl
  · rw [ht]
    simp only [bodkinref07_Clean.j0, Int.reduceEq, Int.reduceBEq, ↓reduceIte, Bool.false_eq_true]
    rw [Nat.mod_eq_of_lt (by omega)]
theorem ref_j2 (n : Nat) (hn : n = 32 ∨ n = 64) (l : List Int) (v : S33) (vs : List S33) (a : Nat) (b : Int) (x : Nat) (e : Int) (k : Nat) (hk : 1500 < k) (hx : x < 18446744073709551616) (c0 c2 : Int) (name c3 leaves : ByteArray) (c5 : Bool) (hv : v = vl n a)
    (hsz : 4 ≤ name.size) (hL : ∀ k, 1000 < k → bodkinref05_Types.f k leaves = some [ty n])
    (h : ∀ k, 1000 < k → bodkinref07_worked.f k (name.extract 0 1) n (ty n) (name.extract 4 name.size) (a : Int) b = some ((x : Int), e)) :
    bodkinref07_Do.j2 k (ty n :: l) (v :: vs) b c0 name c2 c3 leaves c5 = some (out n x e) := by
  obtain ⟨k, rfl⟩ : ∃ m, k = m + 1 := ⟨k - 1, by omega⟩
  subst hv
  have r0 : rd (ty n :: l) 0 = ty n := rfl
  have r1 : rd [ty n] 0 = ty n := rfl
  have r2 : (rd_T33 (vl n a :: vs) 0).f1 = (a : Int) := rfl
  have l1 : (0 : Int) < (([ty n] : List Int).length : Int) := by show (0 : Int) < 1; decide
  simp only [bodkinref07_Do.j2]
  rw [if_pos (by decide), if_pos (by omega), if_pos (by rw [List.length_cons]; omega), r0, bits_ty n hn, Option.bind_some, hL k (by omega), Option.bind_some, if_pos l1, if_pos (by omega), if_pos (by rw [List.length_cons]; omega), r1, r2, h k (by omega), Option.bind_some]
  dsimp only
  unfold out
  by_cases c : e = 0
  · rw [if_pos c, if_pos c, Option.bind_some, if_pos l1, r1, rclean n hn x k hx (by omega), Option.bind_some]
  · rw [if_neg c, if_neg c]
theorem ref_do2 (n : Nat) (hn : n = 32 ∨ n = 64) (op : Int) (a b x : Nat) (e : Int) (k : Nat) (hk : 2000 < k) (ha : a < 18446744073709551616) (hb : b < 18446744073709551616) (hx : x < 18446744073709551616) (r : Int × ByteArray × Int × ByteArray × ByteArray × Bool)
    (hop : op < 64768) (hO : ∀ k, 1000 < k → bodkinref05_Of.f k op = some r) (hT : ∀ k, 1000 < k → bodkinref05_Types.f k r.2.2.2.1 = some [ty n, ty n]) (hL : ∀ k, 1000 < k → bodkinref05_Types.f k r.2.2.2.2.1 = some [ty n]) (hN : ∀ k, 1000 < k → bodkinref07_Numeric.f k op = some true)
    (hsz : 4 ≤ r.2.1.size) (h : ∀ k, 1000 < k → bodkinref07_worked.f k (r.2.1.extract 0 1) n (ty n) (r.2.1.extract 4 r.2.1.size) ((a % 2 ^ n : Nat) : Int) ((b % 2 ^ n : Nat) : Int) = some ((x : Int), e)) :
    bodkinref07_Do.f k op [] [vl n a, vl n b] = some (out n x e) := by
  obtain ⟨k, rfl⟩ : ∃ m, k = m + 9 := ⟨k - 9, by omega⟩
  unfold bodkinref07_Do.f
  have f0 : (rd_T33 [vl n a, vl n b] 0) = vl n a := rfl
  have f1 : (rd_T33 [vl n a, vl n b] 1) = vl n b := rfl
  have g0 : rd [ty n, ty n] 0 = ty n := rfl
  have g1 : rd [ty n, ty n] 1 = ty n := rfl
  have L : (([vl n a, vl n b] : List S33).length : Int) = 2 := rfl
  have L2 : (([ty n, ty n] : List Int).length : Int) = 2 := rfl
  have M0 : ([] : List S33).length < 4398046511104 := by decide
  have M1 : ∀ v : S33, ([] ++ [v]).length < 4398046511104 := fun _ => by show 1 < _; decide
  rw [hO _ (by omega), Option.bind_some, hT _ (by omega), Option.bind_some, hN _ (by omega), Option.bind_some, if_pos rfl, if_pos (by rw [L, L2]), if_pos hop]
  simp only [bodkinref07_Do.j0, bodkinref07_Do.l0, L, L2, w01, w11, f0, f1, g0, g1, Int.reduceLT, Int.reduceLE, ↓reduceIte, List.length_nil, Int.reduceGT, Int.natCast_zero, decide_false, Bool.false_eq_true, gt_iff_lt]
  have v0 : ∀ a, (vl n a).f0 = ty n := fun _ => rfl
  have v1 : ∀ a, (vl n a).f1 = (a : Int) := fun _ => rfl
  have v2 : ∀ a, (vl n a).f2 = 0 := fun _ => rfl
  have v3 : ∀ a, (vl n a).f3 = false := fun _ => rfl
  simp only [v0, v1, v2, v3, ↓reduceIte]
  rw [rclean n hn a _ ha (by omega), Option.bind_some, rclean n hn b _ hb (by omega), if_pos (by decide), Option.bind_some]
  dsimp only
  have q : ([] ++ [(⟨ty n, ((a % 2 ^ n : Nat) : Int), 0, false⟩ : S33)] ++ [(⟨ty n, ((b % 2 ^ n : Nat) : Int), 0, false⟩ : S33)] : List S33) = [vl n (a % 2 ^ n), vl n (b % 2 ^ n)] := rfl
  have L3 : (([vl n (a % 2 ^ n), vl n (b % 2 ^ n)] : List S33).length : Int) = 2 := rfl
  have f2 : (rd_T33 [vl n (a % 2 ^ n), vl n (b % 2 ^ n)] 1).f1 = ((b % 2 ^ n : Nat) : Int) := rfl
  rw [if_pos (by show 1 < 4398046511104; decide), q, L3, if_neg (by omega), if_pos rfl, if_pos (by decide), f2]
  exact ref_j2 n hn [ty n] _ _ (a % 2 ^ n) _ x e _ (by omega) hx _ _ _ _ _ _ rfl hsz hL h
theorem ref_do1 (n : Nat) (hn : n = 32 ∨ n = 64) (op : Int) (a x : Nat) (e : Int) (k : Nat) (hk : 2000 < k) (ha : a < 18446744073709551616) (hx : x < 18446744073709551616) (r : Int × ByteArray × Int × ByteArray × ByteArray × Bool)
    (hop : op < 64768) (hO : ∀ k, 1000 < k → bodkinref05_Of.f k op = some r) (hT : ∀ k, 1000 < k → bodkinref05_Types.f k r.2.2.2.1 = some [ty n]) (hL : ∀ k, 1000 < k → bodkinref05_Types.f k r.2.2.2.2.1 = some [ty n]) (hN : ∀ k, 1000 < k → bodkinref07_Numeric.f k op = some true)
    (hsz : 4 ≤ r.2.1.size) (h : ∀ k, 1000 < k → bodkinref07_worked.f k (r.2.1.extract 0 1) n (ty n) (r.2.1.extract 4 r.2.1.size) ((a % 2 ^ n : Nat) : Int) 0 = some ((x : Int), e)) :
    bodkinref07_Do.f k op [] [vl n a] = some (out n x e) := by
  obtain ⟨k, rfl⟩ : ∃ m, k = m + 9 := ⟨k - 9, by omega⟩
  unfold bodkinref07_Do.f
  have f0 : (rd_T33 [vl n a] 0) = vl n a := rfl
  have g0 : rd [ty n] 0 = ty n := rfl
  have L : (([vl n a] : List S33).length : Int) = 1 := rfl
  have L2 : (([ty n] : List Int).length : Int) = 1 := rfl
  rw [hO _ (by omega), Option.bind_some, hT _ (by omega), Option.bind_some, hN _ (by omega), Option.bind_some, if_pos rfl, if_pos (by rw [L, L2]), if_pos hop]
  simp only [bodkinref07_Do.j0, bodkinref07_Do.l0, L, L2, w01, f0, g0, Int.reduceLT, Int.reduceLE, ↓reduceIte, List.length_nil, Int.reduceGT, Int.natCast_zero, decide_false, Bool.false_eq_true, gt_iff_lt]
  have v0 : ∀ a, (vl n a).f0 = ty n := fun _ => rfl
  have v1 : ∀ a, (vl n a).f1 = (a : Int) := fun _ => rfl
  have v2 : ∀ a, (vl n a).f2 = 0 := fun _ => rfl
  have v3 : ∀ a, (vl n a).f3 = false := fun _ => rfl
  simp only [v0, v1, v2, v3, ↓reduceIte]
  rw [rclean n hn a _ ha (by omega), Option.bind_some, if_pos (by decide)]
  dsimp only
  have q : ([] ++ [(⟨ty n, ((a % 2 ^ n : Nat) : Int), 0, false⟩ : S33)] : List S33) = [vl n (a % 2 ^ n)] := rfl
  have L3 : (([vl n (a % 2 ^ n)] : List S33).length : Int) = 1 := rfl
  rw [q, L3, if_neg (by omega), if_neg (by decide)]
  exact ref_j2 n hn [] _ _ (a % 2 ^ n) _ x e _ (by omega) hx _ _ _ _ _ _ rfl hsz hL h
end Go.Proofs.YtkhhhceeoljheaaGreatDoor.Pure
namespace Go.Proofs.YtkhhhceeoljheaaGreatDoor.Pure
open Go.RowKit Go.Proofs.YtkhhhceeoljheaaGreatDoorW.PrintWords Go.Proofs.YtkhhhceeoljheaaGreatDoorW.PrintLast Go.Proofs.YtkhhhceeoljheaaGreatDoorW.PrintMore Go.Proofs.YtkhhhceeoljheaaGreatDoor.PInt
theorem work_un (n : Nat) (op j : Int) (a : Nat) (b : Int) (k : Nat) (hj : j = 1 ∨ j = 2 ∨ j = 3) (h : (n = 32 ∧ op = 102 + j) ∨ (n = 64 ∧ op = 120 + j)) (ha : a < 18446744073709551616) (hk : 700 < k) :
    scalar_work.f k op n a b = some (unV n j (a % 2 ^ n)) := by
  have hu := pro_un n j a k (by omega) ha hj (by omega)
  unfold scalar_work.f
  rw [if_neg (by omega), if_neg (by omega), if_neg (by omega), if_neg (by omega), if_neg (by omega), if_neg (by omega), w64_id (n := 1 + op) (by omega) (by omega)]
  rcases h with ⟨rfl, rfl⟩ | ⟨rfl, rfl⟩
  · rw [if_pos (by omega), w64_id (by omega) (by omega), show (1 + (102 + j)) - 103 = j by omega, hu]; rfl
  · rw [if_neg (by omega), if_neg (by omega), if_pos (by omega), w64_id (by omega) (by omega), show (1 + (120 + j)) - 121 = j by omega, hu]; rfl
theorem work_bin (n : Nat) (op j : Int) (a b : Nat) (k : Nat) (hj : 1 ≤ j ∧ j ≤ 15) (h : (n = 32 ∧ op = 105 + j) ∨ (n = 64 ∧ op = 123 + j)) (ha : a < 18446744073709551616) (hb : b < 18446744073709551616) (hk : 700 < k) :
    scalar_work.f k op n a b = some (binV n j (a % 2 ^ n) (b % 2 ^ n)) := by
  have hu := pro_bin n j a b k (by omega) ha hb hj (by omega)
  unfold scalar_work.f
  rw [if_neg (by omega), if_neg (by omega), if_neg (by omega), if_neg (by omega), if_neg (by omega), if_neg (by omega), if_neg (by omega), w64_id (n := 1 + op) (by omega) (by omega)]
  rcases h with ⟨rfl, rfl⟩ | ⟨rfl, rfl⟩
  · rw [if_pos (by omega), w64_id (by omega) (by omega), show (1 + (105 + j)) - 106 = j by omega, hu]; rfl
  · rw [if_neg (by omega), if_neg (by omega), if_pos (by omega), w64_id (by omega) (by omega), show (1 + (123 + j)) - 124 = j by omega, hu]; rfl
theorem unV_nat (n : Nat) (j : Int) (a : Nat) (hn : n = 32 ∨ n = 64) : ∃ x : Nat, x < 18446744073709551616 ∧ unV n j a = ((x : Int), 0) := by
  have := pop_le n a
  unfold unV
  split
  · exact ⟨n - Lib.bitLen a, by omega, rfl⟩
  · split
    · exact ⟨min (Lib.ctz 64 a) n, by omega, rfl⟩
    · exact ⟨Lib.popAux n a, by omega, rfl⟩
theorem emod_nat (z : Int) (n : Nat) (hn : n = 32 ∨ n = 64) : ∃ x : Nat, x < 18446744073709551616 ∧ z % ((2 ^ n : Nat) : Int) = (x : Int) := by
  refine ⟨(z % ((2 ^ n : Nat) : Int)).toNat, ?_, ?_⟩
  · rcases hn with rfl | rfl
    · show (z % ((4294967296 : Nat) : Int)).toNat < _; omega
    · show (z % ((18446744073709551616 : Nat) : Int)).toNat < _; omega
  · rcases hn with rfl | rfl
    · show z % ((4294967296 : Nat) : Int) = (((z % ((4294967296 : Nat) : Int)).toNat : Nat) : Int); omega
    · show z % ((18446744073709551616 : Nat) : Int) = (((z % ((18446744073709551616 : Nat) : Int)).toNat : Nat) : Int); omega
theorem binV_nat (n : Nat) (j : Int) (a b : Nat) (hn : n = 32 ∨ n = 64) (ha : a < 2 ^ n) (hb : b < 2 ^ n) : ∃ (x : Nat) (e : Int), x < 18446744073709551616 ∧ binV n j a b = ((x : Int), e) := by
  have hp : 2 ^ n ≤ 18446744073709551616 := by rcases hn with rfl | rfl <;> decide
  have hs : b % n < n := Nat.mod_lt _ (by omega)
  have lt : ∀ m, m % 2 ^ n < 18446744073709551616 := fun m => Nat.lt_of_lt_of_le (Nat.mod_lt _ (Nat.two_pow_pos n)) hp
  unfold binV
  by_cases c1 : j = 1
  · rw [if_pos c1]; obtain ⟨x, hx, e⟩ := emod_nat ((a : Int) + b) n hn; exact ⟨x, 0, hx, by rw [e]⟩
  rw [if_neg c1]
  by_cases c2 : j = 2
  · rw [if_pos c2]; obtain ⟨x, hx, e⟩ := emod_nat ((a : Int) - b) n hn; exact ⟨x, 0, hx, by rw [e]⟩
  rw [if_neg c2]
  by_cases c3 : j = 3
  · rw [if_pos c3]; exact ⟨_, 0, lt _, rfl⟩
  rw [if_neg c3]
  by_cases c4 : j ≤ 7
  · rw [if_pos c4]
    unfold divV
    by_cases d1 : b = 0
    · rw [if_pos d1]; exact ⟨0, 41, by omega, rfl⟩
    rw [if_neg d1]
    by_cases d2 : j = 5
    · rw [if_pos d2]; exact ⟨a / b, 0, Nat.lt_of_le_of_lt (Nat.div_le_self _ _) (by omega), rfl⟩
    rw [if_neg d2]
    by_cases d3 : j = 7
    · rw [if_pos d3]; exact ⟨a % b, 0, Nat.lt_of_le_of_lt (Nat.mod_le _ _) (by omega), rfl⟩
    rw [if_neg d3]
    by_cases d4 : j = 6
    · rw [if_pos d4]; obtain ⟨x, hx, e⟩ := emod_nat (Int.tmod (sg n a) (sg n b)) n hn; exact ⟨x, 0, hx, by rw [e]⟩
    rw [if_neg d4]
    by_cases d5 : sg n b = -1 ∧ a = 2 ^ (n - 1)
    · rw [if_pos d5]; exact ⟨0, 42, by omega, rfl⟩
    · rw [if_neg d5]; obtain ⟨x, hx, e⟩ := emod_nat (Int.tdiv (sg n a) (sg n b)) n hn; exact ⟨x, 0, hx, by rw [e]⟩
  rw [if_neg c4]
  by_cases c8 : j = 8
  · rw [if_pos c8]; exact ⟨_, 0, Nat.lt_of_lt_of_le (Nat.and_lt_two_pow a hb) hp, rfl⟩
  rw [if_neg c8]
  by_cases c9 : j = 9
  · rw [if_pos c9]; exact ⟨_, 0, Nat.lt_of_lt_of_le (Nat.or_lt_two_pow ha hb) hp, rfl⟩
  rw [if_neg c9]
  by_cases c10 : j = 10
  · rw [if_pos c10]; exact ⟨_, 0, Nat.lt_of_lt_of_le (Nat.xor_lt_two_pow ha hb) hp, rfl⟩
  rw [if_neg c10]
  by_cases c11 : j = 11
  · rw [if_pos c11]; exact ⟨_, 0, lt _, rfl⟩
  rw [if_neg c11]
  by_cases c12 : j = 12
  · rw [if_pos c12]; exact ⟨_, 0, Nat.lt_of_lt_of_le (sar_lt n a _ hs ha) hp, rfl⟩
  rw [if_neg c12]
  by_cases c13 : j = 13
  · rw [if_pos c13]; exact ⟨_, 0, Nat.lt_of_le_of_lt (Nat.div_le_self _ _) (Nat.lt_of_lt_of_le ha hp), rfl⟩
  rw [if_neg c13]
  by_cases c14 : j = 14
  · rw [if_pos c14]; exact ⟨_, 0, Nat.lt_of_lt_of_le (rot_lt2 n a _ (Nat.le_of_lt hs) ha) hp, rfl⟩
  · rw [if_neg c14]; exact ⟨_, 0, Nat.lt_of_lt_of_le (rot_lt2 n a _ (Nat.le_of_lt (Nat.mod_lt _ (by omega))) ha) hp, rfl⟩
def relL : List ByteArray := [(⟨#[]⟩ : ByteArray), (⟨#[101, 113]⟩ : ByteArray), (⟨#[110, 101]⟩ : ByteArray), (⟨#[108, 116, 95, 115]⟩ : ByteArray), (⟨#[108, 116, 95, 117]⟩ : ByteArray), (⟨#[103, 116, 95, 115]⟩ : ByteArray), (⟨#[103, 116, 95, 117]⟩ : ByteArray), (⟨#[108, 101, 95, 115]⟩ : ByteArray), (⟨#[108, 101, 95, 117]⟩ : ByteArray), (⟨#[103, 101, 95, 115]⟩ : ByteArray), (⟨#[103, 101, 95, 117]⟩ : ByteArray)]
def unL : List ByteArray := [(⟨#[]⟩ : ByteArray), (⟨#[99, 108, 122]⟩ : ByteArray), (⟨#[99, 116, 122]⟩ : ByteArray), (⟨#[112, 111, 112, 99, 110, 116]⟩ : ByteArray), (⟨#[101, 120, 116, 101, 110, 100, 56, 95, 115]⟩ : ByteArray), (⟨#[101, 120, 116, 101, 110, 100, 49, 54, 95, 115]⟩ : ByteArray), (⟨#[101, 120, 116, 101, 110, 100, 51, 50, 95, 115]⟩ : ByteArray)]
def binL : List ByteArray := [(⟨#[]⟩ : ByteArray), (⟨#[97, 100, 100]⟩ : ByteArray), (⟨#[115, 117, 98]⟩ : ByteArray), (⟨#[109, 117, 108]⟩ : ByteArray), (⟨#[100, 105, 118, 95, 115]⟩ : ByteArray), (⟨#[100, 105, 118, 95, 117]⟩ : ByteArray), (⟨#[114, 101, 109, 95, 115]⟩ : ByteArray), (⟨#[114, 101, 109, 95, 117]⟩ : ByteArray), (⟨#[97, 110, 100]⟩ : ByteArray), (⟨#[111, 114]⟩ : ByteArray), (⟨#[120, 111, 114]⟩ : ByteArray), (⟨#[115, 104, 108]⟩ : ByteArray), (⟨#[115, 104, 114, 95, 115]⟩ : ByteArray), (⟨#[115, 104, 114, 95, 117]⟩ : ByteArray), (⟨#[114, 111, 116, 108]⟩ : ByteArray), (⟨#[114, 111, 116, 114]⟩ : ByteArray)]
def eqzL : List UInt8 := [101, 113, 122]
theorem ilift (w : ByteArray) (l : List ByteArray) (r : Int) (h : bodkinref07_index.f 40 w l = some r) : ∀ k, 40 ≤ k → bodkinref07_index.f k w l = some r := lift (fun k => bodkinref07_index.f k w l) (fun k => bodkinref07_index.mono w l k) r 40 h
theorem worked_j1 (kd w : ByteArray) (n : Nat) (t : Int) (a b : Int) (k : Nat) (h0 : ¬ kd.toList = [102]) (h1 : ¬ w.toList = eqzL) (h2 : w.size ≤ 6) : bodkinref07_worked.f k kd n t w a b = (bodkinref07_index.f k w relL).bind fun t347 => (if t347 > 0 then none else (bodkinref07_index.f k w unL).bind fun t354 => (if t354 > 0 then (bodkinref02_Un.f k n t354 a).bind fun bt355 => (some (bt355.1, bt355.2)) else (bodkinref07_index.f k w binL).bind fun t360 => (bodkinref02_Bin.f k n t360 a b).bind fun bt361 => (some (bt361.1, bt361.2)))) := by
  unfold bodkinref07_worked.f
  unfold eqzL at h1
  rw [if_neg h1, if_neg (by omega), if_neg (by omega), if_neg (by omega), if_neg h0]
  rfl
theorem worked_un (kd w : ByteArray) (n : Nat) (t : Int) (a : Nat) (b j : Int) (k : Nat) (hn : n = 32 ∨ n = 64) (ha : a < 18446744073709551616) (hj : j = 1 ∨ j = 2 ∨ j = 3) (hk : 800 < k) (h0 : ¬ kd.toList = [102]) (h1 : ¬ w.toList = eqzL) (h2 : w.size ≤ 6)
    (hr : bodkinref07_index.f 40 w relL = some (-1)) (hu : bodkinref07_index.f 40 w unL = some j) : bodkinref07_worked.f k kd n t w a b = some (unV n j (a % 2 ^ n)) := by
  rw [worked_j1 kd w n t a b k h0 h1 h2]
  have e1 := ilift w relL _ hr k (by omega)
  have e2 := ilift w unL _ hu k (by omega)
  rw [e1, Option.bind_some, if_neg (by decide), e2, Option.bind_some, if_pos (by omega), ref_un n j a k hn ha hj (by omega)]
  rfl
theorem worked_bin (kd w : ByteArray) (n : Nat) (t : Int) (a b : Nat) (j : Int) (k : Nat) (hn : n = 32 ∨ n = 64) (ha : a < 18446744073709551616) (hb : b < 18446744073709551616) (hj : 1 ≤ j ∧ j ≤ 15) (hk : 800 < k) (h0 : ¬ kd.toList = [102]) (h1 : ¬ w.toList = eqzL) (h2 : w.size ≤ 6)
    (hr : bodkinref07_index.f 40 w relL = some (-1)) (hu : bodkinref07_index.f 40 w unL = some (-1)) (hv : bodkinref07_index.f 40 w binL = some j) : bodkinref07_worked.f k kd n t w a b = some (binV n j (a % 2 ^ n) (b % 2 ^ n)) := by
  rw [worked_j1 kd w n t a b k h0 h1 h2]
  have e1 := ilift w relL _ hr k (by omega)
  have e2 := ilift w unL _ hu k (by omega)
  have e3 := ilift w binL _ hv k (by omega)
  rw [e1, Option.bind_some, if_neg (by decide), e2, Option.bind_some, if_neg (by decide), e3, Option.bind_some, ref_bin n j a b k hn ha hb hj (by omega)]
  rfl
end Go.Proofs.YtkhhhceeoljheaaGreatDoor.Pure

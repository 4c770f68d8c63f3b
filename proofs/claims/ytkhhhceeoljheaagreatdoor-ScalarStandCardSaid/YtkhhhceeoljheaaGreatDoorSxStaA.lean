import Derived.Test.YtkhhhceeoljheaaGreatDoorSxPStax16
import Derived.Laws.Bits64
set_option linter.unusedVariables false
set_option linter.unusedSimpArgs false
namespace Go.Proofs.YtkhhhceeoljheaaGreatDoor.Pure
open Go.RowKit Go.Proofs.YtkhhhceeoljheaaGreatDoorW.PrintWords Go.Proofs.YtkhhhceeoljheaaGreatDoorW.PrintLast Go.Proofs.YtkhhhceeoljheaaGreatDoorW.PrintMore Go.Proofs.YtkhhhceeoljheaaGreatDoor.PSta
theorem wu (n : Int) : IntKind.u64.wrap n = n % 18446744073709551616 := IntKind.wrap_u64 n
theorem wu_id {n : Int} (h0 : 0 ≤ n) (h1 : n < 18446744073709551616) : IntKind.u64.wrap n = n := by rw [wu]; omega
theorem w64_id {n : Int} (h0 : -9223372036854775808 ≤ n) (h1 : n < 9223372036854775808) : wrap64 n = n := by unfold wrap64; omega
theorem two_pow_le {i n : Nat} (h : i ≤ n) : 2 ^ i ≤ 2 ^ n := Nat.pow_le_pow_right (by omega) h
theorem tdiv_nat (a b : Nat) : Int.tdiv (a : Int) (b : Int) = ((a / b : Nat) : Int) := by
  rw [Int.tdiv_eq_ediv_of_nonneg (by omega)]; rfl
theorem tmod_nat (a b : Nat) : Int.tmod (a : Int) (b : Int) = ((a % b : Nat) : Int) := by
  rw [Int.tmod_eq_emod_of_nonneg (by omega)]; rfl
theorem cut_l0 (n a : Nat) (hn : n < 64) : ∀ (d k i : Nat), i + d = n → d < k → bodkinref02_Cut.l0 k n a ((2 ^ i : Nat) : Int) i = some ((a % 2 ^ n : Nat) : Int)
  | 0, k, i, h, hk => by
    obtain ⟨k, rfl⟩ : ∃ m, k = m + 1 := ⟨k - 1, by omega⟩
    obtain rfl : i = n := by omega
    have hp : 0 < 2 ^ i := Nat.two_pow_pos i
    simp only [bodkinref02_Cut.l0]
    rw [if_neg (by omega), if_neg (by omega), tmod_nat]
  | d + 1, k, i, h, hk => by
    obtain ⟨k, rfl⟩ : ∃ m, k = m + 1 := ⟨k - 1, by omega⟩
    have hp : 2 ^ (i + 1) ≤ 2 ^ 63 := two_pow_le (by omega)
    have ih := cut_l0 n a hn d k (i + 1) (by omega) (by omega)
    have e1 : IntKind.u64.wrap (((2 ^ i : Nat) : Int) * 2) = ((2 ^ (i + 1) : Nat) : Int) := by
      rw [wu, Nat.pow_succ]
      rw [Nat.pow_succ] at hp
      generalize 2 ^ i = p at *
      omega
    have e2 : wrap64 ((i : Int) + 1) = ((i + 1 : Nat) : Int) := by rw [w64_id (by omega) (by omega)]; rfl
    simp only [bodkinref02_Cut.l0]
    rw [if_pos (by omega), e1, e2]
    exact ih
theorem cut_f (n a k : Nat) (hn : n ≤ 64) (ha : a < 18446744073709551616) (hk : n + 1 < k) : bodkinref02_Cut.f k n a = some ((a % 2 ^ n : Nat) : Int) := by
  unfold bodkinref02_Cut.f
  by_cases c : (n : Int) = 64
  · rw [if_pos c]
    obtain rfl : n = 64 := by omega
    rw [Nat.mod_eq_of_lt (by simpa using ha)]
  · rw [if_neg c]
    exact cut_l0 n a (by omega) n k 0 (by omega) (by omega)
theorem bit_l0 (n : Nat) : ∀ (d k i a : Nat), i + d = n → d < k → n < 1000 → a < 18446744073709551616 → bodkinref02_bit.l0 k a n i = some ((a / 2 ^ d % 2 : Nat) : Int)
  | 0, k, i, a, h, hk, _, _ => by
    obtain ⟨k, rfl⟩ : ∃ m, k = m + 1 := ⟨k - 1, by omega⟩
    simp only [bodkinref02_bit.l0]
    rw [if_neg (by omega), show ((2 : Int)) = ((2 : Nat) : Int) from rfl, tmod_nat]
    simp
  | d + 1, k, i, a, h, hk, hn, ha => by
    obtain ⟨k, rfl⟩ : ∃ m, k = m + 1 := ⟨k - 1, by omega⟩
    have ih := bit_l0 n d k (i + 1) (a / 2) (by omega) (by omega) hn (by omega)
    have e1 : IntKind.u64.wrap (Int.tdiv (a : Int) 2) = ((a / 2 : Nat) : Int) := by
      rw [show ((2 : Int)) = ((2 : Nat) : Int) from rfl, tdiv_nat, wu]; omega
    have e2 : wrap64 ((i : Int) + 1) = ((i + 1 : Nat) : Int) := by rw [w64_id (by omega) (by omega)]; rfl
    simp only [bodkinref02_bit.l0]
    rw [if_pos (by omega), e1, e2, ih, Nat.div_div_eq_div_mul, Nat.pow_succ, Nat.mul_comm]
theorem bit_f (n a k : Nat) (hn : n < 1000) (ha : a < 18446744073709551616) (hk : n < k) : bodkinref02_bit.f k a n = some ((a / 2 ^ n % 2 : Nat) : Int) :=
  bit_l0 n n k 0 a (by omega) hk hn ha
def sg (n a : Nat) : Int := if a / 2 ^ (n - 1) % 2 = 1 then ((a % 2 ^ n : Nat) : Int) - ((2 ^ n : Nat) : Int) else ((a % 2 ^ n : Nat) : Int)
theorem right_f (n : Nat) (h : n = 8 ∨ n = 16 ∨ n = 32 ∨ n = 64) : bodkinref02_Right.f n = some true := by
  rcases h with rfl | rfl | rfl | rfl <;> rfl
theorem mod_bit {n a : Nat} (hn : 0 < n) : (a % 2 ^ n) / 2 ^ (n - 1) % 2 = a / 2 ^ (n - 1) % 2 := by
  obtain ⟨m, rfl⟩ : ∃ m, n = m + 1 := ⟨n - 1, by omega⟩
  rw [Nat.add_sub_cancel, Nat.pow_succ, Nat.mod_mul_right_div_self]
  omega
theorem low_of_bit {n a : Nat} (hn : 0 < n) : (a / 2 ^ (n - 1) % 2 = 1 → 2 ^ (n - 1) ≤ a % 2 ^ n) ∧ (¬ a / 2 ^ (n - 1) % 2 = 1 → a % 2 ^ n < 2 ^ (n - 1)) := by
  obtain ⟨m, rfl⟩ : ∃ m, n = m + 1 := ⟨n - 1, by omega⟩
  rw [Nat.add_sub_cancel, Nat.pow_succ, Nat.mod_mul]
  have hp : 0 < 2 ^ m := Nat.two_pow_pos m
  have h1 := Nat.mod_lt a hp
  have h2 := Nat.mod_lt (a / 2 ^ m) (show 0 < 2 by omega)
  generalize a / 2 ^ m % 2 = c at *
  generalize 2 ^ m = p at *
  constructor
  · intro h; subst h; omega
  · intro h
    obtain rfl : c = 0 := by omega
    omega
theorem signed_f (n a k : Nat) (h : n = 8 ∨ n = 16 ∨ n = 32 ∨ n = 64) (ha : a < 18446744073709551616) (hk : 70 < k) : bodkinref02_Signed.f k n a = some (sg n a) := by
  have hn : 0 < n ∧ n ≤ 64 := by omega
  have hm := Nat.mod_lt a (Nat.two_pow_pos n)
  have hp := two_pow_le hn.2
  have h64 : (2 : Nat) ^ 64 = 18446744073709551616 := rfl
  have hb := low_of_bit (n := n) (a := a) hn.1
  have hh : 2 ^ n = 2 * 2 ^ (n - 1) := by
    obtain ⟨m, rfl⟩ : ∃ m, n = m + 1 := ⟨n - 1, by omega⟩
    rw [Nat.add_sub_cancel, Nat.pow_succ, Nat.mul_comm]
  unfold bodkinref02_Signed.f
  rw [right_f n h, Option.bind_some, if_pos rfl, cut_f n a k hn.2 ha (by omega), Option.bind_some, w64_id (by omega) (by omega), show (n : Int) - 1 = ((n - 1 : Nat) : Int) by omega, bit_f (n - 1) _ k (by omega) (by omega) (by omega), Option.bind_some, mod_bit hn.1]
  unfold sg
  by_cases c : a / 2 ^ (n - 1) % 2 = 1
  · rw [if_pos c, if_pos (by omega)]
    have hc := hb.1 c
    generalize hx : a % 2 ^ n = x at *
    have e1 : IntKind.u64.wrap (-(x : Int)) = ((18446744073709551616 - x : Nat) : Int) := by rw [wu]; omega
    have e2 : (18446744073709551616 - x) % 2 ^ n = 2 ^ n - x := by
      have hd : 2 ^ n ∣ 18446744073709551616 := by rw [← h64]; exact Nat.pow_dvd_pow 2 hn.2
      obtain ⟨q, hq⟩ := hd
      have hq0 : 0 < q := by
        rcases Nat.eq_zero_or_pos q with rfl | h0
        · simp at hq
        · exact h0
      obtain ⟨r, rfl⟩ : ∃ r, q = r + 1 := ⟨q - 1, by omega⟩
      rw [hq, Nat.mul_add, Nat.mul_one, Nat.add_sub_assoc (by omega), Nat.mul_add_mod]
      exact Nat.mod_eq_of_lt (by omega)
    rw [e1, cut_f n _ k hn.2 (by omega) (by omega), Option.bind_some, e2]
    generalize 2 ^ n = p at *
    generalize 2 ^ (n - 1) = q at *
    rw [wu_id (by omega) (by omega)]
    have g1 : wrap64 (((p - x : Nat) : Int) - 1) = ((p - x : Nat) : Int) - 1 := w64_id (by omega) (by omega)
    rw [g1]
    have g2 : wrap64 (-(((p - x : Nat) : Int) - 1)) = -(((p - x : Nat) : Int) - 1) := w64_id (by omega) (by omega)
    rw [g2]
    have g3 : wrap64 (-(((p - x : Nat) : Int) - 1) - 1) = -(((p - x : Nat) : Int) - 1) - 1 := w64_id (by omega) (by omega)
    rw [g3]
    congr 1
    omega
  · rw [if_neg c, if_neg (by omega)]
    have hc := hb.2 c
    rw [w64_id (by omega) (by omega)]
theorem sg_small (n a : Nat) (h : n = 32 ∨ n = 64) (ha : a < 2 ^ n) : (a < 2 ^ (n - 1) ∧ sg n a = a) ∨ (2 ^ (n - 1) ≤ a ∧ sg n a = (a : Int) - ((2 ^ n : Nat) : Int)) := by
  have hb := low_of_bit (n := n) (a := a) (by omega)
  unfold sg
  rw [Nat.mod_eq_of_lt ha] at *
  by_cases c : a / 2 ^ (n - 1) % 2 = 1
  · exact .inr ⟨hb.1 c, by rw [if_pos c]⟩
  · exact .inl ⟨hb.2 c, by rw [if_neg c]⟩
theorem wu64 (n : Int) (h0 : 0 ≤ n) (h1 : n < 2 ^ 64) : IntKind.u64.wrap n = n := wu_id h0 (by omega)
theorem andN (a b : Nat) (ha : a < 18446744073709551616) (hb : b < 18446744073709551616) : Go.bits .and .u64 (a : Int) (b : Int) = ((a &&& b : Nat) : Int) := (bits_nat .u64 64 (by decide) wu64 a b (by omega) (by omega)).1
theorem orN (a b : Nat) (ha : a < 18446744073709551616) (hb : b < 18446744073709551616) : Go.bits .or .u64 (a : Int) (b : Int) = ((a ||| b : Nat) : Int) := (bits_nat .u64 64 (by decide) wu64 a b (by omega) (by omega)).2
def msk (n : Nat) : Int := ((2 ^ n - 1 : Nat) : Int)
theorem mask_f (n : Nat) (hn : n = 32 ∨ n = 64) : ints_mask.f n = some (msk n) := by
  rcases hn with rfl | rfl <;> decide +kernel
theorem andm (n : Nat) (hn : n = 32 ∨ n = 64) (a : Nat) (ha : a < 18446744073709551616) : Go.bits .and .u64 (a : Int) (msk n) = ((a % 2 ^ n : Nat) : Int) := by
  unfold msk
  rw [andN a _ ha (by rcases hn with rfl | rfl <;> decide), Nat.and_two_pow_sub_one_eq_mod]
theorem isigned (n a : Nat) (hn : n = 32 ∨ n = 64) (ha : a < 2 ^ n) : ints_Signed.f n a = some (sg n a) := by
  have c := sg_small n a hn ha
  rcases hn with rfl | rfl
  · have e : ints_Signed.f ((32 : Nat) : Int) a = some (shr .i64 (wrap64 (shl .u64 a 32)) 32) := rfl
    rw [e]
    have e1 : shl .u64 (a : Int) 32 = (a : Int) * 4294967296 := by
      show IntKind.u64.wrap ((a : Int) * 4294967296) = _
      rw [wu_id (by omega) (by omega)]
    rw [e1]
    show some (wrap64 ((a : Int) * 4294967296) / 4294967296) = _
    congr 1
    unfold wrap64
    rcases c with ⟨h, c⟩ | ⟨h, c⟩ <;> rw [c] <;> omega
  · have e : ints_Signed.f ((64 : Nat) : Int) a = some (shr .i64 (wrap64 (shl .u64 a 0)) 0) := rfl
    rw [e]
    have e1 : shl .u64 (a : Int) 0 = (a : Int) := by
      show IntKind.u64.wrap ((a : Int) * 1) = _
      rw [Int.mul_one, wu_id (by omega) (by omega)]
    rw [e1]
    show some (wrap64 (a : Int) / 1) = _
    congr 1
    unfold wrap64
    rcases c with ⟨h, c⟩ | ⟨h, c⟩ <;> rw [c] <;> omega
theorem fn_right (n : Nat) (hn : n = 32 ∨ n = 64) : ints_right.f n = some true := by rcases hn with rfl | rfl <;> rfl
end Go.Proofs.YtkhhhceeoljheaaGreatDoor.Pure
set_option linter.unusedVariables false
set_option linter.unusedSimpArgs false
namespace Go.Proofs.YtkhhhceeoljheaaGreatDoor.Pure
open Go.RowKit Go.Proofs.YtkhhhceeoljheaaGreatDoorW.PrintWords Go.Proofs.YtkhhhceeoljheaaGreatDoorW.PrintLast Go.Proofs.YtkhhhceeoljheaaGreatDoorW.PrintMore Go.Proofs.YtkhhhceeoljheaaGreatDoor.PSta
theorem lift {α : Type} (f : Nat → Option α) (hm : ∀ k, LeO (f k) (f (k + 1))) (r : α) (K : Nat) (h : f K = some r) : ∀ k, K ≤ k → f k = some r := by
  intro k hk
  obtain ⟨d, rfl⟩ : ∃ d, k = K + d := ⟨k - K, by omega⟩
  clear hk
  induction d with
  | zero => exact h
  | succ d ih => exact hm _ r ih
def good (t : Int) : Prop := t = 127 ∨ t = 126 ∨ t = 125 ∨ t = 124
def nb (t : Int) : Nat := if t = 127 ∨ t = 125 then 32 else 64
def cl (t : Int) (a : Nat) : Nat := if t = 127 ∨ t = 125 then a % 4294967296 else a
theorem cl_lt (t : Int) (a : Nat) (h : a < 18446744073709551616) : cl t a < 18446744073709551616 := by unfold cl; split <;> omega
theorem w01 : wrap64 (0 + 1) = 1 := w64_id (by decide) (by decide)
theorem w11 : wrap64 (1 + 1) = 2 := w64_id (by decide) (by decide)
theorem and32 (a : Nat) (ha : a < 18446744073709551616) : Go.bits .and .u64 (a : Int) 4294967295 = ((a % 4294967296 : Nat) : Int) := andm 32 (by omega) a ha
theorem clean_v (t : Int) (g : good t) (a : Nat) (h : Int) (nl : Bool) (xs ys : List S33) (k m i : Nat) (ha : a < 18446744073709551616) (hi : i < 100) (hm : i < m) (hx : xs.length < 100) (hlen : ys.length = m) (hy : rd_T33 ys (i : Int) = ⟨t, (a : Int), h, nl⟩) :
    scalar_clean.l0 (k + 2) xs ys (m : Int) (i : Int) = scalar_clean.l0 k (xs ++ [⟨t, (cl t a : Int), 0, false⟩]) ys (m : Int) ((i + 1 : Nat) : Int) := by
  have e2 : wrap64 ((i : Int) + 1) = ((i + 1 : Nat) : Int) := by rw [w64_id (by omega) (by omega)]; rfl
  simp only [scalar_clean.l0]
  rw [if_pos (by omega), if_pos (by omega), if_pos (by omega), hy]
  rcases g with rfl | rfl | rfl | rfl
  · simp only [↓reduceIte, scalar_clean.j1, BEq.rfl]
    rw [if_pos (by omega), and32 a ha, e2]; rfl
  · simp only [↓reduceIte, scalar_clean.j1, Int.reduceEq, Int.reduceBEq, Bool.false_eq_true]
    rw [if_pos (by omega), e2]; rfl
  · simp only [↓reduceIte, scalar_clean.j1, Int.reduceEq, Int.reduceBEq, Bool.false_eq_true]
    rw [if_pos (by omega), and32 a ha, e2]; rfl
  · simp only [↓reduceIte, scalar_clean.j1, Int.reduceEq, Int.reduceBEq, Bool.false_eq_true]
    rw [if_pos (by omega), e2]; rfl
theorem clean_end (xs ys : List S33) (k m : Nat) : scalar_clean.l0 (k + 1) xs ys (m : Int) (m : Int) = some xs := by
  simp only [scalar_clean.l0]
  rw [if_neg (by omega)]
theorem clean1 (t : Int) (g : good t) (a : Nat) (h : Int) (nl : Bool) (k : Nat) (ha : a < 18446744073709551616) : scalar_clean.f (k + 3) [⟨t, (a : Int), h, nl⟩] = some [⟨t, (cl t a : Int), 0, false⟩] := by
  unfold scalar_clean.f
  have h := clean_v t g a h nl [] [⟨t, (a : Int), h, nl⟩] (k + 1) 1 0 ha (by omega) (by omega) (by decide) rfl rfl
  exact h.trans (clean_end _ _ k 1)
theorem clean2 (t : Int) (g : good t) (a : Nat) (h : Int) (nl : Bool) (u : Int) (gu : good u) (b : Nat) (hb' : Int) (nb' : Bool) (k : Nat) (ha : a < 18446744073709551616) (hb : b < 18446744073709551616) :
    scalar_clean.f (k + 5) [⟨t, (a : Int), h, nl⟩, ⟨u, (b : Int), hb', nb'⟩] = some [⟨t, (cl t a : Int), 0, false⟩, ⟨u, (cl u b : Int), 0, false⟩] := by
  unfold scalar_clean.f
  have h1 := clean_v t g a h nl [] [⟨t, (a : Int), h, nl⟩, ⟨u, (b : Int), hb', nb'⟩] (k + 3) 2 0 ha (by omega) (by omega) (by decide) rfl rfl
  have h2 := clean_v u gu b hb' nb' [⟨t, (cl t a : Int), 0, false⟩] [⟨t, (a : Int), h, nl⟩, ⟨u, (b : Int), hb', nb'⟩] (k + 1) 2 1 hb (by omega) (by omega) (by show 1 < 100; omega) rfl rfl
  exact h1.trans (h2.trans (clean_end _ _ k 2))
theorem width_ty (t : Int) (g : good t) : scalar_width.f t = some (nb t : Int) := by rcases g with rfl | rfl | rfl | rfl <;> rfl
def out (tl : Int) (x : Nat) (e : Int) : Int × Int × Int × Bool × Int := if e = 0 then (tl, (cl tl x : Int), 0, false, 0) else (0, 0, 0, false, e)
theorem do_j1 (t tl : Int) (g : good t) (gl : good tl) (op : Int) (l : List Int) (a b : Int) (x : Nat) (e : Int) (k : Nat) (hx : x < 18446744073709551616) (h : scalar_work.f (k + 3) op (nb t) a b = some ((x : Int), e)) :
    scalar_Do.j1 (k + 4) op (t :: l) [tl] a b = some (out tl x e) := by
  have r0 : rd (t :: l) 0 = t := rfl
  have r1 : rd [tl] 0 = tl := rfl
  simp only [scalar_Do.j1]
  rw [if_pos (by rw [List.length_cons]; omega), r0, width_ty t g, Option.bind_some, h, Option.bind_some]
  dsimp only
  unfold out
  by_cases c : e = 0
  · have hc := clean1 tl gl x 0 false k hx
    rw [if_pos c, if_pos c, if_pos (by show (0 : Int) < 1; decide), r1]
    show ((scalar_clean.f (k + 3) [⟨tl, (x : Int), 0, false⟩]).bind _) = _
    rw [hc, Option.bind_some, if_pos (by show (0 : Int) < 1; decide)]
    rfl
  · rw [if_neg c, if_neg c]
theorem sdo2 (t u tl : Int) (g : good t) (gu : good u) (gl : good tl) (op : Int) (ok : Bool) (a b x : Nat) (ha' hb' : Int) (na' nb' : Bool) (e : Int) (k : Nat) (hk : 2000 < k) (ha : a < 18446744073709551616) (hb : b < 18446744073709551616) (hx : x < 18446744073709551616)
    (hop : op < 64768) (hS : ops_Sign.f op = some ([t, u], [tl], ok)) (hN : scalar_Numeric.f op = some true) (h : ∀ k, 1000 < k → scalar_work.f k op (nb t) (cl t a : Int) (cl u b : Int) = some ((x : Int), e)) :
    scalar_Do.f k op [] [⟨t, (a : Int), ha', na'⟩, ⟨u, (b : Int), hb', nb'⟩] = some (out tl x e) := by
  obtain ⟨k, rfl⟩ : ∃ m, k = m + 9 := ⟨k - 9, by omega⟩
  unfold scalar_Do.f
  rw [if_neg (by omega), hS, Option.bind_some, hN, Option.bind_some, if_pos rfl, if_neg (by decide), if_pos (by show (2 : Int) = 2; rfl)]
  have f0 : (rd_T33 [⟨t, (a : Int), ha', na'⟩, ⟨u, (b : Int), hb', nb'⟩] 0).f0 = rd [t, u] 0 := rfl
  have f1 : (rd_T33 [⟨t, (a : Int), ha', na'⟩, ⟨u, (b : Int), hb', nb'⟩] 1).f0 = rd [t, u] 1 := rfl
  have L : (([⟨t, (a : Int), ha', na'⟩, ⟨u, (b : Int), hb', nb'⟩] : List S33).length : Int) = 2 := rfl
  have L2 : (([t, u] : List Int).length : Int) = 2 := rfl
  have L3 : (([⟨t, (cl t a : Int), 0, false⟩, ⟨u, (cl u b : Int), 0, false⟩] : List S33).length : Int) = 2 := rfl
  simp only [scalar_Do.l0, L, L2, w01, w11, f0, f1, Int.reduceLT, Int.reduceLE, ↓reduceIte]
  rw [show k + 5 + 1 = (k + 1) + 5 by omega, clean2 t g a ha' na' u gu b hb' nb' (k + 1) ha hb, Option.bind_some]
  simp only [L3, Int.reduceLT, Int.reduceGT, ↓reduceIte]
  exact do_j1 t tl g gl op [u] (cl t a : Int) (cl u b : Int) x e (k + 2) hx (h _ (by omega))
theorem sdo1 (t tl : Int) (g : good t) (gl : good tl) (op : Int) (ok : Bool) (a x : Nat) (ha' : Int) (na' : Bool) (e : Int) (k : Nat) (hk : 2000 < k) (ha : a < 18446744073709551616) (hx : x < 18446744073709551616)
    (hop : op < 64768) (hS : ops_Sign.f op = some ([t], [tl], ok)) (hN : scalar_Numeric.f op = some true) (h : ∀ k, 1000 < k → scalar_work.f k op (nb t) (cl t a : Int) 0 = some ((x : Int), e)) :
    scalar_Do.f k op [] [⟨t, (a : Int), ha', na'⟩] = some (out tl x e) := by
  obtain ⟨k, rfl⟩ : ∃ m, k = m + 9 := ⟨k - 9, by omega⟩
  unfold scalar_Do.f
  rw [if_neg (by omega), hS, Option.bind_some, hN, Option.bind_some, if_pos rfl, if_neg (by decide), if_pos (by show (1 : Int) = 1; rfl)]
  have f0 : (rd_T33 [⟨t, (a : Int), ha', na'⟩] 0).f0 = rd [t] 0 := rfl
  have L : (([⟨t, (a : Int), ha', na'⟩] : List S33).length : Int) = 1 := rfl
  have L2 : (([t] : List Int).length : Int) = 1 := rfl
  have L3 : (([⟨t, (cl t a : Int), 0, false⟩] : List S33).length : Int) = 1 := rfl
  simp only [scalar_Do.l0, L, L2, w01, f0, Int.reduceLT, Int.reduceLE, ↓reduceIte]
  rw [show k + 6 + 1 = (k + 4) + 3 by omega, clean1 t g a ha' na' (k + 4) ha, Option.bind_some]
  simp only [L3, Int.reduceLT, Int.reduceGT, ↓reduceIte]
  exact do_j1 t tl g gl op [] (cl t a : Int) 0 x e (k + 3) hx (h _ (by omega))
theorem bits_ty (t : Int) (g : good t) : bodkinref07_Bits.f t = some (nb t : Int) := by rcases g with rfl | rfl | rfl | rfl <;> rfl
theorem rclean (t : Int) (g : good t) (a k : Nat) (ha : a < 18446744073709551616) (hk : 100 < k) : bodkinref07_Clean.f k t a 0 false = some (t, (cl t a : Int), 0, false) := by
  obtain ⟨k, rfl⟩ : ∃ m, k = m + 1 := ⟨k - 1, by omega⟩
  unfold bodkinref07_Clean.f
  rcases g with rfl | rfl | rfl | rfl
  · simp only [bodkinref07_Clean.j0, ↓reduceIte, BEq.rfl]
    rw [show (32 : Int) = ((32 : Nat) : Int) from rfl, cut_f 32 a k (by omega) ha (by omega)]; rfl
  · simp only [bodkinref07_Clean.j0, Int.reduceEq, Int.reduceBEq, ↓reduceIte, Bool.false_eq_true]; rfl
  · simp only [bodkinref07_Clean.j0, Int.reduceEq, Int.reduceBEq, ↓reduceIte, Bool.false_eq_true]
    rw [show (32 : Int) = ((32 : Nat) : Int) from rfl, cut_f 32 a k (by omega) ha (by omega)]; rfl
  · simp only [bodkinref07_Clean.j0, Int.reduceEq, Int.reduceBEq, ↓reduceIte, Bool.false_eq_true]; rfl
theorem ref_j2 (t tl : Int) (g : good t) (gl : good tl) (l : List Int) (v : S33) (vs : List S33) (a : Nat) (b : Int) (x : Nat) (e : Int) (k : Nat) (hk : 1500 < k) (hx : x < 18446744073709551616) (c0 c2 : Int) (name c3 leaves : ByteArray) (c5 : Bool) (hv : v = ⟨t, (a : Int), 0, false⟩)
    (hsz : 4 ≤ name.size) (hL : ∀ k, 1000 < k → bodkinref05_Types.f k leaves = some [tl])
    (h : ∀ k, 1000 < k → bodkinref07_worked.f k (name.extract 0 1) (nb t) tl (name.extract 4 name.size) (a : Int) b = some ((x : Int), e)) :
    bodkinref07_Do.j2 k (t :: l) (v :: vs) b c0 name c2 c3 leaves c5 = some (out tl x e) := by
  obtain ⟨k, rfl⟩ : ∃ m, k = m + 1 := ⟨k - 1, by omega⟩
  subst hv
  have r0 : rd (t :: l) 0 = t := rfl
  have r1 : rd [tl] 0 = tl := rfl
  have r2 : (rd_T33 ((⟨t, (a : Int), 0, false⟩ : S33) :: vs) 0).f1 = (a : Int) := rfl
  have l1 : (0 : Int) < (([tl] : List Int).length : Int) := by show (0 : Int) < 1; decide
  simp only [bodkinref07_Do.j2]
  rw [if_pos (by decide), if_pos (by omega), if_pos (by rw [List.length_cons]; omega), r0, bits_ty t g, Option.bind_some, hL k (by omega), Option.bind_some, if_pos l1, if_pos (by omega), if_pos (by rw [List.length_cons]; omega), r1, r2, h k (by omega), Option.bind_some]
  dsimp only
  unfold out
  by_cases c : e = 0
  · rw [if_pos c, if_pos c, Option.bind_some, if_pos l1, r1, rclean tl gl x k hx (by omega), Option.bind_some]
  · rw [if_neg c, if_neg c]
theorem rdo2 (t u tl : Int) (g : good t) (gu : good u) (gl : good tl) (op : Int) (a b x : Nat) (e : Int) (k : Nat) (hk : 2000 < k) (ha : a < 18446744073709551616) (hb : b < 18446744073709551616) (hx : x < 18446744073709551616) (r : Int × ByteArray × Int × ByteArray × ByteArray × Bool)
    (hop : op < 64768) (hO : ∀ k, 1000 < k → bodkinref05_Of.f k op = some r) (hT : ∀ k, 1000 < k → bodkinref05_Types.f k r.2.2.2.1 = some [t, u]) (hL : ∀ k, 1000 < k → bodkinref05_Types.f k r.2.2.2.2.1 = some [tl]) (hN : ∀ k, 1000 < k → bodkinref07_Numeric.f k op = some true)
    (hsz : 4 ≤ r.2.1.size) (h : ∀ k, 1000 < k → bodkinref07_worked.f k (r.2.1.extract 0 1) (nb t) tl (r.2.1.extract 4 r.2.1.size) (cl t a : Int) (cl u b : Int) = some ((x : Int), e)) :
    bodkinref07_Do.f k op [] [⟨t, (a : Int), 0, false⟩, ⟨u, (b : Int), 0, false⟩] = some (out tl x e) := by
  obtain ⟨k, rfl⟩ : ∃ m, k = m + 9 := ⟨k - 9, by omega⟩
  unfold bodkinref07_Do.f
  have f0 : (rd_T33 [⟨t, (a : Int), 0, false⟩, ⟨u, (b : Int), 0, false⟩] 0) = ⟨t, (a : Int), 0, false⟩ := rfl
  have f1 : (rd_T33 [⟨t, (a : Int), 0, false⟩, ⟨u, (b : Int), 0, false⟩] 1) = ⟨u, (b : Int), 0, false⟩ := rfl
  have g0 : rd [t, u] 0 = t := rfl
  have g1 : rd [t, u] 1 = u := rfl
  have L : (([⟨t, (a : Int), 0, false⟩, ⟨u, (b : Int), 0, false⟩] : List S33).length : Int) = 2 := rfl
  have L2 : (([t, u] : List Int).length : Int) = 2 := rfl
  rw [hO _ (by omega), Option.bind_some, hT _ (by omega), Option.bind_some, hN _ (by omega), Option.bind_some, if_pos rfl, if_pos (by rw [L, L2]), if_pos hop]
  simp only [bodkinref07_Do.j0, bodkinref07_Do.l0, L, L2, w01, w11, f0, f1, g0, g1, Int.reduceLT, Int.reduceLE, ↓reduceIte, List.length_nil, Int.reduceGT, Int.natCast_zero, decide_false, Bool.false_eq_true, gt_iff_lt]
  rw [rclean t g a _ ha (by omega), Option.bind_some, rclean u gu b _ hb (by omega), if_pos (by decide), Option.bind_some]
  dsimp only
  have q : ([] ++ [(⟨t, (cl t a : Int), 0, false⟩ : S33)] ++ [(⟨u, (cl u b : Int), 0, false⟩ : S33)] : List S33) = [⟨t, (cl t a : Int), 0, false⟩, ⟨u, (cl u b : Int), 0, false⟩] := rfl
  have L3 : (([⟨t, (cl t a : Int), 0, false⟩, ⟨u, (cl u b : Int), 0, false⟩] : List S33).length : Int) = 2 := rfl
  have f2 : (rd_T33 [⟨t, (cl t a : Int), 0, false⟩, ⟨u, (cl u b : Int), 0, false⟩] 1).f1 = (cl u b : Int) := rfl
  rw [if_pos (by show 1 < 4398046511104; decide), q, L3, if_neg (by omega), if_pos rfl, if_pos (by decide), f2]
  exact ref_j2 t tl g gl [u] _ _ (cl t a) _ x e _ (by omega) hx _ _ _ _ _ _ rfl hsz hL h
theorem rdo1 (t tl : Int) (g : good t) (gl : good tl) (op : Int) (a x : Nat) (e : Int) (k : Nat) (hk : 2000 < k) (ha : a < 18446744073709551616) (hx : x < 18446744073709551616) (r : Int × ByteArray × Int × ByteArray × ByteArray × Bool)
    (hop : op < 64768) (hO : ∀ k, 1000 < k → bodkinref05_Of.f k op = some r) (hT : ∀ k, 1000 < k → bodkinref05_Types.f k r.2.2.2.1 = some [t]) (hL : ∀ k, 1000 < k → bodkinref05_Types.f k r.2.2.2.2.1 = some [tl]) (hN : ∀ k, 1000 < k → bodkinref07_Numeric.f k op = some true)
    (hsz : 4 ≤ r.2.1.size) (h : ∀ k, 1000 < k → bodkinref07_worked.f k (r.2.1.extract 0 1) (nb t) tl (r.2.1.extract 4 r.2.1.size) (cl t a : Int) 0 = some ((x : Int), e)) :
    bodkinref07_Do.f k op [] [⟨t, (a : Int), 0, false⟩] = some (out tl x e) := by
  obtain ⟨k, rfl⟩ : ∃ m, k = m + 9 := ⟨k - 9, by omega⟩
  unfold bodkinref07_Do.f
  have f0 : (rd_T33 [⟨t, (a : Int), 0, false⟩] 0) = ⟨t, (a : Int), 0, false⟩ := rfl
  have g0 : rd [t] 0 = t := rfl
  have L : (([⟨t, (a : Int), 0, false⟩] : List S33).length : Int) = 1 := rfl
  have L2 : (([t] : List Int).length : Int) = 1 := rfl
  rw [hO _ (by omega), Option.bind_some, hT _ (by omega), Option.bind_some, hN _ (by omega), Option.bind_some, if_pos rfl, if_pos (by rw [L, L2]), if_pos hop]
  simp only [bodkinref07_Do.j0, bodkinref07_Do.l0, L, L2, w01, f0, g0, Int.reduceLT, Int.reduceLE, ↓reduceIte, List.length_nil, Int.reduceGT, Int.natCast_zero, decide_false, Bool.false_eq_true, gt_iff_lt]
  rw [rclean t g a _ ha (by omega), Option.bind_some, if_pos (by decide)]
  dsimp only
  have q : ([] ++ [(⟨t, (cl t a : Int), 0, false⟩ : S33)] : List S33) = [⟨t, (cl t a : Int), 0, false⟩] := rfl
  have L3 : (([⟨t, (cl t a : Int), 0, false⟩] : List S33).length : Int) = 1 := rfl
  rw [q, L3, if_neg (by omega), if_neg (by decide)]
  exact ref_j2 t tl g gl [] _ _ (cl t a) _ x e _ (by omega) hx _ _ _ _ _ _ rfl hsz hL h
def facts (op : Int) (l : List Int) (tl : Int) (p : ByteArray → ByteArray → Bool) : Bool :=
  match bodkinref05_Of.f 900 op with
  | none => false
  | some r =>
    decide (bodkinref05_Types.f 900 r.2.2.2.1 = some l) && (decide (bodkinref05_Types.f 900 r.2.2.2.2.1 = some [tl]) && (decide (bodkinref07_Numeric.f 900 op = some true) && (decide (4 ≤ r.2.1.size) && (p (r.2.1.extract 0 1) (r.2.1.extract 4 r.2.1.size) && (decide (ops_Sign.f op = some (l, [tl], true)) && decide (scalar_Numeric.f op = some true))))))
theorem same_out (x y : Int × Int × Int × Bool × Int) (h : x = y) {α : Type} (p q r : α) : (if (!(x.1 == y.1) || (!(x.2.1 == y.2.1) || (!(x.2.2.1 == y.2.2.1) || (!(x.2.2.2.1 == y.2.2.2.1))))) = true then p else (if x.2.2.2.2 = y.2.2.2.2 then q else r)) = q := by
  subst h
  simp
theorem step2 (t u tl : Int) (g : good t) (gu : good u) (gl : good tl) (op tt : Int) (a b x : Nat) (e : Int) (k : Nat) (p : ByteArray → ByteArray → Bool) (hop : 0 ≤ op ∧ op < 64768) (ha : a < 18446744073709551616) (hb : b < 18446744073709551616) (hx : x < 18446744073709551616) (hto : op ≤ tt) (hk : 3000 < k) (hf : facts op [t, u] tl p = true)
    (h : ∀ k, 1000 < k → scalar_work.f k op (nb t) (cl t a : Int) (cl u b : Int) = some ((x : Int), e))
    (h' : ∀ kd w : ByteArray, p kd w = true → ∀ k, 1000 < k → bodkinref07_worked.f k kd (nb t) tl w (cl t a : Int) (cl u b : Int) = some ((x : Int), e)) :
    bodkinlaw07_some.l0 (k + 4) tt a b op = bodkinlaw07_some.l0 k tt a b (op + 1) := by
  unfold facts at hf
  generalize hO : bodkinref05_Of.f 900 op = o at hf
  cases o with
  | none => cases hf
  | some r =>
    dsimp only at hf
    simp only [Bool.and_eq_true, decide_eq_true_eq] at hf
    obtain ⟨hT, hL, hN, hz, hp, hS, hM⟩ := hf
    have lO := lift (fun k => bodkinref05_Of.f k op) (fun k => bodkinref05_Of.mono op k) r 900 hO
    have lT := lift (fun k => bodkinref05_Types.f k r.2.2.2.1) (fun k => bodkinref05_Types.mono _ k) _ 900 hT
    have lL := lift (fun k => bodkinref05_Types.f k r.2.2.2.2.1) (fun k => bodkinref05_Types.mono _ k) _ 900 hL
    have lN := lift (fun k => bodkinref07_Numeric.f k op) (fun k => bodkinref07_Numeric.mono _ k) _ 900 hN
    have pa := sdo2 t u tl g gu gl op true a b x 0 0 false false e k (by omega) ha hb hx (by omega) hS hM h
    have pb := rdo2 t u tl g gu gl op a b x e k (by omega) ha hb hx r (by omega) (fun k hk => lO k (by omega)) (fun k hk => lT k (by omega)) (fun k hk => lL k (by omega)) (fun k hk => lN k (by omega)) hz (h' _ _ hp)
    have e1 : wrap64 (op + 1) = op + 1 := w64_id (by omega) (by omega)
    have L : (([t, u] : List Int).length : Int) = 2 := rfl
    have g0 : rd [t, u] 0 = t := rfl
    have g1 : rd [(a : Int), (b : Int)] 0 = (a : Int) := rfl
    have g2 : rd [t, u] 1 = u := rfl
    have g3 : rd [(a : Int), (b : Int)] 1 = (b : Int) := rfl
    have L2 : (([(a : Int), (b : Int)] : List Int).length : Int) = 2 := rfl
    have q : ([] ++ [(⟨t, (a : Int), 0, false⟩ : S33)] : List S33) = [⟨t, (a : Int), 0, false⟩] := rfl
    have q2 : ([⟨t, (a : Int), 0, false⟩] ++ [(⟨u, (b : Int), 0, false⟩ : S33)] : List S33) = [⟨t, (a : Int), 0, false⟩, ⟨u, (b : Int), 0, false⟩] := rfl
    have M1 : ([⟨t, (a : Int), 0, false⟩] : List S33).length < 4398046511104 := by show 1 < 4398046511104; decide
    simp only [bodkinlaw07_some.l0]
    rw [if_pos hto, lO _ (by omega), Option.bind_some, lT _ (by omega), Option.bind_some]
    simp only [bodkinlaw07_some.l1, L, L2, g0, g1, g2, g3, w01, w11, q, q2, Int.reduceLT, Int.reduceLE, ↓reduceIte, Option.bind_some]
    rw [if_pos (by decide), if_pos M1, pa, Option.bind_some, pb, Option.bind_some, same_out _ _ rfl, e1]
theorem step1 (t tl : Int) (g : good t) (gl : good tl) (op tt : Int) (a b x : Nat) (e : Int) (k : Nat) (p : ByteArray → ByteArray → Bool) (hop : 0 ≤ op ∧ op < 64768) (ha : a < 18446744073709551616) (hx : x < 18446744073709551616) (hto : op ≤ tt) (hk : 3000 < k) (hf : facts op [t] tl p = true)
    (h : ∀ k, 1000 < k → scalar_work.f k op (nb t) (cl t a : Int) 0 = some ((x : Int), e))
    (h' : ∀ kd w : ByteArray, p kd w = true → ∀ k, 1000 < k → bodkinref07_worked.f k kd (nb t) tl w (cl t a : Int) 0 = some ((x : Int), e)) :
    bodkinlaw07_some.l0 (k + 3) tt a b op = bodkinlaw07_some.l0 k tt a b (op + 1) := by
  unfold facts at hf
  generalize hO : bodkinref05_Of.f 900 op = o at hf
  cases o with
  | none => cases hf
  | some r =>
    dsimp only at hf
    simp only [Bool.and_eq_true, decide_eq_true_eq] at hf
    obtain ⟨hT, hL, hN, hz, hp, hS, hM⟩ := hf
    have lO := lift (fun k => bodkinref05_Of.f k op) (fun k => bodkinref05_Of.mono op k) r 900 hO
    have lT := lift (fun k => bodkinref05_Types.f k r.2.2.2.1) (fun k => bodkinref05_Types.mono _ k) _ 900 hT
    have lL := lift (fun k => bodkinref05_Types.f k r.2.2.2.2.1) (fun k => bodkinref05_Types.mono _ k) _ 900 hL
    have lN := lift (fun k => bodkinref07_Numeric.f k op) (fun k => bodkinref07_Numeric.mono _ k) _ 900 hN
    have pa := sdo1 t tl g gl op true a x 0 false e k (by omega) ha hx (by omega) hS hM h
    have pb := rdo1 t tl g gl op a x e k (by omega) ha hx r (by omega) (fun k hk => lO k (by omega)) (fun k hk => lT k (by omega)) (fun k hk => lL k (by omega)) (fun k hk => lN k (by omega)) hz (h' _ _ hp)
    have e1 : wrap64 (op + 1) = op + 1 := w64_id (by omega) (by omega)
    have L : (([t] : List Int).length : Int) = 1 := rfl
    have g0 : rd [t] 0 = t := rfl
    have g1 : rd [(a : Int), (b : Int)] 0 = (a : Int) := rfl
    have L2 : (([(a : Int), (b : Int)] : List Int).length : Int) = 2 := rfl
    have q : ([] ++ [(⟨t, (a : Int), 0, false⟩ : S33)] : List S33) = [⟨t, (a : Int), 0, false⟩] := rfl
    simp only [bodkinlaw07_some.l0]
    rw [if_pos hto, lO _ (by omega), Option.bind_some, lT _ (by omega), Option.bind_some]
    simp only [bodkinlaw07_some.l1, L, L2, g0, g1, w01, q, Int.reduceLT, Int.reduceLE, ↓reduceIte, Option.bind_some]
    rw [if_pos (by decide), pa, Option.bind_some, pb, Option.bind_some, same_out _ _ rfl, e1]
def Q (tt a b op : Int) : Prop := ∃ k, 3000 < k ∧ bodkinlaw07_some.l0 k tt a b op = some true
theorem Q_end (tt a b : Int) : Q tt a b (tt + 1) := ⟨3001, by omega, by simp only [bodkinlaw07_some.l0]; rw [if_neg (by omega)]⟩
theorem u64_nat (a : Int) (h : (Lit.int .u64 a).wf = true) : ∃ n : Nat, a = (n : Int) ∧ n < 18446744073709551616 := by
  have h2 : 0 ≤ a ∧ a < 18446744073709551616 := by
    simp [Lit.wf, IntKind.min, IntKind.max, IntKind.bits, IntKind.signed] at h
    omega
  exact ⟨a.toNat, by omega, by omega⟩
end Go.Proofs.YtkhhhceeoljheaaGreatDoor.Pure
set_option linter.unusedVariables false
set_option linter.unusedSimpArgs false
namespace Go.Proofs.YtkhhhceeoljheaaGreatDoor.Pure
open Go.RowKit Go.Proofs.YtkhhhceeoljheaaGreatDoorW.PrintWords Go.Proofs.YtkhhhceeoljheaaGreatDoorW.PrintLast Go.Proofs.YtkhhhceeoljheaaGreatDoorW.PrintMore Go.Proofs.YtkhhhceeoljheaaGreatDoor.PSta Go.Proofs.YtkhhhceeoljheaaGreatDoor.Fl Ieee
def relI (n : Nat) (j : Int) (a b : Nat) : Bool := rdOf false [false, ((a : Int) == (b : Int)), ((a : Int) != (b : Int)), decide (sg n a < sg n b), decide ((a : Int) < (b : Int)), decide (sg n a > sg n b), decide ((a : Int) > (b : Int)), decide (sg n a ≤ sg n b), decide ((a : Int) ≤ (b : Int)), decide (sg n a ≥ sg n b), decide ((a : Int) ≥ (b : Int))] j
theorem ten {j : Int} (h : 1 ≤ j ∧ j ≤ 10) : j = 1 ∨ j = 2 ∨ j = 3 ∨ j = 4 ∨ j = 5 ∨ j = 6 ∨ j = 7 ∨ j = 8 ∨ j = 9 ∨ j = 10 := by omega
theorem pro_rel (n : Nat) (j : Int) (a b k : Nat) (hn : n = 32 ∨ n = 64) (ha : a < 18446744073709551616) (hb : b < 18446744073709551616) (hj : 1 ≤ j ∧ j ≤ 10) (hk : 5 < k) :
    ints_Rel.f k n j a b = some (relI n j (a % 2 ^ n) (b % 2 ^ n), 0) := by
  obtain ⟨k, rfl⟩ : ∃ m, k = m + 1 := ⟨k - 1, by omega⟩
  have hA := Nat.mod_lt a (Nat.two_pow_pos n)
  have hB := Nat.mod_lt b (Nat.two_pow_pos n)
  unfold ints_Rel.f
  rw [fn_right n hn, Option.bind_some, if_pos rfl, if_neg (by omega), decide_eq_false (by omega)]
  simp only [ints_Rel.j0]
  rw [if_neg (by decide), mask_f n hn, Option.bind_some, Option.bind_some, andm n hn a ha, andm n hn b hb, isigned n _ hn hA, Option.bind_some, isigned n _ hn hB, Option.bind_some]
  generalize a % 2 ^ n = A at *
  generalize b % 2 ^ n = B at *
  rcases ten hj with rfl | rfl | rfl | rfl | rfl | rfl | rfl | rfl | rfl | rfl <;> rfl
theorem ref_rel (n : Nat) (j : Int) (a b k : Nat) (hn : n = 32 ∨ n = 64) (ha : a < 18446744073709551616) (hb : b < 18446744073709551616) (hj : 1 ≤ j ∧ j ≤ 10) (hk : 200 < k) :
    bodkinref02_Rel.f k n j a b = some (relI n j (a % 2 ^ n) (b % 2 ^ n), 0) := by
  obtain ⟨k, rfl⟩ : ∃ m, k = m + 1 := ⟨k - 1, by omega⟩
  have hA := Nat.mod_lt a (Nat.two_pow_pos n)
  have hB := Nat.mod_lt b (Nat.two_pow_pos n)
  have hp : 2 ^ n ≤ 18446744073709551616 := by rcases hn with rfl | rfl <;> decide +kernel
  unfold bodkinref02_Rel.f
  rw [right_f n (by omega), Option.bind_some, if_pos rfl, if_neg (by omega), decide_eq_false (by omega)]
  simp only [bodkinref02_Rel.j0]
  rw [if_neg (by decide), cut_f n a _ (by omega) ha (by omega), Option.bind_some, cut_f n b _ (by omega) hb (by omega), Option.bind_some]
  generalize a % 2 ^ n = A at *
  generalize b % 2 ^ n = B at *
  rw [signed_f n A _ (by omega) (by omega) (by omega), Option.bind_some, signed_f n B _ (by omega) (by omega) (by omega), Option.bind_some, Option.bind_some, if_pos (by omega), if_pos (by show j < 11; omega)]
  rfl
def fm (n : Nat) : Format := if n = 32 then single else double
def fr (n : Nat) : Int := if n = 32 then 23 else 52
def ex (n : Nat) : Int := if n = 32 then 8 else 11
theorem f_sign (n : Nat) (hn : n = 32 ∨ n = 64) : floats_format_sign.f (fr n) (ex n) = some (((2 ^ (n - 1) : Nat) : Int)) := by rcases hn with rfl | rfl <;> decide +kernel
theorem f_inf (n : Nat) (hn : n = 32 ∨ n = 64) : floats_format_infinity.f (fr n) (ex n) = some ((fm n).infRung : Int) := by rcases hn with rfl | rfl <;> decide +kernel
theorem sw_n (n : Nat) (hn : n = 32 ∨ n = 64) : (fm n).signWeight = 2 ^ (n - 1) := by rcases hn with rfl | rfl <;> decide +kernel
theorem f_size (n : Nat) (hn : n = 32 ∨ n = 64) (a : Nat) (ha : a < 18446744073709551616) : floats_format_size.f (fr n) (ex n) (a : Int) = some ((siz (fm n) a : Nat) : Int) := by
  unfold floats_format_size.f
  rw [f_sign n hn, Option.bind_some]
  have h1 : IntKind.u64.wrap (((2 ^ (n - 1) : Nat) : Int) - 1) = ((2 ^ (n - 1) - 1 : Nat) : Int) := by rcases hn with rfl | rfl <;> decide +kernel
  rw [h1, andN a _ ha (by rcases hn with rfl | rfl <;> decide), Nat.and_two_pow_sub_one_eq_mod]
  unfold siz
  rw [sw_n n hn]
theorem and_pow (a i : Nat) : ((a &&& 2 ^ i : Nat) != 0) = (a / 2 ^ i % 2 == 1) := by
  have h : (a &&& 2 ^ i) = if a.testBit i then 2 ^ i else 0 := by
    apply Nat.eq_of_testBit_eq
    intro j
    rw [Nat.testBit_and, Nat.testBit_two_pow]
    by_cases c : i = j
    · subst c
      cases h : a.testBit i <;> simp
    · rw [decide_eq_false c, Bool.and_false]
      split
      · rw [Nat.testBit_two_pow, decide_eq_false c]
      · simp
  rw [h]
  have ht : a.testBit i = (a / 2 ^ i % 2 == 1) := by rw [Nat.testBit_eq_decide_div_mod_eq]; rfl
  rw [← ht]
  have := Nat.two_pow_pos i
  cases a.testBit i <;> simp
theorem f_neg (n : Nat) (hn : n = 32 ∨ n = 64) (a : Nat) (ha : a < 18446744073709551616) : floats_format_neg.f (fr n) (ex n) (a : Int) = some (neg (fm n) a) := by
  unfold floats_format_neg.f
  rw [f_sign n hn, Option.bind_some, andN a _ ha (by rcases hn with rfl | rfl <;> decide)]
  unfold neg
  rw [sw_n n hn, ← and_pow]
  congr 1
  rw [Bool.eq_iff_iff]
  simp
theorem f_nan (n : Nat) (hn : n = 32 ∨ n = 64) (a : Nat) (ha : a < 18446744073709551616) : floats_format_isNaN.f (fr n) (ex n) (a : Int) = some (isN (fm n) a) := by
  unfold floats_format_isNaN.f
  rw [f_size n hn a ha, Option.bind_some, f_inf n hn, Option.bind_some]
  unfold isN
  congr 1
  rw [decide_eq_decide]
  omega
theorem f_less (n : Nat) (hn : n = 32 ∨ n = 64) (a b : Nat) (ha : a < 18446744073709551616) (hb : b < 18446744073709551616) : floats_format_less.f (fr n) (ex n) (a : Int) (b : Int) = some (decide (sr (fm n) a < sr (fm n) b)) := by
  unfold floats_format_less.f
  have hs : ∀ a, siz (fm n) a < 18446744073709551616 := by
    intro a
    unfold siz
    rw [sw_n n hn]
    have := Nat.mod_lt a (Nat.two_pow_pos (n - 1))
    have h2 : 2 ^ (n - 1) ≤ 18446744073709551616 := by rcases hn with rfl | rfl <;> decide +kernel
    omega
  rw [f_size n hn a ha, Option.bind_some, f_size n hn b hb, Option.bind_some, f_neg n hn a ha, Option.bind_some, f_neg n hn b hb, Option.bind_some, Option.bind_some, Option.bind_some, orN _ _ (hs a) (hs b)]
  rw [sr_eq, sr_eq]
  unfold Fl.sg
  generalize siz (fm n) a = x at *
  generalize siz (fm n) b = y at *
  have h0 : ((x ||| y : Nat) : Int) = 0 ↔ x = 0 ∧ y = 0 := by
    rw [Int.natCast_eq_zero, Nat.or_eq_zero_iff]
  by_cases c : x = 0 ∧ y = 0
  · rw [if_pos (h0.2 c), c.1, c.2]
    cases neg (fm n) a <;> cases neg (fm n) b <;> rfl
  · rw [if_neg (fun h => c (h0.1 h))]
    cases neg (fm n) a <;> cases neg (fm n) b <;> simp only [bne_self_eq_false, Bool.false_eq_true, ↓reduceIte, Bool.bne_true, Bool.bne_false, Bool.not_false, Bool.not_true] <;> (congr 1) <;> first | (rw [decide_eq_decide]; omega) | (symm; apply decide_eq_true; omega) | (symm; apply decide_eq_false; omega)
theorem pro_relf (n : Nat) (j : Int) (a b k : Nat) (hn : n = 32 ∨ n = 64) (ha : a < 18446744073709551616) (hb : b < 18446744073709551616) (hj : 1 ≤ j ∧ j ≤ 6) (hk : 5 < k) :
    floats_Rel.f k n j a b = some (relF j ((fm n).order a b), 0) := by
  obtain ⟨k, rfl⟩ : ∃ m, k = m + 2 := ⟨k - 2, by omega⟩
  have hE : 1 ≤ (fm n).exponentBits := by rcases hn with rfl | rfl <;> decide +kernel
  have hof : floats_of.f n = some (fr n, ex n) := by rcases hn with rfl | rfl <;> rfl
  have hno : floats_format_none.f (fr n) (ex n) = some false := by rcases hn with rfl | rfl <;> rfl
  unfold floats_Rel.f
  rw [hof, Option.bind_some]
  dsimp only
  rw [hno, Option.bind_some, if_neg (by decide), if_neg (by omega), decide_eq_false (by omega)]
  simp only [floats_Rel.j0]
  rw [if_neg (by decide), f_nan n hn a ha, Option.bind_some, f_nan n hn b hb, Option.bind_some]
  rw [order_eq _ hE]
  have six : j = 1 ∨ j = 2 ∨ j = 3 ∨ j = 4 ∨ j = 5 ∨ j = 6 := by omega
  simp only [floats_Rel.j1]
  cases na : isN (fm n) a
  · cases nb : isN (fm n) b
    · simp only [Bool.false_eq_true, ↓reduceIte, Bool.or_self]
      rw [f_less n hn a b ha hb, Option.bind_some, f_less n hn b a hb ha, Option.bind_some]
      generalize sr (fm n) a = x
      generalize sr (fm n) b = y
      have hc := Int.compare_eq_ite_le x y
      rcases Int.lt_trichotomy x y with c | c | c
      · have e1 : compare x y = .lt := by rw [hc, if_pos (by omega), if_neg (by omega)]
        rw [e1, decide_eq_true c, decide_eq_false (show ¬ y < x by omega)]
        rcases six with rfl | rfl | rfl | rfl | rfl | rfl <;> rfl
      · have e1 : compare x y = .eq := by rw [hc, if_pos (by omega), if_pos (by omega)]
        rw [e1, decide_eq_false (show ¬ x < y by omega), decide_eq_false (show ¬ y < x by omega)]
        rcases six with rfl | rfl | rfl | rfl | rfl | rfl <;> rfl
      · have e1 : compare x y = .gt := by rw [hc, if_neg (by omega)]
        rw [e1, decide_eq_false (show ¬ x < y by omega), decide_eq_true c]
        rcases six with rfl | rfl | rfl | rfl | rfl | rfl <;> rfl
    · simp only [Bool.false_eq_true, ↓reduceIte, Bool.or_true]
      rcases six with rfl | rfl | rfl | rfl | rfl | rfl <;> rfl
  · simp only [↓reduceIte, Bool.true_or]
    rcases six with rfl | rfl | rfl | rfl | rfl | rfl <;> rfl
def eqzL : List UInt8 := [101, 113, 122]
def relL : List ByteArray := [(⟨#[]⟩ : ByteArray), (⟨#[101, 113]⟩ : ByteArray), (⟨#[110, 101]⟩ : ByteArray), (⟨#[108, 116, 95, 115]⟩ : ByteArray), (⟨#[108, 116, 95, 117]⟩ : ByteArray), (⟨#[103, 116, 95, 115]⟩ : ByteArray), (⟨#[103, 116, 95, 117]⟩ : ByteArray), (⟨#[108, 101, 95, 115]⟩ : ByteArray), (⟨#[108, 101, 95, 117]⟩ : ByteArray), (⟨#[103, 101, 95, 115]⟩ : ByteArray), (⟨#[103, 101, 95, 117]⟩ : ByteArray)]
def relfL : List ByteArray := [(⟨#[]⟩ : ByteArray), (⟨#[101, 113]⟩ : ByteArray), (⟨#[110, 101]⟩ : ByteArray), (⟨#[108, 116]⟩ : ByteArray), (⟨#[103, 116]⟩ : ByteArray), (⟨#[108, 101]⟩ : ByteArray), (⟨#[103, 101]⟩ : ByteArray)]
theorem ilift (w : ByteArray) (l : List ByteArray) (r : Int) (h : bodkinref07_index.f 40 w l = some r) : ∀ k, 40 ≤ k → bodkinref07_index.f k w l = some r := lift (fun k => bodkinref07_index.f k w l) (fun k => bodkinref07_index.mono w l k) r 40 h
def one (b : Bool) : Nat := if b then 1 else 0
theorem one_lt (b : Bool) : one b < 18446744073709551616 := by cases b <;> decide
theorem truth_f (b : Bool) : scalar_truth.f b 0 = some ((one b : Int), 0) := by cases b <;> rfl
theorem one_f (b : Bool) : bodkinref07_one.f b = some (one b : Int) := by cases b <;> rfl
def pZ (_ w : ByteArray) : Bool := decide (w.toList = eqzL)
theorem wk_eqz (n : Nat) (op : Int) (a k : Nat) (h : op = 69 ∨ op = 80) (hk : 5 < k) : scalar_work.f k op n (a : Int) 0 = some ((one (decide (a = 0)) : Int), 0) := by
  obtain ⟨k, rfl⟩ : ∃ m, k = m + 1 := ⟨k - 1, by omega⟩
  have e : ((a : Int) == 0) = decide (a = 0) := by rw [Bool.eq_iff_iff]; simp
  unfold scalar_work.f
  rcases h with rfl | rfl
  · rw [if_pos rfl]; simp only [scalar_work.j0, ↓reduceIte]; rw [e, truth_f]; rfl
  · rw [if_neg (by decide)]; simp only [scalar_work.j0, BEq.rfl, ↓reduceIte]; rw [e, truth_f]; rfl
theorem rf_eqz (kd w : ByteArray) (n : Nat) (t : Int) (a k : Nat) (h : pZ kd w = true) : bodkinref07_worked.f k kd n t w (a : Int) 0 = some ((one (decide (a = 0)) : Int), 0) := by
  have e : ((a : Int) == 0) = decide (a = 0) := by rw [Bool.eq_iff_iff]; simp
  unfold pZ at h
  have h := of_decide_eq_true h
  unfold eqzL at h
  unfold bodkinref07_worked.f
  rw [if_pos h, e, one_f]; rfl
def pI (j : Int) (kd w : ByteArray) : Bool := decide (¬ kd.toList = [102]) && (decide (¬ w.toList = eqzL) && (decide (w.size ≤ 6) && decide (bodkinref07_index.f 40 w relL = some j)))
theorem wk_rel (n : Nat) (op j : Int) (a b k : Nat) (hn : n = 32 ∨ n = 64) (h : (n = 32 ∧ op = 69 + j) ∨ (n = 64 ∧ op = 80 + j)) (ha : a < 18446744073709551616) (hb : b < 18446744073709551616) (hj : 1 ≤ j ∧ j ≤ 10) (hk : 500 < k) :
    scalar_work.f k op n (a : Int) (b : Int) = some ((one (relI n j (a % 2 ^ n) (b % 2 ^ n)) : Int), 0) := by
  obtain ⟨k, rfl⟩ : ∃ m, k = m + 1 := ⟨k - 1, by omega⟩
  unfold scalar_work.f
  rw [if_neg (by omega)]
  simp only [scalar_work.j0]
  have e1 : (op == 80) = false := by simp; omega
  rw [e1]
  simp only [Bool.false_eq_true, ↓reduceIte]
  rcases h with ⟨rfl, rfl⟩ | ⟨rfl, rfl⟩
  · rw [if_pos (by omega), w64_id (show -9223372036854775808 ≤ 1 + (69 + j) by omega) (by omega), w64_id (by omega) (by omega), show 1 + (69 + j) - 70 = j by omega, pro_rel 32 j a b k hn ha hb hj (by omega), Option.bind_some]
    dsimp only
    rw [truth_f]; rfl
  · rw [if_neg (by omega), if_pos (by omega), w64_id (show -9223372036854775808 ≤ 1 + (80 + j) by omega) (by omega), w64_id (by omega) (by omega), show 1 + (80 + j) - 81 = j by omega, pro_rel 64 j a b k hn ha hb hj (by omega), Option.bind_some]
    dsimp only
    rw [truth_f]; rfl
theorem rf_rel (kd w : ByteArray) (n : Nat) (t : Int) (j : Int) (a b k : Nat) (h : pI j kd w = true) (hn : n = 32 ∨ n = 64) (ha : a < 18446744073709551616) (hb : b < 18446744073709551616) (hj : 1 ≤ j ∧ j ≤ 10) (hk : 500 < k) :
    bodkinref07_worked.f k kd n t w (a : Int) (b : Int) = some ((one (relI n j (a % 2 ^ n) (b % 2 ^ n)) : Int), 0) := by
  unfold pI at h
  simp only [Bool.and_eq_true, decide_eq_true_eq] at h
  obtain ⟨h1, h2, h3, h4⟩ := h
  have e := ilift w relL j h4 k (by omega)
  unfold eqzL at h2
  unfold relL at e
  unfold bodkinref07_worked.f
  rw [if_neg h2, if_neg (by omega), if_neg (by omega), if_neg (by omega), if_neg h1, e, Option.bind_some, if_pos (by omega), ref_rel n j a b k hn ha hb hj (by omega), Option.bind_some]
  dsimp only
  rw [one_f]; rfl
def pF (j : Int) (kd w : ByteArray) : Bool := decide (kd.toList = [102]) && (decide (¬ w.toList = eqzL) && (decide (w.size ≤ 6) && decide (bodkinref07_index.f 40 w relfL = some j)))
theorem wk_relf (n : Nat) (op j : Int) (a b k : Nat) (hn : n = 32 ∨ n = 64) (h : (n = 32 ∧ op = 90 + j) ∨ (n = 64 ∧ op = 96 + j)) (ha : a < 18446744073709551616) (hb : b < 18446744073709551616) (hj : 1 ≤ j ∧ j ≤ 6) (hk : 500 < k) :
    scalar_work.f k op n (a : Int) (b : Int) = some ((one (relF j ((fm n).order a b)) : Int), 0) := by
  obtain ⟨k, rfl⟩ : ∃ m, k = m + 1 := ⟨k - 1, by omega⟩
  unfold scalar_work.f
  rw [if_neg (by omega)]
  simp only [scalar_work.j0]
  have e1 : (op == 80) = false := by simp; omega
  rw [e1]
  simp only [Bool.false_eq_true, ↓reduceIte]
  rcases h with ⟨rfl, rfl⟩ | ⟨rfl, rfl⟩
  · rw [if_neg (by omega), if_neg (by omega), if_pos (by omega), w64_id (show -9223372036854775808 ≤ 1 + (90 + j) by omega) (by omega), w64_id (by omega) (by omega), show 1 + (90 + j) - 91 = j by omega, pro_relf 32 j a b k hn ha hb hj (by omega), Option.bind_some]
    dsimp only
    rw [truth_f]; rfl
  · rw [if_neg (by omega), if_neg (by omega), if_neg (by omega), if_pos (by omega), w64_id (show -9223372036854775808 ≤ 1 + (96 + j) by omega) (by omega), w64_id (by omega) (by omega), show 1 + (96 + j) - 97 = j by omega, pro_relf 64 j a b k hn ha hb hj (by omega), Option.bind_some]
    dsimp only
    rw [truth_f]; rfl
theorem ord_fm (n : Nat) (hn : n = 32 ∨ n = 64) (a b : Nat) (ha : n = 32 → a < 4294967296) (hb : n = 32 → b < 4294967296) : ordV n a b = (fm n).order a b := by
  unfold ordV fm
  rcases hn with rfl | rfl
  · rw [if_pos (by decide), if_pos rfl]
    have h1 : (IntKind.u32.wrap (a : Int)).toNat = a := by rw [IntKind.wrap_u32]; have := ha rfl; omega
    have h2 : (IntKind.u32.wrap (b : Int)).toNat = b := by rw [IntKind.wrap_u32]; have := hb rfl; omega
    rw [h1, h2]
  · rw [if_neg (by decide), if_neg (by decide)]; rfl
theorem rf_relf (kd w : ByteArray) (n : Nat) (t : Int) (j : Int) (a b k : Nat) (h : pF j kd w = true) (hn : n = 32 ∨ n = 64) (ha : n = 32 → a < 4294967296) (hb : n = 32 → b < 4294967296) (hj : 1 ≤ j ∧ j ≤ 6) (hk : 500 < k) :
    bodkinref07_worked.f k kd n t w (a : Int) (b : Int) = some ((one (relF j ((fm n).order a b)) : Int), 0) := by
  unfold pF at h
  simp only [Bool.and_eq_true, decide_eq_true_eq] at h
  obtain ⟨h1, h2, h3, h4⟩ := h
  have e := ilift w relfL j h4 k (by omega)
  unfold eqzL at h2
  unfold relfL at e
  unfold bodkinref07_worked.f
  rw [if_neg h2, if_neg (by omega), if_neg (by omega), if_neg (by omega), if_pos h1, e, Option.bind_some, if_pos (by omega)]
  unfold bodkinref03_Rel.f
  rw [if_pos ⟨by omega, hj.1, hj.2⟩, Option.bind_some]
  dsimp only
  rw [ord_fm n hn a b ha hb, one_f]; rfl
theorem f_z : ([69, 80] : List Int).all (fun op => facts op [if op = 69 then 127 else 126] 127 pZ) = true := by decide +kernel
theorem f_i : ([1, 2, 3, 4, 5, 6, 7, 8, 9, 10] : List Int).all (fun j => facts (69 + j) [127, 127] 127 (pI j) && facts (80 + j) [126, 126] 127 (pI j)) = true := by decide +kernel
theorem f_f : ([1, 2, 3, 4, 5, 6] : List Int).all (fun j => facts (90 + j) [125, 125] 127 (pF j) && facts (96 + j) [124, 124] 127 (pF j)) = true := by decide +kernel
theorem g127 : good 127 := Or.inl rfl
theorem g126 : good 126 := Or.inr (Or.inl rfl)
theorem g125 : good 125 := Or.inr (Or.inr (Or.inl rfl))
theorem g124 : good 124 := Or.inr (Or.inr (Or.inr rfl))
theorem Q_eqz (t op tt : Int) (a b : Nat) (h : (t = 127 ∧ op = 69) ∨ (t = 126 ∧ op = 80)) (ha : a < 18446744073709551616) (hto : op ≤ tt) (q : Q tt a b (op + 1)) : Q tt a b op := by
  obtain ⟨k, hk, e⟩ := q
  have f := List.all_eq_true.1 f_z
  have g : good t := h.elim (fun h => h.1 ▸ g127) (fun h => h.1 ▸ g126)
  refine ⟨k + 3, by omega, ?_⟩
  rw [step1 t 127 g g127 op tt a b (one (decide (cl t a = 0))) 0 k pZ (by omega) ha (one_lt _) hto hk ?_ (fun k hk => wk_eqz _ op _ k (by omega) (by omega)) (fun kd w hp k hk => rf_eqz kd w _ _ _ k hp)]
  · exact e
  · rcases h with ⟨rfl, rfl⟩ | ⟨rfl, rfl⟩
    · exact f 69 (by decide)
    · exact f 80 (by decide)
theorem mem10 (j : Int) (h : 1 ≤ j ∧ j ≤ 10) : j ∈ ([1, 2, 3, 4, 5, 6, 7, 8, 9, 10] : List Int) := by
  rcases ten h with rfl | rfl | rfl | rfl | rfl | rfl | rfl | rfl | rfl | rfl <;> decide
theorem mem6 (j : Int) (h : 1 ≤ j ∧ j ≤ 6) : j ∈ ([1, 2, 3, 4, 5, 6] : List Int) := by
  have : j = 1 ∨ j = 2 ∨ j = 3 ∨ j = 4 ∨ j = 5 ∨ j = 6 := by omega
  rcases this with rfl | rfl | rfl | rfl | rfl | rfl <;> decide
theorem Q_rel (t op j tt : Int) (a b : Nat) (h : (t = 127 ∧ op = 69 + j) ∨ (t = 126 ∧ op = 80 + j)) (hj : 1 ≤ j ∧ j ≤ 10) (ha : a < 18446744073709551616) (hb : b < 18446744073709551616) (hto : op ≤ tt) (q : Q tt a b (op + 1)) : Q tt a b op := by
  obtain ⟨k, hk, e⟩ := q
  have f := List.all_eq_true.1 f_i j (mem10 j hj)
  rw [Bool.and_eq_true] at f
  have hn : nb t = 32 ∨ nb t = 64 := by rcases h with ⟨rfl, -⟩ | ⟨rfl, -⟩ <;> decide
  have hw : (nb t = 32 ∧ op = 69 + j) ∨ (nb t = 64 ∧ op = 80 + j) := h.elim (fun h => Or.inl ⟨by rw [h.1]; rfl, h.2⟩) (fun h => Or.inr ⟨by rw [h.1]; rfl, h.2⟩)
  have g : good t := h.elim (fun h => h.1 ▸ g127) (fun h => h.1 ▸ g126)
  refine ⟨k + 4, by omega, ?_⟩
  rw [step2 t t 127 g g g127 op tt a b _ 0 k (pI j) (by omega) ha hb (one_lt _) hto hk ?_ (fun k hk => wk_rel (nb t) op j (cl t a) (cl t b) k hn hw (cl_lt _ _ ha) (cl_lt _ _ hb) hj (by omega)) (fun kd w hp k hk => rf_rel kd w (nb t) _ j (cl t a) (cl t b) k hp hn (cl_lt _ _ ha) (cl_lt _ _ hb) hj (by omega))]
  · exact e
  · rcases h with ⟨rfl, rfl⟩ | ⟨rfl, rfl⟩
    · exact f.1
    · exact f.2
theorem Q_relf (t op j tt : Int) (a b : Nat) (h : (t = 125 ∧ op = 90 + j) ∨ (t = 124 ∧ op = 96 + j)) (hj : 1 ≤ j ∧ j ≤ 6) (ha : a < 18446744073709551616) (hb : b < 18446744073709551616) (hto : op ≤ tt) (q : Q tt a b (op + 1)) : Q tt a b op := by
  obtain ⟨k, hk, e⟩ := q
  have f := List.all_eq_true.1 f_f j (mem6 j hj)
  rw [Bool.and_eq_true] at f
  have hn : nb t = 32 ∨ nb t = 64 := by rcases h with ⟨rfl, -⟩ | ⟨rfl, -⟩ <;> decide
  have hw : (nb t = 32 ∧ op = 90 + j) ∨ (nb t = 64 ∧ op = 96 + j) := h.elim (fun h => Or.inl ⟨by rw [h.1]; rfl, h.2⟩) (fun h => Or.inr ⟨by rw [h.1]; rfl, h.2⟩)
  have g : good t := h.elim (fun h => h.1 ▸ g125) (fun h => h.1 ▸ g124)
  have hl : ∀ c, c < 18446744073709551616 → nb t = 32 → cl t c < 4294967296 := by
    intro c hc h32
    rcases h with ⟨rfl, -⟩ | ⟨rfl, -⟩
    · show c % 4294967296 < _; omega
    · exact absurd h32 (by decide)
  refine ⟨k + 4, by omega, ?_⟩
  rw [step2 t t 127 g g g127 op tt a b _ 0 k (pF j) (by omega) ha hb (one_lt _) hto hk ?_ (fun k hk => wk_relf (nb t) op j (cl t a) (cl t b) k hn hw (cl_lt _ _ ha) (cl_lt _ _ hb) hj (by omega)) (fun kd w hp k hk => rf_relf kd w (nb t) _ j (cl t a) (cl t b) k hp hn (hl a ha) (hl b hb) hj (by omega))]
  · exact e
  · rcases h with ⟨rfl, rfl⟩ | ⟨rfl, rfl⟩
    · exact f.1
    · exact f.2
theorem stand_Q (a b : Nat) (ha : a < 18446744073709551616) (hb : b < 18446744073709551616) : Q 102 a b 69 := by
  refine Q_eqz 127 69 102 a b (by omega) ha (by omega) ?_
  refine Q_rel 127 70 1 102 a b (by omega) (by omega) ha hb (by omega) ?_
  refine Q_rel 127 71 2 102 a b (by omega) (by omega) ha hb (by omega) ?_
  refine Q_rel 127 72 3 102 a b (by omega) (by omega) ha hb (by omega) ?_
  refine Q_rel 127 73 4 102 a b (by omega) (by omega) ha hb (by omega) ?_
  refine Q_rel 127 74 5 102 a b (by omega) (by omega) ha hb (by omega) ?_
  refine Q_rel 127 75 6 102 a b (by omega) (by omega) ha hb (by omega) ?_
  refine Q_rel 127 76 7 102 a b (by omega) (by omega) ha hb (by omega) ?_
  refine Q_rel 127 77 8 102 a b (by omega) (by omega) ha hb (by omega) ?_
  refine Q_rel 127 78 9 102 a b (by omega) (by omega) ha hb (by omega) ?_
  refine Q_rel 127 79 10 102 a b (by omega) (by omega) ha hb (by omega) ?_
  refine Q_eqz 126 80 102 a b (by omega) ha (by omega) ?_
  refine Q_rel 126 81 1 102 a b (by omega) (by omega) ha hb (by omega) ?_
  refine Q_rel 126 82 2 102 a b (by omega) (by omega) ha hb (by omega) ?_
  refine Q_rel 126 83 3 102 a b (by omega) (by omega) ha hb (by omega) ?_
  refine Q_rel 126 84 4 102 a b (by omega) (by omega) ha hb (by omega) ?_
  refine Q_rel 126 85 5 102 a b (by omega) (by omega) ha hb (by omega) ?_
  refine Q_rel 126 86 6 102 a b (by omega) (by omega) ha hb (by omega) ?_
  refine Q_rel 126 87 7 102 a b (by omega) (by omega) ha hb (by omega) ?_
  refine Q_rel 126 88 8 102 a b (by omega) (by omega) ha hb (by omega) ?_
  refine Q_rel 126 89 9 102 a b (by omega) (by omega) ha hb (by omega) ?_
  refine Q_rel 126 90 10 102 a b (by omega) (by omega) ha hb (by omega) ?_
  refine Q_relf 125 91 1 102 a b (by omega) (by omega) ha hb (by omega) ?_
  refine Q_relf 125 92 2 102 a b (by omega) (by omega) ha hb (by omega) ?_
  refine Q_relf 125 93 3 102 a b (by omega) (by omega) ha hb (by omega) ?_
  refine Q_relf 125 94 4 102 a b (by omega) (by omega) ha hb (by omega) ?_
  refine Q_relf 125 95 5 102 a b (by omega) (by omega) ha hb (by omega) ?_
  refine Q_relf 125 96 6 102 a b (by omega) (by omega) ha hb (by omega) ?_
  refine Q_relf 124 97 1 102 a b (by omega) (by omega) ha hb (by omega) ?_
  refine Q_relf 124 98 2 102 a b (by omega) (by omega) ha hb (by omega) ?_
  refine Q_relf 124 99 3 102 a b (by omega) (by omega) ha hb (by omega) ?_
  refine Q_relf 124 100 4 102 a b (by omega) (by omega) ha hb (by omega) ?_
  refine Q_relf 124 101 5 102 a b (by omega) (by omega) ha hb (by omega) ?_
  refine Q_relf 124 102 6 102 a b (by omega) (by omega) ha hb (by omega) ?_
  exact Q_end 102 a b
theorem awake_i : bodkinlaw07_awake.f 900 = some true := by decide +kernel
theorem stand_pure : bodkinlaw07_ScalarStand.Pure := by
  intro a0 a1 h0 h1
  obtain ⟨a, rfl, ha⟩ := u64_nat a0 h0
  obtain ⟨b, rfl, hb⟩ := u64_nat a1 h1
  obtain ⟨k, hk, e⟩ := stand_Q a b ha hb
  refine ⟨k, ?_⟩
  have aw := lift (fun k => bodkinlaw07_awake.f k) (fun k => bodkinlaw07_awake.mono k) true 900 awake_i k (by omega)
  unfold bodkinlaw07_ScalarStand.f bodkinlaw07_some.f
  rw [aw, Option.bind_some, if_pos rfl, e]
  rfl
end Go.Proofs.YtkhhhceeoljheaaGreatDoor.Pure

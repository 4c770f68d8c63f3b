import Derived.Test.YtkhhhceeoljheaaGreatDoorHxScalX
set_option linter.unusedVariables false
set_option linter.unusedSimpArgs false
set_option linter.unusedVariables false
namespace Go.Proofs.YtkhhhceeoljheaaGreatDoor.Fl
open Ieee Go.RowKit
def un (f : Format) : Nat := 2 ^ (-f.leastPlace).toNat
theorem un_pos (f : Format) : 0 < un f := Nat.two_pow_pos _
def mg (f : Format) (w : Nat) : Nat := V f (siz f w) / un f
theorem cut_zero (s : Bool) (n d : Nat) : Toward.zero.cut s n d = n / 2 ^ d := by
  unfold Toward.cut
  show n / (1 <<< min d (n.log2 + 2)) + 0 = _
  rw [Nat.one_shiftLeft, Nat.add_zero]
  by_cases c : d ≤ n.log2 + 2
  · rw [Nat.min_eq_left c]
  · rw [Nat.min_eq_right (by omega)]
    have h : n < 2 ^ (n.log2 + 1) := Nat.lt_log2_self
    have h2 : 2 ^ (n.log2 + 1) ≤ 2 ^ (n.log2 + 2) := Nat.pow_le_pow_right (by omega) (by omega)
    have h3 : 2 ^ (n.log2 + 2) ≤ 2 ^ d := Nat.pow_le_pow_right (by omega) (by omega)
    rw [Nat.div_eq_of_lt (by omega), Nat.div_eq_of_lt (by omega)]
theorem mag_eq (f : Format) (m : Nat) (e : Int) (hL : f.leastPlace ≤ 0) (he : f.leastPlace ≤ e) : m * 2 ^ e.toNat / 2 ^ (-e).toNat = m * 2 ^ (e - f.leastPlace).toNat / un f := by
  unfold un
  by_cases c : 0 ≤ e
  · rw [show (-e).toNat = 0 by omega, Nat.pow_zero, Nat.div_one, show (e - f.leastPlace).toNat = e.toNat + (-f.leastPlace).toNat by omega, Nat.pow_add, ← Nat.mul_assoc, Nat.mul_div_cancel _ (Nat.two_pow_pos _)]
  · rw [show e.toNat = 0 by omega, Nat.pow_zero, Nat.mul_one, show (-f.leastPlace).toNat = (-e).toNat + (e - f.leastPlace).toNat by omega, Nat.pow_add, Nat.mul_div_mul_right _ _ (Nat.two_pow_pos _)]
theorem whole_zero (f : Format) (w : Nat) (hL : f.leastPlace ≤ 0) (h : siz f w < f.infRung) : (f.read w).integral .zero = .number (neg f w) (mg f w) 0 := by
  obtain ⟨m, e, hr, he, hm, hv⟩ := read_fin f w h
  rw [hr]
  show Datum.number _ (Toward.zero.cut _ (m <<< e.toNat) (-e).toNat) 0 = _
  rw [cut_zero, Nat.shiftLeft_eq, mag_eq f m e hL he, hv]; rfl
theorem V_raw (f : Format) (m : Nat) (e : Int) (hm : m < 2 * f.binade) (he : f.leastPlace ≤ e) (h0 : m ≠ 0) :
    V f ((lastP f m e - f.leastPlace).toNat * f.binade + m * 2 ^ (e - lastP f m e).toNat) = m * 2 ^ (e - f.leastPlace).toNat := by
  have hB := binade_pos f
  have hl : m.log2 ≤ f.fractionBits := by
    have : m < 2 ^ (f.fractionBits + 1) := by rw [Nat.pow_succ]; unfold Format.binade at hm; omega
    have := (Nat.log2_lt h0).2 this
    omega
  have hle : lastP f m e ≤ e := by unfold lastP; omega
  have hge : f.leastPlace ≤ lastP f m e := by unfold lastP; omega
  
  have hk : m * 2 ^ (e - lastP f m e).toNat < 2 * f.binade := by
    have h1 : (e - lastP f m e).toNat ≤ f.fractionBits - m.log2 := by unfold lastP; omega
    have h2 : m * 2 ^ (e - lastP f m e).toNat ≤ m * 2 ^ (f.fractionBits - m.log2) := Nat.mul_le_mul_left _ (Nat.pow_le_pow_right (by omega) h1)
    have h3 : m < 2 ^ (m.log2 + 1) := Nat.lt_log2_self
    have h4 : m * 2 ^ (f.fractionBits - m.log2) < 2 ^ (m.log2 + 1) * 2 ^ (f.fractionBits - m.log2) := Nat.mul_lt_mul_of_pos_right h3 (Nat.two_pow_pos _)
    rw [← Nat.pow_add, show m.log2 + 1 + (f.fractionBits - m.log2) = f.fractionBits + 1 by omega, Nat.pow_succ] at h4
    unfold Format.binade; omega
  have hk2 : f.leastPlace < lastP f m e → f.binade ≤ m * 2 ^ (e - lastP f m e).toNat := by
    intro hlt
    have h1 : (e - lastP f m e).toNat = f.fractionBits - m.log2 := by unfold lastP at *; omega
    rw [h1]
    have h3 := Nat.log2_self_le h0
    have h4 : 2 ^ m.log2 * 2 ^ (f.fractionBits - m.log2) ≤ m * 2 ^ (f.fractionBits - m.log2) := Nat.mul_le_mul_right _ h3
    rw [← Nat.pow_add, show m.log2 + (f.fractionBits - m.log2) = f.fractionBits by omega] at h4
    exact h4
  have hfin : m * 2 ^ (e - f.leastPlace).toNat = m * 2 ^ (e - lastP f m e).toNat * 2 ^ (lastP f m e - f.leastPlace).toNat := by
    rw [Nat.mul_assoc, ← Nat.pow_add]; congr 2; omega
  rw [hfin]
  generalize m * 2 ^ (e - lastP f m e).toNat = k at *
  generalize hd : (lastP f m e - f.leastPlace).toNat = d at *
  by_cases c : k < f.binade
  · have hd0 : d = 0 := by
      rcases Nat.eq_zero_or_pos d with h | h
      · exact h
      · have := hk2 (by omega); omega
    rw [hd0, Nat.zero_mul, Nat.zero_add, Nat.pow_zero, Nat.mul_one]
    unfold V; rw [if_pos c]
  · have e0 : d * f.binade + k = (k - f.binade) + f.binade * (d + 1) := by rw [Nat.mul_add, Nat.mul_comm]; omega
    unfold V
    have hlt : ¬ d * f.binade + k < f.binade := by omega
    rw [if_neg hlt, e0, Nat.add_mul_mod_self_left, Nat.mod_eq_of_lt (by omega), Nat.add_mul_div_left _ _ hB, Nat.div_eq_of_lt (by omega), Nat.zero_add, Nat.add_sub_cancel]
    congr 1; omega
theorem rung_val (f : Format) (m : Nat) (e : Int) (hm : m < 2 * f.binade) (he : f.leastPlace ≤ e) (hE : 0 < f.infRung) (h : m * 2 ^ (e - f.leastPlace).toNat < V f f.infRung) :
    rung f m e < f.infRung ∧ V f (rung f m e) = m * 2 ^ (e - f.leastPlace).toNat := by
  have hI : m ≠ 0 → (lastP f m e - f.leastPlace).toNat * f.binade + m * 2 ^ (e - lastP f m e).toNat ≤ f.infRung := by
    intro h0
    have hr := V_raw f m e hm he h0
    rw [← hr, V_lt] at h
    omega
  have hv := rung_exact f m e hm he hI
  refine ⟨?_, hv⟩
  rw [← V_lt f, hv]; exact h
theorem whole_write (f : Format) (w : Nat) (hL : f.leastPlace ≤ 0) (h : siz f w < f.infRung) : rung f (mg f w) 0 < f.infRung ∧ V f (rung f (mg f w) 0) = mg f w * un f := by
  obtain ⟨m, e, hr, he, hm, hv⟩ := read_fin f w h
  have hlt : V f (siz f w) < V f f.infRung := (V_lt f).2 h
  have hmg : mg f w = m * 2 ^ e.toNat / 2 ^ (-e).toNat := by unfold mg; rw [mag_eq f m e hL he, hv]
  by_cases c : 0 ≤ e
  · have hx := rung_val f m e hm he (by omega) (by rw [hv]; exact hlt)
    have h1 : mg f w = m * 2 ^ e.toNat := by rw [hmg, show (-e).toNat = 0 by omega, Nat.pow_zero, Nat.div_one]
    have h2 := rung_scale f m e.toNat e
    rw [show e - (e.toNat : Int) = 0 by omega] at h2
    rw [h1, h2]
    refine ⟨hx.1, hx.2.trans ?_⟩
    unfold un
    rw [Nat.mul_assoc, ← Nat.pow_add]
    congr 2; omega
  · have h1 : mg f w = m / 2 ^ (-e).toNat := by rw [hmg, show e.toNat = 0 by omega, Nat.pow_zero, Nat.mul_one]
    have h2 : mg f w ≤ m := by rw [h1]; exact Nat.div_le_self _ _
    have h3 : mg f w * un f ≤ V f (siz f w) := by unfold mg; exact Nat.div_mul_le_self _ _
    have hx := rung_val f (mg f w) 0 (by omega) hL (by omega) (by unfold un at h3; rw [show (0 - f.leastPlace).toNat = (-f.leastPlace).toNat by omega]; omega)
    refine ⟨hx.1, hx.2.trans ?_⟩
    unfold un
    congr 2; omega
theorem inf_lt (f : Format) : f.infRung < f.signWeight := by
  unfold Format.infRung Format.signWeight Format.binade
  rw [Nat.pow_add]
  exact Nat.mul_lt_mul_of_pos_right (by have := Nat.two_pow_pos f.exponentBits; omega) (Nat.two_pow_pos _)
structure Whole (f : Format) (t : Nat) (s : Bool) (M : Nat) : Prop where
  ng : neg f t = s
  fin : siz f t < f.infRung
  val : V f (siz f t) = M * un f
theorem whole_word (f : Format) (w : Nat) (hL : f.leastPlace ≤ 0) (h : siz f w < f.infRung) : Whole f (f.write ((f.read w).integral .zero)) (neg f w) (mg f w) := by
  rw [whole_zero f w hL h]
  show Whole f (f.nearest _ _ _) _ _
  rw [nearest_eq]
  obtain ⟨h1, h2⟩ := whole_write f w hL h
  have hl := inf_lt f
  refine ⟨neg_word f _ _ (by omega), ?_, ?_⟩
  · rw [siz_word f _ _ (by omega)]; exact h1
  · rw [siz_word f _ _ (by omega)]; exact h2
theorem whole_mg {f : Format} {t : Nat} {s : Bool} {M : Nat} (h : Whole f t s M) : mg f t = M := by
  unfold mg; rw [h.val, Nat.mul_div_cancel _ (un_pos f)]
theorem whole_isN {f : Format} {t : Nat} {s : Bool} {M : Nat} (h : Whole f t s M) : isN f t = false := by
  unfold isN; have := h.fin; exact decide_eq_false (by omega)
theorem whole_order {f : Format} {t u : Nat} {s r : Bool} {M K : Nat} (hE : 1 ≤ f.exponentBits) (h : Whole f t s M) (h2 : Whole f u r K) : f.order t u = some (compare (sg s M) (sg r K)) := by
  rw [order_eq f hE, whole_isN h, whole_isN h2, if_neg (by decide), sr_eq, sr_eq, h.ng, h2.ng, ← cmp_sgV, h.val, h2.val, ← sg_mul, ← sg_mul, cmp_scale _ _ _ (un_pos f)]
theorem whole_int {f : Format} {t : Nat} {s : Bool} {M : Nat} (hL : f.leastPlace ≤ 0) (h : Whole f t s M) : (f.read t).toInt .zero = some (sg s M) := by
  unfold Datum.toInt
  rw [whole_zero f t hL h.fin]
  show some (signed _ _ 0) = _
  rw [signed_eq, Nat.pow_zero, Nat.mul_one, h.ng, whole_mg h]
end Go.Proofs.YtkhhhceeoljheaaGreatDoor.Fl
set_option linter.unusedVariables false
namespace Go.Proofs.YtkhhhceeoljheaaGreatDoor.Fl
open Ieee Go.RowKit Go.Proofs.YtkhhhceeoljheaaGreatDoor
theorem w_0 : Whole double 0 false 0 := ⟨by decide, by decide, by decide +kernel⟩
theorem w_31 : Whole double 4746794007248502784 false 2147483648 := ⟨by decide, by decide, by decide +kernel⟩
theorem w_31n : Whole double 13970166044103278592 true 2147483648 := ⟨by decide, by decide, by decide +kernel⟩
theorem w_32 : Whole double 4751297606875873280 false 4294967296 := ⟨by decide, by decide, by decide +kernel⟩
theorem w_63 : Whole double 4890909195324358656 false 9223372036854775808 := ⟨by decide, by decide, by decide +kernel⟩
theorem w_63n : Whole double 14114281232179134464 true 9223372036854775808 := ⟨by decide, by decide, by decide +kernel⟩
theorem w_64 : Whole double 4895412794951729152 false 18446744073709551616 := ⟨by decide, by decide, by decide +kernel⟩
theorem dE : 1 ≤ double.exponentBits := by decide
theorem dL0 : double.leastPlace ≤ 0 := by rw [dL]; decide
theorem r_63 : double.read 4890909195324358656 = .number false 4503599627370496 11 := by decide +kernel
theorem a11 (A M : Nat) (hA : A * 2048 = M) (h1 : 9223372036854775808 ≤ M) : (A - 4503599627370496) * 2 ^ 11 = M - 9223372036854775808 := by
  obtain ⟨b, rfl⟩ : ∃ b, A = b + 4503599627370496 := ⟨A - 4503599627370496, by omega⟩
  rw [Nat.add_sub_cancel, ← hA, Nat.add_mul, show 4503599627370496 * 2048 = 9223372036854775808 from by decide, Nat.add_sub_cancel]
theorem whole_sub_f (f : Format) (c : Nat) {t M : Nat} (hL : f.leastPlace ≤ 0) (hB : f.binade = 4503599627370496) (hi0 : 0 < f.infRung) (hc : f.read c = .number false 4503599627370496 11) (h : Whole f t false M) (h1 : 9223372036854775808 ≤ M) (h2 : M < 18446744073709551616) : ∃ d, f.sub t c = some d ∧ Whole f d false (M - 9223372036854775808) := by
  obtain ⟨m, e, hr, he, hm, hv⟩ := read_fin f t h.fin
  rw [h.ng] at hr
  rw [h.val] at hv
  have hu := un_pos f
  have hfin : M * un f < V f f.infRung := by rw [← h.val]; exact (V_lt f).2 h.fin
  rw [hB] at hm
  have e0 : (-f.leastPlace).toNat = (0 - f.leastPlace).toNat := by omega
  have hun : un f = 2 ^ (-f.leastPlace).toNat := rfl
  generalize hLL : f.leastPlace = L at *
  have hee : 11 ≤ e := by
    by_cases c : 11 ≤ e
    · exact c
    · have a1 : 2 ^ (e - L).toNat ≤ 2 ^ (10 + (-L).toNat) := Nat.pow_le_pow_right (by omega) (by omega)
      rw [Nat.pow_add, ← hun] at a1
      have a2 : m * 2 ^ (e - L).toNat ≤ 9007199254740991 * (2 ^ 10 * un f) := Nat.mul_le_mul (by omega) a1
      have a3 : 9223372036854775808 * un f ≤ M * un f := Nat.mul_le_mul_right _ h1
      rw [hv] at a2
      omega
  have hA : m * 2 ^ (e - 11).toNat * 2048 = M := by
    have a1 : m * 2 ^ (e - 11).toNat * 2048 * un f = M * un f := by
      rw [← hv, hun, Nat.mul_assoc, Nat.mul_assoc]
      congr 1
      rw [show (2048 : Nat) = 2 ^ 11 from rfl, ← Nat.pow_add, ← Nat.pow_add]
      congr 1; omega
    exact Nat.mul_right_cancel hu a1
  have hs : (Datum.number false m e).sum (Datum.opposite (.number false 4503599627370496 11)) = some (.number false (m * 2 ^ (e - 11).toNat - 4503599627370496) 11) := by
    show some (Datum.number (if signed false m (e - min e 11).toNat + signed true 4503599627370496 (11 - min e 11).toNat = 0 then false && true else decide (signed false m (e - min e 11).toNat + signed true 4503599627370496 (11 - min e 11).toNat < 0)) (signed false m (e - min e 11).toNat + signed true 4503599627370496 (11 - min e 11).toNat).natAbs (min e 11)) = _
    rw [signed_eq, signed_eq, show min e 11 = 11 by omega, Int.sub_self]
    unfold sg
    generalize m * 2 ^ (e - 11).toNat = A at *
    simp only [Int.toNat_zero, Nat.pow_zero, Nat.mul_one, Bool.false_eq_true, ↓reduceIte, Bool.and_true]
    have a1 : (A : Int) + -((4503599627370496 : Nat) : Int) = ((A - 4503599627370496 : Nat) : Int) := by omega
    rw [a1]
    have a2 : decide (((A - 4503599627370496 : Nat) : Int) < 0) = false := decide_eq_false (by omega)
    rw [a2, Int.natAbs_natCast]
    simp
  refine ⟨f.word false (rung f (m * 2 ^ (e - 11).toNat - 4503599627370496) 11), ?_, ?_⟩
  · unfold Format.sub
    have key : ∀ B : Nat, f.write (.number false B 11) = f.word false (rung f B 11) := fun B => nearest_eq f false B 11
    rw [hr, hc, hs, Option.map_some, key]
  · generalize m * 2 ^ (e - 11).toNat = A at *
    have a0 : (A - 4503599627370496) * 2 ^ (11 - f.leastPlace).toNat = (M - 9223372036854775808) * un f := by
      rw [hLL, hun, show (11 - L).toNat = 11 + (-L).toNat by omega, Nat.pow_add, ← Nat.mul_assoc, a11 A M hA h1]
    have a3 : (M - 9223372036854775808) * un f ≤ M * un f := Nat.mul_le_mul_right _ (by omega)
    have hx := rung_val f (A - 4503599627370496) 11 (by rw [hB]; omega) (by rw [hLL]; omega) hi0 (by rw [a0]; omega)
    have hl := inf_lt f
    refine ⟨neg_word f _ _ (by omega), ?_, ?_⟩
    · rw [siz_word f _ _ (by omega)]; exact hx.1
    · rw [siz_word f _ _ (by omega)]; exact hx.2.trans a0
theorem whole_sub {t M : Nat} (h : Whole double t false M) (h1 : 9223372036854775808 ≤ M) (h2 : M < 18446744073709551616) : ∃ d, double.sub t 4890909195324358656 = some d ∧ Whole double d false (M - 9223372036854775808) :=
  whole_sub_f double _ dL0 dB (by rw [dI]; omega) r_63 h h1 h2
def mostN (tt : Int) (g s : Bool) : Nat := if g then (if s then (if tt = 32 then 2147483648 else 9223372036854775808) else (if tt = 32 then 2147483647 else 9223372036854775807)) else if s then 0 else (if tt = 32 then 4294967295 else 18446744073709551615)
def cutN (tt : Int) (s : Bool) (x : Nat) : Nat := if s then (if tt = 32 then (4294967296 - x) % 4294967296 else (18446744073709551616 - x) % 18446744073709551616) else x
def ansN (tt : Int) (g s : Bool) (M : Nat) : Nat := cutN tt s (min M (mostN tt g s))
theorem is_lt (a b : Int) : (some (compare a b) == some Ordering.lt) = decide (a < b) := by
  rw [Int.compare_eq_ite_le]
  by_cases c : a ≤ b
  · by_cases d : b ≤ a
    · rw [if_pos c, if_pos d, decide_eq_false (by omega)]; rfl
    · rw [if_pos c, if_neg d, decide_eq_true (by omega)]; rfl
  · rw [if_neg c, decide_eq_false (by omega)]; rfl
theorem is_ge (a b : Int) : geq (some (compare a b)) = decide (b ≤ a) := by
  rw [Int.compare_eq_ite_le]
  by_cases c : a ≤ b
  · by_cases d : b ≤ a
    · rw [if_pos c, if_pos d, decide_eq_true (by omega)]; rfl
    · rw [if_pos c, if_neg d, decide_eq_false (by omega)]; rfl
  · rw [if_neg c, decide_eq_true (by omega)]; rfl
theorem ftoi {t M : Nat} {s : Bool} (h : Whole double t s M) (h1 : -9223372036854775808 ≤ sg s M) (h2 : sg s M ≤ 9223372036854775807) : floatToIntVal .f64 t .i64 = some (sg s M) := by
  unfold floatToIntVal
  have e : (FloatKind.f64.decode t).toInt .zero = some (sg s M) := whole_int dL0 h
  rw [e]
  dsimp only
  rw [if_pos]
  exact ⟨h1, h2⟩
theorem trn_whole {t M : Nat} {s : Bool} (tt : Int) (ht : tt = 32 ∨ tt = 64) (g : Bool) (h : Whole double t s M) : trn tt g t = some (ansN tt g s M) := by
  have o0 := whole_order dE h w_0
  have o31 := whole_order dE h w_31
  have o31n := whole_order dE h w_31n
  have o32 := whole_order dE h w_32
  have o63 := whole_order dE h w_63
  have o63n := whole_order dE h w_63n
  have o64 := whole_order dE h w_64
  unfold trn lo hi
  rcases ht with rfl | rfl <;> cases g
  all_goals
    simp only [Bool.false_eq_true, ↓reduceIte, Int.reduceEq, o0, o31, o31n, o32, o63, o63n, o64, is_lt, is_ge, decide_eq_true_eq]
    unfold ansN cutN mostN
    simp only [Bool.false_eq_true, ↓reduceIte, Int.reduceEq]
  all_goals
    cases s
    all_goals
      have fi := ftoi h
      unfold sg at *
      simp only [Bool.false_eq_true, ↓reduceIte, Int.natCast_zero, Int.neg_zero] at *
      repeat' split
      all_goals first
        | omega
        | (congr 1; omega)
        | (rw [fi (by omega) (by omega)]; simp only [Option.map_some, Option.some.injEq, IntKind.wrap_u64]; omega)
        | (obtain ⟨d, hd, hw⟩ := whole_sub h (by omega) (by omega)
           have fd := ftoi hw
           unfold sg at fd
           simp only [Bool.false_eq_true, ↓reduceIte] at fd
           have hb : floatBits .sub .f64 t 4890909195324358656 = some d := hd
           rw [hb, Option.bind_some, fd (by omega) (by omega)]
           simp only [Option.map_some, Option.some.injEq, IntKind.wrap_u64]
           omega)
def heldN (f : Format) (tt : Int) (g : Bool) (w : Nat) : Nat := if isN f w = true then 0 else ansN tt g (neg f w) (mg f w)
theorem most_le (tt : Int) (g s : Bool) : mostN tt g s ≤ 18446744073709551615 := by
  unfold mostN
  repeat' split
  all_goals omega
theorem inf_d : 18446744073709551615 ≤ V double double.infRung / un double := by decide +kernel
theorem inf_s : 18446744073709551615 ≤ V single single.infRung / un single := by decide +kernel
theorem ans_big (tt : Int) (g s : Bool) (M : Nat) (h : 18446744073709551615 ≤ M) : ansN tt g s M = ansN tt g s 18446744073709551615 := by
  unfold ansN
  have := most_le tt g s
  rw [Nat.min_eq_right (by omega), Nat.min_eq_right (by omega)]
theorem trn_inf (tt : Int) (ht : tt = 32 ∨ tt = 64) (g s : Bool) : trn tt g (double.word s double.infRung) = some (ansN tt g s 18446744073709551615) := by
  rcases ht with rfl | rfl <;> cases g <;> cases s <;> decide +kernel
theorem whl_held (tt : Int) (ht : tt = 32 ∨ tt = 64) (g : Bool) (x : Nat) (hn : isN double x = false) : (whl .zero x).bind (trn tt g) = some (ansN tt g (neg double x) (mg double x)) := by
  unfold whl
  rw [if_neg (by rw [hn]; decide), Option.bind_some]
  have hx : siz double x ≤ double.infRung := by unfold isN at hn; have := of_decide_eq_false hn; omega
  by_cases c : siz double x < double.infRung
  · exact trn_whole tt ht g (whole_word double x dL0 c)
  · have e : siz double x = double.infRung := by omega
    have hr : double.read x = .infinity (neg double x) := by
      have hB := inf_ge double dE
      rw [read_eq, if_neg (by omega), if_neg (by omega), if_pos e]
    rw [hr]
    show trn tt g (double.word (neg double x) double.infRung) = _
    rw [trn_inf tt ht, ans_big tt g _ (mg double x) (by unfold mg; rw [e]; exact inf_d)]
set_option exponentiation.threshold 3000 in
theorem un_gap : un double = un single * gap := by
  have h := gap_mul 1 0 (by omega)
  unfold un
  rw [dL, sL]
  rw [Nat.one_mul, Nat.one_mul] at h
  exact h
theorem held_n (n : Nat) (tt : Int) (hn : n = 32 ∨ n = 64) (ht : tt = 32 ∨ tt = 64) (g : Bool) (a : Nat) : held n tt g a = some (heldN (if n = 32 then single else double) tt g (if n = 32 then a % 4294967296 else a)) := by
  unfold held heldN
  rcases hn with rfl | rfl
  · simp only [Int.cast_ofNat_Int, ↓reduceIte]
    generalize a % 4294967296 = A
    split
    · rfl
    · rename_i c
      have c : isN single A = false := by simpa using c
      rw [whl_held tt ht g _ (wide_isN A c), wide_neg A c]
      have hx : siz single A ≤ single.infRung := by unfold isN at c; have := of_decide_eq_false c; omega
      by_cases d : siz single A < single.infRung
      · obtain ⟨h1, h2, h3⟩ := wide_fin A d
        unfold mg
        rw [h3, un_gap, Nat.mul_div_mul_right _ _ gap_pos]
      · have e : siz single A = single.infRung := by omega
        have h := wide_inf A e
        rw [ans_big tt g _ (mg double (wide A)) (by unfold mg; rw [h.2]; exact inf_d), ans_big tt g _ (mg single A) (by unfold mg; rw [e]; exact inf_s)]
  · rw [if_neg (by decide), if_neg (show ¬ (64 : Nat) = 32 by decide), if_neg (show ¬ (64 : Nat) = 32 by decide)]
    by_cases c : isN double a = true
    · rw [if_pos c, if_pos c]
    · rw [if_neg c, if_neg c]
      exact whl_held tt ht g a (by simpa using c)
end Go.Proofs.YtkhhhceeoljheaaGreatDoor.Fl

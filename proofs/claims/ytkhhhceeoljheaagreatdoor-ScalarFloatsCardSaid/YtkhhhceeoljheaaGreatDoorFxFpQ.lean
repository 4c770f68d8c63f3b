import Derived.Test.YtkhhhceeoljheaaGreatDoorFxScalU
import Derived.Laws.BitsLemmas
import Derived.Laws.Bits64
import Derived.Lib.ItoaNum
set_option linter.unusedVariables false
set_option linter.unusedSimpArgs false
namespace Go.Proofs.YtkhhhceeoljheaaGreatDoor
open Go.RowKit Go.Proofs.YtkhhhceeoljheaaGreatDoor.Fl Ieee
def Fm (F E : Int) : Prop := (F = 23 ∧ E = 8) ∨ (F = 52 ∧ E = 11)
theorem fm32 : Fm 23 8 := Or.inl ⟨rfl, rfl⟩
theorem fm64 : Fm 52 11 := Or.inr ⟨rfl, rfl⟩
def fmt (F : Int) : Format := if F = 23 then single else double
def swt (F : Int) : Int := if F = 23 then 2147483648 else 9223372036854775808
theorem u64w (n : Int) : IntKind.u64.wrap n = n % 18446744073709551616 := IntKind.wrap_u64 n
theorem u64i {n : Int} (h0 : 0 ≤ n) (h1 : n < 18446744073709551616) : IntKind.u64.wrap n = n := by rw [u64w]; omega
theorem i64i {n : Int} (h0 : -9223372036854775808 ≤ n) (h1 : n < 9223372036854775808) : wrap64 n = n := by unfold wrap64; omega
theorem w64w (n : Int) (h0 : 0 ≤ n) (h1 : n < 2 ^ 64) : IntKind.u64.wrap n = n := u64i h0 (by omega)
theorem fandN (a b : Nat) (ha : a < 18446744073709551616) (hb : b < 18446744073709551616) : bits .and .u64 (a : Int) (b : Int) = ((a &&& b : Nat) : Int) := (bits_nat .u64 64 (by decide) w64w a b (by omega) (by omega)).1
theorem forN (a b : Nat) (ha : a < 18446744073709551616) (hb : b < 18446744073709551616) : bits .or .u64 (a : Int) (b : Int) = ((a ||| b : Nat) : Int) := (bits_nat .u64 64 (by decide) w64w a b (by omega) (by omega)).2
theorem swt_n (F E : Int) (hF : Fm F E) : swt F = (((fmt F).signWeight : Nat) : Int) := by rcases hF with ⟨rfl, rfl⟩ | ⟨rfl, rfl⟩ <;> decide +kernel
theorem sw_p (F E : Int) (hF : Fm F E) : (fmt F).signWeight = 2147483648 ∨ (fmt F).signWeight = 9223372036854775808 := by rcases hF with ⟨rfl, rfl⟩ | ⟨rfl, rfl⟩ <;> decide +kernel
theorem sw_pow (f : Format) : f.signWeight = 2 ^ (f.exponentBits + f.fractionBits) := rfl
theorem and_siz (F E : Int) (hF : Fm F E) (a : Nat) (ha : a < 18446744073709551616) : bits .and .u64 (a : Int) (IntKind.u64.wrap (swt F - 1)) = ((siz (fmt F) a : Nat) : Int) := by
  have h := sw_p F E hF; have e : IntKind.u64.wrap (swt F - 1) = (((fmt F).signWeight - 1 : Nat) : Int) := by rw [swt_n F E hF, u64i (by omega) (by omega)]; omega
  rw [e, fandN _ _ ha (by omega), sw_pow, Nat.and_two_pow_sub_one_eq_mod]; rfl
theorem and_bit (a i : Nat) : ((a &&& 2 ^ i : Nat) != 0) = (a / 2 ^ i % 2 == 1) := by
  have h : (a &&& 2 ^ i) = if a.testBit i then 2 ^ i else 0 := by
    apply Nat.eq_of_testBit_eq
    intro j; rw [Nat.testBit_and, Nat.testBit_two_pow]; by_cases c : i = j
    · subst c
      cases h : a.testBit i <;> simp
    · rw [decide_eq_false c, Bool.and_false]
      split
      · rw [Nat.testBit_two_pow, decide_eq_false c]
      · simp
  rw [h]; have ht : a.testBit i = (a / 2 ^ i % 2 == 1) := by rw [Nat.testBit_eq_decide_div_mod_eq]; rfl
  rw [← ht]; have := Nat.two_pow_pos i; cases a.testBit i <;> simp
theorem and_neg (F E : Int) (hF : Fm F E) (a : Nat) (ha : a < 18446744073709551616) : (bits .and .u64 (a : Int) (swt F) != 0) = neg (fmt F) a := by
  have h := sw_p F E hF; rw [swt_n F E hF, fandN _ _ ha (by omega)]; unfold neg; rw [sw_pow, ← and_bit]; rw [Bool.eq_iff_iff]; simp
theorem and_cut (F E : Int) (hF : Fm F E) (a : Nat) (ha : a < 18446744073709551616) : bits .and .u64 (a : Int) (IntKind.u64.wrap (IntKind.u64.wrap (swt F * 2) - 1)) = ((a % (2 * (fmt F).signWeight) : Nat) : Int) := by
  rcases hF with ⟨rfl, rfl⟩ | ⟨rfl, rfl⟩
  · have e : IntKind.u64.wrap (IntKind.u64.wrap (swt 23 * 2) - 1) = ((4294967295 : Nat) : Int) := by decide +kernel
    rw [e, fandN _ _ ha (by omega), show (4294967295 : Nat) = 2 ^ 32 - 1 from rfl, Nat.and_two_pow_sub_one_eq_mod]; rfl
  · have e : IntKind.u64.wrap (IntKind.u64.wrap (swt 52 * 2) - 1) = ((18446744073709551615 : Nat) : Int) := by decide +kernel
    rw [e, fandN _ _ ha (by omega), show (18446744073709551615 : Nat) = 2 ^ 64 - 1 from rfl, Nat.and_two_pow_sub_one_eq_mod]; rfl
theorem or_add (a p : Nat) (h : a < 2 ^ p) : a ||| 2 ^ p = 2 ^ p + a := by
  have e := Nat.two_pow_add_eq_or_of_lt h 1; rw [Nat.mul_one] at e; rw [Nat.or_comm, e]
theorem or_sign (F E : Int) (hF : Fm F E) (a : Nat) (ha : a < (fmt F).signWeight) : bits .or .u64 (a : Int) (swt F) = (((fmt F).word true a : Nat) : Int) := by
  have h := sw_p F E hF; rw [swt_n F E hF, forN _ _ (by omega) (by omega)]; rw [sw_pow] at ha; unfold Format.word; rw [sw_pow, or_add _ _ ha]; rfl
theorem siz_lt (f : Format) (a : Nat) : siz f a < f.signWeight := Nat.mod_lt _ (Nat.two_pow_pos _)
def nn (F : Int) : Nat := if F = 23 then 2143289344 else 9221120237041090560
def pm (f : Format) (a : Nat) : Nat := if siz f a < f.binade then siz f a else f.binade + siz f a % f.binade
def pe (f : Format) (a : Nat) : Int := if siz f a < f.binade then f.leastPlace else f.leastPlace + (siz f a / f.binade - 1 : Nat)
theorem ret2i {k1 k2 : IntKind} {a b c d : Int} (h : a = b) (h2 : c = d) : Ending.returned (.tuple #[.int k1 a, .int k2 c]) = .returned (.tuple #[.int k1 b, .int k2 d]) := by rw [h, h2]
theorem fm_b (F E : Int) (hF : Fm F E) : (fmt F).binade ≤ 4503599627370496 ∧ 0 < (fmt F).binade ∧ -1074 ≤ (fmt F).leastPlace ∧ (fmt F).leastPlace ≤ -149 ∧ (fmt F).signWeight ≤ 9223372036854775808 ∧ (fmt F).signWeight ≤ (fmt F).binade * 2048 ∧ (fmt F).infRung < (fmt F).signWeight := by
  rcases hF with ⟨rfl, rfl⟩ | ⟨rfl, rfl⟩ <;> decide +kernel
theorem parts_lo (F E : Int) (hF : Fm F E) (a : Nat) (B B1 : Int) (hB : B = (((fmt F).binade : Nat) : Int)) (hB1 : B1 = (((fmt F).binade - 1 : Nat) : Int)) (h : (wrap64 (((siz (fmt F) a : Nat) : Int) / B) == 0) = true) :
    bits .and .u64 ((siz (fmt F) a : Nat) : Int) B1 = ((pm (fmt F) a : Nat) : Int) ∧ (fmt F).leastPlace = pe (fmt F) a := by
  have hb := fm_b F E hF; have hs := siz_lt (fmt F) a; subst hB hB1; have hq : siz (fmt F) a / (fmt F).binade < 2048 := by rw [Nat.div_lt_iff_lt_mul hb.2.1, Nat.mul_comm]; omega
  rw [← Int.natCast_ediv] at h; have hq0 : siz (fmt F) a / (fmt F).binade = 0 ↔ siz (fmt F) a < (fmt F).binade := by rw [Nat.div_eq_zero_iff]; omega
  generalize hqe : siz (fmt F) a / (fmt F).binade = q at *; rw [i64i (by omega) (by omega)] at h; have h := eq_of_beq h; have c := hq0.1 (by omega); rw [fandN _ _ (by omega) (by omega)]; unfold pm pe; rw [if_pos c, if_pos c, show (fmt F).binade - 1 = 2 ^ (fmt F).fractionBits - 1 from rfl, Nat.and_two_pow_sub_one_eq_mod, ← show (fmt F).binade = 2 ^ (fmt F).fractionBits from rfl, Nat.mod_eq_of_lt c]; exact ⟨rfl, rfl⟩
theorem parts_hi (F E : Int) (hF : Fm F E) (a : Nat) (B B1 C : Int) (hB : B = (((fmt F).binade : Nat) : Int)) (hB1 : B1 = (((fmt F).binade - 1 : Nat) : Int)) (hC : C = (((fmt F).binade : Nat) : Int)) (h : (wrap64 (((siz (fmt F) a : Nat) : Int) / B) == 0) = false) :
    bits .or .u64 (bits .and .u64 ((siz (fmt F) a : Nat) : Int) B1) C = ((pm (fmt F) a : Nat) : Int) ∧ wrap64 (wrap64 ((fmt F).leastPlace + wrap64 (((siz (fmt F) a : Nat) : Int) / B)) - 1) = pe (fmt F) a := by
  have hb := fm_b F E hF; have hs := siz_lt (fmt F) a; subst hB hB1 hC; have hq : siz (fmt F) a / (fmt F).binade < 2048 := by rw [Nat.div_lt_iff_lt_mul hb.2.1, Nat.mul_comm]; omega
  rw [← Int.natCast_ediv] at h ⊢; have hq0 : siz (fmt F) a / (fmt F).binade = 0 ↔ siz (fmt F) a < (fmt F).binade := by rw [Nat.div_eq_zero_iff]; omega
  have hml := Nat.mod_lt (siz (fmt F) a) hb.2.1; unfold pe; generalize hqe : siz (fmt F) a / (fmt F).binade = q at *; rw [i64i (show -9223372036854775808 ≤ (q : Int) by omega) (by omega)] at h ⊢; have h : ¬ (q : Int) = 0 := by simpa using h
  have c : ¬ siz (fmt F) a < (fmt F).binade := fun c => h (by have := hq0.2 c; omega)
  rw [fandN _ _ (by omega) (by omega), show (fmt F).binade - 1 = 2 ^ (fmt F).fractionBits - 1 from rfl, Nat.and_two_pow_sub_one_eq_mod, ← show (fmt F).binade = 2 ^ (fmt F).fractionBits from rfl, forN _ _ (by omega) (by omega), if_neg c]; unfold pm; rw [if_neg c]; refine ⟨?_, ?_⟩
  · rw [show (fmt F).binade = 2 ^ (fmt F).fractionBits from rfl] at hml ⊢
    rw [or_add _ _ hml]
  · rw [i64i (show -9223372036854775808 ≤ (fmt F).leastPlace + (q : Int) by omega) (by omega), i64i (by omega) (by omega)]
    omega
theorem parts_lo' (F E : Int) (hF : Fm F E) (a : Nat) (B B1 : Int) (h : (wrap64 (((siz (fmt F) a : Nat) : Int) / B) == 0) = true) (hB : B = (((fmt F).binade : Nat) : Int)) (hB1 : B1 = (((fmt F).binade - 1 : Nat) : Int)) :
    Ending.returned (.tuple #[.int .u64 (bits .and .u64 ((siz (fmt F) a : Nat) : Int) B1), .int .i64 (fmt F).leastPlace]) = .returned (.tuple #[.int .u64 ((pm (fmt F) a : Nat) : Int), .int .i64 (pe (fmt F) a)]) :=
  ret2i (parts_lo F E hF a B B1 hB hB1 h).1 (parts_lo F E hF a B B1 hB hB1 h).2
theorem parts_hi' (F E : Int) (hF : Fm F E) (a : Nat) (B B1 C : Int) (hB : B = (((fmt F).binade : Nat) : Int)) (hB1 : B1 = (((fmt F).binade - 1 : Nat) : Int)) (hC : C = (((fmt F).binade : Nat) : Int)) (h : (wrap64 (((siz (fmt F) a : Nat) : Int) / B) == 0) = false) :
    Ending.returned (.tuple #[.int .u64 (bits .or .u64 (bits .and .u64 ((siz (fmt F) a : Nat) : Int) B1) C), .int .i64 (wrap64 (wrap64 ((fmt F).leastPlace + wrap64 (((siz (fmt F) a : Nat) : Int) / B)) - 1))]) = .returned (.tuple #[.int .u64 ((pm (fmt F) a : Nat) : Int), .int .i64 (pe (fmt F) a)]) :=
  ret2i (parts_hi F E hF a B B1 C hB hB1 hC h).1 (parts_hi F E hF a B B1 C hB hB1 hC h).2
end Go.Proofs.YtkhhhceeoljheaaGreatDoor
set_option linter.unusedVariables false
namespace Go.Proofs.YtkhhhceeoljheaaGreatDoor
open Go.RowKit Go.Proofs.YtkhhhceeoljheaaGreatDoor.Fl Ieee
theorem read_pm (f : Format) (a : Nat) (h : siz f a < f.infRung) : f.read a = .number (neg f a) (pm f a) (pe f a) := by
  rw [read_eq]; unfold pm pe; by_cases c : siz f a < f.binade
  · rw [if_pos c, if_pos c, if_pos c]
  · rw [if_neg c, if_neg c, if_neg c, if_pos h]
theorem read_inf (f : Format) (hE : 1 ≤ f.exponentBits) (a : Nat) (h : siz f a = f.infRung) : f.read a = .infinity (neg f a) := by
  have := inf_ge f hE; rw [read_eq, if_neg (by omega), if_neg (by omega), if_pos h]
theorem pm_lt (f : Format) (a : Nat) : pm f a < 2 * f.binade := by
  have h := Nat.mod_lt (siz f a) (binade_pos f); unfold pm; split <;> omega
theorem pe_ge (f : Format) (a : Nat) : f.leastPlace ≤ pe f a := by unfold pe; split <;> omega
theorem pm_ge (f : Format) (a : Nat) (h : pe f a ≠ f.leastPlace) : f.binade ≤ pm f a := by
  unfold pe at h; unfold pm; split at h
  · exact absurd rfl h
  · rename_i c; rw [if_neg c]; omega
theorem pe_mono (f : Format) (a b : Nat) (h : siz f b ≤ siz f a) : pe f b ≤ pe f a := by
  have h2 := Nat.div_le_div_right (c := f.binade) h; unfold pe; split <;> split <;> omega
theorem pm_val (f : Format) (a : Nat) : pm f a * 2 ^ (pe f a - f.leastPlace).toNat = V f (siz f a) := by
  unfold pm pe V; split
  · rw [Int.sub_self]; simp
  · congr 2; omega
theorem V_le (f : Format) {a b : Nat} (h : a ≤ b) : V f a ≤ V f b := by
  rcases Nat.lt_or_eq_of_le h with h | h
  · exact Nat.le_of_lt (V_mono f h)
  · rw [h]; exact Nat.le_refl _
theorem pm_le (f : Format) (a b : Nat) (h : siz f b ≤ siz f a) : pm f b ≤ pm f a * 2 ^ (pe f a - pe f b).toNat := by
  have h1 := V_le f h; have h2 := pe_mono f a b h; have h3 := pe_ge f b; rw [← pm_val, ← pm_val, show (pe f a - f.leastPlace).toNat = (pe f a - pe f b).toNat + (pe f b - f.leastPlace).toNat by omega, Nat.pow_add, ← Nat.mul_assoc] at h1; exact Nat.le_of_mul_le_mul_right h1 (Nat.two_pow_pos _)
theorem pm_zero (f : Format) (a : Nat) : pm f a = 0 ↔ siz f a = 0 := by
  have := binade_pos f; unfold pm; split <;> omega
theorem sg_abs (s : Bool) (n : Nat) : (sg s n).natAbs = n := by unfold sg; split <;> omega
theorem rung_2 (f : Format) (m : Nat) (x : Int) : rung f (2 * m + false.toNat) (x - 1) = rung f m x := by
  have := rung_scale f m 1 x; rw [Bool.toNat_false, Nat.add_zero, Nat.mul_comm]; exact this
theorem jam_63 (n k : Nat) (h : n < 9223372036854775808) : jam n (min k 63) = jam n k := by
  by_cases c : k ≤ 63
  · rw [Nat.min_eq_left c]
  · have h2 : 2 ^ 63 ≤ 2 ^ k := Nat.pow_le_pow_right (by omega) (by omega)
    rw [Nat.min_eq_right (by omega)]; unfold jam; rw [Nat.mod_eq_of_lt (show n < 2 ^ 63 by omega), Nat.mod_eq_of_lt (show n < 2 ^ k by omega), Nat.div_eq_of_lt (show n < 2 ^ 63 by omega), Nat.div_eq_of_lt (show n < 2 ^ k by omega)]
theorem sum_same (f : Format) (a b : Nat) (ha : siz f a < f.infRung) (h : siz f b ≤ siz f a) (hs : neg f a = neg f b) :
    f.add a b = some (f.word (neg f a) (rung f (pm f a * 2 ^ (pe f a - pe f b).toNat + pm f b) (pe f b))) := by
  have hm := pe_mono f a b h; unfold Format.add; rw [read_pm f a ha, read_pm f b (by omega), ← hs]; show some (f.nearest (if signed (neg f a) (pm f a) (pe f a - min (pe f a) (pe f b)).toNat + signed (neg f a) (pm f b) (pe f b - min (pe f a) (pe f b)).toNat = 0 then _ else _) _ _) = _
  rw [nearest_eq, Int.min_eq_right hm, signed_eq, signed_eq, Int.sub_self, Int.toNat_zero, Nat.pow_zero, Nat.mul_one]; generalize pm f a * 2 ^ (pe f a - pe f b).toNat = X; generalize pm f b = Y; have e : sg (neg f a) X + sg (neg f a) Y = sg (neg f a) (X + Y) := by unfold sg; split <;> omega
  rw [e, sg_abs]; congr 2
  unfold sg; cases neg f a
  · simp <;> omega
  · by_cases c : X + Y = 0
    · rw [c]; simp
    · simp <;> omega
theorem sum_opp (f : Format) (a b : Nat) (ha : siz f a < f.infRung) (h : siz f b ≤ siz f a) (hs : neg f a ≠ neg f b) :
    f.add a b = some (f.word (neg f a && decide (pm f a * 2 ^ (pe f a - pe f b).toNat ≠ pm f b)) (rung f (pm f a * 2 ^ (pe f a - pe f b).toNat - pm f b) (pe f b))) := by
  have hm := pe_mono f a b h; have hl := pm_le f a b h; have hs : neg f b = !neg f a := by revert hs; cases neg f a <;> cases neg f b <;> simp
  unfold Format.add; rw [read_pm f a ha, read_pm f b (by omega), hs]; show some (f.nearest (if signed (neg f a) (pm f a) (pe f a - min (pe f a) (pe f b)).toNat + signed (!neg f a) (pm f b) (pe f b - min (pe f a) (pe f b)).toNat = 0 then _ else _) _ _) = _
  rw [nearest_eq, Int.min_eq_right hm, signed_eq, signed_eq, Int.sub_self, Int.toNat_zero, Nat.pow_zero, Nat.mul_one]; generalize pm f a * 2 ^ (pe f a - pe f b).toNat = X at *; generalize pm f b = Y at *; have e : sg (neg f a) X + sg (!neg f a) Y = sg (neg f a) (X - Y) := by unfold sg; cases neg f a <;> simp <;> omega
  rw [e, sg_abs]; congr 2
  unfold sg; by_cases c : X = Y
  · subst c
    rw [Nat.sub_self]; cases neg f a <;> simp
  · rw [decide_eq_true c, Bool.and_true]
    have hne : X - Y ≠ 0 := by omega
    cases neg f a
    · simp
    · simp only [↓reduceIte]
      rw [if_neg (by omega)]; exact decide_eq_true (by omega)
theorem pk_ (f : Format) (a b : Nat) (h : siz f b ≤ siz f a) : (pe f a - pe f b).toNat = 0 ∨ f.binade ≤ pm f a := by
  have h1 := pe_mono f a b h; have h2 := pe_ge f b; by_cases c : pe f a = f.leastPlace
  · left; omega
  · right; exact pm_ge f a c
theorem add_same (f : Format) (a b : Nat) (hB : f.binade ≤ 4503599627370496) (ha : siz f a < f.infRung) (h : siz f b ≤ siz f a) (hs : neg f a = neg f b) :
    f.add a b = some (f.word (neg f a) (rung f (2 * (pm f a * 2 ^ 10 + jam (pm f b * 2 ^ 10) (min (pe f a - pe f b).toNat 63)) + false.toNat) (pe f a - 10 - 1))) := by
  have hm := pe_mono f a b h; have hb := pm_lt f b; rw [sum_same f a b ha h hs, rung_2, jam_63 _ _ (by omega), rung_add f _ _ _ _ (pk_ f a b h), show pe f a - ((pe f a - pe f b).toNat : Int) = pe f b by omega]
theorem jam_ne (f : Format) (x y k : Nat) (hx : k = 0 ∨ f.binade ≤ x) (hy : y < 2 * f.binade) : (x * 2 ^ 10 = jam (y * 2 ^ 10) k ↔ x * 2 ^ k = y) ∧ jam (y * 2 ^ 10) k ≤ y * 2 ^ 10 := by
  by_cases c : k = 0
  · subst c
    rw [jam_zero, Nat.pow_zero, Nat.mul_one]; omega
  · have hx : f.binade ≤ x := by omega
    have hp : 2 ^ 1 ≤ 2 ^ k := Nat.pow_le_pow_right (by omega) (by omega); have h1 : x * 2 ^ 1 ≤ x * 2 ^ k := Nat.mul_le_mul_left _ hp; have h2 := (jam_le (y * 2 ^ 10) k).2; have h3 : y * 2 ^ 10 / 2 ^ k ≤ y * 2 ^ 10 / 2 ^ 1 := Nat.div_le_div_left hp (by omega); have hz : y = 0 → jam (y * 2 ^ 10) k = 0 := by rintro rfl; simp [jam]
    have := binade_pos f; refine ⟨⟨fun h => ?_, fun h => ?_⟩, ?_⟩
    · omega
    · omega
    · by_cases d : y = 0
      · rw [hz d]; omega
      · omega
theorem add_opp (f : Format) (a b : Nat) (hB : f.binade ≤ 4503599627370496) (hP : 4 ≤ f.fractionBits) (ha : siz f a < f.infRung) (h : siz f b ≤ siz f a) (hs : neg f a ≠ neg f b) :
    jam (pm f b * 2 ^ 10) (min (pe f a - pe f b).toNat 63) ≤ pm f a * 2 ^ 10 ∧
    f.add a b = some (f.word (neg f a && decide (pm f a * 2 ^ 10 ≠ jam (pm f b * 2 ^ 10) (min (pe f a - pe f b).toNat 63))) (rung f (2 * (pm f a * 2 ^ 10 - jam (pm f b * 2 ^ 10) (min (pe f a - pe f b).toNat 63)) + false.toNat) (pe f a - 10 - 1))) := by
  have hm := pe_mono f a b h; have hl := pm_le f a b h; have hb := pm_lt f b; have hk := pk_ f a b h; have hj := jam_ne f (pm f a) (pm f b) (pe f a - pe f b).toNat hk hb; rw [sum_opp f a b ha h hs, rung_2, jam_63 _ _ (by omega), rung_sub f _ _ _ _ hk hb hP hl, show pe f a - ((pe f a - pe f b).toNat : Int) = pe f b by omega]; refine ⟨?_, ?_⟩
  · rcases hk with h0 | h0
    · rw [h0, Nat.pow_zero, Nat.mul_one] at hl
      exact Nat.le_trans hj.2 (Nat.mul_le_mul_right (2 ^ 10) hl)
    · by_cases c : (pe f a - pe f b).toNat = 0
      · rw [c, Nat.pow_zero, Nat.mul_one] at hl
        exact Nat.le_trans hj.2 (Nat.mul_le_mul_right (2 ^ 10) hl)
      · have hp : 2 ^ 1 ≤ 2 ^ (pe f a - pe f b).toNat := Nat.pow_le_pow_right (by omega) (by omega)
        have h2 := (jam_le (pm f b * 2 ^ 10) (pe f a - pe f b).toNat).2; have h3 : pm f b * 2 ^ 10 / 2 ^ (pe f a - pe f b).toNat ≤ pm f b * 2 ^ 10 / 2 ^ 1 := Nat.div_le_div_left hp (by omega); have := binade_pos f; omega
  · have e : decide (pm f a * 2 ^ (pe f a - pe f b).toNat ≠ pm f b) = decide (pm f a * 2 ^ 10 ≠ jam (pm f b * 2 ^ 10) (pe f a - pe f b).toNat) := by
      rw [decide_eq_decide]; exact not_congr hj.1.symm
    rw [e]
theorem add_comm_ (f : Format) (a b : Nat) : f.add a b = f.add b a := by
  unfold Format.add; congr 1
  cases f.read a <;> cases f.read b <;> try rfl
  · rename_i s m i t n j
    show some (Datum.number _ _ _) = some (Datum.number _ _ _)
    rw [Int.min_comm i j, Int.add_comm, Bool.and_comm]
  · rename_i s t
    show (if s = t then some (Datum.infinity s) else none) = (if t = s then some (Datum.infinity t) else none)
    by_cases c : s = t
    · rw [c]
    · rw [if_neg c, if_neg (fun h => c h.symm)]
end Go.Proofs.YtkhhhceeoljheaaGreatDoor
set_option linter.unusedVariables false
namespace Go.Proofs.YtkhhhceeoljheaaGreatDoor
open Go.RowKit Go.Proofs.YtkhhhceeoljheaaGreatDoor.Fl Ieee
theorem bl_log (m : Nat) (h0 : m ≠ 0) (h : m < 18446744073709551616) : Lib.bitLen m = m.log2 + 1 := by
  obtain ⟨a, b, c⟩ := Lib.bitLenAux_bounds 64 m h h0; unfold Lib.bitLen; generalize Lib.bitLenAux 64 m = L at *; have := (Nat.log2_eq_iff (k := L - 1) h0).2 ⟨b, by rw [Nat.sub_add_cancel a]; exact c⟩; omega
theorem bl_zero : Lib.bitLen 0 = 0 := by decide
theorem xor_ne (a b : Bool) : (a ^^ b) = !(a == b) := by cases a <;> cases b <;> rfl
theorem mul_fin (f : Format) (a b : Nat) (ha : siz f a < f.infRung) (hb : siz f b < f.infRung) :
    f.mul a b = some (f.word (!(neg f a == neg f b)) (rung f (pm f a * pm f b) (pe f a + pe f b))) := by
  unfold Format.mul; rw [read_pm f a ha, read_pm f b hb]; show some (f.nearest (neg f a ^^ neg f b) _ _) = _
  rw [nearest_eq, xor_ne]
theorem mul_z (f : Format) (hP : f.fractionBits ≤ 52) (N : Nat) (e : Int) (hi lo : Nat) (h1 : N / 18446744073709551616 = hi) (h2 : N % 18446744073709551616 = lo) (hh : hi < 4398046511104) :
    Lib.bitLen hi ≤ 42 ∧ (Lib.bitLen hi = 0 → lo = N) ∧ (0 < Lib.bitLen hi → hi * 2 ^ (64 - Lib.bitLen hi) < 18446744073709551616 ∧ hi * 2 ^ (64 - Lib.bitLen hi) + jam lo (Lib.bitLen hi) < 18446744073709551616 ∧ jam lo (Lib.bitLen hi) < 2 ^ (64 - Lib.bitLen hi) ∧
      rung f (hi * 2 ^ (64 - Lib.bitLen hi) + jam lo (Lib.bitLen hi)) (e + Lib.bitLen hi) = rung f N e) := by
  have hN : N = hi * 2 ^ 64 + lo := by omega
  have hlo : lo < 18446744073709551616 := by omega
  by_cases c : hi = 0
  · subst c
    rw [bl_zero]; exact ⟨by omega, fun _ => by omega, fun h => by omega⟩
  · have hb := bl_log hi c (by omega)
    have l1 := Nat.log2_self_le c; have l2 : hi < 2 ^ (hi.log2 + 1) := Nat.lt_log2_self; have l3 : hi.log2 ≤ 41 := log2_lt_pow (by omega); rw [← hb] at l2; refine ⟨by omega, fun h => by omega, fun h => ?_⟩; have hb1 : hi.log2 = Lib.bitLen hi - 1 := by omega
    rw [hb1] at l1; have hL : Lib.bitLen hi ≤ 42 := by omega
    generalize Lib.bitLen hi = L at *; have e1 : (2 : Nat) ^ L * 2 ^ (64 - L) = 18446744073709551616 := by rw [← Nat.pow_add, show L + (64 - L) = 64 by omega]
    have e2 : (2 : Nat) ^ (L - 1) * 2 ^ (64 - L) = 9223372036854775808 := by rw [← Nat.pow_add, show L - 1 + (64 - L) = 63 by omega]
    have m1 : (hi + 1) * 2 ^ (64 - L) ≤ 2 ^ L * 2 ^ (64 - L) := Nat.mul_le_mul_right _ (by omega); have m2 : 2 ^ (L - 1) * 2 ^ (64 - L) ≤ hi * 2 ^ (64 - L) := Nat.mul_le_mul_right _ l1
    have j1 : jam lo L < 2 ^ (64 - L) := by
      have q1 : lo / 2 ^ L < 2 ^ (64 - L) := by rw [Nat.div_lt_iff_lt_mul (Nat.two_pow_pos _), Nat.mul_comm, e1]; omega
      have q2 : 2 ^ (64 - L) = 2 * 2 ^ (64 - L - 1) := two_pow_split (by omega); unfold jam; split <;> omega
    rw [Nat.add_mul, Nat.one_mul, e1] at m1; rw [e2] at m2; refine ⟨by have := Nat.two_pow_pos (64 - L); omega, by omega, j1, ?_⟩; have hw := jam_wide hi lo L (by omega); rw [← hN] at hw; rw [← hw]; apply rung_jam'
    right
    rw [hw]; have hz : hi * 2 ^ (64 - L) + jam lo L ≠ 0 := by omega
    have h63 : 63 ≤ (hi * 2 ^ (64 - L) + jam lo L).log2 := (Nat.le_log2 hz).2 (by omega); omega
theorem div_scale (N n t : Nat) : N * 2 ^ t / (n * 2 ^ t) = N / n ∧ (N * 2 ^ t % (n * 2 ^ t) != 0) = (N % n != 0) := by
  have hp := Nat.two_pow_pos t; refine ⟨Nat.mul_div_mul_right _ _ hp, ?_⟩; rw [Nat.mul_mod_mul_right, Bool.eq_iff_iff, bne_iff_ne, bne_iff_ne]; constructor
  · intro h c; exact h (by rw [c, Nat.zero_mul])
  · intro h c; rcases Nat.mul_eq_zero.1 c with c | c
    · exact h c
    · omega
theorem rung_div2 (f : Format) (m n j k : Nat) (i : Int) (hn : 0 < n) (hj : f.fractionBits + 1 ≤ (m * 2 ^ j / n).log2) (hk : f.fractionBits + 1 ≤ (m * 2 ^ k / n).log2) :
    rung f (2 * (m * 2 ^ j / n) + (m * 2 ^ j % n != 0).toNat) (i - j) = rung f (2 * (m * 2 ^ k / n) + (m * 2 ^ k % n != 0).toNat) (i - k) := by
  rcases Nat.le_total j k with h | h
  · obtain ⟨d, rfl⟩ := Nat.exists_eq_add_of_le h
    have := rung_div f (m * 2 ^ j) n d (i - j) hn hj; rw [Nat.mul_assoc, ← Nat.pow_add] at this; rw [← this]; congr 1; omega
  · obtain ⟨d, rfl⟩ := Nat.exists_eq_add_of_le h
    have := rung_div f (m * 2 ^ k) n d (i - k) hn hk; rw [Nat.mul_assoc, ← Nat.pow_add] at this; rw [← this]; congr 1; omega
theorem div_fin (f : Format) (a b : Nat) (ha : siz f a < f.infRung) (hb : siz f b < f.infRung) (h0 : siz f a ≠ 0) (h1 : siz f b ≠ 0) (J : Nat) (hJ : f.fractionBits + 1 ≤ (pm f a * 2 ^ J / pm f b).log2) :
    f.div a b = some (f.word (!(neg f a == neg f b)) (rung f (2 * (pm f a * 2 ^ J / pm f b) + (pm f a * 2 ^ J % pm f b != 0).toNat) (pe f a - pe f b - J - 1))) := by
  have m0 : pm f a ≠ 0 := fun h => h0 ((pm_zero f a).1 h)
  have n0 : pm f b ≠ 0 := fun h => h1 ((pm_zero f b).1 h)
  unfold Format.div; rw [read_pm f a ha, read_pm f b hb]; generalize pm f a = m at *; generalize pm f b = n at *; show Option.map f.write (if n = 0 then _ else some (Datum.number (neg f a ^^ neg f b) _ _)) = _
  rw [if_neg n0]; show some (f.nearest (neg f a ^^ neg f b) _ _) = _
  rw [nearest_eq, xor_ne, Nat.shiftLeft_eq]
  have hM : f.fractionBits + 1 ≤ (m * 2 ^ (f.fractionBits + 2 + n.log2 - m.log2) / n).log2 := by
    have l1 := Nat.log2_self_le m0; have l2 : n < 2 ^ (n.log2 + 1) := Nat.lt_log2_self
    have l3 : 2 ^ (f.fractionBits + 2 + n.log2) ≤ m * 2 ^ (f.fractionBits + 2 + n.log2 - m.log2) := by
      refine Nat.le_trans ?_ (Nat.mul_le_mul_right _ l1); rw [← Nat.pow_add]; exact Nat.pow_le_pow_right (by omega) (by omega)
    have l4 : 2 ^ (f.fractionBits + 1) ≤ m * 2 ^ (f.fractionBits + 2 + n.log2 - m.log2) / n := by
      rw [Nat.le_div_iff_mul_le (by omega)]; refine Nat.le_trans ?_ l3; have e : 2 ^ (f.fractionBits + 2 + n.log2) = 2 ^ (f.fractionBits + 1) * 2 ^ (n.log2 + 1) := by rw [← Nat.pow_add]; congr 1; omega
      rw [e]; exact Nat.mul_le_mul_left _ (by omega)
    have := Nat.two_pow_pos (f.fractionBits + 1); exact (Nat.le_log2 (by omega)).2 l4
  have := rung_div2 f m n _ J (pe f a - pe f b - 1) (by omega) hM hJ; rw [show pe f a - pe f b - (J : Int) - 1 = pe f a - pe f b - 1 - (J : Int) by omega, ← this]; congr 3
  omega
theorem div_law (f : Format) (hP : f.fractionBits ≤ 52) (a b : Nat) (hB : f.binade ≤ 4503599627370496) (ha : siz f a < f.infRung) (hb : siz f b < f.infRung) (h0 : siz f a ≠ 0) (h1 : siz f b ≠ 0) (u t c : Nat) (hu : 11 ≤ u ∧ u ≤ 63) (ht : t ≤ 63)
    (M K : Nat) (hM : M * 2 ^ c = pm f a * 2 ^ u) (hK : K = pm f b * 2 ^ t) (hc : c ≤ 1) (hM1 : 4611686018427387904 ≤ M) (hK1 : K < 18446744073709551616) :
    f.div a b = some (f.word (!(neg f a == neg f b)) (rung f (2 * (M * 18446744073709551616 / K) + (M * 18446744073709551616 % K != 0).toNat) ((pe f a - u + c) - (pe f b - t) - 64 - 1))) ∧ 4611686018427387904 ≤ M * 18446744073709551616 / K := by
  have n0 : pm f b ≠ 0 := fun h => h1 ((pm_zero f b).1 h)
  have hp := Nat.two_pow_pos t; have hK0 : 0 < K := by rw [hK]; exact Nat.mul_pos (by omega) hp
  have e : M * 18446744073709551616 = pm f a * 2 ^ (u + 64 - c - t) * 2 ^ t := by
    have hcp := Nat.two_pow_pos c; refine Nat.eq_of_mul_eq_mul_right hcp ?_; rw [Nat.mul_right_comm, hM, Nat.mul_assoc, Nat.mul_assoc, Nat.mul_assoc, ← Nat.pow_add, ← Nat.pow_add, show (18446744073709551616 : Nat) = 2 ^ 64 from rfl, ← Nat.pow_add]; congr 2; omega
  have hq : 4611686018427387904 ≤ M * 18446744073709551616 / K := by
    rw [Nat.le_div_iff_mul_le hK0]; have : 4611686018427387904 * K ≤ M * K := Nat.mul_le_mul_right _ hM1; have : M * K ≤ M * 18446744073709551616 := Nat.mul_le_mul_left _ (by omega); omega
  refine ⟨?_, hq⟩; have s := div_scale (pm f a * 2 ^ (u + 64 - c - t)) (pm f b) t; rw [← e, ← hK] at s
  have hlog : f.fractionBits + 1 ≤ (pm f a * 2 ^ (u + 64 - c - t) / pm f b).log2 := by
    rw [← s.1]; have : 62 ≤ (M * 18446744073709551616 / K).log2 := (Nat.le_log2 (by omega)).2 (by omega); omega
  rw [div_fin f a b ha hb h0 h1 _ hlog, s.1, s.2]; congr 3
  omega
end Go.Proofs.YtkhhhceeoljheaaGreatDoor
set_option linter.unusedVariables false
namespace Go.Proofs.YtkhhhceeoljheaaGreatDoor
open Go.RowKit Go.Proofs.YtkhhhceeoljheaaGreatDoor.Fl Ieee
theorem fm_p (F E : Int) (hF : Fm F E) : F = (((fmt F).fractionBits : Nat) : Int) ∧ (fmt F).fractionBits ≤ 52 ∧ 4 ≤ (fmt F).fractionBits ∧ 1 ≤ (fmt F).exponentBits := by
  rcases hF with ⟨rfl, rfl⟩ | ⟨rfl, rfl⟩ <;> decide +kernel
structure Rnd (F E : Int) (m : Nat) (more : Bool) (x D L : Int) : Prop where
  fm : Fm F E
  m1 : m ≠ 0
  m2 : m < 18446744073709551616
  mo : more = true → 288230376151711744 ≤ m
  x1 : -4900 ≤ x ∧ x ≤ 4900
  l : (fmt F).leastPlace = L
  d : D = max (((Lib.bitLen m : Nat) : Int) + x - 1 - F) L - x ∧ -9000 ≤ D ∧ D ≤ 9000
theorem Rnd.D {F E : Int} {m : Nat} {more : Bool} {x D L : Int} (h : Rnd F E m more x D L) : D = max (x + m.log2 - (fmt F).fractionBits) (fmt F).leastPlace - x := by
  have h1 := h.d.1; have hF := (fm_p F E h.fm).1; rw [bl_log m h.m1 h.m2] at h1; rw [h.l]; omega
theorem Rnd.s {F E : Int} {m : Nat} {more : Bool} {x D L : Int} (h : Rnd F E m more x D L) : more = true → (fmt F).fractionBits + 1 ≤ m.log2 := by
  intro c; have h1 : 58 ≤ m.log2 := (Nat.le_log2 h.m1).2 (h.mo c); have := (fm_p F E h.fm).2.1; omega
theorem rd_lo {F E : Int} {m : Nat} {more : Bool} {x D L : Int} (h : Rnd F E m more x D L) (hk : D ≤ 0) {M : Int} (hM : IntKind.u64.wrap ((m : Int) * 2 ^ min (IntKind.u64.wrap (wrap64 (-D))).toNat 64) = M) : M = ((rq m more D : Nat) : Int) := by
  have h1 := (rq_le (fmt F) m more x h.m1 D h.D).1; have hb := fm_b F E h.fm; have hd := h.d.2; rw [← hM, i64i (show -9223372036854775808 ≤ -D by omega) (by omega), u64i (show 0 ≤ -D by omega) (by omega)]; have e : rq m more D = m * 2 ^ (-D).toNat := by unfold rq; rw [if_pos hk]
  rw [e] at h1 ⊢
  have h2 : (-D).toNat < 64 := by
    refine Decidable.byContradiction fun c => ?_
    have h3 : 2 ^ 64 ≤ 2 ^ (-D).toNat := Nat.pow_le_pow_right (by omega) (by omega); have h4 : 1 * 2 ^ (-D).toNat ≤ m * 2 ^ (-D).toNat := Nat.mul_le_mul_right _ (by have := h.m1; omega); omega
  rw [Nat.min_eq_left (by omega)]; have e2 : (m : Int) * 2 ^ (-D).toNat = ((m * 2 ^ (-D).toNat : Nat) : Int) := by simp
  rw [e2]; exact u64i (by omega) (by omega)
theorem rd_hi {F E : Int} {m : Nat} {more : Bool} {x D L : Int} (h : Rnd F E m more x D L) (hk : 64 < D) : (0 : Int) = ((rq m more D : Nat) : Int) := by
  rw [rq_hi m more D h.m2 hk]; rfl
theorem rd_last (m d : Nat) (hd : 1 ≤ d) (hd2 : d ≤ 64) : IntKind.u64.wrap ((m : Int) * 2 ^ (64 - (d : Int)).toNat) = ((m % 2 ^ d * 2 ^ (64 - d) : Nat) : Int) := by
  rw [show (64 - (d : Int)).toNat = 64 - d by omega]; have e : (m : Int) * 2 ^ (64 - d) = ((m * 2 ^ (64 - d) : Nat) : Int) := by simp
  have e2 : (18446744073709551616 : Nat) = 2 ^ d * 2 ^ (64 - d) := by rw [← Nat.pow_add, show d + (64 - d) = 64 by omega]
  rw [e, u64w, show (18446744073709551616 : Int) = ((18446744073709551616 : Nat) : Int) from rfl, ← Int.natCast_emod, e2, Nat.mul_mod_mul_right]
theorem rd_cmp (m d : Nat) (hd : 1 ≤ d) (hd2 : d ≤ 64) : (IntKind.u64.wrap ((m : Int) * 2 ^ (64 - (d : Int)).toNat) ≤ 9223372036854775808 ↔ 2 * (m % 2 ^ d) ≤ 2 ^ d) ∧ (IntKind.u64.wrap ((m : Int) * 2 ^ (64 - (d : Int)).toNat) = 9223372036854775808 ↔ 2 * (m % 2 ^ d) = 2 ^ d) := by
  rw [rd_last m d hd hd2]; have hp := Nat.two_pow_pos (64 - d); have e : (9223372036854775808 : Nat) = 2 ^ (d - 1) * 2 ^ (64 - d) := by rw [← Nat.pow_add, show d - 1 + (64 - d) = 63 by omega]
  have e3 : 2 ^ d = 2 * 2 ^ (d - 1) := two_pow_split hd; generalize m % 2 ^ d = r; have c1 : r * 2 ^ (64 - d) ≤ 9223372036854775808 ↔ r ≤ 2 ^ (d - 1) := by rw [e]; exact Nat.mul_le_mul_right_iff hp
  have c2 : r * 2 ^ (64 - d) = 9223372036854775808 ↔ r = 2 ^ (d - 1) := by rw [e]; exact Nat.mul_left_inj (by omega)
  generalize 2 ^ (d - 1) = q at *; generalize r * 2 ^ (64 - d) = z at *; omega
theorem rd_q (m d : Nat) (hd : 1 ≤ d) : (m : Int) / 2 / 2 ^ (((d : Nat) : Int).toNat - 1) = ((m / 2 ^ d : Nat) : Int) := by
  rw [Int.toNat_natCast, two_pow_split hd, ← Nat.div_div_eq_div_mul]; simp
theorem rd_odd (q : Nat) (hq : q < 18446744073709551616) : (bits .and .u64 (q : Int) 1 == 1) = (q % 2 == 1) := by
  have := fandN q 1 hq (by omega); rw [show ((1 : Nat) : Int) = 1 from rfl, Nat.and_one_is_mod] at this; rw [this]; rcases Nat.mod_two_eq_zero_or_one q with h | h <;> rw [h] <;> rfl
theorem rd_up {F E : Int} {m : Nat} {more : Bool} {x D L : Int} (h : Rnd F E m more x D L) (h0 : ¬ D ≤ 0) (h1 : ¬ 64 < D)
    (hc : ¬ IntKind.u64.wrap ((m : Int) * 2 ^ (64 - D).toNat) ≤ 9223372036854775808 ∨ (IntKind.u64.wrap ((m : Int) * 2 ^ (64 - D).toNat) = 9223372036854775808 ∧ (more = true ∨ (bits .and .u64 ((m : Int) / 2 / 2 ^ (D.toNat - 1)) 1 == 1) = true)))
    {M : Int} (hM : IntKind.u64.wrap ((m : Int) / 2 / 2 ^ (D.toNat - 1) + 1) = M) : M = ((rq m more D : Nat) : Int) := by
  obtain ⟨d, rfl⟩ : ∃ d : Nat, D = d := ⟨D.toNat, by omega⟩
  have hm := h.m2; have hq : m / 2 ^ d ≤ m / 2 := by rw [show m / 2 = m / 2 ^ 1 from rfl]; exact Nat.div_le_div_left (Nat.pow_le_pow_right (by omega) (by omega)) (by omega)
  rw [rd_q m d (by omega)] at hM hc; rw [rd_odd _ (by omega)] at hc; rw [(rd_cmp m d (by omega) (by omega)).1, (rd_cmp m d (by omega) (by omega)).2] at hc; rw [rq_mid m more d (by omega), ← hM]; generalize m / 2 ^ d = q at *; generalize m % 2 ^ d = r at *; generalize 2 ^ d = p at *
  rw [if_pos (by
    rcases hc with c | ⟨c, c2⟩
    · left; omega
    · right
      refine ⟨c.symm, ?_⟩; rcases c2 with c2 | c2
      · exact Or.inl c2
      · exact Or.inr (by simpa using c2))]
  exact u64i (by omega) (by omega)
theorem rd_no {F E : Int} {m : Nat} {more : Bool} {x D L : Int} (h : Rnd F E m more x D L) (h0 : ¬ D ≤ 0) (h1 : ¬ 64 < D)
    (hc : IntKind.u64.wrap ((m : Int) * 2 ^ (64 - D).toNat) ≤ 9223372036854775808) (hc2 : ¬ IntKind.u64.wrap ((m : Int) * 2 ^ (64 - D).toNat) = 9223372036854775808 ∨ (¬ more = true ∧ (bits .and .u64 ((m : Int) / 2 / 2 ^ (D.toNat - 1)) 1 == 1) = false))
    {M : Int} (hM : (m : Int) / 2 / 2 ^ (D.toNat - 1) = M) : M = ((rq m more D : Nat) : Int) := by
  obtain ⟨d, rfl⟩ : ∃ d : Nat, D = d := ⟨D.toNat, by omega⟩
  have hm := h.m2; have hq : m / 2 ^ d ≤ m / 2 := by rw [show m / 2 = m / 2 ^ 1 from rfl]; exact Nat.div_le_div_left (Nat.pow_le_pow_right (by omega) (by omega)) (by omega)
  rw [rd_q m d (by omega)] at hM hc2; rw [rd_odd _ (by omega)] at hc2; rw [(rd_cmp m d (by omega) (by omega)).1] at hc; rw [(rd_cmp m d (by omega) (by omega)).2] at hc2; rw [rq_mid m more d (by omega), ← hM]; generalize m / 2 ^ d = q at *; generalize m % 2 ^ d = r at *; generalize 2 ^ d = p at *
  rw [if_neg (by
    rintro (c | ⟨c, c2⟩)
    · omega
    · rcases hc2 with k | ⟨k, k2⟩
      · exact k c.symm
      · rcases c2 with c2 | c2
        · exact k c2
        · rw [c2] at k2; cases k2)]
  rfl
theorem rd_nb (m : Nat) (hm : m < 18446744073709551616) (D : Int) (h0 : ¬ D ≤ 0) {M : Int} (hM : (m : Int) / 2 / 2 ^ (D.toNat - 1) = M) : 0 ≤ M ∧ M < 18446744073709551616 := by
  obtain ⟨d, rfl⟩ : ∃ d : Nat, D = d := ⟨D.toNat, by omega⟩
  rw [rd_q m d (by omega)] at hM; have := Nat.div_le_self m (2 ^ d); generalize m / 2 ^ d = q at *; omega
theorem rd_wb {n M : Int} (hM : IntKind.u64.wrap n = M) : 0 ≤ M ∧ M < 18446744073709551616 := by rw [← hM, u64w]; omega
theorem rd_inf {F E : Int} {m : Nat} {more : Bool} {x D L : Int} (h : Rnd F E m more x D L) {M : Int} (hM : M = ((rq m more D : Nat) : Int)) (s : Bool) (B G : Int) (h1 : B ≤ M) (h2 : G ≤ wrap64 (wrap64 (x + D) - L)) (hB : B = (((fmt F).binade : Nat) : Int)) (hG : G = ((G.toNat : Nat) : Int) ∧ (fmt F).infRung ≤ G.toNat * (fmt F).binade) :
    (((fmt F).word s (fmt F).infRung : Nat) : Int) = (((fmt F).word s (rung (fmt F) (2 * m + more.toNat) (x - 1)) : Nat) : Int) := by
  have hl := fm_b F E h.fm; have hd := h.d.2; have hx := h.x1; have hL := h.l; rw [i64i (show -9223372036854775808 ≤ x + D by omega) (by omega), i64i (by omega) (by omega)] at h2; rw [((rung_end (fmt F) m more x h.m1 h.s D h.D _ rfl (x + D - L) (Or.inl ⟨by omega, by rw [hL]⟩) G.toNat hG.2).1 (by omega))]
theorem rd_fin {F E : Int} {m : Nat} {more : Bool} {x D L : Int} (h : Rnd F E m more x D L) {M : Int} (hM : M = ((rq m more D : Nat) : Int)) (s : Bool) (B G P X : Int) (hX : (B ≤ M ∧ X = wrap64 (wrap64 (x + D) - L) ∧ X < G) ∨ (M < B ∧ X = 0)) (hB : B = (((fmt F).binade : Nat) : Int)) (hP : P = (((fmt F).binade : Nat) : Int)) (hG : G = ((G.toNat : Nat) : Int) ∧ (fmt F).infRung ≤ G.toNat * (fmt F).binade ∧ G.toNat * (fmt F).binade ≤ 9223372036854775808 ∧ 1 ≤ G.toNat ∧ G.toNat ≤ 2048) :
    (((fmt F).word s (min (IntKind.u64.wrap (IntKind.u64.wrap (IntKind.u64.wrap X * P) + M)) (((fmt F).infRung : Nat) : Int)).toNat : Nat) : Int) = (((fmt F).word s (rung (fmt F) (2 * m + more.toNat) (x - 1)) : Nat) : Int) := by
  have hl := fm_b F E h.fm; have hd := h.d.2; have hx := h.x1; have hL := h.l; rw [i64i (show -9223372036854775808 ≤ x + D by omega) (by omega), i64i (show -9223372036854775808 ≤ x + D - L by omega) (by omega)] at hX; have hlt : X < ((G.toNat : Nat) : Int) := by omega
  obtain ⟨e1, e2, e3⟩ := (rung_end (fmt F) m more x h.m1 h.s D h.D _ rfl X (by
    rcases hX with ⟨a, b, c⟩ | ⟨a, b⟩
    · exact Or.inl ⟨by omega, by rw [hL]; exact b⟩
    · exact Or.inr ⟨by omega, b⟩) G.toNat hG.2.1).2 hlt
  rw [e3]; have m1 : (X.toNat + 1) * (fmt F).binade ≤ G.toNat * (fmt F).binade := Nat.mul_le_mul_right _ (by omega); rw [Nat.add_mul, Nat.one_mul] at m1
  have eP : X * P = ((X.toNat * (fmt F).binade : Nat) : Int) := by
    rw [hP, Int.natCast_mul, Int.toNat_of_nonneg e1]
  rw [u64i e1 (by omega), eP]; generalize X.toNat * (fmt F).binade = z at *; generalize rq m more D = q at *; rw [u64i (show (0 : Int) ≤ (z : Int) by omega) (by omega), hM, u64i (by omega) (by omega)]; have e : (min ((z : Int) + (q : Int)) (((fmt F).infRung : Nat) : Int)).toNat = min (z + q) (fmt F).infRung := by omega
  rw [e]
theorem rd_fin0 {F E : Int} {m : Nat} {more : Bool} {x D L : Int} (h : Rnd F E m more x D L) (hM : (0 : Int) = ((rq m more D : Nat) : Int)) (s : Bool) (B G P : Int) (hB0 : 0 < B) (hB : B = (((fmt F).binade : Nat) : Int)) (hP : P = (((fmt F).binade : Nat) : Int)) (hG : G = ((G.toNat : Nat) : Int) ∧ (fmt F).infRung ≤ G.toNat * (fmt F).binade ∧ G.toNat * (fmt F).binade ≤ 9223372036854775808 ∧ 1 ≤ G.toNat ∧ G.toNat ≤ 2048) :
    (((fmt F).word s (min (IntKind.u64.wrap (IntKind.u64.wrap (IntKind.u64.wrap 0 * P))) (((fmt F).infRung : Nat) : Int)).toNat : Nat) : Int) = (((fmt F).word s (rung (fmt F) (2 * m + more.toNat) (x - 1)) : Nat) : Int) := by
  have := rd_fin h hM s B G P 0 (Or.inr ⟨hB0, rfl⟩) hB hP hG; rw [Int.add_zero] at this; exact this
end Go.Proofs.YtkhhhceeoljheaaGreatDoor
set_option linter.unusedVariables false
namespace Go.Proofs.YtkhhhceeoljheaaGreatDoor
def Dg (U y h l : Nat) (q r : Nat) : Prop := y = h * 4294967296 + l ∧ 2147483648 ≤ h ∧ h < 4294967296 ∧ l < 4294967296 ∧ U < y ∧ q * h + r = U ∧ U * 4294967296 / y ≤ q ∧ q ≤ 4294967297
theorem dg_lt {U y h l q r : Nat} (H : Dg U y h l q r) : U * 4294967296 / y < 4294967296 := by
  obtain ⟨h1, h2, h3, h4, h5, -⟩ := H; rw [Nat.div_lt_iff_lt_mul (by omega), Nat.mul_comm]; omega
theorem dg_start (U y : Nat) (h1 : 9223372036854775808 ≤ y) (h2 : y < 18446744073709551616) (h3 : U < y) : Dg U y (y / 4294967296) (y % 4294967296) (U / (y / 4294967296)) (U % (y / 4294967296)) ∧ U % (y / 4294967296) < 4294967296 := by
  have d := Nat.div_add_mod y 4294967296; have hm := Nat.mod_lt y (show 4294967296 > 0 by omega); generalize y / 4294967296 = h at *; generalize y % 4294967296 = l at *; have hh : 0 < h := by omega
  have e := Nat.div_add_mod U h; have er := Nat.mod_lt U hh; refine ⟨⟨by omega, by omega, by omega, by omega, h3, by rw [Nat.mul_comm]; exact e, ?_, ?_⟩, by omega⟩
  · 
    rw [← Nat.mul_div_mul_right U h (show 0 < 4294967296 by omega)]; refine Nat.div_le_div_left (by omega) (Nat.mul_pos hh (by omega))
  · have : U / h < 4294967298 := by
      rw [Nat.div_lt_iff_lt_mul hh]; omega
    omega
theorem dg_mul {U y h l q r : Nat} (H : Dg U y h l q r) : q * y + r * 4294967296 = U * 4294967296 + q * l := by
  obtain ⟨h1, -, -, -, -, h6, -⟩ := H; rw [h1, ← h6, Nat.mul_add, Nat.add_mul, Nat.mul_assoc]; omega
theorem dg_end {U y h l q r : Nat} (H : Dg U y h l q r) (hc : q * l ≤ 4294967296 * r) : q = U * 4294967296 / y := by
  have e := dg_mul H; obtain ⟨h1, h2, h3, h4, h5, h6, h7, h8⟩ := H; refine Nat.le_antisymm ?_ h7; rw [Nat.le_div_iff_mul_le (by omega)]; omega
theorem dg_far {U y h l q r : Nat} (H : Dg U y h l q r) (hr : 4294967296 ≤ r) (hq : q ≤ 4294967296) : q = U * 4294967296 / y := by
  refine dg_end H ?_; have h4 := H.2.2.2.1; have a1 : q * l ≤ 4294967296 * l := Nat.mul_le_mul_right _ hq; omega
theorem dg_gt {U y h l q r : Nat} (H : Dg U y h l q r) (hc : 4294967296 ≤ q ∨ 4294967296 * r < q * l) : U * 4294967296 / y < q := by
  have e := dg_mul H; have hl := dg_lt H; obtain ⟨h1, h2, h3, h4, h5, h6, h7, h8⟩ := H; rcases hc with c | c
  · omega
  · rw [Nat.div_lt_iff_lt_mul (by omega)]
    omega
theorem dg_step {U y h l q r : Nat} (H : Dg U y h l q r) (hc : 4294967296 ≤ q ∨ 4294967296 * r < q * l) : 1 ≤ q ∧ Dg U y h l (q - 1) (r + h) := by
  have hg := dg_gt H hc; obtain ⟨h1, h2, h3, h4, h5, h6, h7, h8⟩ := H; have hq0 : 0 < q := Nat.lt_of_le_of_lt (Nat.zero_le _) hg; obtain ⟨p, rfl⟩ : ∃ p, q = p + 1 := ⟨q - 1, by omega⟩
  refine ⟨by omega, h1, h2, h3, h4, h5, ?_, by omega, by omega⟩; rw [Nat.add_mul, Nat.one_mul] at h6; rw [Nat.add_sub_cancel]; omega
theorem dg_rest (U y : Nat) (hy : 0 < y) : U * 4294967296 - U * 4294967296 / y * y = U * 4294967296 % y ∧ U * 4294967296 / y * y ≤ U * 4294967296 := by
  have := Nat.div_add_mod (U * 4294967296) y; rw [Nat.mul_comm] at this; generalize U * 4294967296 / y * y = z at *; generalize U * 4294967296 % y = t at *; omega
theorem dg_two (U y : Nat) (hy : 0 < y) : U * 4294967296 / y * 4294967296 + U * 4294967296 % y * 4294967296 / y = U * 18446744073709551616 / y ∧ U * 4294967296 % y * 4294967296 % y = U * 18446744073709551616 % y := by
  have d := Nat.div_add_mod (U * 4294967296) y
  have e : U * 18446744073709551616 = U * 4294967296 % y * 4294967296 + y * (U * 4294967296 / y * 4294967296) := by
    rw [← Nat.mul_assoc, ← Nat.add_mul, Nat.add_comm, d]; omega
  rw [e, Nat.add_mul_div_left _ _ hy, Nat.add_mul_mod_self_left]; exact ⟨Nat.add_comm _ _, rfl⟩
end Go.Proofs.YtkhhhceeoljheaaGreatDoor
set_option linter.unusedVariables false
namespace Go.Proofs.YtkhhhceeoljheaaGreatDoor
open Go.Proofs.YtkhhhceeoljheaaGreatDoor.Fl
def Rt (m k w r : Nat) : Prop := w * w + r = m * 2 ^ 64 / 2 ^ (128 - 2 * k) ∧ r ≤ 2 * w
theorem rt_start (m : Nat) (hm : m < 18446744073709551616) : Rt m 0 0 0 := by
  refine ⟨?_, by omega⟩; rw [Nat.div_eq_of_lt]; have : (2 : Nat) ^ (128 - 2 * 0) = 340282366920938463463374607431768211456 := by decide +kernel
  omega
def pairAt (m k : Nat) : Nat := if k < 32 then m / 2 ^ (62 - 2 * k) % 4 else 0
theorem rt_next (m k : Nat) (hk : k < 62) : m * 2 ^ 64 / 2 ^ (128 - 2 * (k + 1)) = 4 * (m * 2 ^ 64 / 2 ^ (128 - 2 * k)) + pairAt m k := by
  have e : (2 : Nat) ^ (128 - 2 * k) = 2 ^ (128 - 2 * (k + 1)) * 4 := by rw [show (4 : Nat) = 2 ^ 2 from rfl, ← Nat.pow_add]; congr 1; omega
  rw [e, ← Nat.div_div_eq_div_mul]
  have hp : pairAt m k = m * 2 ^ 64 / 2 ^ (128 - 2 * (k + 1)) % 4 := by
    unfold pairAt; split
    · rename_i h
      congr 1
      rw [show (128 - 2 * (k + 1)) = (62 - 2 * k) + 64 by omega, Nat.pow_add, Nat.mul_div_mul_right _ _ (Nat.two_pow_pos _)]
    · rename_i h
      have : m * 2 ^ 64 = m * 2 ^ (64 - (128 - 2 * (k + 1))) * 2 ^ (128 - 2 * (k + 1)) := by rw [Nat.mul_assoc, ← Nat.pow_add]; congr 2; omega
      rw [this, Nat.mul_div_cancel _ (Nat.two_pow_pos _), show (64 - (128 - 2 * (k + 1))) = (64 - (128 - 2 * (k + 1)) - 2) + 2 by omega, Nat.pow_add, ← Nat.mul_assoc]; omega
  rw [hp]; omega
theorem rt_bound {m k w r : Nat} (hm : m < 18446744073709551616) (hk : k ≤ 62) (h : Rt m k w r) : w < 2 ^ k ∧ w < 4611686018427387904 ∧ r < 9223372036854775808 := by
  obtain ⟨h1, h2⟩ := h
  have e : m * 2 ^ 64 / 2 ^ (128 - 2 * k) < 2 ^ k * 2 ^ k := by
    rw [Nat.div_lt_iff_lt_mul (Nat.two_pow_pos _), ← Nat.pow_add, ← Nat.pow_add, show k + k + (128 - 2 * k) = 128 by omega]; have : (2 : Nat) ^ 128 = 340282366920938463463374607431768211456 := by decide +kernel
    omega
  have hw : w < 2 ^ k := by
    refine Decidable.byContradiction fun c => ?_
    have := Nat.mul_le_mul (show 2 ^ k ≤ w by omega) (show 2 ^ k ≤ w by omega); omega
  have : (2 : Nat) ^ k ≤ 2 ^ 62 := Nat.pow_le_pow_right (by omega) hk; exact ⟨hw, by omega, by omega⟩
theorem rt_no {m k w r : Nat} (hk : k < 62) (h : Rt m k w r) (hc : r * 4 + pairAt m k < w * 4 + 1) : Rt m (k + 1) (w * 2) (r * 4 + pairAt m k) := by
  obtain ⟨h1, h2⟩ := h; refine ⟨?_, by omega⟩; rw [rt_next m k hk, ← h1, Nat.mul_mul_mul_comm]; omega
theorem rt_yes {m k w r : Nat} (hk : k < 62) (h : Rt m k w r) (hc : w * 4 + 1 ≤ r * 4 + pairAt m k) : Rt m (k + 1) (w * 2 + 1) (r * 4 + pairAt m k - (w * 4 + 1)) := by
  have hp : pairAt m k < 4 := by unfold pairAt; split <;> omega
  obtain ⟨h1, h2⟩ := h; refine ⟨?_, by omega⟩; rw [rt_next m k hk, ← h1]
  have : (w * 2 + 1) * (w * 2 + 1) = 4 * (w * w) + w * 4 + 1 := by
    rw [Nat.add_mul, Nat.mul_add, Nat.mul_mul_mul_comm, Nat.one_mul, Nat.mul_one]; omega
  omega
theorem rt_root {m w r : Nat} (h : Rt m 62 w r) : IsRoot (m * 1152921504606846976) w ∧ (r != 0) = (w * w != m * 1152921504606846976) := by
  obtain ⟨h1, h2⟩ := h
  have e : m * 2 ^ 64 / 2 ^ (128 - 2 * 62) = m * 1152921504606846976 := by
    rw [show (2 : Nat) ^ 64 = 1152921504606846976 * 2 ^ (128 - 2 * 62) by decide +kernel, ← Nat.mul_assoc, Nat.mul_div_cancel _ (Nat.two_pow_pos _)]
  rw [e] at h1; have e2 : (w + 1) * (w + 1) = w * w + 2 * w + 1 := by rw [Nat.add_mul, Nat.mul_add]; omega
  refine ⟨⟨by omega, by omega⟩, ?_⟩; rw [← h1, Bool.eq_iff_iff, bne_iff_ne, bne_iff_ne]; omega
end Go.Proofs.YtkhhhceeoljheaaGreatDoor

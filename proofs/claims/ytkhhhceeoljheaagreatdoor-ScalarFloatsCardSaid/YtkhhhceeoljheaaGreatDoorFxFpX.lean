import Derived.Test.YtkhhhceeoljheaaGreatDoorFxFpQ
import Derived.Test.YtkhhhceeoljheaaGreatDoorFxScalQ
set_option linter.unusedVariables false
set_option linter.unusedSimpArgs false
set_option linter.unusedVariables false
namespace Go.Proofs.YtkhhhceeoljheaaGreatDoor
open Go.RowKit Go.Proofs.YtkhhhceeoljheaaGreatDoor.Fl Ieee
theorem root_log (f : Format) (n w : Nat) (hw : IsRoot n w) (h : 2 ^ (2 * f.fractionBits + 2) < n) : f.fractionBits + 1 ≤ w.log2 := by
  have h1 := hw.2
  have h2 : 2 ^ (f.fractionBits + 1) ≤ w := by
    refine Decidable.byContradiction fun c => ?_
    have h3 : w + 1 ≤ 2 ^ (f.fractionBits + 1) := by omega
    have h4 := Nat.mul_le_mul h3 h3; rw [← Nat.pow_add, show f.fractionBits + 1 + (f.fractionBits + 1) = 2 * f.fractionBits + 2 by omega] at h4; omega
  have := Nat.two_pow_pos (f.fractionBits + 1); exact (Nat.le_log2 (by omega)).2 h2
theorem sqrt_fin (f : Format) (a : Nat) (ha : siz f a < f.infRung) (h0 : siz f a ≠ 0) (hs : neg f a = false) (J w : Nat) (hw : IsRoot (pm f a * 2 ^ J) w) (hpar : (pe f a - J) % 2 = 0) (hlog : f.fractionBits + 1 ≤ w.log2) :
    f.sqrt a = some (f.word false (rung f (2 * w + (w * w != pm f a * 2 ^ J).toNat) ((pe f a - J) / 2 - 1))) := by
  have m0 : pm f a ≠ 0 := fun h => h0 ((pm_zero f a).1 h)
  unfold Format.sqrt; rw [read_pm f a ha, hs]; generalize pm f a = m at *; generalize pe f a = i at *; show Option.map f.write (if m = 0 then _ else if false = true then none else some (Datum.number false _ _)) = _
  rw [if_neg m0, if_neg (by decide)]; show some (f.nearest false _ _) = _
  rw [nearest_eq, Nat.shiftLeft_eq]; obtain ⟨K, hK⟩ : ∃ K, 2 * (f.fractionBits + 2) - m.log2 + ((i - ((2 * (f.fractionBits + 2) - m.log2 : Nat) : Int)) % 2).toNat = K := ⟨_, rfl⟩
  rw [hK]; have hKp : (i - (K : Int)) % 2 = 0 := by omega
  have hr := root_is (m * 2 ^ K); generalize Datum.rootFrom (m * 2 ^ K) ((m * 2 ^ K).log2 / 2 + 1) 0 = v at *
  have hv : f.fractionBits + 1 ≤ v.log2 := by
    refine root_log f _ v hr ?_; have l1 := Nat.log2_self_le m0; have l2 := Nat.mul_le_mul_right (2 ^ K) l1; rw [← Nat.pow_add] at l2; have l3 : 2 ^ (2 * f.fractionBits + 3) ≤ 2 ^ (m.log2 + K) := Nat.pow_le_pow_right (by omega) (by omega); rw [Nat.pow_succ] at l3; have := Nat.two_pow_pos (2 * f.fractionBits + 2); omega
  congr 2
  rcases Nat.le_total K J with h | h
  · obtain ⟨d, hd⟩ : ∃ d, J = K + (d + d) := ⟨(J - K) / 2, by omega⟩
    subst hd; have e : m * 2 ^ (K + (d + d)) = m * 2 ^ K * (2 ^ d * 2 ^ d) := by rw [Nat.pow_add, Nat.pow_add, Nat.mul_assoc]
    rw [e] at hw ⊢; have := rung_root f (m * 2 ^ K) d v w ((i - K) / 2 - 1) hr hw hv; rw [← this]; congr 1; omega
  · obtain ⟨d, hd⟩ : ∃ d, K = J + (d + d) := ⟨(K - J) / 2, by omega⟩
    clear hK; subst hd; have e : m * 2 ^ (J + (d + d)) = m * 2 ^ J * (2 ^ d * 2 ^ d) := by rw [Nat.pow_add, Nat.pow_add, Nat.mul_assoc]
    rw [e] at hr ⊢; have := rung_root f (m * 2 ^ J) d w v ((i - J) / 2 - 1) hw hr hlog; rw [← this]; congr 1; omega
theorem sqrt_law (f : Format) (hP : f.fractionBits ≤ 52) (a : Nat) (ha : siz f a < f.infRung) (h0 : siz f a ≠ 0) (hs : neg f a = false) (u c M w : Nat) (hu : 11 ≤ u ∧ u ≤ 63) (hM : M * 2 ^ c = pm f a * 2 ^ u) (hc : c ≤ 1) (hM1 : 4611686018427387904 ≤ M) (hpar : (pe f a - u + c) % 2 = 0) (hw : IsRoot (M * 1152921504606846976) w) :
    288230376151711744 ≤ w ∧ f.sqrt a = some (f.word false (rung f (2 * w + (w * w != M * 1152921504606846976).toNat) ((pe f a - u + c - 60) / 2 - 1))) := by
  have e : M * 1152921504606846976 = pm f a * 2 ^ (u + 60 - c) := by
    have hcp := Nat.two_pow_pos c; refine Nat.eq_of_mul_eq_mul_right hcp ?_; rw [Nat.mul_right_comm, hM, Nat.mul_assoc, Nat.mul_assoc, show (1152921504606846976 : Nat) = 2 ^ 60 from rfl, ← Nat.pow_add, ← Nat.pow_add]; congr 2; omega
  have hw61 : 288230376151711744 ≤ w := by
    refine Decidable.byContradiction fun c => ?_
    have h3 : w + 1 ≤ 288230376151711744 := by omega
    have h4 := Nat.mul_le_mul h3 h3; have h5 := hw.2; omega
  refine ⟨hw61, ?_⟩; have hl : 58 ≤ w.log2 := (Nat.le_log2 (by omega)).2 (by omega); rw [e] at hw ⊢; rw [sqrt_fin f a ha h0 hs _ w hw (by omega) (by omega)]; congr 3
  omega
def cutg (way : Toward) (s : Bool) (n g : Nat) : Nat := match way with
  | .even => rne n g
  | .down => n / g + (s && n % g != 0).toNat
  | .up => n / g + (!s && n % g != 0).toNat
  | .zero => n / g
theorem cut_g (n d : Nat) : n / (1 <<< min d (n.log2 + 2)) = n / 2 ^ d ∧ n % (1 <<< min d (n.log2 + 2)) = n % 2 ^ d := by
  rw [Nat.shiftLeft_eq, Nat.one_mul]; by_cases h : d ≤ n.log2 + 2
  · rw [Nat.min_eq_left h]; exact ⟨rfl, rfl⟩
  · rw [Nat.min_eq_right (by omega)]
    have hn : n < 2 ^ (n.log2 + 1) := Nat.lt_log2_self; have h1 : 2 ^ (n.log2 + 1) ≤ 2 ^ (n.log2 + 2) := Nat.pow_le_pow_right (by omega) (by omega); have h2 : 2 ^ (n.log2 + 2) ≤ 2 ^ d := Nat.pow_le_pow_right (by omega) (by omega); rw [Nat.div_eq_of_lt (by omega), Nat.div_eq_of_lt (by omega), Nat.mod_eq_of_lt (by omega), Nat.mod_eq_of_lt (by omega)]; exact ⟨rfl, rfl⟩
theorem cut_cutg (way : Toward) (s : Bool) (n d : Nat) : way.cut s n d = cutg way s n (2 ^ d) := by
  cases way
  · exact cut_even s n d
  · unfold Toward.cut cutg
    simp only [(cut_g n d).1, (cut_g n d).2]
  · unfold Toward.cut cutg
    simp only [(cut_g n d).1, (cut_g n d).2]
  · unfold Toward.cut cutg
    simp only [(cut_g n d).1, Bool.toNat_false, Nat.add_zero]
theorem cutg_scale (way : Toward) (s : Bool) (n g c : Nat) (hc : 0 < c) : cutg way s (n * c) (g * c) = cutg way s n g := by
  have e : (n * c % (g * c) != 0) = (n % g != 0) := by
    rw [Nat.mul_mod_mul_right, Bool.eq_iff_iff, bne_iff_ne, bne_iff_ne]; constructor
    · intro h k; exact h (by rw [k, Nat.zero_mul])
    · intro h k
      rcases Nat.mul_eq_zero.1 k with k | k
      · exact h k
      · omega
  cases way
  · exact rne_scale n g c hc
  · unfold cutg; rw [e, Nat.mul_div_mul_right _ _ hc]
  · unfold cutg; rw [e, Nat.mul_div_mul_right _ _ hc]
  · unfold cutg; rw [Nat.mul_div_mul_right _ _ hc]
theorem cutg_one (way : Toward) (s : Bool) (n : Nat) : cutg way s n 1 = n := by
  cases way
  · exact rne_one n
  all_goals
    unfold cutg; simp [Nat.mod_one]
theorem cut_val (way : Toward) (s : Bool) (m : Nat) (e : Int) (B : Nat) (hB : -(B : Int) ≤ e) : way.cut s (m <<< e.toNat) (-e).toNat = cutg way s (m * 2 ^ (e + B).toNat) (2 ^ B) := by
  rw [cut_cutg, Nat.shiftLeft_eq]; by_cases c : 0 ≤ e
  · rw [show (-e).toNat = 0 by omega, Nat.pow_zero, show (e + B).toNat = e.toNat + B by omega, Nat.pow_add, ← Nat.mul_assoc]
    have := cutg_scale way s (m * 2 ^ e.toNat) 1 (2 ^ B) (Nat.two_pow_pos B); rw [Nat.one_mul] at this; exact this.symm
  · rw [show e.toNat = 0 by omega, Nat.pow_zero, Nat.mul_one]
    have := cutg_scale way s m (2 ^ (-e).toNat) (2 ^ (e + B).toNat) (Nat.two_pow_pos _); rw [← Nat.pow_add, show (-e).toNat + (e + (B : Int)).toNat = B by omega] at this; exact this.symm
theorem cutg_le (way : Toward) (s : Bool) (n g : Nat) : n / g ≤ cutg way s n g ∧ cutg way s n g ≤ n / g + 1 := by
  cases way
  · exact rne_ge n g
  · have := Bool.toNat_le (s && n % g != 0)
    exact ⟨Nat.le_add_right _ _, Nat.add_le_add_left this _⟩
  · have := Bool.toNat_le (!s && n % g != 0)
    exact ⟨Nat.le_add_right _ _, Nat.add_le_add_left this _⟩
  · exact ⟨Nat.le_refl _, Nat.le_succ _⟩
theorem rung_val (f : Format) (m k : Nat) (e d B : Int) (he : B ≤ e) (hd : B ≤ d) (h : m * 2 ^ (e - B).toNat = k * 2 ^ (d - B).toNat) : rung f m e = rung f k d := by
  rw [← rung_scale f m (e - B).toNat e, ← rung_scale f k (d - B).toNat d, h]; congr 1; omega
theorem rung_le' (f : Format) (m : Nat) (e : Int) : rung f m e ≤ f.infRung := by
  unfold rung; split
  · exact Nat.zero_le _
  · exact Nat.min_le_right _ _
end Go.Proofs.YtkhhhceeoljheaaGreatDoor
set_option linter.unusedVariables false
namespace Go.Proofs.YtkhhhceeoljheaaGreatDoor
open Go.RowKit Go.Proofs.YtkhhhceeoljheaaGreatDoor.Fl Ieee
theorem pm_log (f : Format) (a : Nat) : (pm f a).log2 ≤ f.fractionBits := by
  have h1 := pm_lt f a; have hB : f.binade = 2 ^ f.fractionBits := rfl; exact log2_lt_pow (by rw [Nat.pow_succ]; omega)
theorem lastP_pm (f : Format) (a : Nat) (h0 : pm f a ≠ 0) : lastP f (pm f a) (pe f a) = pe f a := by
  have hl := pm_log f a; have hg := pe_ge f a; unfold lastP; by_cases c : pe f a = f.leastPlace
  · omega
  · have h2 : f.fractionBits ≤ (pm f a).log2 := (Nat.le_log2 h0).2 (pm_ge f a c)
    omega
theorem siz_pm (f : Format) (a : Nat) : (pe f a - f.leastPlace).toNat * f.binade + pm f a = siz f a := by
  have hB := binade_pos f; unfold pe pm; split
  · rw [Int.sub_self]; simp
  · rename_i c
    have h1 := Nat.div_add_mod (siz f a) f.binade; have h2 : 1 ≤ siz f a / f.binade := (Nat.le_div_iff_mul_le hB).2 (by omega); obtain ⟨q, hq⟩ : ∃ q, siz f a / f.binade = q + 1 := ⟨siz f a / f.binade - 1, by omega⟩
    rw [hq] at h1 ⊢; rw [show (f.leastPlace + ((q + 1 - 1 : Nat) : Int) - f.leastPlace).toNat = q by omega]; rw [Nat.mul_add, Nat.mul_one, Nat.mul_comm f.binade q] at h1; omega
theorem rung_self (f : Format) (a : Nat) (h : siz f a ≤ f.infRung) : rung f (pm f a) (pe f a) = siz f a := by
  unfold rung; by_cases h0 : pm f a = 0
  · rw [if_pos h0]; exact ((pm_zero f a).1 h0).symm
  · rw [if_neg h0, lastP_pm f a h0, Int.sub_self, Int.toNat_zero, Nat.pow_zero, Nat.mul_one, rne_one, siz_pm, Nat.min_eq_left h]
theorem isN_word (f : Format) (hI : f.infRung < f.signWeight) (s : Bool) (r : Nat) (h : r ≤ f.infRung) : isN f (f.word s r) = false := by
  unfold isN; rw [siz_word f s r (by omega)]; exact decide_eq_false (by omega)
theorem isN_lt (f : Format) (a : Nat) : isN f a = false ↔ siz f a ≤ f.infRung := by
  unfold isN; rw [decide_eq_false_iff_not]; omega
def whlF (f : Format) (way : Toward) (a : Nat) : Nat := f.write ((f.read a).integral way)
theorem whl_inf (f : Format) (hE : 1 ≤ f.exponentBits) (way : Toward) (a : Nat) (ha : a < 2 * f.signWeight) (h : siz f a = f.infRung) : whlF f way a = a := by
  unfold whlF; rw [read_inf f hE a h]; show f.word (neg f a) f.infRung = a
  rw [← h]; exact word_eq f a ha
theorem whl_num (f : Format) (way : Toward) (a : Nat) (h : siz f a < f.infRung) : whlF f way a = f.word (neg f a) (rung f (way.cut (neg f a) (pm f a <<< (pe f a).toNat) (-(pe f a)).toNat) 0) := by
  unfold whlF; rw [read_pm f a h]; exact nearest_eq _ _ _ _
theorem cut_zero (way : Toward) (s : Bool) (n : Nat) : way.cut s n 0 = n := by rw [cut_cutg, Nat.pow_zero, cutg_one]
theorem cutg_zero (way : Toward) (s : Bool) (g : Nat) : cutg way s 0 g = 0 := by
  cases way
  · unfold cutg rne; simp
  all_goals
    unfold cutg; simp
theorem whl_big (f : Format) (way : Toward) (a : Nat) (ha : a < 2 * f.signWeight) (h : siz f a < f.infRung) (hc : 0 ≤ pe f a ∨ pm f a = 0) : whlF f way a = a := by
  rw [whl_num f way a h]; have hs := rung_self f a (by omega); by_cases c : 0 ≤ pe f a
  · rw [show (-(pe f a)).toNat = 0 by omega, cut_zero, Nat.shiftLeft_eq]
    have := rung_scale f (pm f a) (pe f a).toNat (pe f a); rw [show pe f a - ((pe f a).toNat : Int) = 0 by omega] at this; rw [this, hs]; exact word_eq f a ha
  · have h0 : pm f a = 0 := by omega
    have h1 : siz f a = 0 := (pm_zero f a).1 h0; rw [h0, Nat.zero_shiftLeft, cut_cutg, cutg_zero]; have : rung f 0 0 = siz f a := by rw [h1]; unfold rung; rw [if_pos rfl]
    rw [this]; exact word_eq f a ha
theorem rne_small (n g : Nat) (h : 2 * n < g) : rne n g = 0 := by
  unfold rne; rw [Nat.div_eq_of_lt (by omega), Nat.mod_eq_of_lt (by omega), if_neg (by omega)]
theorem cutg_63 (way : Toward) (s : Bool) (n d : Nat) (hn : n < 2305843009213693952) : cutg way s n (2 ^ d) = cutg way s n (2 ^ min d 63) := by
  by_cases c : d ≤ 63
  · rw [Nat.min_eq_left c]
  · have h2 : 2 ^ 63 ≤ 2 ^ d := Nat.pow_le_pow_right (by omega) (by omega)
    rw [Nat.min_eq_right (by omega)]; cases way
    · unfold cutg
      show rne _ _ = rne _ _
      rw [rne_small _ _ (by omega), rne_small _ _ (by omega)]
    · unfold cutg
      simp only; rw [Nat.mod_eq_of_lt (show n < 2 ^ d by omega), Nat.mod_eq_of_lt (show n < 2 ^ 63 by omega), Nat.div_eq_of_lt (show n < 2 ^ d by omega), Nat.div_eq_of_lt (show n < 2 ^ 63 by omega)]
    · unfold cutg
      simp only; rw [Nat.mod_eq_of_lt (show n < 2 ^ d by omega), Nat.mod_eq_of_lt (show n < 2 ^ 63 by omega), Nat.div_eq_of_lt (show n < 2 ^ d by omega), Nat.div_eq_of_lt (show n < 2 ^ 63 by omega)]
    · unfold cutg
      simp only; rw [Nat.div_eq_of_lt (show n < 2 ^ d by omega), Nat.div_eq_of_lt (show n < 2 ^ 63 by omega)]
theorem whl_small (f : Format) (hB : f.binade ≤ 4503599627370496) (way : Toward) (a : Nat) (h : siz f a < f.infRung) (hc : pe f a < 0) (q : Nat) (hq : cutg way (neg f a) (pm f a) (2 ^ min (-(pe f a)).toNat 63) = q) :
    whlF f way a = f.word (neg f a) (rung f (2 * q + false.toNat) (0 - 1)) := by
  have h1 := pm_lt f a; rw [whl_num f way a h, rung_2, show (pe f a).toNat = 0 by omega, Nat.shiftLeft_zero, cut_cutg, cutg_63 _ _ _ _ (by omega), hq]
theorem whl_notN (f : Format) (hE : 1 ≤ f.exponentBits) (hI : f.infRung < f.signWeight) (way : Toward) (a : Nat) (h : isN f a = false) : isN f (whlF f way a) = false := by
  have h := (isN_lt f a).1 h; by_cases c : siz f a < f.infRung
  · rw [whl_num f way a c]
    exact isN_word f hI _ _ (rung_le' _ _ _)
  · unfold whlF
    rw [read_inf f hE a (by omega)]; exact isN_word f hI _ _ (Nat.le_refl _)
def wyo (op : Int) : Toward := if op = 4 then .up else if op = 5 then .down else if op = 6 then .zero else .even
theorem mth_whl (op : Int) (h : 4 ≤ op) (x : Nat) : mth op x = if isN double x = true then none else some (whlF double (wyo op) x) := by
  unfold mth wyo; rw [if_neg (by omega)]; by_cases c4 : op = 4
  · rw [if_pos c4, if_pos c4]; rfl
  · rw [if_neg c4, if_neg c4]
    by_cases c5 : op = 5
    · rw [if_pos c5, if_pos c5]; rfl
    · rw [if_neg c5, if_neg c5]
      by_cases c6 : op = 6
      · rw [if_pos c6, if_pos c6]; rfl
      · rw [if_neg c6, if_neg c6]; rfl
theorem un64_whl (op : Int) (h : 4 ≤ op) (a : Nat) : un64 op a = if isN double a = true then 9221120237041090560 else whlF double (wyo op) a := by
  unfold un64; rw [if_neg (by omega), if_neg (by omega), mth_whl op h]; by_cases c : isN double a = true
  · rw [if_pos c, if_pos c]
  · rw [if_neg c, if_neg c]
    have := whl_notN double (by decide) (by rw [dI, dS]; omega) (wyo op) a (by simpa using c); show bt64 _ = _
    unfold bt64; rw [this]; rfl
theorem narrow_num (s : Bool) (m k : Nat) (e d : Int) (he : -1074 ≤ e) (hd : -1074 ≤ d) (h1 : rung double m e < double.infRung) (hV : V double (rung double m e) = k * 2 ^ (d - -1074).toNat) (h2 : rung single k d < single.infRung) :
    floatToFloatBits .f64 (double.word s (rung double m e)) .f32 = some (single.word s (rung single k d)) := by
  have hS : double.infRung < double.signWeight := by rw [dI, dS]; omega
  have hS2 : single.infRung < single.signWeight := by rw [sI, sS]; omega
  have hy := read_pm double (double.word s (rung double m e)) (by rw [siz_word _ _ _ (by omega)]; exact h1); have hv := pm_val double (double.word s (rung double m e)); rw [siz_word _ _ _ (by omega), hV, dL] at hv; have hge := pe_ge double (double.word s (rung double m e)); rw [dL] at hge; rw [neg_word _ _ _ (by omega)] at hy; generalize pm double (double.word s (rung double m e)) = pmy at *; generalize pe double (double.word s (rung double m e)) = pey at *; have hr := rung_val single pmy k pey d (-1074) hge hd hv; unfold floatToFloatBits; rw [if_neg (by decide)]; show (match double.read _ with | .nan _ _ => none | .infinity s => some (single.write (.infinity s)) | .number s m e => if (single.read (single.write (.number s m e))).isInfinity then none else some (single.write (.number s m e))) = _
  rw [hy]; show (if (single.read (single.nearest s pmy pey)).isInfinity then none else some (single.nearest s pmy pey)) = _
  rw [nearest_eq, hr]; have hz := read_pm single (single.word s (rung single k d)) (by rw [siz_word _ _ _ (by omega)]; exact h2); rw [hz]; rfl
theorem narrow_inf (s : Bool) : floatToFloatBits .f64 (double.word s double.infRung) .f32 = some (single.word s single.infRung) := by
  cases s <;> decide +kernel
theorem bt32_word (s : Bool) (r : Nat) (h : r ≤ single.infRung) : bt32 (single.word s r) = single.word s r := by
  unfold bt32; rw [isN_word single (by rw [sI, sS]; omega) s r h]; rfl
theorem pm_s (a : Nat) (h : siz single a < single.infRung) : pm single a < 16777216 ∧ -149 ≤ pe single a ∧ pe single a ≤ 104 := by
  have h1 := pm_lt single a; have h2 := pe_ge single a; rw [sB] at h1; rw [sL] at h2; refine ⟨by omega, h2, ?_⟩; unfold pe; rw [sL]; split
  · omega
  · rename_i c
    rw [sB]; rw [sI] at h; omega
theorem rung_single_lt (k : Nat) (h : k ≤ 16777216) : rung single k 0 < single.infRung := by
  have hl : k.log2 ≤ 24 := log2_lt_pow (by omega); unfold rung lastP; split
  · rw [sI]; omega
  · rename_i h0
    rw [sP, sL, sB, sI]; by_cases c : k.log2 = 24
    · have := Nat.log2_self_le h0
      rw [c] at this; have hk : k = 16777216 := by omega
      subst hk; decide +kernel
    · have hn : (max (0 + (k.log2 : Int) - ((23 : Nat) : Int)) (-149)) = (k.log2 : Int) - 23 := by omega
      rw [hn, show ((k.log2 : Int) - 23 - 0).toNat = 0 by omega, Nat.pow_zero, rne_one, show (0 - ((k.log2 : Int) - 23)).toNat = 23 - k.log2 by omega]; have h3 : k < 2 ^ (k.log2 + 1) := Nat.lt_log2_self; have h4 : k * 2 ^ (23 - k.log2) ≤ 2 ^ (k.log2 + 1) * 2 ^ (23 - k.log2) := Nat.mul_le_mul_right _ (by omega); rw [← Nat.pow_add, show k.log2 + 1 + (23 - k.log2) = 24 by omega] at h4; generalize k * 2 ^ (23 - k.log2) = z at *; omega
theorem whl_32 (way : Toward) (a : Nat) (ha : a < 4294967296) (hN : isN single a = false) :
    (floatToFloatBits .f64 (whlF double way (wide a)) .f32).map bt32 = some (whlF single way a) := by
  have hN := (isN_lt single a).1 hN; by_cases c : siz single a < single.infRung
  · obtain ⟨w1, w2, w3⟩ := wide_fin a c
    obtain ⟨p1, p2, p3⟩ := pm_s a c; obtain ⟨B, hB⟩ : ∃ B : Nat, B = 1074 := ⟨_, rfl⟩
    have hge := pe_ge double (wide a); rw [dL] at hge; have v1 := pm_val double (wide a); rw [w3, ← pm_val single a, sL, dL] at v1; have v2 := gap_mul (pm single a) (pe single a) p2; rw [show pe single a - -149 = pe single a + 149 by omega, ← v2] at v1
    have eC : way.cut (neg single a) (pm double (wide a) <<< (pe double (wide a)).toNat) (-(pe double (wide a))).toNat = way.cut (neg single a) (pm single a <<< (pe single a).toNat) (-(pe single a)).toNat := by
      rw [cut_val way _ _ _ B (by omega), cut_val way _ _ _ B (by omega)]; congr 1
      rw [show pe double (wide a) + (B : Int) = pe double (wide a) - -1074 by omega, show pe single a + (B : Int) = pe single a - -1074 by omega]; exact v1
    rw [whl_num double way (wide a) w2, whl_num single way a c, w1, eC]; by_cases h0 : 0 ≤ pe single a
    · rw [show (-(pe single a)).toNat = 0 by omega, cut_zero, Nat.shiftLeft_eq]
      have e1 := rung_scale double (pm single a) (pe single a).toNat (pe single a); have e2 := rung_scale single (pm single a) (pe single a).toNat (pe single a); rw [show pe single a - ((pe single a).toNat : Int) = 0 by omega] at e1 e2; have hl : rung single (pm single a) (pe single a) < single.infRung := by rw [rung_self single a hN]; exact c
      rw [e1, e2, narrow_num _ (pm single a) (pm single a) (pe single a) (pe single a) (by omega) (by omega) (by rw [dI]; exact rung_double_lt _ _ p1 p2 p3) (by rw [rung_double_V _ _ p1 p2 p3, ← v2]) hl]; rw [Option.map_some, bt32_word _ _ (Nat.le_of_lt hl)]
    · have hC : way.cut (neg single a) (pm single a <<< (pe single a).toNat) (-(pe single a)).toNat < 16777216 := by
        rw [cut_cutg, show (pe single a).toNat = 0 by omega, Nat.shiftLeft_zero]; have h1 := (cutg_le way (neg single a) (pm single a) (2 ^ (-(pe single a)).toNat)).2; have h2 : 2 ^ 1 ≤ 2 ^ (-(pe single a)).toNat := Nat.pow_le_pow_right (by omega) (by omega); have h3 : pm single a / 2 ^ (-(pe single a)).toNat ≤ pm single a / 2 ^ 1 := Nat.div_le_div_left h2 (by omega); omega
      generalize way.cut (neg single a) (pm single a <<< (pe single a).toNat) (-(pe single a)).toNat = C at *; have hl := rung_single_lt C (by omega); rw [narrow_num _ C C 0 0 (by omega) (by omega) (by rw [dI]; exact rung_double_lt _ _ hC (by omega) (by omega)) (by rw [rung_double_V _ _ hC (by omega) (by omega), ← gap_mul C 0 (by omega)]) hl]; rw [Option.map_some, bt32_word _ _ (Nat.le_of_lt hl)]
  · have hi : siz single a = single.infRung := by omega
    obtain ⟨w1, w2⟩ := wide_inf a hi
    have e1 : whlF double way (wide a) = double.word (neg single a) double.infRung := by
      unfold whlF; rw [read_inf double (by decide) (wide a) w2, w1]; rfl
    have e2 : whlF single way a = single.word (neg single a) single.infRung := by
      unfold whlF; rw [read_inf single (by decide) a hi]; rfl
    rw [e1, e2, narrow_inf, Option.map_some, bt32_word _ _ (Nat.le_refl _)]
theorem un32_whl (op : Int) (h : 4 ≤ op) (a : Nat) (ha : a < 4294967296) : un32 op a = some (if isN single a = true then 2143289344 else whlF single (wyo op) a) := by
  unfold un32; rw [if_neg (by omega), if_neg (by omega)]; by_cases c : isN single a = true
  · rw [if_pos c, if_pos c]
  · have c : isN single a = false := by simpa using c
    rw [c, if_neg (by decide), if_neg (by decide), mth_whl op h, wide_isN a c, if_neg (by decide)]; exact whl_32 (wyo op) a ha c
end Go.Proofs.YtkhhhceeoljheaaGreatDoor
set_option linter.unusedVariables false
namespace Go.Proofs.YtkhhhceeoljheaaGreatDoor
open Go.RowKit Go.Proofs.YtkhhhceeoljheaaGreatDoor.Fl Ieee
theorem mid_lt (t q w zz ww p : Nat) (h1 : ww ≤ t * 18889465931478580854784) (h2 : t * 18889465931478580854784 < p) (e : zz = q * 18889465931478580854784) (a1 : zz ≤ ww + 512 * w + 65536) (a2 : p ≤ zz) (hw : w < 4611686018427387904) : False := by omega
theorem mid_ge (t q w z zz ww p : Nat) (h1 : ww ≤ t * 18889465931478580854784) (h2 : t * 18889465931478580854784 < p) (e : zz = q * 18889465931478580854784) (a1 : zz ≤ ww) (a2 : p ≤ zz + 514 * z + 66049) (hz : z ≤ w) (hw : w < 4611686018427387904) : t * 18889465931478580854784 = zz := by omega
theorem mid_near (w z K v s : Nat) (hs : s ≤ 1) (hv : K = 268435456 * v) (hz : z = v * 137438953472) (h1 : 2 * (2 * w + s) ≤ 2 * (K * 1024) + 1024) (h2 : 2 * (K * 1024) ≤ 2 * (2 * w + s) + 1024) : w ≤ z + 256 ∧ z ≤ w + 256 ∧ 2 * z = K * 1024 := by omega
theorem sq256 (w : Nat) : (w + 256) * (w + 256) = w * w + 512 * w + 65536 := by
  rw [Nat.add_mul, Nat.mul_add, Nat.mul_comm w 256]; generalize w * w = x; omega
theorem sq257 (z : Nat) : (z + 257) * (z + 257) = z * z + 514 * z + 66049 := by
  rw [Nat.add_mul, Nat.mul_add, Nat.mul_comm z 257]; generalize z * z = x; omega
theorem le257 (w z : Nat) (h : w ≤ z + 256) : w + 1 ≤ z + 257 := by omega
theorem ei (e : Int) (he : -140 ≤ e) (he2 : e ≤ 10) : e + 1 + 10 = e + 11 ∧ -140 ≤ e + 1 ∧ (e + 11 - -1074).toNat = (e + 10 - -1074).toNat + 1 ∧ -140 ≤ e + 11 ∧ e + 11 ≤ 21 ∧ -140 ≤ e + 10 ∧ e + 10 ≤ 21 := by omega
theorem kb (K : Nat) (h : K ≤ 9007199254740992) (c : ¬ K = 9007199254740992) : K ≤ 4503599627370496 * 2 - 1 := by omega
theorem root_mid (t w K : Nat) (hw : IsRoot (t * 18889465931478580854784) w) (hlt : w < 4611686018427387904) (hK : rne (2 * w + (w * w != t * 18889465931478580854784).toNat) 1024 = K) (h : 2 * (K % 536870912) = 536870912) :
    2 * w + (w * w != t * 18889465931478580854784).toNat = K * 1024 := by
  have hc := rne_close (2 * w + (w * w != t * 18889465931478580854784).toNat) 1024 (by decide); rw [hK] at hc; clear hK; obtain ⟨v, hv⟩ : ∃ v, K = 268435456 * v := ⟨2 * (K / 536870912) + 1, by clear hc hw; omega⟩
  obtain ⟨z, hzd⟩ : ∃ z, z = v * 137438953472 := ⟨_, rfl⟩
  obtain ⟨w1, w2, w3⟩ := mid_near w z K v _ (Bool.toNat_le (w * w != t * 18889465931478580854784)) hv hzd hc.1 hc.2
  have e : z * z = v * v * 18889465931478580854784 := by
    rw [hzd, Nat.mul_mul_mul_comm]
  have hz : t * 18889465931478580854784 = z * z := by
    obtain ⟨h1, h2⟩ := hw; rcases Nat.lt_or_ge w z with c | c
    · have a1 := Nat.mul_le_mul w2 w2
      rw [sq256] at a1; exact (mid_lt t (v * v) w (z * z) (w * w) ((w + 1) * (w + 1)) h1 h2 e a1 (Nat.mul_le_mul c c) hlt).elim
    · have a2 : (w + 1) * (w + 1) ≤ (z + 257) * (z + 257) := Nat.mul_le_mul (le257 w z w1) (le257 w z w1)
      rw [sq257] at a2; exact mid_ge t (v * v) w z (z * z) (w * w) ((w + 1) * (w + 1)) h1 h2 e (Nat.mul_le_mul c c) a2 c hlt
  have hw2 : w = z := by
    rw [hz] at hw; refine root_unique hw ⟨Nat.le_refl _, ?_⟩; exact Nat.mul_lt_mul_of_lt_of_le (Nat.lt_succ_self _) (Nat.le_succ _) (Nat.succ_pos _)
  rw [hz, ← hw2, bne_self_eq_false, Bool.toNat_false, Nat.add_zero, hw2]; exact w3
theorem y_1 (y : Nat) : y * 4503599627370496 + 9007199254740992 = (y + 1) * 4503599627370496 + 4503599627370496 := by omega
theorem y_2 (y : Nat) : (y + 1) * 8388608 + 8388608 = y * 8388608 + 16777216 := by omega
theorem y_3 (y K : Nat) (hy : y ≤ 1095) (hK : K ≤ 9007199254740992) : y * 4503599627370496 + K ≤ 9218868437227405312 := by omega
theorem y_4 (y K : Nat) (hy : y ≤ 1095) (hK : K ≤ 9007199254740992) : min (y * 4503599627370496 + K) 9218868437227405312 < 9218868437227405312 := by omega
theorem y_5 (y z : Nat) (hy : y ≤ 198) (hz : z ≤ 16777216) : min (y * 8388608 + z) 2139095040 < 2139095040 := by omega
theorem ln (K : Nat) (h1 : 4503599627370496 ≤ K) (h2 : K ≤ 9007199254740992) (h3 : K ≠ 9007199254740992) : K.log2 = 52 := (Nat.log2_eq_iff (by omega)).2 ⟨by omega, by omega⟩
theorem ln2 (K : Nat) (h3 : K = 9007199254740992) : K.log2 = 53 := by subst h3; exact (Nat.log2_eq_iff (by omega)).2 ⟨by omega, by omega⟩
theorem ln3 (K : Nat) (h3 : K = 4503599627370496) : K.log2 = 52 := by subst h3; exact (Nat.log2_eq_iff (by omega)).2 ⟨by omega, by omega⟩
theorem ln4 (R : Nat) (h1 : 4611686018427387904 ≤ R) (h2 : R < 9223372036854775808) : R.log2 = 62 := (Nat.log2_eq_iff (by omega)).2 ⟨by omega, by omega⟩
theorem rung_eq (f : Format) (m : Nat) (e P : Int) (h0 : m ≠ 0) (hP : lastP f m e = P) (h : e ≤ P) : rung f m e = min ((P - f.leastPlace).toNat * f.binade + rne m (2 ^ (P - e).toNat)) f.infRung := by
  unfold rung; rw [if_neg h0, hP, show (e - P).toNat = 0 by omega, Nat.pow_zero, Nat.mul_one]
theorem tw_d (R K : Nat) (e : Int) (hR0 : R ≠ 0) (hRl : R.log2 = 62) (he : -140 ≤ e) (hK : rne R 1024 = K) : rung double R e = min ((e + 10 - -1074).toNat * 4503599627370496 + K) 9218868437227405312 := by
  rw [rung_eq double R e (e + 10) hR0 (by unfold lastP; rw [hRl, dP, dL]; clear hK; omega) (by clear hK; omega), dL, dB, dI, show (e + 10 - e).toNat = 10 by (clear hK; omega), show (2 : Nat) ^ 10 = 1024 from rfl, hK]
theorem tw_s (R z : Nat) (e : Int) (hR0 : R ≠ 0) (hRl : R.log2 = 62) (he : -140 ≤ e) (hK : rne R 549755813888 = z) : rung single R e = min ((e + 39 - -149).toNat * 8388608 + z) 2139095040 := by
  rw [rung_eq single R e (e + 39) hR0 (by unfold lastP; rw [hRl, sP, sL]; clear hK; omega) (by clear hK; omega), sL, sB, sI, show (e + 39 - e).toNat = 39 by (clear hK; omega), show (2 : Nat) ^ 39 = 549755813888 from rfl, hK]
theorem tw_k (K : Nat) (e : Int) (h0 : K ≠ 0) (hl : K.log2 = 52) (he : -140 ≤ e) : lastP double K (e + 10) = e + 10 ∧ rung double K (e + 10) = min ((e + 10 - -1074).toNat * 4503599627370496 + K) 9218868437227405312 := by
  have h : lastP double K (e + 10) = e + 10 := by unfold lastP; rw [hl, dP, dL]; omega
  refine ⟨h, ?_⟩; rw [rung_eq double K (e + 10) (e + 10) h0 h (by omega), dL, dB, dI, Int.sub_self, Int.toNat_zero, Nat.pow_zero, rne_one]
theorem tw_V (K : Nat) (e : Int) (hb : K ≤ 4503599627370496 * 2 - 1) (hl : lastP double K e = e) (he : -140 ≤ e) (he2 : e ≤ 21) : V double (rung double K e) = K * 2 ^ (e - -1074).toNat := by
  have h := rung_exact double K e (by rw [dB]; omega) (by rw [dL]; omega) (fun _ => by
    rw [hl, dL, dB, dI, Int.sub_self, Int.toNat_zero, Nat.pow_zero, Nat.mul_one]; exact y_3 _ _ (by omega) (by omega))
  rw [h, dL]
theorem tw_sk (K z : Nat) (e : Int) (h0 : K ≠ 0) (hl : K.log2 = 52) (he : -140 ≤ e) (hz : rne K 536870912 = z) : rung single K (e + 10) = min ((e + 39 - -149).toNat * 8388608 + z) 2139095040 := by
  rw [rung_eq single K (e + 10) (e + 39) h0 (by unfold lastP; rw [hl, sP, sL]; clear hz; omega) (by clear hz; omega), sL, sB, sI, show (e + 39 - (e + 10)).toNat = 29 by (clear hz; omega), show (2 : Nat) ^ 29 = 536870912 from rfl, hz]
theorem tw_sb (K z : Nat) (e : Int) (hK : K = 9007199254740992) (he : -140 ≤ e) (hz : rne K 536870912 = z) : rung single K (e + 10) = min ((e + 39 - -149).toNat * 8388608 + z) 2139095040 := by
  have hl := ln2 K hK; have hz2 : z = 16777216 := by rw [← hz, hK]; decide +kernel
  have hz3 : rne K (2 ^ 30) = 8388608 := by rw [hK]; decide +kernel
  have h0 : K ≠ 0 := by rw [hK]; decide
  clear hz hK; rw [rung_eq single K (e + 10) (e + 40) h0 (by unfold lastP; rw [hl, sP, sL]; clear hz3; omega) (by clear hz3; omega), sL, sB, sI, show (e + 40 - (e + 10)).toNat = 30 by (clear hz3; omega), hz3, hz2, show (e + 40 - -149).toNat = (e + 39 - -149).toNat + 1 by (clear hz3; omega), y_2]
theorem twice (R K : Nat) (e : Int) (h1 : 4611686018427387904 ≤ R) (h2 : R < 9223372036854775808) (he : -140 ≤ e) (he2 : e ≤ 10) (hK : rne R 1024 = K) (hm : 2 * (K % 536870912) = 536870912 → R = K * 1024) :
    rung double R e < double.infRung ∧ V double (rung double R e) = K * 2 ^ (e + 10 - -1074).toNat ∧ rung single K (e + 10) = rung single R e ∧ rung single R e < single.infRung := by
  have hg := rne_ge R 1024; rw [hK] at hg; have hKb : 4503599627370496 ≤ K ∧ K ≤ 9007199254740992 := by clear hm hK; omega
  have hR0 : R ≠ 0 := by clear hm hK hg; omega
  have hRl := ln4 R h1 h2
  have hKK : rne R 549755813888 = rne K 536870912 := by
    have := rne_rne R 1024 536870912 (by decide) (by decide) (by decide) (by rw [hK]; exact hm); rw [hK] at this; exact this.symm
  have hn : rne K 536870912 ≤ 16777216 := by
    by_cases c : K = 9007199254740992
    · rw [c]; decide +kernel
    · have h3 := (rne_ge K 536870912).2
      have h4 : K / 536870912 ≤ 16777215 := by clear hm hK hg hKK h3; omega
      exact Nat.le_trans h3 (Nat.succ_le_succ h4)
  have r1 := tw_d R K e hR0 hRl he hK; have r2 := tw_s R _ e hR0 hRl he hKK; have K0 : K ≠ 0 := by clear hm hK hg hKK hn r1 r2; omega
  have hy1 : (e + 10 - -1074).toNat ≤ 1095 := by clear hm hK hg hKK hn r1 r2 hKb; omega
  have hy2 : (e + 39 - -149).toNat ≤ 198 := by clear hm hK hg hKK hn r1 r2 hKb; omega
  refine ⟨by rw [r1, dI]; exact y_4 _ _ hy1 hKb.2, ?_, ?_, by rw [r2, sI]; exact y_5 _ _ hy2 hn⟩
  · by_cases c : K = 9007199254740992
    · obtain ⟨k, hk⟩ : ∃ k, k = 4503599627370496 := ⟨_, rfl⟩
      have kl := ln3 k hk; have k0 : k ≠ 0 := by rw [hk]; decide
      obtain ⟨hke, i1, hs, i2, i3, -, -⟩ := ei e he he2; obtain ⟨q1, q2⟩ := tw_k k (e + 1) k0 kl i1; rw [hke] at q1 q2
      have e1 : rung double R e = rung double k (e + 11) := by
        rw [r1, q2, hs, hk, c, y_1]
      rw [e1, tw_V k (e + 11) (by rw [hk]; decide) q1 i2 i3, hs, Nat.pow_succ, Nat.mul_comm (2 ^ _) 2, ← Nat.mul_assoc, c, hk]
    · obtain ⟨q1, q2⟩ := tw_k K e K0 (ln K hKb.1 hKb.2 c) he
      rw [r1, ← q2]; exact tw_V K (e + 10) (kb K hKb.2 c) q1 (ei e he he2).2.2.2.2.2.1 (ei e he he2).2.2.2.2.2.2
  · by_cases c : K = 9007199254740992
    · rw [r2, tw_sb K _ e c he rfl]
    · rw [r2, tw_sk K _ e K0 (ln K hKb.1 hKb.2 c) he rfl]
theorem sqrt_val (f : Format) (a : Nat) (ha : siz f a < f.infRung) (h0 : siz f a ≠ 0) (hs : neg f a = false) (m : Nat) (i B : Int) (J w : Nat) (hB1 : B ≤ i) (hB2 : B ≤ pe f a) (hv : pm f a * 2 ^ (pe f a - B).toNat = m * 2 ^ (i - B).toNat) (m0 : m ≠ 0) (hJ : pm f a < 2 ^ J) (hw : IsRoot (m * 2 ^ J) w) (hpar : (i - J) % 2 = 0) (hlog : f.fractionBits + 1 ≤ w.log2) :
    f.sqrt a = some (f.word false (rung f (2 * w + (w * w != m * 2 ^ J).toNat) ((i - J) / 2 - 1))) := by
  rcases Int.le_total (pe f a) i with c | c
  · obtain ⟨d, hd⟩ : ∃ d : Nat, i = pe f a + d := ⟨(i - pe f a).toNat, by omega⟩
    subst hd; rw [show (pe f a + (d : Int) - B).toNat = d + (pe f a - B).toNat by omega, Nat.pow_add, ← Nat.mul_assoc] at hv; have hv := Nat.eq_of_mul_eq_mul_right (Nat.two_pow_pos _) hv
    have hdJ : d ≤ J := by
      refine Decidable.byContradiction fun k => ?_
      have h1 : 2 ^ J ≤ 2 ^ d := Nat.pow_le_pow_right (by omega) (by omega); have h2 : 1 * 2 ^ d ≤ m * 2 ^ d := Nat.mul_le_mul_right _ (by omega); omega
    have e : m * 2 ^ J = pm f a * 2 ^ (J - d) := by
      rw [hv, Nat.mul_assoc, ← Nat.pow_add, show d + (J - d) = J by omega]
    rw [e] at hw ⊢; rw [sqrt_fin f a ha h0 hs (J - d) w hw (by omega) hlog]; congr 3
    omega
  · obtain ⟨d, hd⟩ : ∃ d : Nat, pe f a = i + d := ⟨(pe f a - i).toNat, by omega⟩
    rw [hd, show (i + (d : Int) - B).toNat = d + (i - B).toNat by omega, Nat.pow_add, ← Nat.mul_assoc] at hv; have hv := Nat.eq_of_mul_eq_mul_right (Nat.two_pow_pos _) hv
    have e : m * 2 ^ J = pm f a * 2 ^ (J + d) := by
      rw [← hv, Nat.mul_assoc, ← Nat.pow_add, Nat.add_comm d J]
    rw [e] at hw ⊢; rw [sqrt_fin f a ha h0 hs (J + d) w hw (by omega) hlog]; congr 3
    omega
theorem un64_sqrt (a : Nat) : un64 3 a = (match double.sqrt a with | none => 9221120237041090560 | some y => bt64 y) := rfl
theorem un32_sqrt (a : Nat) (h : isN single a = false) : un32 3 a = (match double.sqrt (wide a) with | none => some 2143289344 | some y => (floatToFloatBits .f64 y .f32).map bt32) := by
  unfold un32; rw [if_neg (by decide), if_neg (by decide), h, if_neg (by decide)]; rfl
theorem sqrt_32 (a : Nat) (ha : siz single a < single.infRung) (h0 : siz single a ≠ 0) (hs : neg single a = false) (u c M w : Nat) (hu : 40 ≤ u ∧ u ≤ 63) (hM : M * 2 ^ c = pm single a * 2 ^ u) (hc : c ≤ 1) (hM1 : 4611686018427387904 ≤ M) (hM2 : M < 18446744073709551616) (hpar : (pe single a - u + c) % 2 = 0) (hw : IsRoot (M * 1152921504606846976) w) :
    288230376151711744 ≤ w ∧ un32 3 a = some (single.word false (rung single (2 * w + (w * w != M * 1152921504606846976).toNat) ((pe single a - u + c - 60) / 2 - 1))) := by
  obtain ⟨w1, w2, w3⟩ := wide_fin a ha; obtain ⟨p1, p2, p3⟩ := pm_s a ha; have hN : isN single a = false := (isN_lt single a).2 (by omega); have z0 : siz double (wide a) ≠ 0 := fun h => h0 ((wide_zero a hN).1 h)
  have m0 : pm single a ≠ 0 := fun h => h0 ((pm_zero single a).1 h)
  have hge := pe_ge double (wide a); rw [dL] at hge; have v1 := pm_val double (wide a); rw [w3, ← pm_val single a, sL, dL] at v1; have v2 := gap_mul (pm single a) (pe single a) p2; rw [show pe single a - -149 = pe single a + 149 by omega, ← v2] at v1; have hpl := pm_lt double (wide a); rw [dB] at hpl
  have e : M * 1152921504606846976 = pm single a * 2 ^ (u + 60 - c) := by
    have hcp := Nat.two_pow_pos c; refine Nat.eq_of_mul_eq_mul_right hcp ?_; rw [Nat.mul_right_comm, hM, Nat.mul_assoc, Nat.mul_assoc, show (1152921504606846976 : Nat) = 2 ^ 60 from rfl, ← Nat.pow_add, ← Nat.pow_add]; congr 2; omega
  have et : M * 1152921504606846976 = (pm single a * 2 ^ (u + 60 - c - 74)) * 18889465931478580854784 := by
    rw [e, Nat.mul_assoc, show (18889465931478580854784 : Nat) = 2 ^ 74 from rfl, ← Nat.pow_add]; congr 2; omega
  have hlo : 2305843009213693952 ≤ w := by
    refine Decidable.byContradiction fun c => ?_
    have h3 : w + 1 ≤ 2305843009213693952 := by omega
    have h4 := Nat.mul_le_mul h3 h3; have h5 := hw.2; omega
  have hhi : w < 4611686018427387904 := by
    refine Decidable.byContradiction fun c => ?_
    have h3 : 4611686018427387904 ≤ w := by omega
    have h4 := Nat.mul_le_mul h3 h3; have h5 := hw.1; omega
  refine ⟨by omega, ?_⟩; have hl : 61 ≤ w.log2 := (Nat.le_log2 (by omega)).2 (by omega); have h53 : 2 ^ 53 ≤ 2 ^ (u + 60 - c) := Nat.pow_le_pow_right (by omega) (by omega); have hd := sqrt_val double (wide a) w2 z0 (by rw [w1, hs]) (pm single a) (pe single a) (-1074) (u + 60 - c) w (by omega) hge v1 m0 (by omega) (by rw [← e]; exact hw) (by omega) (by rw [dP]; omega); rw [← e, show (pe single a - ((u + 60 - c : Nat) : Int)) / 2 - 1 = (pe single a - u + c - 60) / 2 - 1 by omega] at hd; have hsl := Bool.toNat_le (w * w != M * 1152921504606846976); have hmid := root_mid (pm single a * 2 ^ (u + 60 - c - 74)) w (rne (2 * w + (w * w != M * 1152921504606846976).toNat) 1024) (by rw [← et]; exact hw) hhi (by rw [et]); rw [← et] at hmid; obtain ⟨t1, t2, t3, t4⟩ := twice (2 * w + (w * w != M * 1152921504606846976).toNat) _ ((pe single a - u + c - 60) / 2 - 1) (by omega) (by omega) (by omega) (by omega) rfl hmid; rw [un32_sqrt a hN, hd]; show Option.map bt32 _ = _
  rw [narrow_num false _ _ _ ((pe single a - u + c - 60) / 2 - 1 + 10) (by omega) (by omega) t1 t2 (by rw [t3]; exact t4), t3, Option.map_some, bt32_word _ _ (Nat.le_of_lt t4)]
end Go.Proofs.YtkhhhceeoljheaaGreatDoor

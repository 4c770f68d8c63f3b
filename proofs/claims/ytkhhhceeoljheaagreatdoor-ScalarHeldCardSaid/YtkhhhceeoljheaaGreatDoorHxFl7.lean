import Ieee.Arith
set_option linter.unusedVariables false
set_option linter.unusedSimpArgs false
namespace Go.Proofs.YtkhhhceeoljheaaGreatDoor.Fl
open Ieee
def rne (n g : Nat) : Nat := n / g + (if g < 2 * (n % g) ∨ (g = 2 * (n % g) ∧ n / g % 2 = 1) then 1 else 0)
theorem cut_even (neg : Bool) (n drop : Nat) : Toward.even.cut neg n drop = rne n (2 ^ drop) := by
  unfold Toward.cut rne
  simp only [Nat.shiftLeft_eq, Nat.one_mul]
  by_cases h : drop ≤ n.log2 + 2
  · rw [Nat.min_eq_left h]
    congr 1
    by_cases c : 2 ^ drop < 2 * (n % 2 ^ drop) ∨ (2 ^ drop = 2 * (n % 2 ^ drop) ∧ n / 2 ^ drop % 2 = 1)
    · rw [if_pos c]
      have : (decide (2 ^ drop < 2 * (n % 2 ^ drop)) || (2 ^ drop == 2 * (n % 2 ^ drop) && n / 2 ^ drop % 2 == 1)) = true := by
        simpa using c
      rw [this]; rfl
    · rw [if_neg c]
      have : (decide (2 ^ drop < 2 * (n % 2 ^ drop)) || (2 ^ drop == 2 * (n % 2 ^ drop) && n / 2 ^ drop % 2 == 1)) = false := by
        simpa using c
      rw [this]; rfl
  · have h1 : n.log2 + 2 < drop := by omega
    rw [Nat.min_eq_right (by omega)]
    have hn : n < 2 ^ (n.log2 + 1) := Nat.lt_log2_self
    have h2 : 2 ^ (n.log2 + 2) = 2 * 2 ^ (n.log2 + 1) := by rw [Nat.pow_succ]; omega
    have h3 : 2 ^ (n.log2 + 2) ≤ 2 ^ drop := Nat.pow_le_pow_right (by omega) (by omega)
    rw [Nat.div_eq_of_lt (by omega), Nat.mod_eq_of_lt (by omega), Nat.div_eq_of_lt (by omega), Nat.mod_eq_of_lt (by omega : n < 2 ^ drop)]
    rw [if_neg (by omega)]
    have : (decide (2 ^ (n.log2 + 2) < 2 * n) || (2 ^ (n.log2 + 2) == 2 * n && 0 % 2 == 1)) = false := by
      simp; omega
    rw [this]; rfl
theorem rne_scale (n g c : Nat) (hc : 0 < c) : rne (n * c) (g * c) = rne n g := by
  unfold rne
  rw [Nat.mul_div_mul_right _ _ hc, Nat.mul_mod_mul_right]
  congr 1
  have e1 : (g * c < 2 * (n % g * c)) ↔ (g < 2 * (n % g)) := by
    rw [← Nat.mul_assoc]; exact Nat.mul_lt_mul_right hc
  have e2 : (g * c = 2 * (n % g * c)) ↔ (g = 2 * (n % g)) := by
    rw [← Nat.mul_assoc]; exact ⟨fun h => Nat.eq_of_mul_eq_mul_right hc h, fun h => by rw [← h]⟩
  simp only [e1, e2]
theorem rne_one (n : Nat) : rne n 1 = n := by unfold rne; rw [Nat.div_one, Nat.mod_one]; simp
theorem two_pow_split {t : Nat} (h : 1 ≤ t) : 2 ^ t = 2 * 2 ^ (t - 1) := by
  obtain ⟨s, rfl⟩ : ∃ s, t = s + 1 := ⟨t - 1, by omega⟩
  rw [Nat.pow_succ, Nat.add_sub_cancel]; omega
end Go.Proofs.YtkhhhceeoljheaaGreatDoor.Fl
namespace Go.Proofs.YtkhhhceeoljheaaGreatDoor.Fl
open Ieee
def lastP (f : Format) (m : Nat) (e : Int) : Int := max (e + m.log2 - f.fractionBits) f.leastPlace
def rung (f : Format) (m : Nat) (e : Int) : Nat :=
  if m = 0 then 0 else min ((lastP f m e - f.leastPlace).toNat * f.binade + rne (m * 2 ^ (e - lastP f m e).toNat) (2 ^ (lastP f m e - e).toNat)) f.infRung
theorem nearest_eq (f : Format) (neg : Bool) (m : Nat) (e : Int) : f.nearest neg m e = f.word neg (rung f m e) := by
  unfold Format.nearest rung
  by_cases h : m = 0
  · rw [if_pos h, if_pos h]
  · rw [if_neg h, if_neg h]
    simp only [cut_even, Nat.shiftLeft_eq]
    rfl
theorem log2_pow (m j : Nat) (h : m ≠ 0) : (m * 2 ^ j).log2 = m.log2 + j := by
  rw [← Nat.shiftLeft_eq]
  induction j with
  | zero => rfl
  | succ j ih =>
    rw [Nat.shiftLeft_succ, Nat.log2_two_mul (by rw [Nat.shiftLeft_eq]; have := Nat.two_pow_pos j; exact Nat.mul_ne_zero h (by omega)), ih]; rfl
theorem rung_scale (f : Format) (m j : Nat) (e : Int) : rung f (m * 2 ^ j) (e - j) = rung f m e := by
  have hj := Nat.two_pow_pos j
  unfold rung
  by_cases h : m = 0
  · rw [if_pos h, if_pos (by rw [h]; simp)]
  · rw [if_neg h, if_neg (Nat.mul_ne_zero h (by omega))]
    have hl : lastP f (m * 2 ^ j) (e - j) = lastP f m e := by
      unfold lastP; rw [log2_pow m j h]; congr 1; omega
    rw [hl]
    generalize lastP f m e = l
    congr 2
    by_cases c : e ≤ l
    · rw [show (e - l).toNat = 0 by omega, show (e - j - l).toNat = 0 by omega, show (l - (e - j)).toNat = (l - e).toNat + j by omega, Nat.pow_add, Nat.pow_zero, Nat.mul_one, Nat.mul_one]
      exact rne_scale _ _ _ hj
    · rw [show (l - e).toNat = 0 by omega, Nat.pow_zero, rne_one]
      by_cases d : l ≤ e - j
      · rw [show (l - (e - j)).toNat = 0 by omega, Nat.pow_zero, rne_one, Nat.mul_assoc, ← Nat.pow_add]
        congr 2; omega
      · rw [show (e - j - l).toNat = 0 by omega, Nat.pow_zero, Nat.mul_one]
        obtain ⟨t, ht⟩ : ∃ t : Nat, (l - (e - j)).toNat = t := ⟨_, rfl⟩
        rw [ht, show j = (e - l).toNat + t by omega, Nat.pow_add, ← Nat.mul_assoc]
        conv => lhs; arg 2; rw [← Nat.one_mul (2 ^ t)]
        rw [rne_scale _ _ _ (Nat.two_pow_pos t), rne_one]
end Go.Proofs.YtkhhhceeoljheaaGreatDoor.Fl
namespace Go.Proofs.YtkhhhceeoljheaaGreatDoor.Fl
open Ieee
def V (f : Format) (r : Nat) : Nat := if r < f.binade then r else (f.binade + r % f.binade) * 2 ^ (r / f.binade - 1)
theorem binade_pos (f : Format) : 0 < f.binade := Nat.two_pow_pos _
theorem V_lt_succ (f : Format) (r : Nat) : V f r < V f (r + 1) := by
  have hB := binade_pos f
  unfold V
  generalize f.binade = B at *
  by_cases h : r + 1 < B
  · rw [if_pos (by omega), if_pos h]; omega
  · rw [if_neg h]
    by_cases h2 : r < B
    · have : r + 1 = B := by omega
      rw [if_pos h2, this, Nat.mod_self, Nat.div_self hB]; simp; omega
    · rw [if_neg h2]
      have d := Nat.div_add_mod r B
      have ml := Nat.mod_lt r hB
      have hq : 1 ≤ r / B := (Nat.le_div_iff_mul_le hB).2 (by omega)
      by_cases c : r % B + 1 < B
      · have e1 : (r + 1) / B = r / B := by
          rw [show r + 1 = (r % B + 1) + B * (r / B) by omega, Nat.add_mul_div_left _ _ hB, Nat.div_eq_of_lt c, Nat.zero_add]
        have e2 : (r + 1) % B = r % B + 1 := by
          rw [show r + 1 = (r % B + 1) + B * (r / B) by omega, Nat.add_mul_mod_self_left, Nat.mod_eq_of_lt c]
        rw [e1, e2]
        exact Nat.mul_lt_mul_of_pos_right (by omega) (Nat.two_pow_pos _)
      · have c' : r % B + 1 = B := by omega
        have e0 : r + 1 = B * (r / B + 1) := by rw [Nat.mul_add]; omega
        rw [e0, Nat.mul_mod_right, Nat.mul_div_cancel_left _ hB, Nat.add_zero, Nat.add_sub_cancel]
        have : 2 ^ (r / B) = 2 * 2 ^ (r / B - 1) := two_pow_split hq
        rw [this, Nat.mul_left_comm, ← Nat.mul_assoc]
        exact Nat.mul_lt_mul_of_pos_right (by omega) (Nat.two_pow_pos _)
theorem V_mono (f : Format) {a b : Nat} (h : a < b) : V f a < V f b := by
  obtain ⟨d, rfl⟩ : ∃ d, b = a + d + 1 := ⟨b - a - 1, by omega⟩
  clear h
  induction d with
  | zero => exact V_lt_succ f a
  | succ d ih => exact Nat.lt_trans ih (V_lt_succ f _)
theorem V_lt (f : Format) {a b : Nat} : V f a < V f b ↔ a < b := by
  constructor
  · intro h
    rcases Nat.lt_trichotomy a b with c | c | c
    · exact c
    · rw [c] at h; omega
    · have := V_mono f c; omega
  · exact V_mono f
theorem V_zero (f : Format) : V f 0 = 0 := by unfold V; rw [if_pos (binade_pos f)]
theorem rung_exact (f : Format) (m : Nat) (e : Int) (hm : m < 2 * f.binade) (he : f.leastPlace ≤ e)
    (hI : m ≠ 0 → (lastP f m e - f.leastPlace).toNat * f.binade + m * 2 ^ (e - lastP f m e).toNat ≤ f.infRung) :
    V f (rung f m e) = m * 2 ^ (e - f.leastPlace).toNat := by
  have hB := binade_pos f
  unfold rung
  by_cases h0 : m = 0
  · rw [if_pos h0, V_zero, h0, Nat.zero_mul]
  · rw [if_neg h0]
    have hI := hI h0
    have hl : m.log2 ≤ f.fractionBits := by
      have : m < 2 ^ (f.fractionBits + 1) := by rw [Nat.pow_succ]; unfold Format.binade at hm; omega
      have := (Nat.log2_lt h0).2 this
      omega
    have hle : lastP f m e ≤ e := by unfold lastP; omega
    have hge : f.leastPlace ≤ lastP f m e := by unfold lastP; omega
    rw [show (lastP f m e - e).toNat = 0 by omega, Nat.pow_zero, rne_one, Nat.min_eq_left hI]
    
    have hk : m * 2 ^ (e - lastP f m e).toNat < 2 * f.binade := by
      have h1 : (e - lastP f m e).toNat ≤ f.fractionBits - m.log2 := by unfold lastP; omega
      have h2 : m * 2 ^ (e - lastP f m e).toNat ≤ m * 2 ^ (f.fractionBits - m.log2) := Nat.mul_le_mul_left _ (Nat.pow_le_pow_right (by omega) h1)
      have h3 : m < 2 ^ (m.log2 + 1) := Nat.lt_log2_self
      have h4 : m * 2 ^ (f.fractionBits - m.log2) < 2 ^ (m.log2 + 1) * 2 ^ (f.fractionBits - m.log2) := Nat.mul_lt_mul_of_pos_right h3 (Nat.two_pow_pos _)
      rw [← Nat.pow_add, show m.log2 + 1 + (f.fractionBits - m.log2) = f.fractionBits + 1 by omega, Nat.pow_succ] at h4
      unfold Format.binade; omega
    have hk2 : f.leastPlace < lastP f m e → f.binade ≤ m * 2 ^ (e - lastP f m e).toNat := by
      intro hlt
      have h1 : (e - lastP f m e).toNat = f.fractionBits - m.log2 := by unfold lastP at *; omega
      rw [h1]
      have h3 := Nat.log2_self_le h0
      have h4 : 2 ^ m.log2 * 2 ^ (f.fractionBits - m.log2) ≤ m * 2 ^ (f.fractionBits - m.log2) := Nat.mul_le_mul_right _ h3
      rw [← Nat.pow_add, show m.log2 + (f.fractionBits - m.log2) = f.fractionBits by omega] at h4
      exact h4
    have hfin : m * 2 ^ (e - f.leastPlace).toNat = m * 2 ^ (e - lastP f m e).toNat * 2 ^ (lastP f m e - f.leastPlace).toNat := by
      rw [Nat.mul_assoc, ← Nat.pow_add]; congr 2; omega
    rw [hfin]
    generalize m * 2 ^ (e - lastP f m e).toNat = k at *
    generalize hd : (lastP f m e - f.leastPlace).toNat = d at *
    by_cases c : k < f.binade
    · have hd0 : d = 0 := by
        rcases Nat.eq_zero_or_pos d with h | h
        · exact h
        · have := hk2 (by omega); omega
      rw [hd0, Nat.zero_mul, Nat.zero_add, Nat.pow_zero, Nat.mul_one]
      unfold V; rw [if_pos c]
    · have e0 : d * f.binade + k = (k - f.binade) + f.binade * (d + 1) := by rw [Nat.mul_add, Nat.mul_comm]; omega
      unfold V
      have hlt : ¬ d * f.binade + k < f.binade := by omega
      rw [if_neg hlt, e0, Nat.add_mul_mod_self_left, Nat.mod_eq_of_lt (by omega), Nat.add_mul_div_left _ _ hB, Nat.div_eq_of_lt (by omega), Nat.zero_add, Nat.add_sub_cancel]
      congr 1; omega
def neg (f : Format) (w : Nat) : Bool := w / f.signWeight % 2 == 1
def siz (f : Format) (w : Nat) : Nat := w % f.signWeight
def isN (f : Format) (w : Nat) : Bool := f.infRung < siz f w
def sr (f : Format) (w : Nat) : Int := if neg f w then -(siz f w : Int) else (siz f w : Int)
theorem read_eq (f : Format) (w : Nat) : f.read w = if siz f w < f.binade then .number (neg f w) (siz f w) f.leastPlace
    else if siz f w < f.infRung then .number (neg f w) (f.binade + siz f w % f.binade) (f.leastPlace + (siz f w / f.binade - 1 : Nat))
    else if siz f w = f.infRung then .infinity (neg f w) else .nan (neg f w) (siz f w - f.infRung) := rfl
theorem inf_ge (f : Format) (h : 1 ≤ f.exponentBits) : f.binade ≤ f.infRung := by
  unfold Format.infRung
  have : 2 ^ 1 ≤ 2 ^ f.exponentBits := Nat.pow_le_pow_right (by omega) h
  calc f.binade = 1 * f.binade := by omega
    _ ≤ _ := Nat.mul_le_mul_right _ (by omega)
theorem read_fin (f : Format) (w : Nat) (h : siz f w < f.infRung) : ∃ m e, f.read w = .number (neg f w) m e ∧ f.leastPlace ≤ e ∧ m < 2 * f.binade ∧ m * 2 ^ (e - f.leastPlace).toNat = V f (siz f w) := by
  have hB := binade_pos f
  rw [read_eq]
  by_cases c : siz f w < f.binade
  · rw [if_pos c]
    refine ⟨_, _, rfl, by omega, by omega, ?_⟩
    rw [Int.sub_self]; unfold V; rw [if_pos c]; simp
  · rw [if_neg c, if_pos h]
    have ml := Nat.mod_lt (siz f w) hB
    refine ⟨_, _, rfl, by omega, by omega, ?_⟩
    unfold V; rw [if_neg c]
    congr 2; omega
theorem cmp_scale (a b : Int) (c : Nat) (hc : 0 < c) : compare (a * c) (b * c) = compare a b := by
  have hc' : (0 : Int) < c := by omega
  rw [Int.compare_eq_ite_le, Int.compare_eq_ite_le]
  have e1 : a * c ≤ b * c ↔ a ≤ b := ⟨fun h => Int.le_of_mul_le_mul_right h hc', fun h => Int.mul_le_mul_of_nonneg_right h (by omega)⟩
  have e2 : b * c ≤ a * c ↔ b ≤ a := ⟨fun h => Int.le_of_mul_le_mul_right h hc', fun h => Int.mul_le_mul_of_nonneg_right h (by omega)⟩
  simp only [e1, e2]
def sg (s : Bool) (n : Nat) : Int := if s then -(n : Int) else n
theorem signed_eq (s : Bool) (m u : Nat) : signed s m u = sg s (m * 2 ^ u) := by
  unfold signed sg; rw [Nat.shiftLeft_eq]
theorem sg_mul (s : Bool) (n c : Nat) : sg s n * c = sg s (n * c) := by
  unfold sg; split
  · rw [Int.neg_mul]; simp
  · simp
theorem order_num (L : Int) (s t : Bool) (m n : Nat) (i j : Int) (hi : L ≤ i) (hj : L ≤ j) :
    (Datum.number s m i).order (Datum.number t n j) = some (compare (sg s (m * 2 ^ (i - L).toNat)) (sg t (n * 2 ^ (j - L).toNat))) := by
  show some (compare (signed s m (i - min i j).toNat) (signed t n (j - min i j).toNat)) = _
  congr 1
  rw [signed_eq, signed_eq]
  have h := cmp_scale (sg s (m * 2 ^ (i - min i j).toNat)) (sg t (n * 2 ^ (j - min i j).toNat)) (2 ^ (min i j - L).toNat) (Nat.two_pow_pos _)
  rw [sg_mul, sg_mul, Nat.mul_assoc, Nat.mul_assoc, ← Nat.pow_add, ← Nat.pow_add, show (i - min i j).toNat + (min i j - L).toNat = (i - L).toNat by omega, show (j - min i j).toNat + (min i j - L).toNat = (j - L).toNat by omega] at h
  exact h.symm
theorem cmp_sgV (f : Format) (s t : Bool) (a b : Nat) : compare (sg s (V f a)) (sg t (V f b)) = compare (sg s a) (sg t b) := by
  have z := V_zero f
  have z0 : ∀ x, 0 < V f x ↔ 0 < x := fun x => by have := V_lt f (a := 0) (b := x); rw [z] at this; exact this
  have l1 := V_lt f (a := a) (b := b)
  have l2 := V_lt f (a := b) (b := a)
  have za := z0 a
  have zb := z0 b
  rw [Int.compare_eq_ite_le, Int.compare_eq_ite_le]
  unfold sg
  have e1 : (if s = true then -(V f a : Int) else (V f a : Int)) ≤ (if t = true then -(V f b : Int) else (V f b : Int)) ↔ (if s = true then -(a : Int) else (a : Int)) ≤ (if t = true then -(b : Int) else (b : Int)) := by
    cases s <;> cases t <;> simp only [Bool.false_eq_true, ↓reduceIte] <;> omega
  have e2 : (if t = true then -(V f b : Int) else (V f b : Int)) ≤ (if s = true then -(V f a : Int) else (V f a : Int)) ↔ (if t = true then -(b : Int) else (b : Int)) ≤ (if s = true then -(a : Int) else (a : Int)) := by
    cases s <;> cases t <;> simp only [Bool.false_eq_true, ↓reduceIte] <;> omega
  simp only [e1, e2]
theorem sr_eq (f : Format) (w : Nat) : sr f w = sg (neg f w) (siz f w) := rfl
theorem order_eq (f : Format) (hE : 1 ≤ f.exponentBits) (x y : Nat) : f.order x y = if isN f x || isN f y then none else some (compare (sr f x) (sr f y)) := by
  unfold Format.order
  have hI := inf_ge f hE
  have hB := binade_pos f
  by_cases nx : f.infRung < siz f x
  · have : f.read x = .nan (neg f x) (siz f x - f.infRung) := by rw [read_eq, if_neg (by omega), if_neg (by omega), if_neg (by omega)]
    rw [this, show isN f x = true from by simp [isN, nx]]
    cases f.read y <;> rfl
  have e1 : isN f x = false := by simp [isN]; omega
  by_cases ny : f.infRung < siz f y
  · have : f.read y = .nan (neg f y) (siz f y - f.infRung) := by rw [read_eq, if_neg (by omega), if_neg (by omega), if_neg (by omega)]
    rw [this, show isN f y = true from by simp [isN, ny], e1]
    cases f.read x <;> rfl
  have e2 : isN f y = false := by simp [isN]; omega
  rw [e1, e2]
  simp only [Bool.or_self, Bool.false_eq_true, ↓reduceIte]
  by_cases fx : siz f x < f.infRung
  · obtain ⟨m, i, hm, hi, -, vm⟩ := read_fin f x fx
    by_cases fy : siz f y < f.infRung
    · obtain ⟨n, j, hn, hj, -, vn⟩ := read_fin f y fy
      rw [hm, hn, order_num f.leastPlace _ _ _ _ _ _ hi hj, vm, vn, cmp_sgV]; rfl
    · have : f.read y = .infinity (neg f y) := by rw [read_eq, if_neg (by omega), if_neg (by omega), if_pos (by omega)]
      rw [hm, this]
      show some _ = _
      congr 1
      rw [sr_eq, sr_eq]
      symm
      rw [Int.compare_eq_ite_le]; unfold sg
      cases neg f x <;> cases neg f y <;> simp only [Bool.false_eq_true, ↓reduceIte] <;> (split <;> first | (split <;> first | omega | rfl) | omega | rfl)
  · have hx : f.read x = .infinity (neg f x) := by rw [read_eq, if_neg (by omega), if_neg (by omega), if_pos (by omega)]
    by_cases fy : siz f y < f.infRung
    · obtain ⟨n, j, hn, hj, -, vn⟩ := read_fin f y fy
      rw [hx, hn]
      show some _ = _
      congr 1
      rw [sr_eq, sr_eq]
      symm
      rw [Int.compare_eq_ite_le]; unfold sg
      cases neg f x <;> cases neg f y <;> simp only [Bool.false_eq_true, ↓reduceIte] <;> (split <;> first | (split <;> first | omega | rfl) | omega | rfl)
    · have hy : f.read y = .infinity (neg f y) := by rw [read_eq, if_neg (by omega), if_neg (by omega), if_pos (by omega)]
      rw [hx, hy]
      show some (compare (neg f y).toNat (neg f x).toNat) = _
      congr 1
      rw [sr_eq, sr_eq, show siz f x = f.infRung by omega, show siz f y = f.infRung by omega]
      symm
      rw [Int.compare_eq_ite_le]; unfold sg
      have : (0 : Int) < f.infRung := by omega
      cases neg f x <;> cases neg f y <;> simp only [Bool.false_eq_true, ↓reduceIte, Bool.toNat_true, Bool.toNat_false] <;> (split <;> first | (split <;> first | omega | rfl) | omega | rfl)
end Go.Proofs.YtkhhhceeoljheaaGreatDoor.Fl
namespace Go.Proofs.YtkhhhceeoljheaaGreatDoor.Fl
open Ieee
theorem siz_word (f : Format) (s : Bool) (r : Nat) (h : r < f.signWeight) : siz f (f.word s r) = r := by
  unfold siz Format.word
  cases s
  · simp only [Bool.false_eq_true, ↓reduceIte]; exact Nat.mod_eq_of_lt h
  · simp only [↓reduceIte]; rw [Nat.add_mod_left]; exact Nat.mod_eq_of_lt h
theorem neg_word (f : Format) (s : Bool) (r : Nat) (h : r < f.signWeight) : neg f (f.word s r) = s := by
  have hp : 0 < f.signWeight := Nat.two_pow_pos _
  unfold neg Format.word
  cases s
  · simp only [Bool.false_eq_true, ↓reduceIte]; rw [Nat.div_eq_of_lt h]; rfl
  · simp only [↓reduceIte]; rw [Nat.add_div_left _ hp, Nat.div_eq_of_lt h]; rfl
theorem sB : single.binade = 8388608 := by decide
theorem sI : single.infRung = 2139095040 := by decide
theorem sL : single.leastPlace = -149 := by decide
theorem dB : double.binade = 4503599627370496 := by decide
theorem dI : double.infRung = 9218868437227405312 := by decide
theorem dS : double.signWeight = 9223372036854775808 := by decide
theorem dL : double.leastPlace = -1074 := by decide
theorem dP : double.fractionBits = 52 := rfl
theorem log2_lt_pow {m k : Nat} (h : m < 2 ^ (k + 1)) : m.log2 ≤ k := by
  by_cases h0 : m = 0
  · rw [h0]; have : Nat.log2 0 = 0 := by decide
    omega
  · have := (Nat.log2_lt h0).2 h; omega
theorem fits_double (m : Nat) (e : Int) (hm : m < 16777216) (he : -149 ≤ e) (he2 : e ≤ 104) :
    (lastP double m e - double.leastPlace).toNat * double.binade + m * 2 ^ (e - lastP double m e).toNat ≤ double.infRung - 1 ∧ lastP double m e ≤ e := by
  have hl : m.log2 ≤ 23 := log2_lt_pow (by omega)
  have h1 : lastP double m e = e + m.log2 - 52 := by unfold lastP; rw [dP, dL]; omega
  rw [h1, dL, dB, dI, show (e - (e + m.log2 - 52)).toNat = 52 - m.log2 by omega]
  have h2 : m * 2 ^ (52 - m.log2) ≤ 2 ^ 53 := by
    have h3 : m < 2 ^ (m.log2 + 1) := Nat.lt_log2_self
    have h4 : m * 2 ^ (52 - m.log2) ≤ 2 ^ (m.log2 + 1) * 2 ^ (52 - m.log2) := Nat.mul_le_mul_right _ (by omega)
    rw [← Nat.pow_add, show m.log2 + 1 + (52 - m.log2) = 53 by omega] at h4
    exact h4
  generalize m * 2 ^ (52 - m.log2) = z at *
  have h5 : (2 : Nat) ^ 53 = 9007199254740992 := rfl
  rw [h5] at h2
  constructor
  · have : (e + m.log2 - 52 - -1074).toNat ≤ 1149 := by omega
    generalize (e + m.log2 - 52 - -1074).toNat = y at *
    omega
  · omega
theorem gap_ex : ∃ g : Nat, 0 < g ∧ ∀ (m : Nat) (e : Int), -149 ≤ e → m * 2 ^ (e - -1074).toNat = m * 2 ^ (e + 149).toNat * g := by
  obtain ⟨k, hk⟩ : ∃ k : Nat, k = 925 := ⟨_, rfl⟩
  refine ⟨2 ^ k, Nat.two_pow_pos _, fun m e he => ?_⟩
  rw [Nat.mul_assoc, ← Nat.pow_add, show (e - -1074).toNat = (e + 149).toNat + k by omega]
noncomputable def gap : Nat := Classical.choose gap_ex
theorem gap_pos : 0 < gap := (Classical.choose_spec gap_ex).1
theorem gap_mul (m : Nat) (e : Int) (he : -149 ≤ e) : m * 2 ^ (e - -1074).toNat = m * 2 ^ (e + 149).toNat * gap := (Classical.choose_spec gap_ex).2 m e he
def wide (w : Nat) : Nat := double.write (single.read w)
theorem single_read_bounds (w : Nat) (h : siz single w < single.infRung) : ∃ m e, single.read w = .number (neg single w) m e ∧ -149 ≤ e ∧ e ≤ 104 ∧ m < 16777216 ∧ m * 2 ^ (e + 149).toNat = V single (siz single w) := by
  have hB := sB
  have hI := sI
  rw [read_eq]
  by_cases c : siz single w < single.binade
  · rw [if_pos c]
    refine ⟨_, _, rfl, by rw [sL]; omega, by rw [sL]; omega, by omega, ?_⟩
    rw [sL]; unfold V; rw [if_pos c]; simp
  · rw [if_neg c, if_pos h]
    have ml := Nat.mod_lt (siz single w) (binade_pos single)
    rw [sB] at ml c ⊢
    refine ⟨_, _, rfl, by rw [sL]; omega, by rw [sL]; omega, by omega, ?_⟩
    unfold V; rw [sB, if_neg c, sL]
    congr 2; omega
theorem rung_double_lt (m : Nat) (e : Int) (hm : m < 16777216) (he : -149 ≤ e) (he2 : e ≤ 104) : rung double m e < 9218868437227405312 := by
  obtain ⟨h1, h2⟩ := fits_double m e hm he he2
  rw [dI] at h1
  unfold rung
  split
  · omega
  · rw [Int.toNat_of_nonpos (Int.sub_nonpos_of_le h2), Nat.pow_zero, rne_one, dI]
    generalize (lastP double m e - double.leastPlace).toNat * double.binade + m * 2 ^ (e - lastP double m e).toNat = z at *
    omega
theorem rung_double_V (m : Nat) (e : Int) (hm : m < 16777216) (he : -149 ≤ e) (he2 : e ≤ 104) : V double (rung double m e) = m * 2 ^ (e + 149).toNat * gap := by
  obtain ⟨h1, h2⟩ := fits_double m e hm he he2
  have h3 := rung_exact double m e (by rw [dB]; omega) (by rw [dL]; omega) (fun _ => Nat.le_trans h1 (Nat.sub_le _ _))
  rw [h3, dL]
  exact gap_mul m e he
theorem wide_fin (w : Nat) (h : siz single w < single.infRung) : neg double (wide w) = neg single w ∧ siz double (wide w) < double.infRung ∧ V double (siz double (wide w)) = V single (siz single w) * gap := by
  obtain ⟨m, e, hr, he, he2, hm, hv⟩ := single_read_bounds w h
  have hlt := rung_double_lt m e hm he he2
  have hV := rung_double_V m e hm he he2
  have hw : wide w = double.word (neg single w) (rung double m e) := by
    unfold wide; rw [hr]; exact nearest_eq ..
  generalize rung double m e = r at *
  have hS : r < double.signWeight := by rw [dS]; omega
  rw [hw, neg_word _ _ _ hS, siz_word _ _ _ hS]
  refine ⟨rfl, by rw [dI]; exact hlt, ?_⟩
  rw [hV, hv]
theorem wide_inf (w : Nat) (h : siz single w = single.infRung) : neg double (wide w) = neg single w ∧ siz double (wide w) = double.infRung := by
  have hr : single.read w = .infinity (neg single w) := by
    rw [read_eq, if_neg (by have := inf_ge single (by decide); omega), if_neg (by omega), if_pos h]
  have hS : double.infRung < double.signWeight := by rw [dI, dS]; omega
  have hw : wide w = double.word (neg single w) double.infRung := by unfold wide; rw [hr]; rfl
  rw [hw, neg_word _ _ _ (by omega), siz_word _ _ _ (by omega)]
  exact ⟨rfl, rfl⟩
theorem wide_isN (w : Nat) (h : isN single w = false) : isN double (wide w) = false := by
  have hn : ¬ single.infRung < siz single w := by simpa [isN] using h
  by_cases c : siz single w < single.infRung
  · have := (wide_fin w c).2.1; simp [isN]; omega
  · have := (wide_inf w (by omega)).2; simp [isN]; omega
theorem wide_neg (x : Nat) (hx : isN single x = false) : neg double (wide x) = neg single x := by
  have nx : ¬ single.infRung < siz single x := by simpa [isN] using hx
  by_cases cx : siz single x < single.infRung
  · exact (wide_fin x cx).1
  · exact (wide_inf x (by omega)).1
end Go.Proofs.YtkhhhceeoljheaaGreatDoor.Fl
namespace Go.Proofs.YtkhhhceeoljheaaGreatDoor.Fl
end Go.Proofs.YtkhhhceeoljheaaGreatDoor.Fl
namespace Go.Proofs.YtkhhhceeoljheaaGreatDoor.Fl
end Go.Proofs.YtkhhhceeoljheaaGreatDoor.Fl
namespace Go.Proofs.YtkhhhceeoljheaaGreatDoor.Fl
end Go.Proofs.YtkhhhceeoljheaaGreatDoor.Fl

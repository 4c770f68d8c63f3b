import Ieee.Arith
set_option linter.unusedVariables false
set_option linter.unusedSimpArgs false
namespace Go.Proofs.YtkhhhceeoljheaaGreatDoor.Fl
open Ieee
def rne (n g : Nat) : Nat := n / g + (if g < 2 * (n % g) ∨ (g = 2 * (n % g) ∧ n / g % 2 = 1) then 1 else 0)
theorem cut_even (neg : Bool) (n drop : Nat) : Toward.even.cut neg n drop = rne n (2 ^ drop) := by
  unfold Toward.cut rne; simp only [Nat.shiftLeft_eq, Nat.one_mul]; by_cases h : drop ≤ n.log2 + 2
  · rw [Nat.min_eq_left h]
    congr 1
    by_cases c : 2 ^ drop < 2 * (n % 2 ^ drop) ∨ (2 ^ drop = 2 * (n % 2 ^ drop) ∧ n / 2 ^ drop % 2 = 1)
    · rw [if_pos c]
      have : (decide (2 ^ drop < 2 * (n % 2 ^ drop)) || (2 ^ drop == 2 * (n % 2 ^ drop) && n / 2 ^ drop % 2 == 1)) = true := by
        simpa using c
      rw [this]; rfl
    · rw [if_neg c]
      have : (decide (2 ^ drop < 2 * (n % 2 ^ drop)) || (2 ^ drop == 2 * (n % 2 ^ drop) && n / 2 ^ drop % 2 == 1)) = false := by
        simpa using c
      rw [this]; rfl
  · have h1 : n.log2 + 2 < drop := by omega
    rw [Nat.min_eq_right (by omega)]; have hn : n < 2 ^ (n.log2 + 1) := Nat.lt_log2_self; have h2 : 2 ^ (n.log2 + 2) = 2 * 2 ^ (n.log2 + 1) := by rw [Nat.pow_succ]; omega
    have h3 : 2 ^ (n.log2 + 2) ≤ 2 ^ drop := Nat.pow_le_pow_right (by omega) (by omega); rw [Nat.div_eq_of_lt (by omega), Nat.mod_eq_of_lt (by omega), Nat.div_eq_of_lt (by omega), Nat.mod_eq_of_lt (by omega : n < 2 ^ drop)]; rw [if_neg (by omega)]
    have : (decide (2 ^ (n.log2 + 2) < 2 * n) || (2 ^ (n.log2 + 2) == 2 * n && 0 % 2 == 1)) = false := by
      simp; omega
    rw [this]; rfl
theorem rne_scale (n g c : Nat) (hc : 0 < c) : rne (n * c) (g * c) = rne n g := by
  unfold rne; rw [Nat.mul_div_mul_right _ _ hc, Nat.mul_mod_mul_right]; congr 1
  have e1 : (g * c < 2 * (n % g * c)) ↔ (g < 2 * (n % g)) := by
    rw [← Nat.mul_assoc]; exact Nat.mul_lt_mul_right hc
  have e2 : (g * c = 2 * (n % g * c)) ↔ (g = 2 * (n % g)) := by
    rw [← Nat.mul_assoc]; exact ⟨fun h => Nat.eq_of_mul_eq_mul_right hc h, fun h => by rw [← h]⟩
  simp only [e1, e2]
theorem rne_one (n : Nat) : rne n 1 = n := by unfold rne; rw [Nat.div_one, Nat.mod_one]; simp
def jam (n j : Nat) : Nat := if n % 2 ^ j = 0 then n / 2 ^ j else 2 * (n / 2 ^ j / 2) + 1
theorem jam_zero (n : Nat) : jam n 0 = n := by simp [jam, Nat.mod_one]
theorem two_pow_split {t : Nat} (h : 1 ≤ t) : 2 ^ t = 2 * 2 ^ (t - 1) := by
  obtain ⟨s, rfl⟩ : ∃ s, t = s + 1 := ⟨t - 1, by omega⟩
  rw [Nat.pow_succ, Nat.add_sub_cancel]; omega
theorem rne_jam (n j t : Nat) (ht : 2 ≤ t) : rne (jam n j) (2 ^ t) = rne n (2 ^ (j + t)) := by
  have hj : 0 < 2 ^ j := Nat.two_pow_pos j; rw [Nat.pow_add]; unfold jam; split
  · rename_i h0
    have e : n = n / 2 ^ j * 2 ^ j := by have := Nat.div_add_mod n (2 ^ j); rw [h0, Nat.add_zero, Nat.mul_comm] at this; exact this.symm
    conv => rhs; rw [e, Nat.mul_comm (2 ^ j)]
    exact (rne_scale _ _ _ hj).symm
  · rename_i h0
    have ht1 := two_pow_split (show 1 ≤ t by omega); have ht2 := two_pow_split (show 1 ≤ t - 1 by omega); generalize 2 ^ (t - 1 - 1) = q at ht2; rw [ht2] at ht1; have hg : 2 ^ t = 4 * q := by omega
    have hq : 0 < q := by have := Nat.two_pow_pos t; omega
    rw [hg]; generalize hJ : 2 ^ j = J at *; have hr : 0 < n % J := Nat.pos_of_ne_zero h0; have hrl : n % J < J := Nat.mod_lt _ hj; generalize hA : n / J = a at *; have hn : n = J * a + n % J := by rw [← hA]; exact (Nat.div_add_mod n J).symm
    generalize n % J = r at *
    
    have q1 : (2 * (a / 2) + 1) / (4 * q) = a / (4 * q) := by
      rw [show 4 * q = 2 * (2 * q) by omega, ← Nat.div_div_eq_div_mul, ← Nat.div_div_eq_div_mul, show (2 * (a / 2) + 1) / 2 = a / 2 by omega, ← Nat.div_div_eq_div_mul, ← Nat.div_div_eq_div_mul]
    have q2 : n / (J * (4 * q)) = a / (4 * q) := by rw [← Nat.div_div_eq_div_mul, hA]
    have m1 : (2 * (a / 2) + 1) % (4 * q) = 2 * (a % (4 * q) / 2) + 1 := by
      have := Nat.div_add_mod (2 * (a / 2) + 1) (4 * q); rw [q1] at this; have h2 := Nat.div_add_mod a (4 * q); have h3 : 4 * q * (a / (4 * q)) = 2 * (2 * q * (a / (4 * q))) := by rw [← Nat.mul_assoc, ← Nat.mul_assoc]
      generalize 2 * q * (a / (4 * q)) = z at h3; omega
    have m2 : n % (J * (4 * q)) = J * (a % (4 * q)) + r := by
      have h1 := Nat.div_add_mod n (J * (4 * q)); have h2 := Nat.div_add_mod a (4 * q); rw [q2] at h1; have h3 : J * (4 * q) * (a / (4 * q)) = J * (4 * q * (a / (4 * q))) := Nat.mul_assoc ..; have h4 : J * a = J * (4 * q * (a / (4 * q))) + J * (a % (4 * q)) := by rw [← Nat.mul_add, h2]
      omega
    unfold rne; rw [q1, q2, m1, m2]; congr 1
    have hx : a % (4 * q) < 4 * q := Nat.mod_lt _ (by omega); generalize a % (4 * q) = x at *
    
    by_cases c : 2 * q ≤ x
    · have h1 : J * (2 * q) ≤ J * x := Nat.mul_le_mul_left _ c
      have h2 : J * (4 * q) = 2 * (J * (2 * q)) := by rw [show 4 * q = 2 * (2 * q) by omega, ← Nat.mul_assoc, Nat.mul_comm J 2, Nat.mul_assoc]
      rw [if_pos (Or.inl (by omega)), if_pos (Or.inl (by omega))]
    · have h1 : J * (x + 1) ≤ J * (2 * q) := Nat.mul_le_mul_left _ (by omega)
      rw [Nat.mul_add, Nat.mul_one] at h1; have h2 : J * (4 * q) = 2 * (J * (2 * q)) := by rw [show 4 * q = 2 * (2 * q) by omega, ← Nat.mul_assoc, Nat.mul_comm J 2, Nat.mul_assoc]
      rw [if_neg (by omega), if_neg (by omega)]
end Go.Proofs.YtkhhhceeoljheaaGreatDoor.Fl
namespace Go.Proofs.YtkhhhceeoljheaaGreatDoor.Fl
open Ieee
def lastP (f : Format) (m : Nat) (e : Int) : Int := max (e + m.log2 - f.fractionBits) f.leastPlace
def rung (f : Format) (m : Nat) (e : Int) : Nat :=
  if m = 0 then 0 else min ((lastP f m e - f.leastPlace).toNat * f.binade + rne (m * 2 ^ (e - lastP f m e).toNat) (2 ^ (lastP f m e - e).toNat)) f.infRung
theorem nearest_eq (f : Format) (neg : Bool) (m : Nat) (e : Int) : f.nearest neg m e = f.word neg (rung f m e) := by
  unfold Format.nearest rung; by_cases h : m = 0
  · rw [if_pos h, if_pos h]
  · rw [if_neg h, if_neg h]
    simp only [cut_even, Nat.shiftLeft_eq]; rfl
theorem log2_pow (m j : Nat) (h : m ≠ 0) : (m * 2 ^ j).log2 = m.log2 + j := by
  rw [← Nat.shiftLeft_eq]
  induction j with
  | zero => rfl
  | succ j ih =>
    rw [Nat.shiftLeft_succ, Nat.log2_two_mul (by rw [Nat.shiftLeft_eq]; have := Nat.two_pow_pos j; exact Nat.mul_ne_zero h (by omega)), ih]; rfl
theorem rung_scale (f : Format) (m j : Nat) (e : Int) : rung f (m * 2 ^ j) (e - j) = rung f m e := by
  have hj := Nat.two_pow_pos j; unfold rung; by_cases h : m = 0
  · rw [if_pos h, if_pos (by rw [h]; simp)]
  · rw [if_neg h, if_neg (Nat.mul_ne_zero h (by omega))]
    have hl : lastP f (m * 2 ^ j) (e - j) = lastP f m e := by
      unfold lastP; rw [log2_pow m j h]; congr 1; omega
    rw [hl]; generalize lastP f m e = l; congr 2
    by_cases c : e ≤ l
    · rw [show (e - l).toNat = 0 by omega, show (e - j - l).toNat = 0 by omega, show (l - (e - j)).toNat = (l - e).toNat + j by omega, Nat.pow_add, Nat.pow_zero, Nat.mul_one, Nat.mul_one]
      exact rne_scale _ _ _ hj
    · rw [show (l - e).toNat = 0 by omega, Nat.pow_zero, rne_one]
      by_cases d : l ≤ e - j
      · rw [show (l - (e - j)).toNat = 0 by omega, Nat.pow_zero, rne_one, Nat.mul_assoc, ← Nat.pow_add]
        congr 2; omega
      · rw [show (e - j - l).toNat = 0 by omega, Nat.pow_zero, Nat.mul_one]
        obtain ⟨t, ht⟩ : ∃ t : Nat, (l - (e - j)).toNat = t := ⟨_, rfl⟩
        rw [ht, show j = (e - l).toNat + t by omega, Nat.pow_add, ← Nat.mul_assoc]; conv => lhs; arg 2; rw [← Nat.one_mul (2 ^ t)]
        rw [rne_scale _ _ _ (Nat.two_pow_pos t), rne_one]
theorem jam_le (n j : Nat) : n / 2 ^ j ≤ jam n j ∧ jam n j ≤ n / 2 ^ j + 1 := by
  unfold jam; split <;> omega
theorem jam_log (n j : Nat) (h : 2 ≤ jam n j) : (jam n j).log2 + j = n.log2 ∧ n ≠ 0 := by
  have hj := Nat.two_pow_pos j; have hle := jam_le n j
  have hd : n / 2 ^ j ≠ 0 := by
    intro h0; unfold jam at h; split at h <;> omega
  have hn : n ≠ 0 := by intro h0; rw [h0, Nat.zero_div] at hd; exact hd rfl
  refine ⟨?_, hn⟩
  have e1 : (jam n j).log2 = (n / 2 ^ j).log2 := by
    unfold jam; split
    · rfl
    · rename_i hh
      by_cases c : n / 2 ^ j / 2 = 0
      · have : n / 2 ^ j = 1 := by omega
        rw [c, this]
      · have hne : 2 * (n / 2 ^ j / 2) + 1 ≠ 0 := by omega
        refine (Nat.log2_eq_iff hne).2 ?_; have q1 := Nat.log2_self_le hd; have q2 : n / 2 ^ j < 2 ^ ((n / 2 ^ j).log2 + 1) := Nat.lt_log2_self; have q3 : 1 ≤ (n / 2 ^ j).log2 := (Nat.le_log2 hd).2 (by omega); have q4 := two_pow_split q3; have q5 := two_pow_split (show 1 ≤ (n / 2 ^ j).log2 + 1 by omega); rw [Nat.add_sub_cancel] at q5; omega
  rw [e1]; have q1 := Nat.log2_self_le hd; have q2 : n / 2 ^ j < 2 ^ ((n / 2 ^ j).log2 + 1) := Nat.lt_log2_self; symm
  refine (Nat.log2_eq_iff hn).2 ⟨?_, ?_⟩
  · rw [Nat.pow_add]
    exact (Nat.le_div_iff_mul_le hj).1 q1
  · rw [show (n / 2 ^ j).log2 + j + 1 = ((n / 2 ^ j).log2 + 1) + j by omega, Nat.pow_add]
    exact (Nat.div_lt_iff_lt_mul hj).1 q2
theorem rung_jam (f : Format) (n j : Nat) (e : Int) (h : f.fractionBits + 2 ≤ (jam n j).log2) : rung f (jam n j) (e + j) = rung f n e := by
  have hz : jam n j ≠ 0 := by intro h0; rw [h0] at h; have : Nat.log2 0 = 0 := by decide
                              omega
  have h2 : 2 ≤ jam n j := by
    have := (Nat.le_log2 hz).1 h; have h4 : 2 ^ 2 ≤ 2 ^ (f.fractionBits + 2) := Nat.pow_le_pow_right (by omega) (by omega); omega
  obtain ⟨hl, hn⟩ := jam_log n j h2; unfold rung; rw [if_neg hz, if_neg hn]; have e1 : lastP f (jam n j) (e + j) = lastP f n e := by unfold lastP; congr 1; omega
  rw [e1]; have e2 : e + j + 2 ≤ lastP f n e := by unfold lastP; omega
  generalize lastP f n e = l at *; rw [show (e + j - l).toNat = 0 by omega, show (e - l).toNat = 0 by omega, Nat.pow_zero, Nat.mul_one, Nat.mul_one]; congr 2
  obtain ⟨t, ht⟩ : ∃ t : Nat, (l - (e + j)).toNat = t := ⟨_, rfl⟩
  rw [ht, show (l - e).toNat = j + t by omega]; exact rne_jam n j t (by omega)
end Go.Proofs.YtkhhhceeoljheaaGreatDoor.Fl
namespace Go.Proofs.YtkhhhceeoljheaaGreatDoor.Fl
open Ieee
def V (f : Format) (r : Nat) : Nat := if r < f.binade then r else (f.binade + r % f.binade) * 2 ^ (r / f.binade - 1)
theorem binade_pos (f : Format) : 0 < f.binade := Nat.two_pow_pos _
theorem V_lt_succ (f : Format) (r : Nat) : V f r < V f (r + 1) := by
  have hB := binade_pos f; unfold V; generalize f.binade = B at *; by_cases h : r + 1 < B
  · rw [if_pos (by omega), if_pos h]; omega
  · rw [if_neg h]
    by_cases h2 : r < B
    · have : r + 1 = B := by omega
      rw [if_pos h2, this, Nat.mod_self, Nat.div_self hB]; simp; omega
    · rw [if_neg h2]
      have d := Nat.div_add_mod r B; have ml := Nat.mod_lt r hB; have hq : 1 ≤ r / B := (Nat.le_div_iff_mul_le hB).2 (by omega); by_cases c : r % B + 1 < B
      · have e1 : (r + 1) / B = r / B := by
          rw [show r + 1 = (r % B + 1) + B * (r / B) by omega, Nat.add_mul_div_left _ _ hB, Nat.div_eq_of_lt c, Nat.zero_add]
        have e2 : (r + 1) % B = r % B + 1 := by
          rw [show r + 1 = (r % B + 1) + B * (r / B) by omega, Nat.add_mul_mod_self_left, Nat.mod_eq_of_lt c]
        rw [e1, e2]; exact Nat.mul_lt_mul_of_pos_right (by omega) (Nat.two_pow_pos _)
      · have c' : r % B + 1 = B := by omega
        have e0 : r + 1 = B * (r / B + 1) := by rw [Nat.mul_add]; omega
        rw [e0, Nat.mul_mod_right, Nat.mul_div_cancel_left _ hB, Nat.add_zero, Nat.add_sub_cancel]; have : 2 ^ (r / B) = 2 * 2 ^ (r / B - 1) := two_pow_split hq; rw [this, Nat.mul_left_comm, ← Nat.mul_assoc]; exact Nat.mul_lt_mul_of_pos_right (by omega) (Nat.two_pow_pos _)
theorem V_mono (f : Format) {a b : Nat} (h : a < b) : V f a < V f b := by
  obtain ⟨d, rfl⟩ : ∃ d, b = a + d + 1 := ⟨b - a - 1, by omega⟩
  clear h
  induction d with
  | zero => exact V_lt_succ f a
  | succ d ih => exact Nat.lt_trans ih (V_lt_succ f _)
theorem V_lt (f : Format) {a b : Nat} : V f a < V f b ↔ a < b := by
  constructor
  · intro h
    rcases Nat.lt_trichotomy a b with c | c | c
    · exact c
    · rw [c] at h; omega
    · have := V_mono f c; omega
  · exact V_mono f
theorem V_inj (f : Format) {a b : Nat} (h : V f a = V f b) : a = b := by
  rcases Nat.lt_trichotomy a b with c | c | c
  · have := V_mono f c; omega
  · exact c
  · have := V_mono f c; omega
theorem V_zero (f : Format) : V f 0 = 0 := by unfold V; rw [if_pos (binade_pos f)]
theorem rung_exact (f : Format) (m : Nat) (e : Int) (hm : m < 2 * f.binade) (he : f.leastPlace ≤ e)
    (hI : m ≠ 0 → (lastP f m e - f.leastPlace).toNat * f.binade + m * 2 ^ (e - lastP f m e).toNat ≤ f.infRung) :
    V f (rung f m e) = m * 2 ^ (e - f.leastPlace).toNat := by
  have hB := binade_pos f; unfold rung; by_cases h0 : m = 0
  · rw [if_pos h0, V_zero, h0, Nat.zero_mul]
  · rw [if_neg h0]
    have hI := hI h0
    have hl : m.log2 ≤ f.fractionBits := by
      have : m < 2 ^ (f.fractionBits + 1) := by rw [Nat.pow_succ]; unfold Format.binade at hm; omega
      have := (Nat.log2_lt h0).2 this; omega
    have hle : lastP f m e ≤ e := by unfold lastP; omega
    have hge : f.leastPlace ≤ lastP f m e := by unfold lastP; omega
    rw [show (lastP f m e - e).toNat = 0 by omega, Nat.pow_zero, rne_one, Nat.min_eq_left hI]
    
    have hk : m * 2 ^ (e - lastP f m e).toNat < 2 * f.binade := by
      have h1 : (e - lastP f m e).toNat ≤ f.fractionBits - m.log2 := by unfold lastP; omega
      have h2 : m * 2 ^ (e - lastP f m e).toNat ≤ m * 2 ^ (f.fractionBits - m.log2) := Nat.mul_le_mul_left _ (Nat.pow_le_pow_right (by omega) h1); have h3 : m < 2 ^ (m.log2 + 1) := Nat.lt_log2_self; have h4 : m * 2 ^ (f.fractionBits - m.log2) < 2 ^ (m.log2 + 1) * 2 ^ (f.fractionBits - m.log2) := Nat.mul_lt_mul_of_pos_right h3 (Nat.two_pow_pos _); rw [← Nat.pow_add, show m.log2 + 1 + (f.fractionBits - m.log2) = f.fractionBits + 1 by omega, Nat.pow_succ] at h4; unfold Format.binade; omega
    have hk2 : f.leastPlace < lastP f m e → f.binade ≤ m * 2 ^ (e - lastP f m e).toNat := by
      intro hlt; have h1 : (e - lastP f m e).toNat = f.fractionBits - m.log2 := by unfold lastP at *; omega
      rw [h1]; have h3 := Nat.log2_self_le h0; have h4 : 2 ^ m.log2 * 2 ^ (f.fractionBits - m.log2) ≤ m * 2 ^ (f.fractionBits - m.log2) := Nat.mul_le_mul_right _ h3; rw [← Nat.pow_add, show m.log2 + (f.fractionBits - m.log2) = f.fractionBits by omega] at h4; exact h4
    have hfin : m * 2 ^ (e - f.leastPlace).toNat = m * 2 ^ (e - lastP f m e).toNat * 2 ^ (lastP f m e - f.leastPlace).toNat := by
      rw [Nat.mul_assoc, ← Nat.pow_add]; congr 2; omega
    rw [hfin]; generalize m * 2 ^ (e - lastP f m e).toNat = k at *; generalize hd : (lastP f m e - f.leastPlace).toNat = d at *; by_cases c : k < f.binade
    · have hd0 : d = 0 := by
        rcases Nat.eq_zero_or_pos d with h | h
        · exact h
        · have := hk2 (by omega); omega
      rw [hd0, Nat.zero_mul, Nat.zero_add, Nat.pow_zero, Nat.mul_one]; unfold V; rw [if_pos c]
    · have e0 : d * f.binade + k = (k - f.binade) + f.binade * (d + 1) := by rw [Nat.mul_add, Nat.mul_comm]; omega
      unfold V; have hlt : ¬ d * f.binade + k < f.binade := by omega
      rw [if_neg hlt, e0, Nat.add_mul_mod_self_left, Nat.mod_eq_of_lt (by omega), Nat.add_mul_div_left _ _ hB, Nat.div_eq_of_lt (by omega), Nat.zero_add, Nat.add_sub_cancel]; congr 1; omega
def neg (f : Format) (w : Nat) : Bool := w / f.signWeight % 2 == 1
def siz (f : Format) (w : Nat) : Nat := w % f.signWeight
def isN (f : Format) (w : Nat) : Bool := f.infRung < siz f w
def sr (f : Format) (w : Nat) : Int := if neg f w then -(siz f w : Int) else (siz f w : Int)
theorem read_eq (f : Format) (w : Nat) : f.read w = if siz f w < f.binade then .number (neg f w) (siz f w) f.leastPlace
    else if siz f w < f.infRung then .number (neg f w) (f.binade + siz f w % f.binade) (f.leastPlace + (siz f w / f.binade - 1 : Nat))
    else if siz f w = f.infRung then .infinity (neg f w) else .nan (neg f w) (siz f w - f.infRung) := rfl
theorem inf_ge (f : Format) (h : 1 ≤ f.exponentBits) : f.binade ≤ f.infRung := by
  unfold Format.infRung; have : 2 ^ 1 ≤ 2 ^ f.exponentBits := Nat.pow_le_pow_right (by omega) h
  calc f.binade = 1 * f.binade := by omega
    _ ≤ _ := Nat.mul_le_mul_right _ (by omega)
theorem read_fin (f : Format) (w : Nat) (h : siz f w < f.infRung) : ∃ m e, f.read w = .number (neg f w) m e ∧ f.leastPlace ≤ e ∧ m < 2 * f.binade ∧ m * 2 ^ (e - f.leastPlace).toNat = V f (siz f w) := by
  have hB := binade_pos f; rw [read_eq]; by_cases c : siz f w < f.binade
  · rw [if_pos c]
    refine ⟨_, _, rfl, by omega, by omega, ?_⟩; rw [Int.sub_self]; unfold V; rw [if_pos c]; simp
  · rw [if_neg c, if_pos h]
    have ml := Nat.mod_lt (siz f w) hB; refine ⟨_, _, rfl, by omega, by omega, ?_⟩; unfold V; rw [if_neg c]
    congr 2; omega
theorem cmp_scale (a b : Int) (c : Nat) (hc : 0 < c) : compare (a * c) (b * c) = compare a b := by
  have hc' : (0 : Int) < c := by omega
  rw [Int.compare_eq_ite_le, Int.compare_eq_ite_le]; have e1 : a * c ≤ b * c ↔ a ≤ b := ⟨fun h => Int.le_of_mul_le_mul_right h hc', fun h => Int.mul_le_mul_of_nonneg_right h (by omega)⟩
  have e2 : b * c ≤ a * c ↔ b ≤ a := ⟨fun h => Int.le_of_mul_le_mul_right h hc', fun h => Int.mul_le_mul_of_nonneg_right h (by omega)⟩
  simp only [e1, e2]
def sg (s : Bool) (n : Nat) : Int := if s then -(n : Int) else n
theorem signed_eq (s : Bool) (m u : Nat) : signed s m u = sg s (m * 2 ^ u) := by
  unfold signed sg; rw [Nat.shiftLeft_eq]
theorem sg_mul (s : Bool) (n c : Nat) : sg s n * c = sg s (n * c) := by
  unfold sg; split
  · rw [Int.neg_mul]; simp
  · simp
theorem order_num (L : Int) (s t : Bool) (m n : Nat) (i j : Int) (hi : L ≤ i) (hj : L ≤ j) :
    (Datum.number s m i).order (Datum.number t n j) = some (compare (sg s (m * 2 ^ (i - L).toNat)) (sg t (n * 2 ^ (j - L).toNat))) := by
  show some (compare (signed s m (i - min i j).toNat) (signed t n (j - min i j).toNat)) = _
  congr 1
  rw [signed_eq, signed_eq]; have h := cmp_scale (sg s (m * 2 ^ (i - min i j).toNat)) (sg t (n * 2 ^ (j - min i j).toNat)) (2 ^ (min i j - L).toNat) (Nat.two_pow_pos _); rw [sg_mul, sg_mul, Nat.mul_assoc, Nat.mul_assoc, ← Nat.pow_add, ← Nat.pow_add, show (i - min i j).toNat + (min i j - L).toNat = (i - L).toNat by omega, show (j - min i j).toNat + (min i j - L).toNat = (j - L).toNat by omega] at h; exact h.symm
theorem cmp_sgV (f : Format) (s t : Bool) (a b : Nat) : compare (sg s (V f a)) (sg t (V f b)) = compare (sg s a) (sg t b) := by
  have z := V_zero f; have z0 : ∀ x, 0 < V f x ↔ 0 < x := fun x => by have := V_lt f (a := 0) (b := x); rw [z] at this; exact this
  have l1 := V_lt f (a := a) (b := b); have l2 := V_lt f (a := b) (b := a); have za := z0 a; have zb := z0 b; rw [Int.compare_eq_ite_le, Int.compare_eq_ite_le]; unfold sg
  have e1 : (if s = true then -(V f a : Int) else (V f a : Int)) ≤ (if t = true then -(V f b : Int) else (V f b : Int)) ↔ (if s = true then -(a : Int) else (a : Int)) ≤ (if t = true then -(b : Int) else (b : Int)) := by
    cases s <;> cases t <;> simp only [Bool.false_eq_true, ↓reduceIte] <;> omega
  have e2 : (if t = true then -(V f b : Int) else (V f b : Int)) ≤ (if s = true then -(V f a : Int) else (V f a : Int)) ↔ (if t = true then -(b : Int) else (b : Int)) ≤ (if s = true then -(a : Int) else (a : Int)) := by
    cases s <;> cases t <;> simp only [Bool.false_eq_true, ↓reduceIte] <;> omega
  simp only [e1, e2]
theorem sr_eq (f : Format) (w : Nat) : sr f w = sg (neg f w) (siz f w) := rfl
theorem order_eq (f : Format) (hE : 1 ≤ f.exponentBits) (x y : Nat) : f.order x y = if isN f x || isN f y then none else some (compare (sr f x) (sr f y)) := by
  unfold Format.order; have hI := inf_ge f hE; have hB := binade_pos f; by_cases nx : f.infRung < siz f x
  · have : f.read x = .nan (neg f x) (siz f x - f.infRung) := by rw [read_eq, if_neg (by omega), if_neg (by omega), if_neg (by omega)]
    rw [this, show isN f x = true from by simp [isN, nx]]; cases f.read y <;> rfl
  have e1 : isN f x = false := by simp [isN]; omega
  by_cases ny : f.infRung < siz f y
  · have : f.read y = .nan (neg f y) (siz f y - f.infRung) := by rw [read_eq, if_neg (by omega), if_neg (by omega), if_neg (by omega)]
    rw [this, show isN f y = true from by simp [isN, ny], e1]; cases f.read x <;> rfl
  have e2 : isN f y = false := by simp [isN]; omega
  rw [e1, e2]; simp only [Bool.or_self, Bool.false_eq_true, ↓reduceIte]; by_cases fx : siz f x < f.infRung
  · obtain ⟨m, i, hm, hi, -, vm⟩ := read_fin f x fx
    by_cases fy : siz f y < f.infRung
    · obtain ⟨n, j, hn, hj, -, vn⟩ := read_fin f y fy
      rw [hm, hn, order_num f.leastPlace _ _ _ _ _ _ hi hj, vm, vn, cmp_sgV]; rfl
    · have : f.read y = .infinity (neg f y) := by rw [read_eq, if_neg (by omega), if_neg (by omega), if_pos (by omega)]
      rw [hm, this]; show some _ = _
      congr 1
      rw [sr_eq, sr_eq]; symm
      rw [Int.compare_eq_ite_le]; unfold sg
      cases neg f x <;> cases neg f y <;> simp only [Bool.false_eq_true, ↓reduceIte] <;> (split <;> first | (split <;> first | omega | rfl) | omega | rfl)
  · have hx : f.read x = .infinity (neg f x) := by rw [read_eq, if_neg (by omega), if_neg (by omega), if_pos (by omega)]
    by_cases fy : siz f y < f.infRung
    · obtain ⟨n, j, hn, hj, -, vn⟩ := read_fin f y fy
      rw [hx, hn]; show some _ = _
      congr 1
      rw [sr_eq, sr_eq]; symm
      rw [Int.compare_eq_ite_le]; unfold sg
      cases neg f x <;> cases neg f y <;> simp only [Bool.false_eq_true, ↓reduceIte] <;> (split <;> first | (split <;> first | omega | rfl) | omega | rfl)
    · have hy : f.read y = .infinity (neg f y) := by rw [read_eq, if_neg (by omega), if_neg (by omega), if_pos (by omega)]
      rw [hx, hy]; show some (compare (neg f y).toNat (neg f x).toNat) = _
      congr 1
      rw [sr_eq, sr_eq, show siz f x = f.infRung by omega, show siz f y = f.infRung by omega]; symm
      rw [Int.compare_eq_ite_le]; unfold sg
      have : (0 : Int) < f.infRung := by omega
      cases neg f x <;> cases neg f y <;> simp only [Bool.false_eq_true, ↓reduceIte, Bool.toNat_true, Bool.toNat_false] <;> (split <;> first | (split <;> first | omega | rfl) | omega | rfl)
end Go.Proofs.YtkhhhceeoljheaaGreatDoor.Fl
namespace Go.Proofs.YtkhhhceeoljheaaGreatDoor.Fl
open Ieee
theorem siz_word (f : Format) (s : Bool) (r : Nat) (h : r < f.signWeight) : siz f (f.word s r) = r := by
  unfold siz Format.word; cases s
  · simp only [Bool.false_eq_true, ↓reduceIte]; exact Nat.mod_eq_of_lt h
  · simp only [↓reduceIte]; rw [Nat.add_mod_left]; exact Nat.mod_eq_of_lt h
theorem neg_word (f : Format) (s : Bool) (r : Nat) (h : r < f.signWeight) : neg f (f.word s r) = s := by
  have hp : 0 < f.signWeight := Nat.two_pow_pos _; unfold neg Format.word; cases s
  · simp only [Bool.false_eq_true, ↓reduceIte]; rw [Nat.div_eq_of_lt h]; rfl
  · simp only [↓reduceIte]; rw [Nat.add_div_left _ hp, Nat.div_eq_of_lt h]; rfl
theorem word_eq (f : Format) (w : Nat) (h : w < 2 * f.signWeight) : f.word (neg f w) (siz f w) = w := by
  have hp : 0 < f.signWeight := Nat.two_pow_pos _; unfold neg siz Format.word; have d := Nat.div_add_mod w f.signWeight; have hq : w / f.signWeight < 2 := (Nat.div_lt_iff_lt_mul hp).2 h; generalize w / f.signWeight = q at *; have : q = 0 ∨ q = 1 := by omega
  rcases this with rfl | rfl
  · simp; omega
  · simp; omega
theorem sB : single.binade = 8388608 := by decide
theorem sI : single.infRung = 2139095040 := by decide
theorem sS : single.signWeight = 2147483648 := by decide
theorem sL : single.leastPlace = -149 := by decide
theorem dB : double.binade = 4503599627370496 := by decide
theorem dI : double.infRung = 9218868437227405312 := by decide
theorem dS : double.signWeight = 9223372036854775808 := by decide
theorem dL : double.leastPlace = -1074 := by decide
theorem dP : double.fractionBits = 52 := rfl
theorem sP : single.fractionBits = 23 := rfl
theorem log2_lt_pow {m k : Nat} (h : m < 2 ^ (k + 1)) : m.log2 ≤ k := by
  by_cases h0 : m = 0
  · rw [h0]; have : Nat.log2 0 = 0 := by decide
    omega
  · have := (Nat.log2_lt h0).2 h; omega
theorem fits_double (m : Nat) (e : Int) (hm : m < 16777216) (he : -149 ≤ e) (he2 : e ≤ 104) :
    (lastP double m e - double.leastPlace).toNat * double.binade + m * 2 ^ (e - lastP double m e).toNat ≤ double.infRung - 1 ∧ lastP double m e ≤ e := by
  have hl : m.log2 ≤ 23 := log2_lt_pow (by omega); have h1 : lastP double m e = e + m.log2 - 52 := by unfold lastP; rw [dP, dL]; omega
  rw [h1, dL, dB, dI, show (e - (e + m.log2 - 52)).toNat = 52 - m.log2 by omega]
  have h2 : m * 2 ^ (52 - m.log2) ≤ 2 ^ 53 := by
    have h3 : m < 2 ^ (m.log2 + 1) := Nat.lt_log2_self; have h4 : m * 2 ^ (52 - m.log2) ≤ 2 ^ (m.log2 + 1) * 2 ^ (52 - m.log2) := Nat.mul_le_mul_right _ (by omega); rw [← Nat.pow_add, show m.log2 + 1 + (52 - m.log2) = 53 by omega] at h4; exact h4
  generalize m * 2 ^ (52 - m.log2) = z at *; have h5 : (2 : Nat) ^ 53 = 9007199254740992 := rfl; rw [h5] at h2; constructor
  · have : (e + m.log2 - 52 - -1074).toNat ≤ 1149 := by omega
    generalize (e + m.log2 - 52 - -1074).toNat = y at *; omega
  · omega
theorem gap_ex : ∃ g : Nat, 0 < g ∧ ∀ (m : Nat) (e : Int), -149 ≤ e → m * 2 ^ (e - -1074).toNat = m * 2 ^ (e + 149).toNat * g := by
  obtain ⟨k, hk⟩ : ∃ k : Nat, k = 925 := ⟨_, rfl⟩
  refine ⟨2 ^ k, Nat.two_pow_pos _, fun m e he => ?_⟩; rw [Nat.mul_assoc, ← Nat.pow_add, show (e - -1074).toNat = (e + 149).toNat + k by omega]
noncomputable def gap : Nat := Classical.choose gap_ex
theorem gap_pos : 0 < gap := (Classical.choose_spec gap_ex).1
theorem gap_mul (m : Nat) (e : Int) (he : -149 ≤ e) : m * 2 ^ (e - -1074).toNat = m * 2 ^ (e + 149).toNat * gap := (Classical.choose_spec gap_ex).2 m e he
def wide (w : Nat) : Nat := double.write (single.read w)
theorem single_read_bounds (w : Nat) (h : siz single w < single.infRung) : ∃ m e, single.read w = .number (neg single w) m e ∧ -149 ≤ e ∧ e ≤ 104 ∧ m < 16777216 ∧ m * 2 ^ (e + 149).toNat = V single (siz single w) := by
  have hB := sB; have hI := sI; rw [read_eq]; by_cases c : siz single w < single.binade
  · rw [if_pos c]
    refine ⟨_, _, rfl, by rw [sL]; omega, by rw [sL]; omega, by omega, ?_⟩; rw [sL]; unfold V; rw [if_pos c]; simp
  · rw [if_neg c, if_pos h]
    have ml := Nat.mod_lt (siz single w) (binade_pos single); rw [sB] at ml c ⊢; refine ⟨_, _, rfl, by rw [sL]; omega, by rw [sL]; omega, by omega, ?_⟩; unfold V; rw [sB, if_neg c, sL]
    congr 2; omega
theorem rung_double_lt (m : Nat) (e : Int) (hm : m < 16777216) (he : -149 ≤ e) (he2 : e ≤ 104) : rung double m e < 9218868437227405312 := by
  obtain ⟨h1, h2⟩ := fits_double m e hm he he2; rw [dI] at h1; unfold rung; split
  · omega
  · rw [Int.toNat_of_nonpos (Int.sub_nonpos_of_le h2), Nat.pow_zero, rne_one, dI]
    generalize (lastP double m e - double.leastPlace).toNat * double.binade + m * 2 ^ (e - lastP double m e).toNat = z at *; omega
theorem rung_double_V (m : Nat) (e : Int) (hm : m < 16777216) (he : -149 ≤ e) (he2 : e ≤ 104) : V double (rung double m e) = m * 2 ^ (e + 149).toNat * gap := by
  obtain ⟨h1, h2⟩ := fits_double m e hm he he2; have h3 := rung_exact double m e (by rw [dB]; omega) (by rw [dL]; omega) (fun _ => Nat.le_trans h1 (Nat.sub_le _ _)); rw [h3, dL]; exact gap_mul m e he
theorem wide_fin (w : Nat) (h : siz single w < single.infRung) : neg double (wide w) = neg single w ∧ siz double (wide w) < double.infRung ∧ V double (siz double (wide w)) = V single (siz single w) * gap := by
  obtain ⟨m, e, hr, he, he2, hm, hv⟩ := single_read_bounds w h; have hlt := rung_double_lt m e hm he he2; have hV := rung_double_V m e hm he he2
  have hw : wide w = double.word (neg single w) (rung double m e) := by
    unfold wide; rw [hr]; exact nearest_eq ..
  generalize rung double m e = r at *; have hS : r < double.signWeight := by rw [dS]; omega
  rw [hw, neg_word _ _ _ hS, siz_word _ _ _ hS]; refine ⟨rfl, by rw [dI]; exact hlt, ?_⟩; rw [hV, hv]
theorem wide_inf (w : Nat) (h : siz single w = single.infRung) : neg double (wide w) = neg single w ∧ siz double (wide w) = double.infRung := by
  have hr : single.read w = .infinity (neg single w) := by
    rw [read_eq, if_neg (by have := inf_ge single (by decide); omega), if_neg (by omega), if_pos h]
  have hS : double.infRung < double.signWeight := by rw [dI, dS]; omega
  have hw : wide w = double.word (neg single w) double.infRung := by unfold wide; rw [hr]; rfl
  rw [hw, neg_word _ _ _ (by omega), siz_word _ _ _ (by omega)]; exact ⟨rfl, rfl⟩
theorem wide_isN (w : Nat) (h : isN single w = false) : isN double (wide w) = false := by
  have hn : ¬ single.infRung < siz single w := by simpa [isN] using h
  by_cases c : siz single w < single.infRung
  · have := (wide_fin w c).2.1; simp [isN]; omega
  · have := (wide_inf w (by omega)).2; simp [isN]; omega
theorem wide_lt (x y : Nat) (hx : isN single x = false) (hy : isN single y = false) : siz double (wide x) < siz double (wide y) ↔ siz single x < siz single y := by
  have nx : ¬ single.infRung < siz single x := by simpa [isN] using hx
  have ny : ¬ single.infRung < siz single y := by simpa [isN] using hy
  by_cases cx : siz single x < single.infRung
  · obtain ⟨-, lx, vx⟩ := wide_fin x cx
    by_cases cy : siz single y < single.infRung
    · obtain ⟨-, ly, vy⟩ := wide_fin y cy
      rw [← V_lt double, vx, vy]; exact (Nat.mul_lt_mul_right gap_pos).trans (V_lt single)
    · have := (wide_inf y (by omega)).2; omega
  · have ix := (wide_inf x (by omega)).2
    by_cases cy : siz single y < single.infRung
    · have := (wide_fin y cy).2.1; omega
    · have := (wide_inf y (by omega)).2; omega
theorem wide_neg (x : Nat) (hx : isN single x = false) : neg double (wide x) = neg single x := by
  have nx : ¬ single.infRung < siz single x := by simpa [isN] using hx
  by_cases cx : siz single x < single.infRung
  · exact (wide_fin x cx).1
  · exact (wide_inf x (by omega)).1
theorem wide_zero (x : Nat) (hx : isN single x = false) : siz double (wide x) = 0 ↔ siz single x = 0 := by
  have nx : ¬ single.infRung < siz single x := by simpa [isN] using hx
  have hI := sI; have hD := dI; by_cases cx : siz single x < single.infRung
  · obtain ⟨-, lx, vx⟩ := wide_fin x cx
    constructor
    · intro h
      rw [h, V_zero] at vx
      have : V single (siz single x) = 0 := by
        rcases Nat.eq_zero_or_pos (V single (siz single x)) with c | c
        · exact c
        · have := Nat.mul_pos c gap_pos; omega
      have := V_inj single (a := siz single x) (b := 0) (by rw [this, V_zero]); exact this
    · intro h
      rw [h, V_zero, Nat.zero_mul] at vx; exact V_inj double (a := siz double (wide x)) (b := 0) (by rw [vx, V_zero])
  · have ix := (wide_inf x (by omega)).2; omega
theorem order_wide (x y : Nat) (hx : isN single x = false) (hy : isN single y = false) : double.order (wide x) (wide y) = single.order x y := by
  rw [order_eq double (by decide), order_eq single (by decide), wide_isN x hx, wide_isN y hy, hx, hy]; simp only [Bool.or_self, Bool.false_eq_true, ↓reduceIte]; congr 1
  rw [sr_eq, sr_eq, sr_eq, sr_eq, wide_neg x hx, wide_neg y hy]; have l1 := wide_lt x y hx hy; have l2 := wide_lt y x hy hx; have z1 := wide_zero x hx; have z2 := wide_zero y hy; rw [Int.compare_eq_ite_le, Int.compare_eq_ite_le]; generalize siz double (wide x) = a at *; generalize siz double (wide y) = b at *; generalize siz single x = c at *; generalize siz single y = d at *
  have e1 : sg (neg single x) a ≤ sg (neg single y) b ↔ sg (neg single x) c ≤ sg (neg single y) d := by
    unfold sg; cases neg single x <;> cases neg single y <;> simp only [Bool.false_eq_true, ↓reduceIte] <;> omega
  have e2 : sg (neg single y) b ≤ sg (neg single x) a ↔ sg (neg single y) d ≤ sg (neg single x) c := by
    unfold sg; cases neg single x <;> cases neg single y <;> simp only [Bool.false_eq_true, ↓reduceIte] <;> omega
  simp only [e1, e2]
end Go.Proofs.YtkhhhceeoljheaaGreatDoor.Fl
namespace Go.Proofs.YtkhhhceeoljheaaGreatDoor.Fl
open Ieee
theorem log2_zero : Nat.log2 0 = 0 := by decide
theorem rung_jam' (f : Format) (n j : Nat) (e : Int) (h : n % 2 ^ j = 0 ∨ f.fractionBits + 2 ≤ (jam n j).log2) : rung f (jam n j) (e + j) = rung f n e := by
  rcases h with h | h
  · have e1 : n = jam n j * 2 ^ j := by
      unfold jam; rw [if_pos h]
      have := Nat.div_add_mod n (2 ^ j); rw [h, Nat.add_zero, Nat.mul_comm] at this; exact this.symm
    have := rung_scale f (jam n j) j (e + j); rw [← e1, show e + j - j = e by omega] at this; exact this.symm
  · exact rung_jam f n j e h
theorem sticky_jam (q2 j : Nat) (s2 : Bool) : 2 * (q2 / 2 ^ j) + (s2 || q2 % 2 ^ j != 0).toNat = jam (2 * q2 + s2.toNat) j := by
  have hj := Nat.two_pow_pos j
  have d : (2 * q2 + s2.toNat) / 2 ^ j = 2 * (q2 / 2 ^ j) + (2 * (q2 % 2 ^ j) + s2.toNat) / 2 ^ j := by
    have a2 := Nat.div_add_mod q2 (2 ^ j); conv => lhs; rw [← a2]
    rw [Nat.mul_add, Nat.mul_left_comm, Nat.add_assoc, Nat.mul_add_div hj]
  have m : (2 * q2 + s2.toNat) % 2 ^ j = (2 * (q2 % 2 ^ j) + s2.toNat) % 2 ^ j := by
    have a2 := Nat.div_add_mod q2 (2 ^ j); conv => lhs; rw [← a2]
    rw [Nat.mul_add, Nat.mul_left_comm, Nat.add_assoc, Nat.mul_add_mod]
  have hr := Nat.mod_lt q2 hj; unfold jam; rw [d, m]; generalize q2 / 2 ^ j = q at *; generalize q2 % 2 ^ j = r at *; generalize 2 ^ j = J at *; have hs : s2.toNat ≤ 1 := by cases s2 <;> simp
  have hlt : 2 * r + s2.toNat < 2 * J := by omega
  have h01 : (2 * r + s2.toNat) / J = 0 ∨ (2 * r + s2.toNat) / J = 1 := by
    have : (2 * r + s2.toNat) / J < 2 := (Nat.div_lt_iff_lt_mul hj).2 (by omega); generalize (2 * r + s2.toNat) / J = u at *; omega
  have hdm := Nat.div_add_mod (2 * r + s2.toNat) J; generalize (2 * r + s2.toNat) % J = z at *; rcases h01 with h | h
  · rw [h] at hdm ⊢
    rw [Nat.mul_zero, Nat.zero_add] at hdm; by_cases c : r = 0
    · cases s2
      · rw [if_pos (by rw [hdm, c]; rfl)]; simp [c]
      · rw [if_neg (by rw [hdm, c]; simp)]; simp [c]
    · rw [if_neg (by omega)]
      have : (r != 0) = true := by simpa using c
      rw [this]; simp
  · rw [h] at hdm ⊢
    rw [Nat.mul_one] at hdm; by_cases c : r = 0
    · subst c
      have : J = 1 := by omega
      have : s2 = true := by
        cases s2
        · rw [show false.toNat = 0 from rfl] at hlt hdm; omega
        · rfl
      subst this; have hz : z = 0 := by rw [show true.toNat = 1 from rfl] at hdm; omega
      rw [if_pos hz]; simp
    · have : (r != 0) = true := by simpa using c
      rw [this]; simp; omega
theorem log2_mono {a b : Nat} (h : a ≤ b) : a.log2 ≤ b.log2 := by
  by_cases h0 : a = 0
  · rw [h0, log2_zero]; omega
  · exact (Nat.le_log2 (by omega)).2 (Nat.le_trans (Nat.log2_self_le h0) h)
theorem rung_sticky' (f : Format) (q2 j : Nat) (s2 : Bool) (e : Int) (h : f.fractionBits + 1 ≤ (q2 / 2 ^ j).log2) :
    rung f (2 * (q2 / 2 ^ j) + (s2 || q2 % 2 ^ j != 0).toNat) (e + j) = rung f (2 * q2 + s2.toNat) e := by
  have hne : q2 / 2 ^ j ≠ 0 := by intro h0; rw [h0, log2_zero] at h; omega
  have hl : f.fractionBits + 2 ≤ (jam (2 * q2 + s2.toNat) j).log2 := by
    rw [← sticky_jam]; have := log2_mono (show 2 * (q2 / 2 ^ j) ≤ 2 * (q2 / 2 ^ j) + (s2 || q2 % 2 ^ j != 0).toNat by omega); rw [Nat.log2_two_mul hne] at this; omega
  rw [sticky_jam]; exact rung_jam f _ j e hl
theorem jam_add (x n j : Nat) : 2 * x + jam n j = jam (2 * x * 2 ^ j + n) j := by
  have hj := Nat.two_pow_pos j; unfold jam; rw [Nat.mul_comm (2 * x), Nat.mul_add_mod, Nat.mul_add_div hj]; split <;> omega
theorem jam_sub (x n j : Nat) (h : n ≤ 2 * x * 2 ^ j) : 2 * x - jam n j = jam (2 * x * 2 ^ j - n) j := by
  have hj := Nat.two_pow_pos j; have d := Nat.div_add_mod n (2 ^ j); have ml := Nat.mod_lt n hj; unfold jam; by_cases c : n % 2 ^ j = 0
  · rw [if_pos c]
    rw [c, Nat.add_zero] at d; have e1 : 2 * x * 2 ^ j - n = 2 ^ j * (2 * x - n / 2 ^ j) := by rw [Nat.mul_sub, d, Nat.mul_comm]
    rw [e1, Nat.mul_mod_right, if_pos rfl, Nat.mul_div_cancel_left _ hj]
  · rw [if_neg c]
    have hq : n / 2 ^ j < 2 * x := (Nat.div_lt_iff_lt_mul hj).2 (by
      rcases Nat.lt_or_ge n (2 * x * 2 ^ j) with h1 | h1
      · exact h1
      · have : n = 2 * x * 2 ^ j := by omega
        rw [this, Nat.mul_mod_left] at c; exact absurd rfl c)
    obtain ⟨u, hu⟩ : ∃ u, 2 * x = n / 2 ^ j + 1 + u := ⟨2 * x - n / 2 ^ j - 1, by omega⟩
    have e1 : 2 * x * 2 ^ j - n = 2 ^ j * u + (2 ^ j - n % 2 ^ j) := by
      rw [hu, Nat.mul_comm, Nat.mul_add, Nat.mul_add, Nat.mul_one]; generalize 2 ^ j * (n / 2 ^ j) = p at *; generalize 2 ^ j * u = v; omega
    have hs : 2 ^ j - n % 2 ^ j < 2 ^ j := by omega
    rw [e1, Nat.mul_add_mod, Nat.mul_add_div hj, Nat.mod_eq_of_lt hs, Nat.div_eq_of_lt hs, if_neg (by omega), hu]; generalize n / 2 ^ j = p at *; omega
theorem rung_add (f : Format) (x y k : Nat) (e : Int) (hx : k = 0 ∨ f.binade ≤ x) : rung f (x * 2 ^ 10 + jam (y * 2 ^ 10) k) (e - 10) = rung f (x * 2 ^ k + y) (e - k) := by
  have e1 : x * 2 ^ 10 + jam (y * 2 ^ 10) k = jam (x * 2 ^ 10 * 2 ^ k + y * 2 ^ 10) k := by
    have := jam_add (x * 512) (y * 2 ^ 10) k; rw [show 2 * (x * 512) = x * 2 ^ 10 by omega] at this; exact this
  have e2 : x * 2 ^ 10 * 2 ^ k + y * 2 ^ 10 = (x * 2 ^ k + y) * 2 ^ 10 := by rw [Nat.add_mul, Nat.mul_right_comm]
  rw [e1, e2]
  have h1 := rung_jam' f ((x * 2 ^ k + y) * 2 ^ 10) k (e - 10 - k) (by
    rcases hx with hx | hx
    · left; rw [hx]; exact Nat.mod_one _
    · right
      rw [← e2, ← e1]; have h2 : f.binade * 2 ^ 10 ≤ x * 2 ^ 10 + jam (y * 2 ^ 10) k := Nat.le_trans (Nat.mul_le_mul_right _ hx) (Nat.le_add_right _ _); have h3 := log2_mono h2; rw [log2_pow _ _ (by have := binade_pos f; omega)] at h3; unfold Format.binade at h3; rw [Nat.log2_two_pow] at h3; omega)
  rw [show e - 10 - k + (k : Int) = e - 10 by omega] at h1; rw [h1, ← rung_scale f (x * 2 ^ k + y) 10 (e - k)]; congr 1; omega
theorem rung_sub (f : Format) (x y k : Nat) (e : Int) (hx : k = 0 ∨ f.binade ≤ x) (hy : y < 2 * f.binade) (hP : 4 ≤ f.fractionBits) (hle : y ≤ x * 2 ^ k) : rung f (x * 2 ^ 10 - jam (y * 2 ^ 10) k) (e - 10) = rung f (x * 2 ^ k - y) (e - k) := by
  have hle2 : y * 2 ^ 10 ≤ x * 2 ^ 10 * 2 ^ k := by rw [Nat.mul_right_comm]; exact Nat.mul_le_mul_right _ hle
  have e1 : x * 2 ^ 10 - jam (y * 2 ^ 10) k = jam (x * 2 ^ 10 * 2 ^ k - y * 2 ^ 10) k := by
    have := jam_sub (x * 512) (y * 2 ^ 10) k; rw [show 2 * (x * 512) = x * 2 ^ 10 by omega] at this; exact this hle2
  have e2 : x * 2 ^ 10 * 2 ^ k - y * 2 ^ 10 = (x * 2 ^ k - y) * 2 ^ 10 := by rw [Nat.sub_mul, Nat.mul_right_comm]
  rw [e1, e2]
  have h1 := rung_jam' f ((x * 2 ^ k - y) * 2 ^ 10) k (e - 10 - k) (by
    by_cases hk : k ≤ 10
    · left
      rw [show 10 = (10 - k) + k by omega, Nat.pow_add, ← Nat.mul_assoc, Nat.mul_mod_left]
    · right
      rcases hx with hx | hx
      · omega
      rw [← e2, ← e1]; have hB : f.binade = 2 ^ f.fractionBits := rfl; have hb : 2 ^ 4 ≤ 2 ^ f.fractionBits := Nat.pow_le_pow_right (by omega) hP
      have h2 : jam (y * 2 ^ 10) k ≤ f.binade + 1 := by
        refine Nat.le_trans (jam_le _ _).2 ?_
        have h3 : y * 2 ^ 10 / 2 ^ k ≤ f.binade := by
          refine Nat.le_trans (Nat.div_le_div_left (Nat.pow_le_pow_right (by omega) (show 11 ≤ k by omega)) (by omega)) ?_; rw [Nat.div_le_iff_le_mul_add_pred (by omega)]; omega
        omega
      have h4 : f.binade * 4 ≤ x * 2 ^ 10 - jam (y * 2 ^ 10) k := by omega
      have h5 := log2_mono h4; rw [show 4 = 2 ^ 2 from rfl, log2_pow _ _ (by have := binade_pos f; omega), hB, Nat.log2_two_pow] at h5; exact h5)
  rw [show e - 10 - k + (k : Int) = e - 10 by omega] at h1; rw [h1, ← rung_scale f (x * 2 ^ k - y) 10 (e - k)]; congr 1; omega
end Go.Proofs.YtkhhhceeoljheaaGreatDoor.Fl
namespace Go.Proofs.YtkhhhceeoljheaaGreatDoor.Fl
open Ieee
theorem rung_div (f : Format) (N n j : Nat) (e : Int) (hn : 0 < n) (hq : f.fractionBits + 1 ≤ (N / n).log2) :
    rung f (2 * (N * 2 ^ j / n) + (N * 2 ^ j % n != 0).toNat) (e - j) = rung f (2 * (N / n) + (N % n != 0).toNat) e := by
  have hj := Nat.two_pow_pos j
  have q1 : N * 2 ^ j / n / 2 ^ j = N / n := by
    rw [Nat.div_div_eq_div_mul, Nat.mul_comm n, ← Nat.div_div_eq_div_mul, Nat.mul_div_cancel _ hj]
  have st : ((N * 2 ^ j % n != 0) || (N * 2 ^ j / n % 2 ^ j != 0)) = (N % n != 0) := by
    have d := Nat.div_add_mod N n; have d2 := Nat.div_add_mod (N * 2 ^ j) n; rw [Bool.eq_iff_iff]; simp only [Bool.or_eq_true, bne_iff_ne, ne_eq]; constructor
    · intro h c
      rw [c, Nat.add_zero] at d; have e1 : N * 2 ^ j = n * (N / n * 2 ^ j) := by rw [← Nat.mul_assoc, d]
      rcases h with h | h
      · exact h (by rw [e1, Nat.mul_mod_right])
      · exact h (by rw [e1, Nat.mul_div_cancel_left _ hn, Nat.mul_mod_left])
    · intro h
      by_cases c : N * 2 ^ j % n = 0
      · right
        intro c2; have d3 := Nat.div_add_mod (N * 2 ^ j / n) (2 ^ j); rw [c2, Nat.add_zero] at d3; rw [c, Nat.add_zero, ← d3, Nat.mul_left_comm, Nat.mul_comm N] at d2; have := Nat.eq_of_mul_eq_mul_left hj d2; exact h (by rw [← this, Nat.mul_mod_right])
      · left; exact c
  have h := rung_sticky' f (N * 2 ^ j / n) j (N * 2 ^ j % n != 0) (e - j) (by rw [q1]; exact hq); rw [q1, st, show e - j + (j : Int) = e by omega] at h; exact h.symm
def IsRoot (n w : Nat) : Prop := w * w ≤ n ∧ n < (w + 1) * (w + 1)
theorem root_lt {n w v : Nat} (h : w * w ≤ n) (h2 : n < (v + 1) * (v + 1)) : w ≤ v := by
  apply Classical.byContradiction
  intro c; have := Nat.mul_le_mul (show v + 1 ≤ w by omega) (show v + 1 ≤ w by omega); omega
theorem root_unique {n w v : Nat} (h : IsRoot n w) (h2 : IsRoot n v) : w = v :=
  Nat.le_antisymm (root_lt h.1 h2.2) (root_lt h2.1 h.2)
theorem rung_root (f : Format) (n j w w2 : Nat) (e : Int) (hw : IsRoot n w) (hw2 : IsRoot (n * (2 ^ j * 2 ^ j)) w2) (hq : f.fractionBits + 1 ≤ w.log2) :
    rung f (2 * w2 + (w2 * w2 != n * (2 ^ j * 2 ^ j)).toNat) (e - j) = rung f (2 * w + (w * w != n).toNat) e := by
  have hj := Nat.two_pow_pos j
  have q1 : w2 / 2 ^ j = w := by
    refine root_unique (n := n) ⟨?_, ?_⟩ hw
    · have h1 := Nat.div_mul_le_self w2 (2 ^ j)
      have h2 := Nat.mul_le_mul h1 h1; have h3 := Nat.le_trans h2 hw2.1; rw [Nat.mul_mul_mul_comm] at h3; exact Nat.le_of_mul_le_mul_right h3 (Nat.mul_pos hj hj)
    · have h1 : w2 + 1 ≤ (w2 / 2 ^ j + 1) * 2 ^ j := Nat.lt_mul_of_div_lt (Nat.lt_succ_self _) hj
      have h2 := Nat.mul_le_mul h1 h1; rw [Nat.mul_mul_mul_comm] at h2; exact Nat.lt_of_mul_lt_mul_right (Nat.lt_of_lt_of_le hw2.2 h2)
  have st : ((w2 * w2 != n * (2 ^ j * 2 ^ j)) || (w2 % 2 ^ j != 0)) = (w * w != n) := by
    have d := Nat.div_add_mod w2 (2 ^ j); rw [q1] at d; rw [Bool.eq_iff_iff]; simp only [Bool.or_eq_true, bne_iff_ne, ne_eq]; constructor
    · intro h c
      have e1 : (w * 2 ^ j) * (w * 2 ^ j) = n * (2 ^ j * 2 ^ j) := by rw [Nat.mul_mul_mul_comm, c]
      have e2 : w2 = w * 2 ^ j := by
        refine root_unique hw2 ⟨Nat.le_of_eq e1, ?_⟩; rw [← e1]; exact Nat.mul_lt_mul_of_lt_of_le (Nat.lt_succ_self _) (by omega) (by omega)
      rcases h with h | h
      · exact h (by rw [e2]; exact e1)
      · exact h (by rw [e2, Nat.mul_mod_left])
    · intro h
      by_cases c : w2 * w2 = n * (2 ^ j * 2 ^ j)
      · right
        intro c2; rw [c2, Nat.add_zero] at d; rw [← d, Nat.mul_mul_mul_comm, Nat.mul_comm] at c; exact h (Nat.eq_of_mul_eq_mul_right (Nat.mul_pos hj hj) c)
      · left; exact c
  have h := rung_sticky' f w2 j (w2 * w2 != n * (2 ^ j * 2 ^ j)) (e - j) (by rw [q1]; exact hq); rw [q1, st, show e - j + (j : Int) = e by omega] at h; exact h.symm
theorem rootFrom_is (n : Nat) : ∀ (t r : Nat), r % 2 ^ t = 0 → r * r ≤ n → n < (r + 2 ^ t) * (r + 2 ^ t) → IsRoot n (Datum.rootFrom n t r)
  | 0, r, _, h1, h2 => ⟨h1, h2⟩
  | t + 1, r, h0, h1, h2 => by
    have hp : 2 ^ (t + 1) = 2 ^ t + 2 ^ t := by rw [Nat.pow_succ]; omega
    have hr : r % 2 ^ t = 0 := by
      have := Nat.mod_mod_of_dvd r (show 2 ^ t ∣ 2 ^ (t + 1) from ⟨2, by rw [Nat.pow_succ]⟩); rw [h0, Nat.zero_mod] at this; exact this.symm
    unfold Datum.rootFrom; dsimp only; rw [Nat.shiftLeft_eq, Nat.one_mul]; split
    · rename_i c
      refine rootFrom_is n t _ ?_ c ?_
      · rw [Nat.add_mod, hr, Nat.mod_self]; rfl
      · rw [Nat.add_assoc, ← hp]; exact h2
    · rename_i c
      exact rootFrom_is n t r hr h1 (by omega)
theorem root_is (n : Nat) : IsRoot n (Datum.rootFrom n (n.log2 / 2 + 1) 0) := by
  refine rootFrom_is n _ 0 (Nat.zero_mod _) (by omega) ?_; rw [Nat.zero_add, ← Nat.pow_add]; have : n < 2 ^ (n.log2 + 1) := Nat.lt_log2_self; exact Nat.lt_of_lt_of_le this (Nat.pow_le_pow_right (by omega) (by omega))
theorem jam_wide (hi lo j : Nat) (hj : j < 64) : jam (hi * 2 ^ 64 + lo) j = hi * 2 ^ (64 - j) + jam lo j := by
  have hp := Nat.two_pow_pos j
  have e1 : hi * 2 ^ 64 = 2 * (hi * 2 ^ (64 - j - 1)) * 2 ^ j := by
    rw [show (2 : Nat) ^ 64 = 2 ^ (64 - j - 1) * 2 * 2 ^ j by rw [← Nat.pow_succ, ← Nat.pow_add]; congr 1; omega]; rw [← Nat.mul_assoc, ← Nat.mul_assoc, Nat.mul_comm 2, Nat.mul_assoc hi]
  have e2 : hi * 2 ^ (64 - j) = 2 * (hi * 2 ^ (64 - j - 1)) := by
    rw [show (2 : Nat) ^ (64 - j) = 2 ^ (64 - j - 1) * 2 by rw [← Nat.pow_succ]; congr 1; omega]; rw [← Nat.mul_assoc, Nat.mul_comm]
  rw [e1, e2, jam_add]
end Go.Proofs.YtkhhhceeoljheaaGreatDoor.Fl
namespace Go.Proofs.YtkhhhceeoljheaaGreatDoor.Fl
open Ieee
theorem rne_close (n g : Nat) (hg : 0 < g) : 2 * n ≤ 2 * (rne n g * g) + g ∧ 2 * (rne n g * g) ≤ 2 * n + g := by
  have d := Nat.div_add_mod n g; have ml := Nat.mod_lt n hg; unfold rne; split
  · rename_i h
    rw [Nat.add_mul, Nat.mul_comm (n / g), Nat.one_mul]; generalize g * (n / g) = z at *; omega
  · rename_i h
    rw [Nat.add_zero, Nat.mul_comm (n / g)]; generalize g * (n / g) = z at *; omega
theorem rne_of_close (n g K : Nat) (h1 : 2 * n < 2 * (K * g) + g) (h2 : 2 * (K * g) < 2 * n + g) : rne n g = K := by
  have hg : 0 < g := by omega
  obtain ⟨c1, c2⟩ := rne_close n g hg; rcases Nat.lt_trichotomy (rne n g) K with c | c | c
  · have := Nat.mul_le_mul_right g (show rne n g + 1 ≤ K by omega)
    rw [Nat.add_mul, Nat.one_mul] at this; omega
  · exact c
  · have := Nat.mul_le_mul_right g (show K + 1 ≤ rne n g by omega)
    rw [Nat.add_mul, Nat.one_mul] at this; omega
theorem rne_half (n g : Nat) (hg : 0 < g) (h : 2 * n = 2 * (rne n g * g) + g ∨ 2 * (rne n g * g) = 2 * n + g) : 2 * (n % g) = g := by
  have d := Nat.div_add_mod n g; have ml := Nat.mod_lt n hg; unfold rne at h; split at h
  · rename_i c
    rw [Nat.add_mul, Nat.mul_comm (n / g), Nat.one_mul] at h; generalize g * (n / g) = z at *; omega
  · rename_i c
    rw [Nat.add_zero, Nat.mul_comm (n / g)] at h; generalize g * (n / g) = z at *; omega
theorem rne_rne (T A B : Nat) (hA : 0 < A) (hB : 0 < B) (hB2 : B % 2 = 0) (h : 2 * (rne T A % B) = B → T = rne T A * A) : rne (rne T A) B = rne T (A * B) := by
  by_cases c : 2 * (rne T A % B) = B
  · have e := h c
    generalize rne T A = K at *; rw [e, Nat.mul_comm A B, rne_scale _ _ _ hA]
  · obtain ⟨t1, t2⟩ := rne_close T A hA
    obtain ⟨k1, k2⟩ := rne_close (rne T A) B hB; have hne := fun h => c (rne_half (rne T A) B hB h)
    generalize rne T A = K at *; generalize rne K B = X at *
    have s1 : 2 * K + 2 ≤ 2 * (X * B) + B := by
      have : ¬ 2 * K = 2 * (X * B) + B := fun h => hne (Or.inl h)
      omega
    have s2 : 2 * (X * B) + 2 ≤ 2 * K + B := by
      have : ¬ 2 * (X * B) = 2 * K + B := fun h => hne (Or.inr h)
      omega
    have p1 := Nat.mul_le_mul_right A s1; have p2 := Nat.mul_le_mul_right A s2; symm
    have e3 : X * B * A = X * (A * B) := by rw [Nat.mul_assoc, Nat.mul_comm B]
    refine rne_of_close _ _ _ ?_ ?_
    · rw [Nat.add_mul, Nat.add_mul, Nat.mul_assoc 2, Nat.mul_assoc 2, e3, Nat.mul_comm B A] at p1
      omega
    · rw [Nat.add_mul, Nat.add_mul, Nat.mul_assoc 2, Nat.mul_assoc 2, e3, Nat.mul_comm B A] at p2
      omega
end Go.Proofs.YtkhhhceeoljheaaGreatDoor.Fl
namespace Go.Proofs.YtkhhhceeoljheaaGreatDoor.Fl
open Ieee
def rq (m : Nat) (s : Bool) (D : Int) : Nat := if D ≤ 0 then m * 2 ^ (-D).toNat else rne (2 * m + s.toNat) (2 ^ (D.toNat + 1))
theorem rq_hi (m : Nat) (s : Bool) (D : Int) (hm : m < 18446744073709551616) (hD : 64 < D) : rq m s D = 0 := by
  unfold rq rne; rw [if_neg (by omega)]; have h : 2 ^ 66 ≤ 2 ^ (D.toNat + 1) := Nat.pow_le_pow_right (by omega) (by omega); have hs : s.toNat ≤ 1 := Bool.toNat_le s; generalize 2 ^ (D.toNat + 1) = p at *; rw [Nat.div_eq_of_lt (by omega), Nat.mod_eq_of_lt (by omega), if_neg (by omega)]
theorem dv_ (m : Nat) (s : Bool) (d : Nat) : (2 * m + s.toNat) / 2 ^ (d + 1) = m / 2 ^ d := by
  rw [Nat.pow_succ, Nat.mul_comm (2 ^ d), ← Nat.div_div_eq_div_mul]; congr 1; cases s <;> simp <;> omega
theorem md_ (m : Nat) (s : Bool) (d : Nat) : (2 * m + s.toNat) % 2 ^ (d + 1) = 2 * (m % 2 ^ d) + s.toNat := by
  have a1 := Nat.div_add_mod (2 * m + s.toNat) (2 ^ (d + 1)); have a2 := Nat.div_add_mod m (2 ^ d); rw [dv_] at a1; have a3 : 2 ^ (d + 1) * (m / 2 ^ d) = 2 * (2 ^ d * (m / 2 ^ d)) := by rw [Nat.pow_succ, Nat.mul_comm (2 ^ d) 2, Nat.mul_assoc]
  omega
theorem rq_mid (m : Nat) (s : Bool) (d : Nat) (hd : 1 ≤ d) : rq m s d = m / 2 ^ d + (if 2 ^ d < 2 * (m % 2 ^ d) ∨ (2 ^ d = 2 * (m % 2 ^ d) ∧ (s = true ∨ m / 2 ^ d % 2 = 1)) then 1 else 0) := by
  have e : 2 ^ (d + 1) = 2 * 2 ^ d := by rw [Nat.pow_succ, Nat.mul_comm]
  have e2 : 2 ^ d = 2 * 2 ^ (d - 1) := two_pow_split hd; unfold rq rne; rw [if_neg (by omega), Int.toNat_natCast, dv_, md_, e]; generalize 2 ^ (d - 1) = r at *; generalize 2 ^ d = p at *; subst e2; generalize m % (2 * r) = z at *; generalize m / (2 * r) = q at *; congr 1
  cases s
  · simp only [Bool.toNat_false, Bool.false_eq_true, false_or]
    split <;> split <;> omega
  · simp only [Bool.toNat_true, true_or, and_true]
    split <;> split <;> omega
theorem log2_2s (m : Nat) (s : Bool) (h0 : m ≠ 0) : (2 * m + s.toNat).log2 = m.log2 + 1 := by
  have hs : s.toNat ≤ 1 := Bool.toNat_le s; have h1 := Nat.log2_self_le h0; have h2 : m < 2 ^ (m.log2 + 1) := Nat.lt_log2_self; rw [Nat.log2_eq_iff (by omega)]; have e : 2 ^ (m.log2 + 1 + 1) = 2 * 2 ^ (m.log2 + 1) := by rw [Nat.pow_succ, Nat.mul_comm]
  have e2 : 2 ^ (m.log2 + 1) = 2 * 2 ^ m.log2 := by rw [Nat.pow_succ, Nat.mul_comm]
  omega
theorem rung_rq (f : Format) (m : Nat) (s : Bool) (x : Int) (h0 : m ≠ 0) (hs : s = true → f.fractionBits + 1 ≤ m.log2) (D : Int) (hD : D = max (x + m.log2 - f.fractionBits) f.leastPlace - x) :
    rung f (2 * m + s.toNat) (x - 1) = min ((x + D - f.leastPlace).toNat * f.binade + rq m s D) f.infRung := by
  have hP : lastP f (2 * m + s.toNat) (x - 1) = x + D := by
    unfold lastP; rw [log2_2s m s h0]; omega
  unfold rung; rw [if_neg (by omega), hP]; congr 2
  unfold rq; by_cases c : D ≤ 0
  · rw [if_pos c]
    have hsf : s = false := by
      cases s
      · rfl
      · have := hs rfl; omega
    subst hsf; rw [Bool.toNat_false, Nat.add_zero]; by_cases d : D = 0
    · rw [show (x - 1 - (x + D)).toNat = 0 by omega, show (x + D - (x - 1)).toNat = 1 by omega, show (-D).toNat = 0 by omega, Nat.pow_zero, Nat.mul_one, Nat.mul_one, Nat.pow_one, Nat.mul_comm 2 m]
      have := rne_scale m 1 2 (by omega); rw [Nat.one_mul] at this; rw [this, rne_one]
    · obtain ⟨t, ht⟩ : ∃ t : Nat, (-D).toNat = t + 1 := ⟨(-D).toNat - 1, by omega⟩
      rw [show (x - 1 - (x + D)).toNat = t by omega, show (x + D - (x - 1)).toNat = 0 by omega, ht, Nat.pow_zero, rne_one, Nat.pow_succ, Nat.mul_comm 2 m, Nat.mul_assoc, Nat.mul_comm 2]
  · rw [if_neg c, show (x - 1 - (x + D)).toNat = 0 by omega, show (x + D - (x - 1)).toNat = D.toNat + 1 by omega, Nat.pow_zero, Nat.mul_one]
theorem rne_ge (n g : Nat) : n / g ≤ rne n g ∧ rne n g ≤ n / g + 1 := by unfold rne; split <;> omega
theorem rq_le (f : Format) (m : Nat) (s : Bool) (x : Int) (h0 : m ≠ 0) (D : Int) (hD : D = max (x + m.log2 - f.fractionBits) f.leastPlace - x) :
    rq m s D ≤ 2 * f.binade ∧ (rq m s D < f.binade → x + D - f.leastPlace = 0) ∧ 0 ≤ x + D - f.leastPlace := by
  have h1 := Nat.log2_self_le h0; have h2 : m < 2 ^ (m.log2 + 1) := Nat.lt_log2_self; have hB : f.binade = 2 ^ f.fractionBits := rfl; have hB2 : 2 * f.binade = 2 ^ (f.fractionBits + 1) := by rw [Nat.pow_succ, Nat.mul_comm, hB]
  refine ⟨?_, ?_, by omega⟩
  · unfold rq
    split
    · rename_i c
      have h3 : m * 2 ^ (-D).toNat ≤ 2 ^ (m.log2 + 1) * 2 ^ (-D).toNat := Nat.mul_le_mul_right _ (by omega); rw [← Nat.pow_add] at h3; have h4 : 2 ^ (m.log2 + 1 + (-D).toNat) ≤ 2 ^ (f.fractionBits + 1) := Nat.pow_le_pow_right (by omega) (by omega); omega
    · rename_i c
      have h3 := (rne_ge (2 * m + s.toNat) (2 ^ (D.toNat + 1))).2; rw [dv_] at h3
      have h4 : m / 2 ^ D.toNat < 2 ^ (f.fractionBits + 1) := by
        rw [Nat.div_lt_iff_lt_mul (Nat.two_pow_pos _), ← Nat.pow_add]; exact Nat.lt_of_lt_of_le h2 (Nat.pow_le_pow_right (by omega) (by omega))
      omega
  · intro hq
    refine Decidable.byContradiction fun hc => ?_
    have hD2 : D = m.log2 - f.fractionBits := by omega
    unfold rq at hq; split at hq
    · rename_i c
      have h3 : 2 ^ m.log2 * 2 ^ (-D).toNat ≤ m * 2 ^ (-D).toNat := Nat.mul_le_mul_right _ h1; rw [← Nat.pow_add, show m.log2 + (-D).toNat = f.fractionBits by omega] at h3; omega
    · rename_i c
      have h3 := (rne_ge (2 * m + s.toNat) (2 ^ (D.toNat + 1))).1; rw [dv_] at h3
      have h4 : 2 ^ f.fractionBits ≤ m / 2 ^ D.toNat := by
        rw [Nat.le_div_iff_mul_le (Nat.two_pow_pos _), ← Nat.pow_add, show f.fractionBits + D.toNat = m.log2 by omega]; exact h1
      omega
theorem rung_end (f : Format) (m : Nat) (s : Bool) (x : Int) (h0 : m ≠ 0) (hs : s = true → f.fractionBits + 1 ≤ m.log2) (D : Int) (hD : D = max (x + m.log2 - f.fractionBits) f.leastPlace - x) (q : Nat) (hq : rq m s D = q) (X : Int) (hX : (f.binade ≤ q ∧ X = x + D - f.leastPlace) ∨ (q < f.binade ∧ X = 0)) (E : Nat) (hE : f.infRung ≤ E * f.binade) :
    ((E : Int) ≤ X → rung f (2 * m + s.toNat) (x - 1) = f.infRung) ∧ (X < (E : Int) → 0 ≤ X ∧ q ≤ 2 * f.binade ∧ rung f (2 * m + s.toNat) (x - 1) = min (X.toNat * f.binade + q) f.infRung) := by
  have h1 := rq_le f m s x h0 D hD; rw [rung_rq f m s x h0 hs D hD]; rw [hq] at h1 ⊢
  have e : X = x + D - f.leastPlace := by
    rcases hX with ⟨_, h⟩ | ⟨h, h'⟩
    · exact h
    · rw [h', h1.2.1 h]
  rw [← e]; refine ⟨fun h => ?_, fun h => ⟨by omega, h1.1, rfl⟩⟩; apply Nat.min_eq_right
  have h3 : E * f.binade ≤ X.toNat * f.binade := Nat.mul_le_mul_right _ (by omega); omega
end Go.Proofs.YtkhhhceeoljheaaGreatDoor.Fl

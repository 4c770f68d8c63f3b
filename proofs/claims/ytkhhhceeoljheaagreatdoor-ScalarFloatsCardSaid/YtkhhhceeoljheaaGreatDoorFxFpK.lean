import Derived.Test.YtkhhhceeoljheaaGreatDoorFxFpH
set_option linter.unusedVariables false
set_option linter.unusedSimpArgs false
set_option linter.unusedVariables false
namespace Go.Proofs.YtkhhhceeoljheaaGreatDoor
open Go.RowKit Go.Proofs.YtkhhhceeoljheaaGreatDoor.Fl Ieee Go.Proofs.YtkhhhceeoljheaaGreatDoorW.PrintWords Go.Proofs.YtkhhhceeoljheaaGreatDoorW.PrintLast Go.Proofs.YtkhhhceeoljheaaGreatDoorW.PrintMore
theorem dg_h (y : Nat) (hy2 : y < 18446744073709551616) : (y : Int) / 4294967296 = ((y / 4294967296 : Nat) : Int) ∧ bits .and .u64 (y : Int) 4294967295 = ((y % 4294967296 : Nat) : Int) := by
  refine ⟨by omega, ?_⟩; have := fandN y 4294967295 hy2 (by omega); rw [show (4294967295 : Nat) = 2 ^ 32 - 1 from rfl, Nat.and_two_pow_sub_one_eq_mod] at this; exact this
theorem dg_or (u : Nat) (hu : u < 18446744073709551616) : bits .or .u64 (u : Int) 0 = (u : Int) := by
  have := forN u 0 hu (by omega); rw [Nat.or_zero] at this; exact this
theorem dg_q0 (u h : Nat) (hu : u < 18446744073709551616) (hh : 0 < h) : IntKind.u64.wrap ((u : Int) / (h : Int)) = ((u / h : Nat) : Int) ∧ IntKind.u64.wrap ((u : Int) - IntKind.u64.wrap (((u / h : Nat) : Int) * (h : Int))) = ((u % h : Nat) : Int) := by
  have h1 := Nat.div_le_self u h; have d := Nat.div_add_mod u h; have e : ((u / h : Nat) : Int) * (h : Int) = ((h * (u / h) : Nat) : Int) := by rw [Int.natCast_mul, Int.mul_comm]
  rw [e, ← Int.natCast_ediv]; generalize h * (u / h) = z at *; generalize u % h = r at *; generalize u / h = q at *; refine ⟨u64i (by omega) (by omega), ?_⟩; rw [u64i (show (0 : Int) ≤ (z : Int) by omega) (by omega), u64i (by omega) (by omega)]; omega
def DI (U y h l : Nat) (q r : Int) : Prop := 0 ≤ q ∧ 0 ≤ r ∧ Dg U y h l q.toNat r.toNat ∧ r < 4294967296
theorem di_start {U y h l q r : Nat} (H : Dg U y h l q r) (hr : r < 4294967296) : DI U y h l (q : Int) (r : Int) := ⟨by omega, by omega, H, by omega⟩
theorem dg_sm (q l z : Nat) (h8 : q ≤ 4294967297) (hl : l < 4294967296) (hz : q * l = z) : z ≤ 18446744073709551615 := by
  have a1 : q * l ≤ 4294967297 * 4294967295 := Nat.mul_le_mul h8 (by omega); rw [hz] at a1; exact a1
theorem di_w {U y h l : Nat} {q r : Int} (H : DI U y h l q r) : ∃ z1 z2 r2 : Int, IntKind.u64.wrap (q * (l : Int)) = z1 ∧ IntKind.u64.wrap (4294967296 * r) = z2 ∧ IntKind.u64.wrap z2 = z2 ∧ IntKind.u64.wrap (r + (h : Int)) = r2 ∧ Hid (z1 = ((q.toNat * l : Nat) : Int) ∧ z2 = ((4294967296 * r.toNat : Nat) : Int) ∧ r2 = ((r.toNat + h : Nat) : Int)) := by
  obtain ⟨p1, p2, D, p3⟩ := H; have hh := D.2.2.1; have hm := dg_sm q.toNat l _ D.2.2.2.2.2.2.2 D.2.2.2.1 rfl; have e : q * (l : Int) = ((q.toNat * l : Nat) : Int) := by rw [Int.natCast_mul, Int.toNat_of_nonneg p1]
  clear D; generalize q.toNat * l = z at *; refine ⟨_, _, _, rfl, rfl, ?_, rfl, Lib.hid ⟨?_, ?_, ?_⟩⟩
  · rw [u64w, u64w]; omega
  · rw [e]; exact u64i (by omega) (by omega)
  · rw [u64i (by omega) (by omega)]; omega
  · rw [u64i (by omega) (by omega)]; omega
theorem di_c {q z1 z2 r2 r : Int} {l h : Nat} (hq : 0 ≤ q) (hw : Hid (z1 = ((q.toNat * l : Nat) : Int) ∧ z2 = ((4294967296 * r.toNat : Nat) : Int) ∧ r2 = ((r.toNat + h : Nat) : Int))) (hc : 4294967296 ≤ q ∨ z2 < z1) : 4294967296 ≤ q.toNat ∨ 4294967296 * r.toNat < q.toNat * l := by
  obtain ⟨w1, w2, w3⟩ := hw.out; generalize q.toNat * l = z at *; omega
theorem di_less {U y h l : Nat} {q r : Int} (H : DI U y h l q r) (hc : 4294967296 ≤ q.toNat ∨ 4294967296 * r.toNat < q.toNat * l) : IntKind.u64.wrap (q - 1) = ((q.toNat - 1 : Nat) : Int) := by
  have h1 := (dg_step H.2.2.1 hc).1; have h8 := H.2.2.1.2.2.2.2.2.2.2; have h0 := H.1; clear H hc; rw [u64i (by omega) (by omega)]; omega
theorem di_x1 {U y h l Q : Nat} {q r z1 z2 r2 : Int} (H : DI U y h l q r) (hw : Hid (z1 = ((q.toNat * l : Nat) : Int) ∧ z2 = ((4294967296 * r.toNat : Nat) : Int) ∧ r2 = ((r.toNat + h : Nat) : Int))) (hQ : Hid (U * 4294967296 / y = Q)) (hc : 4294967296 ≤ q ∨ z2 < z1) (hr : 4294967296 ≤ r2) : IntKind.u64.wrap (q - 1) = (Q : Int) := by
  have hc := di_c H.1 hw hc; have h3 := hw.out.2.2; rw [di_less H hc, dg_far (dg_step H.2.2.1 hc).2 (by omega) (by have := H.2.2.1.2.2.2.2.2.2.2; clear hc H hw; omega), hQ.out]
theorem di_x2 {U y h l Q : Nat} {q r z1 z2 r2 : Int} (H : DI U y h l q r) (hw : Hid (z1 = ((q.toNat * l : Nat) : Int) ∧ z2 = ((4294967296 * r.toNat : Nat) : Int) ∧ r2 = ((r.toNat + h : Nat) : Int))) (hQ : Hid (U * 4294967296 / y = Q)) (hc' : q < 4294967296 ∧ z1 ≤ z2) : q = (Q : Int) := by
  have hc : ¬ z2 < z1 := Int.not_lt.2 hc'.2; clear hc'; obtain ⟨w1, w2, w3⟩ := hw.out; have := dg_end H.2.2.1 (by generalize q.toNat * l = z at *; omega); rw [hQ.out] at this; have h0 := H.1; clear hw w1 w2 w3 H; omega
theorem di_near {U y h l : Nat} {q r z1 z2 r2 : Int} (H : DI U y h l q r) (hw : Hid (z1 = ((q.toNat * l : Nat) : Int) ∧ z2 = ((4294967296 * r.toNat : Nat) : Int) ∧ r2 = ((r.toNat + h : Nat) : Int))) (hc : 4294967296 ≤ q ∨ z2 < z1) (hr : r2 < 4294967296) : DI U y h l (IntKind.u64.wrap (q - 1)) r2 ∧ (IntKind.u64.wrap (q - 1)).toNat < q.toNat := by
  have hc := di_c H.1 hw hc; have h3 := hw.out.2.2; have hs := dg_step H.2.2.1 hc; rw [di_less H hc]; have h1 := hs.1; refine ⟨⟨Int.natCast_nonneg _, by rw [h3]; exact Int.natCast_nonneg _, ?_, hr⟩, ?_⟩
  · rw [h3, Int.toNat_natCast, Int.toNat_natCast]; exact hs.2
  · rw [Int.toNat_natCast]; exact Nat.sub_lt h1 (Nat.succ_pos 0)
theorem di_round {U y h l : Nat} {q r z1 z2 r2 : Int} (H : Hid (DI U y h l q r)) (hw : Hid (z1 = ((q.toNat * l : Nat) : Int) ∧ z2 = ((4294967296 * r.toNat : Nat) : Int) ∧ r2 = ((r.toNat + h : Nat) : Int))) (hc : 4294967296 ≤ q ∨ z2 < z1) (hr : r2 < 4294967296) :
    Hid (DI U y h l (IntKind.u64.wrap (q - 1)) r2) ∧ max (intOf (Value.int IntKind.u64 (IntKind.u64.wrap (q - 1)))) 0 < intOf (Value.int IntKind.u64 q) := by
  have h1 := di_near H.out hw hc hr; refine ⟨Lib.hid h1.1, ?_⟩; show max (IntKind.u64.wrap (q - 1)) 0 < q
  have h2 := h1.2; have h3 := h1.1.1; clear h1 H hw hc; omega
theorem dg_sub (U y : Nat) (h1 : 9223372036854775808 ≤ y) (hy : y < 18446744073709551616) (hu : U < y) : IntKind.u64.wrap (IntKind.u64.wrap (IntKind.u64.wrap ((U : Int) * 4294967296)) - IntKind.u64.wrap (((U * 4294967296 / y : Nat) : Int) * (y : Int))) = ((U * 4294967296 % y : Nat) : Int) := by
  obtain ⟨r1, r2⟩ := dg_rest U y (by omega); have hm := Nat.mod_lt (U * 4294967296) (show 0 < y by omega); rw [← Int.natCast_mul]; generalize U * 4294967296 / y * y = z at *; generalize U * 4294967296 % y = t at *; rw [u64w, u64w, u64w, u64w]; omega
theorem dg_l32 (t y : Nat) (hy : 0 < y) (h : t < y) : t * 4294967296 / y < 4294967296 := by
  rw [Nat.div_lt_iff_lt_mul hy, Nat.mul_comm]; exact Nat.mul_lt_mul_of_pos_left h (by decide)
theorem dg_c {V u y : Nat} (h : V * 4294967296 % y = u * 18446744073709551616 % y) : (V : Int) * 4294967296 % (y : Int) = (u : Int) * 18446744073709551616 % (y : Int) := by
  have e1 : (V : Int) * 4294967296 = ((V * 4294967296 : Nat) : Int) := (Int.natCast_mul V 4294967296).symm; have e2 : (u : Int) * 18446744073709551616 = ((u * 18446744073709551616 : Nat) : Int) := (Int.natCast_mul u 18446744073709551616).symm; rw [e1, e2, ← Int.natCast_emod, ← Int.natCast_emod, h]
theorem dg_pq (p q : Nat) (hp : p < 4294967296) (hq : q < 4294967296) : IntKind.u64.wrap (IntKind.u64.wrap ((p : Int) * 4294967296) + (q : Int)) = ((p * 4294967296 + q : Nat) : Int) := by
  rw [u64i (show (0 : Int) ≤ (p : Int) * 4294967296 by omega) (by omega), u64i (by omega) (by omega)]; omega
theorem dg_fin (U y : Nat) (hy0 : 0 < y) (hu : U < y) (V : Nat) (hV : V = U * 4294967296 % y) : IntKind.u64.wrap (IntKind.u64.wrap (((U * 4294967296 / y : Nat) : Int) * 4294967296) + ((V * 4294967296 / y : Nat) : Int)) = ((U * 18446744073709551616 / y : Nat) : Int) ∧ V * 4294967296 % y = U * 18446744073709551616 % y := by
  subst hV; rw [dg_pq _ _ (dg_l32 U y hy0 hu) (dg_l32 _ y hy0 (Nat.mod_lt _ hy0)), (dg_two U y hy0).1]; exact ⟨rfl, (dg_two U y hy0).2⟩
set_option maxHeartbeats 8000000 in
set_option maxRecDepth 100000 in
theorem div64_c (u y : Nat) (hy1 : 9223372036854775808 ≤ y) (hy2 : y < 18446744073709551616) (hu : u < y) (hu0 : 0 < u) (HK : Hid (64 - Lib.bitLen y = 0)) (w : World) : Calls Tryz.prog 184 #[.int .u64 u, .int .u64 0, .int .u64 y] w fun e w' => e = .returned (.tuple #[.int .u64 ((u * 18446744073709551616 / y : Nat) : Int), .int .u64 ((u * 18446744073709551616 % y : Nat) : Int)]) ∧ Below w.heap.size w w' := by
  have HB := zm_ (Below.refl w.heap.size w); obtain ⟨S1, S1r⟩ := dg_start u y hy1 hy2 hu; obtain ⟨S2, S2r⟩ := dg_start (u * 4294967296 % y) y hy1 hy2 (Nat.mod_lt _ (by omega)); have f7 := dg_sub u y hy1 hy2 hu; have f8 := dg_sub (u * 4294967296 % y) y hy1 hy2 (Nat.mod_lt _ (by omega)); have f9 := dg_fin u y (by omega) hu _ rfl; obtain ⟨V, hV⟩ : ∃ V, u * 4294967296 % y = V := ⟨_, rfl⟩
  have hVy : V < y := by rw [← hV]; exact Nat.mod_lt _ (by omega)
  rw [hV] at S2 S2r f7 f8 f9; obtain ⟨f3, f1⟩ := dg_h y hy2; have f4 : bits .and .u64 0 4294967295 = 0 := by decide +kernel
  have f2 := dg_or u (by omega); have hh1 : 0 < y / 4294967296 := by omega
  have hh2 : y / 4294967296 < 4294967296 := by omega
  generalize y / 4294967296 = h at *; generalize y % 4294967296 = l at *; obtain ⟨f5, f6⟩ := dg_q0 u h (by omega) hh1; obtain ⟨k5, k6⟩ := dg_q0 V h (by omega) hh1; have HS1 := Lib.hid S1; have HS2 := Lib.hid S2; have HS1r := Lib.hid S1r; have HS2r := Lib.hid S2r; clear S1 S2 S1r S2r hV; generalize u / h = q1 at *; generalize u % h = r1 at *; generalize V / h = q2 at *; generalize V % h = r2 at *; have HF := Lib.hid f9.2; have f10 := f9.1; clear f9; obtain ⟨Q1, hQ1⟩ : ∃ Q1, u * 4294967296 / y = Q1 := ⟨_, rfl⟩
  obtain ⟨Q2, hQ2⟩ : ∃ Q2, V * 4294967296 / y = Q2 := ⟨_, rfl⟩
  rw [hQ1] at f7 f10; rw [hQ2] at f8 f10; have HQ1 := Lib.hid hQ1; have HQ2 := Lib.hid hQ2; clear hQ1 hQ2; go_enter Tryz.func184, Tryz.ntmps184
  go_wp2_with (first | (go_at_call 183; (with_reducible refine (lead_n y 0 hy2 HK _).mono ?_); rintro e w4 ⟨rfl, hb⟩; replace HB := zm_ (below_step bl2_ hb); clear hb))
  go_loop [15, 16] (fun q r => ∃ q' r' : Int, q = .int .u64 q' ∧ r = .int .u64 r' ∧ Hid (DI u y h l q' r')) (fun q _ => (intOf q).toNat)
  case atStart => exact ⟨_, _, rfl, rfl, Lib.hid (di_start HS1.out HS1r.out)⟩
  case round =>
    obtain ⟨q, r, rfl, rfl, HD⟩ := hrel; obtain ⟨z1, z2, r2', g1, g2, g3, g4, HW⟩ := di_w HD.out; go_upto_region 21 with fail
    all_goals first
      | exact di_round HD HW (by assumption) (by assumption)
      | exact di_round HD HW (Or.inl (by assumption)) (by assumption)
      | exact di_round HD HW (Or.inl (Int.not_lt.1 (by assumption))) (by assumption)
      | (have hx := di_x1 HD.out HW HQ1 (by assumption) (by assumption); rw [hx]; clear hx)
      | (have hx := di_x1 HD.out HW HQ1 (Or.inl (by assumption)) (by assumption); rw [hx]; clear hx)
      | (have hx := di_x1 HD.out HW HQ1 (Or.inl (Int.not_lt.1 (by assumption))) (by assumption); rw [hx]; clear hx)
      | (have hx := di_x2 HD.out HW HQ1 (by assumption); rw [hx]; clear hx)
    all_goals
      clear HD HW g1 g2 g3 g4; go_wp2_with fail
      go_loop [18, 16] (fun q r => ∃ q' r' : Int, q = .int .u64 q' ∧ r = .int .u64 r' ∧ Hid (DI V y h l q' r')) (fun q _ => (intOf q).toNat)
      case atStart => exact ⟨_, _, rfl, rfl, Lib.hid (di_start HS2.out HS2r.out)⟩
      case round =>
        obtain ⟨q, r, rfl, rfl, HD⟩ := hrel; obtain ⟨z1, z2, r2', g1, g2, g3, g4, HW⟩ := di_w HD.out; go_upto_region 28 with fail
        all_goals first
          | exact di_round HD HW (by assumption) (by assumption)
          | exact di_round HD HW (Or.inl (by assumption)) (by assumption)
          | exact di_round HD HW (Or.inl (Int.not_lt.1 (by assumption))) (by assumption)
          | (have hx := di_x1 HD.out HW HQ2 (by assumption) (by assumption); rw [hx]; clear hx)
          | (have hx := di_x1 HD.out HW HQ2 (Or.inl (by assumption)) (by assumption); rw [hx]; clear hx)
          | (have hx := di_x1 HD.out HW HQ2 (Or.inl (Int.not_lt.1 (by assumption))) (by assumption); rw [hx]; clear hx)
          | (have hx := di_x2 HD.out HW HQ2 (by assumption); rw [hx]; clear hx)
        all_goals
          clear HD HW g1 g2 g3 g4; go_wp2_with fail
          go_ret2; exact ⟨ret2i rfl (dg_c HF.out), bl2_⟩
end Go.Proofs.YtkhhhceeoljheaaGreatDoor
set_option linter.unusedVariables false
namespace Go.Proofs.YtkhhhceeoljheaaGreatDoor
open Go.RowKit Go.Proofs.YtkhhhceeoljheaaGreatDoor.Fl Ieee Go.Proofs.YtkhhhceeoljheaaGreatDoorW.PrintWords Go.Proofs.YtkhhhceeoljheaaGreatDoorW.PrintLast Go.Proofs.YtkhhhceeoljheaaGreatDoorW.PrintMore
theorem z_ok (F E : Int) (hF : Fm F E) : (0 : Int) ≤ 0 ∧ (0 : Int) < (((fmt F).signWeight : Nat) : Int) := by
  have := fm_b F E hF; omega
theorem dv_nan {F E : Int} {a b : Nat} (h : Sm F E a b) (h1 : (siz (fmt F) a = (fmt F).infRung ∧ siz (fmt F) b = (fmt F).infRung) ∨ (siz (fmt F) a = 0 ∧ siz (fmt F) b = 0)) : ((nn F : Nat) : Int) = ((orn F ((fmt F).div a b) : Nat) : Int) := by
  have hE := (fm_p F E h.fm).2.2.2; have hI := inf_pos F E h.fm
  have key : (fmt F).div a b = none := by
    unfold Format.div; rcases h1 with ⟨c, d⟩ | ⟨c, d⟩
    · rw [read_inf (fmt F) hE a c, read_inf (fmt F) hE b d]; rfl
    · rw [read_pm (fmt F) a (by omega), read_pm (fmt F) b (by omega), (pm_zero (fmt F) a).2 c, (pm_zero (fmt F) b).2 d]; rfl
  rw [key]; rfl
theorem dv_inf {F E : Int} {a b : Nat} (h : Sm F E a b) (h1 : (siz (fmt F) a = (fmt F).infRung ∧ siz (fmt F) b ≠ (fmt F).infRung) ∨ (siz (fmt F) a ≠ (fmt F).infRung ∧ siz (fmt F) a ≠ 0 ∧ siz (fmt F) b = 0)) : (((fmt F).word (!(neg (fmt F) a == neg (fmt F) b)) (fmt F).infRung : Nat) : Int) = ((orn F ((fmt F).div a b) : Nat) : Int) := by
  have hE := (fm_p F E h.fm).2.2.2; have hI := inf_pos F E h.fm; have a2 := h.a2; have b2 := h.b2
  have key : (fmt F).div a b = some ((fmt F).word (!(neg (fmt F) a == neg (fmt F) b)) (fmt F).infRung) := by
    rw [← xor_ne]; unfold Format.div; rcases h1 with ⟨c, d⟩ | ⟨c, c2, d⟩
    · rw [read_inf (fmt F) hE a c, read_pm (fmt F) b (by omega)]; rfl
    · rw [read_pm (fmt F) a (by omega), read_pm (fmt F) b (by omega), (pm_zero (fmt F) b).2 d]
      have hq : ∀ (n m : Nat) (i j : Int) (s t : Bool), Datum.quotient n (.number s m i) (.number t 0 j) = if m = 0 then none else some (.infinity (s ^^ t)) := fun _ _ _ _ _ _ => rfl
      rw [hq, if_neg (fun k => c2 ((pm_zero (fmt F) a).1 k))]; rfl
  rw [key]; rfl
theorem dv_zero {F E : Int} {a b : Nat} (h : Sm F E a b) (h1 : (siz (fmt F) a ≠ (fmt F).infRung ∧ siz (fmt F) b = (fmt F).infRung) ∨ (siz (fmt F) a = 0 ∧ siz (fmt F) b ≠ 0)) : (((fmt F).word (!(neg (fmt F) a == neg (fmt F) b)) 0 : Nat) : Int) = ((orn F ((fmt F).div a b) : Nat) : Int) := by
  have hE := (fm_p F E h.fm).2.2.2; have hI := inf_pos F E h.fm; have a2 := h.a2; have b2 := h.b2
  have key : (fmt F).div a b = some ((fmt F).word (!(neg (fmt F) a == neg (fmt F) b)) 0) := by
    rw [← xor_ne]; unfold Format.div; by_cases e : siz (fmt F) b = (fmt F).infRung
    · rw [read_pm (fmt F) a (by omega), read_inf (fmt F) hE b e]
      show some ((fmt F).nearest _ 0 0) = _
      rw [nearest_eq]; rfl
    · have d : siz (fmt F) a = 0 ∧ siz (fmt F) b ≠ 0 := by omega
      rw [read_pm (fmt F) a (by omega), read_pm (fmt F) b (by omega), (pm_zero (fmt F) a).2 d.1]; show Option.map _ (if pm (fmt F) b = 0 then _ else some (Datum.number _ _ _)) = _
      rw [if_neg (fun k => d.2 ((pm_zero (fmt F) b).1 k)), Nat.zero_shiftLeft, Nat.zero_div, Nat.zero_mod]; show some ((fmt F).nearest _ 0 _) = _
      rw [nearest_eq]; unfold rung; rw [if_pos rfl]
  rw [key]; rfl
theorem bq0 {a : Nat} (h : ((a : Int) == 0) = true) : a = 0 := by have := eq_of_beq h; omega
theorem dn1 {F E : Int} {a b : Nat} (h : Sm F E a b) (h1 : ((siz (fmt F) a : Nat) : Int) = (((fmt F).infRung : Nat) : Int)) (h2 : ((siz (fmt F) b : Nat) : Int) = (((fmt F).infRung : Nat) : Int)) : ((nn F : Nat) : Int) = ((orn F ((fmt F).div a b) : Nat) : Int) := dv_nan h (Or.inl ⟨by omega, by omega⟩)
theorem dn2 {F E : Int} {a b : Nat} (h : Sm F E a b) (h1 : siz (fmt F) a = 0) (h2 : (((siz (fmt F) b : Nat) : Int) == 0) = true) : ((nn F : Nat) : Int) = ((orn F ((fmt F).div a b) : Nat) : Int) := dv_nan h (Or.inr ⟨h1, bq0 h2⟩)
theorem di1 {F E : Int} {a b : Nat} (h : Sm F E a b) (h1 : ((siz (fmt F) a : Nat) : Int) = (((fmt F).infRung : Nat) : Int)) (h2 : ¬ ((siz (fmt F) b : Nat) : Int) = (((fmt F).infRung : Nat) : Int)) : (((fmt F).word (!(neg (fmt F) a == neg (fmt F) b)) (fmt F).infRung : Nat) : Int) = ((orn F ((fmt F).div a b) : Nat) : Int) := dv_inf h (Or.inl ⟨by omega, by omega⟩)
theorem di2 {F E : Int} {a b : Nat} (h : Sm F E a b) (h1 : ¬ ((siz (fmt F) a : Nat) : Int) = (((fmt F).infRung : Nat) : Int)) (h2 : ¬ siz (fmt F) a = 0) (h3 : (((siz (fmt F) a : Nat) : Int) == (((fmt F).infRung : Nat) : Int)) = true ∨ (((siz (fmt F) b : Nat) : Int) == 0) = true) : (((fmt F).word (!(neg (fmt F) a == neg (fmt F) b)) (fmt F).infRung : Nat) : Int) = ((orn F ((fmt F).div a b) : Nat) : Int) := dv_inf h (Or.inr ⟨by omega, h2, by
  rcases h3 with k | k
  · exact absurd (eq_of_beq k) h1
  · exact bq0 k⟩)
theorem dz1 {F E : Int} {a b : Nat} (h : Sm F E a b) (h1 : siz (fmt F) a = 0) (h2 : (((siz (fmt F) b : Nat) : Int) == 0) = false) : (((fmt F).word (!(neg (fmt F) a == neg (fmt F) b)) 0 : Nat) : Int) = ((orn F ((fmt F).div a b) : Nat) : Int) := dv_zero h (Or.inr ⟨h1, bqn h2⟩)
theorem dz2 {F E : Int} {a b : Nat} (h : Sm F E a b) (h1 : ¬ ((siz (fmt F) a : Nat) : Int) = (((fmt F).infRung : Nat) : Int)) (h2 : ((siz (fmt F) b : Nat) : Int) = (((fmt F).infRung : Nat) : Int)) : (((fmt F).word (!(neg (fmt F) a == neg (fmt F) b)) 0 : Nat) : Int) = ((orn F ((fmt F).div a b) : Nat) : Int) := dv_zero h (Or.inl ⟨by omega, by omega⟩)
theorem dz3 {F E : Int} {a b : Nat} (h : Sm F E a b) (h1 : ¬ ((siz (fmt F) a : Nat) : Int) = (((fmt F).infRung : Nat) : Int)) (h2 : ¬ siz (fmt F) a = 0) (h3 : (((siz (fmt F) b : Nat) : Int) == (((fmt F).infRung : Nat) : Int)) = true ∨ (((siz (fmt F) a : Nat) : Int) == 0) = true) : (((fmt F).word (!(neg (fmt F) a == neg (fmt F) b)) 0 : Nat) : Int) = ((orn F ((fmt F).div a b) : Nat) : Int) := dv_zero h (Or.inl ⟨by omega, by
  rcases h3 with k | k
  · exact icast k
  · exact absurd (bq0 k) h2⟩)
theorem up_ (m : Nat) (h0 : m ≠ 0) (h : m < 9007199254740992) : ∃ u M : Nat, Hid (64 - Lib.bitLen m = u) ∧ 11 ≤ u ∧ u ≤ 63 ∧ M = m * 2 ^ u ∧ 9223372036854775808 ≤ M ∧ M < 18446744073709551616 ∧ (m.log2 + u = 63) := by
  have hb := bl_log m h0 (by omega); have l1 := Nat.log2_self_le h0; have l2 : m < 2 ^ (m.log2 + 1) := Nat.lt_log2_self; have l3 : m.log2 ≤ 52 := log2_lt_pow (by omega); refine ⟨63 - m.log2, m * 2 ^ (63 - m.log2), Lib.hid (by omega), by omega, by omega, rfl, ?_, ?_, by omega⟩
  · have := Nat.mul_le_mul_right (2 ^ (63 - m.log2)) l1
    rw [← Nat.pow_add, show m.log2 + (63 - m.log2) = 63 by omega] at this; exact this
  · have := Nat.mul_lt_mul_of_pos_right l2 (Nat.two_pow_pos (63 - m.log2))
    rw [← Nat.pow_add, show m.log2 + 1 + (63 - m.log2) = 64 by omega] at this; exact this
structure Dv (F E : Int) (a b u t M K M2 : Nat) : Prop where
  sm : Sm F E a b
  a3 : siz (fmt F) a < (fmt F).infRung
  b3 : siz (fmt F) b < (fmt F).infRung
  a4 : siz (fmt F) a ≠ 0
  b4 : siz (fmt F) b ≠ 0
  u1 : 11 ≤ u ∧ u ≤ 63
  t1 : 11 ≤ t ∧ t ≤ 63
  m1 : M = pm (fmt F) a * 2 ^ u
  k1 : K = pm (fmt F) b * 2 ^ t
  m2 : 9223372036854775808 ≤ M ∧ M < 18446744073709551616
  k2 : 9223372036854775808 ≤ K ∧ K < 18446744073709551616
  h : M = M2 * 2
theorem dv_pack {F E : Int} {a b : Nat} (h : Sm F E a b) (h1 : ¬ ((siz (fmt F) a : Nat) : Int) = (((fmt F).infRung : Nat) : Int)) (h2 : ¬ siz (fmt F) a = 0) (h3 : (((siz (fmt F) a : Nat) : Int) == (((fmt F).infRung : Nat) : Int)) = false ∧ (((siz (fmt F) b : Nat) : Int) == 0) = false) (h4 : ¬ ((siz (fmt F) b : Nat) : Int) = (((fmt F).infRung : Nat) : Int)) :
    ∃ u t M K M2 : Nat, Hid (64 - Lib.bitLen (pm (fmt F) a) = u) ∧ Hid (64 - Lib.bitLen (pm (fmt F) b) = t) ∧ IntKind.u64.wrap (u : Int) = (u : Int) ∧ IntKind.u64.wrap (t : Int) = (t : Int) ∧ min u 64 = u ∧ min t 64 = t ∧ IntKind.u64.wrap (((pm (fmt F) a : Nat) : Int) * 2 ^ u) = (M : Int) ∧ IntKind.u64.wrap (((pm (fmt F) b : Nat) : Int) * 2 ^ t) = (K : Int) ∧ (M : Int) / 2 = (M2 : Int) ∧ Hid (Dv F E a b u t M K M2) := by
  have a2 := h.a2; have b2 := h.b2; obtain ⟨u, M, hu, u1, u2, m1, m2, m3, -⟩ := up_ (pm (fmt F) a) (fun k => h2 ((pm_zero (fmt F) a).1 k)) (pm_b F E h.fm a); obtain ⟨t, K, ht, t1, t2, k1, k2, k3, -⟩ := up_ (pm (fmt F) b) (fun k => bqn h3.2 ((pm_zero (fmt F) b).1 k)) (pm_b F E h.fm b); have e : ∀ n j : Nat, (n : Int) * 2 ^ j = ((n * 2 ^ j : Nat) : Int) := fun n j => by simp
  have ev : M = (pm (fmt F) a * 2 ^ (u - 1)) * 2 := by rw [m1, Nat.mul_assoc, ← Nat.pow_succ, Nat.succ_eq_add_one, Nat.sub_add_cancel (by omega)]
  refine ⟨u, t, M, K, M / 2, hu, ht, u64i (by omega) (by omega), u64i (by omega) (by omega), by omega, by omega, ?_, ?_, by omega, Lib.hid ⟨h, by omega, by omega, h2, bqn h3.2, ⟨u1, u2⟩, ⟨t1, t2⟩, m1, k1, ⟨m2, m3⟩, ⟨k2, k3⟩, ?_⟩⟩
  · rw [e, ← m1]; exact u64i (by omega) (by omega)
  · rw [e, ← k1]; exact u64i (by omega) (by omega)
  · rw [ev, Nat.mul_div_cancel _ (by omega)]
theorem k0_ {F E : Int} {a b u t M K M2 : Nat} (h : Dv F E a b u t M K M2) : Hid (64 - Lib.bitLen K = 0) := by
  have h1 : K.log2 = 63 := (Nat.log2_eq_iff (by have := h.k2; omega)).2 ⟨h.k2.1, h.k2.2⟩; have h2 := bl_log K (by have := h.k2; omega) h.k2.2; exact Lib.hid (by omega)
theorem dv_one {F E : Int} {a b u t M K M2 : Nat} (h : Hid (Dv F E a b u t M K M2)) (w : World) : Calls Tryz.prog 184 #[.int .u64 M2, .int .u64 0, .int .u64 K] w fun e w' => e = .returned (.tuple #[.int .u64 ((M2 * 18446744073709551616 / K : Nat) : Int), .int .u64 ((M2 * 18446744073709551616 % K : Nat) : Int)]) ∧ Below w.heap.size w w' :=
  div64_c M2 K h.out.k2.1 h.out.k2.2 (by have := h.out.m2; have := h.out.k2; have := h.out.h; omega) (by have := h.out.m2; have := h.out.h; omega) (k0_ h.out) w
theorem dv_two {F E : Int} {a b u t M K M2 : Nat} (h : Hid (Dv F E a b u t M K M2)) (hl : ¬ K ≤ M) (w : World) : Calls Tryz.prog 184 #[.int .u64 M, .int .u64 0, .int .u64 K] w fun e w' => e = .returned (.tuple #[.int .u64 ((M * 18446744073709551616 / K : Nat) : Int), .int .u64 ((M * 18446744073709551616 % K : Nat) : Int)]) ∧ Below w.heap.size w w' :=
  div64_c M K h.out.k2.1 h.out.k2.2 (by omega) (by have := h.out.m2; omega) (k0_ h.out) w
theorem dv_cast (M K : Nat) : (M : Int) * 18446744073709551616 / (K : Int) = ((M * 18446744073709551616 / K : Nat) : Int) ∧ ((M : Int) * 18446744073709551616 % (K : Int) != 0) = (M * 18446744073709551616 % K != 0) := by
  have e1 : (M : Int) * 18446744073709551616 = ((M * 18446744073709551616 : Nat) : Int) := (Int.natCast_mul M 18446744073709551616).symm; rw [e1, ← Int.natCast_ediv, ← Int.natCast_emod]; refine ⟨rfl, ?_⟩; generalize M * 18446744073709551616 % K = r; rw [Bool.eq_iff_iff, bne_iff_ne, bne_iff_ne]; omega
theorem dv_lt (M K : Nat) (h : M < K) : M * 18446744073709551616 / K < 18446744073709551616 := by
  rw [Nat.div_lt_iff_lt_mul (by omega), Nat.mul_comm]; exact Nat.mul_lt_mul_of_pos_left h (by decide)
theorem dv_r {F E : Int} {a b u t M K M2 : Nat} (h : Dv F E a b u t M K M2) (N c : Nat) (hN : N * 2 ^ c = M) (hc : c ≤ 1) (hlt : N < K) (x : Int) (hx : x = (pe (fmt F) a - u + c) - (pe (fmt F) b - t) - 64) (w : World) :
    Calls Tryz.prog 181 #[.agg #[.int .i64 F, .int .i64 E], .bool (!(neg (fmt F) a == neg (fmt F) b)), .int .u64 ((N : Int) * 18446744073709551616 / (K : Int)), .int .i64 x, .bool ((N : Int) * 18446744073709551616 % (K : Int) != 0)] w fun e w' => e = .returned (.int .u64 ((orn F ((fmt F).div a b) : Nat) : Int)) ∧ Below w.heap.size w w' := by
  have e1 := pe_le F E h.sm.fm a; have e2 := pe_le F E h.sm.fm b; have hu := h.u1; have ht := h.t1
  have hN1 : 4611686018427387904 ≤ N := by
    have hm := h.m2; rcases (show c = 0 ∨ c = 1 by omega) with rfl | rfl
    · rw [Nat.pow_zero, Nat.mul_one] at hN; omega
    · rw [Nat.pow_one] at hN; omega
  obtain ⟨l1, l2⟩ := div_law (fmt F) (fm_p F E h.sm.fm).2.1 a b (fm_b F E h.sm.fm).1 h.a3 h.b3 h.a4 h.b4 u t c hu (by omega) N K (by rw [hN, h.m1]) h.k1 hc hN1 h.k2.2; obtain ⟨c1, c2⟩ := dv_cast N K; have hq := dv_lt N K hlt; rw [c1, c2, l1]; generalize N * 18446744073709551616 / K = q at *; generalize (N * 18446744073709551616 % K != 0) = r at *; have hr := round_c F E h.sm.fm (!(neg (fmt F) a == neg (fmt F) b)) q hq x (by omega) r (fun _ => by omega) w; rw [hx] at hr ⊢; exact hr
theorem dv_r1 {F E : Int} {a b u t M K M2 : Nat} (h : Hid (Dv F E a b u t M K M2)) (w : World) :
    Calls Tryz.prog 181 #[.agg #[.int .i64 F, .int .i64 E], .bool (!(neg (fmt F) a == neg (fmt F) b)), .int .u64 ((M2 : Int) * 18446744073709551616 / (K : Int)), .int .i64 (wrap64 (wrap64 (wrap64 (wrap64 (pe (fmt F) a - (u : Int)) + 1) - wrap64 (pe (fmt F) b - (t : Int))) - 64)), .bool ((M2 : Int) * 18446744073709551616 % (K : Int) != 0)] w fun e w' => e = .returned (.int .u64 ((orn F ((fmt F).div a b) : Nat) : Int)) ∧ Below w.heap.size w w' := by
  have e1 := pe_le F E h.out.sm.fm a; have e2 := pe_le F E h.out.sm.fm b; have hu := h.out.u1; have ht := h.out.t1; refine dv_r h.out M2 1 (by rw [h.out.h]) (by omega) (by have := h.out.m2; have := h.out.k2; have := h.out.h; omega) _ ?_ w; rw [i64i (show -9223372036854775808 ≤ pe (fmt F) a - (u : Int) by omega) (by omega), i64i (show -9223372036854775808 ≤ pe (fmt F) a - (u : Int) + 1 by omega) (by omega), i64i (show -9223372036854775808 ≤ pe (fmt F) b - (t : Int) by omega) (by omega), i64i (show -9223372036854775808 ≤ pe (fmt F) a - (u : Int) + 1 - (pe (fmt F) b - (t : Int)) by omega) (by omega), i64i (by omega) (by omega)]; rfl
theorem dv_r2 {F E : Int} {a b u t M K M2 : Nat} (h : Hid (Dv F E a b u t M K M2)) (hl : ¬ K ≤ M) (w : World) :
    Calls Tryz.prog 181 #[.agg #[.int .i64 F, .int .i64 E], .bool (!(neg (fmt F) a == neg (fmt F) b)), .int .u64 ((M : Int) * 18446744073709551616 / (K : Int)), .int .i64 (wrap64 (wrap64 (wrap64 (pe (fmt F) a - (u : Int)) - wrap64 (pe (fmt F) b - (t : Int))) - 64)), .bool ((M : Int) * 18446744073709551616 % (K : Int) != 0)] w fun e w' => e = .returned (.int .u64 ((orn F ((fmt F).div a b) : Nat) : Int)) ∧ Below w.heap.size w w' := by
  have e1 := pe_le F E h.out.sm.fm a; have e2 := pe_le F E h.out.sm.fm b; have hu := h.out.u1; have ht := h.out.t1; refine dv_r h.out M 0 (by omega) (by omega) (by omega) _ ?_ w; rw [i64i (show -9223372036854775808 ≤ pe (fmt F) a - (u : Int) by omega) (by omega), i64i (show -9223372036854775808 ≤ pe (fmt F) b - (t : Int) by omega) (by omega), i64i (show -9223372036854775808 ≤ pe (fmt F) a - (u : Int) - (pe (fmt F) b - (t : Int)) by omega) (by omega), i64i (by omega) (by omega)]; omega
theorem lt64 {m : Nat} (h : m < 9007199254740992) : m < 18446744073709551616 := by omega
set_option maxHeartbeats 8000000 in
set_option maxRecDepth 100000 in
theorem div_w (F E : Int) (hF : Fm F E) (a b : Nat) (ha : a < 18446744073709551616) (hc : b < 18446744073709551616) (HN : Hid (Sm F E a b)) (w : World) : Calls Tryz.prog 108 #[.agg #[.int .i64 F, .int .i64 E], .int .u64 a, .int .u64 b] w fun e w' => e = .returned (.int .u64 ((orn F ((fmt F).div a b) : Nat) : Int)) ∧ Below w.heap.size w w' := by
  have HB := zm_ (Below.refl w.heap.size w); rcases hF with ⟨rfl, rfl⟩ | ⟨rfl, rfl⟩
  all_goals
    go_enter Tryz.func108, Tryz.ntmps108
    go_wp2_with (first | ((with_reducible refine gate_dst (N := 3) rfl ?_); (refine bx_ rfl ?_); intro gb w4 hbox hb; replace HB := zm_ (below_step bl2_ hb); have BK := zm_ hbox; clear hb hbox; obtain ⟨z0, z1, y0, y1⟩ := zz_ BK))
    replace BK := zm_ (blk_drew BK.out); replace HB := zm_ (below_drew1 HB.out); refine start_ (S := Hd gb _ _) (ds := []) (ba 8 0) (by kernel_rfl) rfl rfl (hd_ BK) (fun hH => ?_); refine pu_ 1 (some 20) (ba 8 2) ?_; refine pu_ 4 (some 23) (ba 8 18) ?_; refine ta_ 0 (some 19) (ba 8 19) ?_; refine ta_ 3 (some 22) (ba 8 27) ?_; refine og_ 2 (some 21) (ba 8 31) Tryz.func102 ?_; refine ox_ (neg_c _ _ fm_ _ (by assumption) _) BK HB (fun w4 BK HB hH => no_ ?_); refine og_ 5 (some 24) (ba 8 63) Tryz.func102 ?_; refine ox_ (neg_c _ _ fm_ _ (by assumption) _) BK HB (fun w4 BK HB hH => no_ ?_); refine pu_ 6 (some 25) (ba 8 127) ?_; refine pu_ 7 (some 7) (ba 8 255) ?_; refine done_ (by kernel_rfl) ?_; obtain ⟨z0, z1, y0, y1⟩ := zz_ BK; all_goals (try go_wp2_with (first | (go_at_call 103; (with_reducible refine (size_c _ _ fm_ _ (by assumption) _).mono ?_); refine cb_ BK HB ?_; intro w4 BK HB z0 z1 y0 y1) | (go_at_call 175; (with_reducible refine (inf_c _ _ fm_ _).mono ?_); refine cb_ BK HB ?_; intro w4 BK HB z0 z1 y0 y1) | (go_at_call 102; (with_reducible refine (neg_c _ _ fm_ _ (by assumption) _).mono ?_); refine cb_ BK HB ?_; intro w4 BK HB z0 z1 y0 y1) | (go_at_call 104; (with_reducible refine (nan_c _ _ fm_ _).mono ?_); refine cb_ BK HB ?_; intro w4 BK HB z0 z1 y0 y1) | (go_at_call 179; (with_reducible refine (parts_c _ _ fm_ _ (by assumption) _).mono ?_); refine cb_ BK HB ?_; intro w4 BK HB z0 z1 y0 y1) | (go_at_call 101; (with_reducible refine (signed_v _ _ fm_ _ _ (by first | exact inf_ok _ _ fm_ | exact z_ok _ _ fm_) _).mono ?_); refine cb_ BK HB ?_; intro w4 BK HB z0 z1 y0 y1)))
    all_goals
      replace BK := zm_ (blk_drew BK.out); replace HB := zm_ (below_drew1 HB.out); refine start_ (S := Hd gb _ _) (ds := []) (ba 8 0) (by kernel_rfl) rfl rfl (hd_ BK) (fun hH => ?_); refine pu_ 1 (some 27) (ba 8 2) ?_; refine pu_ 4 (some 30) (ba 8 18) ?_; refine ta_ 0 (some 26) (ba 8 19) ?_; refine ta_ 3 (some 29) (ba 8 27) ?_; refine og_ 2 (some 28) (ba 8 31) Tryz.func103 ?_; refine ox_ (size_c _ _ fm_ _ (by assumption) _) BK HB (fun w4 BK HB hH => no_ ?_); refine og_ 5 (some 31) (ba 8 63) Tryz.func103 ?_; refine ox_ (size_c _ _ fm_ _ (by assumption) _) BK HB (fun w4 BK HB hH => no_ ?_); refine pu_ 6 (some 8) (ba 8 127) ?_; refine pu_ 7 (some 9) (ba 8 255) ?_; refine done_ (by kernel_rfl) ?_; obtain ⟨z0, z1, y0, y1⟩ := zz_ BK
    all_goals go_upto_region 10 with (first | (go_at_call 103; (with_reducible refine (size_c _ _ fm_ _ (by assumption) _).mono ?_); refine cb_ BK HB ?_; intro w4 BK HB z0 z1 y0 y1) | (go_at_call 175; (with_reducible refine (inf_c _ _ fm_ _).mono ?_); refine cb_ BK HB ?_; intro w4 BK HB z0 z1 y0 y1) | (go_at_call 102; (with_reducible refine (neg_c _ _ fm_ _ (by assumption) _).mono ?_); refine cb_ BK HB ?_; intro w4 BK HB z0 z1 y0 y1) | (go_at_call 104; (with_reducible refine (nan_c _ _ fm_ _).mono ?_); refine cb_ BK HB ?_; intro w4 BK HB z0 z1 y0 y1) | (go_at_call 179; (with_reducible refine (parts_c _ _ fm_ _ (by assumption) _).mono ?_); refine cb_ BK HB ?_; intro w4 BK HB z0 z1 y0 y1) | (go_at_call 101; (with_reducible refine (signed_v _ _ fm_ _ _ (by first | exact inf_ok _ _ fm_ | exact z_ok _ _ fm_) _).mono ?_); refine cb_ BK HB ?_; intro w4 BK HB z0 z1 y0 y1))
    all_goals first
      | (go_ret; refine ⟨ret_int ?_, bl2_⟩; with_reducible first | exact dn1 HN.out (by assumption) (by assumption) | exact dn2 HN.out (by assumption) (by assumption) | exact di1 HN.out (by assumption) (by assumption) | exact di2 HN.out (by assumption) (by assumption) (by assumption) | exact dz1 HN.out (by assumption) (by assumption) | exact dz2 HN.out (by assumption) (by assumption) | exact dz3 HN.out (by assumption) (by assumption) (by assumption))
      | skip
    all_goals
      obtain ⟨u, t, M, K, M2, HU, HT, g1, g2, g3, g4, g5, g6, g7, HV⟩ := dv_pack HN.out (by assumption) (by assumption) (by assumption) (by assumption); go_wp2_with (first | (go_at_call 179; (with_reducible refine (parts_c _ _ fm_ _ (by assumption) _).mono ?_); refine cb_ BK HB ?_; intro w4 BK HB z0 z1 y0 y1) | (go_at_call 183; (first | (with_reducible refine (lead_n _ u (lt64 (pm_b _ _ fm_ _)) HU _).mono ?_) | (with_reducible refine (lead_n _ t (lt64 (pm_b _ _ fm_ _)) HT _).mono ?_)); refine cb_ BK HB ?_; intro w4 BK HB z0 z1 y0 y1) | (go_at_call 184; (first | (with_reducible refine (dv_one HV _).mono ?_) | (with_reducible refine (dv_two HV (by assumption) _).mono ?_)); refine cb_ BK HB ?_; intro w4 BK HB z0 z1 y0 y1) | (go_at_call 181; (first | (with_reducible refine (dv_r1 HV _).mono ?_) | (with_reducible refine (dv_r2 HV (by assumption) _).mono ?_)); refine cb_ BK HB ?_; intro w4 BK HB z0 z1 y0 y1))
    all_goals go_ret
    all_goals exact ⟨rfl, bl2_⟩
theorem div_c (F E : Int) (a b : Nat) (ha : a < 18446744073709551616) (hc : b < 18446744073709551616) (h : Sm F E a b) (w : World) : Calls Tryz.prog 108 #[.agg #[.int .i64 F, .int .i64 E], .int .u64 a, .int .u64 b] w fun e w' => e = .returned (.int .u64 ((orn F ((fmt F).div a b) : Nat) : Int)) ∧ Below w.heap.size w w' := div_w F E h.fm a b ha hc (Lib.hid h) w
end Go.Proofs.YtkhhhceeoljheaaGreatDoor
set_option linter.unusedVariables false
set_option maxHeartbeats 8000000
set_option maxRecDepth 100000
namespace Go.Proofs.YtkhhhceeoljheaaGreatDoor
open Go.RowKit Go.Proofs.YtkhhhceeoljheaaGreatDoor.Fl Ieee Go.Proofs.YtkhhhceeoljheaaGreatDoorW.PrintWords Go.Proofs.YtkhhhceeoljheaaGreatDoorW.PrintLast Go.Proofs.YtkhhhceeoljheaaGreatDoorW.PrintMore
theorem cmp_e (x y : Int) : (some (compare x y) == some Ordering.eq) = decide (x = y) := by
  rw [Bool.eq_iff_iff, beq_iff_eq, decide_eq_true_iff, Option.some.injEq, Int.compare_eq_eq]
theorem cmp_l (x y : Int) : (some (compare x y) == some Ordering.lt) = decide (x < y) := by
  rw [Bool.eq_iff_iff, beq_iff_eq, decide_eq_true_iff, Option.some.injEq, Int.compare_eq_lt]
theorem sr_z (f : Format) (a : Nat) : sr f a = 0 ↔ siz f a = 0 := by unfold sr; split <;> omega
theorem ord_z (F E : Int) (hF : Fm F E) (a : Nat) (h : siz (fmt F) a ≤ (fmt F).infRung) : ((fmt F).order a 0 == some .eq) = decide (siz (fmt F) a = 0) := by
  have s0 : siz (fmt F) 0 = 0 := Nat.zero_mod _; rw [order_eq (fmt F) (fm_p F E hF).2.2.2, (isN_lt _ _).2 h, (isN_lt (fmt F) 0).2 (by omega), Bool.or_self, if_neg (by decide), cmp_e, (sr_z (fmt F) 0).2 s0, decide_eq_decide]; exact sr_z _ _
theorem ord_l (F E : Int) (hF : Fm F E) (a b : Nat) (h : siz (fmt F) a ≤ (fmt F).infRung) (h2 : siz (fmt F) b ≤ (fmt F).infRung) : ((fmt F).order a b == some .lt) = decide (sr (fmt F) a < sr (fmt F) b) := by
  rw [order_eq (fmt F) (fm_p F E hF).2.2.2, (isN_lt _ _).2 h, (isN_lt _ _).2 h2, Bool.or_self, if_neg (by decide), cmp_l]
theorem ge_z (f : Format) (a : Nat) (h : a < 2 * f.signWeight) (h0 : siz f a = 0) : a = 0 ∨ a = f.signWeight := by
  have hp : 0 < f.signWeight := Nat.two_pow_pos _; unfold siz at h0; have := Nat.div_add_mod a f.signWeight; rw [h0] at this; have hq : a / f.signWeight < 2 := (Nat.div_lt_iff_lt_mul hp).2 h; generalize a / f.signWeight = q at *; have : q = 0 ∨ q = 1 := by omega
  rcases this with rfl | rfl <;> omega
def endV (F op : Int) (a b : Nat) : Nat := ends op ((fmt F).order a 0 == some .eq) ((fmt F).order b 0 == some .eq) ((fmt F).order a b == some .lt) (decide ((fmt F).signWeight ≤ a)) a b
theorem end_z {F E : Int} {a b : Nat} (h : Sm F E a b) (op : Int) (h0 : (bits .or .u64 ((siz (fmt F) a : Nat) : Int) ((siz (fmt F) b : Nat) : Int) == 0) = true) : siz (fmt F) a = 0 ∧ siz (fmt F) b = 0 ∧ endV F op a b = if ((op == 5) == decide ((fmt F).signWeight ≤ a)) then a else b := by
  rw [or0 (fmt F) a b (fm_b F E h.fm).2.2.2.2.1] at h0; obtain ⟨h1, h2⟩ := of_decide_eq_true h0; refine ⟨h1, h2, ?_⟩; unfold endV ends; rw [ord_z F E h.fm a h.a2, ord_z F E h.fm b h.b2, decide_eq_true h1, decide_eq_true h2]; cases ((op == 5) == decide ((fmt F).signWeight ≤ a)) <;> simp
theorem end_zmin {F E : Int} {a b : Nat} (h : Sm F E a b) (h0 : (bits .or .u64 ((siz (fmt F) a : Nat) : Int) ((siz (fmt F) b : Nat) : Int) == 0) = true) : bits .or .u64 (a : Int) (b : Int) = ((endV F 5 a b : Nat) : Int) := by
  obtain ⟨h1, h2, e⟩ := end_z h 5 h0; have hs := sw_p F E h.fm; rw [e, forN a b (by have := h.a1; omega) (by have := h.b1; omega)]; congr 1
  rcases ge_z _ a h.a1 h1 with ha | ha <;> rcases ge_z _ b h.b1 h2 with hb | hb <;> rw [ha, hb] <;> simp <;> omega
theorem end_zmax {F E : Int} {a b : Nat} (h : Sm F E a b) (h0 : (bits .or .u64 ((siz (fmt F) a : Nat) : Int) ((siz (fmt F) b : Nat) : Int) == 0) = true) : bits .and .u64 (a : Int) (b : Int) = ((endV F 6 a b : Nat) : Int) := by
  obtain ⟨h1, h2, e⟩ := end_z h 6 h0; have hs := sw_p F E h.fm; rw [e, fandN a b (by have := h.a1; omega) (by have := h.b1; omega)]; congr 1
  rcases ge_z _ a h.a1 h1 with ha | ha <;> rcases ge_z _ b h.b1 h2 with hb | hb <;> rw [ha, hb] <;> simp <;> omega
theorem end_n {F E : Int} {a b : Nat} (h : Sm F E a b) (op : Int) (h0 : (bits .or .u64 ((siz (fmt F) a : Nat) : Int) ((siz (fmt F) b : Nat) : Int) == 0) = false) : endV F op a b = if (decide (sr (fmt F) a < sr (fmt F) b) != (op == 5)) then b else a := by
  rw [or0 (fmt F) a b (fm_b F E h.fm).2.2.2.2.1] at h0; have h1 := of_decide_eq_false h0; unfold endV ends; rw [ord_z F E h.fm a h.a2, ord_z F E h.fm b h.b2, ord_l F E h.fm a b h.a2 h.b2]
  have : (decide (siz (fmt F) a = 0) && decide (siz (fmt F) b = 0)) = false := by
    rw [← Bool.decide_and]; exact decide_eq_false h1
  rw [this]; simp
theorem end_1 {F E : Int} {a b : Nat} (h : Sm F E a b) (h0 : (bits .or .u64 ((siz (fmt F) a : Nat) : Int) ((siz (fmt F) b : Nat) : Int) == 0) = false) (hl : (!decide (sr (fmt F) a < sr (fmt F) b)) = true) : (b : Int) = ((endV F 5 a b : Nat) : Int) := by
  have : decide (sr (fmt F) a < sr (fmt F) b) = false := by simpa using hl
  rw [end_n h 5 h0, this]; rfl
theorem end_2 {F E : Int} {a b : Nat} (h : Sm F E a b) (h0 : (bits .or .u64 ((siz (fmt F) a : Nat) : Int) ((siz (fmt F) b : Nat) : Int) == 0) = false) (hl : (!decide (sr (fmt F) a < sr (fmt F) b)) = false) : (a : Int) = ((endV F 5 a b : Nat) : Int) := by
  have : decide (sr (fmt F) a < sr (fmt F) b) = true := by simpa using hl
  rw [end_n h 5 h0, this]; rfl
theorem end_3 {F E : Int} {a b : Nat} (h : Sm F E a b) (h0 : (bits .or .u64 ((siz (fmt F) a : Nat) : Int) ((siz (fmt F) b : Nat) : Int) == 0) = false) (hl : sr (fmt F) a < sr (fmt F) b) : (b : Int) = ((endV F 6 a b : Nat) : Int) := by
  rw [end_n h 6 h0, decide_eq_true hl]; rfl
theorem end_4 {F E : Int} {a b : Nat} (h : Sm F E a b) (h0 : (bits .or .u64 ((siz (fmt F) a : Nat) : Int) ((siz (fmt F) b : Nat) : Int) == 0) = false) (hl : sr (fmt F) b ≤ sr (fmt F) a) : (a : Int) = ((endV F 6 a b : Nat) : Int) := by
  rw [end_n h 6 h0, decide_eq_false (by omega)]; rfl
theorem end_min (F E : Int) (hF : Fm F E) (a b : Nat) (ha : a < 18446744073709551616) (hc : b < 18446744073709551616) (HN : Hid (Sm F E a b)) (w : World) : Calls Tryz.prog 109 #[.agg #[.int .i64 F, .int .i64 E], .bool false, .int .u64 a, .int .u64 b] w fun e w' => e = .returned (.int .u64 ((endV F 5 a b : Nat) : Int)) ∧ Below w.heap.size w w' := by
  have HB := zm_ (Below.refl w.heap.size w); rcases hF with ⟨rfl, rfl⟩ | ⟨rfl, rfl⟩
  all_goals
    go_enter Tryz.func109, Tryz.ntmps109
    go_wp2_with (first | ((with_reducible refine gate_dst (N := 4) rfl ?_); (refine bx_ rfl ?_); intro gb w4 hbox hb; replace HB := zm_ (below_step bl2_ hb); have BK := zm_ hbox; clear hb hbox; obtain ⟨z0, z1, y0, y1⟩ := zz_ BK))
    replace BK := zm_ (blk_drew BK.out); replace HB := zm_ (below_drew1 HB.out); refine start_ (S := Hd gb _ _) (ds := []) (ba 8 0) (by kernel_rfl) rfl rfl (hd_ BK) (fun hH => ?_); refine pu_ 1 (some 10) (ba 8 2) ?_; refine pu_ 4 (some 13) (ba 8 18) ?_; refine ta_ 0 (some 9) (ba 8 19) ?_; refine ta_ 3 (some 12) (ba 8 27) ?_; refine og_ 2 (some 11) (ba 8 31) Tryz.func103 ?_; refine ox_ (size_c _ _ fm_ _ (by assumption) _) BK HB (fun w4 BK HB hH => no_ ?_); refine og_ 5 (some 14) (ba 8 63) Tryz.func103 ?_; refine ox_ (size_c _ _ fm_ _ (by assumption) _) BK HB (fun w4 BK HB hH => no_ ?_); refine pu_ 6 (some 15) (ba 8 127) ?_; refine pu_ 7 (some 16) (ba 8 255) ?_; refine done_ (by kernel_rfl) ?_; obtain ⟨z0, z1, y0, y1⟩ := zz_ BK; all_goals (try go_wp2_with (first | (go_at_call 91; (with_reducible refine (less_c _ _ fm_ _ (by assumption) _ (by assumption) _).mono ?_); refine cb_ BK HB ?_; intro w4 BK HB z0 z1 y0 y1)))
    all_goals go_ret
    all_goals refine ⟨ret_int ?_, bl2_⟩
    all_goals with_reducible first | exact end_zmin HN.out (by assumption) | exact end_zmax HN.out (by assumption) | exact end_1 HN.out (by assumption) (by assumption) | exact end_2 HN.out (by assumption) (by assumption) | exact end_3 HN.out (by assumption) (by assumption) | exact end_4 HN.out (by assumption) (by assumption)
theorem end_max (F E : Int) (hF : Fm F E) (a b : Nat) (ha : a < 18446744073709551616) (hc : b < 18446744073709551616) (HN : Hid (Sm F E a b)) (w : World) : Calls Tryz.prog 109 #[.agg #[.int .i64 F, .int .i64 E], .bool true, .int .u64 a, .int .u64 b] w fun e w' => e = .returned (.int .u64 ((endV F 6 a b : Nat) : Int)) ∧ Below w.heap.size w w' := by
  have HB := zm_ (Below.refl w.heap.size w); rcases hF with ⟨rfl, rfl⟩ | ⟨rfl, rfl⟩
  all_goals
    go_enter Tryz.func109, Tryz.ntmps109
    go_wp2_with (first | ((with_reducible refine gate_dst (N := 4) rfl ?_); (refine bx_ rfl ?_); intro gb w4 hbox hb; replace HB := zm_ (below_step bl2_ hb); have BK := zm_ hbox; clear hb hbox; obtain ⟨z0, z1, y0, y1⟩ := zz_ BK))
    replace BK := zm_ (blk_drew BK.out); replace HB := zm_ (below_drew1 HB.out); refine start_ (S := Hd gb _ _) (ds := []) (ba 8 0) (by kernel_rfl) rfl rfl (hd_ BK) (fun hH => ?_); refine pu_ 1 (some 10) (ba 8 2) ?_; refine pu_ 4 (some 13) (ba 8 18) ?_; refine ta_ 0 (some 9) (ba 8 19) ?_; refine ta_ 3 (some 12) (ba 8 27) ?_; refine og_ 2 (some 11) (ba 8 31) Tryz.func103 ?_; refine ox_ (size_c _ _ fm_ _ (by assumption) _) BK HB (fun w4 BK HB hH => no_ ?_); refine og_ 5 (some 14) (ba 8 63) Tryz.func103 ?_; refine ox_ (size_c _ _ fm_ _ (by assumption) _) BK HB (fun w4 BK HB hH => no_ ?_); refine pu_ 6 (some 15) (ba 8 127) ?_; refine pu_ 7 (some 16) (ba 8 255) ?_; refine done_ (by kernel_rfl) ?_; obtain ⟨z0, z1, y0, y1⟩ := zz_ BK; all_goals (try go_wp2_with (first | (go_at_call 91; (with_reducible refine (less_c _ _ fm_ _ (by assumption) _ (by assumption) _).mono ?_); refine cb_ BK HB ?_; intro w4 BK HB z0 z1 y0 y1)))
    all_goals go_ret
    all_goals refine ⟨ret_int ?_, bl2_⟩
    all_goals with_reducible first | exact end_zmin HN.out (by assumption) | exact end_zmax HN.out (by assumption) | exact end_1 HN.out (by assumption) (by assumption) | exact end_2 HN.out (by assumption) (by assumption) | exact end_3 HN.out (by assumption) (by assumption) | exact end_4 HN.out (by assumption) (by assumption)
end Go.Proofs.YtkhhhceeoljheaaGreatDoor

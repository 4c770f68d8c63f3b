import Derived.Test.YtkhhhceeoljheaaGreatDoorFxFpK
set_option linter.unusedVariables false
set_option linter.unusedSimpArgs false
set_option linter.unusedVariables false
set_option maxHeartbeats 8000000
set_option maxRecDepth 100000
namespace Go.Proofs.YtkhhhceeoljheaaGreatDoor
open Go.RowKit Go.Proofs.YtkhhhceeoljheaaGreatDoor.Fl Ieee Go.Proofs.YtkhhhceeoljheaaGreatDoorW.PrintWords Go.Proofs.YtkhhhceeoljheaaGreatDoorW.PrintLast Go.Proofs.YtkhhhceeoljheaaGreatDoorW.PrintMore
structure Wh (F E : Int) (a n rs hf q : Nat) : Prop where
  fm : Fm F E
  a1 : siz (fmt F) a < (fmt F).infRung
  a2 : pe (fmt F) a < 0
  n1 : min (-(pe (fmt F) a)).toNat 63 = n
  r1 : rs = pm (fmt F) a % 2 ^ n
  h1 : hf = 2 ^ (n - 1)
  q1 : q = pm (fmt F) a / 2 ^ n
theorem wh_pack {F E : Int} (hF : Fm F E) (a : Nat) (h1 : siz (fmt F) a < (fmt F).infRung) (h2 : pe (fmt F) a < 0) : ∃ n n1 rs hf q : Nat, ∃ PP PM : Int, min (wrap64 (-pe (fmt F) a)) 63 = (n : Int) ∧ IntKind.u64.wrap (n : Int) = (n : Int) ∧ min n 64 = n ∧ IntKind.u64.wrap ((2 : Int) ^ n) = PP ∧ IntKind.u64.wrap (PP - 1) = PM ∧ bits .and .u64 ((pm (fmt F) a : Nat) : Int) PM = (rs : Int) ∧ IntKind.u64.wrap ((n : Int) - 1) = (n1 : Int) ∧ min n1 64 = n1 ∧ IntKind.u64.wrap ((2 : Int) ^ n1) = (hf : Int) ∧ ((pm (fmt F) a : Nat) : Int) / 2 ^ n = (q : Int) ∧ (0 ≤ (q : Int) ∧ (q : Int) < 18446744073709551616) ∧ Hid (Wh F E a n rs hf q) := by
  have e1 := pe_le F E hF a; have hp := pm_b F E hF a; obtain ⟨n, hn⟩ : ∃ n, min (-(pe (fmt F) a)).toNat 63 = n := ⟨_, rfl⟩
  have hn1 : 1 ≤ n ∧ n ≤ 63 := by omega
  have c1 : (2 : Int) ^ n = ((2 ^ n : Nat) : Int) := by simp
  have c2 : (2 : Int) ^ (n - 1) = ((2 ^ (n - 1) : Nat) : Int) := by simp
  have b1 : 2 ^ n ≤ 2 ^ 63 := Nat.pow_le_pow_right (by omega) hn1.2; have b2 : 2 ^ (n - 1) ≤ 2 ^ 63 := Nat.pow_le_pow_right (by omega) (by omega); have b0 := Nat.two_pow_pos n; have w1 : IntKind.u64.wrap ((2 : Int) ^ n) = ((2 ^ n : Nat) : Int) := by rw [c1]; exact u64i (by omega) (by omega)
  have w2 : IntKind.u64.wrap (((2 ^ n : Nat) : Int) - 1) = ((2 ^ n - 1 : Nat) : Int) := by rw [u64i (by omega) (by omega)]; omega
  have hq := Nat.div_le_self (pm (fmt F) a) (2 ^ n); obtain ⟨q, hqq⟩ : ∃ q, pm (fmt F) a / 2 ^ n = q := ⟨_, rfl⟩
  rw [hqq] at hq; refine ⟨n, n - 1, _, 2 ^ (n - 1), q, _, _, ?_, u64i (by omega) (by omega), by omega, w1, w2, ?_, ?_, by omega, ?_, by rw [c1, ← Int.natCast_ediv, hqq], by omega, Lib.hid ⟨hF, h1, h2, hn, rfl, rfl, hqq.symm⟩⟩
  · rw [i64i (by omega) (by omega)]; omega
  · rw [fandN _ _ (by omega) (by omega), Nat.and_two_pow_sub_one_eq_mod]
  · rw [u64i (by omega) (by omega)]; omega
  · rw [c2]; exact u64i (Int.natCast_nonneg _) (by omega)
theorem wh_fin {F E : Int} {a n rs hf q : Nat} (h : Wh F E a n rs hf q) (op : Int) {k : Nat} (hk : cutg (wyo op) (neg (fmt F) a) (pm (fmt F) a) (2 ^ n) = k) : (((fmt F).word (neg (fmt F) a) (rung (fmt F) (2 * k) (-1)) : Nat) : Int) = ((whlF (fmt F) (wyo op) a : Nat) : Int) := by
  rw [whl_small (fmt F) (fm_b F E h.fm).1 (wyo op) a h.a1 h.a2 k (by rw [h.n1]; exact hk)]; rfl
theorem wh_qb {F E : Int} {a n rs hf q : Nat} (h : Wh F E a n rs hf q) : q < 9007199254740992 := by
  have h1 := pm_b F E h.fm a; have h2 := Nat.div_le_self (pm (fmt F) a) (2 ^ n); rw [← h.q1] at h2; omega
theorem wh_q1 {F E : Int} {a n rs hf q : Nat} (h : Wh F E a n rs hf q) : (IntKind.u64.wrap ((q : Int) + 1)).toNat = q + 1 := by
  have h1 := wh_qb h; rw [u64i (by omega) (by omega)]; omega
theorem wh_bne (r : Nat) (h : 0 < r) : (r != 0) = true := by rw [bne_iff_ne]; omega
theorem wh_4 {F E : Int} {a n rs hf q : Nat} (h : Wh F E a n rs hf q) : cutg (wyo 4) (neg (fmt F) a) (pm (fmt F) a) (2 ^ n) = q + (!neg (fmt F) a && rs != 0).toNat := by
  show pm (fmt F) a / 2 ^ n + (!neg (fmt F) a && pm (fmt F) a % 2 ^ n != 0).toNat = _
  rw [← h.q1, ← h.r1]
theorem wh_5 {F E : Int} {a n rs hf q : Nat} (h : Wh F E a n rs hf q) : cutg (wyo 5) (neg (fmt F) a) (pm (fmt F) a) (2 ^ n) = q + (neg (fmt F) a && rs != 0).toNat := by
  show pm (fmt F) a / 2 ^ n + (neg (fmt F) a && pm (fmt F) a % 2 ^ n != 0).toNat = _
  rw [← h.q1, ← h.r1]
theorem wh_41 {F E : Int} {a n rs hf q : Nat} (h : Hid (Wh F E a n rs hf q)) (h1 : 0 < rs) (h2 : (!neg (fmt F) a) = true) : (((fmt F).word (neg (fmt F) a) (rung (fmt F) (2 * (IntKind.u64.wrap ((q : Int) + 1)).toNat) (-1)) : Nat) : Int) = ((whlF (fmt F) (wyo 4) a : Nat) : Int) := by
  rw [wh_q1 h.out]; exact wh_fin h.out 4 (by rw [wh_4 h.out, h2, wh_bne rs h1]; rfl)
theorem wh_42 {F E : Int} {a n rs hf q : Nat} (h : Hid (Wh F E a n rs hf q)) (h2 : (!neg (fmt F) a) = false) : (((fmt F).word (neg (fmt F) a) (rung (fmt F) (2 * q) (-1)) : Nat) : Int) = ((whlF (fmt F) (wyo 4) a : Nat) : Int) :=
  wh_fin h.out 4 (by rw [wh_4 h.out, h2]; rfl)
theorem wh_43 {F E : Int} {a n rs hf q : Nat} (h : Hid (Wh F E a n rs hf q)) (h1 : ¬ 0 < rs) : (((fmt F).word (neg (fmt F) a) (rung (fmt F) (2 * q) (-1)) : Nat) : Int) = ((whlF (fmt F) (wyo 4) a : Nat) : Int) :=
  wh_fin h.out 4 (by rw [wh_4 h.out, show rs = 0 by omega]; simp)
theorem wh_51 {F E : Int} {a n rs hf q : Nat} (h : Hid (Wh F E a n rs hf q)) (h1 : 0 < rs) (h2 : neg (fmt F) a = true) : (((fmt F).word true (rung (fmt F) (2 * (IntKind.u64.wrap ((q : Int) + 1)).toNat) (-1)) : Nat) : Int) = ((whlF (fmt F) (wyo 5) a : Nat) : Int) := by
  rw [wh_q1 h.out]; have := wh_fin h.out 5 (k := q + 1) (by rw [wh_5 h.out, h2, wh_bne rs h1]; rfl); rw [h2] at this; exact this
theorem wh_52 {F E : Int} {a n rs hf q : Nat} (h : Hid (Wh F E a n rs hf q)) (h2 : neg (fmt F) a = false) : (((fmt F).word false (rung (fmt F) (2 * q) (-1)) : Nat) : Int) = ((whlF (fmt F) (wyo 5) a : Nat) : Int) := by
  have := wh_fin h.out 5 (k := q) (by rw [wh_5 h.out, h2]; rfl); rw [h2] at this; exact this
theorem wh_53 {F E : Int} {a n rs hf q : Nat} (h : Hid (Wh F E a n rs hf q)) (h1 : ¬ 0 < rs) : (((fmt F).word (neg (fmt F) a) (rung (fmt F) (2 * q) (-1)) : Nat) : Int) = ((whlF (fmt F) (wyo 5) a : Nat) : Int) :=
  wh_fin h.out 5 (by rw [wh_5 h.out, show rs = 0 by omega]; simp)
theorem wh_61 {F E : Int} {a n rs hf q : Nat} (h : Hid (Wh F E a n rs hf q)) : (((fmt F).word (neg (fmt F) a) (rung (fmt F) (2 * q) (-1)) : Nat) : Int) = ((whlF (fmt F) (wyo 6) a : Nat) : Int) := wh_fin h.out 6 h.out.q1.symm
theorem wh_two {F E : Int} {a n rs hf q : Nat} (h : Wh F E a n rs hf q) : 2 ^ n = 2 * hf := by
  have := h.n1; have := h.a2; rw [h.h1]; exact two_pow_split (by omega)
theorem wh_ev {F E : Int} {a n rs hf q : Nat} (h : Wh F E a n rs hf q) : cutg (wyo 7) (neg (fmt F) a) (pm (fmt F) a) (2 ^ n) = q + (if 2 * hf < 2 * rs ∨ (2 * hf = 2 * rs ∧ q % 2 = 1) then 1 else 0) := by
  show rne _ _ = _
  unfold rne; rw [← h.q1, ← h.r1, wh_two h]
theorem wh_71 {F E : Int} {a n rs hf q : Nat} (h : Hid (Wh F E a n rs hf q)) (h1 : (rs : Int) = (hf : Int)) (h2 : hf < rs ∨ (bits .and .u64 (q : Int) 1 == 1) = true) : (((fmt F).word (neg (fmt F) a) (rung (fmt F) (2 * (IntKind.u64.wrap ((q : Int) + 1)).toNat) (-1)) : Nat) : Int) = ((whlF (fmt F) (wyo 7) a : Nat) : Int) := by
  rw [rd_odd q (Nat.lt_trans (wh_qb h.out) (by decide)), beq_iff_eq] at h2; rw [wh_q1 h.out]; exact wh_fin h.out 7 (by rw [wh_ev h.out, if_pos (by omega)])
theorem wh_72 {F E : Int} {a n rs hf q : Nat} (h : Hid (Wh F E a n rs hf q)) (h1 : (rs : Int) = (hf : Int)) (h2 : ¬ hf < rs ∧ (bits .and .u64 (q : Int) 1 == 1) = false) : (((fmt F).word (neg (fmt F) a) (rung (fmt F) (2 * q) (-1)) : Nat) : Int) = ((whlF (fmt F) (wyo 7) a : Nat) : Int) := by
  rw [rd_odd q (Nat.lt_trans (wh_qb h.out) (by decide)), beq_eq_false_iff_ne] at h2; exact wh_fin h.out 7 (by rw [wh_ev h.out, if_neg (by omega)]; rfl)
theorem wh_73 {F E : Int} {a n rs hf q : Nat} (h : Hid (Wh F E a n rs hf q)) (h1 : rs ≤ hf) (h2 : ¬ (rs : Int) = (hf : Int)) : (((fmt F).word (neg (fmt F) a) (rung (fmt F) (2 * q) (-1)) : Nat) : Int) = ((whlF (fmt F) (wyo 7) a : Nat) : Int) :=
  wh_fin h.out 7 (by rw [wh_ev h.out, if_neg (by omega)]; rfl)
theorem wh_74 {F E : Int} {a n rs hf q : Nat} (h : Hid (Wh F E a n rs hf q)) (h1 : ¬ rs ≤ hf) : (((fmt F).word (neg (fmt F) a) (rung (fmt F) (2 * (IntKind.u64.wrap ((q : Int) + 1)).toNat) (-1)) : Nat) : Int) = ((whlF (fmt F) (wyo 7) a : Nat) : Int) := by
  rw [wh_q1 h.out]; exact wh_fin h.out 7 (by rw [wh_ev h.out, if_pos (by omega)])
theorem whole_d4 (F E : Int) (hF : Fm F E) (a : Nat) (ha : a < 18446744073709551616) (h1 : ¬ (fmt F).infRung ≤ siz (fmt F) a) (h2 : decide (0 ≤ pe (fmt F) a) = false) (h3 : (((pm (fmt F) a : Nat) : Int) == 0) = false) (n n1 rs hf q : Nat) (PP PM : Int) (g1 : min (wrap64 (-pe (fmt F) a)) 63 = (n : Int)) (g2 : IntKind.u64.wrap (n : Int) = (n : Int)) (g3 : min n 64 = n) (g4 : IntKind.u64.wrap ((2 : Int) ^ n) = PP) (g5 : IntKind.u64.wrap (PP - 1) = PM) (g6 : bits .and .u64 ((pm (fmt F) a : Nat) : Int) PM = (rs : Int)) (g7 : IntKind.u64.wrap ((n : Int) - 1) = (n1 : Int)) (g9 : min n1 64 = n1) (g10 : IntKind.u64.wrap ((2 : Int) ^ n1) = (hf : Int)) (g11 : ((pm (fmt F) a : Nat) : Int) / 2 ^ n = (q : Int)) (qb : 0 ≤ (q : Int) ∧ (q : Int) < 18446744073709551616) (HW : Hid (Wh F E a n rs hf q)) (w : World) : Calls Tryz.prog 178 #[.agg #[.int .i64 F, .int .i64 E], .int .i64 4, .int .u64 a] w fun e w' => e = .returned (.int .u64 ((whlF (fmt F) (wyo 4) a : Nat) : Int)) ∧ Below w.heap.size w w' := by
  have HB := zm_ (Below.refl w.heap.size w); rcases hF with ⟨rfl, rfl⟩ | ⟨rfl, rfl⟩
  all_goals
    go_enter Tryz.func178, Tryz.ntmps178
    go_wp2_with (first | ((with_reducible refine gate_dst (N := 3) rfl ?_); (refine bx_ rfl ?_); intro gb w4 hbox hb; replace HB := zm_ (below_step bl2_ hb); have BK := zm_ hbox; clear hb hbox; obtain ⟨z0, z1, y0, y1⟩ := zz_ BK) | (go_at_call 179; (with_reducible refine (parts_c _ _ fm_ _ (by assumption) _).mono ?_); refine cb_ BK HB ?_; intro w4 BK HB z0 z1 y0 y1))
    replace BK := zm_ (blk_drew BK.out); replace HB := zm_ (below_drew1 HB.out); refine start_ (S := Hd gb _ _) (ds := []) (ba 14 0) (by kernel_rfl) rfl rfl (hd_ BK) (fun hH => ?_); refine pu_ 1 (some 20) (ba 14 2) ?_; refine ta_ 0 (some 19) (ba 14 3) ?_; refine ta_ 3 (some 22) (ba 14 11) ?_; refine og_ 2 (some 21) (ba 14 15) Tryz.func103 ?_; refine ox_ (size_c _ _ fm_ _ (by assumption) _) BK HB (fun w4 BK HB hH => no_ ?_); refine og_ 4 (some 23) (ba 14 31) Tryz.func175 ?_; refine ox_ (inf_c _ _ fm_ _) BK HB (fun w4 BK HB hH => no_ ?_); refine pu_ 5 (some 24) (ba 14 63) ?_; refine pu_ 6 (some 25) (ba 14 127) ?_; refine pu_ 7 (some 26) (ba 14 255) ?_; refine pu_ 8 (some 27) (ba 14 511) ?_; refine pu_ 9 (some 28) (ba 14 1023) ?_; refine pu_ 10 (some 29) (ba 14 2047) ?_; refine pu_ 11 (some 30) (ba 14 4095) ?_; refine pu_ 12 (some 31) (ba 14 8191) ?_; refine pu_ 13 (some 32) (ba 14 16383) ?_; refine done_ (by kernel_rfl) ?_; obtain ⟨z0, z1, y0, y1⟩ := zz_ BK; all_goals (try go_wp2_with (first | (go_at_call 102; (with_reducible refine (neg_c _ _ fm_ _ (by assumption) _).mono ?_); refine cb_ BK HB ?_; intro w4 BK HB z0 z1 y0 y1) | (go_at_call 103; (with_reducible refine (size_c _ _ fm_ _ (by assumption) _).mono ?_); refine cb_ BK HB ?_; intro w4 BK HB z0 z1 y0 y1) | (go_at_call 175; (with_reducible refine (inf_c _ _ fm_ _).mono ?_); refine cb_ BK HB ?_; intro w4 BK HB z0 z1 y0 y1) | (go_at_call 179; (with_reducible refine (parts_c _ _ fm_ _ (by assumption) _).mono ?_); refine cb_ BK HB ?_; intro w4 BK HB z0 z1 y0 y1)))
    all_goals
      replace BK := zm_ (blk_drew BK.out); replace HB := zm_ (below_drew1 HB.out); refine start_ (S := Hd gb _ _) (ds := []) (ba 7 0) (by kernel_rfl) rfl rfl (hd_ BK) (fun hH => ?_); refine pu_ 2 (some 91) (ba 7 4) ?_; refine pu_ 4 (some 93) (ba 7 20) ?_; refine ta_ 0 (some 89) (ba 7 21) ?_; refine ta_ 1 (some 90) (ba 7 23) ?_; refine og_ 3 (some 92) (ba 7 31) Tryz.func102 ?_; refine ox_ (neg_c _ _ fm_ _ (by assumption) _) BK HB (fun w4 BK HB hH => no_ ?_); refine og_ 5 (some 94) (ba 7 63) Tryz.func181 ?_; refine ox_ (round_v _ _ fm_ _ _ (by first | exact qb | exact w_b) _ (by decide) _ nomore _) BK HB (fun w4 BK HB hH => no_ ?_); refine pu_ 6 (some 6) (ba 7 127) ?_; refine done_ (by kernel_rfl) ?_; obtain ⟨z0, z1, y0, y1⟩ := zz_ BK
    all_goals (try go_wp2_with fail)
    all_goals go_ret
    all_goals refine ⟨ret_int ?_, bl2_⟩
    all_goals with_reducible first | exact wh_41 HW (by assumption) (by assumption) | exact wh_42 HW (by assumption) | exact wh_43 HW (by assumption)
theorem whole_d5 (F E : Int) (hF : Fm F E) (a : Nat) (ha : a < 18446744073709551616) (h1 : ¬ (fmt F).infRung ≤ siz (fmt F) a) (h2 : decide (0 ≤ pe (fmt F) a) = false) (h3 : (((pm (fmt F) a : Nat) : Int) == 0) = false) (n n1 rs hf q : Nat) (PP PM : Int) (g1 : min (wrap64 (-pe (fmt F) a)) 63 = (n : Int)) (g2 : IntKind.u64.wrap (n : Int) = (n : Int)) (g3 : min n 64 = n) (g4 : IntKind.u64.wrap ((2 : Int) ^ n) = PP) (g5 : IntKind.u64.wrap (PP - 1) = PM) (g6 : bits .and .u64 ((pm (fmt F) a : Nat) : Int) PM = (rs : Int)) (g7 : IntKind.u64.wrap ((n : Int) - 1) = (n1 : Int)) (g9 : min n1 64 = n1) (g10 : IntKind.u64.wrap ((2 : Int) ^ n1) = (hf : Int)) (g11 : ((pm (fmt F) a : Nat) : Int) / 2 ^ n = (q : Int)) (qb : 0 ≤ (q : Int) ∧ (q : Int) < 18446744073709551616) (HW : Hid (Wh F E a n rs hf q)) (w : World) : Calls Tryz.prog 178 #[.agg #[.int .i64 F, .int .i64 E], .int .i64 5, .int .u64 a] w fun e w' => e = .returned (.int .u64 ((whlF (fmt F) (wyo 5) a : Nat) : Int)) ∧ Below w.heap.size w w' := by
  have HB := zm_ (Below.refl w.heap.size w); rcases hF with ⟨rfl, rfl⟩ | ⟨rfl, rfl⟩
  all_goals
    go_enter Tryz.func178, Tryz.ntmps178
    go_wp2_with (first | ((with_reducible refine gate_dst (N := 3) rfl ?_); (refine bx_ rfl ?_); intro gb w4 hbox hb; replace HB := zm_ (below_step bl2_ hb); have BK := zm_ hbox; clear hb hbox; obtain ⟨z0, z1, y0, y1⟩ := zz_ BK) | (go_at_call 179; (with_reducible refine (parts_c _ _ fm_ _ (by assumption) _).mono ?_); refine cb_ BK HB ?_; intro w4 BK HB z0 z1 y0 y1))
    replace BK := zm_ (blk_drew BK.out); replace HB := zm_ (below_drew1 HB.out); refine start_ (S := Hd gb _ _) (ds := []) (ba 14 0) (by kernel_rfl) rfl rfl (hd_ BK) (fun hH => ?_); refine pu_ 1 (some 20) (ba 14 2) ?_; refine ta_ 0 (some 19) (ba 14 3) ?_; refine ta_ 3 (some 22) (ba 14 11) ?_; refine og_ 2 (some 21) (ba 14 15) Tryz.func103 ?_; refine ox_ (size_c _ _ fm_ _ (by assumption) _) BK HB (fun w4 BK HB hH => no_ ?_); refine og_ 4 (some 23) (ba 14 31) Tryz.func175 ?_; refine ox_ (inf_c _ _ fm_ _) BK HB (fun w4 BK HB hH => no_ ?_); refine pu_ 5 (some 24) (ba 14 63) ?_; refine pu_ 6 (some 25) (ba 14 127) ?_; refine pu_ 7 (some 26) (ba 14 255) ?_; refine pu_ 8 (some 27) (ba 14 511) ?_; refine pu_ 9 (some 28) (ba 14 1023) ?_; refine pu_ 10 (some 29) (ba 14 2047) ?_; refine pu_ 11 (some 30) (ba 14 4095) ?_; refine pu_ 12 (some 31) (ba 14 8191) ?_; refine pu_ 13 (some 32) (ba 14 16383) ?_; refine done_ (by kernel_rfl) ?_; obtain ⟨z0, z1, y0, y1⟩ := zz_ BK; all_goals (try go_wp2_with (first | (go_at_call 102; (with_reducible refine (neg_c _ _ fm_ _ (by assumption) _).mono ?_); refine cb_ BK HB ?_; intro w4 BK HB z0 z1 y0 y1) | (go_at_call 103; (with_reducible refine (size_c _ _ fm_ _ (by assumption) _).mono ?_); refine cb_ BK HB ?_; intro w4 BK HB z0 z1 y0 y1) | (go_at_call 175; (with_reducible refine (inf_c _ _ fm_ _).mono ?_); refine cb_ BK HB ?_; intro w4 BK HB z0 z1 y0 y1) | (go_at_call 179; (with_reducible refine (parts_c _ _ fm_ _ (by assumption) _).mono ?_); refine cb_ BK HB ?_; intro w4 BK HB z0 z1 y0 y1)))
    all_goals
      replace BK := zm_ (blk_drew BK.out); replace HB := zm_ (below_drew1 HB.out); refine start_ (S := Hd gb _ _) (ds := []) (ba 7 0) (by kernel_rfl) rfl rfl (hd_ BK) (fun hH => ?_); refine pu_ 2 (some 91) (ba 7 4) ?_; refine pu_ 4 (some 93) (ba 7 20) ?_; refine ta_ 0 (some 89) (ba 7 21) ?_; refine ta_ 1 (some 90) (ba 7 23) ?_; refine og_ 3 (some 92) (ba 7 31) Tryz.func102 ?_; refine ox_ (neg_c _ _ fm_ _ (by assumption) _) BK HB (fun w4 BK HB hH => no_ ?_); refine og_ 5 (some 94) (ba 7 63) Tryz.func181 ?_; refine ox_ (round_v _ _ fm_ _ _ (by first | exact qb | exact w_b) _ (by decide) _ nomore _) BK HB (fun w4 BK HB hH => no_ ?_); refine pu_ 6 (some 6) (ba 7 127) ?_; refine done_ (by kernel_rfl) ?_; obtain ⟨z0, z1, y0, y1⟩ := zz_ BK
    all_goals (try go_wp2_with fail)
    all_goals go_ret
    all_goals refine ⟨ret_int ?_, bl2_⟩
    all_goals with_reducible first | exact wh_51 HW (by assumption) (by assumption) | exact wh_52 HW (by assumption) | exact wh_53 HW (by assumption)
theorem whole_d6 (F E : Int) (hF : Fm F E) (a : Nat) (ha : a < 18446744073709551616) (h1 : ¬ (fmt F).infRung ≤ siz (fmt F) a) (h2 : decide (0 ≤ pe (fmt F) a) = false) (h3 : (((pm (fmt F) a : Nat) : Int) == 0) = false) (n n1 rs hf q : Nat) (PP PM : Int) (g1 : min (wrap64 (-pe (fmt F) a)) 63 = (n : Int)) (g2 : IntKind.u64.wrap (n : Int) = (n : Int)) (g3 : min n 64 = n) (g4 : IntKind.u64.wrap ((2 : Int) ^ n) = PP) (g5 : IntKind.u64.wrap (PP - 1) = PM) (g6 : bits .and .u64 ((pm (fmt F) a : Nat) : Int) PM = (rs : Int)) (g7 : IntKind.u64.wrap ((n : Int) - 1) = (n1 : Int)) (g9 : min n1 64 = n1) (g10 : IntKind.u64.wrap ((2 : Int) ^ n1) = (hf : Int)) (g11 : ((pm (fmt F) a : Nat) : Int) / 2 ^ n = (q : Int)) (qb : 0 ≤ (q : Int) ∧ (q : Int) < 18446744073709551616) (HW : Hid (Wh F E a n rs hf q)) (w : World) : Calls Tryz.prog 178 #[.agg #[.int .i64 F, .int .i64 E], .int .i64 6, .int .u64 a] w fun e w' => e = .returned (.int .u64 ((whlF (fmt F) (wyo 6) a : Nat) : Int)) ∧ Below w.heap.size w w' := by
  have HB := zm_ (Below.refl w.heap.size w); rcases hF with ⟨rfl, rfl⟩ | ⟨rfl, rfl⟩
  all_goals
    go_enter Tryz.func178, Tryz.ntmps178
    go_wp2_with (first | ((with_reducible refine gate_dst (N := 3) rfl ?_); (refine bx_ rfl ?_); intro gb w4 hbox hb; replace HB := zm_ (below_step bl2_ hb); have BK := zm_ hbox; clear hb hbox; obtain ⟨z0, z1, y0, y1⟩ := zz_ BK) | (go_at_call 179; (with_reducible refine (parts_c _ _ fm_ _ (by assumption) _).mono ?_); refine cb_ BK HB ?_; intro w4 BK HB z0 z1 y0 y1))
    replace BK := zm_ (blk_drew BK.out); replace HB := zm_ (below_drew1 HB.out); refine start_ (S := Hd gb _ _) (ds := []) (ba 14 0) (by kernel_rfl) rfl rfl (hd_ BK) (fun hH => ?_); refine pu_ 1 (some 20) (ba 14 2) ?_; refine ta_ 0 (some 19) (ba 14 3) ?_; refine ta_ 3 (some 22) (ba 14 11) ?_; refine og_ 2 (some 21) (ba 14 15) Tryz.func103 ?_; refine ox_ (size_c _ _ fm_ _ (by assumption) _) BK HB (fun w4 BK HB hH => no_ ?_); refine og_ 4 (some 23) (ba 14 31) Tryz.func175 ?_; refine ox_ (inf_c _ _ fm_ _) BK HB (fun w4 BK HB hH => no_ ?_); refine pu_ 5 (some 24) (ba 14 63) ?_; refine pu_ 6 (some 25) (ba 14 127) ?_; refine pu_ 7 (some 26) (ba 14 255) ?_; refine pu_ 8 (some 27) (ba 14 511) ?_; refine pu_ 9 (some 28) (ba 14 1023) ?_; refine pu_ 10 (some 29) (ba 14 2047) ?_; refine pu_ 11 (some 30) (ba 14 4095) ?_; refine pu_ 12 (some 31) (ba 14 8191) ?_; refine pu_ 13 (some 32) (ba 14 16383) ?_; refine done_ (by kernel_rfl) ?_; obtain ⟨z0, z1, y0, y1⟩ := zz_ BK; all_goals (try go_wp2_with (first | (go_at_call 102; (with_reducible refine (neg_c _ _ fm_ _ (by assumption) _).mono ?_); refine cb_ BK HB ?_; intro w4 BK HB z0 z1 y0 y1) | (go_at_call 103; (with_reducible refine (size_c _ _ fm_ _ (by assumption) _).mono ?_); refine cb_ BK HB ?_; intro w4 BK HB z0 z1 y0 y1) | (go_at_call 175; (with_reducible refine (inf_c _ _ fm_ _).mono ?_); refine cb_ BK HB ?_; intro w4 BK HB z0 z1 y0 y1) | (go_at_call 179; (with_reducible refine (parts_c _ _ fm_ _ (by assumption) _).mono ?_); refine cb_ BK HB ?_; intro w4 BK HB z0 z1 y0 y1)))
    all_goals
      replace BK := zm_ (blk_drew BK.out); replace HB := zm_ (below_drew1 HB.out); refine start_ (S := Hd gb _ _) (ds := []) (ba 7 0) (by kernel_rfl) rfl rfl (hd_ BK) (fun hH => ?_); refine pu_ 2 (some 91) (ba 7 4) ?_; refine pu_ 4 (some 93) (ba 7 20) ?_; refine ta_ 0 (some 89) (ba 7 21) ?_; refine ta_ 1 (some 90) (ba 7 23) ?_; refine og_ 3 (some 92) (ba 7 31) Tryz.func102 ?_; refine ox_ (neg_c _ _ fm_ _ (by assumption) _) BK HB (fun w4 BK HB hH => no_ ?_); refine og_ 5 (some 94) (ba 7 63) Tryz.func181 ?_; refine ox_ (round_v _ _ fm_ _ _ (by first | exact qb | exact w_b) _ (by decide) _ nomore _) BK HB (fun w4 BK HB hH => no_ ?_); refine pu_ 6 (some 6) (ba 7 127) ?_; refine done_ (by kernel_rfl) ?_; obtain ⟨z0, z1, y0, y1⟩ := zz_ BK
    all_goals (try go_wp2_with fail)
    all_goals go_ret
    all_goals refine ⟨ret_int ?_, bl2_⟩
    all_goals with_reducible first | exact wh_61 HW
theorem whole_d7 (F E : Int) (hF : Fm F E) (a : Nat) (ha : a < 18446744073709551616) (h1 : ¬ (fmt F).infRung ≤ siz (fmt F) a) (h2 : decide (0 ≤ pe (fmt F) a) = false) (h3 : (((pm (fmt F) a : Nat) : Int) == 0) = false) (n n1 rs hf q : Nat) (PP PM : Int) (g1 : min (wrap64 (-pe (fmt F) a)) 63 = (n : Int)) (g2 : IntKind.u64.wrap (n : Int) = (n : Int)) (g3 : min n 64 = n) (g4 : IntKind.u64.wrap ((2 : Int) ^ n) = PP) (g5 : IntKind.u64.wrap (PP - 1) = PM) (g6 : bits .and .u64 ((pm (fmt F) a : Nat) : Int) PM = (rs : Int)) (g7 : IntKind.u64.wrap ((n : Int) - 1) = (n1 : Int)) (g9 : min n1 64 = n1) (g10 : IntKind.u64.wrap ((2 : Int) ^ n1) = (hf : Int)) (g11 : ((pm (fmt F) a : Nat) : Int) / 2 ^ n = (q : Int)) (qb : 0 ≤ (q : Int) ∧ (q : Int) < 18446744073709551616) (HW : Hid (Wh F E a n rs hf q)) (w : World) : Calls Tryz.prog 178 #[.agg #[.int .i64 F, .int .i64 E], .int .i64 7, .int .u64 a] w fun e w' => e = .returned (.int .u64 ((whlF (fmt F) (wyo 7) a : Nat) : Int)) ∧ Below w.heap.size w w' := by
  have HB := zm_ (Below.refl w.heap.size w); rcases hF with ⟨rfl, rfl⟩ | ⟨rfl, rfl⟩
  all_goals
    go_enter Tryz.func178, Tryz.ntmps178
    go_wp2_with (first | ((with_reducible refine gate_dst (N := 3) rfl ?_); (refine bx_ rfl ?_); intro gb w4 hbox hb; replace HB := zm_ (below_step bl2_ hb); have BK := zm_ hbox; clear hb hbox; obtain ⟨z0, z1, y0, y1⟩ := zz_ BK) | (go_at_call 179; (with_reducible refine (parts_c _ _ fm_ _ (by assumption) _).mono ?_); refine cb_ BK HB ?_; intro w4 BK HB z0 z1 y0 y1))
    replace BK := zm_ (blk_drew BK.out); replace HB := zm_ (below_drew1 HB.out); refine start_ (S := Hd gb _ _) (ds := []) (ba 14 0) (by kernel_rfl) rfl rfl (hd_ BK) (fun hH => ?_); refine pu_ 1 (some 20) (ba 14 2) ?_; refine ta_ 0 (some 19) (ba 14 3) ?_; refine ta_ 3 (some 22) (ba 14 11) ?_; refine og_ 2 (some 21) (ba 14 15) Tryz.func103 ?_; refine ox_ (size_c _ _ fm_ _ (by assumption) _) BK HB (fun w4 BK HB hH => no_ ?_); refine og_ 4 (some 23) (ba 14 31) Tryz.func175 ?_; refine ox_ (inf_c _ _ fm_ _) BK HB (fun w4 BK HB hH => no_ ?_); refine pu_ 5 (some 24) (ba 14 63) ?_; refine pu_ 6 (some 25) (ba 14 127) ?_; refine pu_ 7 (some 26) (ba 14 255) ?_; refine pu_ 8 (some 27) (ba 14 511) ?_; refine pu_ 9 (some 28) (ba 14 1023) ?_; refine pu_ 10 (some 29) (ba 14 2047) ?_; refine pu_ 11 (some 30) (ba 14 4095) ?_; refine pu_ 12 (some 31) (ba 14 8191) ?_; refine pu_ 13 (some 32) (ba 14 16383) ?_; refine done_ (by kernel_rfl) ?_; obtain ⟨z0, z1, y0, y1⟩ := zz_ BK; all_goals (try go_wp2_with (first | (go_at_call 102; (with_reducible refine (neg_c _ _ fm_ _ (by assumption) _).mono ?_); refine cb_ BK HB ?_; intro w4 BK HB z0 z1 y0 y1) | (go_at_call 103; (with_reducible refine (size_c _ _ fm_ _ (by assumption) _).mono ?_); refine cb_ BK HB ?_; intro w4 BK HB z0 z1 y0 y1) | (go_at_call 175; (with_reducible refine (inf_c _ _ fm_ _).mono ?_); refine cb_ BK HB ?_; intro w4 BK HB z0 z1 y0 y1) | (go_at_call 179; (with_reducible refine (parts_c _ _ fm_ _ (by assumption) _).mono ?_); refine cb_ BK HB ?_; intro w4 BK HB z0 z1 y0 y1)))
    all_goals
      replace BK := zm_ (blk_drew BK.out); replace HB := zm_ (below_drew1 HB.out); refine start_ (S := Hd gb _ _) (ds := []) (ba 7 0) (by kernel_rfl) rfl rfl (hd_ BK) (fun hH => ?_); refine pu_ 2 (some 91) (ba 7 4) ?_; refine pu_ 4 (some 93) (ba 7 20) ?_; refine ta_ 0 (some 89) (ba 7 21) ?_; refine ta_ 1 (some 90) (ba 7 23) ?_; refine og_ 3 (some 92) (ba 7 31) Tryz.func102 ?_; refine ox_ (neg_c _ _ fm_ _ (by assumption) _) BK HB (fun w4 BK HB hH => no_ ?_); refine og_ 5 (some 94) (ba 7 63) Tryz.func181 ?_; refine ox_ (round_v _ _ fm_ _ _ (by first | exact qb | exact w_b) _ (by decide) _ nomore _) BK HB (fun w4 BK HB hH => no_ ?_); refine pu_ 6 (some 6) (ba 7 127) ?_; refine done_ (by kernel_rfl) ?_; obtain ⟨z0, z1, y0, y1⟩ := zz_ BK
    all_goals (try go_wp2_with fail)
    all_goals go_ret
    all_goals refine ⟨ret_int ?_, bl2_⟩
    all_goals with_reducible first | exact wh_71 HW (by assumption) (by assumption) | exact wh_72 HW (by assumption) (by assumption) | exact wh_73 HW (by assumption) (by assumption) | exact wh_74 HW (by assumption)
theorem whole_a (F E : Int) (hF : Fm F E) (op : Int) (a : Nat) (ha : a < 18446744073709551616) (h1 : (fmt F).infRung ≤ siz (fmt F) a) (w : World) : Calls Tryz.prog 178 #[.agg #[.int .i64 F, .int .i64 E], .int .i64 op, .int .u64 a] w fun e w' => e = .returned (.int .u64 (a : Int)) ∧ Below w.heap.size w w' := by
  have HB := zm_ (Below.refl w.heap.size w); rcases hF with ⟨rfl, rfl⟩ | ⟨rfl, rfl⟩
  all_goals
    go_enter Tryz.func178, Tryz.ntmps178
    go_wp2_with (first | ((with_reducible refine gate_dst (N := 3) rfl ?_); (refine bx_ rfl ?_); intro gb w4 hbox hb; replace HB := zm_ (below_step bl2_ hb); have BK := zm_ hbox; clear hb hbox; obtain ⟨z0, z1, y0, y1⟩ := zz_ BK) | (go_at_call 179; (with_reducible refine (parts_c _ _ fm_ _ (by assumption) _).mono ?_); refine cb_ BK HB ?_; intro w4 BK HB z0 z1 y0 y1))
    replace BK := zm_ (blk_drew BK.out); replace HB := zm_ (below_drew1 HB.out); refine start_ (S := Hd gb _ _) (ds := []) (ba 14 0) (by kernel_rfl) rfl rfl (hd_ BK) (fun hH => ?_); refine pu_ 1 (some 20) (ba 14 2) ?_; refine ta_ 0 (some 19) (ba 14 3) ?_; refine ta_ 3 (some 22) (ba 14 11) ?_; refine og_ 2 (some 21) (ba 14 15) Tryz.func103 ?_; refine ox_ (size_c _ _ fm_ _ (by assumption) _) BK HB (fun w4 BK HB hH => no_ ?_); refine og_ 4 (some 23) (ba 14 31) Tryz.func175 ?_; refine ox_ (inf_c _ _ fm_ _) BK HB (fun w4 BK HB hH => no_ ?_); refine pu_ 5 (some 24) (ba 14 63) ?_; refine pu_ 6 (some 25) (ba 14 127) ?_; refine un_ 7 (some 26) (ba 14 255) ?_; refine un_ 8 (some 27) (ba 14 511) ?_; refine pu_ 9 (some 28) (ba 14 1023) ?_; refine pu_ 10 (some 29) (ba 14 2047) ?_; refine un_ 11 (some 30) (ba 14 4095) ?_; refine un_ 12 (some 31) (ba 14 8191) ?_; refine pu_ 13 (some 32) (ba 14 16383) ?_; refine done_ (by kernel_rfl) ?_; obtain ⟨z0, z1, y0, y1⟩ := zz_ BK; all_goals go_wp2_with fail
    all_goals go_ret
    all_goals exact ⟨rfl, bl2_⟩
theorem whole_b (F E : Int) (hF : Fm F E) (op : Int) (a : Nat) (ha : a < 18446744073709551616) (h1 : ¬ (fmt F).infRung ≤ siz (fmt F) a) (h2 : decide (0 ≤ pe (fmt F) a) = true) (w : World) : Calls Tryz.prog 178 #[.agg #[.int .i64 F, .int .i64 E], .int .i64 op, .int .u64 a] w fun e w' => e = .returned (.int .u64 (a : Int)) ∧ Below w.heap.size w w' := by
  have HB := zm_ (Below.refl w.heap.size w); rcases hF with ⟨rfl, rfl⟩ | ⟨rfl, rfl⟩
  all_goals
    go_enter Tryz.func178, Tryz.ntmps178
    go_wp2_with (first | ((with_reducible refine gate_dst (N := 3) rfl ?_); (refine bx_ rfl ?_); intro gb w4 hbox hb; replace HB := zm_ (below_step bl2_ hb); have BK := zm_ hbox; clear hb hbox; obtain ⟨z0, z1, y0, y1⟩ := zz_ BK) | (go_at_call 179; (with_reducible refine (parts_c _ _ fm_ _ (by assumption) _).mono ?_); refine cb_ BK HB ?_; intro w4 BK HB z0 z1 y0 y1))
    replace BK := zm_ (blk_drew BK.out); replace HB := zm_ (below_drew1 HB.out); refine start_ (S := Hd gb _ _) (ds := []) (ba 14 0) (by kernel_rfl) rfl rfl (hd_ BK) (fun hH => ?_); refine pu_ 1 (some 20) (ba 14 2) ?_; refine ta_ 0 (some 19) (ba 14 3) ?_; refine ta_ 3 (some 22) (ba 14 11) ?_; refine og_ 2 (some 21) (ba 14 15) Tryz.func103 ?_; refine ox_ (size_c _ _ fm_ _ (by assumption) _) BK HB (fun w4 BK HB hH => no_ ?_); refine og_ 4 (some 23) (ba 14 31) Tryz.func175 ?_; refine ox_ (inf_c _ _ fm_ _) BK HB (fun w4 BK HB hH => no_ ?_); refine pu_ 5 (some 24) (ba 14 63) ?_; refine pu_ 6 (some 25) (ba 14 127) ?_; refine pu_ 7 (some 26) (ba 14 255) ?_; refine pu_ 8 (some 27) (ba 14 511) ?_; refine pu_ 9 (some 28) (ba 14 1023) ?_; refine pu_ 10 (some 29) (ba 14 2047) ?_; refine un_ 11 (some 30) (ba 14 4095) ?_; refine un_ 12 (some 31) (ba 14 8191) ?_; refine pu_ 13 (some 32) (ba 14 16383) ?_; refine done_ (by kernel_rfl) ?_; obtain ⟨z0, z1, y0, y1⟩ := zz_ BK; all_goals go_wp2_with fail
    all_goals go_ret
    all_goals exact ⟨rfl, bl2_⟩
theorem whole_c0 (F E : Int) (hF : Fm F E) (op : Int) (a : Nat) (ha : a < 18446744073709551616) (h1 : ¬ (fmt F).infRung ≤ siz (fmt F) a) (h2 : decide (0 ≤ pe (fmt F) a) = false) (h3 : (((pm (fmt F) a : Nat) : Int) == 0) = true) (w : World) : Calls Tryz.prog 178 #[.agg #[.int .i64 F, .int .i64 E], .int .i64 op, .int .u64 a] w fun e w' => e = .returned (.int .u64 (a : Int)) ∧ Below w.heap.size w w' := by
  have HB := zm_ (Below.refl w.heap.size w); rcases hF with ⟨rfl, rfl⟩ | ⟨rfl, rfl⟩
  all_goals
    go_enter Tryz.func178, Tryz.ntmps178
    go_wp2_with (first | ((with_reducible refine gate_dst (N := 3) rfl ?_); (refine bx_ rfl ?_); intro gb w4 hbox hb; replace HB := zm_ (below_step bl2_ hb); have BK := zm_ hbox; clear hb hbox; obtain ⟨z0, z1, y0, y1⟩ := zz_ BK) | (go_at_call 179; (with_reducible refine (parts_c _ _ fm_ _ (by assumption) _).mono ?_); refine cb_ BK HB ?_; intro w4 BK HB z0 z1 y0 y1))
    replace BK := zm_ (blk_drew BK.out); replace HB := zm_ (below_drew1 HB.out); refine start_ (S := Hd gb _ _) (ds := []) (ba 14 0) (by kernel_rfl) rfl rfl (hd_ BK) (fun hH => ?_); refine pu_ 1 (some 20) (ba 14 2) ?_; refine ta_ 0 (some 19) (ba 14 3) ?_; refine ta_ 3 (some 22) (ba 14 11) ?_; refine og_ 2 (some 21) (ba 14 15) Tryz.func103 ?_; refine ox_ (size_c _ _ fm_ _ (by assumption) _) BK HB (fun w4 BK HB hH => no_ ?_); refine og_ 4 (some 23) (ba 14 31) Tryz.func175 ?_; refine ox_ (inf_c _ _ fm_ _) BK HB (fun w4 BK HB hH => no_ ?_); refine pu_ 5 (some 24) (ba 14 63) ?_; refine pu_ 6 (some 25) (ba 14 127) ?_; refine pu_ 7 (some 26) (ba 14 255) ?_; refine pu_ 8 (some 27) (ba 14 511) ?_; refine pu_ 9 (some 28) (ba 14 1023) ?_; refine pu_ 10 (some 29) (ba 14 2047) ?_; refine pu_ 11 (some 30) (ba 14 4095) ?_; refine pu_ 12 (some 31) (ba 14 8191) ?_; refine pu_ 13 (some 32) (ba 14 16383) ?_; refine done_ (by kernel_rfl) ?_; obtain ⟨z0, z1, y0, y1⟩ := zz_ BK; all_goals go_wp2_with fail
    all_goals go_ret
    all_goals exact ⟨rfl, bl2_⟩
theorem whole_c (F E : Int) (hF : Fm F E) (op : Int) (ho : op = 4 ∨ op = 5 ∨ op = 6 ∨ op = 7) (a : Nat) (h : a < 2 * (fmt F).signWeight) (hN : siz (fmt F) a ≤ (fmt F).infRung) (w : World) : Calls Tryz.prog 178 #[.agg #[.int .i64 F, .int .i64 E], .int .i64 op, .int .u64 a] w fun e w' => e = .returned (.int .u64 ((whlF (fmt F) (wyo op) a : Nat) : Int)) ∧ Below w.heap.size w w' := by
  have ha : a < 18446744073709551616 := by have := fm_b F E hF; omega
  by_cases h1 : (fmt F).infRung ≤ siz (fmt F) a
  · rw [whl_inf (fmt F) (fm_p F E hF).2.2.2 (wyo op) a h (by omega)]
    exact whole_a F E hF op a ha h1 w
  · by_cases h2 : 0 ≤ pe (fmt F) a
    · rw [whl_big (fmt F) (wyo op) a h (by omega) (Or.inl h2)]
      exact whole_b F E hF op a ha h1 (decide_eq_true h2) w
    · by_cases h3 : pm (fmt F) a = 0
      · rw [whl_big (fmt F) (wyo op) a h (by omega) (Or.inr h3)]
        exact whole_c0 F E hF op a ha h1 (decide_eq_false h2) (by rw [h3]; rfl) w
      · obtain ⟨n, n1, rs, hf, q, PP, PM, g1, g2, g3, g4, g5, g6, g7, g9, g10, g11, qb, HW⟩ := wh_pack hF a (by omega) (by omega)
        have h3' : (((pm (fmt F) a : Nat) : Int) == 0) = false := beq_false_of_ne (by omega); rcases ho with rfl | rfl | rfl | rfl
        · exact whole_d4 F E hF a ha h1 (decide_eq_false h2) h3' n n1 rs hf q PP PM g1 g2 g3 g4 g5 g6 g7 g9 g10 g11 qb HW w
        · exact whole_d5 F E hF a ha h1 (decide_eq_false h2) h3' n n1 rs hf q PP PM g1 g2 g3 g4 g5 g6 g7 g9 g10 g11 qb HW w
        · exact whole_d6 F E hF a ha h1 (decide_eq_false h2) h3' n n1 rs hf q PP PM g1 g2 g3 g4 g5 g6 g7 g9 g10 g11 qb HW w
        · exact whole_d7 F E hF a ha h1 (decide_eq_false h2) h3' n n1 rs hf q PP PM g1 g2 g3 g4 g5 g6 g7 g9 g10 g11 qb HW w
end Go.Proofs.YtkhhhceeoljheaaGreatDoor
set_option linter.unusedVariables false
set_option maxHeartbeats 8000000
set_option maxRecDepth 100000
namespace Go.Proofs.YtkhhhceeoljheaaGreatDoor
open Go.RowKit Go.Proofs.YtkhhhceeoljheaaGreatDoor.Fl Ieee Go.Proofs.YtkhhhceeoljheaaGreatDoorW.PrintWords Go.Proofs.YtkhhhceeoljheaaGreatDoorW.PrintLast Go.Proofs.YtkhhhceeoljheaaGreatDoorW.PrintMore
theorem sqrt_z (F E : Int) (hF : Fm F E) (a : Nat) (ha : a < 18446744073709551616) (h0 : siz (fmt F) a = 0) (w : World) : Calls Tryz.prog 177 #[.agg #[.int .i64 F, .int .i64 E], .int .u64 a] w fun e w' => e = .returned (.int .u64 (a : Int)) ∧ Below w.heap.size w w' := by
  have HB := zm_ (Below.refl w.heap.size w); rcases hF with ⟨rfl, rfl⟩ | ⟨rfl, rfl⟩
  all_goals
    go_enter Tryz.func177, Tryz.ntmps177
    go_wp2_with (first | ((with_reducible refine gate_dst (N := 2) rfl ?_); (refine bx_ rfl ?_); intro gb w4 hbox hb; replace HB := zm_ (below_step bl2_ hb); have BK := zm_ hbox; clear hb hbox; obtain ⟨z0, z1, y0, y1⟩ := zz_ BK) | (go_at_call 102; (with_reducible refine (neg_c _ _ fm_ _ (by assumption) _).mono ?_); refine cb_ BK HB ?_; intro w4 BK HB z0 z1 y0 y1) | (go_at_call 103; (with_reducible refine (size_c _ _ fm_ _ (by assumption) _).mono ?_); refine cb_ BK HB ?_; intro w4 BK HB z0 z1 y0 y1) | (go_at_call 175; (with_reducible refine (inf_c _ _ fm_ _).mono ?_); refine cb_ BK HB ?_; intro w4 BK HB z0 z1 y0 y1) | (go_at_call 104; (with_reducible refine (nan_c _ _ fm_ _).mono ?_); refine cb_ BK HB ?_; intro w4 BK HB z0 z1 y0 y1) | (go_at_call 179; (with_reducible refine (parts_c _ _ fm_ _ (by assumption) _).mono ?_); refine cb_ BK HB ?_; intro w4 BK HB z0 z1 y0 y1))
    go_ret; exact ⟨rfl, bl2_⟩
theorem sqrt_n (F E : Int) (hF : Fm F E) (a : Nat) (ha : a < 18446744073709551616) (h0 : ¬ siz (fmt F) a = 0) (h1 : neg (fmt F) a = true) (w : World) : Calls Tryz.prog 177 #[.agg #[.int .i64 F, .int .i64 E], .int .u64 a] w fun e w' => e = .returned (.int .u64 ((nn F : Nat) : Int)) ∧ Below w.heap.size w w' := by
  have HB := zm_ (Below.refl w.heap.size w); rcases hF with ⟨rfl, rfl⟩ | ⟨rfl, rfl⟩
  all_goals
    go_enter Tryz.func177, Tryz.ntmps177
    go_wp2_with (first | ((with_reducible refine gate_dst (N := 2) rfl ?_); (refine bx_ rfl ?_); intro gb w4 hbox hb; replace HB := zm_ (below_step bl2_ hb); have BK := zm_ hbox; clear hb hbox; obtain ⟨z0, z1, y0, y1⟩ := zz_ BK) | (go_at_call 102; (with_reducible refine (neg_c _ _ fm_ _ (by assumption) _).mono ?_); refine cb_ BK HB ?_; intro w4 BK HB z0 z1 y0 y1) | (go_at_call 103; (with_reducible refine (size_c _ _ fm_ _ (by assumption) _).mono ?_); refine cb_ BK HB ?_; intro w4 BK HB z0 z1 y0 y1) | (go_at_call 175; (with_reducible refine (inf_c _ _ fm_ _).mono ?_); refine cb_ BK HB ?_; intro w4 BK HB z0 z1 y0 y1) | (go_at_call 104; (with_reducible refine (nan_c _ _ fm_ _).mono ?_); refine cb_ BK HB ?_; intro w4 BK HB z0 z1 y0 y1) | (go_at_call 179; (with_reducible refine (parts_c _ _ fm_ _ (by assumption) _).mono ?_); refine cb_ BK HB ?_; intro w4 BK HB z0 z1 y0 y1))
    go_ret; exact ⟨rfl, bl2_⟩
theorem sqrt_i (F E : Int) (hF : Fm F E) (a : Nat) (ha : a < 18446744073709551616) (h0 : ¬ siz (fmt F) a = 0) (h1 : neg (fmt F) a = false) (h2 : ((a : Int) == (((fmt F).infRung : Nat) : Int)) = true) (w : World) : Calls Tryz.prog 177 #[.agg #[.int .i64 F, .int .i64 E], .int .u64 a] w fun e w' => e = .returned (.int .u64 (a : Int)) ∧ Below w.heap.size w w' := by
  have HB := zm_ (Below.refl w.heap.size w); rcases hF with ⟨rfl, rfl⟩ | ⟨rfl, rfl⟩
  all_goals
    go_enter Tryz.func177, Tryz.ntmps177
    go_wp2_with (first | ((with_reducible refine gate_dst (N := 2) rfl ?_); (refine bx_ rfl ?_); intro gb w4 hbox hb; replace HB := zm_ (below_step bl2_ hb); have BK := zm_ hbox; clear hb hbox; obtain ⟨z0, z1, y0, y1⟩ := zz_ BK) | (go_at_call 102; (with_reducible refine (neg_c _ _ fm_ _ (by assumption) _).mono ?_); refine cb_ BK HB ?_; intro w4 BK HB z0 z1 y0 y1) | (go_at_call 103; (with_reducible refine (size_c _ _ fm_ _ (by assumption) _).mono ?_); refine cb_ BK HB ?_; intro w4 BK HB z0 z1 y0 y1) | (go_at_call 175; (with_reducible refine (inf_c _ _ fm_ _).mono ?_); refine cb_ BK HB ?_; intro w4 BK HB z0 z1 y0 y1) | (go_at_call 104; (with_reducible refine (nan_c _ _ fm_ _).mono ?_); refine cb_ BK HB ?_; intro w4 BK HB z0 z1 y0 y1) | (go_at_call 179; (with_reducible refine (parts_c _ _ fm_ _ (by assumption) _).mono ?_); refine cb_ BK HB ?_; intro w4 BK HB z0 z1 y0 y1))
    go_ret; exact ⟨rfl, bl2_⟩
theorem or_1w (w : Nat) (hw : w < 4611686018427387904) : bits .or .u64 ((w * 2 : Nat) : Int) 1 = ((w * 2 + 1 : Nat) : Int) ∧ bits .or .u64 ((w * 4 : Nat) : Int) 1 = ((w * 4 + 1 : Nat) : Int) := by
  have h2 := forN (w * 2) 1 (by omega) (by omega); have h4 := forN (w * 4) 1 (by omega) (by omega); rw [or_1] at h2 h4; refine ⟨h2.trans ?_, h4.trans ?_⟩ <;> congr 1 <;> omega
theorem or_4r (r p : Nat) (hr : r < 4611686018427387904) (hp : p < 4) : bits .or .u64 ((r * 4 : Nat) : Int) (p : Int) = ((r * 4 + p : Nat) : Int) := by
  rw [forN _ _ (by omega) (by omega)]; congr 1
  have := Nat.two_pow_add_eq_or_of_lt (i := 2) hp r; rw [Nat.mul_comm r 4]; exact this.symm
theorem pair_n (m k : Nat) (hm : m < 18446744073709551616) (hk : k < 32) : bits .and .u64 ((m : Int) / 2 ^ (62 - 2 * k)) 3 = ((pairAt m k : Nat) : Int) := by
  have c : (2 : Int) ^ (62 - 2 * k) = ((2 ^ (62 - 2 * k) : Nat) : Int) := by simp
  have hq := Nat.div_le_self m (2 ^ (62 - 2 * k)); rw [c, ← Int.natCast_ediv]; unfold pairAt; rw [if_pos hk]; generalize m / 2 ^ (62 - 2 * k) = q at *; have := fandN q 3 (by omega) (by omega); rw [show (3 : Nat) = 2 ^ 2 - 1 from rfl, Nat.and_two_pow_sub_one_eq_mod] at this; exact this
theorem pair_lt (m k : Nat) : pairAt m k < 4 := by unfold pairAt; split <;> omega
theorem rt_pack {m k w r : Nat} (hm : m < 18446744073709551616) (hk : k < 62) (h : Rt m k w r) : ∃ A B C D p : Nat, pairAt m k = p ∧ IntKind.u64.wrap ((r : Int) * 4) = (C : Int) ∧ bits .or .u64 (C : Int) (p : Int) = (A : Int) ∧ IntKind.u64.wrap ((w : Int) * 4) = (D : Int) ∧ bits .or .u64 (D : Int) 1 = (B : Int) ∧ IntKind.u64.wrap ((w : Int) * 2) = ((w * 2 : Nat) : Int) ∧ bits .or .u64 ((w * 2 : Nat) : Int) 1 = ((w * 2 + 1 : Nat) : Int) ∧ Hid (A = r * 4 + pairAt m k ∧ B = w * 4 + 1) ∧ (k < 32 → bits .and .u64 ((m : Int) / 2 ^ (62 - 2 * k)) 3 = (p : Int)) := by
  obtain ⟨b1, b2, b3⟩ := rt_bound hm (by omega) h; have h2 := h.2; have hp := pair_lt m k
  have hr : r < 4611686018427387904 := by
    have hb : (2 : Nat) ^ k ≤ 2 ^ 61 := Nat.pow_le_pow_right (by omega) (by omega); omega
  refine ⟨r * 4 + pairAt m k, w * 4 + 1, r * 4, w * 4, pairAt m k, rfl, ?_, or_4r r _ hr hp, ?_, (or_1w w b2).2, ?_, (or_1w w b2).1, Lib.hid ⟨rfl, rfl⟩, pair_n m k hm⟩
  · rw [u64i (by omega) (by omega)]; omega
  · rw [u64i (by omega) (by omega)]; omega
  · rw [u64i (by omega) (by omega)]; omega
theorem rt_m (k : Nat) (hk : k ≤ 62) : 64 - (intOf (Value.int IntKind.i64 ((k : Int) + 1))).toNat < 64 - (intOf (Value.int IntKind.i64 (k : Int))).toNat := by
  show 64 - ((k : Int) + 1).toNat < 64 - ((k : Int)).toNat
  omega
theorem rt_r1 {m k x y A B : Nat} (hm : Hid (m < 18446744073709551616)) (hk : k ≤ 62) (hk2 : ¬ k = 62) (HR : Hid (Rt m k x y)) (HA : Hid (A = y * 4 + pairAt m k ∧ B = x * 4 + 1)) (hc : B ≤ A) : (∃ k' x' y' : Nat, Value.int IntKind.i64 ((k : Int) + 1) = Value.int IntKind.i64 (k' : Int) ∧ Value.int IntKind.u64 (bits .or .u64 ((x : Int) * 2) 1) = Value.int IntKind.u64 (x' : Int) ∧ Value.int IntKind.u64 (IntKind.u64.wrap ((A : Int) - (B : Int))) = Value.int IntKind.u64 (y' : Int) ∧ k' ≤ 62 ∧ Hid (Rt m k' x' y')) ∧ 64 - (intOf (Value.int IntKind.i64 ((k : Int) + 1))).toNat < 64 - (intOf (Value.int IntKind.i64 (k : Int))).toNat := by
  obtain ⟨e1, e2⟩ := HA.out; have b := rt_bound hm.out hk HR.out; have hA : A < 18446744073709551616 * 4 := by have := pair_lt m k; omega
  have h4 := rt_yes (by omega) HR.out (by omega); have b4 := rt_bound hm.out (by omega) h4; have h1 := (or_1w x b.2.1).1; rw [show ((x * 2 : Nat) : Int) = (x : Int) * 2 by omega] at h1; refine ⟨⟨k + 1, x * 2 + 1, A - B, by rw [show (k : Int) + 1 = ((k + 1 : Nat) : Int) by omega], by rw [h1], ?_, by omega, Lib.hid (by rw [e1, e2]; exact h4)⟩, rt_m k hk⟩; rw [u64i (by omega) (by omega), show (A : Int) - (B : Int) = ((A - B : Nat) : Int) by omega]
theorem rt_r2 {m k x y A B : Nat} (hm : Hid (m < 18446744073709551616)) (hk : k ≤ 62) (hk2 : ¬ k = 62) (HR : Hid (Rt m k x y)) (HA : Hid (A = y * 4 + pairAt m k ∧ B = x * 4 + 1)) (hc : ¬ B ≤ A) : (∃ k' x' y' : Nat, Value.int IntKind.i64 ((k : Int) + 1) = Value.int IntKind.i64 (k' : Int) ∧ Value.int IntKind.u64 ((x : Int) * 2) = Value.int IntKind.u64 (x' : Int) ∧ Value.int IntKind.u64 (A : Int) = Value.int IntKind.u64 (y' : Int) ∧ k' ≤ 62 ∧ Hid (Rt m k' x' y')) ∧ 64 - (intOf (Value.int IntKind.i64 ((k : Int) + 1))).toNat < 64 - (intOf (Value.int IntKind.i64 (k : Int))).toNat := by
  obtain ⟨e1, e2⟩ := HA.out; have h4 := rt_no (by omega) HR.out (by omega); exact ⟨⟨k + 1, x * 2, A, by rw [show (k : Int) + 1 = ((k + 1 : Nat) : Int) by omega], by rw [show (x : Int) * 2 = ((x * 2 : Nat) : Int) by omega], rfl, by omega, Lib.hid (by rw [e1]; exact h4)⟩, rt_m k hk⟩
def rtv (F : Int) (a r : Nat) : Prop := (F = 23 → un32 3 a = some r) ∧ (F = 52 → un64 3 a = r)
theorem fsqrt_z (f : Format) (hI : 0 < f.infRung) (a : Nat) (h : siz f a = 0) : f.sqrt a = some (f.word (neg f a) 0) := by
  unfold Format.sqrt; rw [read_pm f a (by omega), (pm_zero f a).2 h]; show Option.map f.write (some (Datum.number (neg f a) 0 (pe f a))) = _
  show some (f.nearest (neg f a) 0 (pe f a)) = _
  rw [nearest_eq]; unfold rung; rw [if_pos rfl]
theorem fsqrt_neg (f : Format) (hE : 1 ≤ f.exponentBits) (a : Nat) (h : siz f a ≠ 0) (h2 : siz f a ≤ f.infRung) (hn : neg f a = true) : f.sqrt a = none := by
  unfold Format.sqrt; by_cases c : siz f a < f.infRung
  · rw [read_pm f a c, hn]
    have hq : ∀ (n m : Nat) (i : Int), m ≠ 0 → Datum.root n (.number true m i) = none := fun n m i h => by
      show (if m = 0 then _ else if true = true then none else _) = none
      rw [if_neg h]; rfl
    rw [hq _ _ _ (fun k => h ((pm_zero f a).1 k))]; rfl
  · rw [read_inf f hE a (by omega), hn]; rfl
theorem fsqrt_inf (f : Format) (hE : 1 ≤ f.exponentBits) (a : Nat) (h : siz f a = f.infRung) (hn : neg f a = false) : f.sqrt a = some (f.word false f.infRung) := by
  unfold Format.sqrt; rw [read_inf f hE a h, hn]; rfl
theorem nar_zero (s : Bool) : (floatToFloatBits .f64 (double.word s 0) .f32).map bt32 = some (single.word s 0) := by cases s <;> decide +kernel
theorem bt64_word (s : Bool) (r : Nat) (h : r ≤ double.infRung) : bt64 (double.word s r) = double.word s r := by
  unfold bt64; rw [isN_word double (by rw [dI, dS]; omega) s r h]; rfl
theorem fm_ne {F E : Int} (hF : Fm F E) : (F = 23 ∧ fmt F = single) ∨ (F = 52 ∧ fmt F = double) := by
  rcases hF with ⟨rfl, rfl⟩ | ⟨rfl, rfl⟩
  · exact Or.inl ⟨rfl, rfl⟩
  · exact Or.inr ⟨rfl, rfl⟩
theorem rtv_z {F E : Int} (hF : Fm F E) {a r : Nat} (ha : a < 2 * (fmt F).signWeight) (hr : rtv F a r) (h0 : siz (fmt F) a = 0) : (a : Int) = (r : Int) := by
  have hw := word_eq (fmt F) a ha; rw [h0] at hw; rcases fm_ne hF with ⟨rfl, e⟩ | ⟨rfl, e⟩
  · rw [e] at ha h0 hw
    have hN : isN single a = false := (isN_lt single a).2 (by omega); have h := hr.1 rfl; rw [un32_sqrt a hN, fsqrt_z double (by rw [dI]; omega) (wide a) ((wide_zero a hN).2 h0), wide_neg a hN] at h; have h : (floatToFloatBits .f64 (double.word (neg single a) 0) .f32).map bt32 = some r := h; rw [nar_zero, hw] at h; rw [Option.some.inj h]
  · rw [e] at ha h0 hw
    have h := hr.2 rfl; rw [un64_sqrt, fsqrt_z double (by rw [dI]; omega) a h0] at h; have h : bt64 (double.word (neg double a) 0) = r := h; rw [bt64_word _ _ (Nat.zero_le _), hw] at h; rw [h]
theorem rtv_n {F E : Int} (hF : Fm F E) {a r : Nat} (hs : siz (fmt F) a ≤ (fmt F).infRung) (hr : rtv F a r) (h0 : ¬ siz (fmt F) a = 0) (hn : neg (fmt F) a = true) : ((nn F : Nat) : Int) = (r : Int) := by
  rcases fm_ne hF with ⟨rfl, e⟩ | ⟨rfl, e⟩
  · rw [e] at hs h0 hn
    have hN : isN single a = false := (isN_lt single a).2 hs; have hN2 := wide_isN a hN; have h := hr.1 rfl; rw [un32_sqrt a hN, fsqrt_neg double (by decide) (wide a) (fun k => h0 ((wide_zero a hN).1 k)) ((isN_lt double _).1 hN2) (by rw [wide_neg a hN, hn])] at h; have h : some 2143289344 = some r := h; rw [← Option.some.inj h]; rfl
  · rw [e] at hs h0 hn
    have h := hr.2 rfl; rw [un64_sqrt, fsqrt_neg double (by decide) a h0 hs hn] at h; have h : 9221120237041090560 = r := h; rw [← h]; rfl
theorem rtv_i {F E : Int} (hF : Fm F E) {a r : Nat} (ha : a < 2 * (fmt F).signWeight) (hr : rtv F a r) (hi : siz (fmt F) a = (fmt F).infRung) (hn : neg (fmt F) a = false) : (a : Int) = (r : Int) := by
  have hw := word_eq (fmt F) a ha; rw [hi, hn] at hw; rcases fm_ne hF with ⟨rfl, e⟩ | ⟨rfl, e⟩
  · rw [e] at hi hn hw
    have hN : isN single a = false := (isN_lt single a).2 (by omega); have h := hr.1 rfl; rw [un32_sqrt a hN, fsqrt_inf double (by decide) (wide a) (wide_inf a hi).2 (by rw [wide_neg a hN, hn])] at h; have h : (floatToFloatBits .f64 (double.word false double.infRung) .f32).map bt32 = some r := h; rw [narrow_inf, Option.map_some, bt32_word _ _ (Nat.le_refl _), hw] at h; rw [Option.some.inj h]
  · rw [e] at hi hn hw
    have h := hr.2 rfl; rw [un64_sqrt, fsqrt_inf double (by decide) a hi hn] at h; have h : bt64 (double.word false double.infRung) = r := h; rw [bt64_word _ _ (Nat.le_refl _), hw] at h; rw [h]
structure Rf (F E : Int) (a u c M : Nat) (ev : Int) : Prop where
  fm : Fm F E
  a1 : siz (fmt F) a < (fmt F).infRung
  a2 : siz (fmt F) a ≠ 0
  a3 : neg (fmt F) a = false
  u1 : 11 ≤ u ∧ u ≤ 63
  u2 : F = 23 → 40 ≤ u
  m1 : M * 2 ^ c = pm (fmt F) a * 2 ^ u
  c1 : c ≤ 1
  m2 : 4611686018427387904 ≤ M ∧ M < 18446744073709551616
  e1 : ev = pe (fmt F) a - u
  e2 : (ev + c) % 2 = 0
theorem rt_call {F E : Int} {a u c M : Nat} {ev : Int} (h : Rf F E a u c M ev) {x y r : Nat} (HR : Hid (Rt M 62 x y)) (hr : rtv F a r) (Y : Int) (hY : Y = (ev + c - 60) / 2) (w : World) :
    Calls Tryz.prog 181 #[.agg #[.int .i64 F, .int .i64 E], .bool false, .int .u64 (x : Int), .int .i64 Y, .bool ((y : Int) != 0)] w fun e w' => e = .returned (.int .u64 (r : Int)) ∧ Below w.heap.size w w' := by
  have e1 := pe_le F E h.fm a; have hu := h.u1; have hc := h.c1; have he := h.e1; obtain ⟨i1, i2⟩ := rt_root HR.out; have hb := rt_bound h.m2.2 (by omega) HR.out; have eb : ((y : Int) != 0) = (y != 0) := by rw [Bool.eq_iff_iff, bne_iff_ne, bne_iff_ne]; omega
  have ex : (pe (fmt F) a - (u : Int) + (c : Int) - 60) / 2 - 1 = Y - 1 := by rw [hY, he]
  have par : (pe (fmt F) a - (u : Int) + (c : Int)) % 2 = 0 := by have := h.e2; rw [he] at this; exact this
  have key : 288230376151711744 ≤ x ∧ r = (fmt F).word false (rung (fmt F) (2 * x + (x * x != M * 1152921504606846976).toNat) (Y - 1)) := by
    rw [← ex]; rcases fm_ne h.fm with ⟨rfl, e⟩ | ⟨rfl, e⟩
    · have u2 := h.u2 rfl
      have a1 := h.a1; have a2 := h.a2; have a3 := h.a3; have m1 := h.m1; rw [e] at a1 a2 a3 m1 par ⊢; obtain ⟨k1, k2⟩ := sqrt_32 a a1 a2 a3 u c M x ⟨u2, hu.2⟩ m1 hc h.m2.1 h.m2.2 par i1; exact ⟨k1, Option.some.inj ((hr.1 rfl).symm.trans k2)⟩
    · have a1 := h.a1
      have a2 := h.a2; have a3 := h.a3; have m1 := h.m1; rw [e] at a1 a2 a3 m1 par ⊢; obtain ⟨k1, k2⟩ := sqrt_law double (by decide) a a1 a2 a3 u c M x hu m1 hc h.m2.1 par i1; refine ⟨k1, ?_⟩; have h3 := hr.2 rfl; rw [un64_sqrt, k2] at h3; have h3 : bt64 (double.word false _) = r := h3; rw [bt64_word _ _ (rung_le' _ _ _)] at h3; exact h3.symm
  rw [eb, key.2, ← i2]; exact round_c F E h.fm false x (by omega) Y (by omega) (y != 0) (fun _ => key.1) w
theorem rt_tdiv (z : Int) (h : z % 2 = 0) : z.tdiv 2 = z / 2 := by
  obtain ⟨t, rfl⟩ : ∃ t, z = t * 2 := ⟨z / 2, by omega⟩
  rw [Int.mul_tdiv_cancel _ (by decide), Int.mul_ediv_cancel _ (by decide)]
theorem rt_c1 {F E : Int} {a u M : Nat} {ev : Int} (h : Hid (Rf F E a u 1 M ev)) {x y r : Nat} (HR : Hid (Rt M 62 x y)) (hr : Hid (rtv F a r)) (w : World) :
    Calls Tryz.prog 181 #[.agg #[.int .i64 F, .int .i64 E], .bool false, .int .u64 (x : Int), .int .i64 (wrap64 ((wrap64 (wrap64 (ev + 1) - 60)).tdiv 2)), .bool ((y : Int) != 0)] w fun e w' => e = .returned (.int .u64 (r : Int)) ∧ Below w.heap.size w w' := by
  have e1 := pe_le F E h.out.fm a; have hu := h.out.u1; have he := h.out.e1; have h2 := h.out.e2; refine rt_call h.out HR hr.out _ ?_ w; rw [i64i (show -9223372036854775808 ≤ ev + 1 by omega) (by omega), i64i (show -9223372036854775808 ≤ ev + 1 - 60 by omega) (by omega), rt_tdiv _ (by omega), i64i (by omega) (by omega)]; rfl
theorem rt_c0 {F E : Int} {a u M : Nat} {ev : Int} (h : Hid (Rf F E a u 0 M ev)) {x y r : Nat} (HR : Hid (Rt M 62 x y)) (hr : Hid (rtv F a r)) (w : World) :
    Calls Tryz.prog 181 #[.agg #[.int .i64 F, .int .i64 E], .bool false, .int .u64 (x : Int), .int .i64 (wrap64 ((wrap64 (ev - 60)).tdiv 2)), .bool ((y : Int) != 0)] w fun e w' => e = .returned (.int .u64 (r : Int)) ∧ Below w.heap.size w w' := by
  have e1 := pe_le F E h.out.fm a; have hu := h.out.u1; have he := h.out.e1; have h2 := h.out.e2; refine rt_call h.out HR hr.out _ ?_ w; rw [i64i (show -9223372036854775808 ≤ ev - 60 by omega) (by omega), rt_tdiv _ (by omega), i64i (by omega) (by omega)]; omega
theorem i64_and1 (n : Int) : bits .and .i64 n 1 = n % 2 := by
  have h127 : (BitVec.ofInt 64 1).toNat = 2 ^ 1 - 1 := by decide
  have key : (BitVec.ofInt 64 n &&& BitVec.ofInt 64 1).toNat = (n % ((2 ^ 64 : Nat) : Int)).toNat % 2 ^ 1 := by
    rw [BitVec.toNat_and, BitVec.toNat_ofInt, h127, Nat.and_two_pow_sub_one_eq_mod]
  show IntKind.i64.wrap ((BitVec.ofInt 64 n &&& BitVec.ofInt 64 1).toNat : Nat) = n % 2
  rw [key, IntKind.wrap_i64]; omega
theorem sqrt_f1 (F E : Int) (hF : Fm F E) (a : Nat) (ha : a < 18446744073709551616) (h0 : ¬ siz (fmt F) a = 0) (h1 : neg (fmt F) a = false) (h2 : ((a : Int) == (((fmt F).infRung : Nat) : Int)) = false) (u M M2 : Nat) (ev : Int) (HU : Hid (64 - Lib.bitLen (pm (fmt F) a) = u)) (g1 : IntKind.u64.wrap (u : Int) = (u : Int)) (g3 : min u 64 = u) (g5 : IntKind.u64.wrap (((pm (fmt F) a : Nat) : Int) * 2 ^ u) = (M : Int)) (g7 : (M : Int) / 2 = (M2 : Int)) (g8 : wrap64 (pe (fmt F) a - (u : Int)) = ev) (g9 : (bits .and .i64 ev 1 == 1) = true) (HM : Hid (M2 < 18446744073709551616)) (HF : Hid (Rf F E a u 1 M2 ev)) (r : Nat) (Hr : Hid (rtv F a r)) (w : World) : Calls Tryz.prog 177 #[.agg #[.int .i64 F, .int .i64 E], .int .u64 a] w fun e w' => e = .returned (.int .u64 (r : Int)) ∧ Below w.heap.size w w' := by
  have HB := zm_ (Below.refl w.heap.size w); rcases hF with ⟨rfl, rfl⟩ | ⟨rfl, rfl⟩
  all_goals
    go_enter Tryz.func177, Tryz.ntmps177
    go_wp2_with (first | ((with_reducible refine gate_dst (N := 2) rfl ?_); (refine bx_ rfl ?_); intro gb w4 hbox hb; replace HB := zm_ (below_step bl2_ hb); have BK := zm_ hbox; clear hb hbox; obtain ⟨z0, z1, y0, y1⟩ := zz_ BK) | (go_at_call 102; (with_reducible refine (neg_c _ _ fm_ _ (by assumption) _).mono ?_); refine cb_ BK HB ?_; intro w4 BK HB z0 z1 y0 y1) | (go_at_call 103; (with_reducible refine (size_c _ _ fm_ _ (by assumption) _).mono ?_); refine cb_ BK HB ?_; intro w4 BK HB z0 z1 y0 y1) | (go_at_call 175; (with_reducible refine (inf_c _ _ fm_ _).mono ?_); refine cb_ BK HB ?_; intro w4 BK HB z0 z1 y0 y1) | (go_at_call 104; (with_reducible refine (nan_c _ _ fm_ _).mono ?_); refine cb_ BK HB ?_; intro w4 BK HB z0 z1 y0 y1) | (go_at_call 179; (with_reducible refine (parts_c _ _ fm_ _ (by assumption) _).mono ?_); refine cb_ BK HB ?_; intro w4 BK HB z0 z1 y0 y1) | (go_at_call 183; (with_reducible refine (lead_n _ u (lt64 (pm_b _ _ fm_ _)) HU _).mono ?_); refine cb_ BK HB ?_; intro w4 BK HB z0 z1 y0 y1))
    go_loop [53, 8, 9] (fun i x y => ∃ k x' y' : Nat, i = .int .i64 (k : Int) ∧ x = .int .u64 (x' : Int) ∧ y = .int .u64 (y' : Int) ∧ k ≤ 62 ∧ Hid (Rt M2 k x' y')) (fun i _ _ => 64 - (intOf i).toNat)
    case atStart => exact ⟨0, 0, 0, rfl, rfl, rfl, by omega, Lib.hid (rt_start M2 HM.out)⟩
    case round =>
      obtain ⟨k, x, y, rfl, rfl, rfl, hk, HR⟩ := hrel; by_cases k62 : k = 62
      · subst k62
        go_wp2_with (first | (go_at_call 181; (with_reducible refine (rt_c1 HF HR Hr _).mono ?_); refine cb_ BK HB ?_; intro w4 BK HB z0 z1 y0 y1))
        all_goals go_ret
        all_goals exact ⟨rfl, bl2_⟩
      · obtain ⟨A, B, C, D, p, q1, q2, q3, q4, q5, q6, q7, HA, q8⟩ := rt_pack HM.out (by omega) HR.out
        by_cases k32 : k < 32
        · have q8 := q8 k32
          go_wp2_with fail
          all_goals first | exact rt_r1 HM hk k62 HR HA (by assumption) | exact rt_r2 HM hk k62 HR HA (by assumption)
        · have hp0 : p = 0 := by rw [← q1]; exact if_neg k32
          subst hp0; have q3 : bits .or .u64 (C : Int) 0 = (A : Int) := q3; go_wp2_with fail
          all_goals first | exact rt_r1 HM hk k62 HR HA (by assumption) | exact rt_r2 HM hk k62 HR HA (by assumption)
theorem sqrt_f0 (F E : Int) (hF : Fm F E) (a : Nat) (ha : a < 18446744073709551616) (h0 : ¬ siz (fmt F) a = 0) (h1 : neg (fmt F) a = false) (h2 : ((a : Int) == (((fmt F).infRung : Nat) : Int)) = false) (u M M2 : Nat) (ev : Int) (HU : Hid (64 - Lib.bitLen (pm (fmt F) a) = u)) (g1 : IntKind.u64.wrap (u : Int) = (u : Int)) (g3 : min u 64 = u) (g5 : IntKind.u64.wrap (((pm (fmt F) a : Nat) : Int) * 2 ^ u) = (M : Int)) (g7 : (M : Int) / 2 = (M2 : Int)) (g8 : wrap64 (pe (fmt F) a - (u : Int)) = ev) (g9 : (bits .and .i64 ev 1 == 1) = false) (HM : Hid (M < 18446744073709551616)) (HF : Hid (Rf F E a u 0 M ev)) (r : Nat) (Hr : Hid (rtv F a r)) (w : World) : Calls Tryz.prog 177 #[.agg #[.int .i64 F, .int .i64 E], .int .u64 a] w fun e w' => e = .returned (.int .u64 (r : Int)) ∧ Below w.heap.size w w' := by
  have HB := zm_ (Below.refl w.heap.size w); rcases hF with ⟨rfl, rfl⟩ | ⟨rfl, rfl⟩
  all_goals
    go_enter Tryz.func177, Tryz.ntmps177
    go_wp2_with (first | ((with_reducible refine gate_dst (N := 2) rfl ?_); (refine bx_ rfl ?_); intro gb w4 hbox hb; replace HB := zm_ (below_step bl2_ hb); have BK := zm_ hbox; clear hb hbox; obtain ⟨z0, z1, y0, y1⟩ := zz_ BK) | (go_at_call 102; (with_reducible refine (neg_c _ _ fm_ _ (by assumption) _).mono ?_); refine cb_ BK HB ?_; intro w4 BK HB z0 z1 y0 y1) | (go_at_call 103; (with_reducible refine (size_c _ _ fm_ _ (by assumption) _).mono ?_); refine cb_ BK HB ?_; intro w4 BK HB z0 z1 y0 y1) | (go_at_call 175; (with_reducible refine (inf_c _ _ fm_ _).mono ?_); refine cb_ BK HB ?_; intro w4 BK HB z0 z1 y0 y1) | (go_at_call 104; (with_reducible refine (nan_c _ _ fm_ _).mono ?_); refine cb_ BK HB ?_; intro w4 BK HB z0 z1 y0 y1) | (go_at_call 179; (with_reducible refine (parts_c _ _ fm_ _ (by assumption) _).mono ?_); refine cb_ BK HB ?_; intro w4 BK HB z0 z1 y0 y1) | (go_at_call 183; (with_reducible refine (lead_n _ u (lt64 (pm_b _ _ fm_ _)) HU _).mono ?_); refine cb_ BK HB ?_; intro w4 BK HB z0 z1 y0 y1))
    go_loop [53, 8, 9] (fun i x y => ∃ k x' y' : Nat, i = .int .i64 (k : Int) ∧ x = .int .u64 (x' : Int) ∧ y = .int .u64 (y' : Int) ∧ k ≤ 62 ∧ Hid (Rt M k x' y')) (fun i _ _ => 64 - (intOf i).toNat)
    case atStart => exact ⟨0, 0, 0, rfl, rfl, rfl, by omega, Lib.hid (rt_start M HM.out)⟩
    case round =>
      obtain ⟨k, x, y, rfl, rfl, rfl, hk, HR⟩ := hrel; by_cases k62 : k = 62
      · subst k62
        go_wp2_with (first | (go_at_call 181; (with_reducible refine (rt_c0 HF HR Hr _).mono ?_); refine cb_ BK HB ?_; intro w4 BK HB z0 z1 y0 y1))
        all_goals go_ret
        all_goals exact ⟨rfl, bl2_⟩
      · obtain ⟨A, B, C, D, p, q1, q2, q3, q4, q5, q6, q7, HA, q8⟩ := rt_pack HM.out (by omega) HR.out
        by_cases k32 : k < 32
        · have q8 := q8 k32
          go_wp2_with fail
          all_goals first | exact rt_r1 HM hk k62 HR HA (by assumption) | exact rt_r2 HM hk k62 HR HA (by assumption)
        · have hp0 : p = 0 := by rw [← q1]; exact if_neg k32
          subst hp0; have q3 : bits .or .u64 (C : Int) 0 = (A : Int) := q3; go_wp2_with fail
          all_goals first | exact rt_r1 HM hk k62 HR HA (by assumption) | exact rt_r2 HM hk k62 HR HA (by assumption)
theorem sqrt_c (F E : Int) (hF : Fm F E) (a : Nat) (h : a < 2 * (fmt F).signWeight) (hN : siz (fmt F) a ≤ (fmt F).infRung) (r : Nat) (hr : rtv F a r) (w : World) : Calls Tryz.prog 177 #[.agg #[.int .i64 F, .int .i64 E], .int .u64 a] w fun e w' => e = .returned (.int .u64 (r : Int)) ∧ Below w.heap.size w w' := by
  have ha : a < 18446744073709551616 := by have := fm_b F E hF; omega
  by_cases h0 : siz (fmt F) a = 0
  · rw [← rtv_z hF h hr h0]
    exact sqrt_z F E hF a ha h0 w
  · cases h1 : neg (fmt F) a
    · have hw := word_eq (fmt F) a h
      rw [h1] at hw; have hw : siz (fmt F) a = a := hw; by_cases h2 : siz (fmt F) a = (fmt F).infRung
      · rw [← rtv_i hF h hr h2 h1]
        exact sqrt_i F E hF a ha h0 h1 (by rw [← h2, hw]; exact beq_self_eq_true _) w
      · have h3 : ((a : Int) == (((fmt F).infRung : Nat) : Int)) = false := beq_false_of_ne (by omega)
        obtain ⟨u, M, hu, u1, u2, m1, m2, m3, hl⟩ := up_ (pm (fmt F) a) (fun k => h0 ((pm_zero (fmt F) a).1 k)) (pm_b F E hF a); have e1 := pe_le F E hF a; have hc : ∀ n j : Nat, (n : Int) * 2 ^ j = ((n * 2 ^ j : Nat) : Int) := fun n j => by simp
        have g5 : IntKind.u64.wrap (((pm (fmt F) a : Nat) : Int) * 2 ^ u) = (M : Int) := by rw [hc, ← m1]; exact u64i (by omega) (by omega)
        have hu2 : F = 23 → 40 ≤ u := by
          intro k; have := pm_log (fmt F) a; rw [k] at this hl; have e : (fmt 23).fractionBits = 23 := rfl; rw [e] at this; omega
        have ev : M = (pm (fmt F) a * 2 ^ (u - 1)) * 2 := by rw [m1, Nat.mul_assoc, ← Nat.pow_succ, Nat.succ_eq_add_one, Nat.sub_add_cancel (by omega)]
        have hM2 : M / 2 * 2 = M := by rw [ev, Nat.mul_div_cancel _ (by decide)]
        have g8 : wrap64 (pe (fmt F) a - (u : Int)) = pe (fmt F) a - u := i64i (by omega) (by omega); by_cases p : (pe (fmt F) a - (u : Int)) % 2 = 1
        · exact sqrt_f1 F E hF a ha h0 h1 h3 u M (M / 2) _ hu (u64i (by omega) (by omega)) (by omega) g5 (by omega) g8 (by rw [i64_and1, p]; rfl) (Lib.hid (by omega)) (Lib.hid ⟨hF, by omega, h0, h1, ⟨u1, u2⟩, hu2, by rw [Nat.pow_one, hM2, m1], by omega, by omega, rfl, by omega⟩) r (Lib.hid hr) w
        · exact sqrt_f0 F E hF a ha h0 h1 h3 u M (M / 2) _ hu (u64i (by omega) (by omega)) (by omega) g5 (by omega) g8 (by rw [i64_and1, show (pe (fmt F) a - (u : Int)) % 2 = 0 by omega]; rfl) (Lib.hid m3) (Lib.hid ⟨hF, by omega, h0, h1, ⟨u1, u2⟩, hu2, by rw [Nat.pow_zero, Nat.mul_one, m1], by omega, by omega, rfl, by omega⟩) r (Lib.hid hr) w
    · rw [← rtv_n hF hN hr h0 h1]
      exact sqrt_n F E hF a ha h0 h1 w
end Go.Proofs.YtkhhhceeoljheaaGreatDoor

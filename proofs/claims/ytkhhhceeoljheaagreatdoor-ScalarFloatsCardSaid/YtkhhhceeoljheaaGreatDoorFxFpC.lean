import Derived.Test.YtkhhhceeoljheaaGreatDoorFxSqz
import Derived.Test.YtkhhhceeoljheaaGreatDoorFxFpQ
import Derived.Test.YtkhhhceeoljheaaGreatDoorFxShelfB
import Derived.Deep.Cut
set_option linter.unusedVariables false
set_option linter.unusedSimpArgs false
set_option linter.unusedVariables false
set_option maxHeartbeats 8000000
set_option maxRecDepth 100000
namespace Go.Proofs.YtkhhhceeoljheaaGreatDoor
open Go.RowKit Go.Proofs.YtkhhhceeoljheaaGreatDoor.Fl Ieee Go.Proofs.YtkhhhceeoljheaaGreatDoorW.PrintWords Go.Proofs.YtkhhhceeoljheaaGreatDoorW.PrintLast Go.Proofs.YtkhhhceeoljheaaGreatDoorW.PrintMore
theorem fm_ {F E : Int} (h : Fm F E := by first | exact fm32 | exact fm64) : Fm F E := h
theorem sign_c (F E : Int) (hF : Fm F E)  (w : World) : Calls Tryz.prog 105 #[.agg #[.int .i64 F, .int .i64 E]] w fun e w' => e = .returned (.int .u64 (swt F)) ∧ Below w.heap.size w w' := by
  have HB := zm_ (Below.refl w.heap.size w); rcases hF with ⟨rfl, rfl⟩ | ⟨rfl, rfl⟩
  all_goals
    go_enter Tryz.func105, Tryz.ntmps105
    go_wp2_with (first | ((with_reducible refine gate_dst (N := 1) rfl ?_); (refine bx_ rfl ?_); intro gb w4 hbox hb; replace HB := zm_ (below_step bl2_ hb); have BK := zm_ hbox; clear hb hbox; obtain ⟨z0, z1, y0, y1⟩ := zz_ BK))
    go_ret; exact ⟨rfl, bl2_⟩
theorem size_c (F E : Int) (hF : Fm F E) (a : Nat) (ha : a < 18446744073709551616) (w : World) : Calls Tryz.prog 103 #[.agg #[.int .i64 F, .int .i64 E], .int .u64 a] w fun e w' => e = .returned (.int .u64 ((siz (fmt F) a : Nat) : Int)) ∧ Below w.heap.size w w' := by
  have HB := zm_ (Below.refl w.heap.size w); rcases hF with ⟨rfl, rfl⟩ | ⟨rfl, rfl⟩
  all_goals
    go_enter Tryz.func103, Tryz.ntmps103
    go_wp2_with (first | ((with_reducible refine gate_dst (N := 2) rfl ?_); (refine bx_ rfl ?_); intro gb w4 hbox hb; replace HB := zm_ (below_step bl2_ hb); have BK := zm_ hbox; clear hb hbox; obtain ⟨z0, z1, y0, y1⟩ := zz_ BK) | (go_at_call 105; (with_reducible refine (sign_c _ _ fm_ _).mono ?_); refine cb_ BK HB ?_; intro w4 BK HB z0 z1 y0 y1))
    go_ret; exact ⟨ret_int (and_siz _ _ fm_ a ha), bl2_⟩
theorem inf_c (F E : Int) (hF : Fm F E)  (w : World) : Calls Tryz.prog 175 #[.agg #[.int .i64 F, .int .i64 E]] w fun e w' => e = .returned (.int .u64 (((fmt F).infRung : Nat) : Int)) ∧ Below w.heap.size w w' := by
  have HB := zm_ (Below.refl w.heap.size w); rcases hF with ⟨rfl, rfl⟩ | ⟨rfl, rfl⟩
  all_goals
    go_enter Tryz.func175, Tryz.ntmps175
    go_wp2_with (first | ((with_reducible refine gate_dst (N := 1) rfl ?_); (refine bx_ rfl ?_); intro gb w4 hbox hb; replace HB := zm_ (below_step bl2_ hb); have BK := zm_ hbox; clear hb hbox; obtain ⟨z0, z1, y0, y1⟩ := zz_ BK))
    go_ret; exact ⟨rfl, bl2_⟩
theorem isNaN_c (F E : Int) (hF : Fm F E) (a : Nat) (ha : a < 18446744073709551616) (w : World) : Calls Tryz.prog 90 #[.agg #[.int .i64 F, .int .i64 E], .int .u64 a] w fun e w' => e = .returned (.bool (isN (fmt F) a)) ∧ Below w.heap.size w w' := by
  have HB := zm_ (Below.refl w.heap.size w); rcases hF with ⟨rfl, rfl⟩ | ⟨rfl, rfl⟩
  all_goals
    go_enter Tryz.func90, Tryz.ntmps90
    go_wp2_with (first | ((with_reducible refine gate_dst (N := 2) rfl ?_); (refine bx_ rfl ?_); intro gb w4 hbox hb; replace HB := zm_ (below_step bl2_ hb); have BK := zm_ hbox; clear hb hbox; obtain ⟨z0, z1, y0, y1⟩ := zz_ BK))
    replace BK := zm_ (blk_drew BK.out); replace HB := zm_ (below_drew1 HB.out); refine start_ (S := Hd gb _ _) (ds := []) (ba 7 0) (by kernel_rfl) rfl rfl (hd_ BK) (fun hH => ?_); refine pu_ 1 (some 6) (ba 7 2) ?_; refine ta_ 0 (some 5) (ba 7 3) ?_; refine ta_ 3 (some 8) (ba 7 11) ?_; refine og_ 2 (some 7) (ba 7 15) Tryz.func103 ?_; refine ox_ (size_c _ _ fm_ _ (by assumption) _) BK HB (fun w4 BK HB hH => no_ ?_); refine og_ 4 (some 9) (ba 7 31) Tryz.func175 ?_; refine ox_ (inf_c _ _ fm_ _) BK HB (fun w4 BK HB hH => no_ ?_); refine pu_ 5 (some 10) (ba 7 63) ?_; refine pu_ 6 (some 4) (ba 7 127) ?_; refine done_ (by kernel_rfl) ?_; obtain ⟨z0, z1, y0, y1⟩ := zz_ BK; try go_wp2
    go_ret; exact ⟨rfl, bl2_⟩
theorem ret_bool {a b : Bool} (h : a = b) : Ending.returned (.bool a) = .returned (.bool b) := by rw [h]
theorem neg_c (F E : Int) (hF : Fm F E) (a : Nat) (ha : a < 18446744073709551616) (w : World) : Calls Tryz.prog 102 #[.agg #[.int .i64 F, .int .i64 E], .int .u64 a] w fun e w' => e = .returned (.bool (neg (fmt F) a)) ∧ Below w.heap.size w w' := by
  have HB := zm_ (Below.refl w.heap.size w); rcases hF with ⟨rfl, rfl⟩ | ⟨rfl, rfl⟩
  all_goals
    go_enter Tryz.func102, Tryz.ntmps102
    go_wp2_with (first | ((with_reducible refine gate_dst (N := 2) rfl ?_); (refine bx_ rfl ?_); intro gb w4 hbox hb; replace HB := zm_ (below_step bl2_ hb); have BK := zm_ hbox; clear hb hbox; obtain ⟨z0, z1, y0, y1⟩ := zz_ BK) | (go_at_call 105; (with_reducible refine (sign_c _ _ fm_ _).mono ?_); refine cb_ BK HB ?_; intro w4 BK HB z0 z1 y0 y1))
    go_ret; exact ⟨ret_bool (and_neg _ _ fm_ a ha), bl2_⟩
theorem least_c (F E : Int) (hF : Fm F E)  (w : World) : Calls Tryz.prog 219 #[.agg #[.int .i64 F, .int .i64 E]] w fun e w' => e = .returned (.int .i64 (fmt F).leastPlace) ∧ Below w.heap.size w w' := by
  have HB := zm_ (Below.refl w.heap.size w); rcases hF with ⟨rfl, rfl⟩ | ⟨rfl, rfl⟩
  all_goals
    go_enter Tryz.func219, Tryz.ntmps219
    go_wp2_with (first | ((with_reducible refine gate_dst (N := 1) rfl ?_); (refine bx_ rfl ?_); intro gb w4 hbox hb; replace HB := zm_ (below_step bl2_ hb); have BK := zm_ hbox; clear hb hbox; obtain ⟨z0, z1, y0, y1⟩ := zz_ BK))
    go_ret; exact ⟨rfl, bl2_⟩
theorem cut_c (F E : Int) (hF : Fm F E) (a : Nat) (ha : a < 18446744073709551616) (w : World) : Calls Tryz.prog 100 #[.agg #[.int .i64 F, .int .i64 E], .int .u64 a] w fun e w' => e = .returned (.int .u64 ((a % (2 * (fmt F).signWeight) : Nat) : Int)) ∧ Below w.heap.size w w' := by
  have HB := zm_ (Below.refl w.heap.size w); rcases hF with ⟨rfl, rfl⟩ | ⟨rfl, rfl⟩
  all_goals
    go_enter Tryz.func100, Tryz.ntmps100
    go_wp2_with (first | ((with_reducible refine gate_dst (N := 2) rfl ?_); (refine bx_ rfl ?_); intro gb w4 hbox hb; replace HB := zm_ (below_step bl2_ hb); have BK := zm_ hbox; clear hb hbox; obtain ⟨z0, z1, y0, y1⟩ := zz_ BK) | (go_at_call 105; (with_reducible refine (sign_c _ _ fm_ _).mono ?_); refine cb_ BK HB ?_; intro w4 BK HB z0 z1 y0 y1))
    go_ret; exact ⟨ret_int (and_cut _ _ fm_ a ha), bl2_⟩
theorem signed_c (F E : Int) (hF : Fm F E) (s : Bool) (a : Nat) (ha : a < (fmt F).signWeight) (w : World) : Calls Tryz.prog 101 #[.agg #[.int .i64 F, .int .i64 E], .bool s, .int .u64 a] w fun e w' => e = .returned (.int .u64 (((fmt F).word s a : Nat) : Int)) ∧ Below w.heap.size w w' := by
  have HB := zm_ (Below.refl w.heap.size w); rcases hF with ⟨rfl, rfl⟩ | ⟨rfl, rfl⟩
  all_goals
   cases s
   all_goals
    go_enter Tryz.func101, Tryz.ntmps101
    go_wp2_with (first | ((with_reducible refine gate_dst (N := 3) rfl ?_); (refine bx_ rfl ?_); intro gb w4 hbox hb; replace HB := zm_ (below_step bl2_ hb); have BK := zm_ hbox; clear hb hbox; obtain ⟨z0, z1, y0, y1⟩ := zz_ BK) | (go_at_call 105; (with_reducible refine (sign_c _ _ fm_ _).mono ?_); refine cb_ BK HB ?_; intro w4 BK HB z0 z1 y0 y1))
    go_ret; first | exact ⟨rfl, bl2_⟩ | exact ⟨ret_int (or_sign _ _ fm_ a ha), bl2_⟩
theorem nan_c (F E : Int) (hF : Fm F E)  (w : World) : Calls Tryz.prog 104 #[.agg #[.int .i64 F, .int .i64 E]] w fun e w' => e = .returned (.int .u64 ((nn F : Nat) : Int)) ∧ Below w.heap.size w w' := by
  have HB := zm_ (Below.refl w.heap.size w); rcases hF with ⟨rfl, rfl⟩ | ⟨rfl, rfl⟩
  all_goals
    go_enter Tryz.func104, Tryz.ntmps104
    go_wp2_with (first | ((with_reducible refine gate_dst (N := 1) rfl ?_); (refine bx_ rfl ?_); intro gb w4 hbox hb; replace HB := zm_ (below_step bl2_ hb); have BK := zm_ hbox; clear hb hbox; obtain ⟨z0, z1, y0, y1⟩ := zz_ BK))
    replace BK := zm_ (blk_drew BK.out); replace HB := zm_ (below_drew1 HB.out); refine start_ (S := Hd gb _ _) (ds := []) (ba 9 0) (by kernel_rfl) rfl rfl (hd_ BK) (fun hH => ?_); refine pu_ 2 (some 5) (ba 9 4) ?_; refine ta_ 0 (some 3) (ba 9 5) ?_; refine ta_ 3 (some 6) (ba 9 13) ?_; refine pu_ 4 (some 7) (ba 9 29) ?_; refine pu_ 5 (some 8) (ba 9 61) ?_; refine pu_ 6 (some 9) (ba 9 125) ?_; refine og_ 1 (some 4) (ba 9 127) Tryz.func175 ?_; refine ox_ (inf_c _ _ fm_ _) BK HB (fun w4 BK HB hH => no_ ?_); refine pu_ 7 (some 10) (ba 9 255) ?_; refine pu_ 8 (some 2) (ba 9 511) ?_; refine done_ (by kernel_rfl) ?_; obtain ⟨z0, z1, y0, y1⟩ := zz_ BK; try go_wp2
    go_ret; exact ⟨ret_int (by decide +kernel), bl2_⟩
theorem parts_c (F E : Int) (hF : Fm F E) (a : Nat) (ha : a < 18446744073709551616) (w : World) : Calls Tryz.prog 179 #[.agg #[.int .i64 F, .int .i64 E], .int .u64 a] w fun e w' => e = .returned (.tuple #[.int .u64 ((pm (fmt F) a : Nat) : Int), .int .i64 (pe (fmt F) a)]) ∧ Below w.heap.size w w' := by
  have HB := zm_ (Below.refl w.heap.size w); rcases hF with ⟨rfl, rfl⟩ | ⟨rfl, rfl⟩
  all_goals
    go_enter Tryz.func179, Tryz.ntmps179
    go_wp2_with (first | ((with_reducible refine gate_dst (N := 2) rfl ?_); (refine bx_ rfl ?_); intro gb w4 hbox hb; replace HB := zm_ (below_step bl2_ hb); have BK := zm_ hbox; clear hb hbox; obtain ⟨z0, z1, y0, y1⟩ := zz_ BK) | (go_at_call 103; (with_reducible refine (size_c _ _ fm_ _ (by assumption) _).mono ?_); refine cb_ BK HB ?_; intro w4 BK HB z0 z1 y0 y1) | (go_at_call 219; (with_reducible refine (least_c _ _ fm_ _).mono ?_); refine cb_ BK HB ?_; intro w4 BK HB z0 z1 y0 y1))
    rotate_left; replace BK := zm_ (blk_drew BK.out); replace HB := zm_ (below_drew1 HB.out); refine start_ (S := Hd gb _ _) (ds := []) (ba 13 0) (by kernel_rfl) rfl rfl (hd_ BK) (fun hH => ?_); refine pu_ 0 (some 30) (ba 13 1) ?_; refine pu_ 1 (some 31) (ba 13 3) ?_; refine pu_ 8 (some 38) (ba 13 259) ?_; refine ta_ 2 (some 32) (ba 13 263) ?_; refine pu_ 3 (some 33) (ba 13 271) ?_; refine pu_ 4 (some 34) (ba 13 287) ?_; refine pu_ 5 (some 35) (ba 13 319) ?_; refine ta_ 6 (some 36) (ba 13 383) ?_; refine og_ 7 (some 37) (ba 13 511) Tryz.func219 ?_; refine ox_ (least_c _ _ fm_ _) BK HB (fun w4 BK HB hH => no_ ?_); refine pu_ 9 (some 39) (ba 13 1023) ?_; refine pu_ 10 (some 40) (ba 13 2047) ?_; refine pu_ 11 (some 4) (ba 13 4095) ?_; refine pu_ 12 (some 5) (ba 13 8191) ?_; refine done_ (by kernel_rfl) ?_; obtain ⟨z0, z1, y0, y1⟩ := zz_ BK; try go_wp2
    · go_ret2
      exact ⟨parts_hi' _ _ fm_ a _ _ _ (by decide +kernel) (by decide +kernel) (by decide +kernel) (by assumption), bl2_⟩
    · go_wp2_with (first | (go_at_call 219; (with_reducible refine (least_c _ _ fm_ _).mono ?_); refine cb_ BK HB ?_; intro w4 BK HB z0 z1 y0 y1))
      go_ret2; exact ⟨parts_lo' _ _ fm_ a _ _ (by assumption) (by decide +kernel) (by decide +kernel), bl2_⟩
end Go.Proofs.YtkhhhceeoljheaaGreatDoor
set_option linter.unusedVariables false
set_option maxHeartbeats 8000000
set_option maxRecDepth 100000
namespace Go.Proofs.YtkhhhceeoljheaaGreatDoor
open Go.RowKit Go.Proofs.YtkhhhceeoljheaaGreatDoor.Fl Ieee Go.Proofs.YtkhhhceeoljheaaGreatDoorW.PrintWords Go.Proofs.YtkhhhceeoljheaaGreatDoorW.PrintLast Go.Proofs.YtkhhhceeoljheaaGreatDoorW.PrintMore
theorem or0 (f : Format) (a b : Nat) (hf : f.signWeight ≤ 9223372036854775808) : (bits .or .u64 ((siz f a : Nat) : Int) ((siz f b : Nat) : Int) == 0) = decide (siz f a = 0 ∧ siz f b = 0) := by
  have h1 := siz_lt f a; have h2 := siz_lt f b; rw [forN _ _ (by omega) (by omega), Bool.eq_iff_iff, beq_iff_eq, decide_eq_true_iff, Int.natCast_eq_zero, Nat.or_eq_zero_iff]
theorem less_l (f : Format) (a b : Nat) (hf : f.signWeight ≤ 9223372036854775808) (h : (bits .or .u64 ((siz f a : Nat) : Int) ((siz f b : Nat) : Int) == 0) = true) : false = decide (sr f a < sr f b) := by
  rw [or0 f a b hf] at h; have h := of_decide_eq_true h; unfold sr; symm; apply decide_eq_false
  split <;> split <;> omega
theorem less_n (f : Format) (a b : Nat) (hf : f.signWeight ≤ 9223372036854775808) (h : (bits .or .u64 ((siz f a : Nat) : Int) ((siz f b : Nat) : Int) == 0) = false) (c : (!(neg f a == neg f b)) = true) : neg f a = decide (sr f a < sr f b) := by
  rw [or0 f a b hf] at h; have h := of_decide_eq_false h; unfold sr; symm
  cases hA : neg f a <;> cases hB : neg f b <;> rw [hA, hB] at c <;> first | (exact absurd c (by decide)) | skip
  · apply decide_eq_false; simp only [Bool.false_eq_true, ↓reduceIte]; omega
  · apply decide_eq_true; simp only [Bool.false_eq_true, ↓reduceIte]; omega
theorem less_s (f : Format) (a b : Nat) (c : (!(neg f a == neg f b)) = false) (d : neg f a = true) : decide (siz f b < siz f a) = decide (sr f a < sr f b) := by
  unfold sr; rw [d] at c ⊢; cases hB : neg f b <;> rw [hB] at c
  · exact absurd c (by decide)
  · rw [decide_eq_decide]; simp only [↓reduceIte]; omega
theorem less_t (f : Format) (a b : Nat) (c : (!(neg f a == neg f b)) = false) (d : neg f a = false) : decide (siz f a < siz f b) = decide (sr f a < sr f b) := by
  unfold sr; rw [d] at c ⊢; cases hB : neg f b <;> rw [hB] at c
  · rw [decide_eq_decide]; simp only [Bool.false_eq_true, ↓reduceIte]; omega
  · exact absurd c (by decide)
theorem less_c (F E : Int) (hF : Fm F E) (a : Nat) (ha : a < 18446744073709551616) (b : Nat) (hc : b < 18446744073709551616) (w : World) : Calls Tryz.prog 91 #[.agg #[.int .i64 F, .int .i64 E], .int .u64 a, .int .u64 b] w fun e w' => e = .returned (.bool (decide (sr (fmt F) a < sr (fmt F) b))) ∧ Below w.heap.size w w' := by
  have HB := zm_ (Below.refl w.heap.size w); rcases hF with ⟨rfl, rfl⟩ | ⟨rfl, rfl⟩
  all_goals
    go_enter Tryz.func91, Tryz.ntmps91
    go_wp2_with (first | ((with_reducible refine gate_dst (N := 3) rfl ?_); (refine bx_ rfl ?_); intro gb w4 hbox hb; replace HB := zm_ (below_step bl2_ hb); have BK := zm_ hbox; clear hb hbox; have z0 : w4.cell? ⟨gb, 0, none⟩ = some (.int .i64 _) := (blk_cell BK.out 0).trans rfl; have z1 : w4.cell? ⟨gb, 1, none⟩ = some (.int .i64 _) := (blk_cell BK.out 1).trans rfl; have y0 := blk_frozen BK.out 0; have y1 := blk_frozen BK.out 1))
    replace BK := zm_ (blk_drew BK.out); replace HB := zm_ (below_drew1 HB.out); refine start_ (S := Hd gb _ _) (ds := []) (ba 8 0) (by kernel_rfl) rfl rfl (hd_ BK) (fun hH => ?_); refine pu_ 1 (some 10) (ba 8 2) ?_; refine pu_ 4 (some 13) (ba 8 18) ?_; refine ta_ 0 (some 9) (ba 8 19) ?_; refine ta_ 3 (some 12) (ba 8 27) ?_; refine og_ 2 (some 11) (ba 8 31) Tryz.func103 ?_; refine ox_ (size_c _ _ fm_ _ (by assumption) _) BK HB (fun w4 BK HB hH => no_ ?_); refine og_ 5 (some 14) (ba 8 63) Tryz.func103 ?_; refine ox_ (size_c _ _ fm_ _ (by assumption) _) BK HB (fun w4 BK HB hH => no_ ?_); refine pu_ 6 (some 7) (ba 8 127) ?_; refine pu_ 7 (some 8) (ba 8 255) ?_; refine done_ (by kernel_rfl) ?_; have z0 : w4.cell? ⟨gb, 0, none⟩ = some (.int .i64 _) := (blk_cell BK.out 0).trans rfl; have z1 : w4.cell? ⟨gb, 1, none⟩ = some (.int .i64 _) := (blk_cell BK.out 1).trans rfl; have y0 := blk_frozen BK.out 0; have y1 := blk_frozen BK.out 1; try go_wp2
    · go_ret
      exact ⟨ret_bool (less_l _ a b (by decide +kernel) (by assumption)), bl2_⟩
    replace BK := zm_ (blk_drew BK.out); replace HB := zm_ (below_drew1 HB.out); refine start_ (S := Hd gb _ _) (ds := []) (ba 8 0) (by kernel_rfl) rfl rfl (hd_ BK) (fun hH => ?_); refine pu_ 1 (some 22) (ba 8 2) ?_; refine pu_ 4 (some 25) (ba 8 18) ?_; refine ta_ 0 (some 21) (ba 8 19) ?_; refine ta_ 3 (some 24) (ba 8 27) ?_; refine og_ 2 (some 23) (ba 8 31) Tryz.func102 ?_; refine ox_ (neg_c _ _ fm_ _ (by assumption) _) BK HB (fun w4 BK HB hH => no_ ?_); refine og_ 5 (some 26) (ba 8 63) Tryz.func102 ?_; refine ox_ (neg_c _ _ fm_ _ (by assumption) _) BK HB (fun w4 BK HB hH => no_ ?_); refine pu_ 6 (some 27) (ba 8 127) ?_; refine pu_ 7 (some 20) (ba 8 255) ?_; refine done_ (by kernel_rfl) ?_; have z0 : w4.cell? ⟨gb, 0, none⟩ = some (.int .i64 _) := (blk_cell BK.out 0).trans rfl; have z1 : w4.cell? ⟨gb, 1, none⟩ = some (.int .i64 _) := (blk_cell BK.out 1).trans rfl; have y0 := blk_frozen BK.out 0; have y1 := blk_frozen BK.out 1; try go_wp2_with (first | (go_at_call 102; (with_reducible refine (neg_c _ _ fm_ _ (by assumption) _).mono ?_); rintro e w4 ⟨rfl, hb⟩; replace BK := bk_ BK hb; replace HB := zm_ (below_step bl2_ hb); clear hb; have z0 : w4.cell? ⟨gb, 0, none⟩ = some (.int .i64 _) := (blk_cell BK.out 0).trans rfl; have z1 : w4.cell? ⟨gb, 1, none⟩ = some (.int .i64 _) := (blk_cell BK.out 1).trans rfl; have y0 := blk_frozen BK.out 0; have y1 := blk_frozen BK.out 1))
    · go_ret
      exact ⟨ret_bool (less_n _ a b (by decide +kernel) (by assumption) (by assumption)), bl2_⟩
    · go_ret
      exact ⟨ret_bool (less_s _ a b (by assumption) (by assumption)), bl2_⟩
    · go_ret
      exact ⟨ret_bool (less_t _ a b (by assumption) (by assumption)), bl2_⟩
theorem div_le' (m j : Nat) : m / 2 ^ j * 2 ^ j ≤ m := Nat.div_mul_le_self _ _
theorem jam_k (m j : Nat) (hm : m < 18446744073709551616) (P t : Int) (hP : P = ((2 ^ j : Nat) : Int)) (ht : t = IntKind.u64.wrap ((m : Int) / P * P) ∨ t = (m : Int) / P * P) : t = ((m / 2 ^ j * 2 ^ j : Nat) : Int) := by
  subst hP; have h := div_le' m j; have e : (m : Int) / ((2 ^ j : Nat) : Int) * ((2 ^ j : Nat) : Int) = ((m / 2 ^ j * 2 ^ j : Nat) : Int) := by rw [← Int.natCast_ediv, Int.natCast_mul]
  rw [e] at ht; generalize m / 2 ^ j * 2 ^ j = z at *; rcases ht with rfl | rfl
  · rw [u64i (by omega) (by omega)]
  · rfl
theorem or_1 (q : Nat) : q ||| 1 = 2 * (q / 2) + 1 := by
  apply Nat.eq_of_testBit_eq
  intro i; rw [Nat.testBit_or]
  cases i with
  | zero => simp
  | succ i => simp [Nat.testBit_succ]; rw [show (2 * (q / 2) + 1) / 2 = q / 2 by omega]
theorem jam_z (m j : Nat) : m / 2 ^ j * 2 ^ j = m ↔ m % 2 ^ j = 0 := by
  have := Nat.div_add_mod m (2 ^ j); rw [Nat.mul_comm] at this; omega
theorem jam_y (m j : Nat) (hm : m < 18446744073709551616) (P t : Int) (h : (t != (m : Int)) = true) (hP : P = ((2 ^ j : Nat) : Int)) (ht : t = IntKind.u64.wrap ((m : Int) / P * P) ∨ t = (m : Int) / P * P) : bits .or .u64 ((m : Int) / P) 1 = ((jam m j : Nat) : Int) := by
  rw [jam_k m j hm P t hP ht] at h; subst hP
  have h : ¬ m % 2 ^ j = 0 := by
    rw [← jam_z]; intro e; rw [e] at h; simp at h
  have hq : m / 2 ^ j ≤ m := Nat.div_le_self _ _; unfold jam; rw [if_neg h, ← Int.natCast_ediv, show (1 : Int) = ((1 : Nat) : Int) from rfl, forN _ _ (by omega) (by omega), or_1]
theorem jam_n (m j : Nat) (hm : m < 18446744073709551616) (P t : Int) (h : (t != (m : Int)) = false) (hP : P = ((2 ^ j : Nat) : Int)) (ht : t = IntKind.u64.wrap ((m : Int) / P * P) ∨ t = (m : Int) / P * P) : (m : Int) / P = ((jam m j : Nat) : Int) := by
  rw [jam_k m j hm P t hP ht] at h; subst hP
  have h : m % 2 ^ j = 0 := by
    rw [← jam_z]; generalize m / 2 ^ j * 2 ^ j = z at *; by_cases e : z = m
    · exact e
    · have e2 : (z : Int) ≠ (m : Int) := by omega
      rw [bne_iff_ne.mpr e2] at h; cases h
  unfold jam; rw [if_pos h, ← Int.natCast_ediv]
theorem pow_nat (b : Int) : (2 : Int) ^ b.toNat = ((2 ^ b.toNat : Nat) : Int) := by simp
theorem jam_c (m : Nat) (hm : m < 18446744073709551616) (by' : Int) (h0 : 0 ≤ by') (h1 : by' < 100000) (w : World) : Calls Tryz.prog 180 #[.int .u64 m, .int .i64 by'] w fun e w' => e = .returned (.int .u64 ((jam m (min by'.toNat 63) : Nat) : Int)) ∧ w = w' := by
  go_enter Tryz.func180, Tryz.ntmps180
  go_wp2
  · go_ret
    exact ⟨ret_int (by rw [Nat.min_eq_right (by omega)]; exact jam_y m 63 hm _ _ (by assumption) (by decide +kernel) (Or.inr rfl)), rfl⟩
  · go_ret
    exact ⟨ret_int (by rw [Nat.min_eq_right (by omega)]; exact jam_n m 63 hm _ _ (by assumption) (by decide +kernel) (Or.inr rfl)), rfl⟩
  · go_ret
    exact ⟨ret_int (by rw [Nat.min_eq_left (by omega)]; exact jam_y m by'.toNat hm _ _ (by assumption) (pow_nat _) (Or.inl rfl)), rfl⟩
  · go_ret
    exact ⟨ret_int (by rw [Nat.min_eq_left (by omega)]; exact jam_n m by'.toNat hm _ _ (by assumption) (pow_nat _) (Or.inl rfl)), rfl⟩
end Go.Proofs.YtkhhhceeoljheaaGreatDoor
set_option linter.unusedVariables false
set_option maxHeartbeats 8000000
set_option maxRecDepth 100000
namespace Go.Proofs.YtkhhhceeoljheaaGreatDoor
open Go.RowKit Go.Proofs.YtkhhhceeoljheaaGreatDoor.Fl Ieee Go.Proofs.YtkhhhceeoljheaaGreatDoorW.PrintWords Go.Proofs.YtkhhhceeoljheaaGreatDoorW.PrintLast Go.Proofs.YtkhhhceeoljheaaGreatDoorW.PrintMore
theorem len_c (m : Nat) (hm : m < 18446744073709551616) (w : World) : Calls Tryz.prog 92 #[.int .u64 m] w fun e w' => e = .returned (.int .i64 ((Lib.bitLen m : Nat) : Int)) ∧ Below w.heap.size w w' := by
  refine (Tryz.bits_Len64 m w (by omega) (by omega)).mono ?_; rintro e w' ⟨rfl, rfl⟩; exact ⟨by rw [Int.toNat_natCast], Below.refl _ _⟩
def dropE (F L : Int) (m : Nat) (x : Int) : Int := wrap64 (max (wrap64 (wrap64 (wrap64 (((Lib.bitLen m : Nat) : Int) + x) - 1) - F)) L - x)
theorem least_v (F E : Int) (hF : Fm F E) (L : Int) (hL : (fmt F).leastPlace = L) (w : World) : Calls Tryz.prog 219 #[.agg #[.int .i64 F, .int .i64 E]] w fun e w' => e = .returned (.int .i64 L) ∧ Below w.heap.size w w' := hL ▸ least_c F E hF w
theorem drop_b (F E L : Int) (hF : Fm F E) (hL : -1074 ≤ L ∧ L ≤ -149) (m : Nat) (hm : m < 18446744073709551616) (x : Int) (hx : -4900 ≤ x ∧ x ≤ 4900) : dropE F L m x = max (((Lib.bitLen m : Nat) : Int) + x - 1 - F) L - x ∧ -9000 ≤ dropE F L m x ∧ dropE F L m x ≤ 9000 := by
  have hb := fm_b F E hF; have hl := Lib.bitLenAux_le 64 m 64 (by omega); have hF2 : 23 ≤ F ∧ F ≤ 52 := by unfold Fm at hF; omega
  unfold dropE; have hl : Lib.bitLen m ≤ 64 := hl; generalize Lib.bitLen m = n at *; rw [i64i (show -9223372036854775808 ≤ (n : Int) + x by omega) (by omega), i64i (show -9223372036854775808 ≤ (n : Int) + x - 1 by omega) (by omega), i64i (show -9223372036854775808 ≤ (n : Int) + x - 1 - F by omega) (by omega)]; rw [i64i (by omega) (by omega)]; omega
theorem signed_v (F E : Int) (hF : Fm F E) (s : Bool) (x : Int) (hx : 0 ≤ x ∧ x < (((fmt F).signWeight : Nat) : Int)) (w : World) : Calls Tryz.prog 101 #[.agg #[.int .i64 F, .int .i64 E], .bool s, .int .u64 x] w fun e w' => e = .returned (.int .u64 (((fmt F).word s x.toNat : Nat) : Int)) ∧ Below w.heap.size w w' := by
  have h := signed_c F E hF s x.toNat (by omega) w; rw [Int.toNat_of_nonneg hx.1] at h; exact h
theorem inf_ok (F E : Int) (hF : Fm F E) : 0 ≤ (((fmt F).infRung : Nat) : Int) ∧ (((fmt F).infRung : Nat) : Int) < (((fmt F).signWeight : Nat) : Int) := by
  have := fm_b F E hF; omega
theorem min_ok (F E I : Int) (hF : Fm F E) (hI : I = (((fmt F).infRung : Nat) : Int)) {n : Int} : 0 ≤ min (IntKind.u64.wrap n) I ∧ min (IntKind.u64.wrap n) I < (((fmt F).signWeight : Nat) : Int) := by
  have := fm_b F E hF; rw [u64w]; omega
theorem signed_z (F E : Int) (hF : Fm F E) (s : Bool) (w : World) : Calls Tryz.prog 101 #[.agg #[.int .i64 F, .int .i64 E], .bool s, .int .u64 0] w fun e w' => e = .returned (.int .u64 (((fmt F).word s 0 : Nat) : Int)) ∧ Below w.heap.size w w' :=
  signed_c F E hF s 0 (by rcases hF with ⟨rfl, rfl⟩ | ⟨rfl, rfl⟩ <;> decide +kernel) w
theorem round_0 (F E : Int) (hF : Fm F E) (s : Bool) (x : Int) (more : Bool) (w : World) : Calls Tryz.prog 181 #[.agg #[.int .i64 F, .int .i64 E], .bool s, .int .u64 0, .int .i64 x, .bool more] w fun e w' => e = .returned (.int .u64 (((fmt F).word s 0 : Nat) : Int)) ∧ Below w.heap.size w w' := by
  have HB := zm_ (Below.refl w.heap.size w); rcases hF with ⟨rfl, rfl⟩ | ⟨rfl, rfl⟩
  all_goals
    go_enter Tryz.func181, Tryz.ntmps181
    go_wp2_with (first | ((with_reducible refine gate_dst (N := 5) rfl ?_); (refine bx_ rfl ?_); intro gb w4 hbox hb; replace HB := zm_ (below_step bl2_ hb); have BK := zm_ hbox; clear hb hbox; have z0 : w4.cell? ⟨gb, 0, none⟩ = some (.int .i64 _) := (blk_cell BK.out 0).trans rfl; have z1 : w4.cell? ⟨gb, 1, none⟩ = some (.int .i64 _) := (blk_cell BK.out 1).trans rfl; have y0 := blk_frozen BK.out 0; have y1 := blk_frozen BK.out 1) | (go_at_call 101; (with_reducible refine (signed_z _ _ fm_ _ _).mono ?_); rintro e w4 ⟨rfl, hb⟩; replace BK := bk_ BK hb; replace HB := zm_ (below_step bl2_ hb); clear hb; have z0 : w4.cell? ⟨gb, 0, none⟩ = some (.int .i64 _) := (blk_cell BK.out 0).trans rfl; have z1 : w4.cell? ⟨gb, 1, none⟩ = some (.int .i64 _) := (blk_cell BK.out 1).trans rfl; have y0 := blk_frozen BK.out 0; have y1 := blk_frozen BK.out 1))
    go_ret; exact ⟨rfl, bl2_⟩
theorem round_32 (s : Bool) (m : Nat) (hm : m < 18446744073709551616) (x : Int) (hx : -4900 ≤ x ∧ x ≤ 4900) (more : Bool) (hmo : more = true → 288230376151711744 ≤ m) (h0 : m ≠ 0) (w : World) : Calls Tryz.prog 181 #[.agg #[.int .i64 23, .int .i64 8], .bool s, .int .u64 m, .int .i64 x, .bool more] w fun e w' => e = .returned (.int .u64 (((fmt 23).word s (rung (fmt 23) (2 * m + more.toNat) (x - 1)) : Nat) : Int)) ∧ Below w.heap.size w w' := by
  have HB := zm_ (Below.refl w.heap.size w); have hF : Fm 23 8 := fm32; obtain ⟨L, hL, hLb⟩ : ∃ L, (fmt 23).leastPlace = L ∧ -1074 ≤ L ∧ L ≤ -149 := ⟨_, rfl, (fm_b 23 8 hF).2.2.1, (fm_b 23 8 hF).2.2.2.1⟩
  have HL := Lib.hid hL; obtain ⟨D, hD⟩ : ∃ D, dropE 23 L m x = D := ⟨_, rfl⟩
  have hd := drop_b 23 8 L hF hLb m hm x hx; rw [hD] at hd; have RD := Lib.hid (Rnd.mk hF h0 hm hmo hx hL hd : Rnd 23 8 m more x D L); have hz : ((m : Int) == 0) = false := beq_false_of_ne (by omega); clear hL h0 hmo; have hc1 : max x (-5000) = x := by omega
  have hc2 : min x 5000 = x := by omega
  go_enter Tryz.func181, Tryz.ntmps181
  go_wp2_with (first | ((with_reducible refine gate_dst (N := 5) rfl ?_); (refine bx_ rfl ?_); intro gb w4 hbox hb; replace HB := zm_ (below_step bl2_ hb); have BK := zm_ hbox; clear hb hbox; have z0 : w4.cell? ⟨gb, 0, none⟩ = some (.int .i64 _) := (blk_cell BK.out 0).trans rfl; have z1 : w4.cell? ⟨gb, 1, none⟩ = some (.int .i64 _) := (blk_cell BK.out 1).trans rfl; have y0 := blk_frozen BK.out 0; have y1 := blk_frozen BK.out 1))
  replace BK := zm_ (blk_drew BK.out); replace HB := zm_ (below_drew1 HB.out); refine start_ (S := Hd gb _ _) (ds := []) (ba 14 0) (by kernel_rfl) rfl rfl (hd_ BK) (fun hH => ?_); refine pu_ 0 (some 22) (ba 14 1) ?_; refine pu_ 2 (some 24) (ba 14 5) ?_; refine pu_ 5 (some 27) (ba 14 37) ?_; refine pu_ 11 (some 33) (ba 14 2085) ?_; refine ta_ 6 (some 28) (ba 14 2149) ?_; refine ta_ 8 (some 30) (ba 14 2405) ?_; refine og_ 1 (some 23) (ba 14 2407) Tryz.func92 ?_; refine ox_ (len_c _ (by assumption) _) BK HB (fun w4 BK HB hH => no_ ?_); refine pu_ 3 (some 25) (ba 14 2415) ?_; refine pu_ 4 (some 26) (ba 14 2431) ?_; refine pu_ 7 (some 29) (ba 14 2559) ?_; refine og_ 9 (some 31) (ba 14 3071) Tryz.func219 ?_; refine ox_ (least_v _ _ fm_ _ HL.out _) BK HB (fun w4 BK HB hH => no_ ?_); refine pu_ 10 (some 32) (ba 14 4095) ?_; refine pu_ 12 (some 34) (ba 14 8191) ?_; refine pu_ 13 (some 11) (ba 14 16383) ?_; refine done_ (by kernel_rfl) ?_; have z0 : w4.cell? ⟨gb, 0, none⟩ = some (.int .i64 _) := (blk_cell BK.out 0).trans rfl; have z1 : w4.cell? ⟨gb, 1, none⟩ = some (.int .i64 _) := (blk_cell BK.out 1).trans rfl; have y0 := blk_frozen BK.out 0; have y1 := blk_frozen BK.out 1; unfold dropE at hD; rw [hD]; have HX := zm_ hx; clear hc1 hc2 hD hx hd hz; by_cases hk : D ≤ 0
  case' pos =>
    go_upto_region 13 with fail
    generalize hM : IntKind.u64.wrap ((m : Int) * 2 ^ min (IntKind.u64.wrap (wrap64 (-D))).toNat 64) = M; have hM0 := rd_wb hM; have HQ := Lib.hid (rd_lo RD.out hk hM); clear hM
  case' neg =>
    by_cases hk2 : 64 < D
    case' pos =>
      have HQ := Lib.hid (rd_hi RD.out hk2)
    case' neg =>
      go_upto_region 13 with fail
      all_goals first | (generalize hM : IntKind.u64.wrap ((m : Int) / 2 / 2 ^ (D.toNat - 1) + 1) = M; have hM0 := rd_wb hM; have HQ := Lib.hid (rd_up RD.out hk hk2 (by first | exact Or.inr ⟨by assumption, Or.inl (by assumption)⟩ | exact Or.inr ⟨by assumption, Or.inr (by assumption)⟩ | exact Or.inl (by omega)) hM); clear hM) | (generalize hM : (m : Int) / 2 / 2 ^ (D.toNat - 1) = M; have hM0 := rd_nb m hm D hk hM; have HQ := Lib.hid (rd_no RD.out hk hk2 (by assumption) (by first | exact Or.inr ⟨by assumption, by assumption⟩ | exact Or.inl (by assumption)) hM); clear hM)
  all_goals (try go_wp2_with (first | (go_at_call 219; (with_reducible refine (least_v _ _ fm_ _ HL.out _).mono ?_); rintro e w4 ⟨rfl, hb⟩; replace BK := bk_ BK hb; replace HB := zm_ (below_step bl2_ hb); clear hb; have z0 : w4.cell? ⟨gb, 0, none⟩ = some (.int .i64 _) := (blk_cell BK.out 0).trans rfl; have z1 : w4.cell? ⟨gb, 1, none⟩ = some (.int .i64 _) := (blk_cell BK.out 1).trans rfl; have y0 := blk_frozen BK.out 0; have y1 := blk_frozen BK.out 1)))
  all_goals first
    | (replace BK := zm_ (blk_drew BK.out); replace HB := zm_ (below_drew1 HB.out); refine start_ (S := Hd gb _ _) (ds := []) (ba 6 0) (by kernel_rfl) rfl rfl (hd_ BK) (fun hH => ?_); refine pu_ 1 (some 92) (ba 6 2) ?_; refine ta_ 0 (some 91) (ba 6 3) ?_; refine ta_ 2 (some 93) (ba 6 7) ?_; refine og_ 3 (some 94) (ba 6 15) Tryz.func175 ?_; refine ox_ (inf_c _ _ fm_ _) BK HB (fun w4 BK HB hH => no_ ?_); refine og_ 4 (some 95) (ba 6 31) Tryz.func101 ?_; refine (signed_v _ _ fm_ _ _ (by first | exact inf_ok _ _ fm_ | exact min_ok _ _ _ fm_ (by decide +kernel)) _).mono ?_; rintro e w4 ⟨rfl, hb⟩; replace BK := bk_ BK hb; replace HB := zm_ (below_step bl2_ hb); clear hb; refine ⟨_, rfl, hd_ BK, fun hH => ?_⟩; refine no_ ?_; refine pu_ 5 (some 10) (ba 6 63) ?_; refine done_ (by kernel_rfl) ?_; have z0 : w4.cell? ⟨gb, 0, none⟩ = some (.int .i64 _) := (blk_cell BK.out 0).trans rfl; have z1 : w4.cell? ⟨gb, 1, none⟩ = some (.int .i64 _) := (blk_cell BK.out 1).trans rfl; have y0 := blk_frozen BK.out 0; have y1 := blk_frozen BK.out 1; try go_wp2; go_ret; exact ⟨ret_int (rd_inf RD.out HQ.out s _ _ (by assumption) (by assumption) (by decide +kernel) (by decide +kernel)), bl2_⟩)
    | (replace BK := zm_ (blk_drew BK.out); replace HB := zm_ (below_drew1 HB.out); refine start_ (S := Hd gb _ _) (ds := []) (ba 15 0) (by kernel_rfl) rfl rfl (hd_ BK) (fun hH => ?_); refine pu_ 1 (some 97) (ba 15 2) ?_; refine pu_ 2 (some 98) (ba 15 6) ?_; refine pu_ 3 (some 99) (ba 15 14) ?_; refine pu_ 4 (some 100) (ba 15 30) ?_; refine pu_ 8 (some 104) (ba 15 286) ?_; refine ta_ 0 (some 96) (ba 15 287) ?_; refine ta_ 5 (some 101) (ba 15 319) ?_; refine pu_ 6 (some 102) (ba 15 383) ?_; refine pu_ 7 (some 103) (ba 15 511) ?_; refine pu_ 9 (some 105) (ba 15 1023) ?_; refine ta_ 10 (some 106) (ba 15 2047) ?_; refine og_ 11 (some 107) (ba 15 4095) Tryz.func175 ?_; refine ox_ (inf_c _ _ fm_ _) BK HB (fun w4 BK HB hH => no_ ?_); refine pu_ 12 (some 108) (ba 15 8191) ?_; refine og_ 13 (some 109) (ba 15 16383) Tryz.func101 ?_; refine (signed_v _ _ fm_ _ _ (by first | exact inf_ok _ _ fm_ | exact min_ok _ _ _ fm_ (by decide +kernel)) _).mono ?_; rintro e w4 ⟨rfl, hb⟩; replace BK := bk_ BK hb; replace HB := zm_ (below_step bl2_ hb); clear hb; refine ⟨_, rfl, hd_ BK, fun hH => ?_⟩; refine no_ ?_; refine pu_ 14 (some 10) (ba 15 32767) ?_; refine done_ (by kernel_rfl) ?_; have z0 : w4.cell? ⟨gb, 0, none⟩ = some (.int .i64 _) := (blk_cell BK.out 0).trans rfl; have z1 : w4.cell? ⟨gb, 1, none⟩ = some (.int .i64 _) := (blk_cell BK.out 1).trans rfl; have y0 := blk_frozen BK.out 0; have y1 := blk_frozen BK.out 1; try go_wp2; go_ret; first | exact ⟨ret_int (rd_fin RD.out HQ.out s 8388608 256 _ _ (Or.inl ⟨by assumption, rfl, by assumption⟩) (by decide +kernel) (by decide +kernel) (by decide +kernel)), bl2_⟩ | exact ⟨ret_int (rd_fin RD.out HQ.out s 8388608 256 _ 0 (Or.inr ⟨by first | assumption | decide, rfl⟩) (by decide +kernel) (by decide +kernel) (by decide +kernel)), bl2_⟩ | exact ⟨ret_int (rd_fin0 RD.out HQ.out s 8388608 256 _ (by decide +kernel) (by decide +kernel) (by decide +kernel) (by decide +kernel)), bl2_⟩)
theorem round_64 (s : Bool) (m : Nat) (hm : m < 18446744073709551616) (x : Int) (hx : -4900 ≤ x ∧ x ≤ 4900) (more : Bool) (hmo : more = true → 288230376151711744 ≤ m) (h0 : m ≠ 0) (w : World) : Calls Tryz.prog 181 #[.agg #[.int .i64 52, .int .i64 11], .bool s, .int .u64 m, .int .i64 x, .bool more] w fun e w' => e = .returned (.int .u64 (((fmt 52).word s (rung (fmt 52) (2 * m + more.toNat) (x - 1)) : Nat) : Int)) ∧ Below w.heap.size w w' := by
  have HB := zm_ (Below.refl w.heap.size w); have hF : Fm 52 11 := fm64; obtain ⟨L, hL, hLb⟩ : ∃ L, (fmt 52).leastPlace = L ∧ -1074 ≤ L ∧ L ≤ -149 := ⟨_, rfl, (fm_b 52 11 hF).2.2.1, (fm_b 52 11 hF).2.2.2.1⟩
  have HL := Lib.hid hL; obtain ⟨D, hD⟩ : ∃ D, dropE 52 L m x = D := ⟨_, rfl⟩
  have hd := drop_b 52 11 L hF hLb m hm x hx; rw [hD] at hd; have RD := Lib.hid (Rnd.mk hF h0 hm hmo hx hL hd : Rnd 52 11 m more x D L); have hz : ((m : Int) == 0) = false := beq_false_of_ne (by omega); clear hL h0 hmo; have hc1 : max x (-5000) = x := by omega
  have hc2 : min x 5000 = x := by omega
  go_enter Tryz.func181, Tryz.ntmps181
  go_wp2_with (first | ((with_reducible refine gate_dst (N := 5) rfl ?_); (refine bx_ rfl ?_); intro gb w4 hbox hb; replace HB := zm_ (below_step bl2_ hb); have BK := zm_ hbox; clear hb hbox; have z0 : w4.cell? ⟨gb, 0, none⟩ = some (.int .i64 _) := (blk_cell BK.out 0).trans rfl; have z1 : w4.cell? ⟨gb, 1, none⟩ = some (.int .i64 _) := (blk_cell BK.out 1).trans rfl; have y0 := blk_frozen BK.out 0; have y1 := blk_frozen BK.out 1))
  replace BK := zm_ (blk_drew BK.out); replace HB := zm_ (below_drew1 HB.out); refine start_ (S := Hd gb _ _) (ds := []) (ba 14 0) (by kernel_rfl) rfl rfl (hd_ BK) (fun hH => ?_); refine pu_ 0 (some 22) (ba 14 1) ?_; refine pu_ 2 (some 24) (ba 14 5) ?_; refine pu_ 5 (some 27) (ba 14 37) ?_; refine pu_ 11 (some 33) (ba 14 2085) ?_; refine ta_ 6 (some 28) (ba 14 2149) ?_; refine ta_ 8 (some 30) (ba 14 2405) ?_; refine og_ 1 (some 23) (ba 14 2407) Tryz.func92 ?_; refine ox_ (len_c _ (by assumption) _) BK HB (fun w4 BK HB hH => no_ ?_); refine pu_ 3 (some 25) (ba 14 2415) ?_; refine pu_ 4 (some 26) (ba 14 2431) ?_; refine pu_ 7 (some 29) (ba 14 2559) ?_; refine og_ 9 (some 31) (ba 14 3071) Tryz.func219 ?_; refine ox_ (least_v _ _ fm_ _ HL.out _) BK HB (fun w4 BK HB hH => no_ ?_); refine pu_ 10 (some 32) (ba 14 4095) ?_; refine pu_ 12 (some 34) (ba 14 8191) ?_; refine pu_ 13 (some 11) (ba 14 16383) ?_; refine done_ (by kernel_rfl) ?_; have z0 : w4.cell? ⟨gb, 0, none⟩ = some (.int .i64 _) := (blk_cell BK.out 0).trans rfl; have z1 : w4.cell? ⟨gb, 1, none⟩ = some (.int .i64 _) := (blk_cell BK.out 1).trans rfl; have y0 := blk_frozen BK.out 0; have y1 := blk_frozen BK.out 1; unfold dropE at hD; rw [hD]; have HX := zm_ hx; clear hc1 hc2 hD hx hd hz; by_cases hk : D ≤ 0
  case' pos =>
    go_upto_region 13 with fail
    generalize hM : IntKind.u64.wrap ((m : Int) * 2 ^ min (IntKind.u64.wrap (wrap64 (-D))).toNat 64) = M; have hM0 := rd_wb hM; have HQ := Lib.hid (rd_lo RD.out hk hM); clear hM
  case' neg =>
    by_cases hk2 : 64 < D
    case' pos =>
      have HQ := Lib.hid (rd_hi RD.out hk2)
    case' neg =>
      go_upto_region 13 with fail
      all_goals first | (generalize hM : IntKind.u64.wrap ((m : Int) / 2 / 2 ^ (D.toNat - 1) + 1) = M; have hM0 := rd_wb hM; have HQ := Lib.hid (rd_up RD.out hk hk2 (by first | exact Or.inr ⟨by assumption, Or.inl (by assumption)⟩ | exact Or.inr ⟨by assumption, Or.inr (by assumption)⟩ | exact Or.inl (by omega)) hM); clear hM) | (generalize hM : (m : Int) / 2 / 2 ^ (D.toNat - 1) = M; have hM0 := rd_nb m hm D hk hM; have HQ := Lib.hid (rd_no RD.out hk hk2 (by assumption) (by first | exact Or.inr ⟨by assumption, by assumption⟩ | exact Or.inl (by assumption)) hM); clear hM)
  all_goals (try go_wp2_with (first | (go_at_call 219; (with_reducible refine (least_v _ _ fm_ _ HL.out _).mono ?_); rintro e w4 ⟨rfl, hb⟩; replace BK := bk_ BK hb; replace HB := zm_ (below_step bl2_ hb); clear hb; have z0 : w4.cell? ⟨gb, 0, none⟩ = some (.int .i64 _) := (blk_cell BK.out 0).trans rfl; have z1 : w4.cell? ⟨gb, 1, none⟩ = some (.int .i64 _) := (blk_cell BK.out 1).trans rfl; have y0 := blk_frozen BK.out 0; have y1 := blk_frozen BK.out 1)))
  all_goals first
    | (replace BK := zm_ (blk_drew BK.out); replace HB := zm_ (below_drew1 HB.out); refine start_ (S := Hd gb _ _) (ds := []) (ba 6 0) (by kernel_rfl) rfl rfl (hd_ BK) (fun hH => ?_); refine pu_ 1 (some 92) (ba 6 2) ?_; refine ta_ 0 (some 91) (ba 6 3) ?_; refine ta_ 2 (some 93) (ba 6 7) ?_; refine og_ 3 (some 94) (ba 6 15) Tryz.func175 ?_; refine ox_ (inf_c _ _ fm_ _) BK HB (fun w4 BK HB hH => no_ ?_); refine og_ 4 (some 95) (ba 6 31) Tryz.func101 ?_; refine (signed_v _ _ fm_ _ _ (by first | exact inf_ok _ _ fm_ | exact min_ok _ _ _ fm_ (by decide +kernel)) _).mono ?_; rintro e w4 ⟨rfl, hb⟩; replace BK := bk_ BK hb; replace HB := zm_ (below_step bl2_ hb); clear hb; refine ⟨_, rfl, hd_ BK, fun hH => ?_⟩; refine no_ ?_; refine pu_ 5 (some 10) (ba 6 63) ?_; refine done_ (by kernel_rfl) ?_; have z0 : w4.cell? ⟨gb, 0, none⟩ = some (.int .i64 _) := (blk_cell BK.out 0).trans rfl; have z1 : w4.cell? ⟨gb, 1, none⟩ = some (.int .i64 _) := (blk_cell BK.out 1).trans rfl; have y0 := blk_frozen BK.out 0; have y1 := blk_frozen BK.out 1; try go_wp2; go_ret; exact ⟨ret_int (rd_inf RD.out HQ.out s _ _ (by assumption) (by assumption) (by decide +kernel) (by decide +kernel)), bl2_⟩)
    | (replace BK := zm_ (blk_drew BK.out); replace HB := zm_ (below_drew1 HB.out); refine start_ (S := Hd gb _ _) (ds := []) (ba 15 0) (by kernel_rfl) rfl rfl (hd_ BK) (fun hH => ?_); refine pu_ 1 (some 97) (ba 15 2) ?_; refine pu_ 2 (some 98) (ba 15 6) ?_; refine pu_ 3 (some 99) (ba 15 14) ?_; refine pu_ 4 (some 100) (ba 15 30) ?_; refine pu_ 8 (some 104) (ba 15 286) ?_; refine ta_ 0 (some 96) (ba 15 287) ?_; refine ta_ 5 (some 101) (ba 15 319) ?_; refine pu_ 6 (some 102) (ba 15 383) ?_; refine pu_ 7 (some 103) (ba 15 511) ?_; refine pu_ 9 (some 105) (ba 15 1023) ?_; refine ta_ 10 (some 106) (ba 15 2047) ?_; refine og_ 11 (some 107) (ba 15 4095) Tryz.func175 ?_; refine ox_ (inf_c _ _ fm_ _) BK HB (fun w4 BK HB hH => no_ ?_); refine pu_ 12 (some 108) (ba 15 8191) ?_; refine og_ 13 (some 109) (ba 15 16383) Tryz.func101 ?_; refine (signed_v _ _ fm_ _ _ (by first | exact inf_ok _ _ fm_ | exact min_ok _ _ _ fm_ (by decide +kernel)) _).mono ?_; rintro e w4 ⟨rfl, hb⟩; replace BK := bk_ BK hb; replace HB := zm_ (below_step bl2_ hb); clear hb; refine ⟨_, rfl, hd_ BK, fun hH => ?_⟩; refine no_ ?_; refine pu_ 14 (some 10) (ba 15 32767) ?_; refine done_ (by kernel_rfl) ?_; have z0 : w4.cell? ⟨gb, 0, none⟩ = some (.int .i64 _) := (blk_cell BK.out 0).trans rfl; have z1 : w4.cell? ⟨gb, 1, none⟩ = some (.int .i64 _) := (blk_cell BK.out 1).trans rfl; have y0 := blk_frozen BK.out 0; have y1 := blk_frozen BK.out 1; try go_wp2; go_ret; first | exact ⟨ret_int (rd_fin RD.out HQ.out s 4503599627370496 2048 _ _ (Or.inl ⟨by assumption, rfl, by assumption⟩) (by decide +kernel) (by decide +kernel) (by decide +kernel)), bl2_⟩ | exact ⟨ret_int (rd_fin RD.out HQ.out s 4503599627370496 2048 _ 0 (Or.inr ⟨by first | assumption | decide, rfl⟩) (by decide +kernel) (by decide +kernel) (by decide +kernel)), bl2_⟩ | exact ⟨ret_int (rd_fin0 RD.out HQ.out s 4503599627370496 2048 _ (by decide +kernel) (by decide +kernel) (by decide +kernel) (by decide +kernel)), bl2_⟩)
end Go.Proofs.YtkhhhceeoljheaaGreatDoor

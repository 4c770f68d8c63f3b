import Derived.Test.YtkhhhceeoljheaaGreatDoorInPIntx9
namespace Go.Proofs.YtkhhhceeoljheaaGreatDoor.PInt
open Go.RowKit Go.Proofs.YtkhhhceeoljheaaGreatDoorW.PrintWords Go.Proofs.YtkhhhceeoljheaaGreatDoorW.PrintLast Go.Proofs.YtkhhhceeoljheaaGreatDoorW.PrintMore
attribute [local go_sem] max2_int min2_int max_two min_two max_three min_three max_four min_four   
set_option linter.unusedVariables false
set_option linter.unusedSimpArgs false
def bodkinref07_Clean.j0 : Nat → Int → Bool → Int → Int → Int → Bool → Option (Int × Int × Int × Bool)
 | 0, _, _, _, _, _, _ => none
 | k + 1, x4, x5, x265000, x265001, x265002, x265003 => if x5 = true then ((bodkinref02_Cut.f k 32 x265001).bind fun t266 => (some (x265000, t266, 0, false))) else (if x4 = 123 then (some (x265000, x265001, x265002, false)) else (some (x265000, x265001, 0, false)))
def bodkinref07_Clean.f (k : Nat) (a0_0 : Int) (a0_1 : Int) (a0_2 : Int) (a0_3 : Bool) : Option (Int × Int × Int × Bool) := if a0_0 = 127 then (bodkinref07_Clean.j0 k a0_0 (a0_0 == 127) a0_0 a0_1 a0_2 a0_3) else (bodkinref07_Clean.j0 k a0_0 (a0_0 == 125) a0_0 a0_1 a0_2 a0_3)
theorem bodkinref07_Clean.mono_l : ∀ k, (∀ y0 y1 y2 y3 y4 y5, LeO (bodkinref07_Clean.j0 k y0 y1 y2 y3 y4 y5) (bodkinref07_Clean.j0 (k + 1) y0 y1 y2 y3 y4 y5))
 | 0 => fun _ _ _ _ _ _ r h => by simp [bodkinref07_Clean.j0] at h
 | k + 1 => by
  have ih0 := bodkinref07_Clean.mono_l k
  ·intro y0 y1 y2 y3 y4 y5
   unfold bodkinref07_Clean.j0
   repeat' first
   | (with_reducible exact ih0 _ _ _ _ _ _)
   | (with_reducible exact bodkinref02_Cut.mono _ _ _)
   | (with_reducible exact LeO.refl _)
   | (with_reducible exact LeO.none _)
   | (with_reducible refine LeO.ite ?_ ?_)
   | (with_reducible refine LeO.bind ?_ (fun _ => ?_))
   | exact ih0 _ _ _ _ _ _
   | exact bodkinref02_Cut.mono _ _ _
   | exact LeO.none _
   | refine LeO.ite ?_ ?_
   | refine LeO.bind ?_ (fun _ => ?_)
theorem bodkinref07_Clean.mono : ∀ a0 a1 a2 a3 k, LeO (bodkinref07_Clean.f k a0 a1 a2 a3) (bodkinref07_Clean.f (k + 1) a0 a1 a2 a3) := by
 intro a0 a1 a2 a3 k
 have ih0 := bodkinref07_Clean.mono_l k
 unfold bodkinref07_Clean.f
 repeat' first
   | (with_reducible exact ih0 _ _ _ _ _ _)
   | (with_reducible exact bodkinref02_Cut.mono _ _ _)
   | (with_reducible exact LeO.refl _)
   | (with_reducible exact LeO.none _)
   | (with_reducible refine LeO.ite ?_ ?_)
   | (with_reducible refine LeO.bind ?_ (fun _ => ?_))
   | exact ih0 _ _ _ _ _ _
   | exact bodkinref02_Cut.mono _ _ _
   | exact LeO.none _
   | refine LeO.ite ?_ ?_
   | refine LeO.bind ?_ (fun _ => ?_)
set_option maxHeartbeats 8000000 in
set_option maxRecDepth 100000 in
theorem bodkinref07_Clean.calls (k : Nat) (a0_0 : Int) (a0_1 : Int) (a0_2 : Int) (a0_3 : Bool) (r1 : Int) (r2 : Int) (r3 : Int) (r4 : Bool) (w : World) (h : bodkinref07_Clean.f k a0_0 a0_1 a0_2 a0_3 = some (r1, r2, r3, r4)) (hG : GD w := by first | assumption | exact GD.below (by assumption) (by repeat (first | exact Aside0.out (by assumption) | exact Below.refl _ _ | assumption | apply below_alloc | apply pw_below_drewN | apply below_drew1 | refine below_set ?_ (Aside0.out (by assumption))))) :
  Calls Tryz.prog 33 #[.agg #[.int .i64 a0_0, .int .u64 a0_1, .int .u64 a0_2, .bool a0_3]] w fun e w' => e = .returned (.agg #[.int .i64 r1, .int .u64 r2, .int .u64 r3, .bool r4]) ∧ Below w.heap.size w w' := by
 have hu33 := Tryz.underlying33
 have HB := Aside0.mk (Below.refl w.heap.size w)
 have H : (if a0_0 = 127 then (bodkinref07_Clean.j0 k a0_0 (a0_0 == 127) a0_0 a0_1 a0_2 a0_3) else (bodkinref07_Clean.j0 k a0_0 (a0_0 == 125) a0_0 a0_1 a0_2 a0_3)) = some (r1, r2, r3, r4) := h
 clear h
 have HC2 := Aside0.mk H
 clear H
 go_enter Tryz.func33, Tryz.ntmps33
 go_upto_if 5 with (first | ((with_reducible refine gate_dst (N := 1) rfl ?_); refine box_event ?hg (N := 1) ?hd (cs := #[.int .i64 a0_0, .int .u64 a0_1, .int .u64 a0_2, .bool a0_3]) (t := 33) ?hr ?_; (case hd => rfl); (case hg => rfl); (case hr => first | (go_simp; done) | (go_simp; rfl)); intro gb264 hg w3 hbox hb; have n0_ := Aside0.mk (below_step bl_ hb); have n1_ := Aside0.mk (hbox); have n2_ := Aside0.mk ((by rw [hg]; exact (below_size bl_) : w.heap.size ≤ gb264)); have n3_ := Aside0.mk ((by rw [hg]; exact (below_size bl_) : w.heap.size ≤ gb264)); clear HB; have HB := n0_; have BK264 := n1_; have GW264 := n2_; have GE264 := n3_; clear n0_ n1_ n2_ n3_; clear hb hbox hg) | ((with_reducible refine gate_dst (N := 2) rfl ?_); refine box_event ?hg (N := 2) ?hd (cs := #[.int .i64 0, .int .u64 0, .int .u64 0, .bool false]) (t := 33) ?hr ?_; (case hd => rfl); (case hg => rfl); (case hr => first | (go_simp; done) | (go_simp; rfl)); intro gb265 hg w4 hbox hb; have n0_ := Aside0.mk (blk_below (g := gb264) (o := .cells #[.int .i64 a0_0, .int .u64 a0_1, .int .u64 a0_2, .bool a0_3] 33 (0, 0)) (by (with_reducible repeat (first | refine blk_drewN ?_ _ | refine blk_drew ?_ | refine blk_alloc ?_ _)); exact BK264.out) hb); have n1_ := Aside0.mk (below_step bs_ hb); have n2_ := Aside0.mk (hbox); have n3_ := Aside0.mk ((by rw [hg]; exact (below_size bs_) : w.heap.size ≤ gb265)); have n4_ := Aside0.mk ((by rw [hg]; exact (below_size bs_) : w.heap.size ≤ gb265)); have n5_ := Aside0.mk ((by rw [hg]; exact Nat.ne_of_lt (blk_lt (g := gb264) (o := .cells #[.int .i64 a0_0, .int .u64 a0_1, .int .u64 a0_2, .bool a0_3] 33 (0, 0)) (by (with_reducible repeat (first | refine blk_drewN ?_ _ | refine blk_drew ?_ | refine blk_alloc ?_ _)); exact BK264.out)) : gb264 ≠ gb265)); have n6_ := Aside0.mk ((by rw [hg]; exact Nat.ne_of_gt (blk_lt (g := gb264) (o := .cells #[.int .i64 a0_0, .int .u64 a0_1, .int .u64 a0_2, .bool a0_3] 33 (0, 0)) (by (with_reducible repeat (first | refine blk_drewN ?_ _ | refine blk_drew ?_ | refine blk_alloc ?_ _)); exact BK264.out)) : gb265 ≠ gb264)); clear BK264; clear HB; have BK264 := n0_; have HB := n1_; have BK265 := n2_; have GW265 := n3_; have GE265 := n4_; have NB264_265 := n5_; have NB265_264 := n6_; clear n0_ n1_ n2_ n3_ n4_ n5_ n6_; clear hb hbox hg; have hnb5 := NB264_265.out; have hnc5 := NB265_264.out; have hcz6_0 : w4.cell? ⟨gb264, 0, none⟩ = some (.int .i64 a0_0) := (blk_cell BK264.out 0).trans rfl; have hcz6_1 : w4.cell? ⟨gb264, 1, none⟩ = some (.int .u64 a0_1) := (blk_cell BK264.out 1).trans rfl; have hcz6_2 : w4.cell? ⟨gb264, 2, none⟩ = some (.int .u64 a0_2) := (blk_cell BK264.out 2).trans rfl; have hcz6_3 : w4.cell? ⟨gb264, 3, none⟩ = some (.bool a0_3) := (blk_cell BK264.out 3).trans rfl; have hfz6_0 := blk_frozen BK264.out 0; have hfz6_1 := blk_frozen BK264.out 1; have hfz6_2 := blk_frozen BK264.out 2; have hfz6_3 := blk_frozen BK264.out 3))
 (try simp only [Act.put, List.setIfInBounds_toArray, List.set_cons_zero, List.set_cons_succ])
 go_cut [5] (fun v5 wc => ∃ (kq : Nat) (x5_1 : Bool), v5 = .bool x5_1 ∧ Aside0 (bodkinref07_Clean.j0 kq a0_0 x5_1 a0_0 a0_1 a0_2 a0_3 = some (r1, r2, r3, r4)) ∧ Aside0 (kq ≤ k) ∧ Aside0 (wc.heap[gb264]? = some (.cells #[.int .i64 a0_0, .int .u64 a0_1, .int .u64 a0_2, .bool a0_3] 33 (0, 0))) ∧ Aside0 (wc.heap[gb265]? = some (.cells #[.int .i64 0, .int .u64 0, .int .u64 0, .bool false] 33 (0, 0))) ∧ Aside0 (Below w.heap.size w wc))
 case first =>
  have H := HC2.out
  clear HC2
  by_cases c7 : a0_0 = 127
  ·rw [if_pos c7] at H
   have c7b0 : (a0_0 == 127) = true := beq_iff_eq.mpr c7
   have c7b1 : (a0_0 != 127) = false := bne_eq_false_iff_eq.mpr c7
   clear c7
   (first | rw [c7b0] | (simp only [i64_w, i32_w]; rw [c7b0]) | skip)
   have H' := Aside0.mk H
   clear H
   go_wp2
   go_meet
   case rel => exact ⟨_, ((a0_0 == 127)), rs_, H', ⟨by first | omega | exact Nat.le_refl _⟩, ⟨by (with_reducible repeat (first | refine blk_drewN ?_ _ | refine blk_drew ?_ | refine blk_alloc ?_ _)); exact BK264.out⟩, ⟨by (with_reducible repeat (first | refine blk_drewN ?_ _ | refine blk_drew ?_ | refine blk_alloc ?_ _)); exact BK265.out⟩, ⟨bs_⟩⟩
  ·rw [if_neg c7] at H
   have c7b0 : (a0_0 == 127) = false := beq_eq_false_iff_ne.mpr c7
   have c7b1 : (a0_0 != 127) = true := bne_iff_ne.mpr c7
   (first | rw [c7b0] | (simp only [i64_w, i32_w]; rw [c7b0]) | skip)
   have H' := Aside0.mk H
   clear H
   go_wp2
   go_meet
   case rel => exact ⟨_, ((a0_0 == 125)), rs_, H', ⟨by first | omega | exact Nat.le_refl _⟩, ⟨by (with_reducible repeat (first | refine blk_drewN ?_ _ | refine blk_drew ?_ | refine blk_alloc ?_ _)); exact BK264.out⟩, ⟨by (with_reducible repeat (first | refine blk_drewN ?_ _ | refine blk_drew ?_ | refine blk_alloc ?_ _)); exact BK265.out⟩, ⟨bs_⟩⟩
 case rest =>
  clear HC2
  (try clear p2); (try clear c3); (try clear c5); (try clear c7); (try clear c7b0); (try clear c7b1); (try clear hcz6_0); (try clear hcz6_1); (try clear hcz6_2); (try clear hcz6_3); (try clear hfz6_0); (try clear hfz6_1); (try clear hfz6_2); (try clear hfz6_3)
  obtain ⟨kq, x5_1, rfl, HA, HJ1, BK264, BK265, HB⟩ := hcut
  cases kq with
  | zero => exact absurd HA.out (by simp [bodkinref07_Clean.j0])
  | succ kj1 =>
   have H := HA.out
   clear HA
   simp only [bodkinref07_Clean.j0] at H
   by_cases c8 : x5_1 = true
   ·subst c8
    have H1 : ((bodkinref02_Cut.f kj1 32 a0_1).bind fun t266 => (some (a0_0, t266, 0, false))) = some (r1, r2, r3, r4) := by rw [if_pos rfl] at H; exact H
    clear H
    have H := H1
    clear H1
    replace H := Option.bind_eq_some_iff.mp H
    obtain ⟨t266, A90, H⟩ := H
    replace H : (some (a0_0, t266, 0, false)) = some (r1, r2, r3, r4) := H
    have A9 := Aside0.mk A90
    clear A90
    simp only [Option.some.injEq, Prod.mk.injEq] at H
    obtain ⟨rfl, rfl, rfl, rfl⟩ := H
    try go_wp2
    have n0_ := Aside0.mk (blk_drew BK264.out)
    have n1_ := Aside0.mk (blk_drew BK265.out)
    have n2_ := Aside0.mk (below_drew1 HB.out)
    clear BK264
    clear BK265
    clear HB
    have BK264 := n0_
    have BK265 := n1_
    have HB := n2_
    clear n0_ n1_ n2_
    refine start_ (n := 7) (S := fun w' => w'.cell? ⟨gb264, 0, none⟩ = some (.int .i64 a0_0) ∧ w'.cell? ⟨gb264, 1, none⟩ = some (.int .u64 a0_1) ∧ w'.cell? ⟨gb264, 2, none⟩ = some (.int .u64 a0_2) ∧ w'.cell? ⟨gb264, 3, none⟩ = some (.bool a0_3)) (ds := []) #[false, false, false, false, false, false, false] (by kernel_rfl) rfl rfl ⟨(blk_cell BK264.out 0).trans rfl, (blk_cell BK264.out 1).trans rfl, (blk_cell BK264.out 2).trans rfl, (blk_cell BK264.out 3).trans rfl⟩ (fun hHeld => ?_)
    generalize wc.drew = w10 at BK264 BK265 HB hHeld ⊢
    refine pure_ (i := 0) (N := some 8) (v := ?_) (a' := ?_) #[true, false, false, false, false, false, false] rfl rfl (by kernel_rfl) (fun _ _ _ h => h) (Or.inl ⟨by rfl, ?_⟩) ?_ ?_
    rotate_left
    ·intro w'
     go_simp
     with_reducible rfl
    rotate_left
    ·simp only [Act.put, List.setIfInBounds_toArray, List.set_cons_zero, List.set_cons_succ, i64_w, i32_w]
     rfl
    refine pure_ (i := 2) (N := some 10) (v := ?_) (a' := ?_) #[true, false, true, false, false, false, false] rfl rfl (by kernel_rfl) (fun _ _ _ h => h) (Or.inl ⟨by rfl, ?_⟩) ?_ ?_
    rotate_left
    ·intro w'
     go_simp
     with_reducible rfl
    rotate_left
    ·simp only [Act.put, List.setIfInBounds_toArray, List.set_cons_zero, List.set_cons_succ, i64_w, i32_w]
     rfl
    refine take_ (i := 1) (N := some 9) (v := ?_) (a' := ?_) #[true, true, true, false, false, false, false] rfl rfl (by kernel_rfl) (fun _ _ _ h => h) (Or.inl ⟨by rfl, ?_⟩) hHeld ?_ ?_
    rotate_left
    ·rintro w' ⟨s0, s1, s2, s3⟩
     go_simp
     with_reducible rfl
    rotate_left
    ·simp only [Act.put, List.setIfInBounds_toArray, List.set_cons_zero, List.set_cons_succ, i64_w, i32_w]
     rfl
    refine take_ (i := 3) (N := some 11) (v := ?_) (a' := ?_) #[true, true, true, true, false, false, false] rfl rfl (by kernel_rfl) (fun _ _ _ h => h) (Or.inl ⟨by rfl, ?_⟩) hHeld ?_ ?_
    rotate_left
    ·rintro w' ⟨s0, s1, s2, s3⟩
     go_simp
     with_reducible rfl
    rotate_left
    ·simp only [Act.put, List.setIfInBounds_toArray, List.set_cons_zero, List.set_cons_succ, i64_w, i32_w]
     rfl
    refine one_ (i := 4) (N := some 12) #[true, true, true, true, true, false, false] rfl rfl (by kernel_rfl) (by decide) (fun K hK => ?_)
    refine goes_ Tryz.func54 (by kernel_rfl) rfl #[.int .i64 32, .int .u64 a0_1] (by rfl) rfl rfl mp_ ?_
    with_reducible refine (bodkinref02_Cut.calls kj1 32 a0_1 t266 _ A9.out).mono ?_
    rintro e w' ⟨rfl, ⟨nd, rfl⟩⟩
    refine ⟨_, rfl, ?_⟩
    refine hK.out _ _ ⟨(blk_cell BK264.out 0).trans rfl, (blk_cell BK264.out 1).trans rfl, (blk_cell BK264.out 2).trans rfl, (blk_cell BK264.out 3).trans rfl⟩ (fun hHeld => ?_)
    clear hK K
    refine norm_ (a' := ?_) ?_ ?_
    rotate_left
    ·show Act.put _ (some 12) _ = _
     simp only [Act.put, List.setIfInBounds_toArray, List.set_cons_zero, List.set_cons_succ, i64_w, i32_w]
     rfl
    refine pure_ (i := 5) (N := some 13) (v := ?_) (a' := ?_) #[true, true, true, true, true, true, false] rfl rfl (by kernel_rfl) (fun _ _ _ h => h) (Or.inl ⟨by rfl, ?_⟩) ?_ ?_
    rotate_left
    ·intro w'
     go_simp
     with_reducible rfl
    rotate_left
    ·simp only [Act.put, List.setIfInBounds_toArray, List.set_cons_zero, List.set_cons_succ, i64_w, i32_w]
     rfl
    refine one_ (i := 6) (N := none) #[true, true, true, true, true, true, true] rfl rfl (by kernel_rfl) (by decide) (fun K hK => ?_)
    have hs11 : w10.cell? ⟨gb265, 0, none⟩ = some (.int .i64 0) := (blk_cell BK265.out 0).trans rfl
    have hfs11 := blk_frozen BK265.out 0
    have hns11_0 := NB264_265.out
    have hms11_0 := NB265_264.out
    have hs12 : w10.cell? ⟨gb265, 1, none⟩ = some (.int .u64 0) := (blk_cell BK265.out 1).trans rfl
    have hfs12 := blk_frozen BK265.out 1
    have hns12_0 := NB264_265.out
    have hms12_0 := NB265_264.out
    have hs13 : w10.cell? ⟨gb265, 2, none⟩ = some (.int .u64 0) := (blk_cell BK265.out 2).trans rfl
    have hfs13 := blk_frozen BK265.out 2
    have hns13_0 := NB264_265.out
    have hms13_0 := NB265_264.out
    have hs14 : w10.cell? ⟨gb265, 3, none⟩ = some (.bool false) := (blk_cell BK265.out 3).trans rfl
    have hfs14 := blk_frozen BK265.out 3
    have hns14_0 := NB264_265.out
    have hms14_0 := NB265_264.out
    refine skip_ (w1 := ?_) (by rfl) rfl ?_ ?_
    rotate_left
    ·go_simp
     rfl
    refine hK.out _ _ ⟨((cell_far (p := ⟨gb265, _, none⟩) NB264_265.out _).trans (((cell_far (p := ⟨gb265, _, none⟩) NB264_265.out _).trans (((cell_far (p := ⟨gb265, _, none⟩) NB264_265.out _).trans (((cell_far (p := ⟨gb265, _, none⟩) NB264_265.out _).trans (hHeld.1)))))))), ((cell_far (p := ⟨gb265, _, none⟩) NB264_265.out _).trans (((cell_far (p := ⟨gb265, _, none⟩) NB264_265.out _).trans (((cell_far (p := ⟨gb265, _, none⟩) NB264_265.out _).trans (((cell_far (p := ⟨gb265, _, none⟩) NB264_265.out _).trans (hHeld.2.1)))))))), ((cell_far (p := ⟨gb265, _, none⟩) NB264_265.out _).trans (((cell_far (p := ⟨gb265, _, none⟩) NB264_265.out _).trans (((cell_far (p := ⟨gb265, _, none⟩) NB264_265.out _).trans (((cell_far (p := ⟨gb265, _, none⟩) NB264_265.out _).trans (hHeld.2.2.1)))))))), ((cell_far (p := ⟨gb265, _, none⟩) NB264_265.out _).trans (((cell_far (p := ⟨gb265, _, none⟩) NB264_265.out _).trans (((cell_far (p := ⟨gb265, _, none⟩) NB264_265.out _).trans (((cell_far (p := ⟨gb265, _, none⟩) NB264_265.out _).trans (hHeld.2.2.2))))))))⟩ (fun hHeld => ?_)
    clear hK K
    refine done_ (by kernel_rfl) ?_
    try go_wp2
    refine bodyPost_ret (results_cell_row rfl _ _ gb265 33 #[.int .i64 a0_0, .int .u64 t266, .int .u64 0, .bool false] (0, 0) _ rfl (by (with_reducible repeat (first | refine blk_drewN ?_ _ | refine blk_drew ?_ | refine blk_alloc ?_ _)); refine blk_put (cs := #[.int .i64 a0_0, .int .u64 t266, .int .u64 0, .bool false]) ?_ 3 _ rfl; (with_reducible repeat (first | refine blk_drewN ?_ _ | refine blk_drew ?_ | refine blk_alloc ?_ _)); refine blk_put (cs := #[.int .i64 a0_0, .int .u64 t266, .int .u64 0, .bool false]) ?_ 2 _ rfl; (with_reducible repeat (first | refine blk_drewN ?_ _ | refine blk_drew ?_ | refine blk_alloc ?_ _)); refine blk_put (cs := #[.int .i64 a0_0, .int .u64 0, .int .u64 0, .bool false]) ?_ 1 _ rfl; (with_reducible repeat (first | refine blk_drewN ?_ _ | refine blk_drew ?_ | refine blk_alloc ?_ _)); refine blk_put (cs := #[.int .i64 0, .int .u64 0, .int .u64 0, .bool false]) ?_ 0 _ rfl; (with_reducible repeat (first | refine blk_drewN ?_ _ | refine blk_drew ?_ | refine blk_alloc ?_ _)); exact BK265.out) Tryz.underlying33 rfl (by kernel_rfl)) rfl ?_
    exact ⟨er_, bs_⟩
   ·replace c8 := Bool.eq_false_iff.mpr c8
    subst c8
    have H1 : (if a0_0 = 123 then (some (a0_0, a0_1, a0_2, false)) else (some (a0_0, a0_1, 0, false))) = some (r1, r2, r3, r4) := by rw [if_neg (show ¬ (false = true) by decide)] at H; exact H
    clear H
    have H := H1
    clear H1
    by_cases c15 : a0_0 = 123
    ·rw [if_pos c15] at H
     have c15b0 : (a0_0 == 123) = true := beq_iff_eq.mpr c15
     have c15b1 : (a0_0 != 123) = false := bne_eq_false_iff_eq.mpr c15
     clear c15
     simp only [Option.some.injEq, Prod.mk.injEq] at H
     obtain ⟨rfl, rfl, rfl, rfl⟩ := H
     have hnb16 := NB264_265.out
     have hnc16 := NB265_264.out
     have hcz17_0 : wc.cell? ⟨gb264, 0, none⟩ = some (.int .i64 a0_0) := (blk_cell BK264.out 0).trans rfl
     have hcz17_1 : wc.cell? ⟨gb264, 1, none⟩ = some (.int .u64 a0_1) := (blk_cell BK264.out 1).trans rfl
     have hcz17_2 : wc.cell? ⟨gb264, 2, none⟩ = some (.int .u64 a0_2) := (blk_cell BK264.out 2).trans rfl
     have hcz17_3 : wc.cell? ⟨gb264, 3, none⟩ = some (.bool a0_3) := (blk_cell BK264.out 3).trans rfl
     have hfz17_0 := blk_frozen BK264.out 0
     have hfz17_1 := blk_frozen BK264.out 1
     have hfz17_2 := blk_frozen BK264.out 2
     have hfz17_3 := blk_frozen BK264.out 3
     have hcz18_0 : wc.cell? ⟨gb265, 0, none⟩ = some (.int .i64 0) := (blk_cell BK265.out 0).trans rfl
     have hcz18_1 : wc.cell? ⟨gb265, 1, none⟩ = some (.int .u64 0) := (blk_cell BK265.out 1).trans rfl
     have hcz18_2 : wc.cell? ⟨gb265, 2, none⟩ = some (.int .u64 0) := (blk_cell BK265.out 2).trans rfl
     have hcz18_3 : wc.cell? ⟨gb265, 3, none⟩ = some (.bool false) := (blk_cell BK265.out 3).trans rfl
     have hfz18_0 := blk_frozen BK265.out 0
     have hfz18_1 := blk_frozen BK265.out 1
     have hfz18_2 := blk_frozen BK265.out 2
     have hfz18_3 := blk_frozen BK265.out 3
     go_wp2
     refine bodyPost_ret (results_cell_row rfl _ _ gb265 33 #[.int .i64 a0_0, .int .u64 a0_1, .int .u64 a0_2, .bool false] (0, 0) _ rfl (by (with_reducible repeat (first | refine blk_drewN ?_ _ | refine blk_drew ?_ | refine blk_alloc ?_ _)); refine blk_put (cs := #[.int .i64 a0_0, .int .u64 a0_1, .int .u64 a0_2, .bool false]) ?_ 3 _ rfl; (with_reducible repeat (first | refine blk_drewN ?_ _ | refine blk_drew ?_ | refine blk_alloc ?_ _)); refine blk_put (cs := #[.int .i64 a0_0, .int .u64 a0_1, .int .u64 0, .bool false]) ?_ 2 _ rfl; (with_reducible repeat (first | refine blk_drewN ?_ _ | refine blk_drew ?_ | refine blk_alloc ?_ _)); refine blk_put (cs := #[.int .i64 a0_0, .int .u64 0, .int .u64 0, .bool false]) ?_ 1 _ rfl; (with_reducible repeat (first | refine blk_drewN ?_ _ | refine blk_drew ?_ | refine blk_alloc ?_ _)); refine blk_put (cs := #[.int .i64 0, .int .u64 0, .int .u64 0, .bool false]) ?_ 0 _ rfl; (with_reducible repeat (first | refine blk_drewN ?_ _ | refine blk_drew ?_ | refine blk_alloc ?_ _)); exact BK265.out) Tryz.underlying33 rfl (by kernel_rfl)) rfl ?_
     exact ⟨er_, bs_⟩
    ·rw [if_neg c15] at H
     have c15b0 : (a0_0 == 123) = false := beq_eq_false_iff_ne.mpr c15
     have c15b1 : (a0_0 != 123) = true := bne_iff_ne.mpr c15
     simp only [Option.some.injEq, Prod.mk.injEq] at H
     obtain ⟨rfl, rfl, rfl, rfl⟩ := H
     have hnb19 := NB264_265.out
     have hnc19 := NB265_264.out
     have hcz20_0 : wc.cell? ⟨gb264, 0, none⟩ = some (.int .i64 a0_0) := (blk_cell BK264.out 0).trans rfl
     have hcz20_1 : wc.cell? ⟨gb264, 1, none⟩ = some (.int .u64 a0_1) := (blk_cell BK264.out 1).trans rfl
     have hcz20_2 : wc.cell? ⟨gb264, 2, none⟩ = some (.int .u64 a0_2) := (blk_cell BK264.out 2).trans rfl
     have hcz20_3 : wc.cell? ⟨gb264, 3, none⟩ = some (.bool a0_3) := (blk_cell BK264.out 3).trans rfl
     have hfz20_0 := blk_frozen BK264.out 0
     have hfz20_1 := blk_frozen BK264.out 1
     have hfz20_2 := blk_frozen BK264.out 2
     have hfz20_3 := blk_frozen BK264.out 3
     have hcz21_0 : wc.cell? ⟨gb265, 0, none⟩ = some (.int .i64 0) := (blk_cell BK265.out 0).trans rfl
     have hcz21_1 : wc.cell? ⟨gb265, 1, none⟩ = some (.int .u64 0) := (blk_cell BK265.out 1).trans rfl
     have hcz21_2 : wc.cell? ⟨gb265, 2, none⟩ = some (.int .u64 0) := (blk_cell BK265.out 2).trans rfl
     have hcz21_3 : wc.cell? ⟨gb265, 3, none⟩ = some (.bool false) := (blk_cell BK265.out 3).trans rfl
     have hfz21_0 := blk_frozen BK265.out 0
     have hfz21_1 := blk_frozen BK265.out 1
     have hfz21_2 := blk_frozen BK265.out 2
     have hfz21_3 := blk_frozen BK265.out 3
     go_wp2
     refine bodyPost_ret (results_cell_row rfl _ _ gb265 33 #[.int .i64 a0_0, .int .u64 a0_1, .int .u64 0, .bool false] (0, 0) _ rfl (by (with_reducible repeat (first | refine blk_drewN ?_ _ | refine blk_drew ?_ | refine blk_alloc ?_ _)); refine blk_put (cs := #[.int .i64 a0_0, .int .u64 a0_1, .int .u64 0, .bool false]) ?_ 3 _ rfl; (with_reducible repeat (first | refine blk_drewN ?_ _ | refine blk_drew ?_ | refine blk_alloc ?_ _)); refine blk_put (cs := #[.int .i64 a0_0, .int .u64 a0_1, .int .u64 0, .bool false]) ?_ 2 _ rfl; (with_reducible repeat (first | refine blk_drewN ?_ _ | refine blk_drew ?_ | refine blk_alloc ?_ _)); refine blk_put (cs := #[.int .i64 a0_0, .int .u64 0, .int .u64 0, .bool false]) ?_ 1 _ rfl; (with_reducible repeat (first | refine blk_drewN ?_ _ | refine blk_drew ?_ | refine blk_alloc ?_ _)); refine blk_put (cs := #[.int .i64 0, .int .u64 0, .int .u64 0, .bool false]) ?_ 0 _ rfl; (with_reducible repeat (first | refine blk_drewN ?_ _ | refine blk_drew ?_ | refine blk_alloc ?_ _)); exact BK265.out) Tryz.underlying33 rfl (by kernel_rfl)) rfl ?_
     exact ⟨er_, bs_⟩
def bodkinref02_Right.f (a0 : Int) : Option (Bool) := if a0 = 8 then (some true) else (if a0 = 16 then (some true) else (if a0 = 32 then (some true) else (some (a0 == 64))))
set_option maxHeartbeats 8000000 in
set_option maxRecDepth 100000 in
theorem bodkinref02_Right.calls (a0 : Int) (r : Bool) (w : World) (h : bodkinref02_Right.f a0 = some r) (hG : GD w := by first | assumption | exact GD.below (by assumption) (by repeat (first | exact Aside0.out (by assumption) | exact Below.refl _ _ | assumption | apply below_alloc | apply pw_below_drewN | apply below_drew1 | refine below_set ?_ (Aside0.out (by assumption))))) :
  Calls Tryz.prog 131 #[.int .i64 a0] w fun e w' => e = .returned (.bool r) ∧ Drawn0 w w' := by
 have H : (if a0 = 8 then (some true) else (if a0 = 16 then (some true) else (if a0 = 32 then (some true) else (some (a0 == 64))))) = some r := h
 clear h
 by_cases c2 : a0 = 8
 ·rw [if_pos c2] at H
  have c2b0 : (a0 == 8) = true := beq_iff_eq.mpr c2
  have c2b1 : (a0 != 8) = false := bne_eq_false_iff_eq.mpr c2
  clear c2
  obtain rfl := Option.some.inj H
  go_enter Tryz.func131, Tryz.ntmps131
  go_wp2
  go_ret
  exact ⟨by first | rfl | (simp; done) | (simp [*]; done), by repeat (first | exact Drawn0.refl _ | apply Drawn0.step)⟩
 ·rw [if_neg c2] at H
  have c2b0 : (a0 == 8) = false := beq_eq_false_iff_ne.mpr c2
  have c2b1 : (a0 != 8) = true := bne_iff_ne.mpr c2
  by_cases c3 : a0 = 16
  ·rw [if_pos c3] at H
   have c3b0 : (a0 == 16) = true := beq_iff_eq.mpr c3
   have c3b1 : (a0 != 16) = false := bne_eq_false_iff_eq.mpr c3
   clear c3
   obtain rfl := Option.some.inj H
   go_enter Tryz.func131, Tryz.ntmps131
   go_wp2
   go_ret
   exact ⟨by first | rfl | (simp; done) | (simp [*]; done), by repeat (first | exact Drawn0.refl _ | apply Drawn0.step)⟩
  ·rw [if_neg c3] at H
   have c3b0 : (a0 == 16) = false := beq_eq_false_iff_ne.mpr c3
   have c3b1 : (a0 != 16) = true := bne_iff_ne.mpr c3
   by_cases c4 : a0 = 32
   ·rw [if_pos c4] at H
    have c4b0 : (a0 == 32) = true := beq_iff_eq.mpr c4
    have c4b1 : (a0 != 32) = false := bne_eq_false_iff_eq.mpr c4
    clear c4
    obtain rfl := Option.some.inj H
    go_enter Tryz.func131, Tryz.ntmps131
    go_wp2
    go_ret
    exact ⟨by first | rfl | (simp; done) | (simp [*]; done), by repeat (first | exact Drawn0.refl _ | apply Drawn0.step)⟩
   ·rw [if_neg c4] at H
    have c4b0 : (a0 == 32) = false := beq_eq_false_iff_ne.mpr c4
    have c4b1 : (a0 != 32) = true := bne_iff_ne.mpr c4
    obtain rfl := Option.some.inj H
    go_enter Tryz.func131, Tryz.ntmps131
    go_wp2
    go_ret
    exact ⟨by first | rfl | (simp; done) | (simp [*]; done), by repeat (first | exact Drawn0.refl _ | apply Drawn0.step)⟩
def bodkinref02_bit.l0 : Nat → Int → Int → Int → Option (Int)
 | 0, _, _, _ => none
 | k + 1, x0, x1, x5 => if x5 < x1 then (bodkinref02_bit.l0 k (IntKind.u64.wrap (Int.tdiv x0 2)) x1 (wrap64 (x5 + 1))) else (some (Int.tmod x0 2))
def bodkinref02_bit.f (k : Nat) (a0 : Int) (a1 : Int) : Option (Int) := bodkinref02_bit.l0 k a0 a1 0
theorem bodkinref02_bit.mono_l : ∀ k, (∀ y0 y1 y2, LeO (bodkinref02_bit.l0 k y0 y1 y2) (bodkinref02_bit.l0 (k + 1) y0 y1 y2))
 | 0 => fun _ _ _ r h => by simp [bodkinref02_bit.l0] at h
 | k + 1 => by
  have ih0 := bodkinref02_bit.mono_l k
  ·intro y0 y1 y2
   unfold bodkinref02_bit.l0
   repeat' first
   | (with_reducible exact ih0 _ _ _)
   | (with_reducible exact LeO.refl _)
   | (with_reducible exact LeO.none _)
   | (with_reducible refine LeO.ite ?_ ?_)
   | (with_reducible refine LeO.bind ?_ (fun _ => ?_))
   | exact ih0 _ _ _
   | exact LeO.none _
   | refine LeO.ite ?_ ?_
   | refine LeO.bind ?_ (fun _ => ?_)
theorem bodkinref02_bit.mono : ∀ a0 a1 k, LeO (bodkinref02_bit.f k a0 a1) (bodkinref02_bit.f (k + 1) a0 a1) := by
 intro a0 a1 k
 have ih0 := bodkinref02_bit.mono_l k
 unfold bodkinref02_bit.f
 repeat' first
   | (with_reducible exact ih0 _ _ _)
   | (with_reducible exact LeO.refl _)
   | (with_reducible exact LeO.none _)
   | (with_reducible refine LeO.ite ?_ ?_)
   | (with_reducible refine LeO.bind ?_ (fun _ => ?_))
   | exact ih0 _ _ _
   | exact LeO.none _
   | refine LeO.ite ?_ ?_
   | refine LeO.bind ?_ (fun _ => ?_)
set_option maxHeartbeats 8000000 in
set_option maxRecDepth 100000 in
theorem bodkinref02_bit.calls (k : Nat) (a0 : Int) (a1 : Int) (r : Int) (w : World) (h : bodkinref02_bit.f k a0 a1 = some r) (hG : GD w := by first | assumption | exact GD.below (by assumption) (by repeat (first | exact Aside0.out (by assumption) | exact Below.refl _ _ | assumption | apply below_alloc | apply pw_below_drewN | apply below_drew1 | refine below_set ?_ (Aside0.out (by assumption))))) :
  Calls Tryz.prog 132 #[.int .u64 a0, .int .i64 a1] w fun e w' => e = .returned (.int .u64 r) ∧ Drawn0 w w' := by
 have H : (bodkinref02_bit.l0 k a0 a1 0) = some r := h
 clear h
 have H' := Aside0.mk H
 clear H
 go_enter Tryz.func132, Tryz.ntmps132
 go_wp2
 go_loopg [0, 5] k (fun kq v0 v5 w' => ∃ (x0_1 : Int) (x5_1 : Int), v0 = .int .u64 x0_1 ∧ v5 = .int .i64 x5_1 ∧ Aside0 (bodkinref02_bit.l0 kq x0_1 a1 x5_1 = some r) ∧ Aside0 (kq ≤ k) ∧ Drawn0 w w')
 case atStart => exact ⟨(a0), (0), rs_, rs_, H', ⟨Nat.le_refl _⟩, by repeat (first | exact Drawn0.refl _ | apply Drawn0.step)⟩
 case round =>
  clear H'
  (try clear c1); (try clear p2)
  obtain ⟨x0_1, x5_1, rfl, rfl, HA, HK1, ⟨m1, rfl⟩⟩ := hrel
  cases gk with
  | zero => exact absurd HA.out (by simp [bodkinref02_bit.l0])
  | succ k1 =>
   have H := HA.out
   clear HA
   simp only [bodkinref02_bit.l0] at H
   by_cases c3 : x5_1 < a1
   ·rw [if_pos c3] at H
    have c3b0 : decide (x5_1 < a1) = true := decide_eq_true c3
    clear c3
    have H' := Aside0.mk H
    clear H
    go_wp2
    go_roundg k1
    case measure => have := HK1.out; omega
    case rel => exact ⟨(IntKind.u64.wrap (Int.tdiv x0_1 2)), (wrap64 (x5_1 + 1)), rs_, rs_, H', ⟨by have := HK1.out; omega⟩, by repeat (first | exact Drawn0.refl _ | apply Drawn0.step)⟩
   ·rw [if_neg c3] at H
    have c3b0 : decide (x5_1 < a1) = false := decide_eq_false c3
    clear c3
    obtain rfl := Option.some.inj H
    go_wp2
    go_ret
    exact ⟨by first | rfl | (simp; done) | (simp [*]; done), by repeat (first | exact Drawn0.refl _ | apply Drawn0.step)⟩
def bodkinref02_Signed.f (k : Nat) (a0 : Int) (a1 : Int) : Option (Int) := (bodkinref02_Right.f a0).bind fun t267 => (if t267 = true then ((bodkinref02_Cut.f k a0 a1).bind fun t268 => ((bodkinref02_bit.f k t268 (wrap64 (a0 - 1))).bind fun t269 => (if t269 = 1 then ((bodkinref02_Cut.f k a0 (IntKind.u64.wrap (-t268))).bind fun t270 => (some (wrap64 ((wrap64 (-(wrap64 (IntKind.u64.wrap (t270 - 1))))) - 1)))) else (some (wrap64 (t268)))))) else (some 0))
theorem bodkinref02_Signed.mono : ∀ a0 a1 k, LeO (bodkinref02_Signed.f k a0 a1) (bodkinref02_Signed.f (k + 1) a0 a1) := by
 intro a0 a1 k
 unfold bodkinref02_Signed.f
 repeat' first
   | (with_reducible exact bodkinref02_Cut.mono _ _ _)
   | (with_reducible exact bodkinref02_bit.mono _ _ _)
   | (with_reducible exact LeO.refl _)
   | (with_reducible exact LeO.none _)
   | (with_reducible refine LeO.ite ?_ ?_)
   | (with_reducible refine LeO.bind ?_ (fun _ => ?_))
   | exact bodkinref02_Cut.mono _ _ _
   | exact bodkinref02_bit.mono _ _ _
   | exact LeO.none _
   | refine LeO.ite ?_ ?_
   | refine LeO.bind ?_ (fun _ => ?_)
set_option maxHeartbeats 8000000 in
set_option maxRecDepth 100000 in
theorem bodkinref02_Signed.calls (k : Nat) (a0 : Int) (a1 : Int) (r : Int) (w : World) (h : bodkinref02_Signed.f k a0 a1 = some r) (hG : GD w := by first | assumption | exact GD.below (by assumption) (by repeat (first | exact Aside0.out (by assumption) | exact Below.refl _ _ | assumption | apply below_alloc | apply pw_below_drewN | apply below_drew1 | refine below_set ?_ (Aside0.out (by assumption))))) :
  Calls Tryz.prog 58 #[.int .i64 a0, .int .u64 a1] w fun e w' => e = .returned (.int .i64 r) ∧ Drawn0 w w' := by
 have H : ((bodkinref02_Right.f a0).bind fun t267 => (if t267 = true then ((bodkinref02_Cut.f k a0 a1).bind fun t268 => ((bodkinref02_bit.f k t268 (wrap64 (a0 - 1))).bind fun t269 => (if t269 = 1 then ((bodkinref02_Cut.f k a0 (IntKind.u64.wrap (-t268))).bind fun t270 => (some (wrap64 ((wrap64 (-(wrap64 (IntKind.u64.wrap (t270 - 1))))) - 1)))) else (some (wrap64 (t268)))))) else (some 0))) = some r := h
 clear h
 replace H := Option.bind_eq_some_iff.mp H
 obtain ⟨t267, A30, H⟩ := H
 replace H : (if t267 = true then ((bodkinref02_Cut.f k a0 a1).bind fun t268 => ((bodkinref02_bit.f k t268 (wrap64 (a0 - 1))).bind fun t269 => (if t269 = 1 then ((bodkinref02_Cut.f k a0 (IntKind.u64.wrap (-t268))).bind fun t270 => (some (wrap64 ((wrap64 (-(wrap64 (IntKind.u64.wrap (t270 - 1))))) - 1)))) else (some (wrap64 (t268)))))) else (some 0)) = some r := H
 have A3 := Aside0.mk A30
 clear A30
 by_cases c4 : t267 = true
 ·subst c4
  have H1 : ((bodkinref02_Cut.f k a0 a1).bind fun t268 => ((bodkinref02_bit.f k t268 (wrap64 (a0 - 1))).bind fun t269 => (if t269 = 1 then ((bodkinref02_Cut.f k a0 (IntKind.u64.wrap (-t268))).bind fun t270 => (some (wrap64 ((wrap64 (-(wrap64 (IntKind.u64.wrap (t270 - 1))))) - 1)))) else (some (wrap64 (t268)))))) = some r := by rw [if_pos rfl] at H; exact H
  clear H
  have H := H1
  clear H1
  replace H := Option.bind_eq_some_iff.mp H
  obtain ⟨t268, A50, H⟩ := H
  replace H : ((bodkinref02_bit.f k t268 (wrap64 (a0 - 1))).bind fun t269 => (if t269 = 1 then ((bodkinref02_Cut.f k a0 (IntKind.u64.wrap (-t268))).bind fun t270 => (some (wrap64 ((wrap64 (-(wrap64 (IntKind.u64.wrap (t270 - 1))))) - 1)))) else (some (wrap64 (t268))))) = some r := H
  have A5 := Aside0.mk A50
  clear A50
  replace H := Option.bind_eq_some_iff.mp H
  obtain ⟨t269, A60, H⟩ := H
  replace H : (if t269 = 1 then ((bodkinref02_Cut.f k a0 (IntKind.u64.wrap (-t268))).bind fun t270 => (some (wrap64 ((wrap64 (-(wrap64 (IntKind.u64.wrap (t270 - 1))))) - 1)))) else (some (wrap64 (t268)))) = some r := H
  have A6 := Aside0.mk A60
  clear A60
  by_cases c7 : t269 = 1
  ·rw [if_pos c7] at H
   have c7b0 : (t269 == 1) = true := beq_iff_eq.mpr c7
   have c7b1 : (t269 != 1) = false := bne_eq_false_iff_eq.mpr c7
   clear c7
   replace H := Option.bind_eq_some_iff.mp H
   obtain ⟨t270, A80, H⟩ := H
   replace H : (some (wrap64 ((wrap64 (-(wrap64 (IntKind.u64.wrap (t270 - 1))))) - 1))) = some r := H
   have A8 := Aside0.mk A80
   clear A80
   obtain rfl := Option.some.inj H
   go_enter Tryz.func58, Tryz.ntmps58
   go_wp2_with (first | ((with_reducible refine gate_callee (f := 131) rfl ?_); refine goesL_ (some 8) rfl rfl Tryz.func131 (by kernel_rfl) rfl #[.int .i64 a0] rfl mp_ ?_; (with_reducible refine (bodkinref02_Right.calls a0 true _ A3.out).mono ?_); rintro e w' ⟨rfl, ⟨nd, rfl⟩⟩; refine ⟨_, rfl, ?_⟩) | ((with_reducible refine gate_callee (f := 54) rfl ?_); refine goesL_ (some 13) rfl rfl Tryz.func54 (by kernel_rfl) rfl #[.int .i64 a0, .int .u64 a1] rfl mp_ ?_; (with_reducible refine (bodkinref02_Cut.calls k a0 a1 t268 _ A5.out).mono ?_); rintro e w' ⟨rfl, ⟨nd, rfl⟩⟩; refine ⟨_, rfl, ?_⟩) | ((with_reducible refine gate_callee (f := 132) rfl ?_); refine goesL_ (some 17) rfl rfl Tryz.func132 (by kernel_rfl) rfl #[.int .u64 t268, .int .i64 (wrap64 (a0 - 1))] rfl mp_ ?_; (with_reducible refine (bodkinref02_bit.calls k t268 (wrap64 (a0 - 1)) t269 _ A6.out).mono ?_); rintro e w' ⟨rfl, ⟨nd, rfl⟩⟩; refine ⟨_, rfl, ?_⟩) | ((with_reducible refine gate_callee (f := 54) rfl ?_); refine goesL_ (some 22) rfl rfl Tryz.func54 (by kernel_rfl) rfl #[.int .i64 a0, .int .u64 (IntKind.u64.wrap (-t268))] rfl mp_ ?_; (with_reducible refine (bodkinref02_Cut.calls k a0 (IntKind.u64.wrap (-t268)) t270 _ A8.out).mono ?_); rintro e w' ⟨rfl, ⟨nd, rfl⟩⟩; refine ⟨_, rfl, ?_⟩))
   go_ret
   exact ⟨by first | rfl | (simp; done) | (simp [*]; done), by repeat (first | exact Drawn0.refl _ | apply Drawn0.step)⟩
  ·rw [if_neg c7] at H
   have c7b0 : (t269 == 1) = false := beq_eq_false_iff_ne.mpr c7
   have c7b1 : (t269 != 1) = true := bne_iff_ne.mpr c7
   obtain rfl := Option.some.inj H
   go_enter Tryz.func58, Tryz.ntmps58
   go_wp2_with (first | ((with_reducible refine gate_callee (f := 131) rfl ?_); refine goesL_ (some 8) rfl rfl Tryz.func131 (by kernel_rfl) rfl #[.int .i64 a0] rfl mp_ ?_; (with_reducible refine (bodkinref02_Right.calls a0 true _ A3.out).mono ?_); rintro e w' ⟨rfl, ⟨nd, rfl⟩⟩; refine ⟨_, rfl, ?_⟩) | ((with_reducible refine gate_callee (f := 54) rfl ?_); refine goesL_ (some 13) rfl rfl Tryz.func54 (by kernel_rfl) rfl #[.int .i64 a0, .int .u64 a1] rfl mp_ ?_; (with_reducible refine (bodkinref02_Cut.calls k a0 a1 t268 _ A5.out).mono ?_); rintro e w' ⟨rfl, ⟨nd, rfl⟩⟩; refine ⟨_, rfl, ?_⟩) | ((with_reducible refine gate_callee (f := 132) rfl ?_); refine goesL_ (some 17) rfl rfl Tryz.func132 (by kernel_rfl) rfl #[.int .u64 t268, .int .i64 (wrap64 (a0 - 1))] rfl mp_ ?_; (with_reducible refine (bodkinref02_bit.calls k t268 (wrap64 (a0 - 1)) t269 _ A6.out).mono ?_); rintro e w' ⟨rfl, ⟨nd, rfl⟩⟩; refine ⟨_, rfl, ?_⟩))
   go_ret
   exact ⟨by first | rfl | (simp; done) | (simp [*]; done), by repeat (first | exact Drawn0.refl _ | apply Drawn0.step)⟩
 ·replace c4 := Bool.eq_false_iff.mpr c4
  subst c4
  have H1 : (some 0) = some r := by rw [if_neg (show ¬ (false = true) by decide)] at H; exact H
  clear H
  have H := H1
  clear H1
  obtain rfl := Option.some.inj H
  go_enter Tryz.func58, Tryz.ntmps58
  go_wp2_with (first | ((with_reducible refine gate_callee (f := 131) rfl ?_); refine goesL_ (some 8) rfl rfl Tryz.func131 (by kernel_rfl) rfl #[.int .i64 a0] rfl mp_ ?_; (with_reducible refine (bodkinref02_Right.calls a0 false _ A3.out).mono ?_); rintro e w' ⟨rfl, ⟨nd, rfl⟩⟩; refine ⟨_, rfl, ?_⟩))
  go_ret
  exact ⟨by first | rfl | (simp; done) | (simp [*]; done), by repeat (first | exact Drawn0.refl _ | apply Drawn0.step)⟩
def bodkinref02_list.l0 : Nat → Int → Int → List Int → Int → Option (List Int)
 | 0, _, _, _, _ => none
 | k + 1, x0, x1, x5, x6 => if x6 < x0 then (if x5.length < 17592186044416 then (bodkinref02_list.l0 k x0 (IntKind.u64.wrap (Int.tdiv x1 2)) (x5 ++ [Int.tmod x1 2]) (wrap64 (x6 + 1))) else (none)) else (some x5)
def bodkinref02_list.f (k : Nat) (a0 : Int) (a1 : Int) : Option (List Int) := bodkinref02_list.l0 k a0 a1 ([] : List Int) 0
theorem bodkinref02_list.mono_l : ∀ k, (∀ y0 y1 y2 y3, LeO (bodkinref02_list.l0 k y0 y1 y2 y3) (bodkinref02_list.l0 (k + 1) y0 y1 y2 y3))
 | 0 => fun _ _ _ _ r h => by simp [bodkinref02_list.l0] at h
 | k + 1 => by
  have ih0 := bodkinref02_list.mono_l k
  ·intro y0 y1 y2 y3
   unfold bodkinref02_list.l0
   repeat' first
   | (with_reducible exact ih0 _ _ _ _)
   | (with_reducible exact LeO.refl _)
   | (with_reducible exact LeO.none _)
   | (with_reducible refine LeO.ite ?_ ?_)
   | (with_reducible refine LeO.bind ?_ (fun _ => ?_))
   | exact ih0 _ _ _ _
   | exact LeO.none _
   | refine LeO.ite ?_ ?_
   | refine LeO.bind ?_ (fun _ => ?_)
theorem bodkinref02_list.mono : ∀ a0 a1 k, LeO (bodkinref02_list.f k a0 a1) (bodkinref02_list.f (k + 1) a0 a1) := by
 intro a0 a1 k
 have ih0 := bodkinref02_list.mono_l k
 unfold bodkinref02_list.f
 repeat' first
   | (with_reducible exact ih0 _ _ _ _)
   | (with_reducible exact LeO.refl _)
   | (with_reducible exact LeO.none _)
   | (with_reducible refine LeO.ite ?_ ?_)
   | (with_reducible refine LeO.bind ?_ (fun _ => ?_))
   | exact ih0 _ _ _ _
   | exact LeO.none _
   | refine LeO.ite ?_ ?_
   | refine LeO.bind ?_ (fun _ => ?_)
set_option maxHeartbeats 8000000 in
set_option maxRecDepth 100000 in
theorem bodkinref02_list.calls (k : Nat) (a0 : Int) (a1 : Int) (r : List Int) (w : World) (h : bodkinref02_list.f k a0 a1 = some r) (hG : GD w := by first | assumption | exact GD.below (by assumption) (by repeat (first | exact Aside0.out (by assumption) | exact Below.refl _ _ | assumption | apply below_alloc | apply pw_below_drewN | apply below_drew1 | refine below_set ?_ (Aside0.out (by assumption))))) :
  Calls Tryz.prog 150 #[.int .i64 a0, .int .u64 a1] w fun e w' => ∃ v0_ : Value, e = .returned (v0_) ∧ Kd.R (Kd.int .u64) 22 w' w.heap.size (fun _ => True) v0_ r ∧ Below w.heap.size w w' := by
 have HB := Aside0.mk (Below.refl w.heap.size w)
 have H : (bodkinref02_list.l0 k a0 a1 ([] : List Int) 0) = some r := h
 clear h
 have H' := Aside0.mk H
 clear H
 go_enter Tryz.func150, Tryz.ntmps150
 go_wp2
 go_loopg [1, 5, 6] k (fun kq v1 v5 v6 w' => ∃ (x1_1 : Int) (x5_1 : List Int) (x6_1 : Int), v1 = .int .u64 x1_1 ∧ v6 = .int .i64 x6_1 ∧ Aside0 (bodkinref02_list.l0 kq a0 x1_1 x5_1 x6_1 = some r) ∧ Aside0 (kq ≤ k) ∧ Aside0 (Kd.R (Kd.int .u64) 22 w' w.heap.size (fun _ => True) v5 x5_1) ∧ Aside0 (Below w.heap.size w w'))
 case atStart => exact ⟨(a1), (([] : List Int)), (0), rs_, rs_, H', ⟨Nat.le_refl _⟩, ⟨by first | exact Kd.R_nil _ _ _ _ _ | exact Kd.N_nil _ _ _ _ _ | exact Kd.V_nil _ _ _ _ _ | exact Kd.Q_nil _ _ _ _ _ | exact Kd.S_nil _ _ _ _ _⟩, ⟨bl_⟩⟩
 case round =>
  clear H'
  (try clear c1); (try clear p2)
  obtain ⟨x1_1, x5_1, x6_1, rfl, rfl, HA, HK1, HO_5, HB⟩ := hrel
  cases gk with
  | zero => exact absurd HA.out (by simp [bodkinref02_list.l0])
  | succ k1 =>
   have H := HA.out
   clear HA
   simp only [bodkinref02_list.l0] at H
   by_cases c3 : x6_1 < a0
   ·rw [if_pos c3] at H
    have c3b0 : decide (x6_1 < a0) = true := decide_eq_true c3
    clear c3
    by_cases c4 : x5_1.length < 17592186044416
    ·rw [if_pos c4] at H
     have LMc4 := Aside0.mk c4
     clear c4
     obtain ⟨y271, hy271⟩ : ∃ y_ : List Int, y_ = (x5_1 ++ [Int.tmod x1_1 2]) := ⟨_, rfl⟩
     replace H : (bodkinref02_list.l0 k1 a0 (IntKind.u64.wrap (Int.tdiv x1_1 2)) y271 (wrap64 (x6_1 + 1))) = some r := by first | (rw [hy271]; with_reducible exact H) | (have H2_ := (Option.bind_some _ _).symm.trans H; rw [hy271]; with_reducible exact H2_) | (have H2_ := (Option.bind_some _ _).symm.trans H; with_reducible exact H2_) | with_reducible exact H | (rw [hy271]; exact H) | exact H
     have Ny271 := Aside0.mk hy271
     clear hy271
     have H' := Aside0.mk H
     clear H
     go_wp2_with (first | ((with_reducible refine gate_builtin (b := .append) (xs := #[.tmp 12, .tmp 15]) rfl ?_); at_builtin; refine Kd.R_append (Kd.int .u64) (w0 := w) w.heap.size rfl (.tmp 12) (.tmp 15) 31 22 (.int .u64 0) 8 rfl Tryz.underlying31 info22 rfl (by decide) (by omega) u5 x5_1 (Int.tmod x1_1 2) [.int .u64 (Int.tmod x1_1 2)] (fun _ => True) (fun _ => False) rfl rfl ?aP (fun _ hk => hk.elim) ?aF ?aO ?aB ?aS ?aL ?_; (case aP => exact rfl); (case aB => exact bl_); (case aF => exact (fun _ _ => trivial)); (case aO => exact (rl_ HO_5)); (case aS => exact (below_size bl_)); (case aL => have := LMc4.out; omega); intro v272 w5 ho hb hg hat; rw [← Ny271.out] at ho; have n0_ := Aside0.mk (hb); have n1_ := Aside0.mk (ho); clear HB; clear HO_5; have HB := n0_; have HO273 := n1_; clear n0_ n1_; clear ho hb hg hat))
     go_roundg k1
     case measure => have := HK1.out; omega
     case rel => exact ⟨(IntKind.u64.wrap (Int.tdiv x1_1 2)), (y271), (wrap64 (x6_1 + 1)), rs_, rs_, H', ⟨by have := HK1.out; omega⟩, ⟨rl_ HO273⟩, ⟨bl_⟩⟩
    ·rw [if_neg c4] at H
     exact absurd H (by simp)
   ·rw [if_neg c3] at H
    have c3b0 : decide (x6_1 < a0) = false := decide_eq_false c3
    clear c3
    obtain rfl := Option.some.inj H
    go_wp2
    go_ret
    exact ⟨_, er_, by (with_reducible repeat (first | apply Kd.R_alloc | apply Kd.R_drewN | apply Kd.R_drew)); exact HO_5.out, bl_⟩
def bodkinref02_of.l0 : Nat → List Int → Int → Int → Option (Int)
 | 0, _, _, _ => none
 | k + 1, x0, x3, x4 => if x4 ≥ 0 then (if 0 ≤ x4 then (if x4 < (x0.length : Int) then (bodkinref02_of.l0 k x0 (IntKind.u64.wrap ((IntKind.u64.wrap (x3 * 2)) + (rd x0 x4))) (wrap64 (x4 - 1))) else (none)) else (none)) else (some x3)
def bodkinref02_of.f (k : Nat) (l0 : List Int) : Option (Int) := bodkinref02_of.l0 k l0 0 (wrap64 ((l0.length : Int) - 1))
theorem bodkinref02_of.mono_l : ∀ k, (∀ y0 y1 y2, LeO (bodkinref02_of.l0 k y0 y1 y2) (bodkinref02_of.l0 (k + 1) y0 y1 y2))
 | 0 => fun _ _ _ r h => by simp [bodkinref02_of.l0] at h
 | k + 1 => by
  have ih0 := bodkinref02_of.mono_l k
  ·intro y0 y1 y2
   unfold bodkinref02_of.l0
   repeat' first
   | (with_reducible exact ih0 _ _ _)
   | (with_reducible exact LeO.refl _)
   | (with_reducible exact LeO.none _)
   | (with_reducible refine LeO.ite ?_ ?_)
   | (with_reducible refine LeO.bind ?_ (fun _ => ?_))
   | exact ih0 _ _ _
   | exact LeO.none _
   | refine LeO.ite ?_ ?_
   | refine LeO.bind ?_ (fun _ => ?_)
theorem bodkinref02_of.mono : ∀ a0 k, LeO (bodkinref02_of.f k a0) (bodkinref02_of.f (k + 1) a0) := by
 intro a0 k
 have ih0 := bodkinref02_of.mono_l k
 unfold bodkinref02_of.f
 repeat' first
   | (with_reducible exact ih0 _ _ _)
   | (with_reducible exact LeO.refl _)
   | (with_reducible exact LeO.none _)
   | (with_reducible refine LeO.ite ?_ ?_)
   | (with_reducible refine LeO.bind ?_ (fun _ => ?_))
   | exact ih0 _ _ _
   | exact LeO.none _
   | refine LeO.ite ?_ ?_
   | refine LeO.bind ?_ (fun _ => ?_)
set_option maxHeartbeats 8000000 in
set_option maxRecDepth 100000 in
theorem bodkinref02_of.calls (k : Nat) (A0 : Option Addr) (c0 : Nat) (l0 : List Int) (r : Int) (w : World) (hr0 : Kd.C (Kd.int .u64) w A0 l0.length l0) (hc0 : l0.length ≤ c0) (h : bodkinref02_of.f k l0 = some r) (hG : GD w := by first | assumption | exact GD.below (by assumption) (by repeat (first | exact Aside0.out (by assumption) | exact Below.refl _ _ | assumption | apply below_alloc | apply pw_below_drewN | apply below_drew1 | refine below_set ?_ (Aside0.out (by assumption))))) :
  Calls Tryz.prog 151 #[.slice A0 l0.length c0] w fun e w' => e = .returned (.int .u64 r) ∧ Drawn0 w w' := by
 have HR0 := Aside0.mk hr0
 have HC0 := Aside0.mk hc0
 clear hr0 hc0
 have H : (bodkinref02_of.l0 k l0 0 (wrap64 ((l0.length : Int) - 1))) = some r := h
 clear h
 have H' := Aside0.mk H
 clear H
 go_enter Tryz.func151, Tryz.ntmps151
 go_wp2
 go_loopg [3, 4] k (fun kq v3 v4 w' => ∃ (x3_1 : Int) (x4_1 : Int), v3 = .int .u64 x3_1 ∧ v4 = .int .i64 x4_1 ∧ Aside0 (bodkinref02_of.l0 kq l0 x3_1 x4_1 = some r) ∧ Aside0 (kq ≤ k) ∧ Drawn0 w w')
 case atStart => exact ⟨(0), (wrap64 ((l0.length : Int) - 1)), rs_, rs_, H', ⟨Nat.le_refl _⟩, by repeat (first | exact Drawn0.refl _ | apply Drawn0.step)⟩
 case round =>
  clear H'
  try clear c1
  obtain ⟨x3_1, x4_1, rfl, rfl, HA, HK1, ⟨m1, rfl⟩⟩ := hrel
  cases gk with
  | zero => exact absurd HA.out (by simp [bodkinref02_of.l0])
  | succ k1 =>
   have H := HA.out
   clear HA
   simp only [bodkinref02_of.l0] at H
   by_cases c2 : x4_1 ≥ 0
   ·rw [if_pos c2] at H
    have c2b0 : decide (0 ≤ x4_1) = true := decide_eq_true c2
    clear c2
    by_cases c3 : 0 ≤ x4_1
    ·rw [if_pos c3] at H
     have c3b0 : decide (0 ≤ x4_1) = true := decide_eq_true c3
     clear c3
     by_cases c4 : x4_1 < (l0.length : Int)
     ·rw [if_pos c4] at H
      have c4b0 : decide (x4_1 < (l0.length : Int)) = true := decide_eq_true c4
      clear c4
      have H' := Aside0.mk H
      clear H
      have p274 : 0 ≤ (x4_1 : Int) := od_
      have q274 : x4_1 < (l0.length : Int) := od_
      obtain ⟨ad274, e274, hx274_0⟩ := Kd.at_int HR0.out x4_1 p274 q274
      cases e274
      replace p274 := eq_true p274
      replace q274 := eq_true q274
      go_wp2
      go_roundg k1
      case measure => have := HK1.out; omega
      case rel => exact ⟨(IntKind.u64.wrap ((IntKind.u64.wrap (x3_1 * 2)) + (rd l0 x4_1))), (wrap64 (x4_1 - 1)), rs_, rs_, H', ⟨by have := HK1.out; omega⟩, by repeat (first | exact Drawn0.refl _ | apply Drawn0.step)⟩
     ·rw [if_neg c4] at H
      exact absurd H (by simp)
    ·rw [if_neg c3] at H
     exact absurd H (by simp)
   ·rw [if_neg c2] at H
    have c2b0 : decide (0 ≤ x4_1) = false := decide_eq_false c2
    clear c2
    obtain rfl := Option.some.inj H
    go_wp2
    go_ret
    exact ⟨by first | rfl | (simp; done) | (simp [*]; done), by repeat (first | exact Drawn0.refl _ | apply Drawn0.step)⟩
end Go.Proofs.YtkhhhceeoljheaaGreatDoor.PInt

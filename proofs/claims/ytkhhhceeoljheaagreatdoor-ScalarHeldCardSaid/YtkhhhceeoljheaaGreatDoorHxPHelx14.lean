import Derived.Test.YtkhhhceeoljheaaGreatDoorHxPHelx13
namespace Go.Proofs.YtkhhhceeoljheaaGreatDoor.PHel
open Go.RowKit Go.Proofs.YtkhhhceeoljheaaGreatDoorW.PrintWords Go.Proofs.YtkhhhceeoljheaaGreatDoorW.PrintLast Go.Proofs.YtkhhhceeoljheaaGreatDoorW.PrintMore
attribute [local go_sem] max2_int min2_int max_two min_two max_three min_three max_four min_four   
set_option linter.unusedVariables false
set_option linter.unusedSimpArgs false
def bodkinref07_Clean.j0 : Nat → Int → Bool → Int → Int → Int → Bool → Option (Int × Int × Int × Bool)
 | 0, _, _, _, _, _, _ => none
 | k + 1, x4, x5, x300000, x300001, x300002, x300003 => if x5 = true then ((bodkinref02_Cut.f k 32 x300001).bind fun t301 => (some (x300000, t301, 0, false))) else (if x4 = 123 then (some (x300000, x300001, x300002, false)) else (some (x300000, x300001, 0, false)))
def bodkinref07_Clean.f (k : Nat) (a0_0 : Int) (a0_1 : Int) (a0_2 : Int) (a0_3 : Bool) : Option (Int × Int × Int × Bool) := if a0_0 = 127 then (bodkinref07_Clean.j0 k a0_0 (a0_0 == 127) a0_0 a0_1 a0_2 a0_3) else (bodkinref07_Clean.j0 k a0_0 (a0_0 == 125) a0_0 a0_1 a0_2 a0_3)
theorem bodkinref07_Clean.mono_l : ∀ k, (∀ y0 y1 y2 y3 y4 y5, LeO (bodkinref07_Clean.j0 k y0 y1 y2 y3 y4 y5) (bodkinref07_Clean.j0 (k + 1) y0 y1 y2 y3 y4 y5))
 | 0 => fun _ _ _ _ _ _ r h => by simp [bodkinref07_Clean.j0] at h
 | k + 1 => by
  have ih0 := bodkinref07_Clean.mono_l k
  ·intro y0 y1 y2 y3 y4 y5
   unfold bodkinref07_Clean.j0
   repeat' first
   | (with_reducible exact ih0 _ _ _ _ _ _)
   | (with_reducible exact bodkinref02_Cut.mono _ _ _)
   | (with_reducible exact LeO.refl _)
   | (with_reducible exact LeO.none _)
   | (with_reducible refine LeO.ite ?_ ?_)
   | (with_reducible refine LeO.bind ?_ (fun _ => ?_))
   | exact ih0 _ _ _ _ _ _
   | exact bodkinref02_Cut.mono _ _ _
   | exact LeO.none _
   | refine LeO.ite ?_ ?_
   | refine LeO.bind ?_ (fun _ => ?_)
theorem bodkinref07_Clean.mono : ∀ a0 a1 a2 a3 k, LeO (bodkinref07_Clean.f k a0 a1 a2 a3) (bodkinref07_Clean.f (k + 1) a0 a1 a2 a3) := by
 intro a0 a1 a2 a3 k
 have ih0 := bodkinref07_Clean.mono_l k
 unfold bodkinref07_Clean.f
 repeat' first
   | (with_reducible exact ih0 _ _ _ _ _ _)
   | (with_reducible exact bodkinref02_Cut.mono _ _ _)
   | (with_reducible exact LeO.refl _)
   | (with_reducible exact LeO.none _)
   | (with_reducible refine LeO.ite ?_ ?_)
   | (with_reducible refine LeO.bind ?_ (fun _ => ?_))
   | exact ih0 _ _ _ _ _ _
   | exact bodkinref02_Cut.mono _ _ _
   | exact LeO.none _
   | refine LeO.ite ?_ ?_
   | refine LeO.bind ?_ (fun _ => ?_)
set_option maxHeartbeats 8000000 in
set_option maxRecDepth 100000 in
theorem bodkinref07_Clean.calls (k : Nat) (a0_0 : Int) (a0_1 : Int) (a0_2 : Int) (a0_3 : Bool) (r1 : Int) (r2 : Int) (r3 : Int) (r4 : Bool) (w : World) (h : bodkinref07_Clean.f k a0_0 a0_1 a0_2 a0_3 = some (r1, r2, r3, r4)) (hG : GD w := by first | assumption | exact GD.below (by assumption) (by repeat (first | exact Aside0.out (by assumption) | exact Below.refl _ _ | assumption | apply below_alloc | apply pw_below_drewN | apply below_drew1 | refine below_set ?_ (Aside0.out (by assumption))))) :
  Calls Tryz.prog 33 #[.agg #[.int .i64 a0_0, .int .u64 a0_1, .int .u64 a0_2, .bool a0_3]] w fun e w' => e = .returned (.agg #[.int .i64 r1, .int .u64 r2, .int .u64 r3, .bool r4]) ∧ Below w.heap.size w w' := by
 have hu33 := Tryz.underlying33
 have HB := Aside0.mk (Below.refl w.heap.size w)
 have H : (if a0_0 = 127 then (bodkinref07_Clean.j0 k a0_0 (a0_0 == 127) a0_0 a0_1 a0_2 a0_3) else (bodkinref07_Clean.j0 k a0_0 (a0_0 == 125) a0_0 a0_1 a0_2 a0_3)) = some (r1, r2, r3, r4) := h
 clear h
 have HC2 := Aside0.mk H
 clear H
 go_enter Tryz.func33, Tryz.ntmps33
 go_upto_if 5 with (first | ((with_reducible refine gate_dst (N := 1) rfl ?_); refine box_event ?hg (N := 1) ?hd (cs := #[.int .i64 a0_0, .int .u64 a0_1, .int .u64 a0_2, .bool a0_3]) (t := 33) ?hr ?_; (case hd => rfl); (case hg => rfl); (case hr => first | (go_simp; done) | (go_simp; rfl)); intro gb299 hg w3 hbox hb; have n0_ := Aside0.mk (below_step bl_ hb); have n1_ := Aside0.mk (hbox); have n2_ := Aside0.mk ((by rw [hg]; exact (below_size bl_) : w.heap.size ≤ gb299)); have n3_ := Aside0.mk ((by rw [hg]; exact (below_size bl_) : w.heap.size ≤ gb299)); clear HB; have HB := n0_; have BK299 := n1_; have GW299 := n2_; have GE299 := n3_; clear n0_ n1_ n2_ n3_; clear hb hbox hg) | ((with_reducible refine gate_dst (N := 2) rfl ?_); refine box_event ?hg (N := 2) ?hd (cs := #[.int .i64 0, .int .u64 0, .int .u64 0, .bool false]) (t := 33) ?hr ?_; (case hd => rfl); (case hg => rfl); (case hr => first | (go_simp; done) | (go_simp; rfl)); intro gb300 hg w4 hbox hb; have n0_ := Aside0.mk (blk_below (g := gb299) (o := .cells #[.int .i64 a0_0, .int .u64 a0_1, .int .u64 a0_2, .bool a0_3] 33 (0, 0)) (by (with_reducible repeat (first | refine blk_drewN ?_ _ | refine blk_drew ?_ | refine blk_alloc ?_ _)); exact BK299.out) hb); have n1_ := Aside0.mk (below_step bs_ hb); have n2_ := Aside0.mk (hbox); have n3_ := Aside0.mk ((by rw [hg]; exact (below_size bs_) : w.heap.size ≤ gb300)); have n4_ := Aside0.mk ((by rw [hg]; exact (below_size bs_) : w.heap.size ≤ gb300)); have n5_ := Aside0.mk ((by rw [hg]; exact Nat.ne_of_lt (blk_lt (g := gb299) (o := .cells #[.int .i64 a0_0, .int .u64 a0_1, .int .u64 a0_2, .bool a0_3] 33 (0, 0)) (by (with_reducible repeat (first | refine blk_drewN ?_ _ | refine blk_drew ?_ | refine blk_alloc ?_ _)); exact BK299.out)) : gb299 ≠ gb300)); have n6_ := Aside0.mk ((by rw [hg]; exact Nat.ne_of_gt (blk_lt (g := gb299) (o := .cells #[.int .i64 a0_0, .int .u64 a0_1, .int .u64 a0_2, .bool a0_3] 33 (0, 0)) (by (with_reducible repeat (first | refine blk_drewN ?_ _ | refine blk_drew ?_ | refine blk_alloc ?_ _)); exact BK299.out)) : gb300 ≠ gb299)); clear BK299; clear HB; have BK299 := n0_; have HB := n1_; have BK300 := n2_; have GW300 := n3_; have GE300 := n4_; have NB299_300 := n5_; have NB300_299 := n6_; clear n0_ n1_ n2_ n3_ n4_ n5_ n6_; clear hb hbox hg; have hnb5 := NB299_300.out; have hnc5 := NB300_299.out; have hcz6_0 : w4.cell? ⟨gb299, 0, none⟩ = some (.int .i64 a0_0) := (blk_cell BK299.out 0).trans rfl; have hcz6_1 : w4.cell? ⟨gb299, 1, none⟩ = some (.int .u64 a0_1) := (blk_cell BK299.out 1).trans rfl; have hcz6_2 : w4.cell? ⟨gb299, 2, none⟩ = some (.int .u64 a0_2) := (blk_cell BK299.out 2).trans rfl; have hcz6_3 : w4.cell? ⟨gb299, 3, none⟩ = some (.bool a0_3) := (blk_cell BK299.out 3).trans rfl; have hfz6_0 := blk_frozen BK299.out 0; have hfz6_1 := blk_frozen BK299.out 1; have hfz6_2 := blk_frozen BK299.out 2; have hfz6_3 := blk_frozen BK299.out 3))
 (try simp only [Act.put, List.setIfInBounds_toArray, List.set_cons_zero, List.set_cons_succ])
 go_cut [5] (fun v5 wc => ∃ (kq : Nat) (x5_1 : Bool), v5 = .bool x5_1 ∧ Aside0 (bodkinref07_Clean.j0 kq a0_0 x5_1 a0_0 a0_1 a0_2 a0_3 = some (r1, r2, r3, r4)) ∧ Aside0 (kq ≤ k) ∧ Aside0 (wc.heap[gb299]? = some (.cells #[.int .i64 a0_0, .int .u64 a0_1, .int .u64 a0_2, .bool a0_3] 33 (0, 0))) ∧ Aside0 (wc.heap[gb300]? = some (.cells #[.int .i64 0, .int .u64 0, .int .u64 0, .bool false] 33 (0, 0))) ∧ Aside0 (Below w.heap.size w wc))
 case first =>
  have H := HC2.out
  clear HC2
  by_cases c7 : a0_0 = 127
  ·rw [if_pos c7] at H
   have c7b0 : (a0_0 == 127) = true := beq_iff_eq.mpr c7
   have c7b1 : (a0_0 != 127) = false := bne_eq_false_iff_eq.mpr c7
   clear c7
   (first | rw [c7b0] | (simp only [i64_w, i32_w]; rw [c7b0]) | skip)
   have H' := Aside0.mk H
   clear H
   go_wp2
   go_meet
   case rel => exact ⟨_, ((a0_0 == 127)), rs_, H', ⟨by first | omega | exact Nat.le_refl _⟩, ⟨by (with_reducible repeat (first | refine blk_drewN ?_ _ | refine blk_drew ?_ | refine blk_alloc ?_ _)); exact BK299.out⟩, ⟨by (with_reducible repeat (first | refine blk_drewN ?_ _ | refine blk_drew ?_ | refine blk_alloc ?_ _)); exact BK300.out⟩, ⟨bs_⟩⟩
  ·rw [if_neg c7] at H
   have c7b0 : (a0_0 == 127) = false := beq_eq_false_iff_ne.mpr c7
   have c7b1 : (a0_0 != 127) = true := bne_iff_ne.mpr c7
   (first | rw [c7b0] | (simp only [i64_w, i32_w]; rw [c7b0]) | skip)
   have H' := Aside0.mk H
   clear H
   go_wp2
   go_meet
   case rel => exact ⟨_, ((a0_0 == 125)), rs_, H', ⟨by first | omega | exact Nat.le_refl _⟩, ⟨by (with_reducible repeat (first | refine blk_drewN ?_ _ | refine blk_drew ?_ | refine blk_alloc ?_ _)); exact BK299.out⟩, ⟨by (with_reducible repeat (first | refine blk_drewN ?_ _ | refine blk_drew ?_ | refine blk_alloc ?_ _)); exact BK300.out⟩, ⟨bs_⟩⟩
 case rest =>
  clear HC2
  (try clear p2); (try clear c3); (try clear c5); (try clear c7); (try clear c7b0); (try clear c7b1); (try clear hcz6_0); (try clear hcz6_1); (try clear hcz6_2); (try clear hcz6_3); (try clear hfz6_0); (try clear hfz6_1); (try clear hfz6_2); (try clear hfz6_3)
  obtain ⟨kq, x5_1, rfl, HA, HJ1, BK299, BK300, HB⟩ := hcut
  cases kq with
  | zero => exact absurd HA.out (by simp [bodkinref07_Clean.j0])
  | succ kj1 =>
   have H := HA.out
   clear HA
   simp only [bodkinref07_Clean.j0] at H
   by_cases c8 : x5_1 = true
   ·subst c8
    have H1 : ((bodkinref02_Cut.f kj1 32 a0_1).bind fun t301 => (some (a0_0, t301, 0, false))) = some (r1, r2, r3, r4) := by rw [if_pos rfl] at H; exact H
    clear H
    have H := H1
    clear H1
    replace H := Option.bind_eq_some_iff.mp H
    obtain ⟨t301, A90, H⟩ := H
    replace H : (some (a0_0, t301, 0, false)) = some (r1, r2, r3, r4) := H
    have A9 := Aside0.mk A90
    clear A90
    simp only [Option.some.injEq, Prod.mk.injEq] at H
    obtain ⟨rfl, rfl, rfl, rfl⟩ := H
    try go_wp2
    have n0_ := Aside0.mk (blk_drew BK299.out)
    have n1_ := Aside0.mk (blk_drew BK300.out)
    have n2_ := Aside0.mk (below_drew1 HB.out)
    clear BK299
    clear BK300
    clear HB
    have BK299 := n0_
    have BK300 := n1_
    have HB := n2_
    clear n0_ n1_ n2_
    refine start_ (n := 7) (S := fun w' => w'.cell? ⟨gb299, 0, none⟩ = some (.int .i64 a0_0) ∧ w'.cell? ⟨gb299, 1, none⟩ = some (.int .u64 a0_1) ∧ w'.cell? ⟨gb299, 2, none⟩ = some (.int .u64 a0_2) ∧ w'.cell? ⟨gb299, 3, none⟩ = some (.bool a0_3)) (ds := []) #[false, false, false, false, false, false, false] (by kernel_rfl) rfl rfl ⟨(blk_cell BK299.out 0).trans rfl, (blk_cell BK299.out 1).trans rfl, (blk_cell BK299.out 2).trans rfl, (blk_cell BK299.out 3).trans rfl⟩ (fun hHeld => ?_)
    generalize wc.drew = w10 at BK299 BK300 HB hHeld ⊢
    refine pure_ (i := 0) (N := some 8) (v := ?_) (a' := ?_) #[true, false, false, false, false, false, false] rfl rfl (by kernel_rfl) (fun _ _ _ h => h) (Or.inl ⟨by rfl, ?_⟩) ?_ ?_
    rotate_left
    ·intro w'
     go_simp
     with_reducible rfl
    rotate_left
    ·simp only [Act.put, List.setIfInBounds_toArray, List.set_cons_zero, List.set_cons_succ, i64_w, i32_w]
     rfl
    refine pure_ (i := 2) (N := some 10) (v := ?_) (a' := ?_) #[true, false, true, false, false, false, false] rfl rfl (by kernel_rfl) (fun _ _ _ h => h) (Or.inl ⟨by rfl, ?_⟩) ?_ ?_
    rotate_left
    ·intro w'
     go_simp
     with_reducible rfl
    rotate_left
    ·simp only [Act.put, List.setIfInBounds_toArray, List.set_cons_zero, List.set_cons_succ, i64_w, i32_w]
     rfl
    refine take_ (i := 1) (N := some 9) (v := ?_) (a' := ?_) #[true, true, true, false, false, false, false] rfl rfl (by kernel_rfl) (fun _ _ _ h => h) (Or.inl ⟨by rfl, ?_⟩) hHeld ?_ ?_
    rotate_left
    ·rintro w' ⟨s0, s1, s2, s3⟩
     go_simp
     with_reducible rfl
    rotate_left
    ·simp only [Act.put, List.setIfInBounds_toArray, List.set_cons_zero, List.set_cons_succ, i64_w, i32_w]
     rfl
    refine take_ (i := 3) (N := some 11) (v := ?_) (a' := ?_) #[true, true, true, true, false, false, false] rfl rfl (by kernel_rfl) (fun _ _ _ h => h) (Or.inl ⟨by rfl, ?_⟩) hHeld ?_ ?_
    rotate_left
    ·rintro w' ⟨s0, s1, s2, s3⟩
     go_simp
     with_reducible rfl
    rotate_left
    ·simp only [Act.put, List.setIfInBounds_toArray, List.set_cons_zero, List.set_cons_succ, i64_w, i32_w]
     rfl
    refine one_ (i := 4) (N := some 12) #[true, true, true, true, true, false, false] rfl rfl (by kernel_rfl) (by decide) (fun K hK => ?_)
    refine goes_ Tryz.func54 (by kernel_rfl) rfl #[.int .i64 32, .int .u64 a0_1] (by rfl) rfl rfl mp_ ?_
    with_reducible refine (bodkinref02_Cut.calls kj1 32 a0_1 t301 _ A9.out).mono ?_
    rintro e w' ⟨rfl, ⟨nd, rfl⟩⟩
    refine ⟨_, rfl, ?_⟩
    refine hK.out _ _ ⟨(blk_cell BK299.out 0).trans rfl, (blk_cell BK299.out 1).trans rfl, (blk_cell BK299.out 2).trans rfl, (blk_cell BK299.out 3).trans rfl⟩ (fun hHeld => ?_)
    clear hK K
    refine norm_ (a' := ?_) ?_ ?_
    rotate_left
    ·show Act.put _ (some 12) _ = _
     simp only [Act.put, List.setIfInBounds_toArray, List.set_cons_zero, List.set_cons_succ, i64_w, i32_w]
     rfl
    refine pure_ (i := 5) (N := some 13) (v := ?_) (a' := ?_) #[true, true, true, true, true, true, false] rfl rfl (by kernel_rfl) (fun _ _ _ h => h) (Or.inl ⟨by rfl, ?_⟩) ?_ ?_
    rotate_left
    ·intro w'
     go_simp
     with_reducible rfl
    rotate_left
    ·simp only [Act.put, List.setIfInBounds_toArray, List.set_cons_zero, List.set_cons_succ, i64_w, i32_w]
     rfl
    refine one_ (i := 6) (N := none) #[true, true, true, true, true, true, true] rfl rfl (by kernel_rfl) (by decide) (fun K hK => ?_)
    have hs11 : w10.cell? ⟨gb300, 0, none⟩ = some (.int .i64 0) := (blk_cell BK300.out 0).trans rfl
    have hfs11 := blk_frozen BK300.out 0
    have hns11_0 := NB299_300.out
    have hms11_0 := NB300_299.out
    have hs12 : w10.cell? ⟨gb300, 1, none⟩ = some (.int .u64 0) := (blk_cell BK300.out 1).trans rfl
    have hfs12 := blk_frozen BK300.out 1
    have hns12_0 := NB299_300.out
    have hms12_0 := NB300_299.out
    have hs13 : w10.cell? ⟨gb300, 2, none⟩ = some (.int .u64 0) := (blk_cell BK300.out 2).trans rfl
    have hfs13 := blk_frozen BK300.out 2
    have hns13_0 := NB299_300.out
    have hms13_0 := NB300_299.out
    have hs14 : w10.cell? ⟨gb300, 3, none⟩ = some (.bool false) := (blk_cell BK300.out 3).trans rfl
    have hfs14 := blk_frozen BK300.out 3
    have hns14_0 := NB299_300.out
    have hms14_0 := NB300_299.out
    refine skip_ (w1 := ?_) (by rfl) rfl ?_ ?_
    rotate_left
    ·go_simp
     rfl
    refine hK.out _ _ ⟨((cell_far (p := ⟨gb300, _, none⟩) NB299_300.out _).trans (((cell_far (p := ⟨gb300, _, none⟩) NB299_300.out _).trans (((cell_far (p := ⟨gb300, _, none⟩) NB299_300.out _).trans (((cell_far (p := ⟨gb300, _, none⟩) NB299_300.out _).trans (hHeld.1)))))))), ((cell_far (p := ⟨gb300, _, none⟩) NB299_300.out _).trans (((cell_far (p := ⟨gb300, _, none⟩) NB299_300.out _).trans (((cell_far (p := ⟨gb300, _, none⟩) NB299_300.out _).trans (((cell_far (p := ⟨gb300, _, none⟩) NB299_300.out _).trans (hHeld.2.1)))))))), ((cell_far (p := ⟨gb300, _, none⟩) NB299_300.out _).trans (((cell_far (p := ⟨gb300, _, none⟩) NB299_300.out _).trans (((cell_far (p := ⟨gb300, _, none⟩) NB299_300.out _).trans (((cell_far (p := ⟨gb300, _, none⟩) NB299_300.out _).trans (hHeld.2.2.1)))))))), ((cell_far (p := ⟨gb300, _, none⟩) NB299_300.out _).trans (((cell_far (p := ⟨gb300, _, none⟩) NB299_300.out _).trans (((cell_far (p := ⟨gb300, _, none⟩) NB299_300.out _).trans (((cell_far (p := ⟨gb300, _, none⟩) NB299_300.out _).trans (hHeld.2.2.2))))))))⟩ (fun hHeld => ?_)
    clear hK K
    refine done_ (by kernel_rfl) ?_
    try go_wp2
    refine bodyPost_ret (results_cell_row rfl _ _ gb300 33 #[.int .i64 a0_0, .int .u64 t301, .int .u64 0, .bool false] (0, 0) _ rfl (by (with_reducible repeat (first | refine blk_drewN ?_ _ | refine blk_drew ?_ | refine blk_alloc ?_ _)); refine blk_put (cs := #[.int .i64 a0_0, .int .u64 t301, .int .u64 0, .bool false]) ?_ 3 _ rfl; (with_reducible repeat (first | refine blk_drewN ?_ _ | refine blk_drew ?_ | refine blk_alloc ?_ _)); refine blk_put (cs := #[.int .i64 a0_0, .int .u64 t301, .int .u64 0, .bool false]) ?_ 2 _ rfl; (with_reducible repeat (first | refine blk_drewN ?_ _ | refine blk_drew ?_ | refine blk_alloc ?_ _)); refine blk_put (cs := #[.int .i64 a0_0, .int .u64 0, .int .u64 0, .bool false]) ?_ 1 _ rfl; (with_reducible repeat (first | refine blk_drewN ?_ _ | refine blk_drew ?_ | refine blk_alloc ?_ _)); refine blk_put (cs := #[.int .i64 0, .int .u64 0, .int .u64 0, .bool false]) ?_ 0 _ rfl; (with_reducible repeat (first | refine blk_drewN ?_ _ | refine blk_drew ?_ | refine blk_alloc ?_ _)); exact BK300.out) Tryz.underlying33 rfl (by kernel_rfl)) rfl ?_
    exact ⟨er_, bs_⟩
   ·replace c8 := Bool.eq_false_iff.mpr c8
    subst c8
    have H1 : (if a0_0 = 123 then (some (a0_0, a0_1, a0_2, false)) else (some (a0_0, a0_1, 0, false))) = some (r1, r2, r3, r4) := by rw [if_neg (show ¬ (false = true) by decide)] at H; exact H
    clear H
    have H := H1
    clear H1
    by_cases c15 : a0_0 = 123
    ·rw [if_pos c15] at H
     have c15b0 : (a0_0 == 123) = true := beq_iff_eq.mpr c15
     have c15b1 : (a0_0 != 123) = false := bne_eq_false_iff_eq.mpr c15
     clear c15
     simp only [Option.some.injEq, Prod.mk.injEq] at H
     obtain ⟨rfl, rfl, rfl, rfl⟩ := H
     have hnb16 := NB299_300.out
     have hnc16 := NB300_299.out
     have hcz17_0 : wc.cell? ⟨gb299, 0, none⟩ = some (.int .i64 a0_0) := (blk_cell BK299.out 0).trans rfl
     have hcz17_1 : wc.cell? ⟨gb299, 1, none⟩ = some (.int .u64 a0_1) := (blk_cell BK299.out 1).trans rfl
     have hcz17_2 : wc.cell? ⟨gb299, 2, none⟩ = some (.int .u64 a0_2) := (blk_cell BK299.out 2).trans rfl
     have hcz17_3 : wc.cell? ⟨gb299, 3, none⟩ = some (.bool a0_3) := (blk_cell BK299.out 3).trans rfl
     have hfz17_0 := blk_frozen BK299.out 0
     have hfz17_1 := blk_frozen BK299.out 1
     have hfz17_2 := blk_frozen BK299.out 2
     have hfz17_3 := blk_frozen BK299.out 3
     have hcz18_0 : wc.cell? ⟨gb300, 0, none⟩ = some (.int .i64 0) := (blk_cell BK300.out 0).trans rfl
     have hcz18_1 : wc.cell? ⟨gb300, 1, none⟩ = some (.int .u64 0) := (blk_cell BK300.out 1).trans rfl
     have hcz18_2 : wc.cell? ⟨gb300, 2, none⟩ = some (.int .u64 0) := (blk_cell BK300.out 2).trans rfl
     have hcz18_3 : wc.cell? ⟨gb300, 3, none⟩ = some (.bool false) := (blk_cell BK300.out 3).trans rfl
     have hfz18_0 := blk_frozen BK300.out 0
     have hfz18_1 := blk_frozen BK300.out 1
     have hfz18_2 := blk_frozen BK300.out 2
     have hfz18_3 := blk_frozen BK300.out 3
     go_wp2
     refine bodyPost_ret (results_cell_row rfl _ _ gb300 33 #[.int .i64 a0_0, .int .u64 a0_1, .int .u64 a0_2, .bool false] (0, 0) _ rfl (by (with_reducible repeat (first | refine blk_drewN ?_ _ | refine blk_drew ?_ | refine blk_alloc ?_ _)); refine blk_put (cs := #[.int .i64 a0_0, .int .u64 a0_1, .int .u64 a0_2, .bool false]) ?_ 3 _ rfl; (with_reducible repeat (first | refine blk_drewN ?_ _ | refine blk_drew ?_ | refine blk_alloc ?_ _)); refine blk_put (cs := #[.int .i64 a0_0, .int .u64 a0_1, .int .u64 0, .bool false]) ?_ 2 _ rfl; (with_reducible repeat (first | refine blk_drewN ?_ _ | refine blk_drew ?_ | refine blk_alloc ?_ _)); refine blk_put (cs := #[.int .i64 a0_0, .int .u64 0, .int .u64 0, .bool false]) ?_ 1 _ rfl; (with_reducible repeat (first | refine blk_drewN ?_ _ | refine blk_drew ?_ | refine blk_alloc ?_ _)); refine blk_put (cs := #[.int .i64 0, .int .u64 0, .int .u64 0, .bool false]) ?_ 0 _ rfl; (with_reducible repeat (first | refine blk_drewN ?_ _ | refine blk_drew ?_ | refine blk_alloc ?_ _)); exact BK300.out) Tryz.underlying33 rfl (by kernel_rfl)) rfl ?_
     exact ⟨er_, bs_⟩
    ·rw [if_neg c15] at H
     have c15b0 : (a0_0 == 123) = false := beq_eq_false_iff_ne.mpr c15
     have c15b1 : (a0_0 != 123) = true := bne_iff_ne.mpr c15
     simp only [Option.some.injEq, Prod.mk.injEq] at H
     obtain ⟨rfl, rfl, rfl, rfl⟩ := H
     have hnb19 := NB299_300.out
     have hnc19 := NB300_299.out
     have hcz20_0 : wc.cell? ⟨gb299, 0, none⟩ = some (.int .i64 a0_0) := (blk_cell BK299.out 0).trans rfl
     have hcz20_1 : wc.cell? ⟨gb299, 1, none⟩ = some (.int .u64 a0_1) := (blk_cell BK299.out 1).trans rfl
     have hcz20_2 : wc.cell? ⟨gb299, 2, none⟩ = some (.int .u64 a0_2) := (blk_cell BK299.out 2).trans rfl
     have hcz20_3 : wc.cell? ⟨gb299, 3, none⟩ = some (.bool a0_3) := (blk_cell BK299.out 3).trans rfl
     have hfz20_0 := blk_frozen BK299.out 0
     have hfz20_1 := blk_frozen BK299.out 1
     have hfz20_2 := blk_frozen BK299.out 2
     have hfz20_3 := blk_frozen BK299.out 3
     have hcz21_0 : wc.cell? ⟨gb300, 0, none⟩ = some (.int .i64 0) := (blk_cell BK300.out 0).trans rfl
     have hcz21_1 : wc.cell? ⟨gb300, 1, none⟩ = some (.int .u64 0) := (blk_cell BK300.out 1).trans rfl
     have hcz21_2 : wc.cell? ⟨gb300, 2, none⟩ = some (.int .u64 0) := (blk_cell BK300.out 2).trans rfl
     have hcz21_3 : wc.cell? ⟨gb300, 3, none⟩ = some (.bool false) := (blk_cell BK300.out 3).trans rfl
     have hfz21_0 := blk_frozen BK300.out 0
     have hfz21_1 := blk_frozen BK300.out 1
     have hfz21_2 := blk_frozen BK300.out 2
     have hfz21_3 := blk_frozen BK300.out 3
     go_wp2
     refine bodyPost_ret (results_cell_row rfl _ _ gb300 33 #[.int .i64 a0_0, .int .u64 a0_1, .int .u64 0, .bool false] (0, 0) _ rfl (by (with_reducible repeat (first | refine blk_drewN ?_ _ | refine blk_drew ?_ | refine blk_alloc ?_ _)); refine blk_put (cs := #[.int .i64 a0_0, .int .u64 a0_1, .int .u64 0, .bool false]) ?_ 3 _ rfl; (with_reducible repeat (first | refine blk_drewN ?_ _ | refine blk_drew ?_ | refine blk_alloc ?_ _)); refine blk_put (cs := #[.int .i64 a0_0, .int .u64 a0_1, .int .u64 0, .bool false]) ?_ 2 _ rfl; (with_reducible repeat (first | refine blk_drewN ?_ _ | refine blk_drew ?_ | refine blk_alloc ?_ _)); refine blk_put (cs := #[.int .i64 a0_0, .int .u64 0, .int .u64 0, .bool false]) ?_ 1 _ rfl; (with_reducible repeat (first | refine blk_drewN ?_ _ | refine blk_drew ?_ | refine blk_alloc ?_ _)); refine blk_put (cs := #[.int .i64 0, .int .u64 0, .int .u64 0, .bool false]) ?_ 0 _ rfl; (with_reducible repeat (first | refine blk_drewN ?_ _ | refine blk_drew ?_ | refine blk_alloc ?_ _)); exact BK300.out) Tryz.underlying33 rfl (by kernel_rfl)) rfl ?_
     exact ⟨er_, bs_⟩
def bodkinref02_Signed.f (a0 : Int) (a1 : Int) : Option (Int) := none
def bodkinref02_Bin.f (a0 : Int) (a1 : Int) (a2 : Int) (a3 : Int) : Option (Int × Int) := none
def bodkinref04_Trunc.f (a0 : Int) (a1 : Int) (a2 : Bool) (a3 : Bool) (a4 : Int) : Option (Int × Int) := if (a0 = 32 ∨ a0 = 64) ∧ (a1 = 32 ∨ a1 = 64) ∧ a3 = true ∧ 0 ≤ a4 then (held a0 a1 a2 a4.toNat).map fun (u : Nat) => ((u : Int), (0 : Int)) else none
theorem bodkinref04_Trunc.calls (a0 : Int) (a1 : Int) (a2 : Bool) (a3 : Bool) (a4 : Int) (r1 : Int) (r2 : Int) (w : World) (h : bodkinref04_Trunc.f a0 a1 a2 a3 a4 = some (r1, r2)) (hG : GD w := by first | assumption | exact GD.below (by assumption) (by repeat (first | exact Aside0.out (by assumption) | exact Below.refl _ _ | assumption | apply below_alloc | apply pw_below_drewN | apply below_drew1 | refine below_set ?_ (Aside0.out (by assumption))))) :
  Calls Tryz.prog 133 #[.int .i64 a0, .int .i64 a1, .bool a2, .bool a3, .int .u64 a4] w fun e w' => e = .returned (.tuple #[.int .u64 r1, .int .i64 r2]) ∧ Drawn0 w w' := by
 unfold bodkinref04_Trunc.f at h
 split at h
 ·rename_i hc
  obtain ⟨h0, h1, h3, h4⟩ := hc
  obtain ⟨u, hu, e⟩ := Option.map_eq_some_iff.1 h
  simp only [Prod.mk.injEq] at e
  obtain ⟨rfl, rfl⟩ := e
  subst h3
  obtain ⟨n, rfl⟩ := Int.eq_ofNat_of_zero_le h4
  rw [Int.toNat_natCast] at hu
  exact held_any a0 a1 a2 n u w h0 h1 hu
 ·cases h
def bodkinref04_Convert.f (a0 : Int) (a1 : Int) (a2 : Bool) (a3 : Int) : Option (Int × Int) := none
def bodkinref04_Demote.f (a0 : Int) : Option (Int) := none
def bodkinref04_Promote.f (a0 : Int) : Option (Int) := none
def bodkinref03_Rel.f (a0 : Int) (a1 : Int) (a2 : Int) (a3 : Int) : Option (Bool × Int) := none
def bodkinref03_Un.f (a0 : Int) (a1 : Int) (a2 : Int) : Option (Int × Int) := none
def bodkinref03_Bin.f (a0 : Int) (a1 : Int) (a2 : Int) (a3 : Int) : Option (Int × Int) := none
def bodkinref02_Rel.f (a0 : Int) (a1 : Int) (a2 : Int) (a3 : Int) : Option (Bool × Int) := none
def bodkinref02_Un.f (a0 : Int) (a1 : Int) (a2 : Int) : Option (Int × Int) := none
def bodkinref06_Do.f (a0 : Int) (l1 : List Int) (l2 : List (S33)) : Option (Int × Int × Int × Bool × Int) := none
def bodkinref07_Bits.f (a0 : Int) : Option (Int) := if a0 = 127 then (some 32) else (if a0 = 125 then (some 32) else (some 64))
set_option maxHeartbeats 8000000 in
set_option maxRecDepth 100000 in
theorem bodkinref07_Bits.calls (a0 : Int) (r : Int) (w : World) (h : bodkinref07_Bits.f a0 = some r) (hG : GD w := by first | assumption | exact GD.below (by assumption) (by repeat (first | exact Aside0.out (by assumption) | exact Below.refl _ _ | assumption | apply below_alloc | apply pw_below_drewN | apply below_drew1 | refine below_set ?_ (Aside0.out (by assumption))))) :
  Calls Tryz.prog 36 #[.int .i64 a0] w fun e w' => e = .returned (.int .i64 r) ∧ Drawn0 w w' := by
 have H : (if a0 = 127 then (some 32) else (if a0 = 125 then (some 32) else (some 64))) = some r := h
 clear h
 by_cases c2 : a0 = 127
 ·rw [if_pos c2] at H
  have c2b0 : (a0 == 127) = true := beq_iff_eq.mpr c2
  have c2b1 : (a0 != 127) = false := bne_eq_false_iff_eq.mpr c2
  clear c2
  obtain rfl := Option.some.inj H
  go_enter Tryz.func36, Tryz.ntmps36
  go_wp2
  go_ret
  exact ⟨by first | rfl | (simp; done) | (simp [*]; done), by repeat (first | exact Drawn0.refl _ | apply Drawn0.step)⟩
 ·rw [if_neg c2] at H
  have c2b0 : (a0 == 127) = false := beq_eq_false_iff_ne.mpr c2
  have c2b1 : (a0 != 127) = true := bne_iff_ne.mpr c2
  by_cases c3 : a0 = 125
  ·rw [if_pos c3] at H
   have c3b0 : (a0 == 125) = true := beq_iff_eq.mpr c3
   have c3b1 : (a0 != 125) = false := bne_eq_false_iff_eq.mpr c3
   clear c3
   obtain rfl := Option.some.inj H
   go_enter Tryz.func36, Tryz.ntmps36
   go_wp2
   go_ret
   exact ⟨by first | rfl | (simp; done) | (simp [*]; done), by repeat (first | exact Drawn0.refl _ | apply Drawn0.step)⟩
  ·rw [if_neg c3] at H
   have c3b0 : (a0 == 125) = false := beq_eq_false_iff_ne.mpr c3
   have c3b1 : (a0 != 125) = true := bne_iff_ne.mpr c3
   obtain rfl := Option.some.inj H
   go_enter Tryz.func36, Tryz.ntmps36
   go_wp2
   go_ret
   exact ⟨by first | rfl | (simp; done) | (simp [*]; done), by repeat (first | exact Drawn0.refl _ | apply Drawn0.step)⟩
def bodkinref07_one.f (a0 : Bool) : Option (Int) := none
def bodkinref07_turned.f (a0 : ByteArray) (a1 : Int) (a2 : Int) (a3 : Int) : Option (Int × Int) := if 0 ≤ (wrap64 ((a0.size : Int) - 2)) then (if (wrap64 ((a0.size : Int) - 2)) ≤ (a0.size : Int) then (if 0 ≤ 4 then (if 4 ≤ (a0.size : Int) then (if (a0.extract 0 4).toList = ([116, 114, 117, 110] : List UInt8) then (if 0 ≤ 9 then (if 9 ≤ (a0.size : Int) then ((bodkinref04_Trunc.f a1 a2 ((a0.extract ((wrap64 ((a0.size : Int) - 2)) : Int).toNat a0.size).toList == ([95, 115] : List UInt8)) ((a0.extract 0 9).toList == ([116, 114, 117, 110, 99, 95, 115, 97, 116] : List UInt8)) a3).bind fun bt302 => (some (bt302.1, bt302.2))) else (none)) else (none)) else (none)) else (none)) else (none)) else (none)) else (none)
set_option maxHeartbeats 8000000 in
set_option maxRecDepth 100000 in
theorem bodkinref07_turned.calls (a0 : ByteArray) (a1 : Int) (a2 : Int) (a3 : Int) (r1 : Int) (r2 : Int) (w : World) (h : bodkinref07_turned.f a0 a1 a2 a3 = some (r1, r2)) (hG : GD w := by first | assumption | exact GD.below (by assumption) (by repeat (first | exact Aside0.out (by assumption) | exact Below.refl _ _ | assumption | apply below_alloc | apply pw_below_drewN | apply below_drew1 | refine below_set ?_ (Aside0.out (by assumption))))) :
  Calls Tryz.prog 59 #[.string a0, .int .i64 a1, .int .i64 a2, .int .u64 a3] w fun e w' => e = .returned (.tuple #[.int .u64 r1, .int .i64 r2]) ∧ Drawn0 w w' := by
 have H : (if 0 ≤ (wrap64 ((a0.size : Int) - 2)) then (if (wrap64 ((a0.size : Int) - 2)) ≤ (a0.size : Int) then (if 0 ≤ 4 then (if 4 ≤ (a0.size : Int) then (if (a0.extract 0 4).toList = ([116, 114, 117, 110] : List UInt8) then (if 0 ≤ 9 then (if 9 ≤ (a0.size : Int) then ((bodkinref04_Trunc.f a1 a2 ((a0.extract ((wrap64 ((a0.size : Int) - 2)) : Int).toNat a0.size).toList == ([95, 115] : List UInt8)) ((a0.extract 0 9).toList == ([116, 114, 117, 110, 99, 95, 115, 97, 116] : List UInt8)) a3).bind fun bt302 => (some (bt302.1, bt302.2))) else (none)) else (none)) else (none)) else (none)) else (none)) else (none)) else (none)) = some (r1, r2) := h
 clear h
 obtain ⟨ji5, hji5⟩ : ∃ j_ : Int, (wrap64 ((a0.size : Int) - 2)) = j_ := ⟨_, rfl⟩
 replace H : (if 0 ≤ (ji5) then (if (ji5) ≤ (a0.size : Int) then (if 0 ≤ 4 then (if 4 ≤ (a0.size : Int) then (if (a0.extract 0 4).toList = ([116, 114, 117, 110] : List UInt8) then (if 0 ≤ 9 then (if 9 ≤ (a0.size : Int) then ((bodkinref04_Trunc.f a1 a2 ((a0.extract ((ji5) : Int).toNat a0.size).toList == ([95, 115] : List UInt8)) ((a0.extract 0 9).toList == ([116, 114, 117, 110, 99, 95, 115, 97, 116] : List UInt8)) a3).bind fun bt302 => (some (bt302.1, bt302.2))) else (none)) else (none)) else (none)) else (none)) else (none)) else (none)) else (none)) = some (r1, r2) := by first | (rw [hji5] at H; exact H) | (simp only [hji5] at H ⊢; exact H)
 have hji5w : (IntKind.i64.wrap ((a0.size : Int) - 2)) = ji5 := (i64_w _).trans hji5
 by_cases c6 : 0 ≤ (ji5)
 ·rw [if_pos c6] at H
  have c6b0 := eq_true c6
  have c6b1 : decide (0 ≤ (ji5)) = true := decide_eq_true c6
  clear c6
  by_cases c7 : (ji5) ≤ (a0.size : Int)
  ·rw [if_pos c7] at H
   have c7b0 := eq_true c7
   have c7b1 : decide ((ji5) ≤ (a0.size : Int)) = true := decide_eq_true c7
   clear c7
   by_cases c8 : 0 ≤ 4
   ·rw [if_pos c8] at H
    have c8b0 := eq_true c8
    have c8b1 : decide (0 ≤ 4) = true := decide_eq_true c8
    clear c8
    by_cases c9 : 4 ≤ (a0.size : Int)
    ·rw [if_pos c9] at H
     have c9b0 := eq_true c9
     have c9b1 : decide (4 ≤ (a0.size : Int)) = true := decide_eq_true c9
     clear c9
     by_cases c10 : (a0.extract 0 4).toList = ([116, 114, 117, 110] : List UInt8)
     ·rw [if_pos c10] at H
      have c10b0 : ((a0.extract 0 4).toList == ([116, 114, 117, 110] : List UInt8)) = true := beq_iff_eq.mpr c10
      have c10b1 : ((a0.extract 0 4).toList != ([116, 114, 117, 110] : List UInt8)) = false := bne_eq_false_iff_eq.mpr c10
      clear c10
      by_cases c11 : 0 ≤ 9
      ·rw [if_pos c11] at H
       have c11b0 := eq_true c11
       have c11b1 : decide (0 ≤ 9) = true := decide_eq_true c11
       clear c11
       by_cases c12 : 9 ≤ (a0.size : Int)
       ·rw [if_pos c12] at H
        have c12b0 := eq_true c12
        have c12b1 : decide (9 ≤ (a0.size : Int)) = true := decide_eq_true c12
        clear c12
        replace H := Option.bind_eq_some_iff.mp H
        obtain ⟨⟨t302, t303⟩, A130, H⟩ := H
        replace H : (some (t302, t303)) = some (r1, r2) := H
        have A13 := Aside0.mk A130
        clear A130
        simp only [Option.some.injEq, Prod.mk.injEq] at H
        obtain ⟨rfl, rfl⟩ := H
        go_enter Tryz.func59, Tryz.ntmps59
        go_wp2_with (first | ((with_reducible refine gate_callee (f := 133) rfl ?_); refine goesL_ (some 28) rfl rfl Tryz.func133 (by kernel_rfl) rfl #[.int .i64 a1, .int .i64 a2, .bool ((a0.extract ((ji5) : Int).toNat a0.size).toList == ([95, 115] : List UInt8)), .bool ((a0.extract 0 9).toList == ([116, 114, 117, 110, 99, 95, 115, 97, 116] : List UInt8)), .int .u64 a3] rfl (by (try simp only [List.map_toArray, List.map_cons, List.map_nil]); first | done | (simp only [hji5]; rfl) | rfl | (simp only [List.length_drop, List.length_take]; rfl)) ?_; (with_reducible refine (bodkinref04_Trunc.calls a1 a2 ((a0.extract ((ji5) : Int).toNat a0.size).toList == ([95, 115] : List UInt8)) ((a0.extract 0 9).toList == ([116, 114, 117, 110, 99, 95, 115, 97, 116] : List UInt8)) a3 t302 t303 _ A13.out).mono ?_); rintro e w' ⟨rfl, ⟨nd, rfl⟩⟩; refine ⟨_, rfl, ?_⟩))
        go_ret2
        exact ⟨by first | rfl | (simp; done) | (simp only [← hji5] <;> (first | rfl | simp)) | (simp [*]; done), by repeat (first | exact Drawn0.refl _ | apply Drawn0.step)⟩
       ·rw [if_neg c12] at H
        exact absurd H (by simp)
      ·rw [if_neg c11] at H
       exact absurd H (by simp)
     ·rw [if_neg c10] at H
      exact absurd H (by simp)
    ·rw [if_neg c9] at H
     exact absurd H (by simp)
   ·rw [if_neg c8] at H
    exact absurd H (by simp)
  ·rw [if_neg c7] at H
   exact absurd H (by simp)
 ·rw [if_neg c6] at H
  exact absurd H (by simp)
def bodkinref07_index.f (a0 : ByteArray) (l1 : List ByteArray) : Option (Int) := none
def bodkinref07_worked.f (a0 : ByteArray) (a1 : Int) (a2 : Int) (a3 : ByteArray) (a4 : Int) (a5 : Int) : Option (Int × Int) := if a3.toList = ([101, 113, 122] : List UInt8) then (none) else (if (a3.size : Int) > 8 then (if 0 ≤ 8 then (if 8 ≤ (a3.size : Int) then (if (a3.extract 0 8).toList = ([101, 120, 116, 101, 110, 100, 95, 105] : List UInt8) then (none) else (if (a3.size : Int) > 7 then (if 0 ≤ 5 then (if 5 ≤ (a3.size : Int) then (if (a3.extract 0 5).toList = ([116, 114, 117, 110, 99] : List UInt8) then ((bodkinref07_Bits.f a2).bind fun t304 => ((bodkinref07_turned.f a3 a1 t304 a4).bind fun bt305 => (some (bt305.1, bt305.2)))) else (none)) else (none)) else (none)) else (none))) else (none)) else (none)) else (none))
set_option maxHeartbeats 8000000 in
set_option maxRecDepth 100000 in
theorem bodkinref07_worked.calls (a0 : ByteArray) (a1 : Int) (a2 : Int) (a3 : ByteArray) (a4 : Int) (a5 : Int) (r1 : Int) (r2 : Int) (w : World) (h : bodkinref07_worked.f a0 a1 a2 a3 a4 a5 = some (r1, r2)) (hG : GD w := by first | assumption | exact GD.below (by assumption) (by repeat (first | exact Aside0.out (by assumption) | exact Below.refl _ _ | assumption | apply below_alloc | apply pw_below_drewN | apply below_drew1 | refine below_set ?_ (Aside0.out (by assumption))))) :
  Calls Tryz.prog 35 #[.string a0, .int .i64 a1, .int .i64 a2, .string a3, .int .u64 a4, .int .u64 a5] w fun e w' => e = .returned (.tuple #[.int .u64 r1, .int .i64 r2]) ∧ Below w.heap.size w w' := by
 have HB := Aside0.mk (Below.refl w.heap.size w)
 have H : (if a3.toList = ([101, 113, 122] : List UInt8) then (none) else (if (a3.size : Int) > 8 then (if 0 ≤ 8 then (if 8 ≤ (a3.size : Int) then (if (a3.extract 0 8).toList = ([101, 120, 116, 101, 110, 100, 95, 105] : List UInt8) then (none) else (if (a3.size : Int) > 7 then (if 0 ≤ 5 then (if 5 ≤ (a3.size : Int) then (if (a3.extract 0 5).toList = ([116, 114, 117, 110, 99] : List UInt8) then ((bodkinref07_Bits.f a2).bind fun t304 => ((bodkinref07_turned.f a3 a1 t304 a4).bind fun bt305 => (some (bt305.1, bt305.2)))) else (none)) else (none)) else (none)) else (none))) else (none)) else (none)) else (none))) = some (r1, r2) := h
 clear h
 by_cases c7 : a3.toList = ([101, 113, 122] : List UInt8)
 ·rw [if_pos c7] at H
  exact absurd H (by simp)
 ·rw [if_neg c7] at H
  have c7b0 : (a3.toList == ([101, 113, 122] : List UInt8)) = false := beq_eq_false_iff_ne.mpr c7
  have c7b1 : (a3.toList != ([101, 113, 122] : List UInt8)) = true := bne_iff_ne.mpr c7
  by_cases c8 : (a3.size : Int) > 8
  ·rw [if_pos c8] at H
   have c8b0 : decide (8 < (a3.size : Int)) = true := decide_eq_true c8
   have c8b1 : decide (8 < a3.size) = true := decide_eq_true (by omega)
   clear c8
   by_cases c9 : 0 ≤ 8
   ·rw [if_pos c9] at H
    have c9b0 := eq_true c9
    have c9b1 : decide (0 ≤ 8) = true := decide_eq_true c9
    clear c9
    by_cases c10 : 8 ≤ (a3.size : Int)
    ·rw [if_pos c10] at H
     have c10b0 := eq_true c10
     have c10b1 : decide (8 ≤ (a3.size : Int)) = true := decide_eq_true c10
     clear c10
     by_cases c11 : (a3.extract 0 8).toList = ([101, 120, 116, 101, 110, 100, 95, 105] : List UInt8)
     ·rw [if_pos c11] at H
      exact absurd H (by simp)
     ·rw [if_neg c11] at H
      have c11b0 : ((a3.extract 0 8).toList == ([101, 120, 116, 101, 110, 100, 95, 105] : List UInt8)) = false := beq_eq_false_iff_ne.mpr c11
      have c11b1 : ((a3.extract 0 8).toList != ([101, 120, 116, 101, 110, 100, 95, 105] : List UInt8)) = true := bne_iff_ne.mpr c11
      by_cases c12 : (a3.size : Int) > 7
      ·rw [if_pos c12] at H
       have c12b0 : decide (7 < (a3.size : Int)) = true := decide_eq_true c12
       have c12b1 : decide (7 < a3.size) = true := decide_eq_true (by omega)
       clear c12
       by_cases c13 : 0 ≤ 5
       ·rw [if_pos c13] at H
        have c13b0 := eq_true c13
        have c13b1 : decide (0 ≤ 5) = true := decide_eq_true c13
        clear c13
        by_cases c14 : 5 ≤ (a3.size : Int)
        ·rw [if_pos c14] at H
         have c14b0 := eq_true c14
         have c14b1 : decide (5 ≤ (a3.size : Int)) = true := decide_eq_true c14
         clear c14
         by_cases c15 : (a3.extract 0 5).toList = ([116, 114, 117, 110, 99] : List UInt8)
         ·rw [if_pos c15] at H
          have c15b0 : ((a3.extract 0 5).toList == ([116, 114, 117, 110, 99] : List UInt8)) = true := beq_iff_eq.mpr c15
          have c15b1 : ((a3.extract 0 5).toList != ([116, 114, 117, 110, 99] : List UInt8)) = false := bne_eq_false_iff_eq.mpr c15
          clear c15
          replace H := Option.bind_eq_some_iff.mp H
          obtain ⟨t304, A160, H⟩ := H
          replace H : ((bodkinref07_turned.f a3 a1 t304 a4).bind fun bt305 => (some (bt305.1, bt305.2))) = some (r1, r2) := H
          have A16 := Aside0.mk A160
          clear A160
          replace H := Option.bind_eq_some_iff.mp H
          obtain ⟨⟨t305, t306⟩, A170, H⟩ := H
          replace H : (some (t305, t306)) = some (r1, r2) := H
          have A17 := Aside0.mk A170
          clear A170
          simp only [Option.some.injEq, Prod.mk.injEq] at H
          obtain ⟨rfl, rfl⟩ := H
          go_enter Tryz.func35, Tryz.ntmps35
          go_wp2_with (first | ((with_reducible refine gate_callee (f := 36) rfl ?_); refine goesL_ (some 80) rfl rfl Tryz.func36 (by kernel_rfl) rfl #[.int .i64 a2] rfl mp_ ?_; (with_reducible refine (bodkinref07_Bits.calls a2 t304 _ A16.out).mono ?_); rintro e w' ⟨rfl, ⟨nd, rfl⟩⟩; refine ⟨_, rfl, ?_⟩) | ((with_reducible refine gate_callee (f := 59) rfl ?_); refine goesL_ (some 82) rfl rfl Tryz.func59 (by kernel_rfl) rfl #[.string a3, .int .i64 a1, .int .i64 t304, .int .u64 a4] rfl mp_ ?_; (with_reducible refine (bodkinref07_turned.calls a3 a1 t304 a4 t305 t306 _ A17.out).mono ?_); rintro e w' ⟨rfl, ⟨nd, rfl⟩⟩; refine ⟨_, rfl, ?_⟩))
          go_ret2
          exact ⟨er_, bl_⟩
         ·rw [if_neg c15] at H
          exact absurd H (by simp)
        ·rw [if_neg c14] at H
         exact absurd H (by simp)
       ·rw [if_neg c13] at H
        exact absurd H (by simp)
      ·rw [if_neg c12] at H
       exact absurd H (by simp)
    ·rw [if_neg c10] at H
     exact absurd H (by simp)
   ·rw [if_neg c9] at H
    exact absurd H (by simp)
  ·rw [if_neg c8] at H
   exact absurd H (by simp)
end Go.Proofs.YtkhhhceeoljheaaGreatDoor.PHel

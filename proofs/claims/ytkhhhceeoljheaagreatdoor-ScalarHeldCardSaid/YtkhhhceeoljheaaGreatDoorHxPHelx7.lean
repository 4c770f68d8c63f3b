import Derived.Test.YtkhhhceeoljheaaGreatDoorHxPHelx6
namespace Go.Proofs.YtkhhhceeoljheaaGreatDoor.PHel
open Go.RowKit Go.Proofs.YtkhhhceeoljheaaGreatDoorW.PrintWords Go.Proofs.YtkhhhceeoljheaaGreatDoorW.PrintLast Go.Proofs.YtkhhhceeoljheaaGreatDoorW.PrintMore
attribute [local go_sem] max2_int min2_int max_two min_two max_three min_three max_four min_four   
set_option linter.unusedVariables false
set_option linter.unusedSimpArgs false
def floats_format_parts.f (a0_0 : Int) (a0_1 : Int) (a1 : Int) : Option (Int × Int) := (floats_format_size.f a0_0 a0_1 a1).bind fun t153 => (if 0 ≤ (IntKind.u64.wrap (a0_0)) then (if (wrap64 (shr .u64 t153 (IntKind.u64.wrap (a0_0)))) = 0 then ((floats_format_least.f a0_0 a0_1).bind fun t154 => (some (Go.bits .and .u64 t153 (IntKind.u64.wrap ((shl .u64 1 (IntKind.u64.wrap (a0_0))) - 1)), t154))) else ((floats_format_least.f a0_0 a0_1).bind fun t155 => (some (Go.bits .or .u64 (Go.bits .and .u64 t153 (IntKind.u64.wrap ((shl .u64 1 (IntKind.u64.wrap (a0_0))) - 1))) (shl .u64 1 (IntKind.u64.wrap (a0_0))), wrap64 ((wrap64 (t155 + (wrap64 (shr .u64 t153 (IntKind.u64.wrap (a0_0)))))) - 1))))) else (none))
def floats_format_parts.T6 : Bool × List (List Nat × List Nat) := (true, [([], []), ([], []), ([1], [1]), ([2], [2]), ([3], [3]), ([0, 4], [0, 4]), ([], []), ([6], [6]), ([], []), ([7, 8], [7, 8]), ([9], [9]), ([5, 7, 0, 1, 2, 3, 4, 5], [5]), ([10, 11, 0, 1, 2, 3, 4, 5, 6, 7, 8, 9, 10, 11], [10])])
def floats_format_parts.B6 : List Nat := [0, 0, 2, 6, 14, 31, 0, 64, 0, 448, 960, 255, 4095]
theorem floats_format_parts.tab6 : rtab .any (opsOf Tryz.f179 6) = floats_format_parts.T6 := by kernel_rfl
theorem floats_format_parts.bits6 : waitsOk floats_format_parts.T6.2 floats_format_parts.B6 = true := by kernel_rfl
set_option maxHeartbeats 8000000 in
set_option maxRecDepth 100000 in
theorem floats_format_parts.calls (a0_0 : Int) (a0_1 : Int) (a1 : Int) (r1 : Int) (r2 : Int) (w : World) (h : floats_format_parts.f a0_0 a0_1 a1 = some (r1, r2)) (hG : GD w := by first | assumption | exact GD.below (by assumption) (by repeat (first | exact Aside0.out (by assumption) | exact Below.refl _ _ | assumption | apply below_alloc | apply pw_below_drewN | apply below_drew1 | refine below_set ?_ (Aside0.out (by assumption))))) :
  Calls Tryz.prog 179 #[.agg #[.int .i64 a0_0, .int .i64 a0_1], .int .u64 a1] w fun e w' => e = .returned (.tuple #[.int .u64 r1, .int .i64 r2]) ∧ Below w.heap.size w w' := by
 have hu94 := Tryz.underlying94
 have HB := Aside0.mk (Below.refl w.heap.size w)
 have H : ((floats_format_size.f a0_0 a0_1 a1).bind fun t153 => (if 0 ≤ (IntKind.u64.wrap (a0_0)) then (if (wrap64 (shr .u64 t153 (IntKind.u64.wrap (a0_0)))) = 0 then ((floats_format_least.f a0_0 a0_1).bind fun t154 => (some (Go.bits .and .u64 t153 (IntKind.u64.wrap ((shl .u64 1 (IntKind.u64.wrap (a0_0))) - 1)), t154))) else ((floats_format_least.f a0_0 a0_1).bind fun t155 => (some (Go.bits .or .u64 (Go.bits .and .u64 t153 (IntKind.u64.wrap ((shl .u64 1 (IntKind.u64.wrap (a0_0))) - 1))) (shl .u64 1 (IntKind.u64.wrap (a0_0))), wrap64 ((wrap64 (t155 + (wrap64 (shr .u64 t153 (IntKind.u64.wrap (a0_0)))))) - 1))))) else (none))) = some (r1, r2) := h
 clear h
 replace H := Option.bind_eq_some_iff.mp H
 obtain ⟨t153, A30, H⟩ := H
 replace H : (if 0 ≤ (IntKind.u64.wrap (a0_0)) then (if (wrap64 (shr .u64 t153 (IntKind.u64.wrap (a0_0)))) = 0 then ((floats_format_least.f a0_0 a0_1).bind fun t154 => (some (Go.bits .and .u64 t153 (IntKind.u64.wrap ((shl .u64 1 (IntKind.u64.wrap (a0_0))) - 1)), t154))) else ((floats_format_least.f a0_0 a0_1).bind fun t155 => (some (Go.bits .or .u64 (Go.bits .and .u64 t153 (IntKind.u64.wrap ((shl .u64 1 (IntKind.u64.wrap (a0_0))) - 1))) (shl .u64 1 (IntKind.u64.wrap (a0_0))), wrap64 ((wrap64 (t155 + (wrap64 (shr .u64 t153 (IntKind.u64.wrap (a0_0)))))) - 1))))) else (none)) = some (r1, r2) := H
 have A3 := Aside0.mk A30
 clear A30
 obtain ⟨ji4, hji4⟩ : ∃ j_ : Int, (IntKind.u64.wrap (a0_0)) = j_ := ⟨_, rfl⟩
 replace H : (if 0 ≤ (ji4) then (if (wrap64 (shr .u64 t153 (ji4))) = 0 then ((floats_format_least.f a0_0 a0_1).bind fun t154 => (some (Go.bits .and .u64 t153 (IntKind.u64.wrap ((shl .u64 1 (ji4)) - 1)), t154))) else ((floats_format_least.f a0_0 a0_1).bind fun t155 => (some (Go.bits .or .u64 (Go.bits .and .u64 t153 (IntKind.u64.wrap ((shl .u64 1 (ji4)) - 1))) (shl .u64 1 (ji4)), wrap64 ((wrap64 (t155 + (wrap64 (shr .u64 t153 (ji4))))) - 1))))) else (none)) = some (r1, r2) := by first | (rw [hji4] at H; exact H) | (simp only [hji4] at H ⊢; exact H)
 (try rw [hji4] at A3)
 by_cases c5 : 0 ≤ (ji4)
 ·rw [if_pos c5] at H
  have c5b0 := eq_true c5
  have c5b1 : decide (0 ≤ (ji4)) = true := decide_eq_true c5
  clear c5
  obtain ⟨ji6, hji6⟩ : ∃ j_ : Int, (shr .u64 t153 (ji4)) = j_ := ⟨_, rfl⟩
  replace H : (if (wrap64 (ji6)) = 0 then ((floats_format_least.f a0_0 a0_1).bind fun t154 => (some (Go.bits .and .u64 t153 (IntKind.u64.wrap ((shl .u64 1 (ji4)) - 1)), t154))) else ((floats_format_least.f a0_0 a0_1).bind fun t155 => (some (Go.bits .or .u64 (Go.bits .and .u64 t153 (IntKind.u64.wrap ((shl .u64 1 (ji4)) - 1))) (shl .u64 1 (ji4)), wrap64 ((wrap64 (t155 + (wrap64 (ji6)))) - 1))))) = some (r1, r2) := by first | (rw [hji6] at H; exact H) | (simp only [hji6] at H ⊢; exact H)
  (try rw [hji6] at A3)
  have hji6_ : (t153 / 2 ^ min (ji4).toNat 64) = ji6 := hji6
  have hji6z : (ji4) ≤ 64 → (t153 / 2 ^ (ji4).toNat) = ji6 := shr_small hji6
  have c7b0 := eq_true (od_ : 0 ≤ (ji4))
  obtain ⟨ji8, hji8⟩ : ∃ j_ : Int, (shl .u64 1 (ji4)) = j_ := ⟨_, rfl⟩
  replace H : (if (wrap64 (ji6)) = 0 then ((floats_format_least.f a0_0 a0_1).bind fun t154 => (some (Go.bits .and .u64 t153 (IntKind.u64.wrap ((ji8) - 1)), t154))) else ((floats_format_least.f a0_0 a0_1).bind fun t155 => (some (Go.bits .or .u64 (Go.bits .and .u64 t153 (IntKind.u64.wrap ((ji8) - 1))) (ji8), wrap64 ((wrap64 (t155 + (wrap64 (ji6)))) - 1))))) = some (r1, r2) := by first | (rw [hji8] at H; exact H) | (simp only [hji8] at H ⊢; exact H)
  (try rw [hji8] at A3)
  have hji8_ : (IntKind.u64.wrap (1 * 2 ^ min (ji4).toNat 64)) = ji8 := hji8
  have hji8z : (ji4) ≤ 64 → (IntKind.u64.wrap (1 * 2 ^ (ji4).toNat)) = ji8 := shl_small hji8
  have hji8u : (IntKind.u64.wrap (2 ^ min (ji4).toNat 64)) = ji8 := by have h_ := hji8_; rw [Int.one_mul] at h_; exact h_
  have hji8v : (ji4) ≤ 64 → (IntKind.u64.wrap (2 ^ (ji4).toNat)) = ji8 := fun hle_ => by have h_ := hji8z hle_; rw [Int.one_mul] at h_; exact h_
  by_cases c9 : (wrap64 (ji6)) = 0
  ·rw [if_pos c9] at H
   have c9b0 : ((wrap64 (ji6)) == 0) = true := beq_iff_eq.mpr c9
   have c9b1 : ((wrap64 (ji6)) != 0) = false := bne_eq_false_iff_eq.mpr c9
   clear c9
   replace H := Option.bind_eq_some_iff.mp H
   obtain ⟨t154, A100, H⟩ := H
   replace H : (some (Go.bits .and .u64 t153 (IntKind.u64.wrap ((ji8) - 1)), t154)) = some (r1, r2) := H
   have A10 := Aside0.mk A100
   clear A100
   simp only [Option.some.injEq, Prod.mk.injEq] at H
   obtain ⟨rfl, rfl⟩ := H
   go_enter Tryz.func179, Tryz.ntmps179
   go_wp2_with (first | ((with_reducible refine gate_dst (N := 2) rfl ?_); refine box_event ?hg (N := 2) ?hd (cs := #[.int .i64 a0_0, .int .i64 a0_1]) (t := 94) ?hr ?_; (case hd => rfl); (case hg => rfl); (case hr => first | (go_simp; done) | (go_simp; rfl)); intro gb152 hg w11 hbox hb; have n0_ := Aside0.mk (below_step bl_ hb); have n1_ := Aside0.mk (hbox); have n2_ := Aside0.mk ((by rw [hg]; exact (below_size bl_) : w.heap.size ≤ gb152)); have n3_ := Aside0.mk ((by rw [hg]; exact (below_size bl_) : w.heap.size ≤ gb152)); clear HB; have HB := n0_; have BK152 := n1_; have GW152 := n2_; have GE152 := n3_; clear n0_ n1_ n2_ n3_; clear hb hbox hg; have hcz12_0 : w11.cell? ⟨gb152, 0, none⟩ = some (.int .i64 a0_0) := (blk_cell BK152.out 0).trans rfl; have hcz12_1 : w11.cell? ⟨gb152, 1, none⟩ = some (.int .i64 a0_1) := (blk_cell BK152.out 1).trans rfl; have hfz12_0 := blk_frozen BK152.out 0; have hfz12_1 := blk_frozen BK152.out 1) | ((with_reducible refine gate_callee (f := 103) rfl ?_); refine goesL_ (some 11) rfl rfl Tryz.func103 (by kernel_rfl) rfl #[.agg #[.int .i64 a0_0, .int .i64 a0_1], .int .u64 a1] rfl mp_ ?_; (with_reducible refine (floats_format_size.calls a0_0 a0_1 a1 t153 _ A3.out).mono ?_); rintro e w13 ⟨rfl, hb⟩; refine ⟨_, rfl, ?_⟩; have n0_ := Aside0.mk (blk_below (g := gb152) (o := .cells #[.int .i64 a0_0, .int .i64 a0_1] 94 (0, 0)) (by (with_reducible repeat (first | refine blk_drewN ?_ _ | refine blk_drew ?_ | refine blk_alloc ?_ _)); exact BK152.out) hb); have n1_ := Aside0.mk (below_step bs_ hb); clear BK152; clear HB; have BK152 := n0_; have HB := n1_; clear n0_ n1_; (try clear hb); (try clear hb2); (try clear hk); (try clear hi); have hcz14_0 : w13.cell? ⟨gb152, 0, none⟩ = some (.int .i64 a0_0) := (blk_cell BK152.out 0).trans rfl; have hcz14_1 : w13.cell? ⟨gb152, 1, none⟩ = some (.int .i64 a0_1) := (blk_cell BK152.out 1).trans rfl; have hfz14_0 := blk_frozen BK152.out 0; have hfz14_1 := blk_frozen BK152.out 1) | ((with_reducible refine gate_callee (f := 219) rfl ?_); refine goesL_ (some 29) rfl rfl Tryz.func219 (by kernel_rfl) rfl #[.agg #[.int .i64 a0_0, .int .i64 a0_1]] rfl mp_ ?_; (with_reducible refine (floats_format_least.calls a0_0 a0_1 t154 _ A10.out).mono ?_); rintro e w15 ⟨rfl, hb⟩; refine ⟨_, rfl, ?_⟩; have n0_ := Aside0.mk (blk_below (g := gb152) (o := .cells #[.int .i64 a0_0, .int .i64 a0_1] 94 (0, 0)) (by (with_reducible repeat (first | refine blk_drewN ?_ _ | refine blk_drew ?_ | refine blk_alloc ?_ _)); exact BK152.out) hb); have n1_ := Aside0.mk (below_step bs_ hb); clear BK152; clear HB; have BK152 := n0_; have HB := n1_; clear n0_ n1_; (try clear hb); (try clear hb2); (try clear hk); (try clear hi)))
   go_ret2
   exact ⟨by first | rfl | (simp [errW_none, errW_some] <;> rfl) | (simp only [← hji4, ← hji6, ← hji8]; first | rfl | (simp [errW_none, errW_some] <;> rfl)) | (simp [*, errW_none, errW_some] <;> rfl), bs_⟩
  ·rw [if_neg c9] at H
   have c9b0 : ((wrap64 (ji6)) == 0) = false := beq_eq_false_iff_ne.mpr c9
   have c9b1 : ((wrap64 (ji6)) != 0) = true := bne_iff_ne.mpr c9
   have c16b0 := eq_true (od_ : 0 ≤ (ji4))
   replace H := Option.bind_eq_some_iff.mp H
   obtain ⟨t155, A180, H⟩ := H
   replace H : (some (Go.bits .or .u64 (Go.bits .and .u64 t153 (IntKind.u64.wrap ((ji8) - 1))) (ji8), wrap64 ((wrap64 (t155 + (wrap64 (ji6)))) - 1))) = some (r1, r2) := H
   have A18 := Aside0.mk A180
   clear A180
   simp only [Option.some.injEq, Prod.mk.injEq] at H
   obtain ⟨rfl, rfl⟩ := H
   go_enter Tryz.func179, Tryz.ntmps179
   try go_wp2_with (first | ((with_reducible refine gate_dst (N := 2) rfl ?_); refine box_event ?hg (N := 2) ?hd (cs := #[.int .i64 a0_0, .int .i64 a0_1]) (t := 94) ?hr ?_; (case hd => rfl); (case hg => rfl); (case hr => first | (go_simp; done) | (go_simp; rfl)); intro gb152 hg w19 hbox hb; have n0_ := Aside0.mk (below_step bl_ hb); have n1_ := Aside0.mk (hbox); have n2_ := Aside0.mk ((by rw [hg]; exact (below_size bl_) : w.heap.size ≤ gb152)); have n3_ := Aside0.mk ((by rw [hg]; exact (below_size bl_) : w.heap.size ≤ gb152)); clear HB; have HB := n0_; have BK152 := n1_; have GW152 := n2_; have GE152 := n3_; clear n0_ n1_ n2_ n3_; clear hb hbox hg; have hcz20_0 : w19.cell? ⟨gb152, 0, none⟩ = some (.int .i64 a0_0) := (blk_cell BK152.out 0).trans rfl; have hcz20_1 : w19.cell? ⟨gb152, 1, none⟩ = some (.int .i64 a0_1) := (blk_cell BK152.out 1).trans rfl; have hfz20_0 := blk_frozen BK152.out 0; have hfz20_1 := blk_frozen BK152.out 1) | ((with_reducible refine gate_callee (f := 103) rfl ?_); refine goesL_ (some 11) rfl rfl Tryz.func103 (by kernel_rfl) rfl #[.agg #[.int .i64 a0_0, .int .i64 a0_1], .int .u64 a1] rfl mp_ ?_; (with_reducible refine (floats_format_size.calls a0_0 a0_1 a1 t153 _ A3.out).mono ?_); rintro e w21 ⟨rfl, hb⟩; refine ⟨_, rfl, ?_⟩; have n0_ := Aside0.mk (blk_below (g := gb152) (o := .cells #[.int .i64 a0_0, .int .i64 a0_1] 94 (0, 0)) (by (with_reducible repeat (first | refine blk_drewN ?_ _ | refine blk_drew ?_ | refine blk_alloc ?_ _)); exact BK152.out) hb); have n1_ := Aside0.mk (below_step bs_ hb); clear BK152; clear HB; have BK152 := n0_; have HB := n1_; clear n0_ n1_; (try clear hb); (try clear hb2); (try clear hk); (try clear hi); have hcz22_0 : w21.cell? ⟨gb152, 0, none⟩ = some (.int .i64 a0_0) := (blk_cell BK152.out 0).trans rfl; have hcz22_1 : w21.cell? ⟨gb152, 1, none⟩ = some (.int .i64 a0_1) := (blk_cell BK152.out 1).trans rfl; have hfz22_0 := blk_frozen BK152.out 0; have hfz22_1 := blk_frozen BK152.out 1))
   have n0_ := Aside0.mk (blk_drew BK152.out)
   have n1_ := Aside0.mk (below_drew1 HB.out)
   clear BK152
   clear HB
   have BK152 := n0_
   have HB := n1_
   clear n0_ n1_
   refine start_ (n := 13) (S := fun w' => w'.cell? ⟨gb152, 0, none⟩ = some (.int .i64 a0_0) ∧ w'.cell? ⟨gb152, 1, none⟩ = some (.int .i64 a0_1)) (ds := []) #[false, false, false, false, false, false, false, false, false, false, false, false, false] (by kernel_rfl) rfl rfl ⟨(blk_cell BK152.out 0).trans rfl, (blk_cell BK152.out 1).trans rfl⟩ (fun hHeld => ?_); refine with_tabW floats_format_parts.tab6 floats_format_parts.bits6 (fun HT_ HW_ => ?_)
   generalize w21.drew = w23 at BK152 HB hHeld ⊢
   refine pure_ (i := 0) (N := some 30) (v := ?_) (a' := ?_) #[true, false, false, false, false, false, false, false, false, false, false, false, false] rfl rfl (any_of HT_.out (by kernel_rfl)) (fun _ _ _ h => h) (Or.inl ⟨by rfl, ?_⟩) ?_ ?_
   rotate_left
   ·intro w'
    go_simp
    with_reducible rfl
   rotate_left
   ·simp only [Act.put, List.setIfInBounds_toArray, List.set_cons_zero, List.set_cons_succ, i64_w, i32_w]
    rfl
   refine pure_ (i := 1) (N := some 31) (v := ?_) (a' := ?_) #[true, true, false, false, false, false, false, false, false, false, false, false, false] rfl rfl (any_of HT_.out (by kernel_rfl)) (fun _ _ _ h => h) (Or.inl ⟨by rfl, ?_⟩) ?_ ?_
   rotate_left
   ·intro w'
    go_simp
    with_reducible rfl
   rotate_left
   ·simp only [Act.put, List.setIfInBounds_toArray, List.set_cons_zero, List.set_cons_succ, i64_w, i32_w]
    rfl
   refine pure_ (i := 8) (N := some 38) (v := ?_) (a' := ?_) #[true, true, false, false, false, false, false, false, true, false, false, false, false] rfl rfl (any_of HT_.out (by kernel_rfl)) (fun _ _ _ h => h) (Or.inl ⟨by rfl, ?_⟩) ?_ ?_
   rotate_left
   ·intro w'
    go_simp
    with_reducible rfl
   rotate_left
   ·simp only [Act.put, List.setIfInBounds_toArray, List.set_cons_zero, List.set_cons_succ, i64_w, i32_w]
    rfl
   refine take_ (i := 2) (N := some 32) (v := ?_) (a' := ?_) #[true, true, true, false, false, false, false, false, true, false, false, false, false] rfl rfl (take_ofW HT_.out HW_.out (by kernel_rfl)) (fun _ _ _ h => h) (Or.inl ⟨by rfl, ?_⟩) hHeld ?_ ?_
   rotate_left
   ·rintro w' ⟨s0, s1⟩
    go_simp
    with_reducible rfl
   rotate_left
   ·simp only [Act.put, List.setIfInBounds_toArray, List.set_cons_zero, List.set_cons_succ, i64_w, i32_w]
    rfl
   refine pure_ (i := 3) (N := some 33) (v := ?_) (a' := ?_) #[true, true, true, true, false, false, false, false, true, false, false, false, false] rfl rfl (any_of HT_.out (by kernel_rfl)) (fun _ _ _ h => h) (Or.inl ⟨by rfl, ?_⟩) ?_ ?_
   rotate_left
   ·intro w'
    go_simp
    with_reducible rfl
   rotate_left
   ·simp only [Act.put, List.setIfInBounds_toArray, List.set_cons_zero, List.set_cons_succ, i64_w, i32_w]
    rfl
   refine pure_ (i := 4) (N := some 34) (v := ?_) (a' := ?_) #[true, true, true, true, true, false, false, false, true, false, false, false, false] rfl rfl (any_of HT_.out (by kernel_rfl)) (fun _ _ _ h => h) (Or.inl ⟨by rfl, ?_⟩) ?_ ?_
   rotate_left
   ·intro w'
    go_simp
    with_reducible rfl
   rotate_left
   ·simp only [Act.put, List.setIfInBounds_toArray, List.set_cons_zero, List.set_cons_succ, i64_w, i32_w]
    rfl
   refine pure_ (i := 5) (N := some 35) (v := ?_) (a' := ?_) #[true, true, true, true, true, true, false, false, true, false, false, false, false] rfl rfl (any_of HT_.out (by kernel_rfl)) (fun _ _ _ h => h) (Or.inl ⟨by rfl, ?_⟩) ?_ ?_
   rotate_left
   ·intro w'
    go_simp
    with_reducible rfl
   rotate_left
   ·simp only [Act.put, List.setIfInBounds_toArray, List.set_cons_zero, List.set_cons_succ, i64_w, i32_w]
    rfl
   refine take_ (i := 6) (N := some 36) (v := ?_) (a' := ?_) #[true, true, true, true, true, true, true, false, true, false, false, false, false] rfl rfl (take_ofW HT_.out HW_.out (by kernel_rfl)) (fun _ _ _ h => h) (Or.inl ⟨by rfl, ?_⟩) hHeld ?_ ?_
   rotate_left
   ·rintro w' ⟨s0, s1⟩
    go_simp
    with_reducible rfl
   rotate_left
   ·simp only [Act.put, List.setIfInBounds_toArray, List.set_cons_zero, List.set_cons_succ, i64_w, i32_w]
    rfl
   refine one_ (i := 7) (N := some 37) #[true, true, true, true, true, true, true, true, true, false, false, false, false] rfl rfl (one_of HT_.out (by kernel_rfl)) (by decide) (fun K hK => ?_)
   refine goes_ Tryz.func219 (by kernel_rfl) rfl #[.agg #[.int .i64 a0_0, .int .i64 a0_1]] (by rfl) rfl rfl mp_ ?_
   with_reducible refine (floats_format_least.calls a0_0 a0_1 t155 _ A18.out).mono ?_
   rintro e w24 ⟨rfl, hb⟩
   refine ⟨_, rfl, ?_⟩
   have n0_ := Aside0.mk (blk_below (g := gb152) (o := .cells #[.int .i64 a0_0, .int .i64 a0_1] 94 (0, 0)) (by (with_reducible repeat (first | refine blk_drewN ?_ _ | refine blk_drew ?_ | refine blk_alloc ?_ _)); exact BK152.out) hb)
   have n1_ := Aside0.mk (below_step bs_ hb)
   clear BK152
   clear HB
   have BK152 := n0_
   have HB := n1_
   clear n0_ n1_
   (try clear hb)
   (try clear hb2)
   (try clear hk)
   (try clear hi)
   refine hK.out _ _ ⟨(blk_cell BK152.out 0).trans rfl, (blk_cell BK152.out 1).trans rfl⟩ (fun hHeld => ?_)
   clear hK K
   refine norm_ (a' := ?_) ?_ ?_
   rotate_left
   ·show Act.put _ (some 37) _ = _
    simp only [Act.put, List.setIfInBounds_toArray, List.set_cons_zero, List.set_cons_succ, i64_w, i32_w]
    rfl
   refine pure_ (i := 9) (N := some 39) (v := ?_) (a' := ?_) #[true, true, true, true, true, true, true, true, true, true, false, false, false] rfl rfl (any_of HT_.out (by kernel_rfl)) (fun _ _ _ h => h) (Or.inl ⟨by rfl, ?_⟩) ?_ ?_
   rotate_left
   ·intro w'
    go_simp
    with_reducible rfl
   rotate_left
   ·simp only [Act.put, List.setIfInBounds_toArray, List.set_cons_zero, List.set_cons_succ, i64_w, i32_w]
    rfl
   refine pure_ (i := 10) (N := some 40) (v := ?_) (a' := ?_) #[true, true, true, true, true, true, true, true, true, true, true, false, false] rfl rfl (any_of HT_.out (by kernel_rfl)) (fun _ _ _ h => h) (Or.inl ⟨by rfl, ?_⟩) ?_ ?_
   rotate_left
   ·intro w'
    go_simp
    with_reducible rfl
   rotate_left
   ·simp only [Act.put, List.setIfInBounds_toArray, List.set_cons_zero, List.set_cons_succ, i64_w, i32_w]
    rfl
   refine pure_ (i := 11) (N := some 4) (v := ?_) (a' := ?_) #[true, true, true, true, true, true, true, true, true, true, true, true, false] rfl rfl (any_of HT_.out (by kernel_rfl)) (fun _ _ _ h => h) (Or.inl ⟨by rfl, ?_⟩) ?_ ?_
   rotate_left
   ·intro w'
    go_simp
    with_reducible rfl
   rotate_left
   ·simp only [Act.put, List.setIfInBounds_toArray, List.set_cons_zero, List.set_cons_succ, i64_w, i32_w]
    rfl
   refine pure_ (i := 12) (N := some 5) (v := ?_) (a' := ?_) #[true, true, true, true, true, true, true, true, true, true, true, true, true] rfl rfl (any_of HT_.out (by kernel_rfl)) (fun _ _ _ h => h) (Or.inl ⟨by rfl, ?_⟩) ?_ ?_
   rotate_left
   ·intro w'
    go_simp
    with_reducible rfl
   rotate_left
   ·simp only [Act.put, List.setIfInBounds_toArray, List.set_cons_zero, List.set_cons_succ, i64_w, i32_w]
    rfl
   refine done_ (done_of HT_.out (by kernel_rfl)) ?_
   try go_wp2
   go_ret2
   exact ⟨by first | rfl | (simp [errW_none, errW_some] <;> rfl) | (simp only [← hji4, ← hji6, ← hji8]; first | rfl | (simp [errW_none, errW_some] <;> rfl)) | (simp [*, errW_none, errW_some] <;> rfl), bs_⟩
 ·rw [if_neg c5] at H
  exact absurd H (by simp)
def floats_Parts.j0 : Nat → Int → Int → Bool → Option (Bool × Int × Int × Int)
 | 0, _, _, _ => none
 | k + 1, x0, x1, x19 => if x19 = true then (some (false, 0, 0, 1)) else ((floats_of.f x0).bind fun bt157 => ((floats_format_parts.f bt157.1 bt157.2 x1).bind fun bt159 => ((floats_of.f x0).bind fun bt161 => ((floats_format_neg.f bt161.1 bt161.2 x1).bind fun t163 => (some (t163, bt159.1, bt159.2, 0))))))
def floats_Parts.f (k : Nat) (a0 : Int) (a1 : Int) : Option (Bool × Int × Int × Int) := (floats_Kind.f a0 a1).bind fun t156 => (if t156 = 1 then (floats_Parts.j0 k a0 a1 false) else (floats_Parts.j0 k a0 a1 (t156 != 2)))
theorem floats_Parts.mono_l : ∀ k, (∀ y0 y1 y2, LeO (floats_Parts.j0 k y0 y1 y2) (floats_Parts.j0 (k + 1) y0 y1 y2))
 | 0 => fun _ _ _ r h => by simp [floats_Parts.j0] at h
 | k + 1 => by
  have ih0 := floats_Parts.mono_l k
  ·intro y0 y1 y2
   unfold floats_Parts.j0
   repeat' first
   | (with_reducible exact ih0 _ _ _)
   | (with_reducible exact LeO.refl _)
   | (with_reducible exact LeO.none _)
   | (with_reducible refine LeO.ite ?_ ?_)
   | (with_reducible refine LeO.bind ?_ (fun _ => ?_))
   | exact ih0 _ _ _
   | exact LeO.none _
   | refine LeO.ite ?_ ?_
   | refine LeO.bind ?_ (fun _ => ?_)
theorem floats_Parts.mono : ∀ a0 a1 k, LeO (floats_Parts.f k a0 a1) (floats_Parts.f (k + 1) a0 a1) := by
 intro a0 a1 k
 have ih0 := floats_Parts.mono_l k
 unfold floats_Parts.f
 repeat' first
   | (with_reducible exact ih0 _ _ _)
   | (with_reducible exact LeO.refl _)
   | (with_reducible exact LeO.none _)
   | (with_reducible refine LeO.ite ?_ ?_)
   | (with_reducible refine LeO.bind ?_ (fun _ => ?_))
   | exact ih0 _ _ _
   | exact LeO.none _
   | refine LeO.ite ?_ ?_
   | refine LeO.bind ?_ (fun _ => ?_)
set_option maxHeartbeats 8000000 in
set_option maxRecDepth 100000 in
theorem floats_Parts.calls (k : Nat) (a0 : Int) (a1 : Int) (r1 : Bool) (r2 : Int) (r3 : Int) (r4 : Int) (w : World) (h : floats_Parts.f k a0 a1 = some (r1, r2, r3, r4)) (hG : GD w := by first | assumption | exact GD.below (by assumption) (by repeat (first | exact Aside0.out (by assumption) | exact Below.refl _ _ | assumption | apply below_alloc | apply pw_below_drewN | apply below_drew1 | refine below_set ?_ (Aside0.out (by assumption))))) :
  Calls Tryz.prog 113 #[.int .i64 a0, .int .u64 a1] w fun e w' => e = .returned (.tuple #[.bool r1, .int .u64 r2, .int .i64 r3, .int .i64 r4]) ∧ Below w.heap.size w w' := by
 have HB := Aside0.mk (Below.refl w.heap.size w)
 have H : ((floats_Kind.f a0 a1).bind fun t156 => (if t156 = 1 then (floats_Parts.j0 k a0 a1 false) else (floats_Parts.j0 k a0 a1 (t156 != 2)))) = some (r1, r2, r3, r4) := h
 clear h
 replace H := Option.bind_eq_some_iff.mp H
 obtain ⟨t156, A30, H⟩ := H
 replace H : (if t156 = 1 then (floats_Parts.j0 k a0 a1 false) else (floats_Parts.j0 k a0 a1 (t156 != 2))) = some (r1, r2, r3, r4) := H
 have A3 := Aside0.mk A30
 clear A30
 have HC4 := Aside0.mk H
 clear H
 go_enter Tryz.func113, Tryz.ntmps113
 go_upto_region 2 with (first | ((with_reducible refine gate_callee (f := 111) rfl ?_); refine goesL_ (some 13) rfl rfl Tryz.func111 (by kernel_rfl) rfl #[.int .i64 a0, .int .u64 a1] rfl mp_ ?_; (with_reducible refine (floats_Kind.calls a0 a1 t156 _ A3.out).mono ?_); rintro e w5 ⟨rfl, hb⟩; refine ⟨_, rfl, ?_⟩; have n0_ := Aside0.mk (below_step bl_ hb); clear HB; have HB := n0_; clear n0_; (try clear hb); (try clear hb2); (try clear hk); (try clear hi)))
 (try simp only [Act.put, List.setIfInBounds_toArray, List.set_cons_zero, List.set_cons_succ])
 go_cut [19] (fun v19 wc => ∃ (kq : Nat) (x19_3 : Bool), v19 = .bool x19_3 ∧ Aside0 (floats_Parts.j0 kq a0 a1 x19_3 = some (r1, r2, r3, r4)) ∧ Aside0 (kq ≤ k) ∧ Aside0 (Below w.heap.size w wc))
 case first =>
  have H := HC4.out
  clear HC4
  by_cases c6 : t156 = 1
  ·rw [if_pos c6] at H
   have c6b0 : (t156 == 1) = true := beq_iff_eq.mpr c6
   have c6b1 : (t156 != 1) = false := bne_eq_false_iff_eq.mpr c6
   clear c6
   (first | rw [c6b0] | (simp only [i64_w, i32_w]; rw [c6b0]) | skip)
   have H' := Aside0.mk H
   clear H
   go_wp2
   go_meet
   case rel => exact ⟨_, (false), rs_, H', ⟨by first | omega | exact Nat.le_refl _⟩, ⟨bl_⟩⟩
  ·rw [if_neg c6] at H
   have c6b0 : (t156 == 1) = false := beq_eq_false_iff_ne.mpr c6
   have c6b1 : (t156 != 1) = true := bne_iff_ne.mpr c6
   (first | rw [c6b0] | (simp only [i64_w, i32_w]; rw [c6b0]) | skip)
   have H' := Aside0.mk H
   clear H
   go_wp2
   go_meet
   case rel => exact ⟨_, ((t156 != 2)), rs_, H', ⟨by first | omega | exact Nat.le_refl _⟩, ⟨bl_⟩⟩
 case rest =>
  clear HC4
  (try clear c1); (try clear p2); (try clear c6); (try clear c6b0); (try clear c6b1)
  obtain ⟨kq, x19_3, rfl, HA, HJ3, HB⟩ := hcut
  cases kq with
  | zero => exact absurd HA.out (by simp [floats_Parts.j0])
  | succ kj3 =>
   have H := HA.out
   clear HA
   simp only [floats_Parts.j0] at H
   by_cases c7 : x19_3 = true
   ·subst c7
    have H1 : (some (false, 0, 0, 1)) = some (r1, r2, r3, r4) := by rw [if_pos rfl] at H; exact H
    clear H
    have H := H1
    clear H1
    simp only [Option.some.injEq, Prod.mk.injEq] at H
    obtain ⟨rfl, rfl, rfl, rfl⟩ := H
    go_wp2
    refine bodyPost_ret (results_list (rs := [.tmp 4, .tmp 5, .tmp 6, .tmp 7]) rfl (by simp) (.tmp (.tmp (.tmp (.tmp .nil))))) rfl ?_
    exact ⟨er_, bl_⟩
   ·replace c7 := Bool.eq_false_iff.mpr c7
    subst c7
    have H1 : ((floats_of.f a0).bind fun bt157 => ((floats_format_parts.f bt157.1 bt157.2 a1).bind fun bt159 => ((floats_of.f a0).bind fun bt161 => ((floats_format_neg.f bt161.1 bt161.2 a1).bind fun t163 => (some (t163, bt159.1, bt159.2, 0)))))) = some (r1, r2, r3, r4) := by rw [if_neg (show ¬ (false = true) by decide)] at H; exact H
    clear H
    have H := H1
    clear H1
    replace H := Option.bind_eq_some_iff.mp H
    obtain ⟨⟨t157, t158⟩, A80, H⟩ := H
    replace H : ((floats_format_parts.f t157 t158 a1).bind fun bt159 => ((floats_of.f a0).bind fun bt161 => ((floats_format_neg.f bt161.1 bt161.2 a1).bind fun t163 => (some (t163, bt159.1, bt159.2, 0))))) = some (r1, r2, r3, r4) := H
    have A8 := Aside0.mk A80
    clear A80
    replace H := Option.bind_eq_some_iff.mp H
    obtain ⟨⟨t159, t160⟩, A90, H⟩ := H
    replace H : ((floats_of.f a0).bind fun bt161 => ((floats_format_neg.f bt161.1 bt161.2 a1).bind fun t163 => (some (t163, t159, t160, 0)))) = some (r1, r2, r3, r4) := H
    have A9 := Aside0.mk A90
    clear A90
    replace H := Option.bind_eq_some_iff.mp H
    obtain ⟨⟨t161, t162⟩, A100, H⟩ := H
    replace H : ((floats_format_neg.f t161 t162 a1).bind fun t163 => (some (t163, t159, t160, 0))) = some (r1, r2, r3, r4) := H
    have A10 := Aside0.mk A100
    clear A100
    replace H := Option.bind_eq_some_iff.mp H
    obtain ⟨t163, A110, H⟩ := H
    replace H : (some (t163, t159, t160, 0)) = some (r1, r2, r3, r4) := H
    have A11 := Aside0.mk A110
    clear A110
    simp only [Option.some.injEq, Prod.mk.injEq] at H
    obtain ⟨rfl, rfl, rfl, rfl⟩ := H
    go_wp2_with (first | ((with_reducible refine gate_callee (f := 88) rfl ?_); refine goesL_ (some 22) rfl rfl Tryz.func88 (by kernel_rfl) rfl #[.int .i64 a0] rfl mp_ ?_; (with_reducible refine (floats_of.calls a0 t157 t158 _ A8.out).mono ?_); rintro e w12 ⟨rfl, hb⟩; refine ⟨_, rfl, ?_⟩; have n0_ := Aside0.mk (below_step bl_ hb); clear HB; have HB := n0_; clear n0_; (try clear hb); (try clear hb2); (try clear hk); (try clear hi)) | ((with_reducible refine gate_callee (f := 179) rfl ?_); refine goesL_ (some 24) rfl rfl Tryz.func179 (by kernel_rfl) rfl #[.agg #[.int .i64 t157, .int .i64 t158], .int .u64 a1] rfl mp_ ?_; (with_reducible refine (floats_format_parts.calls t157 t158 a1 t159 t160 _ A9.out).mono ?_); rintro e w13 ⟨rfl, hb⟩; refine ⟨_, rfl, ?_⟩; have n0_ := Aside0.mk (below_step bl_ hb); clear HB; have HB := n0_; clear n0_; (try clear hb); (try clear hb2); (try clear hk); (try clear hi)) | ((with_reducible refine gate_callee (f := 88) rfl ?_); refine goesL_ (some 28) rfl rfl Tryz.func88 (by kernel_rfl) rfl #[.int .i64 a0] rfl mp_ ?_; (with_reducible refine (floats_of.calls a0 t161 t162 _ A10.out).mono ?_); rintro e w14 ⟨rfl, hb⟩; refine ⟨_, rfl, ?_⟩; have n0_ := Aside0.mk (below_step bl_ hb); clear HB; have HB := n0_; clear n0_; (try clear hb); (try clear hb2); (try clear hk); (try clear hi)) | ((with_reducible refine gate_callee (f := 102) rfl ?_); refine goesL_ (some 30) rfl rfl Tryz.func102 (by kernel_rfl) rfl #[.agg #[.int .i64 t161, .int .i64 t162], .int .u64 a1] rfl mp_ ?_; (with_reducible refine (floats_format_neg.calls t161 t162 a1 t163 _ A11.out).mono ?_); rintro e w15 ⟨rfl, hb⟩; refine ⟨_, rfl, ?_⟩; have n0_ := Aside0.mk (below_step bl_ hb); clear HB; have HB := n0_; clear n0_; (try clear hb); (try clear hb2); (try clear hk); (try clear hi)))
    refine bodyPost_ret (results_list (rs := [.tmp 4, .tmp 5, .tmp 6, .tmp 7]) rfl (by simp) (.tmp (.tmp (.tmp (.tmp .nil))))) rfl ?_
    exact ⟨er_, bl_⟩
end Go.Proofs.YtkhhhceeoljheaaGreatDoor.PHel

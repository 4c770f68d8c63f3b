import Derived.Test.YtkhhhceeoljheaaGreatDoorSxPStax4
namespace Go.Proofs.YtkhhhceeoljheaaGreatDoor.PSta
open Go.RowKit Go.Proofs.YtkhhhceeoljheaaGreatDoorW.PrintWords Go.Proofs.YtkhhhceeoljheaaGreatDoorW.PrintLast Go.Proofs.YtkhhhceeoljheaaGreatDoorW.PrintMore
attribute [local go_sem] max2_int min2_int max_two min_two max_three min_three max_four min_four   
set_option linter.unusedVariables false
set_option linter.unusedSimpArgs false
def floats_format_isNaN.f (a0_0 : Int) (a0_1 : Int) (a1 : Int) : Option (Bool) := (floats_format_size.f a0_0 a0_1 a1).bind fun t140 => ((floats_format_infinity.f a0_0 a0_1).bind fun t141 => (some (decide (t140 > t141))))
set_option maxHeartbeats 8000000 in
set_option maxRecDepth 100000 in
theorem floats_format_isNaN.calls (a0_0 : Int) (a0_1 : Int) (a1 : Int) (r : Bool) (w : World) (h : floats_format_isNaN.f a0_0 a0_1 a1 = some r) (hG : GD w := by first | assumption | exact GD.below (by assumption) (by repeat (first | exact Aside0.out (by assumption) | exact Below.refl _ _ | assumption | apply below_alloc | apply pw_below_drewN | apply below_drew1 | refine below_set ?_ (Aside0.out (by assumption))))) :
  Calls Tryz.prog 90 #[.agg #[.int .i64 a0_0, .int .i64 a0_1], .int .u64 a1] w fun e w' => e = .returned (.bool r) ∧ Below w.heap.size w w' := by
 have hu94 := Tryz.underlying94
 have HB := Aside0.mk (Below.refl w.heap.size w)
 have H : ((floats_format_size.f a0_0 a0_1 a1).bind fun t140 => ((floats_format_infinity.f a0_0 a0_1).bind fun t141 => (some (decide (t140 > t141))))) = some r := h
 clear h
 replace H := Option.bind_eq_some_iff.mp H
 obtain ⟨t140, A30, H⟩ := H
 replace H : ((floats_format_infinity.f a0_0 a0_1).bind fun t141 => (some (decide (t140 > t141)))) = some r := H
 have A3 := Aside0.mk A30
 clear A30
 replace H := Option.bind_eq_some_iff.mp H
 obtain ⟨t141, A40, H⟩ := H
 replace H : (some (decide (t140 > t141))) = some r := H
 have A4 := Aside0.mk A40
 clear A40
 obtain rfl := Option.some.inj H
 go_enter Tryz.func90, Tryz.ntmps90
 try go_wp2_with (first | ((with_reducible refine gate_dst (N := 2) rfl ?_); refine box_event ?hg (N := 2) ?hd (cs := #[.int .i64 a0_0, .int .i64 a0_1]) (t := 94) ?hr ?_; (case hd => rfl); (case hg => rfl); (case hr => first | (go_simp; done) | (go_simp; rfl)); intro gb139 hg w5 hbox hb; have n0_ := Aside0.mk (below_step bl_ hb); have n1_ := Aside0.mk (hbox); have n2_ := Aside0.mk ((by rw [hg]; exact (below_size bl_) : w.heap.size ≤ gb139)); have n3_ := Aside0.mk ((by rw [hg]; exact (below_size bl_) : w.heap.size ≤ gb139)); clear HB; have HB := n0_; have BK139 := n1_; have GW139 := n2_; have GE139 := n3_; clear n0_ n1_ n2_ n3_; clear hb hbox hg))
 have n0_ := Aside0.mk (blk_drew BK139.out)
 have n1_ := Aside0.mk (below_drew1 HB.out)
 clear BK139
 clear HB
 have BK139 := n0_
 have HB := n1_
 clear n0_ n1_
 refine start_ (n := 7) (S := fun w' => w'.cell? ⟨gb139, 0, none⟩ = some (.int .i64 a0_0) ∧ w'.cell? ⟨gb139, 1, none⟩ = some (.int .i64 a0_1)) (ds := []) #[false, false, false, false, false, false, false] (by kernel_rfl) rfl rfl ⟨(blk_cell BK139.out 0).trans rfl, (blk_cell BK139.out 1).trans rfl⟩ (fun hHeld => ?_)
 generalize w5.drew = w6 at BK139 HB hHeld ⊢
 refine pure_ (i := 1) (N := some 6) (v := ?_) (a' := ?_) #[false, true, false, false, false, false, false] rfl rfl (by kernel_rfl) (fun _ _ _ h => h) (Or.inl ⟨by rfl, ?_⟩) ?_ ?_
 rotate_left
 ·intro w'
  go_simp
  with_reducible rfl
 rotate_left
 ·simp only [Act.put, List.setIfInBounds_toArray, List.set_cons_zero, List.set_cons_succ, i64_w, i32_w]
  rfl
 refine take_ (i := 0) (N := some 5) (v := ?_) (a' := ?_) #[true, true, false, false, false, false, false] rfl rfl (by kernel_rfl) (fun _ _ _ h => h) (Or.inl ⟨by rfl, ?_⟩) hHeld ?_ ?_
 rotate_left
 ·rintro w' ⟨s0, s1⟩
  go_simp
  with_reducible rfl
 rotate_left
 ·simp only [Act.put, List.setIfInBounds_toArray, List.set_cons_zero, List.set_cons_succ, i64_w, i32_w]
  rfl
 refine take_ (i := 3) (N := some 8) (v := ?_) (a' := ?_) #[true, true, false, true, false, false, false] rfl rfl (by kernel_rfl) (fun _ _ _ h => h) (Or.inl ⟨by rfl, ?_⟩) hHeld ?_ ?_
 rotate_left
 ·rintro w' ⟨s0, s1⟩
  go_simp
  with_reducible rfl
 rotate_left
 ·simp only [Act.put, List.setIfInBounds_toArray, List.set_cons_zero, List.set_cons_succ, i64_w, i32_w]
  rfl
 refine one_ (i := 2) (N := some 7) #[true, true, true, true, false, false, false] rfl rfl (by kernel_rfl) (by decide) (fun K hK => ?_)
 refine goes_ Tryz.func103 (by kernel_rfl) rfl #[.agg #[.int .i64 a0_0, .int .i64 a0_1], .int .u64 a1] (by rfl) rfl rfl mp_ ?_
 with_reducible refine (floats_format_size.calls a0_0 a0_1 a1 t140 _ A3.out).mono ?_
 rintro e w7 ⟨rfl, hb⟩
 refine ⟨_, rfl, ?_⟩
 have n0_ := Aside0.mk (blk_below (g := gb139) (o := .cells #[.int .i64 a0_0, .int .i64 a0_1] 94 (0, 0)) (by (with_reducible repeat (first | refine blk_drewN ?_ _ | refine blk_drew ?_ | refine blk_alloc ?_ _)); exact BK139.out) hb)
 have n1_ := Aside0.mk (below_step bs_ hb)
 clear BK139
 clear HB
 have BK139 := n0_
 have HB := n1_
 clear n0_ n1_
 (try clear hb)
 (try clear hb2)
 (try clear hk)
 (try clear hi)
 refine hK.out _ _ ⟨(blk_cell BK139.out 0).trans rfl, (blk_cell BK139.out 1).trans rfl⟩ (fun hHeld => ?_)
 clear hK K
 refine norm_ (a' := ?_) ?_ ?_
 rotate_left
 ·show Act.put _ (some 7) _ = _
  simp only [Act.put, List.setIfInBounds_toArray, List.set_cons_zero, List.set_cons_succ, i64_w, i32_w]
  rfl
 refine one_ (i := 4) (N := some 9) #[true, true, true, true, true, false, false] rfl rfl (by kernel_rfl) (by decide) (fun K hK => ?_)
 refine goes_ Tryz.func175 (by kernel_rfl) rfl #[.agg #[.int .i64 a0_0, .int .i64 a0_1]] (by rfl) rfl rfl mp_ ?_
 with_reducible refine (floats_format_infinity.calls a0_0 a0_1 t141 _ A4.out).mono ?_
 rintro e w8 ⟨rfl, hb⟩
 refine ⟨_, rfl, ?_⟩
 have n0_ := Aside0.mk (blk_below (g := gb139) (o := .cells #[.int .i64 a0_0, .int .i64 a0_1] 94 (0, 0)) (by (with_reducible repeat (first | refine blk_drewN ?_ _ | refine blk_drew ?_ | refine blk_alloc ?_ _)); exact BK139.out) hb)
 have n1_ := Aside0.mk (below_step bs_ hb)
 clear BK139
 clear HB
 have BK139 := n0_
 have HB := n1_
 clear n0_ n1_
 (try clear hb)
 (try clear hb2)
 (try clear hk)
 (try clear hi)
 refine hK.out _ _ ⟨(blk_cell BK139.out 0).trans rfl, (blk_cell BK139.out 1).trans rfl⟩ (fun hHeld => ?_)
 clear hK K
 refine norm_ (a' := ?_) ?_ ?_
 rotate_left
 ·show Act.put _ (some 9) _ = _
  simp only [Act.put, List.setIfInBounds_toArray, List.set_cons_zero, List.set_cons_succ, i64_w, i32_w]
  rfl
 refine pure_ (i := 5) (N := some 10) (v := ?_) (a' := ?_) #[true, true, true, true, true, true, false] rfl rfl (by kernel_rfl) (fun _ _ _ h => h) (Or.inl ⟨by rfl, ?_⟩) ?_ ?_
 rotate_left
 ·intro w'
  go_simp
  with_reducible rfl
 rotate_left
 ·simp only [Act.put, List.setIfInBounds_toArray, List.set_cons_zero, List.set_cons_succ, i64_w, i32_w]
  rfl
 refine pure_ (i := 6) (N := some 4) (v := ?_) (a' := ?_) #[true, true, true, true, true, true, true] rfl rfl (by kernel_rfl) (fun _ _ _ h => h) (Or.inl ⟨by rfl, ?_⟩) ?_ ?_
 rotate_left
 ·intro w'
  go_simp
  with_reducible rfl
 rotate_left
 ·simp only [Act.put, List.setIfInBounds_toArray, List.set_cons_zero, List.set_cons_succ, i64_w, i32_w]
  rfl
 refine done_ (by kernel_rfl) ?_
 try go_wp2
 go_ret
 exact ⟨er_, bs_⟩
def ints_Rel.j0 : Nat → Int → Int → Int → Int → Bool → Option (Bool × Int)
 | 0, _, _, _, _, _ => none
 | k + 1, x0, x1, x2, x3, x22 => if x22 = true then (some (false, 1)) else ((ints_mask.f x0).bind fun t143 => ((ints_mask.f x0).bind fun t144 => ((ints_Signed.f x0 (Go.bits .and .u64 x2 t143)).bind fun t145 => ((ints_Signed.f x0 (Go.bits .and .u64 x3 t144)).bind fun t146 => (if x1 = 1 then (some (((Go.bits .and .u64 x2 t143) == (Go.bits .and .u64 x3 t144)), 0)) else (if x1 = 2 then (some (((Go.bits .and .u64 x2 t143) != (Go.bits .and .u64 x3 t144)), 0)) else (if x1 = 3 then (some (decide (t145 < t146), 0)) else (if x1 = 4 then (some (decide ((Go.bits .and .u64 x2 t143) < (Go.bits .and .u64 x3 t144)), 0)) else (if x1 = 5 then (some (decide (t145 > t146), 0)) else (if x1 = 6 then (some (decide ((Go.bits .and .u64 x2 t143) > (Go.bits .and .u64 x3 t144)), 0)) else (if x1 = 7 then (some (decide (t145 ≤ t146), 0)) else (if x1 = 8 then (some (decide ((Go.bits .and .u64 x2 t143) ≤ (Go.bits .and .u64 x3 t144)), 0)) else (if x1 = 9 then (some (decide (t145 ≥ t146), 0)) else (some (decide ((Go.bits .and .u64 x2 t143) ≥ (Go.bits .and .u64 x3 t144)), 0)))))))))))))))
def ints_Rel.f (k : Nat) (a0 : Int) (a1 : Int) (a2 : Int) (a3 : Int) : Option (Bool × Int) := (ints_right.f a0).bind fun t142 => (if t142 = true then (if a1 < 1 then (ints_Rel.j0 k a0 a1 a2 a3 true) else (ints_Rel.j0 k a0 a1 a2 a3 (decide (a1 > 10)))) else (ints_Rel.j0 k a0 a1 a2 a3 true))
theorem ints_Rel.mono_l : ∀ k, (∀ y0 y1 y2 y3 y4, LeO (ints_Rel.j0 k y0 y1 y2 y3 y4) (ints_Rel.j0 (k + 1) y0 y1 y2 y3 y4))
 | 0 => fun _ _ _ _ _ r h => by simp [ints_Rel.j0] at h
 | k + 1 => by
  have ih0 := ints_Rel.mono_l k
  ·intro y0 y1 y2 y3 y4
   unfold ints_Rel.j0
   repeat' first
   | (with_reducible exact ih0 _ _ _ _ _)
   | (with_reducible exact LeO.refl _)
   | (with_reducible exact LeO.none _)
   | (with_reducible refine LeO.ite ?_ ?_)
   | (with_reducible refine LeO.bind ?_ (fun _ => ?_))
   | exact ih0 _ _ _ _ _
   | exact LeO.none _
   | refine LeO.ite ?_ ?_
   | refine LeO.bind ?_ (fun _ => ?_)
theorem ints_Rel.mono : ∀ a0 a1 a2 a3 k, LeO (ints_Rel.f k a0 a1 a2 a3) (ints_Rel.f (k + 1) a0 a1 a2 a3) := by
 intro a0 a1 a2 a3 k
 have ih0 := ints_Rel.mono_l k
 unfold ints_Rel.f
 repeat' first
   | (with_reducible exact ih0 _ _ _ _ _)
   | (with_reducible exact LeO.refl _)
   | (with_reducible exact LeO.none _)
   | (with_reducible refine LeO.ite ?_ ?_)
   | (with_reducible refine LeO.bind ?_ (fun _ => ?_))
   | exact ih0 _ _ _ _ _
   | exact LeO.none _
   | refine LeO.ite ?_ ?_
   | refine LeO.bind ?_ (fun _ => ?_)
set_option maxHeartbeats 8000000 in
set_option maxRecDepth 100000 in
theorem ints_Rel.calls (k : Nat) (a0 : Int) (a1 : Int) (a2 : Int) (a3 : Int) (r1 : Bool) (r2 : Int) (w : World) (h : ints_Rel.f k a0 a1 a2 a3 = some (r1, r2)) (hG : GD w := by first | assumption | exact GD.below (by assumption) (by repeat (first | exact Aside0.out (by assumption) | exact Below.refl _ _ | assumption | apply below_alloc | apply pw_below_drewN | apply below_drew1 | refine below_set ?_ (Aside0.out (by assumption))))) :
  Calls Tryz.prog 46 #[.int .i64 a0, .int .i64 a1, .int .u64 a2, .int .u64 a3] w fun e w' => e = .returned (.tuple #[.bool r1, .int .i64 r2]) ∧ Drawn0 w w' := by
 have H : ((ints_right.f a0).bind fun t142 => (if t142 = true then (if a1 < 1 then (ints_Rel.j0 k a0 a1 a2 a3 true) else (ints_Rel.j0 k a0 a1 a2 a3 (decide (a1 > 10)))) else (ints_Rel.j0 k a0 a1 a2 a3 true))) = some (r1, r2) := h
 clear h
 have HC5 := Aside0.mk H
 clear H
 go_enter Tryz.func46, Tryz.ntmps46
 go_upto_region 1 with (fail)
 go_cut [22] (fun v22 wc => ∃ (kq : Nat) (x22_4 : Bool), v22 = .bool x22_4 ∧ Aside0 (ints_Rel.j0 kq a0 a1 a2 a3 x22_4 = some (r1, r2)) ∧ Aside0 (kq ≤ k) ∧ Drawn0 w wc)
 case first =>
  have H := HC5.out
  clear HC5
  replace H := Option.bind_eq_some_iff.mp H
  obtain ⟨t142, A60, H⟩ := H
  replace H : (if t142 = true then (if a1 < 1 then (ints_Rel.j0 k a0 a1 a2 a3 true) else (ints_Rel.j0 k a0 a1 a2 a3 (decide (a1 > 10)))) else (ints_Rel.j0 k a0 a1 a2 a3 true)) = some (r1, r2) := H
  have A6 := Aside0.mk A60
  clear A60
  by_cases c7 : t142 = true
  ·subst c7
   have H1 : (if a1 < 1 then (ints_Rel.j0 k a0 a1 a2 a3 true) else (ints_Rel.j0 k a0 a1 a2 a3 (decide (a1 > 10)))) = some (r1, r2) := by rw [if_pos rfl] at H; exact H
   clear H
   have H := H1
   clear H1
   by_cases c8 : a1 < 1
   ·rw [if_pos c8] at H
    have c8b0 : decide (a1 < 1) = true := decide_eq_true c8
    clear c8
    (first | rw [c8b0] | (simp only [i64_w, i32_w]; rw [c8b0]) | skip)
    have H' := Aside0.mk H
    clear H
    go_wp2_with (first | ((with_reducible refine gate_callee (f := 85) rfl ?_); refine goesL_ (some 13) rfl rfl Tryz.func85 (by kernel_rfl) rfl #[.int .i64 a0] rfl mp_ ?_; (with_reducible refine (ints_right.calls a0 true _ A6.out).mono ?_); rintro e w' ⟨rfl, ⟨nd, rfl⟩⟩; refine ⟨_, rfl, ?_⟩))
    go_meet
    case rel => exact ⟨_, (true), rs_, H', ⟨by first | omega | exact Nat.le_refl _⟩, by repeat (first | exact Drawn0.refl _ | apply Drawn0.step)⟩
   ·rw [if_neg c8] at H
    have c8b0 : decide (a1 < 1) = false := decide_eq_false c8
    clear c8
    (first | rw [c8b0] | (simp only [i64_w, i32_w]; rw [c8b0]) | skip)
    have H' := Aside0.mk H
    clear H
    go_wp2_with (first | ((with_reducible refine gate_callee (f := 85) rfl ?_); refine goesL_ (some 13) rfl rfl Tryz.func85 (by kernel_rfl) rfl #[.int .i64 a0] rfl mp_ ?_; (with_reducible refine (ints_right.calls a0 true _ A6.out).mono ?_); rintro e w' ⟨rfl, ⟨nd, rfl⟩⟩; refine ⟨_, rfl, ?_⟩))
    go_meet
    case rel => exact ⟨_, (decide (a1 > 10)), rs_, H', ⟨by first | omega | exact Nat.le_refl _⟩, by repeat (first | exact Drawn0.refl _ | apply Drawn0.step)⟩
  ·replace c7 := Bool.eq_false_iff.mpr c7
   subst c7
   have H1 : (ints_Rel.j0 k a0 a1 a2 a3 true) = some (r1, r2) := by rw [if_neg (show ¬ (false = true) by decide)] at H; exact H
   clear H
   have H := H1
   clear H1
   have H' := Aside0.mk H
   clear H
   go_wp2_with (first | ((with_reducible refine gate_callee (f := 85) rfl ?_); refine goesL_ (some 13) rfl rfl Tryz.func85 (by kernel_rfl) rfl #[.int .i64 a0] rfl mp_ ?_; (with_reducible refine (ints_right.calls a0 false _ A6.out).mono ?_); rintro e w' ⟨rfl, ⟨nd, rfl⟩⟩; refine ⟨_, rfl, ?_⟩))
   go_meet
   case rel => exact ⟨_, (true), rs_, H', ⟨by first | omega | exact Nat.le_refl _⟩, by repeat (first | exact Drawn0.refl _ | apply Drawn0.step)⟩
 case rest =>
  clear HC5
  (try clear p2); (try clear c4); (try clear c7); (try clear c8); (try clear c8b0)
  obtain ⟨kq, x22_4, rfl, HA, HJ4, ⟨mc4, rfl⟩⟩ := hcut
  cases kq with
  | zero => exact absurd HA.out (by simp [ints_Rel.j0])
  | succ kj4 =>
   have H := HA.out
   clear HA
   simp only [ints_Rel.j0] at H
   by_cases c9 : x22_4 = true
   ·subst c9
    have H1 : (some (false, 1)) = some (r1, r2) := by rw [if_pos rfl] at H; exact H
    clear H
    have H := H1
    clear H1
    simp only [Option.some.injEq, Prod.mk.injEq] at H
    obtain ⟨rfl, rfl⟩ := H
    go_wp2
    go_ret2
    exact ⟨by first | rfl | (simp; done) | (simp [*]; done), by repeat (first | exact Drawn0.refl _ | apply Drawn0.step)⟩
   ·replace c9 := Bool.eq_false_iff.mpr c9
    subst c9
    have H1 : ((ints_mask.f a0).bind fun t143 => ((ints_mask.f a0).bind fun t144 => ((ints_Signed.f a0 (Go.bits .and .u64 a2 t143)).bind fun t145 => ((ints_Signed.f a0 (Go.bits .and .u64 a3 t144)).bind fun t146 => (if a1 = 1 then (some (((Go.bits .and .u64 a2 t143) == (Go.bits .and .u64 a3 t144)), 0)) else (if a1 = 2 then (some (((Go.bits .and .u64 a2 t143) != (Go.bits .and .u64 a3 t144)), 0)) else (if a1 = 3 then (some (decide (t145 < t146), 0)) else (if a1 = 4 then (some (decide ((Go.bits .and .u64 a2 t143) < (Go.bits .and .u64 a3 t144)), 0)) else (if a1 = 5 then (some (decide (t145 > t146), 0)) else (if a1 = 6 then (some (decide ((Go.bits .and .u64 a2 t143) > (Go.bits .and .u64 a3 t144)), 0)) else (if a1 = 7 then (some (decide (t145 ≤ t146), 0)) else (if a1 = 8 then (some (decide ((Go.bits .and .u64 a2 t143) ≤ (Go.bits .and .u64 a3 t144)), 0)) else (if a1 = 9 then (some (decide (t145 ≥ t146), 0)) else (some (decide ((Go.bits .and .u64 a2 t143) ≥ (Go.bits .and .u64 a3 t144)), 0))))))))))))))) = some (r1, r2) := by rw [if_neg (show ¬ (false = true) by decide)] at H; exact H
    clear H
    have H := H1
    clear H1
    replace H := Option.bind_eq_some_iff.mp H
    obtain ⟨t143, A100, H⟩ := H
    replace H : ((ints_mask.f a0).bind fun t144 => ((ints_Signed.f a0 (Go.bits .and .u64 a2 t143)).bind fun t145 => ((ints_Signed.f a0 (Go.bits .and .u64 a3 t144)).bind fun t146 => (if a1 = 1 then (some (((Go.bits .and .u64 a2 t143) == (Go.bits .and .u64 a3 t144)), 0)) else (if a1 = 2 then (some (((Go.bits .and .u64 a2 t143) != (Go.bits .and .u64 a3 t144)), 0)) else (if a1 = 3 then (some (decide (t145 < t146), 0)) else (if a1 = 4 then (some (decide ((Go.bits .and .u64 a2 t143) < (Go.bits .and .u64 a3 t144)), 0)) else (if a1 = 5 then (some (decide (t145 > t146), 0)) else (if a1 = 6 then (some (decide ((Go.bits .and .u64 a2 t143) > (Go.bits .and .u64 a3 t144)), 0)) else (if a1 = 7 then (some (decide (t145 ≤ t146), 0)) else (if a1 = 8 then (some (decide ((Go.bits .and .u64 a2 t143) ≤ (Go.bits .and .u64 a3 t144)), 0)) else (if a1 = 9 then (some (decide (t145 ≥ t146), 0)) else (some (decide ((Go.bits .and .u64 a2 t143) ≥ (Go.bits .and .u64 a3 t144)), 0)))))))))))))) = some (r1, r2) := H
    have A10 := Aside0.mk A100
    clear A100
    replace H := Option.bind_eq_some_iff.mp H
    obtain ⟨t144, A110, H⟩ := H
    replace H : ((ints_Signed.f a0 (Go.bits .and .u64 a2 t143)).bind fun t145 => ((ints_Signed.f a0 (Go.bits .and .u64 a3 t144)).bind fun t146 => (if a1 = 1 then (some (((Go.bits .and .u64 a2 t143) == (Go.bits .and .u64 a3 t144)), 0)) else (if a1 = 2 then (some (((Go.bits .and .u64 a2 t143) != (Go.bits .and .u64 a3 t144)), 0)) else (if a1 = 3 then (some (decide (t145 < t146), 0)) else (if a1 = 4 then (some (decide ((Go.bits .and .u64 a2 t143) < (Go.bits .and .u64 a3 t144)), 0)) else (if a1 = 5 then (some (decide (t145 > t146), 0)) else (if a1 = 6 then (some (decide ((Go.bits .and .u64 a2 t143) > (Go.bits .and .u64 a3 t144)), 0)) else (if a1 = 7 then (some (decide (t145 ≤ t146), 0)) else (if a1 = 8 then (some (decide ((Go.bits .and .u64 a2 t143) ≤ (Go.bits .and .u64 a3 t144)), 0)) else (if a1 = 9 then (some (decide (t145 ≥ t146), 0)) else (some (decide ((Go.bits .and .u64 a2 t143) ≥ (Go.bits .and .u64 a3 t144)), 0))))))))))))) = some (r1, r2) := H
    have A11 := Aside0.mk A110
    clear A110
    replace H := Option.bind_eq_some_iff.mp H
    obtain ⟨t145, A120, H⟩ := H
    replace H : ((ints_Signed.f a0 (Go.bits .and .u64 a3 t144)).bind fun t146 => (if a1 = 1 then (some (((Go.bits .and .u64 a2 t143) == (Go.bits .and .u64 a3 t144)), 0)) else (if a1 = 2 then (some (((Go.bits .and .u64 a2 t143) != (Go.bits .and .u64 a3 t144)), 0)) else (if a1 = 3 then (some (decide (t145 < t146), 0)) else (if a1 = 4 then (some (decide ((Go.bits .and .u64 a2 t143) < (Go.bits .and .u64 a3 t144)), 0)) else (if a1 = 5 then (some (decide (t145 > t146), 0)) else (if a1 = 6 then (some (decide ((Go.bits .and .u64 a2 t143) > (Go.bits .and .u64 a3 t144)), 0)) else (if a1 = 7 then (some (decide (t145 ≤ t146), 0)) else (if a1 = 8 then (some (decide ((Go.bits .and .u64 a2 t143) ≤ (Go.bits .and .u64 a3 t144)), 0)) else (if a1 = 9 then (some (decide (t145 ≥ t146), 0)) else (some (decide ((Go.bits .and .u64 a2 t143) ≥ (Go.bits .and .u64 a3 t144)), 0)))))))))))) = some (r1, r2) := H
    have A12 := Aside0.mk A120
    clear A120
    replace H := Option.bind_eq_some_iff.mp H
    obtain ⟨t146, A130, H⟩ := H
    replace H : (if a1 = 1 then (some (((Go.bits .and .u64 a2 t143) == (Go.bits .and .u64 a3 t144)), 0)) else (if a1 = 2 then (some (((Go.bits .and .u64 a2 t143) != (Go.bits .and .u64 a3 t144)), 0)) else (if a1 = 3 then (some (decide (t145 < t146), 0)) else (if a1 = 4 then (some (decide ((Go.bits .and .u64 a2 t143) < (Go.bits .and .u64 a3 t144)), 0)) else (if a1 = 5 then (some (decide (t145 > t146), 0)) else (if a1 = 6 then (some (decide ((Go.bits .and .u64 a2 t143) > (Go.bits .and .u64 a3 t144)), 0)) else (if a1 = 7 then (some (decide (t145 ≤ t146), 0)) else (if a1 = 8 then (some (decide ((Go.bits .and .u64 a2 t143) ≤ (Go.bits .and .u64 a3 t144)), 0)) else (if a1 = 9 then (some (decide (t145 ≥ t146), 0)) else (some (decide ((Go.bits .and .u64 a2 t143) ≥ (Go.bits .and .u64 a3 t144)), 0))))))))))) = some (r1, r2) := H
    have A13 := Aside0.mk A130
    clear A130
    by_cases c14 : a1 = 1
    ·rw [if_pos c14] at H
     have c14b0 : (a1 == 1) = true := beq_iff_eq.mpr c14
     have c14b1 : (a1 != 1) = false := bne_eq_false_iff_eq.mpr c14
     clear c14
     simp only [Option.some.injEq, Prod.mk.injEq] at H
     obtain ⟨rfl, rfl⟩ := H
     go_wp2_with (first | ((with_reducible refine gate_callee (f := 86) rfl ?_); refine goesL_ (some 25) rfl rfl Tryz.func86 (by kernel_rfl) rfl #[.int .i64 a0] rfl mp_ ?_; (with_reducible refine (ints_mask.calls a0 t143 _ A10.out).mono ?_); rintro e w' ⟨rfl, ⟨nd, rfl⟩⟩; refine ⟨_, rfl, ?_⟩) | ((with_reducible refine gate_callee (f := 86) rfl ?_); refine goesL_ (some 29) rfl rfl Tryz.func86 (by kernel_rfl) rfl #[.int .i64 a0] rfl mp_ ?_; (with_reducible refine (ints_mask.calls a0 t144 _ A11.out).mono ?_); rintro e w' ⟨rfl, ⟨nd, rfl⟩⟩; refine ⟨_, rfl, ?_⟩) | ((with_reducible refine gate_callee (f := 87) rfl ?_); refine goesL_ (some 33) rfl rfl Tryz.func87 (by kernel_rfl) rfl #[.int .i64 a0, .int .u64 (Go.bits .and .u64 a2 t143)] rfl mp_ ?_; (with_reducible refine (ints_Signed.calls a0 (Go.bits .and .u64 a2 t143) t145 _ A12.out).mono ?_); rintro e w' ⟨rfl, ⟨nd, rfl⟩⟩; refine ⟨_, rfl, ?_⟩) | ((with_reducible refine gate_callee (f := 87) rfl ?_); refine goesL_ (some 36) rfl rfl Tryz.func87 (by kernel_rfl) rfl #[.int .i64 a0, .int .u64 (Go.bits .and .u64 a3 t144)] rfl mp_ ?_; (with_reducible refine (ints_Signed.calls a0 (Go.bits .and .u64 a3 t144) t146 _ A13.out).mono ?_); rintro e w' ⟨rfl, ⟨nd, rfl⟩⟩; refine ⟨_, rfl, ?_⟩))
     go_ret2
     exact ⟨by first | rfl | (simp; done) | (simp [*]; done), by repeat (first | exact Drawn0.refl _ | apply Drawn0.step)⟩
    ·rw [if_neg c14] at H
     have c14b0 : (a1 == 1) = false := beq_eq_false_iff_ne.mpr c14
     have c14b1 : (a1 != 1) = true := bne_iff_ne.mpr c14
     by_cases c15 : a1 = 2
     ·rw [if_pos c15] at H
      have c15b0 : (a1 == 2) = true := beq_iff_eq.mpr c15
      have c15b1 : (a1 != 2) = false := bne_eq_false_iff_eq.mpr c15
      clear c15
      simp only [Option.some.injEq, Prod.mk.injEq] at H
      obtain ⟨rfl, rfl⟩ := H
      go_wp2_with (first | ((with_reducible refine gate_callee (f := 86) rfl ?_); refine goesL_ (some 25) rfl rfl Tryz.func86 (by kernel_rfl) rfl #[.int .i64 a0] rfl mp_ ?_; (with_reducible refine (ints_mask.calls a0 t143 _ A10.out).mono ?_); rintro e w' ⟨rfl, ⟨nd, rfl⟩⟩; refine ⟨_, rfl, ?_⟩) | ((with_reducible refine gate_callee (f := 86) rfl ?_); refine goesL_ (some 29) rfl rfl Tryz.func86 (by kernel_rfl) rfl #[.int .i64 a0] rfl mp_ ?_; (with_reducible refine (ints_mask.calls a0 t144 _ A11.out).mono ?_); rintro e w' ⟨rfl, ⟨nd, rfl⟩⟩; refine ⟨_, rfl, ?_⟩) | ((with_reducible refine gate_callee (f := 87) rfl ?_); refine goesL_ (some 33) rfl rfl Tryz.func87 (by kernel_rfl) rfl #[.int .i64 a0, .int .u64 (Go.bits .and .u64 a2 t143)] rfl mp_ ?_; (with_reducible refine (ints_Signed.calls a0 (Go.bits .and .u64 a2 t143) t145 _ A12.out).mono ?_); rintro e w' ⟨rfl, ⟨nd, rfl⟩⟩; refine ⟨_, rfl, ?_⟩) | ((with_reducible refine gate_callee (f := 87) rfl ?_); refine goesL_ (some 36) rfl rfl Tryz.func87 (by kernel_rfl) rfl #[.int .i64 a0, .int .u64 (Go.bits .and .u64 a3 t144)] rfl mp_ ?_; (with_reducible refine (ints_Signed.calls a0 (Go.bits .and .u64 a3 t144) t146 _ A13.out).mono ?_); rintro e w' ⟨rfl, ⟨nd, rfl⟩⟩; refine ⟨_, rfl, ?_⟩))
      go_ret2
      exact ⟨by first | rfl | (simp; done) | (simp [*]; done), by repeat (first | exact Drawn0.refl _ | apply Drawn0.step)⟩
     ·rw [if_neg c15] at H
      have c15b0 : (a1 == 2) = false := beq_eq_false_iff_ne.mpr c15
      have c15b1 : (a1 != 2) = true := bne_iff_ne.mpr c15
      by_cases c16 : a1 = 3
      ·rw [if_pos c16] at H
       have c16b0 : (a1 == 3) = true := beq_iff_eq.mpr c16
       have c16b1 : (a1 != 3) = false := bne_eq_false_iff_eq.mpr c16
       clear c16
       simp only [Option.some.injEq, Prod.mk.injEq] at H
       obtain ⟨rfl, rfl⟩ := H
       go_wp2_with (first | ((with_reducible refine gate_callee (f := 86) rfl ?_); refine goesL_ (some 25) rfl rfl Tryz.func86 (by kernel_rfl) rfl #[.int .i64 a0] rfl mp_ ?_; (with_reducible refine (ints_mask.calls a0 t143 _ A10.out).mono ?_); rintro e w' ⟨rfl, ⟨nd, rfl⟩⟩; refine ⟨_, rfl, ?_⟩) | ((with_reducible refine gate_callee (f := 86) rfl ?_); refine goesL_ (some 29) rfl rfl Tryz.func86 (by kernel_rfl) rfl #[.int .i64 a0] rfl mp_ ?_; (with_reducible refine (ints_mask.calls a0 t144 _ A11.out).mono ?_); rintro e w' ⟨rfl, ⟨nd, rfl⟩⟩; refine ⟨_, rfl, ?_⟩) | ((with_reducible refine gate_callee (f := 87) rfl ?_); refine goesL_ (some 33) rfl rfl Tryz.func87 (by kernel_rfl) rfl #[.int .i64 a0, .int .u64 (Go.bits .and .u64 a2 t143)] rfl mp_ ?_; (with_reducible refine (ints_Signed.calls a0 (Go.bits .and .u64 a2 t143) t145 _ A12.out).mono ?_); rintro e w' ⟨rfl, ⟨nd, rfl⟩⟩; refine ⟨_, rfl, ?_⟩) | ((with_reducible refine gate_callee (f := 87) rfl ?_); refine goesL_ (some 36) rfl rfl Tryz.func87 (by kernel_rfl) rfl #[.int .i64 a0, .int .u64 (Go.bits .and .u64 a3 t144)] rfl mp_ ?_; (with_reducible refine (ints_Signed.calls a0 (Go.bits .and .u64 a3 t144) t146 _ A13.out).mono ?_); rintro e w' ⟨rfl, ⟨nd, rfl⟩⟩; refine ⟨_, rfl, ?_⟩))
       go_ret2
       exact ⟨by first | rfl | (simp; done) | (simp [*]; done), by repeat (first | exact Drawn0.refl _ | apply Drawn0.step)⟩
      ·rw [if_neg c16] at H
       have c16b0 : (a1 == 3) = false := beq_eq_false_iff_ne.mpr c16
       have c16b1 : (a1 != 3) = true := bne_iff_ne.mpr c16
       by_cases c17 : a1 = 4
       ·rw [if_pos c17] at H
        have c17b0 : (a1 == 4) = true := beq_iff_eq.mpr c17
        have c17b1 : (a1 != 4) = false := bne_eq_false_iff_eq.mpr c17
        clear c17
        simp only [Option.some.injEq, Prod.mk.injEq] at H
        obtain ⟨rfl, rfl⟩ := H
        go_wp2_with (first | ((with_reducible refine gate_callee (f := 86) rfl ?_); refine goesL_ (some 25) rfl rfl Tryz.func86 (by kernel_rfl) rfl #[.int .i64 a0] rfl mp_ ?_; (with_reducible refine (ints_mask.calls a0 t143 _ A10.out).mono ?_); rintro e w' ⟨rfl, ⟨nd, rfl⟩⟩; refine ⟨_, rfl, ?_⟩) | ((with_reducible refine gate_callee (f := 86) rfl ?_); refine goesL_ (some 29) rfl rfl Tryz.func86 (by kernel_rfl) rfl #[.int .i64 a0] rfl mp_ ?_; (with_reducible refine (ints_mask.calls a0 t144 _ A11.out).mono ?_); rintro e w' ⟨rfl, ⟨nd, rfl⟩⟩; refine ⟨_, rfl, ?_⟩) | ((with_reducible refine gate_callee (f := 87) rfl ?_); refine goesL_ (some 33) rfl rfl Tryz.func87 (by kernel_rfl) rfl #[.int .i64 a0, .int .u64 (Go.bits .and .u64 a2 t143)] rfl mp_ ?_; (with_reducible refine (ints_Signed.calls a0 (Go.bits .and .u64 a2 t143) t145 _ A12.out).mono ?_); rintro e w' ⟨rfl, ⟨nd, rfl⟩⟩; refine ⟨_, rfl, ?_⟩) | ((with_reducible refine gate_callee (f := 87) rfl ?_); refine goesL_ (some 36) rfl rfl Tryz.func87 (by kernel_rfl) rfl #[.int .i64 a0, .int .u64 (Go.bits .and .u64 a3 t144)] rfl mp_ ?_; (with_reducible refine (ints_Signed.calls a0 (Go.bits .and .u64 a3 t144) t146 _ A13.out).mono ?_); rintro e w' ⟨rfl, ⟨nd, rfl⟩⟩; refine ⟨_, rfl, ?_⟩))
        go_ret2
        exact ⟨by first | rfl | (simp; done) | (simp [*]; done), by repeat (first | exact Drawn0.refl _ | apply Drawn0.step)⟩
       ·rw [if_neg c17] at H
        have c17b0 : (a1 == 4) = false := beq_eq_false_iff_ne.mpr c17
        have c17b1 : (a1 != 4) = true := bne_iff_ne.mpr c17
        by_cases c18 : a1 = 5
        ·rw [if_pos c18] at H
         have c18b0 : (a1 == 5) = true := beq_iff_eq.mpr c18
         have c18b1 : (a1 != 5) = false := bne_eq_false_iff_eq.mpr c18
         clear c18
         simp only [Option.some.injEq, Prod.mk.injEq] at H
         obtain ⟨rfl, rfl⟩ := H
         go_wp2_with (first | ((with_reducible refine gate_callee (f := 86) rfl ?_); refine goesL_ (some 25) rfl rfl Tryz.func86 (by kernel_rfl) rfl #[.int .i64 a0] rfl mp_ ?_; (with_reducible refine (ints_mask.calls a0 t143 _ A10.out).mono ?_); rintro e w' ⟨rfl, ⟨nd, rfl⟩⟩; refine ⟨_, rfl, ?_⟩) | ((with_reducible refine gate_callee (f := 86) rfl ?_); refine goesL_ (some 29) rfl rfl Tryz.func86 (by kernel_rfl) rfl #[.int .i64 a0] rfl mp_ ?_; (with_reducible refine (ints_mask.calls a0 t144 _ A11.out).mono ?_); rintro e w' ⟨rfl, ⟨nd, rfl⟩⟩; refine ⟨_, rfl, ?_⟩) | ((with_reducible refine gate_callee (f := 87) rfl ?_); refine goesL_ (some 33) rfl rfl Tryz.func87 (by kernel_rfl) rfl #[.int .i64 a0, .int .u64 (Go.bits .and .u64 a2 t143)] rfl mp_ ?_; (with_reducible refine (ints_Signed.calls a0 (Go.bits .and .u64 a2 t143) t145 _ A12.out).mono ?_); rintro e w' ⟨rfl, ⟨nd, rfl⟩⟩; refine ⟨_, rfl, ?_⟩) | ((with_reducible refine gate_callee (f := 87) rfl ?_); refine goesL_ (some 36) rfl rfl Tryz.func87 (by kernel_rfl) rfl #[.int .i64 a0, .int .u64 (Go.bits .and .u64 a3 t144)] rfl mp_ ?_; (with_reducible refine (ints_Signed.calls a0 (Go.bits .and .u64 a3 t144) t146 _ A13.out).mono ?_); rintro e w' ⟨rfl, ⟨nd, rfl⟩⟩; refine ⟨_, rfl, ?_⟩))
         go_ret2
         exact ⟨by first | rfl | (simp; done) | (simp [*]; done), by repeat (first | exact Drawn0.refl _ | apply Drawn0.step)⟩
        ·rw [if_neg c18] at H
         have c18b0 : (a1 == 5) = false := beq_eq_false_iff_ne.mpr c18
         have c18b1 : (a1 != 5) = true := bne_iff_ne.mpr c18
         by_cases c19 : a1 = 6
         ·rw [if_pos c19] at H
          have c19b0 : (a1 == 6) = true := beq_iff_eq.mpr c19
          have c19b1 : (a1 != 6) = false := bne_eq_false_iff_eq.mpr c19
          clear c19
          simp only [Option.some.injEq, Prod.mk.injEq] at H
          obtain ⟨rfl, rfl⟩ := H
          go_wp2_with (first | ((with_reducible refine gate_callee (f := 86) rfl ?_); refine goesL_ (some 25) rfl rfl Tryz.func86 (by kernel_rfl) rfl #[.int .i64 a0] rfl mp_ ?_; (with_reducible refine (ints_mask.calls a0 t143 _ A10.out).mono ?_); rintro e w' ⟨rfl, ⟨nd, rfl⟩⟩; refine ⟨_, rfl, ?_⟩) | ((with_reducible refine gate_callee (f := 86) rfl ?_); refine goesL_ (some 29) rfl rfl Tryz.func86 (by kernel_rfl) rfl #[.int .i64 a0] rfl mp_ ?_; (with_reducible refine (ints_mask.calls a0 t144 _ A11.out).mono ?_); rintro e w' ⟨rfl, ⟨nd, rfl⟩⟩; refine ⟨_, rfl, ?_⟩) | ((with_reducible refine gate_callee (f := 87) rfl ?_); refine goesL_ (some 33) rfl rfl Tryz.func87 (by kernel_rfl) rfl #[.int .i64 a0, .int .u64 (Go.bits .and .u64 a2 t143)] rfl mp_ ?_; (with_reducible refine (ints_Signed.calls a0 (Go.bits .and .u64 a2 t143) t145 _ A12.out).mono ?_); rintro e w' ⟨rfl, ⟨nd, rfl⟩⟩; refine ⟨_, rfl, ?_⟩) | ((with_reducible refine gate_callee (f := 87) rfl ?_); refine goesL_ (some 36) rfl rfl Tryz.func87 (by kernel_rfl) rfl #[.int .i64 a0, .int .u64 (Go.bits .and .u64 a3 t144)] rfl mp_ ?_; (with_reducible refine (ints_Signed.calls a0 (Go.bits .and .u64 a3 t144) t146 _ A13.out).mono ?_); rintro e w' ⟨rfl, ⟨nd, rfl⟩⟩; refine ⟨_, rfl, ?_⟩))
          go_ret2
          exact ⟨by first | rfl | (simp; done) | (simp [*]; done), by repeat (first | exact Drawn0.refl _ | apply Drawn0.step)⟩
         ·rw [if_neg c19] at H
          have c19b0 : (a1 == 6) = false := beq_eq_false_iff_ne.mpr c19
          have c19b1 : (a1 != 6) = true := bne_iff_ne.mpr c19
          by_cases c20 : a1 = 7
          ·rw [if_pos c20] at H
           have c20b0 : (a1 == 7) = true := beq_iff_eq.mpr c20
           have c20b1 : (a1 != 7) = false := bne_eq_false_iff_eq.mpr c20
           clear c20
           simp only [Option.some.injEq, Prod.mk.injEq] at H
           obtain ⟨rfl, rfl⟩ := H
           go_wp2_with (first | ((with_reducible refine gate_callee (f := 86) rfl ?_); refine goesL_ (some 25) rfl rfl Tryz.func86 (by kernel_rfl) rfl #[.int .i64 a0] rfl mp_ ?_; (with_reducible refine (ints_mask.calls a0 t143 _ A10.out).mono ?_); rintro e w' ⟨rfl, ⟨nd, rfl⟩⟩; refine ⟨_, rfl, ?_⟩) | ((with_reducible refine gate_callee (f := 86) rfl ?_); refine goesL_ (some 29) rfl rfl Tryz.func86 (by kernel_rfl) rfl #[.int .i64 a0] rfl mp_ ?_; (with_reducible refine (ints_mask.calls a0 t144 _ A11.out).mono ?_); rintro e w' ⟨rfl, ⟨nd, rfl⟩⟩; refine ⟨_, rfl, ?_⟩) | ((with_reducible refine gate_callee (f := 87) rfl ?_); refine goesL_ (some 33) rfl rfl Tryz.func87 (by kernel_rfl) rfl #[.int .i64 a0, .int .u64 (Go.bits .and .u64 a2 t143)] rfl mp_ ?_; (with_reducible refine (ints_Signed.calls a0 (Go.bits .and .u64 a2 t143) t145 _ A12.out).mono ?_); rintro e w' ⟨rfl, ⟨nd, rfl⟩⟩; refine ⟨_, rfl, ?_⟩) | ((with_reducible refine gate_callee (f := 87) rfl ?_); refine goesL_ (some 36) rfl rfl Tryz.func87 (by kernel_rfl) rfl #[.int .i64 a0, .int .u64 (Go.bits .and .u64 a3 t144)] rfl mp_ ?_; (with_reducible refine (ints_Signed.calls a0 (Go.bits .and .u64 a3 t144) t146 _ A13.out).mono ?_); rintro e w' ⟨rfl, ⟨nd, rfl⟩⟩; refine ⟨_, rfl, ?_⟩))
           go_ret2
           exact ⟨by first | rfl | (simp; done) | (simp [*]; done), by repeat (first | exact Drawn0.refl _ | apply Drawn0.step)⟩
          ·rw [if_neg c20] at H
           have c20b0 : (a1 == 7) = false := beq_eq_false_iff_ne.mpr c20
           have c20b1 : (a1 != 7) = true := bne_iff_ne.mpr c20
           by_cases c21 : a1 = 8
           ·rw [if_pos c21] at H
            have c21b0 : (a1 == 8) = true := beq_iff_eq.mpr c21
            have c21b1 : (a1 != 8) = false := bne_eq_false_iff_eq.mpr c21
            clear c21
            simp only [Option.some.injEq, Prod.mk.injEq] at H
            obtain ⟨rfl, rfl⟩ := H
            go_wp2_with (first | ((with_reducible refine gate_callee (f := 86) rfl ?_); refine goesL_ (some 25) rfl rfl Tryz.func86 (by kernel_rfl) rfl #[.int .i64 a0] rfl mp_ ?_; (with_reducible refine (ints_mask.calls a0 t143 _ A10.out).mono ?_); rintro e w' ⟨rfl, ⟨nd, rfl⟩⟩; refine ⟨_, rfl, ?_⟩) | ((with_reducible refine gate_callee (f := 86) rfl ?_); refine goesL_ (some 29) rfl rfl Tryz.func86 (by kernel_rfl) rfl #[.int .i64 a0] rfl mp_ ?_; (with_reducible refine (ints_mask.calls a0 t144 _ A11.out).mono ?_); rintro e w' ⟨rfl, ⟨nd, rfl⟩⟩; refine ⟨_, rfl, ?_⟩) | ((with_reducible refine gate_callee (f := 87) rfl ?_); refine goesL_ (some 33) rfl rfl Tryz.func87 (by kernel_rfl) rfl #[.int .i64 a0, .int .u64 (Go.bits .and .u64 a2 t143)] rfl mp_ ?_; (with_reducible refine (ints_Signed.calls a0 (Go.bits .and .u64 a2 t143) t145 _ A12.out).mono ?_); rintro e w' ⟨rfl, ⟨nd, rfl⟩⟩; refine ⟨_, rfl, ?_⟩) | ((with_reducible refine gate_callee (f := 87) rfl ?_); refine goesL_ (some 36) rfl rfl Tryz.func87 (by kernel_rfl) rfl #[.int .i64 a0, .int .u64 (Go.bits .and .u64 a3 t144)] rfl mp_ ?_; (with_reducible refine (ints_Signed.calls a0 (Go.bits .and .u64 a3 t144) t146 _ A13.out).mono ?_); rintro e w' ⟨rfl, ⟨nd, rfl⟩⟩; refine ⟨_, rfl, ?_⟩))
            go_ret2
            exact ⟨by first | rfl | (simp; done) | (simp [*]; done), by repeat (first | exact Drawn0.refl _ | apply Drawn0.step)⟩
           ·rw [if_neg c21] at H
            have c21b0 : (a1 == 8) = false := beq_eq_false_iff_ne.mpr c21
            have c21b1 : (a1 != 8) = true := bne_iff_ne.mpr c21
            by_cases c22 : a1 = 9
            ·rw [if_pos c22] at H
             have c22b0 : (a1 == 9) = true := beq_iff_eq.mpr c22
             have c22b1 : (a1 != 9) = false := bne_eq_false_iff_eq.mpr c22
             clear c22
             simp only [Option.some.injEq, Prod.mk.injEq] at H
             obtain ⟨rfl, rfl⟩ := H
             go_wp2_with (first | ((with_reducible refine gate_callee (f := 86) rfl ?_); refine goesL_ (some 25) rfl rfl Tryz.func86 (by kernel_rfl) rfl #[.int .i64 a0] rfl mp_ ?_; (with_reducible refine (ints_mask.calls a0 t143 _ A10.out).mono ?_); rintro e w' ⟨rfl, ⟨nd, rfl⟩⟩; refine ⟨_, rfl, ?_⟩) | ((with_reducible refine gate_callee (f := 86) rfl ?_); refine goesL_ (some 29) rfl rfl Tryz.func86 (by kernel_rfl) rfl #[.int .i64 a0] rfl mp_ ?_; (with_reducible refine (ints_mask.calls a0 t144 _ A11.out).mono ?_); rintro e w' ⟨rfl, ⟨nd, rfl⟩⟩; refine ⟨_, rfl, ?_⟩) | ((with_reducible refine gate_callee (f := 87) rfl ?_); refine goesL_ (some 33) rfl rfl Tryz.func87 (by kernel_rfl) rfl #[.int .i64 a0, .int .u64 (Go.bits .and .u64 a2 t143)] rfl mp_ ?_; (with_reducible refine (ints_Signed.calls a0 (Go.bits .and .u64 a2 t143) t145 _ A12.out).mono ?_); rintro e w' ⟨rfl, ⟨nd, rfl⟩⟩; refine ⟨_, rfl, ?_⟩) | ((with_reducible refine gate_callee (f := 87) rfl ?_); refine goesL_ (some 36) rfl rfl Tryz.func87 (by kernel_rfl) rfl #[.int .i64 a0, .int .u64 (Go.bits .and .u64 a3 t144)] rfl mp_ ?_; (with_reducible refine (ints_Signed.calls a0 (Go.bits .and .u64 a3 t144) t146 _ A13.out).mono ?_); rintro e w' ⟨rfl, ⟨nd, rfl⟩⟩; refine ⟨_, rfl, ?_⟩))
             go_ret2
             exact ⟨by first | rfl | (simp; done) | (simp [*]; done), by repeat (first | exact Drawn0.refl _ | apply Drawn0.step)⟩
            ·rw [if_neg c22] at H
             have c22b0 : (a1 == 9) = false := beq_eq_false_iff_ne.mpr c22
             have c22b1 : (a1 != 9) = true := bne_iff_ne.mpr c22
             simp only [Option.some.injEq, Prod.mk.injEq] at H
             obtain ⟨rfl, rfl⟩ := H
             go_wp2_with (first | ((with_reducible refine gate_callee (f := 86) rfl ?_); refine goesL_ (some 25) rfl rfl Tryz.func86 (by kernel_rfl) rfl #[.int .i64 a0] rfl mp_ ?_; (with_reducible refine (ints_mask.calls a0 t143 _ A10.out).mono ?_); rintro e w' ⟨rfl, ⟨nd, rfl⟩⟩; refine ⟨_, rfl, ?_⟩) | ((with_reducible refine gate_callee (f := 86) rfl ?_); refine goesL_ (some 29) rfl rfl Tryz.func86 (by kernel_rfl) rfl #[.int .i64 a0] rfl mp_ ?_; (with_reducible refine (ints_mask.calls a0 t144 _ A11.out).mono ?_); rintro e w' ⟨rfl, ⟨nd, rfl⟩⟩; refine ⟨_, rfl, ?_⟩) | ((with_reducible refine gate_callee (f := 87) rfl ?_); refine goesL_ (some 33) rfl rfl Tryz.func87 (by kernel_rfl) rfl #[.int .i64 a0, .int .u64 (Go.bits .and .u64 a2 t143)] rfl mp_ ?_; (with_reducible refine (ints_Signed.calls a0 (Go.bits .and .u64 a2 t143) t145 _ A12.out).mono ?_); rintro e w' ⟨rfl, ⟨nd, rfl⟩⟩; refine ⟨_, rfl, ?_⟩) | ((with_reducible refine gate_callee (f := 87) rfl ?_); refine goesL_ (some 36) rfl rfl Tryz.func87 (by kernel_rfl) rfl #[.int .i64 a0, .int .u64 (Go.bits .and .u64 a3 t144)] rfl mp_ ?_; (with_reducible refine (ints_Signed.calls a0 (Go.bits .and .u64 a3 t144) t146 _ A13.out).mono ?_); rintro e w' ⟨rfl, ⟨nd, rfl⟩⟩; refine ⟨_, rfl, ?_⟩))
             go_ret2
             exact ⟨by first | rfl | (simp; done) | (simp [*]; done), by repeat (first | exact Drawn0.refl _ | apply Drawn0.step)⟩
end Go.Proofs.YtkhhhceeoljheaaGreatDoor.PSta

import Derived.Test.YtkhhhceeoljheaaGreatDoorHxPHelx7
namespace Go.Proofs.YtkhhhceeoljheaaGreatDoor.PHel
open Go.RowKit Go.Proofs.YtkhhhceeoljheaaGreatDoorW.PrintWords Go.Proofs.YtkhhhceeoljheaaGreatDoorW.PrintLast Go.Proofs.YtkhhhceeoljheaaGreatDoorW.PrintMore
attribute [local go_sem] max2_int min2_int max_two min_two max_three min_three max_four min_four   
set_option linter.unusedVariables false
set_option linter.unusedSimpArgs false
mutual
def conv_Trunc.j0 : Nat → Int → Int → Bool → Bool → Int → Bool → Option (Int × Int)
 | 0, _, _, _, _, _, _ => none
 | k + 1, x0, x1, x2, x3, x4, x26 => if x26 = true then (some (0, 1)) else ((floats_Kind.f x0 x4).bind fun t167 => (if t167 = 4 then (conv_Trunc.j1 k x0 x3 x4 t167 x3 x1 x2) else (conv_Trunc.j1 k x0 x3 x4 t167 false x1 x2)))
def conv_Trunc.j1 : Nat → Int → Bool → Int → Int → Bool → Int → Bool → Option (Int × Int)
 | 0, _, _, _, _, _, _, _ => none
 | k + 1, x0, x3, x4, x13, x33, x167000, x167001 => if x33 = true then (some (0, 0)) else (if x13 = 4 then (some (0, 43)) else (if x13 = 3 then (if 0 ≤ (IntKind.u64.wrap (wrap64 (x0 - 1))) then ((conv_kind_over.f k x167000 x167001 x3 ((Go.bits .and .u64 (shr .u64 x4 (IntKind.u64.wrap (wrap64 (x0 - 1)))) 1) == 1)).bind fun bt168 => (some (bt168.1, bt168.2))) else (none)) else ((floats_Parts.f k x0 x4).bind fun bt170 => (if bt170.2.2.1 ≤ (-64) then (conv_Trunc.j2 k x3 bt170.1 0 x167000 x167001) else (if bt170.2.2.1 < 0 then (if 0 ≤ (IntKind.u64.wrap (wrap64 (-bt170.2.2.1))) then (conv_Trunc.j2 k x3 bt170.1 (shr .u64 bt170.2.1 (IntKind.u64.wrap (wrap64 (-bt170.2.2.1)))) x167000 x167001) else (none)) else ((bits_Len64.f bt170.2.1).bind fun t174 => (if (wrap64 (t174 + bt170.2.2.1)) > 64 then ((conv_kind_over.f k x167000 x167001 x3 bt170.1).bind fun bt175 => (some (bt175.1, bt175.2))) else (if 0 ≤ (IntKind.u64.wrap (bt170.2.2.1)) then (conv_Trunc.j2 k x3 bt170.1 (shl .u64 bt170.2.1 (IntKind.u64.wrap (bt170.2.2.1))) x167000 x167001) else (none)))))))))
def conv_Trunc.j2 : Nat → Bool → Bool → Int → Int → Bool → Option (Int × Int)
 | 0, _, _, _, _, _ => none
 | k + 1, x3, x15, x16, x167000, x167001 => (conv_kind_most.f k x167000 x167001 x15).bind fun t177 => (if x16 > t177 then ((conv_kind_over.f k x167000 x167001 x3 x15).bind fun bt178 => (some (bt178.1, bt178.2))) else ((conv_kind_cut.f x167000 x167001 x15 x16).bind fun t180 => (some (t180, 0))))
end
def conv_Trunc.f (k : Nat) (a0 : Int) (a1 : Int) (a2 : Bool) (a3 : Bool) (a4 : Int) : Option (Int × Int) := (conv_right.f a0).bind fun t164 => (if t164 = true then ((conv_right.f a1).bind fun t165 => (conv_Trunc.j0 k a0 a1 a2 a3 a4 (!t165))) else (conv_Trunc.j0 k a0 a1 a2 a3 a4 true))
theorem conv_Trunc.mono_l : ∀ k, (∀ y0 y1 y2 y3 y4 y5, LeO (conv_Trunc.j0 k y0 y1 y2 y3 y4 y5) (conv_Trunc.j0 (k + 1) y0 y1 y2 y3 y4 y5)) ∧ (∀ y0 y1 y2 y3 y4 y5 y6, LeO (conv_Trunc.j1 k y0 y1 y2 y3 y4 y5 y6) (conv_Trunc.j1 (k + 1) y0 y1 y2 y3 y4 y5 y6)) ∧ (∀ y0 y1 y2 y3 y4, LeO (conv_Trunc.j2 k y0 y1 y2 y3 y4) (conv_Trunc.j2 (k + 1) y0 y1 y2 y3 y4))
 | 0 => ⟨fun _ _ _ _ _ _ r h => by simp [conv_Trunc.j0] at h, fun _ _ _ _ _ _ _ r h => by simp [conv_Trunc.j1] at h, fun _ _ _ _ _ r h => by simp [conv_Trunc.j2] at h⟩
 | k + 1 => by
  obtain ⟨ih0, ih1, ih2⟩ := conv_Trunc.mono_l k
  refine ⟨?_, ?_, ?_⟩
  ·intro y0 y1 y2 y3 y4 y5
   unfold conv_Trunc.j0
   repeat' first
   | (with_reducible exact ih0 _ _ _ _ _ _)
   | (with_reducible exact ih1 _ _ _ _ _ _ _)
   | (with_reducible exact ih2 _ _ _ _ _)
   | (with_reducible exact conv_kind_most.mono _ _ _ _)
   | (with_reducible exact conv_kind_over.mono _ _ _ _ _)
   | (with_reducible exact floats_Parts.mono _ _ _)
   | (with_reducible exact LeO.refl _)
   | (with_reducible exact LeO.none _)
   | (with_reducible refine LeO.ite ?_ ?_)
   | (with_reducible refine LeO.bind ?_ (fun _ => ?_))
   | exact ih0 _ _ _ _ _ _
   | exact ih1 _ _ _ _ _ _ _
   | exact ih2 _ _ _ _ _
   | exact conv_kind_most.mono _ _ _ _
   | exact conv_kind_over.mono _ _ _ _ _
   | exact floats_Parts.mono _ _ _
   | exact LeO.none _
   | refine LeO.ite ?_ ?_
   | refine LeO.bind ?_ (fun _ => ?_)
  ·intro y0 y1 y2 y3 y4 y5 y6
   unfold conv_Trunc.j1
   repeat' first
   | (with_reducible exact ih0 _ _ _ _ _ _)
   | (with_reducible exact ih1 _ _ _ _ _ _ _)
   | (with_reducible exact ih2 _ _ _ _ _)
   | (with_reducible exact conv_kind_most.mono _ _ _ _)
   | (with_reducible exact conv_kind_over.mono _ _ _ _ _)
   | (with_reducible exact floats_Parts.mono _ _ _)
   | (with_reducible exact LeO.refl _)
   | (with_reducible exact LeO.none _)
   | (with_reducible refine LeO.ite ?_ ?_)
   | (with_reducible refine LeO.bind ?_ (fun _ => ?_))
   | exact ih0 _ _ _ _ _ _
   | exact ih1 _ _ _ _ _ _ _
   | exact ih2 _ _ _ _ _
   | exact conv_kind_most.mono _ _ _ _
   | exact conv_kind_over.mono _ _ _ _ _
   | exact floats_Parts.mono _ _ _
   | exact LeO.none _
   | refine LeO.ite ?_ ?_
   | refine LeO.bind ?_ (fun _ => ?_)
  ·intro y0 y1 y2 y3 y4
   unfold conv_Trunc.j2
   repeat' first
   | (with_reducible exact ih0 _ _ _ _ _ _)
   | (with_reducible exact ih1 _ _ _ _ _ _ _)
   | (with_reducible exact ih2 _ _ _ _ _)
   | (with_reducible exact conv_kind_most.mono _ _ _ _)
   | (with_reducible exact conv_kind_over.mono _ _ _ _ _)
   | (with_reducible exact floats_Parts.mono _ _ _)
   | (with_reducible exact LeO.refl _)
   | (with_reducible exact LeO.none _)
   | (with_reducible refine LeO.ite ?_ ?_)
   | (with_reducible refine LeO.bind ?_ (fun _ => ?_))
   | exact ih0 _ _ _ _ _ _
   | exact ih1 _ _ _ _ _ _ _
   | exact ih2 _ _ _ _ _
   | exact conv_kind_most.mono _ _ _ _
   | exact conv_kind_over.mono _ _ _ _ _
   | exact floats_Parts.mono _ _ _
   | exact LeO.none _
   | refine LeO.ite ?_ ?_
   | refine LeO.bind ?_ (fun _ => ?_)
theorem conv_Trunc.mono : ∀ a0 a1 a2 a3 a4 k, LeO (conv_Trunc.f k a0 a1 a2 a3 a4) (conv_Trunc.f (k + 1) a0 a1 a2 a3 a4) := by
 intro a0 a1 a2 a3 a4 k
 obtain ⟨ih0, ih1, ih2⟩ := conv_Trunc.mono_l k
 unfold conv_Trunc.f
 repeat' first
   | (with_reducible exact ih0 _ _ _ _ _ _)
   | (with_reducible exact ih1 _ _ _ _ _ _ _)
   | (with_reducible exact ih2 _ _ _ _ _)
   | (with_reducible exact conv_kind_most.mono _ _ _ _)
   | (with_reducible exact conv_kind_over.mono _ _ _ _ _)
   | (with_reducible exact floats_Parts.mono _ _ _)
   | (with_reducible exact LeO.refl _)
   | (with_reducible exact LeO.none _)
   | (with_reducible refine LeO.ite ?_ ?_)
   | (with_reducible refine LeO.bind ?_ (fun _ => ?_))
   | exact ih0 _ _ _ _ _ _
   | exact ih1 _ _ _ _ _ _ _
   | exact ih2 _ _ _ _ _
   | exact conv_kind_most.mono _ _ _ _
   | exact conv_kind_over.mono _ _ _ _ _
   | exact floats_Parts.mono _ _ _
   | exact LeO.none _
   | refine LeO.ite ?_ ?_
   | refine LeO.bind ?_ (fun _ => ?_)
set_option maxHeartbeats 8000000 in
set_option maxRecDepth 100000 in
theorem conv_Trunc.calls (k : Nat) (a0 : Int) (a1 : Int) (a2 : Bool) (a3 : Bool) (a4 : Int) (r1 : Int) (r2 : Int) (w : World) (h : conv_Trunc.f k a0 a1 a2 a3 a4 = some (r1, r2)) (hG : GD w := by first | assumption | exact GD.below (by assumption) (by repeat (first | exact Aside0.out (by assumption) | exact Below.refl _ _ | assumption | apply below_alloc | apply pw_below_drewN | apply below_drew1 | refine below_set ?_ (Aside0.out (by assumption))))) :
  Calls Tryz.prog 52 #[.int .i64 a0, .int .i64 a1, .bool a2, .bool a3, .int .u64 a4] w fun e w' => e = .returned (.tuple #[.int .u64 r1, .int .i64 r2]) ∧ Below w.heap.size w w' := by
 have hu106 := Tryz.underlying106
 have HB := Aside0.mk (Below.refl w.heap.size w)
 have H : ((conv_right.f a0).bind fun t164 => (if t164 = true then ((conv_right.f a1).bind fun t165 => (conv_Trunc.j0 k a0 a1 a2 a3 a4 (!t165))) else (conv_Trunc.j0 k a0 a1 a2 a3 a4 true))) = some (r1, r2) := h
 clear h
 have HC6 := Aside0.mk H
 clear H
 go_enter Tryz.func52, Tryz.ntmps52
 go_upto_region 1 with (fail)
 go_cut [26] (fun v26 wc => ∃ (kq : Nat) (x26_5 : Bool), v26 = .bool x26_5 ∧ Aside0 (conv_Trunc.j0 kq a0 a1 a2 a3 a4 x26_5 = some (r1, r2)) ∧ Aside0 (kq ≤ k) ∧ Aside0 (Below w.heap.size w wc))
 case first =>
  have H := HC6.out
  clear HC6
  replace H := Option.bind_eq_some_iff.mp H
  obtain ⟨t164, A70, H⟩ := H
  replace H : (if t164 = true then ((conv_right.f a1).bind fun t165 => (conv_Trunc.j0 k a0 a1 a2 a3 a4 (!t165))) else (conv_Trunc.j0 k a0 a1 a2 a3 a4 true)) = some (r1, r2) := H
  have A7 := Aside0.mk A70
  clear A70
  by_cases c8 : t164 = true
  ·subst c8
   have H1 : ((conv_right.f a1).bind fun t165 => (conv_Trunc.j0 k a0 a1 a2 a3 a4 (!t165))) = some (r1, r2) := by rw [if_pos rfl] at H; exact H
   clear H
   have H := H1
   clear H1
   replace H := Option.bind_eq_some_iff.mp H
   obtain ⟨t165, A90, H⟩ := H
   replace H : (conv_Trunc.j0 k a0 a1 a2 a3 a4 (!t165)) = some (r1, r2) := H
   have A9 := Aside0.mk A90
   clear A90
   have H' := Aside0.mk H
   clear H
   go_wp2_with (first | ((with_reducible refine gate_callee (f := 110) rfl ?_); refine goesL_ (some 20) rfl rfl Tryz.func110 (by kernel_rfl) rfl #[.int .i64 a0] rfl mp_ ?_; (with_reducible refine (conv_right.calls a0 true _ A7.out).mono ?_); rintro e w' ⟨rfl, ⟨nd, rfl⟩⟩; refine ⟨_, rfl, ?_⟩) | (go_at_call 110; (with_reducible refine (conv_right.calls a1 t165 _ A9.out).mono ?_); rintro e w' ⟨rfl, ⟨nd, rfl⟩⟩))
   go_meet
   case rel => exact ⟨_, (!t165), rs_, H', ⟨by first | omega | exact Nat.le_refl _⟩, ⟨bl_⟩⟩
  ·replace c8 := Bool.eq_false_iff.mpr c8
   subst c8
   have H1 : (conv_Trunc.j0 k a0 a1 a2 a3 a4 true) = some (r1, r2) := by rw [if_neg (show ¬ (false = true) by decide)] at H; exact H
   clear H
   have H := H1
   clear H1
   have H' := Aside0.mk H
   clear H
   go_wp2_with (first | ((with_reducible refine gate_callee (f := 110) rfl ?_); refine goesL_ (some 20) rfl rfl Tryz.func110 (by kernel_rfl) rfl #[.int .i64 a0] rfl mp_ ?_; (with_reducible refine (conv_right.calls a0 false _ A7.out).mono ?_); rintro e w' ⟨rfl, ⟨nd, rfl⟩⟩; refine ⟨_, rfl, ?_⟩))
   go_meet
   case rel => exact ⟨_, (true), rs_, H', ⟨by first | omega | exact Nat.le_refl _⟩, ⟨bl_⟩⟩
 case rest =>
  clear HC6
  (try clear c1); (try clear p2); (try clear c5); (try clear c8)
  obtain ⟨kq, x26_5, rfl, HA, HJ5, HB⟩ := hcut
  cases kq with
  | zero => exact absurd HA.out (by simp [conv_Trunc.j0])
  | succ kj5 =>
   have H := HA.out
   clear HA
   simp only [conv_Trunc.j0] at H
   by_cases c10 : x26_5 = true
   ·subst c10
    have H1 : (some (0, 1)) = some (r1, r2) := by rw [if_pos rfl] at H; exact H
    clear H
    have H := H1
    clear H1
    simp only [Option.some.injEq, Prod.mk.injEq] at H
    obtain ⟨rfl, rfl⟩ := H
    go_wp2
    go_ret2
    exact ⟨er_, bl_⟩
   ·replace c10 := Bool.eq_false_iff.mpr c10
    subst c10
    have H1 : ((floats_Kind.f a0 a4).bind fun t167 => (if t167 = 4 then (conv_Trunc.j1 kj5 a0 a3 a4 t167 a3 a1 a2) else (conv_Trunc.j1 kj5 a0 a3 a4 t167 false a1 a2))) = some (r1, r2) := by rw [if_neg (show ¬ (false = true) by decide)] at H; exact H
    clear H
    have H := H1
    clear H1
    replace H := Option.bind_eq_some_iff.mp H
    obtain ⟨t167, A110, H⟩ := H
    replace H : (if t167 = 4 then (conv_Trunc.j1 kj5 a0 a3 a4 t167 a3 a1 a2) else (conv_Trunc.j1 kj5 a0 a3 a4 t167 false a1 a2)) = some (r1, r2) := H
    have A11 := Aside0.mk A110
    clear A110
    have HC12 := Aside0.mk H
    clear H
    go_upto_region 5 with (first | ((with_reducible refine gate_dst (N := 12) rfl ?_); refine box_event ?hg (N := 12) ?hd (cs := #[.int .i64 0, .bool false]) (t := 106) ?hr ?_; (case hd => rfl); (case hg => rfl); (case hr => first | (go_simp; done) | (go_simp; rfl)); intro gb166 hg w13 hbox hb; have n0_ := Aside0.mk (below_step bl_ hb); have n1_ := Aside0.mk (hbox); have n2_ := Aside0.mk ((by rw [hg]; exact (below_size bl_) : w.heap.size ≤ gb166)); have n3_ := Aside0.mk ((by rw [hg]; exact (below_size bl_) : w.heap.size ≤ gb166)); clear HB; have HB := n0_; have BK166 := n1_; have GW166 := n2_; have GE166 := n3_; clear n0_ n1_ n2_ n3_; clear hb hbox hg; have hcz14_0 : w13.cell? ⟨gb166, 0, none⟩ = some (.int .i64 0) := (blk_cell BK166.out 0).trans rfl; have hcz14_1 : w13.cell? ⟨gb166, 1, none⟩ = some (.bool false) := (blk_cell BK166.out 1).trans rfl; have hfz14_0 := blk_frozen BK166.out 0; have hfz14_1 := blk_frozen BK166.out 1) | ((with_reducible refine gate_callee (f := 111) rfl ?_); refine goesL_ (some 32) rfl rfl Tryz.func111 (by kernel_rfl) rfl #[.int .i64 a0, .int .u64 a4] rfl mp_ ?_; (with_reducible refine (floats_Kind.calls a0 a4 t167 _ A11.out).mono ?_); rintro e w15 ⟨rfl, hb⟩; refine ⟨_, rfl, ?_⟩; have n0_ := Aside0.mk (blk_below (g := gb166) (o := .cells #[.int .i64 a1, .bool a2] 106 (0, 0)) (by (with_reducible repeat (first | refine blk_drewN ?_ _ | refine blk_drew ?_ | refine blk_alloc ?_ _)); refine blk_put (cs := #[.int .i64 a1, .bool false]) ?_ 1 _ rfl; (with_reducible repeat (first | refine blk_drewN ?_ _ | refine blk_drew ?_ | refine blk_alloc ?_ _)); refine blk_put (cs := #[.int .i64 0, .bool false]) ?_ 0 _ rfl; (with_reducible repeat (first | refine blk_drewN ?_ _ | refine blk_drew ?_ | refine blk_alloc ?_ _)); exact BK166.out) hb); have n1_ := Aside0.mk (below_step bs_ hb); clear BK166; clear HB; have BK166 := n0_; have HB := n1_; clear n0_ n1_; (try clear hb); (try clear hb2); (try clear hk); (try clear hi)))
    (try simp only [Act.put, List.setIfInBounds_toArray, List.set_cons_zero, List.set_cons_succ])
    go_cut [33] (fun v33 wc => ∃ (kq : Nat) (x33_11 : Bool), v33 = .bool x33_11 ∧ Aside0 (conv_Trunc.j1 kq a0 a3 a4 t167 x33_11 a1 a2 = some (r1, r2)) ∧ Aside0 (kq ≤ kj5) ∧ Aside0 (wc.heap[gb166]? = some (.cells #[.int .i64 a1, .bool a2] 106 (0, 0))) ∧ Aside0 (Below w.heap.size w wc))
    case first =>
     have H := HC12.out
     clear HC12
     by_cases c16 : t167 = 4
     ·rw [if_pos c16] at H
      have c16b0 : (t167 == 4) = true := beq_iff_eq.mpr c16
      have c16b1 : (t167 != 4) = false := bne_eq_false_iff_eq.mpr c16
      clear c16
      (first | rw [c16b0] | (simp only [i64_w, i32_w]; rw [c16b0]) | skip)
      have H' := Aside0.mk H
      clear H
      go_wp2
      go_meet
      case rel => exact ⟨_, (a3), rs_, H', ⟨by have := HJ5.out; first | omega | exact Nat.le_refl _⟩, ⟨by (with_reducible repeat (first | refine blk_drewN ?_ _ | refine blk_drew ?_ | refine blk_alloc ?_ _)); exact BK166.out⟩, ⟨bs_⟩⟩
     ·rw [if_neg c16] at H
      have c16b0 : (t167 == 4) = false := beq_eq_false_iff_ne.mpr c16
      have c16b1 : (t167 != 4) = true := bne_iff_ne.mpr c16
      (first | rw [c16b0] | (simp only [i64_w, i32_w]; rw [c16b0]) | skip)
      have H' := Aside0.mk H
      clear H
      go_wp2
      go_meet
      case rel => exact ⟨_, (false), rs_, H', ⟨by have := HJ5.out; first | omega | exact Nat.le_refl _⟩, ⟨by (with_reducible repeat (first | refine blk_drewN ?_ _ | refine blk_drew ?_ | refine blk_alloc ?_ _)); exact BK166.out⟩, ⟨bs_⟩⟩
    case rest =>
     clear HC12
     (try clear c1); (try clear p2); (try clear c5); (try clear c8); (try clear c10); (try clear c11); (try clear c16); (try clear c16b0); (try clear c16b1); (try clear hcz14_0); (try clear hcz14_1); (try clear hfz14_0); (try clear hfz14_1); (try clear p2)
     obtain ⟨kq, x33_11, rfl, HA, HJ11, BK166, HB⟩ := hcut
     cases kq with
     | zero => exact absurd HA.out (by simp [conv_Trunc.j1])
     | succ kj11 =>
      have H := HA.out
      clear HA
      simp only [conv_Trunc.j1] at H
      by_cases c17 : x33_11 = true
      ·subst c17
       have H1 : (some (0, 0)) = some (r1, r2) := by rw [if_pos rfl] at H; exact H
       clear H
       have H := H1
       clear H1
       simp only [Option.some.injEq, Prod.mk.injEq] at H
       obtain ⟨rfl, rfl⟩ := H
       go_wp2
       go_ret2
       exact ⟨er_, bs_⟩
      ·replace c17 := Bool.eq_false_iff.mpr c17
       subst c17
       have H1 : (if t167 = 4 then (some (0, 43)) else (if t167 = 3 then (if 0 ≤ (IntKind.u64.wrap (wrap64 (a0 - 1))) then ((conv_kind_over.f kj11 a1 a2 a3 ((Go.bits .and .u64 (shr .u64 a4 (IntKind.u64.wrap (wrap64 (a0 - 1)))) 1) == 1)).bind fun bt168 => (some (bt168.1, bt168.2))) else (none)) else ((floats_Parts.f kj11 a0 a4).bind fun bt170 => (if bt170.2.2.1 ≤ (-64) then (conv_Trunc.j2 kj11 a3 bt170.1 0 a1 a2) else (if bt170.2.2.1 < 0 then (if 0 ≤ (IntKind.u64.wrap (wrap64 (-bt170.2.2.1))) then (conv_Trunc.j2 kj11 a3 bt170.1 (shr .u64 bt170.2.1 (IntKind.u64.wrap (wrap64 (-bt170.2.2.1)))) a1 a2) else (none)) else ((bits_Len64.f bt170.2.1).bind fun t174 => (if (wrap64 (t174 + bt170.2.2.1)) > 64 then ((conv_kind_over.f kj11 a1 a2 a3 bt170.1).bind fun bt175 => (some (bt175.1, bt175.2))) else (if 0 ≤ (IntKind.u64.wrap (bt170.2.2.1)) then (conv_Trunc.j2 kj11 a3 bt170.1 (shl .u64 bt170.2.1 (IntKind.u64.wrap (bt170.2.2.1))) a1 a2) else (none))))))))) = some (r1, r2) := by rw [if_neg (show ¬ (false = true) by decide)] at H; exact H
       clear H
       have H := H1
       clear H1
       by_cases c18 : t167 = 4
       ·rw [if_pos c18] at H
        have c18b0 : (t167 == 4) = true := beq_iff_eq.mpr c18
        have c18b1 : (t167 != 4) = false := bne_eq_false_iff_eq.mpr c18
        clear c18
        simp only [Option.some.injEq, Prod.mk.injEq] at H
        obtain ⟨rfl, rfl⟩ := H
        go_wp2
        go_ret2
        exact ⟨er_, bs_⟩
       ·rw [if_neg c18] at H
        have c18b0 : (t167 == 4) = false := beq_eq_false_iff_ne.mpr c18
        have c18b1 : (t167 != 4) = true := bne_iff_ne.mpr c18
        by_cases c19 : t167 = 3
        ·rw [if_pos c19] at H
         have c19b0 : (t167 == 3) = true := beq_iff_eq.mpr c19
         have c19b1 : (t167 != 3) = false := bne_eq_false_iff_eq.mpr c19
         clear c19
         obtain ⟨ji20, hji20⟩ : ∃ j_ : Int, (IntKind.u64.wrap (wrap64 (a0 - 1))) = j_ := ⟨_, rfl⟩
         replace H : (if 0 ≤ (ji20) then ((conv_kind_over.f kj11 a1 a2 a3 ((Go.bits .and .u64 (shr .u64 a4 (ji20)) 1) == 1)).bind fun bt168 => (some (bt168.1, bt168.2))) else (none)) = some (r1, r2) := by first | (rw [hji20] at H; exact H) | (simp only [hji20] at H ⊢; exact H)
         by_cases c21 : 0 ≤ (ji20)
         ·rw [if_pos c21] at H
          have c21b0 := eq_true c21
          have c21b1 : decide (0 ≤ (ji20)) = true := decide_eq_true c21
          clear c21
          obtain ⟨ji22, hji22⟩ : ∃ j_ : Int, (shr .u64 a4 (ji20)) = j_ := ⟨_, rfl⟩
          replace H : ((conv_kind_over.f kj11 a1 a2 a3 ((Go.bits .and .u64 (ji22) 1) == 1)).bind fun bt168 => (some (bt168.1, bt168.2))) = some (r1, r2) := by first | (rw [hji22] at H; exact H) | (simp only [hji22] at H ⊢; exact H)
          have hji22_ : (a4 / 2 ^ min (ji20).toNat 64) = ji22 := hji22
          have hji22z : (ji20) ≤ 64 → (a4 / 2 ^ (ji20).toNat) = ji22 := shr_small hji22
          replace H := Option.bind_eq_some_iff.mp H
          obtain ⟨⟨t168, t169⟩, A230, H⟩ := H
          replace H : (some (t168, t169)) = some (r1, r2) := H
          have A23 := Aside0.mk A230
          clear A230
          simp only [Option.some.injEq, Prod.mk.injEq] at H
          obtain ⟨rfl, rfl⟩ := H
          have hcz24_0 : wc.cell? ⟨gb166, 0, none⟩ = some (.int .i64 a1) := (blk_cell BK166.out 0).trans rfl
          have hcz24_1 : wc.cell? ⟨gb166, 1, none⟩ = some (.bool a2) := (blk_cell BK166.out 1).trans rfl
          have hfz24_0 := blk_frozen BK166.out 0
          have hfz24_1 := blk_frozen BK166.out 1
          go_wp2_with (first | ((with_reducible refine gate_callee (f := 112) rfl ?_); refine goesL_ (some 55) rfl rfl Tryz.func112 (by kernel_rfl) rfl #[.agg #[.int .i64 a1, .bool a2], .bool a3, .bool ((Go.bits .and .u64 (ji22) 1) == 1)] rfl (by (try simp only [List.map_toArray, List.map_cons, List.map_nil]); first | done | (simp only [hji22]; rfl) | rfl | (simp only [List.length_drop, List.length_take]; rfl)) ?_; (with_reducible refine (conv_kind_over.calls kj11 a1 a2 a3 ((Go.bits .and .u64 (ji22) 1) == 1) t168 t169 _ A23.out).mono ?_); rintro e w25 ⟨rfl, hb⟩; refine ⟨_, rfl, ?_⟩; have n0_ := Aside0.mk (blk_below (g := gb166) (o := .cells #[.int .i64 a1, .bool a2] 106 (0, 0)) (by (with_reducible repeat (first | refine blk_drewN ?_ _ | refine blk_drew ?_ | refine blk_alloc ?_ _)); exact BK166.out) hb); have n1_ := Aside0.mk (below_step bs_ hb); clear BK166; clear HB; have BK166 := n0_; have HB := n1_; clear n0_ n1_; (try clear hb); (try clear hb2); (try clear hk); (try clear hi)))
          go_ret2
          exact ⟨by first | rfl | (simp [errW_none, errW_some] <;> rfl) | (simp only [← hji20, ← hji22]; first | rfl | (simp [errW_none, errW_some] <;> rfl)) | (simp [*, errW_none, errW_some] <;> rfl), bs_⟩
         ·rw [if_neg c21] at H
          exact absurd H (by simp)
        ·rw [if_neg c19] at H
         have c19b0 : (t167 == 3) = false := beq_eq_false_iff_ne.mpr c19
         have c19b1 : (t167 != 3) = true := bne_iff_ne.mpr c19
         replace H := Option.bind_eq_some_iff.mp H
         obtain ⟨⟨t170, t171, t172, t173⟩, A260, H⟩ := H
         replace H : (if t172 ≤ (-64) then (conv_Trunc.j2 kj11 a3 t170 0 a1 a2) else (if t172 < 0 then (if 0 ≤ (IntKind.u64.wrap (wrap64 (-t172))) then (conv_Trunc.j2 kj11 a3 t170 (shr .u64 t171 (IntKind.u64.wrap (wrap64 (-t172)))) a1 a2) else (none)) else ((bits_Len64.f t171).bind fun t174 => (if (wrap64 (t174 + t172)) > 64 then ((conv_kind_over.f kj11 a1 a2 a3 t170).bind fun bt175 => (some (bt175.1, bt175.2))) else (if 0 ≤ (IntKind.u64.wrap (t172)) then (conv_Trunc.j2 kj11 a3 t170 (shl .u64 t171 (IntKind.u64.wrap (t172))) a1 a2) else (none)))))) = some (r1, r2) := H
         have A26 := Aside0.mk A260
         clear A260
         have HC27 := Aside0.mk H
         clear H
         go_upto_block 1 with (first | ((with_reducible refine gate_callee (f := 113) rfl ?_); refine goesL_ (some 61) rfl rfl Tryz.func113 (by kernel_rfl) rfl #[.int .i64 a0, .int .u64 a4] rfl mp_ ?_; (with_reducible refine (floats_Parts.calls kj11 a0 a4 t170 t171 t172 t173 _ A26.out).mono ?_); rintro e w28 ⟨rfl, hb⟩; refine ⟨_, rfl, ?_⟩; have n0_ := Aside0.mk (blk_below (g := gb166) (o := .cells #[.int .i64 a1, .bool a2] 106 (0, 0)) (by (with_reducible repeat (first | refine blk_drewN ?_ _ | refine blk_drew ?_ | refine blk_alloc ?_ _)); exact BK166.out) hb); have n1_ := Aside0.mk (below_step bs_ hb); clear BK166; clear HB; have BK166 := n0_; have HB := n1_; clear n0_ n1_; (try clear hb); (try clear hb2); (try clear hk); (try clear hi)))
         (try simp only [Act.put, List.setIfInBounds_toArray, List.set_cons_zero, List.set_cons_succ])
         go_cut [16] (fun v16 wc => ∃ (kq : Nat) (x16_26 : Int), v16 = .int .u64 x16_26 ∧ Aside0 (conv_Trunc.j2 kq a3 t170 x16_26 a1 a2 = some (r1, r2)) ∧ Aside0 (kq ≤ kj11) ∧ Aside0 (wc.heap[gb166]? = some (.cells #[.int .i64 a1, .bool a2] 106 (0, 0))) ∧ Aside0 (Below w.heap.size w wc))
         case first =>
          have H := HC27.out
          clear HC27
          by_cases c29 : t172 ≤ (-64)
          ·rw [if_pos c29] at H
           have c29b0 : decide (t172 ≤ (-64)) = true := decide_eq_true c29
           clear c29
           (first | rw [c29b0] | (simp only [i64_w, i32_w]; rw [c29b0]) | skip)
           have H' := Aside0.mk H
           clear H
           go_wp2
           go_meet
           case rel => exact ⟨_, (0), rs_, H', ⟨by have := HJ5.out; have := HJ11.out; first | omega | exact Nat.le_refl _⟩, ⟨by (with_reducible repeat (first | refine blk_drewN ?_ _ | refine blk_drew ?_ | refine blk_alloc ?_ _)); exact BK166.out⟩, ⟨bs_⟩⟩
          ·rw [if_neg c29] at H
           have c29b0 : decide (t172 ≤ (-64)) = false := decide_eq_false c29
           clear c29
           (first | rw [c29b0] | (simp only [i64_w, i32_w]; rw [c29b0]) | skip)
           by_cases c30 : t172 < 0
           ·rw [if_pos c30] at H
            have c30b0 : decide (t172 < 0) = true := decide_eq_true c30
            clear c30
            obtain ⟨ji31, hji31⟩ : ∃ j_ : Int, (IntKind.u64.wrap (wrap64 (-t172))) = j_ := ⟨_, rfl⟩
            replace H : (if 0 ≤ (ji31) then (conv_Trunc.j2 kj11 a3 t170 (shr .u64 t171 (ji31)) a1 a2) else (none)) = some (r1, r2) := by first | (rw [hji31] at H; exact H) | (simp only [hji31] at H ⊢; exact H)
            by_cases c32 : 0 ≤ (ji31)
            ·rw [if_pos c32] at H
             have c32b0 := eq_true c32
             have c32b1 : decide (0 ≤ (ji31)) = true := decide_eq_true c32
             clear c32
             obtain ⟨ji33, hji33⟩ : ∃ j_ : Int, (shr .u64 t171 (ji31)) = j_ := ⟨_, rfl⟩
             replace H : (conv_Trunc.j2 kj11 a3 t170 ji33 a1 a2) = some (r1, r2) := by first | (rw [hji33] at H; exact H) | (simp only [hji33] at H ⊢; exact H)
             have hji33_ : (t171 / 2 ^ min (ji31).toNat 64) = ji33 := hji33
             have hji33z : (ji31) ≤ 64 → (t171 / 2 ^ (ji31).toNat) = ji33 := shr_small hji33
             have H' := Aside0.mk H
             clear H
             go_wp2
             go_meet
             case rel => exact ⟨_, (ji33), (by first | rfl | (simp; done) | (simp only [← hji33] <;> (first | rfl | simp)) | (simp [*]; done)), H', ⟨by have := HJ5.out; have := HJ11.out; first | omega | exact Nat.le_refl _⟩, ⟨by (with_reducible repeat (first | refine blk_drewN ?_ _ | refine blk_drew ?_ | refine blk_alloc ?_ _)); exact BK166.out⟩, ⟨bs_⟩⟩
            ·rw [if_neg c32] at H
             exact absurd H (by simp)
           ·rw [if_neg c30] at H
            have c30b0 : decide (t172 < 0) = false := decide_eq_false c30
            clear c30
            replace H := Option.bind_eq_some_iff.mp H
            obtain ⟨t174, A340, H⟩ := H
            replace H : (if (wrap64 (t174 + t172)) > 64 then ((conv_kind_over.f kj11 a1 a2 a3 t170).bind fun bt175 => (some (bt175.1, bt175.2))) else (if 0 ≤ (IntKind.u64.wrap (t172)) then (conv_Trunc.j2 kj11 a3 t170 (shl .u64 t171 (IntKind.u64.wrap (t172))) a1 a2) else (none))) = some (r1, r2) := H
            have A34 := Aside0.mk A340
            clear A340
            by_cases c35 : (wrap64 (t174 + t172)) > 64
            ·rw [if_pos c35] at H
             have c35b0 : decide (64 < (wrap64 (t174 + t172))) = true := decide_eq_true c35
             clear c35
             replace H := Option.bind_eq_some_iff.mp H
             obtain ⟨⟨t175, t176⟩, A360, H⟩ := H
             replace H : (some (t175, t176)) = some (r1, r2) := H
             have A36 := Aside0.mk A360
             clear A360
             simp only [Option.some.injEq, Prod.mk.injEq] at H
             obtain ⟨rfl, rfl⟩ := H
             go_wp2_with (first | ((with_reducible refine gate_callee (f := 92) rfl ?_); refine goesL_ (some 83) rfl rfl Tryz.func92 (by kernel_rfl) rfl #[.int .u64 t171] rfl mp_ ?_; (with_reducible refine (bits_Len64.calls t171 t174 _ A34.out).mono ?_); rintro e w' ⟨rfl, ⟨nd, rfl⟩⟩; refine ⟨_, rfl, ?_⟩; have hcz37_0 : w28.cell? ⟨gb166, 0, none⟩ = some (.int .i64 a1) := (blk_cell BK166.out 0).trans rfl; have hcz37_1 : w28.cell? ⟨gb166, 1, none⟩ = some (.bool a2) := (blk_cell BK166.out 1).trans rfl; have hfz37_0 := blk_frozen BK166.out 0; have hfz37_1 := blk_frozen BK166.out 1) | ((with_reducible refine gate_callee (f := 112) rfl ?_); refine goesL_ (some 90) rfl rfl Tryz.func112 (by kernel_rfl) rfl #[.agg #[.int .i64 a1, .bool a2], .bool a3, .bool t170] rfl mp_ ?_; (with_reducible refine (conv_kind_over.calls kj11 a1 a2 a3 t170 t175 t176 _ A36.out).mono ?_); rintro e w38 ⟨rfl, hb⟩; refine ⟨_, rfl, ?_⟩; have n0_ := Aside0.mk (blk_below (g := gb166) (o := .cells #[.int .i64 a1, .bool a2] 106 (0, 0)) (by (with_reducible repeat (first | refine blk_drewN ?_ _ | refine blk_drew ?_ | refine blk_alloc ?_ _)); exact BK166.out) hb); have n1_ := Aside0.mk (below_step bs_ hb); clear BK166; clear HB; have BK166 := n0_; have HB := n1_; clear n0_ n1_; (try clear hb); (try clear hb2); (try clear hk); (try clear hi)))
             go_ret2
             exact ⟨er_, bs_⟩
            ·rw [if_neg c35] at H
             have c35b0 : decide (64 < (wrap64 (t174 + t172))) = false := decide_eq_false c35
             clear c35
             obtain ⟨ji39, hji39⟩ : ∃ j_ : Int, (IntKind.u64.wrap (t172)) = j_ := ⟨_, rfl⟩
             replace H : (if 0 ≤ (ji39) then (conv_Trunc.j2 kj11 a3 t170 (shl .u64 t171 (ji39)) a1 a2) else (none)) = some (r1, r2) := by first | (rw [hji39] at H; exact H) | (simp only [hji39] at H ⊢; exact H)
             (try rw [hji39] at A34)
             by_cases c40 : 0 ≤ (ji39)
             ·rw [if_pos c40] at H
              have c40b0 := eq_true c40
              have c40b1 : decide (0 ≤ (ji39)) = true := decide_eq_true c40
              clear c40
              obtain ⟨ji41, hji41⟩ : ∃ j_ : Int, (shl .u64 t171 (ji39)) = j_ := ⟨_, rfl⟩
              replace H : (conv_Trunc.j2 kj11 a3 t170 ji41 a1 a2) = some (r1, r2) := by first | (rw [hji41] at H; exact H) | (simp only [hji41] at H ⊢; exact H)
              (try rw [hji41] at A34)
              have hji41_ : (IntKind.u64.wrap (t171 * 2 ^ min (ji39).toNat 64)) = ji41 := hji41
              have hji41z : (ji39) ≤ 64 → (IntKind.u64.wrap (t171 * 2 ^ (ji39).toNat)) = ji41 := shl_small hji41
              have H' := Aside0.mk H
              clear H
              go_wp2_with (first | ((with_reducible refine gate_callee (f := 92) rfl ?_); refine goesL_ (some 83) rfl rfl Tryz.func92 (by kernel_rfl) rfl #[.int .u64 t171] rfl mp_ ?_; (with_reducible refine (bits_Len64.calls t171 t174 _ A34.out).mono ?_); rintro e w' ⟨rfl, ⟨nd, rfl⟩⟩; refine ⟨_, rfl, ?_⟩))
              go_meet
              case rel => exact ⟨_, (ji41), (by first | rfl | (simp; done) | (simp only [← hji41] <;> (first | rfl | simp)) | (simp [*]; done)), H', ⟨by have := HJ5.out; have := HJ11.out; first | omega | exact Nat.le_refl _⟩, ⟨by (with_reducible repeat (first | refine blk_drewN ?_ _ | refine blk_drew ?_ | refine blk_alloc ?_ _)); exact BK166.out⟩, ⟨bs_⟩⟩
             ·rw [if_neg c40] at H
              exact absurd H (by simp)
         case rest =>
          clear HC27
          (try clear c1); (try clear c2); (try clear p2); (try clear c3); (try clear c4); (try clear c5); (try clear p6); (try clear c8); (try clear c9); (try clear c10); (try clear c11); (try clear c16); (try clear c16b0); (try clear c16b1); (try clear c17); (try clear c18); (try clear c18b0); (try clear c18b1); (try clear c19); (try clear c19b0); (try clear c19b1); (try clear c21); (try clear c21b0); (try clear c21b1); (try clear c29); (try clear c29b0); (try clear c30); (try clear c30b0); (try clear c32); (try clear c32b0); (try clear c32b1); (try clear c35); (try clear c35b0); (try clear c40); (try clear c40b0); (try clear c40b1); (try clear hcz14_0); (try clear hcz14_1); (try clear hcz24_0); (try clear hcz24_1); (try clear hcz37_0); (try clear hcz37_1); (try clear hfz14_0); (try clear hfz14_1); (try clear hfz24_0); (try clear hfz24_1); (try clear hfz37_0); (try clear hfz37_1); (try clear p2)
          obtain ⟨kq, x16_26, rfl, HA, HJ26, BK166, HB⟩ := hcut
          cases kq with
          | zero => exact absurd HA.out (by simp [conv_Trunc.j2])
          | succ kj26 =>
           have H := HA.out
           clear HA
           simp only [conv_Trunc.j2] at H
           replace H := Option.bind_eq_some_iff.mp H
           obtain ⟨t177, A420, H⟩ := H
           replace H : (if x16_26 > t177 then ((conv_kind_over.f kj26 a1 a2 a3 t170).bind fun bt178 => (some (bt178.1, bt178.2))) else ((conv_kind_cut.f a1 a2 t170 x16_26).bind fun t180 => (some (t180, 0)))) = some (r1, r2) := H
           have A42 := Aside0.mk A420
           clear A420
           by_cases c43 : x16_26 > t177
           ·rw [if_pos c43] at H
            have c43b0 : decide (t177 < x16_26) = true := decide_eq_true c43
            clear c43
            replace H := Option.bind_eq_some_iff.mp H
            obtain ⟨⟨t178, t179⟩, A440, H⟩ := H
            replace H : (some (t178, t179)) = some (r1, r2) := H
            have A44 := Aside0.mk A440
            clear A440
            simp only [Option.some.injEq, Prod.mk.injEq] at H
            obtain ⟨rfl, rfl⟩ := H
            have hcz45_0 : wc.cell? ⟨gb166, 0, none⟩ = some (.int .i64 a1) := (blk_cell BK166.out 0).trans rfl
            have hcz45_1 : wc.cell? ⟨gb166, 1, none⟩ = some (.bool a2) := (blk_cell BK166.out 1).trans rfl
            have hfz45_0 := blk_frozen BK166.out 0
            have hfz45_1 := blk_frozen BK166.out 1
            go_wp2_with (first | ((with_reducible refine gate_callee (f := 114) rfl ?_); refine goesL_ (some 96) rfl rfl Tryz.func114 (by kernel_rfl) rfl #[.agg #[.int .i64 a1, .bool a2], .bool t170] rfl mp_ ?_; (with_reducible refine (conv_kind_most.calls kj26 a1 a2 t170 t177 _ A42.out).mono ?_); rintro e w46 ⟨rfl, hb⟩; refine ⟨_, rfl, ?_⟩; have n0_ := Aside0.mk (blk_below (g := gb166) (o := .cells #[.int .i64 a1, .bool a2] 106 (0, 0)) (by (with_reducible repeat (first | refine blk_drewN ?_ _ | refine blk_drew ?_ | refine blk_alloc ?_ _)); exact BK166.out) hb); have n1_ := Aside0.mk (below_step bs_ hb); clear BK166; clear HB; have BK166 := n0_; have HB := n1_; clear n0_ n1_; (try clear hb); (try clear hb2); (try clear hk); (try clear hi); have hcz47_0 : w46.cell? ⟨gb166, 0, none⟩ = some (.int .i64 a1) := (blk_cell BK166.out 0).trans rfl; have hcz47_1 : w46.cell? ⟨gb166, 1, none⟩ = some (.bool a2) := (blk_cell BK166.out 1).trans rfl; have hfz47_0 := blk_frozen BK166.out 0; have hfz47_1 := blk_frozen BK166.out 1) | ((with_reducible refine gate_callee (f := 112) rfl ?_); refine goesL_ (some 101) rfl rfl Tryz.func112 (by kernel_rfl) rfl #[.agg #[.int .i64 a1, .bool a2], .bool a3, .bool t170] rfl mp_ ?_; (with_reducible refine (conv_kind_over.calls kj26 a1 a2 a3 t170 t178 t179 _ A44.out).mono ?_); rintro e w48 ⟨rfl, hb⟩; refine ⟨_, rfl, ?_⟩; have n0_ := Aside0.mk (blk_below (g := gb166) (o := .cells #[.int .i64 a1, .bool a2] 106 (0, 0)) (by (with_reducible repeat (first | refine blk_drewN ?_ _ | refine blk_drew ?_ | refine blk_alloc ?_ _)); exact BK166.out) hb); have n1_ := Aside0.mk (below_step bs_ hb); clear BK166; clear HB; have BK166 := n0_; have HB := n1_; clear n0_ n1_; (try clear hb); (try clear hb2); (try clear hk); (try clear hi)))
            go_ret2
            exact ⟨er_, bs_⟩
           ·rw [if_neg c43] at H
            have c43b0 : decide (t177 < x16_26) = false := decide_eq_false c43
            clear c43
            replace H := Option.bind_eq_some_iff.mp H
            obtain ⟨t180, A490, H⟩ := H
            replace H : (some (t180, 0)) = some (r1, r2) := H
            have A49 := Aside0.mk A490
            clear A490
            simp only [Option.some.injEq, Prod.mk.injEq] at H
            obtain ⟨rfl, rfl⟩ := H
            have hcz50_0 : wc.cell? ⟨gb166, 0, none⟩ = some (.int .i64 a1) := (blk_cell BK166.out 0).trans rfl
            have hcz50_1 : wc.cell? ⟨gb166, 1, none⟩ = some (.bool a2) := (blk_cell BK166.out 1).trans rfl
            have hfz50_0 := blk_frozen BK166.out 0
            have hfz50_1 := blk_frozen BK166.out 1
            go_wp2_with (first | ((with_reducible refine gate_callee (f := 114) rfl ?_); refine goesL_ (some 96) rfl rfl Tryz.func114 (by kernel_rfl) rfl #[.agg #[.int .i64 a1, .bool a2], .bool t170] rfl mp_ ?_; (with_reducible refine (conv_kind_most.calls kj26 a1 a2 t170 t177 _ A42.out).mono ?_); rintro e w51 ⟨rfl, hb⟩; refine ⟨_, rfl, ?_⟩; have n0_ := Aside0.mk (blk_below (g := gb166) (o := .cells #[.int .i64 a1, .bool a2] 106 (0, 0)) (by (with_reducible repeat (first | refine blk_drewN ?_ _ | refine blk_drew ?_ | refine blk_alloc ?_ _)); exact BK166.out) hb); have n1_ := Aside0.mk (below_step bs_ hb); clear BK166; clear HB; have BK166 := n0_; have HB := n1_; clear n0_ n1_; (try clear hb); (try clear hb2); (try clear hk); (try clear hi); have hcz52_0 : w51.cell? ⟨gb166, 0, none⟩ = some (.int .i64 a1) := (blk_cell BK166.out 0).trans rfl; have hcz52_1 : w51.cell? ⟨gb166, 1, none⟩ = some (.bool a2) := (blk_cell BK166.out 1).trans rfl; have hfz52_0 := blk_frozen BK166.out 0; have hfz52_1 := blk_frozen BK166.out 1) | ((with_reducible refine gate_callee (f := 115) rfl ?_); refine goesL_ (some 107) rfl rfl Tryz.func115 (by kernel_rfl) rfl #[.agg #[.int .i64 a1, .bool a2], .bool t170, .int .u64 x16_26] rfl mp_ ?_; (with_reducible refine (conv_kind_cut.calls a1 a2 t170 x16_26 t180 _ A49.out).mono ?_); rintro e w53 ⟨rfl, hb⟩; refine ⟨_, rfl, ?_⟩; have n0_ := Aside0.mk (blk_below (g := gb166) (o := .cells #[.int .i64 a1, .bool a2] 106 (0, 0)) (by (with_reducible repeat (first | refine blk_drewN ?_ _ | refine blk_drew ?_ | refine blk_alloc ?_ _)); exact BK166.out) hb); have n1_ := Aside0.mk (below_step bs_ hb); clear BK166; clear HB; have BK166 := n0_; have HB := n1_; clear n0_ n1_; (try clear hb); (try clear hb2); (try clear hk); (try clear hi)))
            go_ret2
            exact ⟨er_, bs_⟩
def conv_Convert.f (a0 : Int) (a1 : Int) (a2 : Bool) (a3 : Int) : Option (Int × Int) := none
def conv_Demote.f (a0 : Int) : Option (Int) := none
def conv_Promote.f (a0 : Int) : Option (Int) := none
def ints_Un.f (a0 : Int) (a1 : Int) (a2 : Int) : Option (Int × Int) := none
def ints_Rel.f (a0 : Int) (a1 : Int) (a2 : Int) (a3 : Int) : Option (Bool × Int) := none
def floats_Rel.f (a0 : Int) (a1 : Int) (a2 : Int) (a3 : Int) : Option (Bool × Int) := none
def floats_Bin.f (a0 : Int) (a1 : Int) (a2 : Int) (a3 : Int) : Option (Int × Int) := none
def lanes_Do.f (a0 : Int) (l1 : List Int) (l2 : List (S33)) : Option (Int × Int × Int × Bool × Int) := none
end Go.Proofs.YtkhhhceeoljheaaGreatDoor.PHel

import Derived.Test.YtkhhhceeoljheaaGreatDoorInPIntx10
namespace Go.Proofs.YtkhhhceeoljheaaGreatDoor.PInt
open Go.RowKit Go.Proofs.YtkhhhceeoljheaaGreatDoorW.PrintWords Go.Proofs.YtkhhhceeoljheaaGreatDoorW.PrintLast Go.Proofs.YtkhhhceeoljheaaGreatDoorW.PrintMore
attribute [local go_sem] max2_int min2_int max_two min_two max_three min_three max_four min_four   
set_option linter.unusedVariables false
set_option linter.unusedSimpArgs false
def bodkinref02_quo.l0 : Nat → Int → Int → Int → List Int → Int → Option (Int × Int)
 | 0, _, _, _, _, _ => none
 | k + 1, x1, x6, x7, x8, x9 => if x9 ≥ 0 then (if 0 ≤ x9 then (if x9 < (x8.length : Int) then (if x7 ≥ 9223372036854775808 then (bodkinref02_quo.l0 k x1 (IntKind.u64.wrap ((IntKind.u64.wrap (x6 * 2)) + 1)) (IntKind.u64.wrap ((IntKind.u64.wrap ((IntKind.u64.wrap (x7 * 2)) + (rd x8 x9))) - x1)) x8 (wrap64 (x9 - 1))) else (if (IntKind.u64.wrap ((IntKind.u64.wrap (x7 * 2)) + (rd x8 x9))) ≥ x1 then (bodkinref02_quo.l0 k x1 (IntKind.u64.wrap ((IntKind.u64.wrap (x6 * 2)) + 1)) (IntKind.u64.wrap ((IntKind.u64.wrap ((IntKind.u64.wrap (x7 * 2)) + (rd x8 x9))) - x1)) x8 (wrap64 (x9 - 1))) else (bodkinref02_quo.l0 k x1 (IntKind.u64.wrap (x6 * 2)) (IntKind.u64.wrap ((IntKind.u64.wrap (x7 * 2)) + (rd x8 x9))) x8 (wrap64 (x9 - 1))))) else (none)) else (none)) else (some (x6, x7))
def bodkinref02_quo.f (k : Nat) (a0 : Int) (a1 : Int) : Option (Int × Int) := (bodkinref02_list.f k 64 a0).bind fun t275 => (bodkinref02_quo.l0 k a1 0 0 t275 63)
theorem bodkinref02_quo.mono_l : ∀ k, (∀ y0 y1 y2 y3 y4, LeO (bodkinref02_quo.l0 k y0 y1 y2 y3 y4) (bodkinref02_quo.l0 (k + 1) y0 y1 y2 y3 y4))
 | 0 => fun _ _ _ _ _ r h => by simp [bodkinref02_quo.l0] at h
 | k + 1 => by
  have ih0 := bodkinref02_quo.mono_l k
  ·intro y0 y1 y2 y3 y4
   unfold bodkinref02_quo.l0
   repeat' first
   | (with_reducible exact ih0 _ _ _ _ _)
   | (with_reducible exact bodkinref02_list.mono _ _ _)
   | (with_reducible exact LeO.refl _)
   | (with_reducible exact LeO.none _)
   | (with_reducible refine LeO.ite ?_ ?_)
   | (with_reducible refine LeO.bind ?_ (fun _ => ?_))
   | exact ih0 _ _ _ _ _
   | exact bodkinref02_list.mono _ _ _
   | exact LeO.none _
   | refine LeO.ite ?_ ?_
   | refine LeO.bind ?_ (fun _ => ?_)
theorem bodkinref02_quo.mono : ∀ a0 a1 k, LeO (bodkinref02_quo.f k a0 a1) (bodkinref02_quo.f (k + 1) a0 a1) := by
 intro a0 a1 k
 have ih0 := bodkinref02_quo.mono_l k
 unfold bodkinref02_quo.f
 repeat' first
   | (with_reducible exact ih0 _ _ _ _ _)
   | (with_reducible exact bodkinref02_list.mono _ _ _)
   | (with_reducible exact LeO.refl _)
   | (with_reducible exact LeO.none _)
   | (with_reducible refine LeO.ite ?_ ?_)
   | (with_reducible refine LeO.bind ?_ (fun _ => ?_))
   | exact ih0 _ _ _ _ _
   | exact bodkinref02_list.mono _ _ _
   | exact LeO.none _
   | refine LeO.ite ?_ ?_
   | refine LeO.bind ?_ (fun _ => ?_)
set_option maxHeartbeats 8000000 in
set_option maxRecDepth 100000 in
theorem bodkinref02_quo.calls (k : Nat) (a0 : Int) (a1 : Int) (r1 : Int) (r2 : Int) (w : World) (h : bodkinref02_quo.f k a0 a1 = some (r1, r2)) (hG : GD w := by first | assumption | exact GD.below (by assumption) (by repeat (first | exact Aside0.out (by assumption) | exact Below.refl _ _ | assumption | apply below_alloc | apply pw_below_drewN | apply below_drew1 | refine below_set ?_ (Aside0.out (by assumption))))) :
  Calls Tryz.prog 203 #[.int .u64 a0, .int .u64 a1] w fun e w' => e = .returned (.tuple #[.int .u64 r1, .int .u64 r2]) ∧ Below w.heap.size w w' := by
 have HB := Aside0.mk (Below.refl w.heap.size w)
 have H : ((bodkinref02_list.f k 64 a0).bind fun t275 => (bodkinref02_quo.l0 k a1 0 0 t275 63)) = some (r1, r2) := h
 clear h
 replace H := Option.bind_eq_some_iff.mp H
 obtain ⟨t275, A30, H⟩ := H
 replace H : (bodkinref02_quo.l0 k a1 0 0 t275 63) = some (r1, r2) := H
 have A3 := Aside0.mk A30
 clear A30
 have H' := Aside0.mk H
 clear H
 go_enter Tryz.func203, Tryz.ntmps203
 go_wp2_with (first | ((with_reducible refine gate_callee (f := 150) rfl ?_); refine goesL_ (some 12) rfl rfl Tryz.func150 (by kernel_rfl) rfl #[.int .i64 64, .int .u64 a0] rfl mp_ ?_; (with_reducible refine (bodkinref02_list.calls k 64 a0 t275 _ A3.out).mono ?_); rintro e w4 ⟨v276, rfl, ho0, hb⟩; refine ⟨_, rfl, ?_⟩; have n0_ := Aside0.mk (Kd.R_lower ho0 (below_size bl_)); have n1_ := Aside0.mk (below_step bl_ hb); clear HB; have HO277 := n0_; have HB := n1_; clear n0_ n1_; (try clear hb); (try clear hb2); (try clear hk); (try clear hi); (try clear ho0)))
 go_loopg [6, 7, 9] k (fun kq v6 v7 v9 w' => ∃ (x6_1 : Int) (x7_1 : Int) (x9_1 : Int), v6 = .int .u64 x6_1 ∧ v7 = .int .u64 x7_1 ∧ v9 = .int .i64 x9_1 ∧ Aside0 (bodkinref02_quo.l0 kq a1 x6_1 x7_1 t275 x9_1 = some (r1, r2)) ∧ Aside0 (kq ≤ k) ∧ Aside0 (Kd.R (Kd.int .u64) 22 w' w.heap.size (fun _ => True) v276 t275) ∧ Aside0 (Below w.heap.size w w'))
 case atStart => exact ⟨(0), (0), (63), rs_, rs_, rs_, H', ⟨Nat.le_refl _⟩, ⟨rl_ HO277⟩, ⟨bl_⟩⟩
 case round =>
  clear H'
  (try clear c1); (try clear c2); (try clear p2)
  obtain ⟨x6_1, x7_1, x9_1, rfl, rfl, rfl, HA, HK1, HO_8, HB⟩ := hrel
  cases gk with
  | zero => exact absurd HA.out (by simp [bodkinref02_quo.l0])
  | succ k1 =>
   have H := HA.out
   clear HA
   simp only [bodkinref02_quo.l0] at H
   by_cases c5 : x9_1 ≥ 0
   ·rw [if_pos c5] at H
    have c5b0 : decide (0 ≤ x9_1) = true := decide_eq_true c5
    clear c5
    by_cases c6 : 0 ≤ x9_1
    ·rw [if_pos c6] at H
     have c6b0 : decide (0 ≤ x9_1) = true := decide_eq_true c6
     clear c6
     by_cases c7 : x9_1 < (t275.length : Int)
     ·rw [if_pos c7] at H
      have c7b0 : decide (x9_1 < (t275.length : Int)) = true := decide_eq_true c7
      clear c7
      by_cases c8 : x7_1 ≥ 9223372036854775808
      ·rw [if_pos c8] at H
       have c8b0 : decide (9223372036854775808 ≤ x7_1) = true := decide_eq_true c8
       clear c8
       have H' := Aside0.mk H
       clear H
       obtain ⟨Ao9, co9, eo9⟩ := Kd.R_slice HO_8.out
       subst eo9
       have p278 : 0 ≤ (x9_1 : Int) := od_
       have q278 : x9_1 < (t275.length : Int) := od_
       try (obtain ⟨ga_, ca_, hva_, _, _⟩ := Kd.R_reads HO_8.out; subst hva_)
       obtain ⟨ad278, e278, hx278_0⟩ := Kd.at_int (Kd.R_reads' HO_8.out).2.2 x9_1 p278 q278
       cases e278
       replace p278 := eq_true p278
       replace q278 := eq_true q278
       go_wp2
       go_roundg k1
       case measure => have := HK1.out; omega
       case rel => exact ⟨(IntKind.u64.wrap ((IntKind.u64.wrap (x6_1 * 2)) + 1)), (IntKind.u64.wrap ((IntKind.u64.wrap ((IntKind.u64.wrap (x7_1 * 2)) + (rd t275 x9_1))) - a1)), (wrap64 (x9_1 - 1)), rs_, rs_, rs_, H', ⟨by have := HK1.out; omega⟩, ⟨rl_ HO_8⟩, ⟨bl_⟩⟩
      ·rw [if_neg c8] at H
       have c8b0 : decide (9223372036854775808 ≤ x7_1) = false := decide_eq_false c8
       clear c8
       by_cases c10 : (IntKind.u64.wrap ((IntKind.u64.wrap (x7_1 * 2)) + (rd t275 x9_1))) ≥ a1
       ·rw [if_pos c10] at H
        have c10b0 : decide (a1 ≤ (IntKind.u64.wrap ((IntKind.u64.wrap (x7_1 * 2)) + (rd t275 x9_1)))) = true := decide_eq_true c10
        clear c10
        have H' := Aside0.mk H
        clear H
        obtain ⟨Ao11, co11, eo11⟩ := Kd.R_slice HO_8.out
        subst eo11
        have p278 : 0 ≤ (x9_1 : Int) := od_
        have q278 : x9_1 < (t275.length : Int) := od_
        try (obtain ⟨ga_, ca_, hva_, _, _⟩ := Kd.R_reads HO_8.out; subst hva_)
        obtain ⟨ad278, e278, hx278_0⟩ := Kd.at_int (Kd.R_reads' HO_8.out).2.2 x9_1 p278 q278
        cases e278
        replace p278 := eq_true p278
        replace q278 := eq_true q278
        go_wp2
        go_roundg k1
        case measure => have := HK1.out; omega
        case rel => exact ⟨(IntKind.u64.wrap ((IntKind.u64.wrap (x6_1 * 2)) + 1)), (IntKind.u64.wrap ((IntKind.u64.wrap ((IntKind.u64.wrap (x7_1 * 2)) + (rd t275 x9_1))) - a1)), (wrap64 (x9_1 - 1)), rs_, rs_, rs_, H', ⟨by have := HK1.out; omega⟩, ⟨rl_ HO_8⟩, ⟨bl_⟩⟩
       ·rw [if_neg c10] at H
        have c10b0 : decide (a1 ≤ (IntKind.u64.wrap ((IntKind.u64.wrap (x7_1 * 2)) + (rd t275 x9_1)))) = false := decide_eq_false c10
        clear c10
        have H' := Aside0.mk H
        clear H
        obtain ⟨Ao12, co12, eo12⟩ := Kd.R_slice HO_8.out
        subst eo12
        have p278 : 0 ≤ (x9_1 : Int) := od_
        have q278 : x9_1 < (t275.length : Int) := od_
        try (obtain ⟨ga_, ca_, hva_, _, _⟩ := Kd.R_reads HO_8.out; subst hva_)
        obtain ⟨ad278, e278, hx278_0⟩ := Kd.at_int (Kd.R_reads' HO_8.out).2.2 x9_1 p278 q278
        cases e278
        replace p278 := eq_true p278
        replace q278 := eq_true q278
        go_wp2
        go_roundg k1
        case measure => have := HK1.out; omega
        case rel => exact ⟨(IntKind.u64.wrap (x6_1 * 2)), (IntKind.u64.wrap ((IntKind.u64.wrap (x7_1 * 2)) + (rd t275 x9_1))), (wrap64 (x9_1 - 1)), rs_, rs_, rs_, H', ⟨by have := HK1.out; omega⟩, ⟨rl_ HO_8⟩, ⟨bl_⟩⟩
     ·rw [if_neg c7] at H
      exact absurd H (by simp)
    ·rw [if_neg c6] at H
     exact absurd H (by simp)
   ·rw [if_neg c5] at H
    have c5b0 : decide (0 ≤ x9_1) = false := decide_eq_false c5
    clear c5
    simp only [Option.some.injEq, Prod.mk.injEq] at H
    obtain ⟨rfl, rfl⟩ := H
    go_wp2
    go_ret2
    exact ⟨er_, bl_⟩
def bodkinref02_size.f (a0 : Int) : Option (Int) := if a0 < 0 then (some (IntKind.u64.wrap ((IntKind.u64.wrap (wrap64 (-(wrap64 (a0 + 1))))) + 1))) else (some (IntKind.u64.wrap (a0)))
set_option maxHeartbeats 8000000 in
set_option maxRecDepth 100000 in
theorem bodkinref02_size.calls (a0 : Int) (r : Int) (w : World) (h : bodkinref02_size.f a0 = some r) (hG : GD w := by first | assumption | exact GD.below (by assumption) (by repeat (first | exact Aside0.out (by assumption) | exact Below.refl _ _ | assumption | apply below_alloc | apply pw_below_drewN | apply below_drew1 | refine below_set ?_ (Aside0.out (by assumption))))) :
  Calls Tryz.prog 204 #[.int .i64 a0] w fun e w' => e = .returned (.int .u64 r) ∧ Drawn0 w w' := by
 have H : (if a0 < 0 then (some (IntKind.u64.wrap ((IntKind.u64.wrap (wrap64 (-(wrap64 (a0 + 1))))) + 1))) else (some (IntKind.u64.wrap (a0)))) = some r := h
 clear h
 by_cases c2 : a0 < 0
 ·rw [if_pos c2] at H
  have c2b0 : decide (a0 < 0) = true := decide_eq_true c2
  clear c2
  obtain rfl := Option.some.inj H
  go_enter Tryz.func204, Tryz.ntmps204
  go_wp2
  go_ret
  exact ⟨by first | rfl | (simp; done) | (simp [*]; done), by repeat (first | exact Drawn0.refl _ | apply Drawn0.step)⟩
 ·rw [if_neg c2] at H
  have c2b0 : decide (a0 < 0) = false := decide_eq_false c2
  clear c2
  obtain rfl := Option.some.inj H
  go_enter Tryz.func204, Tryz.ntmps204
  go_wp2
  go_ret
  exact ⟨by first | rfl | (simp; done) | (simp [*]; done), by repeat (first | exact Drawn0.refl _ | apply Drawn0.step)⟩
def bodkinref02_divided.j0 : Nat → Int → Int → Int → Int → Int → Int → Bool → Option (Int × Int)
 | 0, _, _, _, _, _, _, _ => none
 | k + 1, x0, x1, x2, x3, x4, x5, x25 => if x25 = true then ((bodkinref02_quo.f k x2 x3).bind fun bt279 => (if x1 = 5 then (some (bt279.1, 0)) else (some (bt279.2, 0)))) else ((bodkinref02_size.f x4).bind fun t281 => ((bodkinref02_size.f x5).bind fun t282 => ((bodkinref02_quo.f k t281 t282).bind fun bt283 => (if x1 = 6 then (if x4 < 0 then ((bodkinref02_Cut.f k x0 (IntKind.u64.wrap (-bt283.2))).bind fun t285 => (some (t285, 0))) else ((bodkinref02_Cut.f k x0 bt283.2).bind fun t286 => (some (t286, 0)))) else (if ((decide (x4 < 0)) != (decide (x5 < 0))) = true then ((bodkinref02_Cut.f k x0 (IntKind.u64.wrap (-bt283.1))).bind fun t287 => (some (t287, 0))) else ((bodkinref02_bit.f k bt283.1 (wrap64 (x0 - 1))).bind fun t288 => (if t288 = 1 then (some (0, 42)) else (some (bt283.1, 0)))))))))
def bodkinref02_divided.f (k : Nat) (a0 : Int) (a1 : Int) (a2 : Int) (a3 : Int) (a4 : Int) (a5 : Int) : Option (Int × Int) := if a3 = 0 then (some (0, 41)) else (if a1 = 5 then (bodkinref02_divided.j0 k a0 a1 a2 a3 a4 a5 true) else (bodkinref02_divided.j0 k a0 a1 a2 a3 a4 a5 (a1 == 7)))
theorem bodkinref02_divided.mono_l : ∀ k, (∀ y0 y1 y2 y3 y4 y5 y6, LeO (bodkinref02_divided.j0 k y0 y1 y2 y3 y4 y5 y6) (bodkinref02_divided.j0 (k + 1) y0 y1 y2 y3 y4 y5 y6))
 | 0 => fun _ _ _ _ _ _ _ r h => by simp [bodkinref02_divided.j0] at h
 | k + 1 => by
  have ih0 := bodkinref02_divided.mono_l k
  ·intro y0 y1 y2 y3 y4 y5 y6
   unfold bodkinref02_divided.j0
   repeat' first
   | (with_reducible exact ih0 _ _ _ _ _ _ _)
   | (with_reducible exact bodkinref02_Cut.mono _ _ _)
   | (with_reducible exact bodkinref02_bit.mono _ _ _)
   | (with_reducible exact bodkinref02_quo.mono _ _ _)
   | (with_reducible exact LeO.refl _)
   | (with_reducible exact LeO.none _)
   | (with_reducible refine LeO.ite ?_ ?_)
   | (with_reducible refine LeO.bind ?_ (fun _ => ?_))
   | exact ih0 _ _ _ _ _ _ _
   | exact bodkinref02_Cut.mono _ _ _
   | exact bodkinref02_bit.mono _ _ _
   | exact bodkinref02_quo.mono _ _ _
   | exact LeO.none _
   | refine LeO.ite ?_ ?_
   | refine LeO.bind ?_ (fun _ => ?_)
theorem bodkinref02_divided.mono : ∀ a0 a1 a2 a3 a4 a5 k, LeO (bodkinref02_divided.f k a0 a1 a2 a3 a4 a5) (bodkinref02_divided.f (k + 1) a0 a1 a2 a3 a4 a5) := by
 intro a0 a1 a2 a3 a4 a5 k
 have ih0 := bodkinref02_divided.mono_l k
 unfold bodkinref02_divided.f
 repeat' first
   | (with_reducible exact ih0 _ _ _ _ _ _ _)
   | (with_reducible exact bodkinref02_Cut.mono _ _ _)
   | (with_reducible exact bodkinref02_bit.mono _ _ _)
   | (with_reducible exact bodkinref02_quo.mono _ _ _)
   | (with_reducible exact LeO.refl _)
   | (with_reducible exact LeO.none _)
   | (with_reducible refine LeO.ite ?_ ?_)
   | (with_reducible refine LeO.bind ?_ (fun _ => ?_))
   | exact ih0 _ _ _ _ _ _ _
   | exact bodkinref02_Cut.mono _ _ _
   | exact bodkinref02_bit.mono _ _ _
   | exact bodkinref02_quo.mono _ _ _
   | exact LeO.none _
   | refine LeO.ite ?_ ?_
   | refine LeO.bind ?_ (fun _ => ?_)
set_option maxHeartbeats 8000000 in
set_option maxRecDepth 100000 in
theorem bodkinref02_divided.calls (k : Nat) (a0 : Int) (a1 : Int) (a2 : Int) (a3 : Int) (a4 : Int) (a5 : Int) (r1 : Int) (r2 : Int) (w : World) (h : bodkinref02_divided.f k a0 a1 a2 a3 a4 a5 = some (r1, r2)) (hG : GD w := by first | assumption | exact GD.below (by assumption) (by repeat (first | exact Aside0.out (by assumption) | exact Below.refl _ _ | assumption | apply below_alloc | apply pw_below_drewN | apply below_drew1 | refine below_set ?_ (Aside0.out (by assumption))))) :
  Calls Tryz.prog 152 #[.int .i64 a0, .int .i64 a1, .int .u64 a2, .int .u64 a3, .int .i64 a4, .int .i64 a5] w fun e w' => e = .returned (.tuple #[.int .u64 r1, .int .i64 r2]) ∧ Below w.heap.size w w' := by
 have HB := Aside0.mk (Below.refl w.heap.size w)
 have H : (if a3 = 0 then (some (0, 41)) else (if a1 = 5 then (bodkinref02_divided.j0 k a0 a1 a2 a3 a4 a5 true) else (bodkinref02_divided.j0 k a0 a1 a2 a3 a4 a5 (a1 == 7)))) = some (r1, r2) := h
 clear h
 by_cases c7 : a3 = 0
 ·rw [if_pos c7] at H
  have c7b0 : (a3 == 0) = true := beq_iff_eq.mpr c7
  have c7b1 : (a3 != 0) = false := bne_eq_false_iff_eq.mpr c7
  clear c7
  simp only [Option.some.injEq, Prod.mk.injEq] at H
  obtain ⟨rfl, rfl⟩ := H
  go_enter Tryz.func152, Tryz.ntmps152
  go_wp2
  go_ret2
  exact ⟨er_, bl_⟩
 ·rw [if_neg c7] at H
  have c7b0 : (a3 == 0) = false := beq_eq_false_iff_ne.mpr c7
  have c7b1 : (a3 != 0) = true := bne_iff_ne.mpr c7
  have HC8 := Aside0.mk H
  clear H
  go_enter Tryz.func152, Tryz.ntmps152
  go_upto_region 3 with (fail)
  go_cut [25] (fun v25 wc => ∃ (kq : Nat) (x25_7 : Bool), v25 = .bool x25_7 ∧ Aside0 (bodkinref02_divided.j0 kq a0 a1 a2 a3 a4 a5 x25_7 = some (r1, r2)) ∧ Aside0 (kq ≤ k) ∧ Aside0 (Below w.heap.size w wc))
  case first =>
   have H := HC8.out
   clear HC8
   by_cases c9 : a1 = 5
   ·rw [if_pos c9] at H
    have c9b0 : (a1 == 5) = true := beq_iff_eq.mpr c9
    have c9b1 : (a1 != 5) = false := bne_eq_false_iff_eq.mpr c9
    clear c9
    (first | rw [c9b0] | (simp only [i64_w, i32_w]; rw [c9b0]) | skip)
    have H' := Aside0.mk H
    clear H
    go_wp2
    go_meet
    case rel => exact ⟨_, (true), rs_, H', ⟨by first | omega | exact Nat.le_refl _⟩, ⟨bl_⟩⟩
   ·rw [if_neg c9] at H
    have c9b0 : (a1 == 5) = false := beq_eq_false_iff_ne.mpr c9
    have c9b1 : (a1 != 5) = true := bne_iff_ne.mpr c9
    (first | rw [c9b0] | (simp only [i64_w, i32_w]; rw [c9b0]) | skip)
    have H' := Aside0.mk H
    clear H
    go_wp2
    go_meet
    case rel => exact ⟨_, ((a1 == 7)), rs_, H', ⟨by first | omega | exact Nat.le_refl _⟩, ⟨bl_⟩⟩
  case rest =>
   clear HC8
   (try clear c1); (try clear p2); (try clear c7); (try clear c7b0); (try clear c7b1); (try clear c9); (try clear c9b0); (try clear c9b1)
   obtain ⟨kq, x25_7, rfl, HA, HJ7, HB⟩ := hcut
   cases kq with
   | zero => exact absurd HA.out (by simp [bodkinref02_divided.j0])
   | succ kj7 =>
    have H := HA.out
    clear HA
    simp only [bodkinref02_divided.j0] at H
    by_cases c10 : x25_7 = true
    ·subst c10
     have H1 : ((bodkinref02_quo.f kj7 a2 a3).bind fun bt279 => (if a1 = 5 then (some (bt279.1, 0)) else (some (bt279.2, 0)))) = some (r1, r2) := by rw [if_pos rfl] at H; exact H
     clear H
     have H := H1
     clear H1
     replace H := Option.bind_eq_some_iff.mp H
     obtain ⟨⟨t279, t280⟩, A110, H⟩ := H
     replace H : (if a1 = 5 then (some (t279, 0)) else (some (t280, 0))) = some (r1, r2) := H
     have A11 := Aside0.mk A110
     clear A110
     by_cases c12 : a1 = 5
     ·rw [if_pos c12] at H
      have c12b0 : (a1 == 5) = true := beq_iff_eq.mpr c12
      have c12b1 : (a1 != 5) = false := bne_eq_false_iff_eq.mpr c12
      clear c12
      simp only [Option.some.injEq, Prod.mk.injEq] at H
      obtain ⟨rfl, rfl⟩ := H
      go_wp2_with (first | ((with_reducible refine gate_callee (f := 203) rfl ?_); refine goesL_ (some 29) rfl rfl Tryz.func203 (by kernel_rfl) rfl #[.int .u64 a2, .int .u64 a3] rfl mp_ ?_; (with_reducible refine (bodkinref02_quo.calls kj7 a2 a3 t279 t280 _ A11.out).mono ?_); rintro e w13 ⟨rfl, hb⟩; refine ⟨_, rfl, ?_⟩; have n0_ := Aside0.mk (below_step bl_ hb); clear HB; have HB := n0_; clear n0_; (try clear hb); (try clear hb2); (try clear hk); (try clear hi)))
      go_ret2
      exact ⟨er_, bl_⟩
     ·rw [if_neg c12] at H
      have c12b0 : (a1 == 5) = false := beq_eq_false_iff_ne.mpr c12
      have c12b1 : (a1 != 5) = true := bne_iff_ne.mpr c12
      simp only [Option.some.injEq, Prod.mk.injEq] at H
      obtain ⟨rfl, rfl⟩ := H
      go_wp2_with (first | ((with_reducible refine gate_callee (f := 203) rfl ?_); refine goesL_ (some 29) rfl rfl Tryz.func203 (by kernel_rfl) rfl #[.int .u64 a2, .int .u64 a3] rfl mp_ ?_; (with_reducible refine (bodkinref02_quo.calls kj7 a2 a3 t279 t280 _ A11.out).mono ?_); rintro e w14 ⟨rfl, hb⟩; refine ⟨_, rfl, ?_⟩; have n0_ := Aside0.mk (below_step bl_ hb); clear HB; have HB := n0_; clear n0_; (try clear hb); (try clear hb2); (try clear hk); (try clear hi)))
      go_ret2
      exact ⟨er_, bl_⟩
    ·replace c10 := Bool.eq_false_iff.mpr c10
     subst c10
     have H1 : ((bodkinref02_size.f a4).bind fun t281 => ((bodkinref02_size.f a5).bind fun t282 => ((bodkinref02_quo.f kj7 t281 t282).bind fun bt283 => (if a1 = 6 then (if a4 < 0 then ((bodkinref02_Cut.f kj7 a0 (IntKind.u64.wrap (-bt283.2))).bind fun t285 => (some (t285, 0))) else ((bodkinref02_Cut.f kj7 a0 bt283.2).bind fun t286 => (some (t286, 0)))) else (if ((decide (a4 < 0)) != (decide (a5 < 0))) = true then ((bodkinref02_Cut.f kj7 a0 (IntKind.u64.wrap (-bt283.1))).bind fun t287 => (some (t287, 0))) else ((bodkinref02_bit.f kj7 bt283.1 (wrap64 (a0 - 1))).bind fun t288 => (if t288 = 1 then (some (0, 42)) else (some (bt283.1, 0))))))))) = some (r1, r2) := by rw [if_neg (show ¬ (false = true) by decide)] at H; exact H
     clear H
     have H := H1
     clear H1
     replace H := Option.bind_eq_some_iff.mp H
     obtain ⟨t281, A150, H⟩ := H
     replace H : ((bodkinref02_size.f a5).bind fun t282 => ((bodkinref02_quo.f kj7 t281 t282).bind fun bt283 => (if a1 = 6 then (if a4 < 0 then ((bodkinref02_Cut.f kj7 a0 (IntKind.u64.wrap (-bt283.2))).bind fun t285 => (some (t285, 0))) else ((bodkinref02_Cut.f kj7 a0 bt283.2).bind fun t286 => (some (t286, 0)))) else (if ((decide (a4 < 0)) != (decide (a5 < 0))) = true then ((bodkinref02_Cut.f kj7 a0 (IntKind.u64.wrap (-bt283.1))).bind fun t287 => (some (t287, 0))) else ((bodkinref02_bit.f kj7 bt283.1 (wrap64 (a0 - 1))).bind fun t288 => (if t288 = 1 then (some (0, 42)) else (some (bt283.1, 0)))))))) = some (r1, r2) := H
     have A15 := Aside0.mk A150
     clear A150
     replace H := Option.bind_eq_some_iff.mp H
     obtain ⟨t282, A160, H⟩ := H
     replace H : ((bodkinref02_quo.f kj7 t281 t282).bind fun bt283 => (if a1 = 6 then (if a4 < 0 then ((bodkinref02_Cut.f kj7 a0 (IntKind.u64.wrap (-bt283.2))).bind fun t285 => (some (t285, 0))) else ((bodkinref02_Cut.f kj7 a0 bt283.2).bind fun t286 => (some (t286, 0)))) else (if ((decide (a4 < 0)) != (decide (a5 < 0))) = true then ((bodkinref02_Cut.f kj7 a0 (IntKind.u64.wrap (-bt283.1))).bind fun t287 => (some (t287, 0))) else ((bodkinref02_bit.f kj7 bt283.1 (wrap64 (a0 - 1))).bind fun t288 => (if t288 = 1 then (some (0, 42)) else (some (bt283.1, 0))))))) = some (r1, r2) := H
     have A16 := Aside0.mk A160
     clear A160
     replace H := Option.bind_eq_some_iff.mp H
     obtain ⟨⟨t283, t284⟩, A170, H⟩ := H
     replace H : (if a1 = 6 then (if a4 < 0 then ((bodkinref02_Cut.f kj7 a0 (IntKind.u64.wrap (-t284))).bind fun t285 => (some (t285, 0))) else ((bodkinref02_Cut.f kj7 a0 t284).bind fun t286 => (some (t286, 0)))) else (if ((decide (a4 < 0)) != (decide (a5 < 0))) = true then ((bodkinref02_Cut.f kj7 a0 (IntKind.u64.wrap (-t283))).bind fun t287 => (some (t287, 0))) else ((bodkinref02_bit.f kj7 t283 (wrap64 (a0 - 1))).bind fun t288 => (if t288 = 1 then (some (0, 42)) else (some (t283, 0)))))) = some (r1, r2) := H
     have A17 := Aside0.mk A170
     clear A170
     by_cases c18 : a1 = 6
     ·rw [if_pos c18] at H
      have c18b0 : (a1 == 6) = true := beq_iff_eq.mpr c18
      have c18b1 : (a1 != 6) = false := bne_eq_false_iff_eq.mpr c18
      clear c18
      by_cases c19 : a4 < 0
      ·rw [if_pos c19] at H
       have c19b0 : decide (a4 < 0) = true := decide_eq_true c19
       clear c19
       replace H := Option.bind_eq_some_iff.mp H
       obtain ⟨t285, A200, H⟩ := H
       replace H : (some (t285, 0)) = some (r1, r2) := H
       have A20 := Aside0.mk A200
       clear A200
       simp only [Option.some.injEq, Prod.mk.injEq] at H
       obtain ⟨rfl, rfl⟩ := H
       go_wp2_with (first | ((with_reducible refine gate_callee (f := 204) rfl ?_); refine goesL_ (some 38) rfl rfl Tryz.func204 (by kernel_rfl) rfl #[.int .i64 a4] rfl mp_ ?_; (with_reducible refine (bodkinref02_size.calls a4 t281 _ A15.out).mono ?_); rintro e w' ⟨rfl, ⟨nd, rfl⟩⟩; refine ⟨_, rfl, ?_⟩) | ((with_reducible refine gate_callee (f := 204) rfl ?_); refine goesL_ (some 40) rfl rfl Tryz.func204 (by kernel_rfl) rfl #[.int .i64 a5] rfl mp_ ?_; (with_reducible refine (bodkinref02_size.calls a5 t282 _ A16.out).mono ?_); rintro e w' ⟨rfl, ⟨nd, rfl⟩⟩; refine ⟨_, rfl, ?_⟩) | ((with_reducible refine gate_callee (f := 203) rfl ?_); refine goesL_ (some 41) rfl rfl Tryz.func203 (by kernel_rfl) rfl #[.int .u64 t281, .int .u64 t282] rfl mp_ ?_; (with_reducible refine (bodkinref02_quo.calls kj7 t281 t282 t283 t284 _ A17.out).mono ?_); rintro e w21 ⟨rfl, hb⟩; refine ⟨_, rfl, ?_⟩; have n0_ := Aside0.mk (below_step bl_ hb); clear HB; have HB := n0_; clear n0_; (try clear hb); (try clear hb2); (try clear hk); (try clear hi)) | ((with_reducible refine gate_callee (f := 54) rfl ?_); refine goesL_ (some 52) rfl rfl Tryz.func54 (by kernel_rfl) rfl #[.int .i64 a0, .int .u64 (IntKind.u64.wrap (-t284))] rfl mp_ ?_; (with_reducible refine (bodkinref02_Cut.calls kj7 a0 (IntKind.u64.wrap (-t284)) t285 _ A20.out).mono ?_); rintro e w' ⟨rfl, ⟨nd, rfl⟩⟩; refine ⟨_, rfl, ?_⟩))
       go_ret2
       exact ⟨er_, bl_⟩
      ·rw [if_neg c19] at H
       have c19b0 : decide (a4 < 0) = false := decide_eq_false c19
       clear c19
       replace H := Option.bind_eq_some_iff.mp H
       obtain ⟨t286, A220, H⟩ := H
       replace H : (some (t286, 0)) = some (r1, r2) := H
       have A22 := Aside0.mk A220
       clear A220
       simp only [Option.some.injEq, Prod.mk.injEq] at H
       obtain ⟨rfl, rfl⟩ := H
       go_wp2_with (first | ((with_reducible refine gate_callee (f := 204) rfl ?_); refine goesL_ (some 38) rfl rfl Tryz.func204 (by kernel_rfl) rfl #[.int .i64 a4] rfl mp_ ?_; (with_reducible refine (bodkinref02_size.calls a4 t281 _ A15.out).mono ?_); rintro e w' ⟨rfl, ⟨nd, rfl⟩⟩; refine ⟨_, rfl, ?_⟩) | ((with_reducible refine gate_callee (f := 204) rfl ?_); refine goesL_ (some 40) rfl rfl Tryz.func204 (by kernel_rfl) rfl #[.int .i64 a5] rfl mp_ ?_; (with_reducible refine (bodkinref02_size.calls a5 t282 _ A16.out).mono ?_); rintro e w' ⟨rfl, ⟨nd, rfl⟩⟩; refine ⟨_, rfl, ?_⟩) | ((with_reducible refine gate_callee (f := 203) rfl ?_); refine goesL_ (some 41) rfl rfl Tryz.func203 (by kernel_rfl) rfl #[.int .u64 t281, .int .u64 t282] rfl mp_ ?_; (with_reducible refine (bodkinref02_quo.calls kj7 t281 t282 t283 t284 _ A17.out).mono ?_); rintro e w23 ⟨rfl, hb⟩; refine ⟨_, rfl, ?_⟩; have n0_ := Aside0.mk (below_step bl_ hb); clear HB; have HB := n0_; clear n0_; (try clear hb); (try clear hb2); (try clear hk); (try clear hi)) | ((with_reducible refine gate_callee (f := 54) rfl ?_); refine goesL_ (some 52) rfl rfl Tryz.func54 (by kernel_rfl) rfl #[.int .i64 a0, .int .u64 t284] rfl mp_ ?_; (with_reducible refine (bodkinref02_Cut.calls kj7 a0 t284 t286 _ A22.out).mono ?_); rintro e w' ⟨rfl, ⟨nd, rfl⟩⟩; refine ⟨_, rfl, ?_⟩))
       go_ret2
       exact ⟨er_, bl_⟩
     ·rw [if_neg c18] at H
      have c18b0 : (a1 == 6) = false := beq_eq_false_iff_ne.mpr c18
      have c18b1 : (a1 != 6) = true := bne_iff_ne.mpr c18
      by_cases c24 : ((decide (a4 < 0)) != (decide (a5 < 0))) = true
      ·rw [if_pos c24] at H
       have c24b0 : ((decide (a4 < 0)) != (decide (a5 < 0))) = true := c24
       (try (have c24b1 : decide ((decide (a4 < 0)) = (decide (a5 < 0))) = false := by simpa using c24))
       (try (have c24b2 : ((decide (a4 < 0)) == (decide (a5 < 0))) = false := by simpa using c24))
       (try (have c24b3 : ¬ ((decide (a4 < 0)) = (decide (a5 < 0))) := by simpa using c24))
       clear c24
       replace H := Option.bind_eq_some_iff.mp H
       obtain ⟨t287, A250, H⟩ := H
       replace H : (some (t287, 0)) = some (r1, r2) := H
       have A25 := Aside0.mk A250
       clear A250
       simp only [Option.some.injEq, Prod.mk.injEq] at H
       obtain ⟨rfl, rfl⟩ := H
       go_wp2_with (first | ((with_reducible refine gate_callee (f := 204) rfl ?_); refine goesL_ (some 38) rfl rfl Tryz.func204 (by kernel_rfl) rfl #[.int .i64 a4] rfl mp_ ?_; (with_reducible refine (bodkinref02_size.calls a4 t281 _ A15.out).mono ?_); rintro e w' ⟨rfl, ⟨nd, rfl⟩⟩; refine ⟨_, rfl, ?_⟩) | ((with_reducible refine gate_callee (f := 204) rfl ?_); refine goesL_ (some 40) rfl rfl Tryz.func204 (by kernel_rfl) rfl #[.int .i64 a5] rfl mp_ ?_; (with_reducible refine (bodkinref02_size.calls a5 t282 _ A16.out).mono ?_); rintro e w' ⟨rfl, ⟨nd, rfl⟩⟩; refine ⟨_, rfl, ?_⟩) | ((with_reducible refine gate_callee (f := 203) rfl ?_); refine goesL_ (some 41) rfl rfl Tryz.func203 (by kernel_rfl) rfl #[.int .u64 t281, .int .u64 t282] rfl mp_ ?_; (with_reducible refine (bodkinref02_quo.calls kj7 t281 t282 t283 t284 _ A17.out).mono ?_); rintro e w26 ⟨rfl, hb⟩; refine ⟨_, rfl, ?_⟩; have n0_ := Aside0.mk (below_step bl_ hb); clear HB; have HB := n0_; clear n0_; (try clear hb); (try clear hb2); (try clear hk); (try clear hi)) | ((with_reducible refine gate_callee (f := 54) rfl ?_); refine goesL_ (some 61) rfl rfl Tryz.func54 (by kernel_rfl) rfl #[.int .i64 a0, .int .u64 (IntKind.u64.wrap (-t283))] rfl mp_ ?_; (with_reducible refine (bodkinref02_Cut.calls kj7 a0 (IntKind.u64.wrap (-t283)) t287 _ A25.out).mono ?_); rintro e w' ⟨rfl, ⟨nd, rfl⟩⟩; refine ⟨_, rfl, ?_⟩))
       go_ret2
       exact ⟨er_, bl_⟩
      ·rw [if_neg c24] at H
       have c24b0 : ((decide (a4 < 0)) != (decide (a5 < 0))) = false := by simpa using c24
       (try (have c24b1 : decide ((decide (a4 < 0)) = (decide (a5 < 0))) = true := by simpa using c24))
       (try (have c24b2 : ((decide (a4 < 0)) == (decide (a5 < 0))) = true := by simpa using c24))
       clear c24
       replace H := Option.bind_eq_some_iff.mp H
       obtain ⟨t288, A270, H⟩ := H
       replace H : (if t288 = 1 then (some (0, 42)) else (some (t283, 0))) = some (r1, r2) := H
       have A27 := Aside0.mk A270
       clear A270
       by_cases c28 : t288 = 1
       ·rw [if_pos c28] at H
        have c28b0 : (t288 == 1) = true := beq_iff_eq.mpr c28
        have c28b1 : (t288 != 1) = false := bne_eq_false_iff_eq.mpr c28
        clear c28
        simp only [Option.some.injEq, Prod.mk.injEq] at H
        obtain ⟨rfl, rfl⟩ := H
        go_wp2_with (first | ((with_reducible refine gate_callee (f := 204) rfl ?_); refine goesL_ (some 38) rfl rfl Tryz.func204 (by kernel_rfl) rfl #[.int .i64 a4] rfl mp_ ?_; (with_reducible refine (bodkinref02_size.calls a4 t281 _ A15.out).mono ?_); rintro e w' ⟨rfl, ⟨nd, rfl⟩⟩; refine ⟨_, rfl, ?_⟩) | ((with_reducible refine gate_callee (f := 204) rfl ?_); refine goesL_ (some 40) rfl rfl Tryz.func204 (by kernel_rfl) rfl #[.int .i64 a5] rfl mp_ ?_; (with_reducible refine (bodkinref02_size.calls a5 t282 _ A16.out).mono ?_); rintro e w' ⟨rfl, ⟨nd, rfl⟩⟩; refine ⟨_, rfl, ?_⟩) | ((with_reducible refine gate_callee (f := 203) rfl ?_); refine goesL_ (some 41) rfl rfl Tryz.func203 (by kernel_rfl) rfl #[.int .u64 t281, .int .u64 t282] rfl mp_ ?_; (with_reducible refine (bodkinref02_quo.calls kj7 t281 t282 t283 t284 _ A17.out).mono ?_); rintro e w29 ⟨rfl, hb⟩; refine ⟨_, rfl, ?_⟩; have n0_ := Aside0.mk (below_step bl_ hb); clear HB; have HB := n0_; clear n0_; (try clear hb); (try clear hb2); (try clear hk); (try clear hi)) | ((with_reducible refine gate_callee (f := 132) rfl ?_); refine goesL_ (some 65) rfl rfl Tryz.func132 (by kernel_rfl) rfl #[.int .u64 t283, .int .i64 (wrap64 (a0 - 1))] rfl mp_ ?_; (with_reducible refine (bodkinref02_bit.calls kj7 t283 (wrap64 (a0 - 1)) t288 _ A27.out).mono ?_); rintro e w' ⟨rfl, ⟨nd, rfl⟩⟩; refine ⟨_, rfl, ?_⟩))
        go_ret2
        exact ⟨er_, bl_⟩
       ·rw [if_neg c28] at H
        have c28b0 : (t288 == 1) = false := beq_eq_false_iff_ne.mpr c28
        have c28b1 : (t288 != 1) = true := bne_iff_ne.mpr c28
        simp only [Option.some.injEq, Prod.mk.injEq] at H
        obtain ⟨rfl, rfl⟩ := H
        go_wp2_with (first | ((with_reducible refine gate_callee (f := 204) rfl ?_); refine goesL_ (some 38) rfl rfl Tryz.func204 (by kernel_rfl) rfl #[.int .i64 a4] rfl mp_ ?_; (with_reducible refine (bodkinref02_size.calls a4 t281 _ A15.out).mono ?_); rintro e w' ⟨rfl, ⟨nd, rfl⟩⟩; refine ⟨_, rfl, ?_⟩) | ((with_reducible refine gate_callee (f := 204) rfl ?_); refine goesL_ (some 40) rfl rfl Tryz.func204 (by kernel_rfl) rfl #[.int .i64 a5] rfl mp_ ?_; (with_reducible refine (bodkinref02_size.calls a5 t282 _ A16.out).mono ?_); rintro e w' ⟨rfl, ⟨nd, rfl⟩⟩; refine ⟨_, rfl, ?_⟩) | ((with_reducible refine gate_callee (f := 203) rfl ?_); refine goesL_ (some 41) rfl rfl Tryz.func203 (by kernel_rfl) rfl #[.int .u64 t281, .int .u64 t282] rfl mp_ ?_; (with_reducible refine (bodkinref02_quo.calls kj7 t281 t282 t283 t284 _ A17.out).mono ?_); rintro e w30 ⟨rfl, hb⟩; refine ⟨_, rfl, ?_⟩; have n0_ := Aside0.mk (below_step bl_ hb); clear HB; have HB := n0_; clear n0_; (try clear hb); (try clear hb2); (try clear hk); (try clear hi)) | ((with_reducible refine gate_callee (f := 132) rfl ?_); refine goesL_ (some 65) rfl rfl Tryz.func132 (by kernel_rfl) rfl #[.int .u64 t283, .int .i64 (wrap64 (a0 - 1))] rfl mp_ ?_; (with_reducible refine (bodkinref02_bit.calls kj7 t283 (wrap64 (a0 - 1)) t288 _ A27.out).mono ?_); rintro e w' ⟨rfl, ⟨nd, rfl⟩⟩; refine ⟨_, rfl, ?_⟩))
        go_ret2
        exact ⟨er_, bl_⟩
end Go.Proofs.YtkhhhceeoljheaaGreatDoor.PInt

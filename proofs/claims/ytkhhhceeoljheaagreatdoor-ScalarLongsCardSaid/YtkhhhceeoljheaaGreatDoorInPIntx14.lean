import Derived.Test.YtkhhhceeoljheaaGreatDoorInPIntx10
namespace Go.Proofs.YtkhhhceeoljheaaGreatDoor.PInt
open Go.RowKit Go.Proofs.YtkhhhceeoljheaaGreatDoorW.PrintWords Go.Proofs.YtkhhhceeoljheaaGreatDoorW.PrintLast Go.Proofs.YtkhhhceeoljheaaGreatDoorW.PrintMore
attribute [local go_sem] max2_int min2_int max_two min_two max_three min_three max_four min_four   
set_option linter.unusedVariables false
set_option linter.unusedSimpArgs false
def bodkinref03_Rel.f (a0 : Int) (a1 : Int) (a2 : Int) (a3 : Int) : Option (Bool × Int) := none
def bodkinref03_Un.f (a0 : Int) (a1 : Int) (a2 : Int) : Option (Int × Int) := none
def bodkinref03_Bin.f (a0 : Int) (a1 : Int) (a2 : Int) (a3 : Int) : Option (Int × Int) := none
def bodkinref02_Rel.f (a0 : Int) (a1 : Int) (a2 : Int) (a3 : Int) : Option (Bool × Int) := none
theorem bodkinref02_Rel.calls (a0 : Int) (a1 : Int) (a2 : Int) (a3 : Int) (r1 : Bool) (r2 : Int) (w : World) (h : bodkinref02_Rel.f a0 a1 a2 a3 = some (r1, r2)) (hG : GD w := by first | assumption | exact GD.below (by assumption) (by repeat (first | exact Aside0.out (by assumption) | exact Below.refl _ _ | assumption | apply below_alloc | apply pw_below_drewN | apply below_drew1 | refine below_set ?_ (Aside0.out (by assumption))))) :
  Calls Tryz.prog 64 #[.int .i64 a0, .int .i64 a1, .int .u64 a2, .int .u64 a3] w fun e w' => e = .returned (.tuple #[.bool r1, .int .i64 r2]) ∧ Drawn0 w w' := by
 cases h
mutual
def bodkinref02_Un.j0 : Nat → Int → Int → Int → Bool → Option (Int × Int)
 | 0, _, _, _, _ => none
 | k + 1, x0, x1, x2, x51 => if x51 = true then (some (0, 1)) else ((bodkinref02_Cut.f k x0 x2).bind fun t335 => ((bodkinref02_list.f k x0 t335).bind fun t336 => (if x1 = 1 then (bodkinref02_Un.l0 k t336 0 (wrap64 (x0 - 1))) else (if x1 = 2 then (bodkinref02_Un.l1 k x0 t336 0 0) else (if x1 = 3 then (bodkinref02_Un.l2 k x0 t336 0 0) else (if x1 = 4 then (none) else (if x1 = 5 then (none) else (if x1 = 6 then (none) else (if x1 = 7 then (none) else ((bodkinref02_Cut.f k x0 (IntKind.u64.wrap (-t335))).bind fun t342 => (some (t342, 0))))))))))))
def bodkinref02_Un.l0 : Nat → List Int → Int → Int → Option (Int × Int)
 | 0, _, _, _ => none
 | k + 1, x9, x10, x11 => if x11 ≥ 0 then (if 0 ≤ x11 then (if x11 < (x9.length : Int) then (if (rd x9 x11) = 0 then (bodkinref02_Un.l0 k x9 (IntKind.u64.wrap (x10 + 1)) (wrap64 (x11 - 1))) else (some (x10, 0))) else (none)) else (none)) else (some (x10, 0))
def bodkinref02_Un.l1 : Nat → Int → List Int → Int → Int → Option (Int × Int)
 | 0, _, _, _, _ => none
 | k + 1, x0, x9, x10, x12 => if x12 < x0 then (if 0 ≤ x12 then (if x12 < (x9.length : Int) then (if (rd x9 x12) = 0 then (bodkinref02_Un.l1 k x0 x9 (IntKind.u64.wrap (x10 + 1)) (wrap64 (x12 + 1))) else (some (x10, 0))) else (none)) else (none)) else (some (x10, 0))
def bodkinref02_Un.l2 : Nat → Int → List Int → Int → Int → Option (Int × Int)
 | 0, _, _, _, _ => none
 | k + 1, x0, x9, x10, x13 => if x13 < x0 then (if 0 ≤ x13 then (if x13 < (x9.length : Int) then (bodkinref02_Un.l2 k x0 x9 (IntKind.u64.wrap (x10 + (rd x9 x13))) (wrap64 (x13 + 1))) else (none)) else (none)) else (some (x10, 0))
end
def bodkinref02_Un.f (k : Nat) (a0 : Int) (a1 : Int) (a2 : Int) : Option (Int × Int) := (bodkinref02_Right.f a0).bind fun t334 => (if t334 = true then (if a1 < 1 then (bodkinref02_Un.j0 k a0 a1 a2 true) else (if a1 > 8 then (bodkinref02_Un.j0 k a0 a1 a2 true) else (if a1 = 4 then (none) else (if a1 = 5 then (none) else (if a1 = 6 then (none) else (bodkinref02_Un.j0 k a0 a1 a2 false)))))) else (bodkinref02_Un.j0 k a0 a1 a2 true))
theorem bodkinref02_Un.mono_l : ∀ k, (∀ y0 y1 y2 y3, LeO (bodkinref02_Un.j0 k y0 y1 y2 y3) (bodkinref02_Un.j0 (k + 1) y0 y1 y2 y3)) ∧ (∀ y0 y1 y2, LeO (bodkinref02_Un.l0 k y0 y1 y2) (bodkinref02_Un.l0 (k + 1) y0 y1 y2)) ∧ (∀ y0 y1 y2 y3, LeO (bodkinref02_Un.l1 k y0 y1 y2 y3) (bodkinref02_Un.l1 (k + 1) y0 y1 y2 y3)) ∧ (∀ y0 y1 y2 y3, LeO (bodkinref02_Un.l2 k y0 y1 y2 y3) (bodkinref02_Un.l2 (k + 1) y0 y1 y2 y3))
 | 0 => ⟨fun _ _ _ _ r h => by simp [bodkinref02_Un.j0] at h, fun _ _ _ r h => by simp [bodkinref02_Un.l0] at h, fun _ _ _ _ r h => by simp [bodkinref02_Un.l1] at h, fun _ _ _ _ r h => by simp [bodkinref02_Un.l2] at h⟩
 | k + 1 => by
  obtain ⟨ih0, ih1, ih2, ih3⟩ := bodkinref02_Un.mono_l k
  refine ⟨?_, ?_, ?_, ?_⟩
  ·intro y0 y1 y2 y3
   unfold bodkinref02_Un.j0
   repeat' first
   | (with_reducible exact ih0 _ _ _ _)
   | (with_reducible exact ih1 _ _ _)
   | (with_reducible exact ih2 _ _ _ _)
   | (with_reducible exact ih3 _ _ _ _)
   | (with_reducible exact bodkinref02_Cut.mono _ _ _)
   | (with_reducible exact bodkinref02_list.mono _ _ _)
   | (with_reducible exact LeO.refl _)
   | (with_reducible exact LeO.none _)
   | (with_reducible refine LeO.ite ?_ ?_)
   | (with_reducible refine LeO.bind ?_ (fun _ => ?_))
   | exact ih0 _ _ _ _
   | exact ih1 _ _ _
   | exact ih2 _ _ _ _
   | exact ih3 _ _ _ _
   | exact bodkinref02_Cut.mono _ _ _
   | exact bodkinref02_list.mono _ _ _
   | exact LeO.none _
   | refine LeO.ite ?_ ?_
   | refine LeO.bind ?_ (fun _ => ?_)
  ·intro y0 y1 y2
   unfold bodkinref02_Un.l0
   repeat' first
   | (with_reducible exact ih0 _ _ _ _)
   | (with_reducible exact ih1 _ _ _)
   | (with_reducible exact ih2 _ _ _ _)
   | (with_reducible exact ih3 _ _ _ _)
   | (with_reducible exact bodkinref02_Cut.mono _ _ _)
   | (with_reducible exact bodkinref02_list.mono _ _ _)
   | (with_reducible exact LeO.refl _)
   | (with_reducible exact LeO.none _)
   | (with_reducible refine LeO.ite ?_ ?_)
   | (with_reducible refine LeO.bind ?_ (fun _ => ?_))
   | exact ih0 _ _ _ _
   | exact ih1 _ _ _
   | exact ih2 _ _ _ _
   | exact ih3 _ _ _ _
   | exact bodkinref02_Cut.mono _ _ _
   | exact bodkinref02_list.mono _ _ _
   | exact LeO.none _
   | refine LeO.ite ?_ ?_
   | refine LeO.bind ?_ (fun _ => ?_)
  ·intro y0 y1 y2 y3
   unfold bodkinref02_Un.l1
   repeat' first
   | (with_reducible exact ih0 _ _ _ _)
   | (with_reducible exact ih1 _ _ _)
   | (with_reducible exact ih2 _ _ _ _)
   | (with_reducible exact ih3 _ _ _ _)
   | (with_reducible exact bodkinref02_Cut.mono _ _ _)
   | (with_reducible exact bodkinref02_list.mono _ _ _)
   | (with_reducible exact LeO.refl _)
   | (with_reducible exact LeO.none _)
   | (with_reducible refine LeO.ite ?_ ?_)
   | (with_reducible refine LeO.bind ?_ (fun _ => ?_))
   | exact ih0 _ _ _ _
   | exact ih1 _ _ _
   | exact ih2 _ _ _ _
   | exact ih3 _ _ _ _
   | exact bodkinref02_Cut.mono _ _ _
   | exact bodkinref02_list.mono _ _ _
   | exact LeO.none _
   | refine LeO.ite ?_ ?_
   | refine LeO.bind ?_ (fun _ => ?_)
  ·intro y0 y1 y2 y3
   unfold bodkinref02_Un.l2
   repeat' first
   | (with_reducible exact ih0 _ _ _ _)
   | (with_reducible exact ih1 _ _ _)
   | (with_reducible exact ih2 _ _ _ _)
   | (with_reducible exact ih3 _ _ _ _)
   | (with_reducible exact bodkinref02_Cut.mono _ _ _)
   | (with_reducible exact bodkinref02_list.mono _ _ _)
   | (with_reducible exact LeO.refl _)
   | (with_reducible exact LeO.none _)
   | (with_reducible refine LeO.ite ?_ ?_)
   | (with_reducible refine LeO.bind ?_ (fun _ => ?_))
   | exact ih0 _ _ _ _
   | exact ih1 _ _ _
   | exact ih2 _ _ _ _
   | exact ih3 _ _ _ _
   | exact bodkinref02_Cut.mono _ _ _
   | exact bodkinref02_list.mono _ _ _
   | exact LeO.none _
   | refine LeO.ite ?_ ?_
   | refine LeO.bind ?_ (fun _ => ?_)
theorem bodkinref02_Un.mono : ∀ a0 a1 a2 k, LeO (bodkinref02_Un.f k a0 a1 a2) (bodkinref02_Un.f (k + 1) a0 a1 a2) := by
 intro a0 a1 a2 k
 obtain ⟨ih0, ih1, ih2, ih3⟩ := bodkinref02_Un.mono_l k
 unfold bodkinref02_Un.f
 repeat' first
   | (with_reducible exact ih0 _ _ _ _)
   | (with_reducible exact ih1 _ _ _)
   | (with_reducible exact ih2 _ _ _ _)
   | (with_reducible exact ih3 _ _ _ _)
   | (with_reducible exact bodkinref02_Cut.mono _ _ _)
   | (with_reducible exact bodkinref02_list.mono _ _ _)
   | (with_reducible exact LeO.refl _)
   | (with_reducible exact LeO.none _)
   | (with_reducible refine LeO.ite ?_ ?_)
   | (with_reducible refine LeO.bind ?_ (fun _ => ?_))
   | exact ih0 _ _ _ _
   | exact ih1 _ _ _
   | exact ih2 _ _ _ _
   | exact ih3 _ _ _ _
   | exact bodkinref02_Cut.mono _ _ _
   | exact bodkinref02_list.mono _ _ _
   | exact LeO.none _
   | refine LeO.ite ?_ ?_
   | refine LeO.bind ?_ (fun _ => ?_)
set_option maxHeartbeats 8000000 in
set_option maxRecDepth 100000 in
theorem bodkinref02_Un.calls (k : Nat) (a0 : Int) (a1 : Int) (a2 : Int) (r1 : Int) (r2 : Int) (w : World) (h : bodkinref02_Un.f k a0 a1 a2 = some (r1, r2)) (hG : GD w := by first | assumption | exact GD.below (by assumption) (by repeat (first | exact Aside0.out (by assumption) | exact Below.refl _ _ | assumption | apply below_alloc | apply pw_below_drewN | apply below_drew1 | refine below_set ?_ (Aside0.out (by assumption))))) :
  Calls Tryz.prog 65 #[.int .i64 a0, .int .i64 a1, .int .u64 a2] w fun e w' => e = .returned (.tuple #[.int .u64 r1, .int .i64 r2]) ∧ Below w.heap.size w w' := by
 have HB := Aside0.mk (Below.refl w.heap.size w)
 have H : ((bodkinref02_Right.f a0).bind fun t334 => (if t334 = true then (if a1 < 1 then (bodkinref02_Un.j0 k a0 a1 a2 true) else (if a1 > 8 then (bodkinref02_Un.j0 k a0 a1 a2 true) else (if a1 = 4 then (none) else (if a1 = 5 then (none) else (if a1 = 6 then (none) else (bodkinref02_Un.j0 k a0 a1 a2 false)))))) else (bodkinref02_Un.j0 k a0 a1 a2 true))) = some (r1, r2) := h
 clear h
 replace H := Option.bind_eq_some_iff.mp H
 obtain ⟨t334, A40, H⟩ := H
 replace H : (if t334 = true then (if a1 < 1 then (bodkinref02_Un.j0 k a0 a1 a2 true) else (if a1 > 8 then (bodkinref02_Un.j0 k a0 a1 a2 true) else (if a1 = 4 then (none) else (if a1 = 5 then (none) else (if a1 = 6 then (none) else (bodkinref02_Un.j0 k a0 a1 a2 false)))))) else (bodkinref02_Un.j0 k a0 a1 a2 true)) = some (r1, r2) := H
 have A4 := Aside0.mk A40
 clear A40
 have HC5 := Aside0.mk H
 clear H
 go_enter Tryz.func65, Tryz.ntmps65
 go_upto_region 2 with (first | ((with_reducible refine gate_callee (f := 131) rfl ?_); refine goesL_ (some 17) rfl rfl Tryz.func131 (by kernel_rfl) rfl #[.int .i64 a0] rfl mp_ ?_; (with_reducible refine (bodkinref02_Right.calls a0 t334 _ A4.out).mono ?_); rintro e w' ⟨rfl, ⟨nd, rfl⟩⟩; refine ⟨_, rfl, ?_⟩))
 (try simp only [Act.put, List.setIfInBounds_toArray, List.set_cons_zero, List.set_cons_succ])
 go_cut [51] (fun v51 wc => ∃ (kq : Nat) (x51_4 : Bool), v51 = .bool x51_4 ∧ Aside0 (bodkinref02_Un.j0 kq a0 a1 a2 x51_4 = some (r1, r2)) ∧ Aside0 (kq ≤ k) ∧ Aside0 (Below w.heap.size w wc))
 case first =>
  have H := HC5.out
  clear HC5
  by_cases c6 : t334 = true
  ·subst c6
   have H1 : (if a1 < 1 then (bodkinref02_Un.j0 k a0 a1 a2 true) else (if a1 > 8 then (bodkinref02_Un.j0 k a0 a1 a2 true) else (if a1 = 4 then (none) else (if a1 = 5 then (none) else (if a1 = 6 then (none) else (bodkinref02_Un.j0 k a0 a1 a2 false)))))) = some (r1, r2) := by rw [if_pos rfl] at H; exact H
   clear H
   have H := H1
   clear H1
   by_cases c7 : a1 < 1
   ·rw [if_pos c7] at H
    have c7b0 : decide (a1 < 1) = true := decide_eq_true c7
    clear c7
    (first | rw [c7b0] | (simp only [i64_w, i32_w]; rw [c7b0]) | skip)
    have H' := Aside0.mk H
    clear H
    go_wp2
    go_meet
    case rel => exact ⟨_, (true), rs_, H', ⟨by first | omega | exact Nat.le_refl _⟩, ⟨bl_⟩⟩
   ·rw [if_neg c7] at H
    have c7b0 : decide (a1 < 1) = false := decide_eq_false c7
    clear c7
    (first | rw [c7b0] | (simp only [i64_w, i32_w]; rw [c7b0]) | skip)
    by_cases c8 : a1 > 8
    ·rw [if_pos c8] at H
     have c8b0 : decide (8 < a1) = true := decide_eq_true c8
     clear c8
     have H' := Aside0.mk H
     clear H
     go_wp2
     go_meet
     case rel => exact ⟨_, (true), rs_, H', ⟨by first | omega | exact Nat.le_refl _⟩, ⟨bl_⟩⟩
    ·rw [if_neg c8] at H
     have c8b0 : decide (8 < a1) = false := decide_eq_false c8
     clear c8
     by_cases c9 : a1 = 4
     ·rw [if_pos c9] at H
      exact absurd H (by simp)
     ·rw [if_neg c9] at H
      have c9b0 : (a1 == 4) = false := beq_eq_false_iff_ne.mpr c9
      have c9b1 : (a1 != 4) = true := bne_iff_ne.mpr c9
      by_cases c10 : a1 = 5
      ·rw [if_pos c10] at H
       exact absurd H (by simp)
      ·rw [if_neg c10] at H
       have c10b0 : (a1 == 5) = false := beq_eq_false_iff_ne.mpr c10
       have c10b1 : (a1 != 5) = true := bne_iff_ne.mpr c10
       by_cases c11 : a1 = 6
       ·rw [if_pos c11] at H
        exact absurd H (by simp)
       ·rw [if_neg c11] at H
        have c11b0 : (a1 == 6) = false := beq_eq_false_iff_ne.mpr c11
        have c11b1 : (a1 != 6) = true := bne_iff_ne.mpr c11
        have H' := Aside0.mk H
        clear H
        go_wp2
        go_meet
        case rel => exact ⟨_, (false), rs_, H', ⟨by first | omega | exact Nat.le_refl _⟩, ⟨bl_⟩⟩
  ·replace c6 := Bool.eq_false_iff.mpr c6
   subst c6
   have H1 : (bodkinref02_Un.j0 k a0 a1 a2 true) = some (r1, r2) := by rw [if_neg (show ¬ (false = true) by decide)] at H; exact H
   clear H
   have H := H1
   clear H1
   have H' := Aside0.mk H
   clear H
   go_wp2
   go_meet
   case rel => exact ⟨_, (true), rs_, H', ⟨by first | omega | exact Nat.le_refl _⟩, ⟨bl_⟩⟩
 case rest =>
  clear HC5
  (try clear c1); (try clear p2); (try clear c6); (try clear c7); (try clear c7b0); (try clear c8); (try clear c8b0); (try clear c9); (try clear c9b0); (try clear c9b1); (try clear c10); (try clear c10b0); (try clear c10b1); (try clear c11); (try clear c11b0); (try clear c11b1)
  obtain ⟨kq, x51_4, rfl, HA, HJ4, HB⟩ := hcut
  cases kq with
  | zero => exact absurd HA.out (by simp [bodkinref02_Un.j0])
  | succ kj4 =>
   have H := HA.out
   clear HA
   simp only [bodkinref02_Un.j0] at H
   by_cases c12 : x51_4 = true
   ·subst c12
    have H1 : (some (0, 1)) = some (r1, r2) := by rw [if_pos rfl] at H; exact H
    clear H
    have H := H1
    clear H1
    simp only [Option.some.injEq, Prod.mk.injEq] at H
    obtain ⟨rfl, rfl⟩ := H
    go_wp2
    go_ret2
    exact ⟨er_, bl_⟩
   ·replace c12 := Bool.eq_false_iff.mpr c12
    subst c12
    have H1 : ((bodkinref02_Cut.f kj4 a0 a2).bind fun t335 => ((bodkinref02_list.f kj4 a0 t335).bind fun t336 => (if a1 = 1 then (bodkinref02_Un.l0 kj4 t336 0 (wrap64 (a0 - 1))) else (if a1 = 2 then (bodkinref02_Un.l1 kj4 a0 t336 0 0) else (if a1 = 3 then (bodkinref02_Un.l2 kj4 a0 t336 0 0) else (if a1 = 4 then (none) else (if a1 = 5 then (none) else (if a1 = 6 then (none) else (if a1 = 7 then (none) else ((bodkinref02_Cut.f kj4 a0 (IntKind.u64.wrap (-t335))).bind fun t342 => (some (t342, 0)))))))))))) = some (r1, r2) := by rw [if_neg (show ¬ (false = true) by decide)] at H; exact H
    clear H
    have H := H1
    clear H1
    replace H := Option.bind_eq_some_iff.mp H
    obtain ⟨t335, A130, H⟩ := H
    replace H : ((bodkinref02_list.f kj4 a0 t335).bind fun t336 => (if a1 = 1 then (bodkinref02_Un.l0 kj4 t336 0 (wrap64 (a0 - 1))) else (if a1 = 2 then (bodkinref02_Un.l1 kj4 a0 t336 0 0) else (if a1 = 3 then (bodkinref02_Un.l2 kj4 a0 t336 0 0) else (if a1 = 4 then (none) else (if a1 = 5 then (none) else (if a1 = 6 then (none) else (if a1 = 7 then (none) else ((bodkinref02_Cut.f kj4 a0 (IntKind.u64.wrap (-t335))).bind fun t342 => (some (t342, 0))))))))))) = some (r1, r2) := H
    have A13 := Aside0.mk A130
    clear A130
    replace H := Option.bind_eq_some_iff.mp H
    obtain ⟨t336, A140, H⟩ := H
    replace H : (if a1 = 1 then (bodkinref02_Un.l0 kj4 t336 0 (wrap64 (a0 - 1))) else (if a1 = 2 then (bodkinref02_Un.l1 kj4 a0 t336 0 0) else (if a1 = 3 then (bodkinref02_Un.l2 kj4 a0 t336 0 0) else (if a1 = 4 then (none) else (if a1 = 5 then (none) else (if a1 = 6 then (none) else (if a1 = 7 then (none) else ((bodkinref02_Cut.f kj4 a0 (IntKind.u64.wrap (-t335))).bind fun t342 => (some (t342, 0)))))))))) = some (r1, r2) := H
    have A14 := Aside0.mk A140
    clear A140
    by_cases c15 : a1 = 1
    ·rw [if_pos c15] at H
     have c15b0 : (a1 == 1) = true := beq_iff_eq.mpr c15
     have c15b1 : (a1 != 1) = false := bne_eq_false_iff_eq.mpr c15
     clear c15
     have H' := Aside0.mk H
     clear H
     go_wp2_with (first | ((with_reducible refine gate_callee (f := 54) rfl ?_); refine goesL_ (some 54) rfl rfl Tryz.func54 (by kernel_rfl) rfl #[.int .i64 a0, .int .u64 a2] rfl mp_ ?_; (with_reducible refine (bodkinref02_Cut.calls kj4 a0 a2 t335 _ A13.out).mono ?_); rintro e w' ⟨rfl, ⟨nd, rfl⟩⟩; refine ⟨_, rfl, ?_⟩) | ((with_reducible refine gate_callee (f := 150) rfl ?_); refine goesL_ (some 57) rfl rfl Tryz.func150 (by kernel_rfl) rfl #[.int .i64 a0, .int .u64 t335] rfl mp_ ?_; (with_reducible refine (bodkinref02_list.calls kj4 a0 t335 t336 _ A14.out).mono ?_); rintro e w16 ⟨v337, rfl, ho0, hb⟩; refine ⟨_, rfl, ?_⟩; have n0_ := Aside0.mk (Kd.R_lower ho0 (below_size bl_)); have n1_ := Aside0.mk (below_step bl_ hb); clear HB; have HO338 := n0_; have HB := n1_; clear n0_ n1_; (try clear hb); (try clear hb2); (try clear hk); (try clear hi); (try clear ho0)))
     go_loopg [10, 11] kj4 (fun kq v10 v11 w' => ∃ (x10_2 : Int) (x11_2 : Int), v10 = .int .u64 x10_2 ∧ v11 = .int .i64 x11_2 ∧ Aside0 (bodkinref02_Un.l0 kq t336 x10_2 x11_2 = some (r1, r2)) ∧ Aside0 (kq ≤ kj4) ∧ Aside0 (Kd.R (Kd.int .u64) 22 w' w.heap.size (fun _ => True) v337 t336) ∧ Aside0 (Below w.heap.size w w'))
     case atStart => exact ⟨(0), (wrap64 (a0 - 1)), rs_, rs_, H', ⟨Nat.le_refl _⟩, ⟨rl_ HO338⟩, ⟨bl_⟩⟩
     case round =>
      clear H'
      (try clear c1); (try clear p2); (try clear c5); (try clear c6); (try clear p6); (try clear c7); (try clear c7b0); (try clear c8); (try clear c8b0); (try clear c9); (try clear c9b0); (try clear c9b1); (try clear c10); (try clear c10b0); (try clear c10b1); (try clear c11); (try clear c11b0); (try clear c11b1); (try clear c12); (try clear c13); (try clear c15); (try clear c15b0); (try clear c15b1); (try clear p2)
      obtain ⟨x10_2, x11_2, rfl, rfl, HA, HK2, HO_9, HB⟩ := hrel
      cases gk with
      | zero => exact absurd HA.out (by simp [bodkinref02_Un.l0])
      | succ k2 =>
       have H := HA.out
       clear HA
       simp only [bodkinref02_Un.l0] at H
       by_cases c17 : x11_2 ≥ 0
       ·rw [if_pos c17] at H
        have c17b0 : decide (0 ≤ x11_2) = true := decide_eq_true c17
        clear c17
        by_cases c18 : 0 ≤ x11_2
        ·rw [if_pos c18] at H
         have c18b0 : decide (0 ≤ x11_2) = true := decide_eq_true c18
         clear c18
         by_cases c19 : x11_2 < (t336.length : Int)
         ·rw [if_pos c19] at H
          have c19b0 : decide (x11_2 < (t336.length : Int)) = true := decide_eq_true c19
          clear c19
          by_cases c20 : (rd t336 x11_2) = 0
          ·rw [if_pos c20] at H
           have c20b0 : ((rd t336 x11_2) == 0) = true := beq_iff_eq.mpr c20
           have c20b1 : ((rd t336 x11_2) != 0) = false := bne_eq_false_iff_eq.mpr c20
           clear c20
           have H' := Aside0.mk H
           clear H
           obtain ⟨Ao21, co21, eo21⟩ := Kd.R_slice HO_9.out
           subst eo21
           have p339 : 0 ≤ (x11_2 : Int) := od_
           have q339 : x11_2 < (t336.length : Int) := od_
           try (obtain ⟨ga_, ca_, hva_, _, _⟩ := Kd.R_reads HO_9.out; subst hva_)
           obtain ⟨ad339, e339, hx339_0⟩ := Kd.at_int (Kd.R_reads' HO_9.out).2.2 x11_2 p339 q339
           cases e339
           replace p339 := eq_true p339
           replace q339 := eq_true q339
           go_wp2
           go_roundg k2
           case measure => have := HJ4.out; have := HK2.out; omega
           case rel => exact ⟨(IntKind.u64.wrap (x10_2 + 1)), (wrap64 (x11_2 - 1)), rs_, rs_, H', ⟨by have := HJ4.out; have := HK2.out; omega⟩, ⟨rl_ HO_9⟩, ⟨bl_⟩⟩
          ·rw [if_neg c20] at H
           have c20b0 : ((rd t336 x11_2) == 0) = false := beq_eq_false_iff_ne.mpr c20
           have c20b1 : ((rd t336 x11_2) != 0) = true := bne_iff_ne.mpr c20
           simp only [Option.some.injEq, Prod.mk.injEq] at H
           obtain ⟨rfl, rfl⟩ := H
           obtain ⟨Ao22, co22, eo22⟩ := Kd.R_slice HO_9.out
           subst eo22
           have p339 : 0 ≤ (x11_2 : Int) := od_
           have q339 : x11_2 < (t336.length : Int) := od_
           try (obtain ⟨ga_, ca_, hva_, _, _⟩ := Kd.R_reads HO_9.out; subst hva_)
           obtain ⟨ad339, e339, hx339_0⟩ := Kd.at_int (Kd.R_reads' HO_9.out).2.2 x11_2 p339 q339
           cases e339
           replace p339 := eq_true p339
           replace q339 := eq_true q339
           go_wp2
           go_ret2
           exact ⟨er_, bl_⟩
         ·rw [if_neg c19] at H
          exact absurd H (by simp)
        ·rw [if_neg c18] at H
         exact absurd H (by simp)
       ·rw [if_neg c17] at H
        have c17b0 : decide (0 ≤ x11_2) = false := decide_eq_false c17
        clear c17
        simp only [Option.some.injEq, Prod.mk.injEq] at H
        obtain ⟨rfl, rfl⟩ := H
        go_wp2
        go_ret2
        exact ⟨er_, bl_⟩
    ·rw [if_neg c15] at H
     have c15b0 : (a1 == 1) = false := beq_eq_false_iff_ne.mpr c15
     have c15b1 : (a1 != 1) = true := bne_iff_ne.mpr c15
     by_cases c23 : a1 = 2
     ·rw [if_pos c23] at H
      have c23b0 : (a1 == 2) = true := beq_iff_eq.mpr c23
      have c23b1 : (a1 != 2) = false := bne_eq_false_iff_eq.mpr c23
      clear c23
      have H' := Aside0.mk H
      clear H
      go_wp2_with (first | ((with_reducible refine gate_callee (f := 54) rfl ?_); refine goesL_ (some 54) rfl rfl Tryz.func54 (by kernel_rfl) rfl #[.int .i64 a0, .int .u64 a2] rfl mp_ ?_; (with_reducible refine (bodkinref02_Cut.calls kj4 a0 a2 t335 _ A13.out).mono ?_); rintro e w' ⟨rfl, ⟨nd, rfl⟩⟩; refine ⟨_, rfl, ?_⟩) | ((with_reducible refine gate_callee (f := 150) rfl ?_); refine goesL_ (some 57) rfl rfl Tryz.func150 (by kernel_rfl) rfl #[.int .i64 a0, .int .u64 t335] rfl mp_ ?_; (with_reducible refine (bodkinref02_list.calls kj4 a0 t335 t336 _ A14.out).mono ?_); rintro e w24 ⟨v337, rfl, ho0, hb⟩; refine ⟨_, rfl, ?_⟩; have n0_ := Aside0.mk (Kd.R_lower ho0 (below_size bl_)); have n1_ := Aside0.mk (below_step bl_ hb); clear HB; have HO338 := n0_; have HB := n1_; clear n0_ n1_; (try clear hb); (try clear hb2); (try clear hk); (try clear hi); (try clear ho0)))
      go_loopg [10, 12] kj4 (fun kq v10 v12 w' => ∃ (x10_2 : Int) (x12_2 : Int), v10 = .int .u64 x10_2 ∧ v12 = .int .i64 x12_2 ∧ Aside0 (bodkinref02_Un.l1 kq a0 t336 x10_2 x12_2 = some (r1, r2)) ∧ Aside0 (kq ≤ kj4) ∧ Aside0 (Kd.R (Kd.int .u64) 22 w' w.heap.size (fun _ => True) v337 t336) ∧ Aside0 (Below w.heap.size w w'))
      case atStart => exact ⟨(0), (0), rs_, rs_, H', ⟨Nat.le_refl _⟩, ⟨rl_ HO338⟩, ⟨bl_⟩⟩
      case round =>
       clear H'
       (try clear c1); (try clear c2); (try clear p2); (try clear p3); (try clear q3); (try clear hx3); (try clear c5); (try clear c6); (try clear p6); (try clear c7); (try clear c7b0); (try clear c8); (try clear c8b0); (try clear c9); (try clear c9b0); (try clear c9b1); (try clear c10); (try clear c10b0); (try clear c10b1); (try clear c11); (try clear c11b0); (try clear c11b1); (try clear c12); (try clear c13); (try clear c15); (try clear c15b0); (try clear c15b1); (try clear c17); (try clear c17b0); (try clear c18); (try clear c18b0); (try clear c19); (try clear c19b0); (try clear c20); (try clear c20b0); (try clear c20b1); (try clear c23); (try clear c23b0); (try clear c23b1); (try clear hx339_0); (try clear p2); (try clear p339); (try clear p6); (try clear q339)
       obtain ⟨x10_2, x12_2, rfl, rfl, HA, HK2, HO_9, HB⟩ := hrel
       cases gk with
       | zero => exact absurd HA.out (by simp [bodkinref02_Un.l1])
       | succ k2 =>
        have H := HA.out
        clear HA
        simp only [bodkinref02_Un.l1] at H
        by_cases c25 : x12_2 < a0
        ·rw [if_pos c25] at H
         have c25b0 : decide (x12_2 < a0) = true := decide_eq_true c25
         clear c25
         by_cases c26 : 0 ≤ x12_2
         ·rw [if_pos c26] at H
          have c26b0 : decide (0 ≤ x12_2) = true := decide_eq_true c26
          clear c26
          by_cases c27 : x12_2 < (t336.length : Int)
          ·rw [if_pos c27] at H
           have c27b0 : decide (x12_2 < (t336.length : Int)) = true := decide_eq_true c27
           clear c27
           by_cases c28 : (rd t336 x12_2) = 0
           ·rw [if_pos c28] at H
            have c28b0 : ((rd t336 x12_2) == 0) = true := beq_iff_eq.mpr c28
            have c28b1 : ((rd t336 x12_2) != 0) = false := bne_eq_false_iff_eq.mpr c28
            clear c28
            have H' := Aside0.mk H
            clear H
            obtain ⟨Ao29, co29, eo29⟩ := Kd.R_slice HO_9.out
            subst eo29
            have p340 : 0 ≤ (x12_2 : Int) := od_
            have q340 : x12_2 < (t336.length : Int) := od_
            try (obtain ⟨ga_, ca_, hva_, _, _⟩ := Kd.R_reads HO_9.out; subst hva_)
            obtain ⟨ad340, e340, hx340_0⟩ := Kd.at_int (Kd.R_reads' HO_9.out).2.2 x12_2 p340 q340
            cases e340
            replace p340 := eq_true p340
            replace q340 := eq_true q340
            go_wp2
            go_roundg k2
            case measure => have := HJ4.out; have := HK2.out; omega
            case rel => exact ⟨(IntKind.u64.wrap (x10_2 + 1)), (wrap64 (x12_2 + 1)), rs_, rs_, H', ⟨by have := HJ4.out; have := HK2.out; omega⟩, ⟨rl_ HO_9⟩, ⟨bl_⟩⟩
           ·rw [if_neg c28] at H
            have c28b0 : ((rd t336 x12_2) == 0) = false := beq_eq_false_iff_ne.mpr c28
            have c28b1 : ((rd t336 x12_2) != 0) = true := bne_iff_ne.mpr c28
            simp only [Option.some.injEq, Prod.mk.injEq] at H
            obtain ⟨rfl, rfl⟩ := H
            obtain ⟨Ao30, co30, eo30⟩ := Kd.R_slice HO_9.out
            subst eo30
            have p340 : 0 ≤ (x12_2 : Int) := od_
            have q340 : x12_2 < (t336.length : Int) := od_
            try (obtain ⟨ga_, ca_, hva_, _, _⟩ := Kd.R_reads HO_9.out; subst hva_)
            obtain ⟨ad340, e340, hx340_0⟩ := Kd.at_int (Kd.R_reads' HO_9.out).2.2 x12_2 p340 q340
            cases e340
            replace p340 := eq_true p340
            replace q340 := eq_true q340
            go_wp2
            go_ret2
            exact ⟨er_, bl_⟩
          ·rw [if_neg c27] at H
           exact absurd H (by simp)
         ·rw [if_neg c26] at H
          exact absurd H (by simp)
        ·rw [if_neg c25] at H
         have c25b0 : decide (x12_2 < a0) = false := decide_eq_false c25
         clear c25
         simp only [Option.some.injEq, Prod.mk.injEq] at H
         obtain ⟨rfl, rfl⟩ := H
         go_wp2
         go_ret2
         exact ⟨er_, bl_⟩
     ·rw [if_neg c23] at H
      have c23b0 : (a1 == 2) = false := beq_eq_false_iff_ne.mpr c23
      have c23b1 : (a1 != 2) = true := bne_iff_ne.mpr c23
      by_cases c31 : a1 = 3
      ·rw [if_pos c31] at H
       have c31b0 : (a1 == 3) = true := beq_iff_eq.mpr c31
       have c31b1 : (a1 != 3) = false := bne_eq_false_iff_eq.mpr c31
       clear c31
       have H' := Aside0.mk H
       clear H
       go_wp2_with (first | ((with_reducible refine gate_callee (f := 54) rfl ?_); refine goesL_ (some 54) rfl rfl Tryz.func54 (by kernel_rfl) rfl #[.int .i64 a0, .int .u64 a2] rfl mp_ ?_; (with_reducible refine (bodkinref02_Cut.calls kj4 a0 a2 t335 _ A13.out).mono ?_); rintro e w' ⟨rfl, ⟨nd, rfl⟩⟩; refine ⟨_, rfl, ?_⟩) | ((with_reducible refine gate_callee (f := 150) rfl ?_); refine goesL_ (some 57) rfl rfl Tryz.func150 (by kernel_rfl) rfl #[.int .i64 a0, .int .u64 t335] rfl mp_ ?_; (with_reducible refine (bodkinref02_list.calls kj4 a0 t335 t336 _ A14.out).mono ?_); rintro e w32 ⟨v337, rfl, ho0, hb⟩; refine ⟨_, rfl, ?_⟩; have n0_ := Aside0.mk (Kd.R_lower ho0 (below_size bl_)); have n1_ := Aside0.mk (below_step bl_ hb); clear HB; have HO338 := n0_; have HB := n1_; clear n0_ n1_; (try clear hb); (try clear hb2); (try clear hk); (try clear hi); (try clear ho0)))
       go_loopg [10, 13] kj4 (fun kq v10 v13 w' => ∃ (x10_2 : Int) (x13_2 : Int), v10 = .int .u64 x10_2 ∧ v13 = .int .i64 x13_2 ∧ Aside0 (bodkinref02_Un.l2 kq a0 t336 x10_2 x13_2 = some (r1, r2)) ∧ Aside0 (kq ≤ kj4) ∧ Aside0 (Kd.R (Kd.int .u64) 22 w' w.heap.size (fun _ => True) v337 t336) ∧ Aside0 (Below w.heap.size w w'))
       case atStart => exact ⟨(0), (0), rs_, rs_, H', ⟨Nat.le_refl _⟩, ⟨rl_ HO338⟩, ⟨bl_⟩⟩
       case round =>
        clear H'
        (try clear c1); (try clear c2); (try clear p2); (try clear c3); (try clear p3); (try clear q3); (try clear hx3); (try clear c5); (try clear c6); (try clear p6); (try clear c7); (try clear c7b0); (try clear c8); (try clear c8b0); (try clear c9); (try clear c9b0); (try clear c9b1); (try clear c10); (try clear c10b0); (try clear c10b1); (try clear c11); (try clear c11b0); (try clear c11b1); (try clear c12); (try clear c13); (try clear c15); (try clear c15b0); (try clear c15b1); (try clear c17); (try clear c17b0); (try clear c18); (try clear c18b0); (try clear c19); (try clear c19b0); (try clear c20); (try clear c20b0); (try clear c20b1); (try clear c23); (try clear c23b0); (try clear c23b1); (try clear c25); (try clear c25b0); (try clear c26); (try clear c26b0); (try clear c27); (try clear c27b0); (try clear c28); (try clear c28b0); (try clear c28b1); (try clear c31); (try clear c31b0); (try clear c31b1); (try clear hx339_0); (try clear hx340_0); (try clear p2); (try clear p3); (try clear p339); (try clear p340); (try clear p6); (try clear q3); (try clear q339); (try clear q340)
        obtain ⟨x10_2, x13_2, rfl, rfl, HA, HK2, HO_9, HB⟩ := hrel
        cases gk with
        | zero => exact absurd HA.out (by simp [bodkinref02_Un.l2])
        | succ k2 =>
         have H := HA.out
         clear HA
         simp only [bodkinref02_Un.l2] at H
         by_cases c33 : x13_2 < a0
         ·rw [if_pos c33] at H
          have c33b0 : decide (x13_2 < a0) = true := decide_eq_true c33
          clear c33
          by_cases c34 : 0 ≤ x13_2
          ·rw [if_pos c34] at H
           have c34b0 : decide (0 ≤ x13_2) = true := decide_eq_true c34
           clear c34
           by_cases c35 : x13_2 < (t336.length : Int)
           ·rw [if_pos c35] at H
            have c35b0 : decide (x13_2 < (t336.length : Int)) = true := decide_eq_true c35
            clear c35
            have H' := Aside0.mk H
            clear H
            obtain ⟨Ao36, co36, eo36⟩ := Kd.R_slice HO_9.out
            subst eo36
            have p341 : 0 ≤ (x13_2 : Int) := od_
            have q341 : x13_2 < (t336.length : Int) := od_
            try (obtain ⟨ga_, ca_, hva_, _, _⟩ := Kd.R_reads HO_9.out; subst hva_)
            obtain ⟨ad341, e341, hx341_0⟩ := Kd.at_int (Kd.R_reads' HO_9.out).2.2 x13_2 p341 q341
            cases e341
            replace p341 := eq_true p341
            replace q341 := eq_true q341
            go_wp2
            go_roundg k2
            case measure => have := HJ4.out; have := HK2.out; omega
            case rel => exact ⟨(IntKind.u64.wrap (x10_2 + (rd t336 x13_2))), (wrap64 (x13_2 + 1)), rs_, rs_, H', ⟨by have := HJ4.out; have := HK2.out; omega⟩, ⟨rl_ HO_9⟩, ⟨bl_⟩⟩
           ·rw [if_neg c35] at H
            exact absurd H (by simp)
          ·rw [if_neg c34] at H
           exact absurd H (by simp)
         ·rw [if_neg c33] at H
          have c33b0 : decide (x13_2 < a0) = false := decide_eq_false c33
          clear c33
          simp only [Option.some.injEq, Prod.mk.injEq] at H
          obtain ⟨rfl, rfl⟩ := H
          go_wp2
          go_ret2
          exact ⟨er_, bl_⟩
      ·rw [if_neg c31] at H
       have c31b0 : (a1 == 3) = false := beq_eq_false_iff_ne.mpr c31
       have c31b1 : (a1 != 3) = true := bne_iff_ne.mpr c31
       by_cases c37 : a1 = 4
       ·rw [if_pos c37] at H
        exact absurd H (by simp)
       ·rw [if_neg c37] at H
        have c37b0 : (a1 == 4) = false := beq_eq_false_iff_ne.mpr c37
        have c37b1 : (a1 != 4) = true := bne_iff_ne.mpr c37
        by_cases c38 : a1 = 5
        ·rw [if_pos c38] at H
         exact absurd H (by simp)
        ·rw [if_neg c38] at H
         have c38b0 : (a1 == 5) = false := beq_eq_false_iff_ne.mpr c38
         have c38b1 : (a1 != 5) = true := bne_iff_ne.mpr c38
         by_cases c39 : a1 = 6
         ·rw [if_pos c39] at H
          exact absurd H (by simp)
         ·rw [if_neg c39] at H
          have c39b0 : (a1 == 6) = false := beq_eq_false_iff_ne.mpr c39
          have c39b1 : (a1 != 6) = true := bne_iff_ne.mpr c39
          by_cases c40 : a1 = 7
          ·rw [if_pos c40] at H
           exact absurd H (by simp)
          ·rw [if_neg c40] at H
           have c40b0 : (a1 == 7) = false := beq_eq_false_iff_ne.mpr c40
           have c40b1 : (a1 != 7) = true := bne_iff_ne.mpr c40
           replace H := Option.bind_eq_some_iff.mp H
           obtain ⟨t342, A410, H⟩ := H
           replace H : (some (t342, 0)) = some (r1, r2) := H
           have A41 := Aside0.mk A410
           clear A410
           simp only [Option.some.injEq, Prod.mk.injEq] at H
           obtain ⟨rfl, rfl⟩ := H
           go_wp2_with (first | ((with_reducible refine gate_callee (f := 54) rfl ?_); refine goesL_ (some 54) rfl rfl Tryz.func54 (by kernel_rfl) rfl #[.int .i64 a0, .int .u64 a2] rfl mp_ ?_; (with_reducible refine (bodkinref02_Cut.calls kj4 a0 a2 t335 _ A13.out).mono ?_); rintro e w' ⟨rfl, ⟨nd, rfl⟩⟩; refine ⟨_, rfl, ?_⟩) | ((with_reducible refine gate_callee (f := 150) rfl ?_); refine goesL_ (some 57) rfl rfl Tryz.func150 (by kernel_rfl) rfl #[.int .i64 a0, .int .u64 t335] rfl mp_ ?_; (with_reducible refine (bodkinref02_list.calls kj4 a0 t335 t336 _ A14.out).mono ?_); rintro e w42 ⟨v337, rfl, ho0, hb⟩; refine ⟨_, rfl, ?_⟩; have n0_ := Aside0.mk (Kd.R_lower ho0 (below_size bl_)); have n1_ := Aside0.mk (below_step bl_ hb); clear HB; have HO338 := n0_; have HB := n1_; clear n0_ n1_; (try clear hb); (try clear hb2); (try clear hk); (try clear hi); (try clear ho0)) | ((with_reducible refine gate_callee (f := 54) rfl ?_); refine goesL_ (some 145) rfl rfl Tryz.func54 (by kernel_rfl) rfl #[.int .i64 a0, .int .u64 (IntKind.u64.wrap (-t335))] rfl mp_ ?_; (with_reducible refine (bodkinref02_Cut.calls kj4 a0 (IntKind.u64.wrap (-t335)) t342 _ A41.out).mono ?_); rintro e w' ⟨rfl, ⟨nd, rfl⟩⟩; refine ⟨_, rfl, ?_⟩))
           go_ret2
           exact ⟨er_, bl_⟩
def bodkinref06_Do.f (a0 : Int) (l1 : List Int) (l2 : List (S33)) : Option (Int × Int × Int × Bool × Int) := none
def bodkinref07_Bits.f (a0 : Int) : Option (Int) := if a0 = 127 then (some 32) else (if a0 = 125 then (some 32) else (some 64))
set_option maxHeartbeats 8000000 in
set_option maxRecDepth 100000 in
theorem bodkinref07_Bits.calls (a0 : Int) (r : Int) (w : World) (h : bodkinref07_Bits.f a0 = some r) (hG : GD w := by first | assumption | exact GD.below (by assumption) (by repeat (first | exact Aside0.out (by assumption) | exact Below.refl _ _ | assumption | apply below_alloc | apply pw_below_drewN | apply below_drew1 | refine below_set ?_ (Aside0.out (by assumption))))) :
  Calls Tryz.prog 36 #[.int .i64 a0] w fun e w' => e = .returned (.int .i64 r) ∧ Drawn0 w w' := by
 have H : (if a0 = 127 then (some 32) else (if a0 = 125 then (some 32) else (some 64))) = some r := h
 clear h
 by_cases c2 : a0 = 127
 ·rw [if_pos c2] at H
  have c2b0 : (a0 == 127) = true := beq_iff_eq.mpr c2
  have c2b1 : (a0 != 127) = false := bne_eq_false_iff_eq.mpr c2
  clear c2
  obtain rfl := Option.some.inj H
  go_enter Tryz.func36, Tryz.ntmps36
  go_wp2
  go_ret
  exact ⟨by first | rfl | (simp; done) | (simp [*]; done), by repeat (first | exact Drawn0.refl _ | apply Drawn0.step)⟩
 ·rw [if_neg c2] at H
  have c2b0 : (a0 == 127) = false := beq_eq_false_iff_ne.mpr c2
  have c2b1 : (a0 != 127) = true := bne_iff_ne.mpr c2
  by_cases c3 : a0 = 125
  ·rw [if_pos c3] at H
   have c3b0 : (a0 == 125) = true := beq_iff_eq.mpr c3
   have c3b1 : (a0 != 125) = false := bne_eq_false_iff_eq.mpr c3
   clear c3
   obtain rfl := Option.some.inj H
   go_enter Tryz.func36, Tryz.ntmps36
   go_wp2
   go_ret
   exact ⟨by first | rfl | (simp; done) | (simp [*]; done), by repeat (first | exact Drawn0.refl _ | apply Drawn0.step)⟩
  ·rw [if_neg c3] at H
   have c3b0 : (a0 == 125) = false := beq_eq_false_iff_ne.mpr c3
   have c3b1 : (a0 != 125) = true := bne_iff_ne.mpr c3
   obtain rfl := Option.some.inj H
   go_enter Tryz.func36, Tryz.ntmps36
   go_wp2
   go_ret
   exact ⟨by first | rfl | (simp; done) | (simp [*]; done), by repeat (first | exact Drawn0.refl _ | apply Drawn0.step)⟩
def bodkinref07_one.f (a0 : Bool) : Option (Int) := none
theorem bodkinref07_one.calls (a0 : Bool) (r : Int) (w : World) (h : bodkinref07_one.f a0 = some r) (hG : GD w := by first | assumption | exact GD.below (by assumption) (by repeat (first | exact Aside0.out (by assumption) | exact Below.refl _ _ | assumption | apply below_alloc | apply pw_below_drewN | apply below_drew1 | refine below_set ?_ (Aside0.out (by assumption))))) :
  Calls Tryz.prog 57 #[.bool a0] w fun e w' => e = .returned (.int .u64 r) ∧ Drawn0 w w' := by
 cases h
def bodkinref07_turned.f (a0 : ByteArray) (a1 : Int) (a2 : Int) (a3 : Int) : Option (Int × Int) := none
end Go.Proofs.YtkhhhceeoljheaaGreatDoor.PInt

import Derived.Test.YtkhhhceeoljheaaGreatDoorInPIntx2
namespace Go.Proofs.YtkhhhceeoljheaaGreatDoor.PInt
open Go.RowKit Go.Proofs.YtkhhhceeoljheaaGreatDoorW.PrintWords Go.Proofs.YtkhhhceeoljheaaGreatDoorW.PrintLast Go.Proofs.YtkhhhceeoljheaaGreatDoorW.PrintMore
attribute [local go_sem] max2_int min2_int max_two min_two max_three min_three max_four min_four   
set_option linter.unusedVariables false
set_option linter.unusedSimpArgs false
def ints_divided.j0 : Nat → Int → Int → Int → Int → Int → Bool → Option (Int × Int)
 | 0, _, _, _, _, _, _ => none
 | k + 1, x0, x1, x2, x10, x11, x33 => if x33 = true then (some (0, 0)) else (if x1 = 6 then (if x11 = 0 then (none) else (some (IntKind.u64.wrap (Int.tmod x10 x11), 0))) else (if x11 = (-1) then (if 0 ≤ (wrap64 (x0 - 1)) then (if x2 = (shl .u64 1 (wrap64 (x0 - 1))) then (some (0, 42)) else (if x11 = 0 then (none) else (some (IntKind.u64.wrap (wrap64 (Int.tdiv x10 x11)), 0)))) else (none)) else (if x11 = 0 then (none) else (some (IntKind.u64.wrap (wrap64 (Int.tdiv x10 x11)), 0)))))
def ints_divided.f (k : Nat) (a0 : Int) (a1 : Int) (a2 : Int) (a3 : Int) : Option (Int × Int) := (ints_Signed.f a0 a2).bind fun t124 => ((ints_Signed.f a0 a3).bind fun t125 => (if a3 = 0 then (some (0, 41)) else (if a1 = 5 then (some (IntKind.u64.wrap (Int.tdiv a2 a3), 0)) else (if a1 = 7 then (some (Int.tmod a2 a3, 0)) else (if a1 = 6 then (ints_divided.j0 k a0 a1 a2 t124 t125 (t125 == (-1))) else (ints_divided.j0 k a0 a1 a2 t124 t125 false))))))
theorem ints_divided.mono_l : ∀ k, (∀ y0 y1 y2 y3 y4 y5, LeO (ints_divided.j0 k y0 y1 y2 y3 y4 y5) (ints_divided.j0 (k + 1) y0 y1 y2 y3 y4 y5))
 | 0 => fun _ _ _ _ _ _ r h => by simp [ints_divided.j0] at h
 | k + 1 => by
  have ih0 := ints_divided.mono_l k
  ·intro y0 y1 y2 y3 y4 y5
   unfold ints_divided.j0
   repeat' first
   | (with_reducible exact ih0 _ _ _ _ _ _)
   | (with_reducible exact LeO.refl _)
   | (with_reducible exact LeO.none _)
   | (with_reducible refine LeO.ite ?_ ?_)
   | (with_reducible refine LeO.bind ?_ (fun _ => ?_))
   | exact ih0 _ _ _ _ _ _
   | exact LeO.none _
   | refine LeO.ite ?_ ?_
   | refine LeO.bind ?_ (fun _ => ?_)
theorem ints_divided.mono : ∀ a0 a1 a2 a3 k, LeO (ints_divided.f k a0 a1 a2 a3) (ints_divided.f (k + 1) a0 a1 a2 a3) := by
 intro a0 a1 a2 a3 k
 have ih0 := ints_divided.mono_l k
 unfold ints_divided.f
 repeat' first
   | (with_reducible exact ih0 _ _ _ _ _ _)
   | (with_reducible exact LeO.refl _)
   | (with_reducible exact LeO.none _)
   | (with_reducible refine LeO.ite ?_ ?_)
   | (with_reducible refine LeO.bind ?_ (fun _ => ?_))
   | exact ih0 _ _ _ _ _ _
   | exact LeO.none _
   | refine LeO.ite ?_ ?_
   | refine LeO.bind ?_ (fun _ => ?_)
set_option maxHeartbeats 8000000 in
set_option maxRecDepth 100000 in
theorem ints_divided.calls (k : Nat) (a0 : Int) (a1 : Int) (a2 : Int) (a3 : Int) (r1 : Int) (r2 : Int) (w : World) (h : ints_divided.f k a0 a1 a2 a3 = some (r1, r2)) (hG : GD w := by first | assumption | exact GD.below (by assumption) (by repeat (first | exact Aside0.out (by assumption) | exact Below.refl _ _ | assumption | apply below_alloc | apply pw_below_drewN | apply below_drew1 | refine below_set ?_ (Aside0.out (by assumption))))) :
  Calls Tryz.prog 95 #[.int .i64 a0, .int .i64 a1, .int .u64 a2, .int .u64 a3] w fun e w' => e = .returned (.tuple #[.int .u64 r1, .int .i64 r2]) ∧ Drawn0 w w' := by
 have H : ((ints_Signed.f a0 a2).bind fun t124 => ((ints_Signed.f a0 a3).bind fun t125 => (if a3 = 0 then (some (0, 41)) else (if a1 = 5 then (some (IntKind.u64.wrap (Int.tdiv a2 a3), 0)) else (if a1 = 7 then (some (Int.tmod a2 a3, 0)) else (if a1 = 6 then (ints_divided.j0 k a0 a1 a2 t124 t125 (t125 == (-1))) else (ints_divided.j0 k a0 a1 a2 t124 t125 false))))))) = some (r1, r2) := h
 clear h
 replace H := Option.bind_eq_some_iff.mp H
 obtain ⟨t124, A50, H⟩ := H
 replace H : ((ints_Signed.f a0 a3).bind fun t125 => (if a3 = 0 then (some (0, 41)) else (if a1 = 5 then (some (IntKind.u64.wrap (Int.tdiv a2 a3), 0)) else (if a1 = 7 then (some (Int.tmod a2 a3, 0)) else (if a1 = 6 then (ints_divided.j0 k a0 a1 a2 t124 t125 (t125 == (-1))) else (ints_divided.j0 k a0 a1 a2 t124 t125 false)))))) = some (r1, r2) := H
 have A5 := Aside0.mk A50
 clear A50
 replace H := Option.bind_eq_some_iff.mp H
 obtain ⟨t125, A60, H⟩ := H
 replace H : (if a3 = 0 then (some (0, 41)) else (if a1 = 5 then (some (IntKind.u64.wrap (Int.tdiv a2 a3), 0)) else (if a1 = 7 then (some (Int.tmod a2 a3, 0)) else (if a1 = 6 then (ints_divided.j0 k a0 a1 a2 t124 t125 (t125 == (-1))) else (ints_divided.j0 k a0 a1 a2 t124 t125 false))))) = some (r1, r2) := H
 have A6 := Aside0.mk A60
 clear A60
 by_cases c7 : a3 = 0
 ·rw [if_pos c7] at H
  have c7b0 : (a3 == 0) = true := beq_iff_eq.mpr c7
  have c7b1 : (a3 != 0) = false := bne_eq_false_iff_eq.mpr c7
  clear c7
  simp only [Option.some.injEq, Prod.mk.injEq] at H
  obtain ⟨rfl, rfl⟩ := H
  go_enter Tryz.func95, Tryz.ntmps95
  go_wp2_with (first | ((with_reducible refine gate_callee (f := 87) rfl ?_); refine goesL_ (some 14) rfl rfl Tryz.func87 (by kernel_rfl) rfl #[.int .i64 a0, .int .u64 a2] rfl mp_ ?_; (with_reducible refine (ints_Signed.calls a0 a2 t124 _ A5.out).mono ?_); rintro e w' ⟨rfl, ⟨nd, rfl⟩⟩; refine ⟨_, rfl, ?_⟩) | ((with_reducible refine gate_callee (f := 87) rfl ?_); refine goesL_ (some 17) rfl rfl Tryz.func87 (by kernel_rfl) rfl #[.int .i64 a0, .int .u64 a3] rfl mp_ ?_; (with_reducible refine (ints_Signed.calls a0 a3 t125 _ A6.out).mono ?_); rintro e w' ⟨rfl, ⟨nd, rfl⟩⟩; refine ⟨_, rfl, ?_⟩))
  go_ret2
  exact ⟨by first | rfl | (simp; done) | (simp [*]; done), by repeat (first | exact Drawn0.refl _ | apply Drawn0.step)⟩
 ·rw [if_neg c7] at H
  have c7b0 : (a3 == 0) = false := beq_eq_false_iff_ne.mpr c7
  have c7b1 : (a3 != 0) = true := bne_iff_ne.mpr c7
  by_cases c8 : a1 = 5
  ·rw [if_pos c8] at H
   have c8b0 : (a1 == 5) = true := beq_iff_eq.mpr c8
   have c8b1 : (a1 != 5) = false := bne_eq_false_iff_eq.mpr c8
   clear c8
   simp only [Option.some.injEq, Prod.mk.injEq] at H
   obtain ⟨rfl, rfl⟩ := H
   go_enter Tryz.func95, Tryz.ntmps95
   go_wp2_with (first | ((with_reducible refine gate_callee (f := 87) rfl ?_); refine goesL_ (some 14) rfl rfl Tryz.func87 (by kernel_rfl) rfl #[.int .i64 a0, .int .u64 a2] rfl mp_ ?_; (with_reducible refine (ints_Signed.calls a0 a2 t124 _ A5.out).mono ?_); rintro e w' ⟨rfl, ⟨nd, rfl⟩⟩; refine ⟨_, rfl, ?_⟩) | ((with_reducible refine gate_callee (f := 87) rfl ?_); refine goesL_ (some 17) rfl rfl Tryz.func87 (by kernel_rfl) rfl #[.int .i64 a0, .int .u64 a3] rfl mp_ ?_; (with_reducible refine (ints_Signed.calls a0 a3 t125 _ A6.out).mono ?_); rintro e w' ⟨rfl, ⟨nd, rfl⟩⟩; refine ⟨_, rfl, ?_⟩))
   go_ret2
   exact ⟨by first | rfl | (simp; done) | (simp [*]; done), by repeat (first | exact Drawn0.refl _ | apply Drawn0.step)⟩
  ·rw [if_neg c8] at H
   have c8b0 : (a1 == 5) = false := beq_eq_false_iff_ne.mpr c8
   have c8b1 : (a1 != 5) = true := bne_iff_ne.mpr c8
   by_cases c9 : a1 = 7
   ·rw [if_pos c9] at H
    have c9b0 : (a1 == 7) = true := beq_iff_eq.mpr c9
    have c9b1 : (a1 != 7) = false := bne_eq_false_iff_eq.mpr c9
    clear c9
    simp only [Option.some.injEq, Prod.mk.injEq] at H
    obtain ⟨rfl, rfl⟩ := H
    go_enter Tryz.func95, Tryz.ntmps95
    go_wp2_with (first | ((with_reducible refine gate_callee (f := 87) rfl ?_); refine goesL_ (some 14) rfl rfl Tryz.func87 (by kernel_rfl) rfl #[.int .i64 a0, .int .u64 a2] rfl mp_ ?_; (with_reducible refine (ints_Signed.calls a0 a2 t124 _ A5.out).mono ?_); rintro e w' ⟨rfl, ⟨nd, rfl⟩⟩; refine ⟨_, rfl, ?_⟩) | ((with_reducible refine gate_callee (f := 87) rfl ?_); refine goesL_ (some 17) rfl rfl Tryz.func87 (by kernel_rfl) rfl #[.int .i64 a0, .int .u64 a3] rfl mp_ ?_; (with_reducible refine (ints_Signed.calls a0 a3 t125 _ A6.out).mono ?_); rintro e w' ⟨rfl, ⟨nd, rfl⟩⟩; refine ⟨_, rfl, ?_⟩))
    go_ret2
    exact ⟨by first | rfl | (simp; done) | (simp [*]; done), by repeat (first | exact Drawn0.refl _ | apply Drawn0.step)⟩
   ·rw [if_neg c9] at H
    have c9b0 : (a1 == 7) = false := beq_eq_false_iff_ne.mpr c9
    have c9b1 : (a1 != 7) = true := bne_iff_ne.mpr c9
    have HC10 := Aside0.mk H
    clear H
    go_enter Tryz.func95, Tryz.ntmps95
    go_upto_region 8 with (first | ((with_reducible refine gate_callee (f := 87) rfl ?_); refine goesL_ (some 14) rfl rfl Tryz.func87 (by kernel_rfl) rfl #[.int .i64 a0, .int .u64 a2] rfl mp_ ?_; (with_reducible refine (ints_Signed.calls a0 a2 t124 _ A5.out).mono ?_); rintro e w' ⟨rfl, ⟨nd, rfl⟩⟩; refine ⟨_, rfl, ?_⟩) | ((with_reducible refine gate_callee (f := 87) rfl ?_); refine goesL_ (some 17) rfl rfl Tryz.func87 (by kernel_rfl) rfl #[.int .i64 a0, .int .u64 a3] rfl mp_ ?_; (with_reducible refine (ints_Signed.calls a0 a3 t125 _ A6.out).mono ?_); rintro e w' ⟨rfl, ⟨nd, rfl⟩⟩; refine ⟨_, rfl, ?_⟩))
    (try simp only [Act.put, List.setIfInBounds_toArray, List.set_cons_zero, List.set_cons_succ])
    go_cut [33] (fun v33 wc => ∃ (kq : Nat) (x33_9 : Bool), v33 = .bool x33_9 ∧ Aside0 (ints_divided.j0 kq a0 a1 a2 t124 t125 x33_9 = some (r1, r2)) ∧ Aside0 (kq ≤ k) ∧ Drawn0 w wc)
    case first =>
     have H := HC10.out
     clear HC10
     by_cases c11 : a1 = 6
     ·rw [if_pos c11] at H
      have c11b0 : (a1 == 6) = true := beq_iff_eq.mpr c11
      have c11b1 : (a1 != 6) = false := bne_eq_false_iff_eq.mpr c11
      clear c11
      (first | rw [c11b0] | (simp only [i64_w, i32_w]; rw [c11b0]) | skip)
      have H' := Aside0.mk H
      clear H
      go_wp2
      go_meet
      case rel => exact ⟨_, ((t125 == (-1))), rs_, H', ⟨by first | omega | exact Nat.le_refl _⟩, by repeat (first | exact Drawn0.refl _ | apply Drawn0.step)⟩
     ·rw [if_neg c11] at H
      have c11b0 : (a1 == 6) = false := beq_eq_false_iff_ne.mpr c11
      have c11b1 : (a1 != 6) = true := bne_iff_ne.mpr c11
      (first | rw [c11b0] | (simp only [i64_w, i32_w]; rw [c11b0]) | skip)
      have H' := Aside0.mk H
      clear H
      go_wp2
      go_meet
      case rel => exact ⟨_, (false), rs_, H', ⟨by first | omega | exact Nat.le_refl _⟩, by repeat (first | exact Drawn0.refl _ | apply Drawn0.step)⟩
    case rest =>
     clear HC10
     (try clear c1); (try clear p2); (try clear c7); (try clear c7b0); (try clear c7b1); (try clear c8); (try clear c8b0); (try clear c8b1); (try clear c9); (try clear c9b0); (try clear c9b1); (try clear c11); (try clear c11b0); (try clear c11b1)
     obtain ⟨kq, x33_9, rfl, HA, HJ9, ⟨mc9, rfl⟩⟩ := hcut
     cases kq with
     | zero => exact absurd HA.out (by simp [ints_divided.j0])
     | succ kj9 =>
      have H := HA.out
      clear HA
      simp only [ints_divided.j0] at H
      by_cases c12 : x33_9 = true
      ·subst c12
       have H1 : (some (0, 0)) = some (r1, r2) := by rw [if_pos rfl] at H; exact H
       clear H
       have H := H1
       clear H1
       simp only [Option.some.injEq, Prod.mk.injEq] at H
       obtain ⟨rfl, rfl⟩ := H
       go_wp2
       go_ret2
       exact ⟨by first | rfl | (simp; done) | (simp [*]; done), by repeat (first | exact Drawn0.refl _ | apply Drawn0.step)⟩
      ·replace c12 := Bool.eq_false_iff.mpr c12
       subst c12
       have H1 : (if a1 = 6 then (if t125 = 0 then (none) else (some (IntKind.u64.wrap (Int.tmod t124 t125), 0))) else (if t125 = (-1) then (if 0 ≤ (wrap64 (a0 - 1)) then (if a2 = (shl .u64 1 (wrap64 (a0 - 1))) then (some (0, 42)) else (if t125 = 0 then (none) else (some (IntKind.u64.wrap (wrap64 (Int.tdiv t124 t125)), 0)))) else (none)) else (if t125 = 0 then (none) else (some (IntKind.u64.wrap (wrap64 (Int.tdiv t124 t125)), 0))))) = some (r1, r2) := by rw [if_neg (show ¬ (false = true) by decide)] at H; exact H
       clear H
       have H := H1
       clear H1
       by_cases c13 : a1 = 6
       ·rw [if_pos c13] at H
        have c13b0 : (a1 == 6) = true := beq_iff_eq.mpr c13
        have c13b1 : (a1 != 6) = false := bne_eq_false_iff_eq.mpr c13
        clear c13
        by_cases c14 : t125 = 0
        ·rw [if_pos c14] at H
         exact absurd H (by simp)
        ·rw [if_neg c14] at H
         have c14b0 : (t125 == 0) = false := beq_eq_false_iff_ne.mpr c14
         have c14b1 : (t125 != 0) = true := bne_iff_ne.mpr c14
         simp only [Option.some.injEq, Prod.mk.injEq] at H
         obtain ⟨rfl, rfl⟩ := H
         go_wp2
         go_ret2
         exact ⟨by first | rfl | (simp; done) | (simp [*]; done), by repeat (first | exact Drawn0.refl _ | apply Drawn0.step)⟩
       ·rw [if_neg c13] at H
        have c13b0 : (a1 == 6) = false := beq_eq_false_iff_ne.mpr c13
        have c13b1 : (a1 != 6) = true := bne_iff_ne.mpr c13
        by_cases c15 : t125 = (-1)
        ·rw [if_pos c15] at H
         have c15b0 : (t125 == (-1)) = true := beq_iff_eq.mpr c15
         have c15b1 : (t125 != (-1)) = false := bne_eq_false_iff_eq.mpr c15
         clear c15
         obtain ⟨ji16, hji16⟩ : ∃ j_ : Int, (wrap64 (a0 - 1)) = j_ := ⟨_, rfl⟩
         replace H : (if 0 ≤ (ji16) then (if a2 = (shl .u64 1 (ji16)) then (some (0, 42)) else (if t125 = 0 then (none) else (some (IntKind.u64.wrap (wrap64 (Int.tdiv t124 t125)), 0)))) else (none)) = some (r1, r2) := by first | (rw [hji16] at H; exact H) | (simp only [hji16] at H ⊢; exact H)
         have hji16w : (IntKind.i64.wrap (a0 - 1)) = ji16 := (i64_w _).trans hji16
         by_cases c17 : 0 ≤ (ji16)
         ·rw [if_pos c17] at H
          have c17b0 := eq_true c17
          have c17b1 : decide (0 ≤ (ji16)) = true := decide_eq_true c17
          clear c17
          obtain ⟨ji18, hji18⟩ : ∃ j_ : Int, (shl .u64 1 (ji16)) = j_ := ⟨_, rfl⟩
          replace H : (if a2 = (ji18) then (some (0, 42)) else (if t125 = 0 then (none) else (some (IntKind.u64.wrap (wrap64 (Int.tdiv t124 t125)), 0)))) = some (r1, r2) := by first | (rw [hji18] at H; exact H) | (simp only [hji18] at H ⊢; exact H)
          have hji18_ : (IntKind.u64.wrap (1 * 2 ^ min (ji16).toNat 64)) = ji18 := hji18
          have hji18z : (ji16) ≤ 64 → (IntKind.u64.wrap (1 * 2 ^ (ji16).toNat)) = ji18 := shl_small hji18
          have hji18u : (IntKind.u64.wrap (2 ^ min (ji16).toNat 64)) = ji18 := by have h_ := hji18_; rw [Int.one_mul] at h_; exact h_
          have hji18v : (ji16) ≤ 64 → (IntKind.u64.wrap (2 ^ (ji16).toNat)) = ji18 := fun hle_ => by have h_ := hji18z hle_; rw [Int.one_mul] at h_; exact h_
          by_cases c19 : a2 = (ji18)
          ·rw [if_pos c19] at H
           have c19b0 : (a2 == (ji18)) = true := beq_iff_eq.mpr c19
           have c19b1 : (a2 != (ji18)) = false := bne_eq_false_iff_eq.mpr c19
           clear c19
           simp only [Option.some.injEq, Prod.mk.injEq] at H
           obtain ⟨rfl, rfl⟩ := H
           go_wp2
           go_ret2
           exact ⟨by first | rfl | (simp; done) | (simp only [← hji16, ← hji18] <;> (first | rfl | simp)) | (simp [*]; done), by repeat (first | exact Drawn0.refl _ | apply Drawn0.step)⟩
          ·rw [if_neg c19] at H
           have c19b0 : (a2 == (ji18)) = false := beq_eq_false_iff_ne.mpr c19
           have c19b1 : (a2 != (ji18)) = true := bne_iff_ne.mpr c19
           by_cases c20 : t125 = 0
           ·rw [if_pos c20] at H
            exact absurd H (by simp)
           ·rw [if_neg c20] at H
            have c20b0 : (t125 == 0) = false := beq_eq_false_iff_ne.mpr c20
            have c20b1 : (t125 != 0) = true := bne_iff_ne.mpr c20
            simp only [Option.some.injEq, Prod.mk.injEq] at H
            obtain ⟨rfl, rfl⟩ := H
            go_wp2
            go_ret2
            exact ⟨by first | rfl | (simp; done) | (simp only [← hji16, ← hji18] <;> (first | rfl | simp)) | (simp [*]; done), by repeat (first | exact Drawn0.refl _ | apply Drawn0.step)⟩
         ·rw [if_neg c17] at H
          exact absurd H (by simp)
        ·rw [if_neg c15] at H
         have c15b0 : (t125 == (-1)) = false := beq_eq_false_iff_ne.mpr c15
         have c15b1 : (t125 != (-1)) = true := bne_iff_ne.mpr c15
         by_cases c21 : t125 = 0
         ·rw [if_pos c21] at H
          exact absurd H (by simp)
         ·rw [if_neg c21] at H
          have c21b0 : (t125 == 0) = false := beq_eq_false_iff_ne.mpr c21
          have c21b1 : (t125 != 0) = true := bne_iff_ne.mpr c21
          simp only [Option.some.injEq, Prod.mk.injEq] at H
          obtain ⟨rfl, rfl⟩ := H
          go_wp2
          go_ret2
          exact ⟨by first | rfl | (simp; done) | (simp [*]; done), by repeat (first | exact Drawn0.refl _ | apply Drawn0.step)⟩
def ints_moved.f (a0 : Int) (a1 : Int) (a2 : Int) (a3 : Int) : Option (Int) := if a1 = 12 then ((ints_Signed.f a0 a2).bind fun t126 => (if 0 ≤ a3 then (some (IntKind.u64.wrap (shr .i64 t126 a3))) else (none))) else (if a1 = 13 then (if 0 ≤ a3 then (some (shr .u64 a2 a3)) else (none)) else (if a1 = 15 then (if (IntKind.u64.wrap (a0)) = 0 then (none) else (if 0 ≤ (Int.tmod (IntKind.u64.wrap ((IntKind.u64.wrap (a0)) - a3)) (IntKind.u64.wrap (a0))) then (if 0 ≤ (IntKind.u64.wrap ((IntKind.u64.wrap (a0)) - (Int.tmod (IntKind.u64.wrap ((IntKind.u64.wrap (a0)) - a3)) (IntKind.u64.wrap (a0))))) then (some (Go.bits .or .u64 (shl .u64 a2 (Int.tmod (IntKind.u64.wrap ((IntKind.u64.wrap (a0)) - a3)) (IntKind.u64.wrap (a0)))) (shr .u64 a2 (IntKind.u64.wrap ((IntKind.u64.wrap (a0)) - (Int.tmod (IntKind.u64.wrap ((IntKind.u64.wrap (a0)) - a3)) (IntKind.u64.wrap (a0)))))))) else (none)) else (none))) else (if a1 = 14 then (if 0 ≤ a3 then (if 0 ≤ (IntKind.u64.wrap ((IntKind.u64.wrap (a0)) - a3)) then (some (Go.bits .or .u64 (shl .u64 a2 a3) (shr .u64 a2 (IntKind.u64.wrap ((IntKind.u64.wrap (a0)) - a3))))) else (none)) else (none)) else (if 0 ≤ a3 then (some (shl .u64 a2 a3)) else (none)))))
set_option maxHeartbeats 8000000 in
set_option maxRecDepth 100000 in
theorem ints_moved.calls (a0 : Int) (a1 : Int) (a2 : Int) (a3 : Int) (r : Int) (w : World) (h : ints_moved.f a0 a1 a2 a3 = some r) (hG : GD w := by first | assumption | exact GD.below (by assumption) (by repeat (first | exact Aside0.out (by assumption) | exact Below.refl _ _ | assumption | apply below_alloc | apply pw_below_drewN | apply below_drew1 | refine below_set ?_ (Aside0.out (by assumption))))) :
  Calls Tryz.prog 96 #[.int .i64 a0, .int .i64 a1, .int .u64 a2, .int .u64 a3] w fun e w' => e = .returned (.int .u64 r) ∧ Drawn0 w w' := by
 have H : (if a1 = 12 then ((ints_Signed.f a0 a2).bind fun t126 => (if 0 ≤ a3 then (some (IntKind.u64.wrap (shr .i64 t126 a3))) else (none))) else (if a1 = 13 then (if 0 ≤ a3 then (some (shr .u64 a2 a3)) else (none)) else (if a1 = 15 then (if (IntKind.u64.wrap (a0)) = 0 then (none) else (if 0 ≤ (Int.tmod (IntKind.u64.wrap ((IntKind.u64.wrap (a0)) - a3)) (IntKind.u64.wrap (a0))) then (if 0 ≤ (IntKind.u64.wrap ((IntKind.u64.wrap (a0)) - (Int.tmod (IntKind.u64.wrap ((IntKind.u64.wrap (a0)) - a3)) (IntKind.u64.wrap (a0))))) then (some (Go.bits .or .u64 (shl .u64 a2 (Int.tmod (IntKind.u64.wrap ((IntKind.u64.wrap (a0)) - a3)) (IntKind.u64.wrap (a0)))) (shr .u64 a2 (IntKind.u64.wrap ((IntKind.u64.wrap (a0)) - (Int.tmod (IntKind.u64.wrap ((IntKind.u64.wrap (a0)) - a3)) (IntKind.u64.wrap (a0)))))))) else (none)) else (none))) else (if a1 = 14 then (if 0 ≤ a3 then (if 0 ≤ (IntKind.u64.wrap ((IntKind.u64.wrap (a0)) - a3)) then (some (Go.bits .or .u64 (shl .u64 a2 a3) (shr .u64 a2 (IntKind.u64.wrap ((IntKind.u64.wrap (a0)) - a3))))) else (none)) else (none)) else (if 0 ≤ a3 then (some (shl .u64 a2 a3)) else (none)))))) = some r := h
 clear h
 by_cases c5 : a1 = 12
 ·rw [if_pos c5] at H
  have c5b0 : (a1 == 12) = true := beq_iff_eq.mpr c5
  have c5b1 : (a1 != 12) = false := bne_eq_false_iff_eq.mpr c5
  clear c5
  replace H := Option.bind_eq_some_iff.mp H
  obtain ⟨t126, A60, H⟩ := H
  replace H : (if 0 ≤ a3 then (some (IntKind.u64.wrap (shr .i64 t126 a3))) else (none)) = some r := H
  have A6 := Aside0.mk A60
  clear A60
  by_cases c7 : 0 ≤ a3
  ·rw [if_pos c7] at H
   have c7b0 := eq_true c7
   have c7b1 : decide (0 ≤ a3) = true := decide_eq_true c7
   clear c7
   obtain ⟨ji8, hji8⟩ : ∃ j_ : Int, (shr .i64 t126 a3) = j_ := ⟨_, rfl⟩
   replace H : (some (IntKind.u64.wrap (ji8))) = some r := by first | (rw [hji8] at H; exact H) | (simp only [hji8] at H ⊢; exact H)
   (try rw [hji8] at A6)
   have hji8_ : (t126 / 2 ^ min a3.toNat 64) = ji8 := hji8
   have hji8z : a3 ≤ 64 → (t126 / 2 ^ a3.toNat) = ji8 := shr_small hji8
   obtain rfl := Option.some.inj H
   go_enter Tryz.func96, Tryz.ntmps96
   go_wp2_with (first | ((with_reducible refine gate_callee (f := 87) rfl ?_); refine goesL_ (some 20) rfl rfl Tryz.func87 (by kernel_rfl) rfl #[.int .i64 a0, .int .u64 a2] rfl mp_ ?_; (with_reducible refine (ints_Signed.calls a0 a2 t126 _ A6.out).mono ?_); rintro e w' ⟨rfl, ⟨nd, rfl⟩⟩; refine ⟨_, rfl, ?_⟩))
   go_ret
   exact ⟨by first | rfl | (simp; done) | (simp only [← hji8] <;> (first | rfl | simp)) | (simp [*]; done), by repeat (first | exact Drawn0.refl _ | apply Drawn0.step)⟩
  ·rw [if_neg c7] at H
   exact absurd H (by simp)
 ·rw [if_neg c5] at H
  have c5b0 : (a1 == 12) = false := beq_eq_false_iff_ne.mpr c5
  have c5b1 : (a1 != 12) = true := bne_iff_ne.mpr c5
  by_cases c9 : a1 = 13
  ·rw [if_pos c9] at H
   have c9b0 : (a1 == 13) = true := beq_iff_eq.mpr c9
   have c9b1 : (a1 != 13) = false := bne_eq_false_iff_eq.mpr c9
   clear c9
   by_cases c10 : 0 ≤ a3
   ·rw [if_pos c10] at H
    have c10b0 := eq_true c10
    have c10b1 : decide (0 ≤ a3) = true := decide_eq_true c10
    clear c10
    obtain ⟨ji11, hji11⟩ : ∃ j_ : Int, (shr .u64 a2 a3) = j_ := ⟨_, rfl⟩
    replace H : (some ji11) = some r := by first | (rw [hji11] at H; exact H) | (simp only [hji11] at H ⊢; exact H)
    have hji11_ : (a2 / 2 ^ min a3.toNat 64) = ji11 := hji11
    have hji11z : a3 ≤ 64 → (a2 / 2 ^ a3.toNat) = ji11 := shr_small hji11
    obtain rfl := Option.some.inj H
    go_enter Tryz.func96, Tryz.ntmps96
    go_wp2
    go_ret
    exact ⟨by first | rfl | (simp; done) | (simp only [← hji11] <;> (first | rfl | simp)) | (simp [*]; done), by repeat (first | exact Drawn0.refl _ | apply Drawn0.step)⟩
   ·rw [if_neg c10] at H
    exact absurd H (by simp)
  ·rw [if_neg c9] at H
   have c9b0 : (a1 == 13) = false := beq_eq_false_iff_ne.mpr c9
   have c9b1 : (a1 != 13) = true := bne_iff_ne.mpr c9
   by_cases c12 : a1 = 15
   ·rw [if_pos c12] at H
    have c12b0 : (a1 == 15) = true := beq_iff_eq.mpr c12
    have c12b1 : (a1 != 15) = false := bne_eq_false_iff_eq.mpr c12
    clear c12
    by_cases c13 : (IntKind.u64.wrap (a0)) = 0
    ·rw [if_pos c13] at H
     exact absurd H (by simp)
    ·rw [if_neg c13] at H
     have c13b0 : ((IntKind.u64.wrap (a0)) == 0) = false := beq_eq_false_iff_ne.mpr c13
     have c13b1 : ((IntKind.u64.wrap (a0)) != 0) = true := bne_iff_ne.mpr c13
     obtain ⟨ji14, hji14⟩ : ∃ j_ : Int, (Int.tmod (IntKind.u64.wrap ((IntKind.u64.wrap (a0)) - a3)) (IntKind.u64.wrap (a0))) = j_ := ⟨_, rfl⟩
     replace H : (if 0 ≤ (ji14) then (if 0 ≤ (IntKind.u64.wrap ((IntKind.u64.wrap (a0)) - (ji14))) then (some (Go.bits .or .u64 (shl .u64 a2 (ji14)) (shr .u64 a2 (IntKind.u64.wrap ((IntKind.u64.wrap (a0)) - (ji14)))))) else (none)) else (none)) = some r := by first | (rw [hji14] at H; exact H) | (simp only [hji14] at H ⊢; exact H)
     by_cases c15 : 0 ≤ (ji14)
     ·rw [if_pos c15] at H
      have c15b0 := eq_true c15
      have c15b1 : decide (0 ≤ (ji14)) = true := decide_eq_true c15
      clear c15
      obtain ⟨ji16, hji16⟩ : ∃ j_ : Int, (shl .u64 a2 (ji14)) = j_ := ⟨_, rfl⟩
      replace H : (if 0 ≤ (IntKind.u64.wrap ((IntKind.u64.wrap (a0)) - (ji14))) then (some (Go.bits .or .u64 (ji16) (shr .u64 a2 (IntKind.u64.wrap ((IntKind.u64.wrap (a0)) - (ji14)))))) else (none)) = some r := by first | (rw [hji16] at H; exact H) | (simp only [hji16] at H ⊢; exact H)
      have hji16_ : (IntKind.u64.wrap (a2 * 2 ^ min (ji14).toNat 64)) = ji16 := hji16
      have hji16z : (ji14) ≤ 64 → (IntKind.u64.wrap (a2 * 2 ^ (ji14).toNat)) = ji16 := shl_small hji16
      obtain ⟨ji17, hji17⟩ : ∃ j_ : Int, (IntKind.u64.wrap ((IntKind.u64.wrap (a0)) - (ji14))) = j_ := ⟨_, rfl⟩
      replace H : (if 0 ≤ (ji17) then (some (Go.bits .or .u64 (ji16) (shr .u64 a2 (ji17)))) else (none)) = some r := by first | (rw [hji17] at H; exact H) | (simp only [hji17] at H ⊢; exact H)
      by_cases c18 : 0 ≤ (ji17)
      ·rw [if_pos c18] at H
       have c18b0 := eq_true c18
       have c18b1 : decide (0 ≤ (ji17)) = true := decide_eq_true c18
       clear c18
       obtain ⟨ji19, hji19⟩ : ∃ j_ : Int, (shr .u64 a2 (ji17)) = j_ := ⟨_, rfl⟩
       replace H : (some (Go.bits .or .u64 (ji16) (ji19))) = some r := by first | (rw [hji19] at H; exact H) | (simp only [hji19] at H ⊢; exact H)
       have hji19_ : (a2 / 2 ^ min (ji17).toNat 64) = ji19 := hji19
       have hji19z : (ji17) ≤ 64 → (a2 / 2 ^ (ji17).toNat) = ji19 := shr_small hji19
       obtain rfl := Option.some.inj H
       go_enter Tryz.func96, Tryz.ntmps96
       go_wp2
       go_ret
       exact ⟨by first | rfl | (simp; done) | (simp only [← hji14, ← hji16, ← hji17, ← hji19] <;> (first | rfl | simp)) | (simp [*]; done), by repeat (first | exact Drawn0.refl _ | apply Drawn0.step)⟩
      ·rw [if_neg c18] at H
       exact absurd H (by simp)
     ·rw [if_neg c15] at H
      exact absurd H (by simp)
   ·rw [if_neg c12] at H
    have c12b0 : (a1 == 15) = false := beq_eq_false_iff_ne.mpr c12
    have c12b1 : (a1 != 15) = true := bne_iff_ne.mpr c12
    by_cases c20 : a1 = 14
    ·rw [if_pos c20] at H
     have c20b0 : (a1 == 14) = true := beq_iff_eq.mpr c20
     have c20b1 : (a1 != 14) = false := bne_eq_false_iff_eq.mpr c20
     clear c20
     by_cases c21 : 0 ≤ a3
     ·rw [if_pos c21] at H
      have c21b0 := eq_true c21
      have c21b1 : decide (0 ≤ a3) = true := decide_eq_true c21
      clear c21
      obtain ⟨ji22, hji22⟩ : ∃ j_ : Int, (shl .u64 a2 a3) = j_ := ⟨_, rfl⟩
      replace H : (if 0 ≤ (IntKind.u64.wrap ((IntKind.u64.wrap (a0)) - a3)) then (some (Go.bits .or .u64 (ji22) (shr .u64 a2 (IntKind.u64.wrap ((IntKind.u64.wrap (a0)) - a3))))) else (none)) = some r := by first | (rw [hji22] at H; exact H) | (simp only [hji22] at H ⊢; exact H)
      have hji22_ : (IntKind.u64.wrap (a2 * 2 ^ min a3.toNat 64)) = ji22 := hji22
      have hji22z : a3 ≤ 64 → (IntKind.u64.wrap (a2 * 2 ^ a3.toNat)) = ji22 := shl_small hji22
      obtain ⟨ji23, hji23⟩ : ∃ j_ : Int, (IntKind.u64.wrap ((IntKind.u64.wrap (a0)) - a3)) = j_ := ⟨_, rfl⟩
      replace H : (if 0 ≤ (ji23) then (some (Go.bits .or .u64 (ji22) (shr .u64 a2 (ji23)))) else (none)) = some r := by first | (rw [hji23] at H; exact H) | (simp only [hji23] at H ⊢; exact H)
      by_cases c24 : 0 ≤ (ji23)
      ·rw [if_pos c24] at H
       have c24b0 := eq_true c24
       have c24b1 : decide (0 ≤ (ji23)) = true := decide_eq_true c24
       clear c24
       obtain ⟨ji25, hji25⟩ : ∃ j_ : Int, (shr .u64 a2 (ji23)) = j_ := ⟨_, rfl⟩
       replace H : (some (Go.bits .or .u64 (ji22) (ji25))) = some r := by first | (rw [hji25] at H; exact H) | (simp only [hji25] at H ⊢; exact H)
       have hji25_ : (a2 / 2 ^ min (ji23).toNat 64) = ji25 := hji25
       have hji25z : (ji23) ≤ 64 → (a2 / 2 ^ (ji23).toNat) = ji25 := shr_small hji25
       obtain rfl := Option.some.inj H
       go_enter Tryz.func96, Tryz.ntmps96
       go_wp2
       go_ret
       exact ⟨by first | rfl | (simp; done) | (simp only [← hji22, ← hji23, ← hji25] <;> (first | rfl | simp)) | (simp [*]; done), by repeat (first | exact Drawn0.refl _ | apply Drawn0.step)⟩
      ·rw [if_neg c24] at H
       exact absurd H (by simp)
     ·rw [if_neg c21] at H
      exact absurd H (by simp)
    ·rw [if_neg c20] at H
     have c20b0 : (a1 == 14) = false := beq_eq_false_iff_ne.mpr c20
     have c20b1 : (a1 != 14) = true := bne_iff_ne.mpr c20
     by_cases c26 : 0 ≤ a3
     ·rw [if_pos c26] at H
      have c26b0 := eq_true c26
      have c26b1 : decide (0 ≤ a3) = true := decide_eq_true c26
      clear c26
      obtain ⟨ji27, hji27⟩ : ∃ j_ : Int, (shl .u64 a2 a3) = j_ := ⟨_, rfl⟩
      replace H : (some ji27) = some r := by first | (rw [hji27] at H; exact H) | (simp only [hji27] at H ⊢; exact H)
      have hji27_ : (IntKind.u64.wrap (a2 * 2 ^ min a3.toNat 64)) = ji27 := hji27
      have hji27z : a3 ≤ 64 → (IntKind.u64.wrap (a2 * 2 ^ a3.toNat)) = ji27 := shl_small hji27
      obtain rfl := Option.some.inj H
      go_enter Tryz.func96, Tryz.ntmps96
      go_wp2
      go_ret
      exact ⟨by first | rfl | (simp; done) | (simp only [← hji27] <;> (first | rfl | simp)) | (simp [*]; done), by repeat (first | exact Drawn0.refl _ | apply Drawn0.step)⟩
     ·rw [if_neg c26] at H
      exact absurd H (by simp)
def ints_held.f (a0 : Int) (a1 : Int) (a2 : Int) (a3 : Int) : Option (Int) := none
theorem ints_held.calls (a0 : Int) (a1 : Int) (a2 : Int) (a3 : Int) (r : Int) (w : World) (h : ints_held.f a0 a1 a2 a3 = some r) (hG : GD w := by first | assumption | exact GD.below (by assumption) (by repeat (first | exact Aside0.out (by assumption) | exact Below.refl _ _ | assumption | apply below_alloc | apply pw_below_drewN | apply below_drew1 | refine below_set ?_ (Aside0.out (by assumption))))) :
  Calls Tryz.prog 97 #[.int .i64 a0, .int .i64 a1, .int .u64 a2, .int .u64 a3] w fun e w' => e = .returned (.int .u64 r) ∧ Drawn0 w w' := by
 cases h
def ints_plain.f (a0 : Int) (a1 : Int) (a2 : Int) : Option (Int) := if a0 = 2 then (some (IntKind.u64.wrap (a1 + (IntKind.u64.wrap (-a2))))) else (if a0 = 1 then (some (IntKind.u64.wrap (a1 + a2))) else (if a0 = 3 then (some (IntKind.u64.wrap (a1 * a2))) else (if a0 = 8 then (some (Go.bits .and .u64 a1 a2)) else (if a0 = 9 then (some (Go.bits .or .u64 a1 a2)) else (some (Go.bits .xor .u64 a1 a2))))))
set_option maxHeartbeats 8000000 in
set_option maxRecDepth 100000 in
theorem ints_plain.calls (a0 : Int) (a1 : Int) (a2 : Int) (r : Int) (w : World) (h : ints_plain.f a0 a1 a2 = some r) (hG : GD w := by first | assumption | exact GD.below (by assumption) (by repeat (first | exact Aside0.out (by assumption) | exact Below.refl _ _ | assumption | apply below_alloc | apply pw_below_drewN | apply below_drew1 | refine below_set ?_ (Aside0.out (by assumption))))) :
  Calls Tryz.prog 98 #[.int .i64 a0, .int .u64 a1, .int .u64 a2] w fun e w' => e = .returned (.int .u64 r) ∧ Drawn0 w w' := by
 have H : (if a0 = 2 then (some (IntKind.u64.wrap (a1 + (IntKind.u64.wrap (-a2))))) else (if a0 = 1 then (some (IntKind.u64.wrap (a1 + a2))) else (if a0 = 3 then (some (IntKind.u64.wrap (a1 * a2))) else (if a0 = 8 then (some (Go.bits .and .u64 a1 a2)) else (if a0 = 9 then (some (Go.bits .or .u64 a1 a2)) else (some (Go.bits .xor .u64 a1 a2))))))) = some r := h
 clear h
 by_cases c4 : a0 = 2
 ·rw [if_pos c4] at H
  have c4b0 : (a0 == 2) = true := beq_iff_eq.mpr c4
  have c4b1 : (a0 != 2) = false := bne_eq_false_iff_eq.mpr c4
  clear c4
  obtain rfl := Option.some.inj H
  go_enter Tryz.func98, Tryz.ntmps98
  go_wp2
  go_ret
  exact ⟨by first | rfl | (simp; done) | (simp [*]; done), by repeat (first | exact Drawn0.refl _ | apply Drawn0.step)⟩
 ·rw [if_neg c4] at H
  have c4b0 : (a0 == 2) = false := beq_eq_false_iff_ne.mpr c4
  have c4b1 : (a0 != 2) = true := bne_iff_ne.mpr c4
  by_cases c5 : a0 = 1
  ·rw [if_pos c5] at H
   have c5b0 : (a0 == 1) = true := beq_iff_eq.mpr c5
   have c5b1 : (a0 != 1) = false := bne_eq_false_iff_eq.mpr c5
   clear c5
   obtain rfl := Option.some.inj H
   go_enter Tryz.func98, Tryz.ntmps98
   go_wp2
   go_ret
   exact ⟨by first | rfl | (simp; done) | (simp [*]; done), by repeat (first | exact Drawn0.refl _ | apply Drawn0.step)⟩
  ·rw [if_neg c5] at H
   have c5b0 : (a0 == 1) = false := beq_eq_false_iff_ne.mpr c5
   have c5b1 : (a0 != 1) = true := bne_iff_ne.mpr c5
   by_cases c6 : a0 = 3
   ·rw [if_pos c6] at H
    have c6b0 : (a0 == 3) = true := beq_iff_eq.mpr c6
    have c6b1 : (a0 != 3) = false := bne_eq_false_iff_eq.mpr c6
    clear c6
    obtain rfl := Option.some.inj H
    go_enter Tryz.func98, Tryz.ntmps98
    go_wp2
    go_ret
    exact ⟨by first | rfl | (simp; done) | (simp [*]; done), by repeat (first | exact Drawn0.refl _ | apply Drawn0.step)⟩
   ·rw [if_neg c6] at H
    have c6b0 : (a0 == 3) = false := beq_eq_false_iff_ne.mpr c6
    have c6b1 : (a0 != 3) = true := bne_iff_ne.mpr c6
    by_cases c7 : a0 = 8
    ·rw [if_pos c7] at H
     have c7b0 : (a0 == 8) = true := beq_iff_eq.mpr c7
     have c7b1 : (a0 != 8) = false := bne_eq_false_iff_eq.mpr c7
     clear c7
     obtain rfl := Option.some.inj H
     go_enter Tryz.func98, Tryz.ntmps98
     go_wp2
     go_ret
     exact ⟨by first | rfl | (simp; done) | (simp [*]; done), by repeat (first | exact Drawn0.refl _ | apply Drawn0.step)⟩
    ·rw [if_neg c7] at H
     have c7b0 : (a0 == 8) = false := beq_eq_false_iff_ne.mpr c7
     have c7b1 : (a0 != 8) = true := bne_iff_ne.mpr c7
     by_cases c8 : a0 = 9
     ·rw [if_pos c8] at H
      have c8b0 : (a0 == 9) = true := beq_iff_eq.mpr c8
      have c8b1 : (a0 != 9) = false := bne_eq_false_iff_eq.mpr c8
      clear c8
      obtain rfl := Option.some.inj H
      go_enter Tryz.func98, Tryz.ntmps98
      go_wp2
      go_ret
      exact ⟨by first | rfl | (simp; done) | (simp [*]; done), by repeat (first | exact Drawn0.refl _ | apply Drawn0.step)⟩
     ·rw [if_neg c8] at H
      have c8b0 : (a0 == 9) = false := beq_eq_false_iff_ne.mpr c8
      have c8b1 : (a0 != 9) = true := bne_iff_ne.mpr c8
      obtain rfl := Option.some.inj H
      go_enter Tryz.func98, Tryz.ntmps98
      go_wp2
      go_ret
      exact ⟨by first | rfl | (simp; done) | (simp [*]; done), by repeat (first | exact Drawn0.refl _ | apply Drawn0.step)⟩
end Go.Proofs.YtkhhhceeoljheaaGreatDoor.PInt

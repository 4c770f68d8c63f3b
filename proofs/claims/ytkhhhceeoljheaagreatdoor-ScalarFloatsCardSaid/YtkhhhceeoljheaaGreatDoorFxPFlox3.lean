import Derived.Test.YtkhhhceeoljheaaGreatDoorFxPFlox2
set_option maxHeartbeats 8000000
set_option maxRecDepth 100000
namespace Go.Proofs.YtkhhhceeoljheaaGreatDoor.PFlo
open Go.RowKit Go.Proofs.YtkhhhceeoljheaaGreatDoorW.PrintWords Go.Proofs.YtkhhhceeoljheaaGreatDoorW.PrintLast Go.Proofs.YtkhhhceeoljheaaGreatDoorW.PrintMore
attribute [local go_sem] max2_int min2_int max_two min_two max_three min_three max_four min_four   
set_option linter.unusedVariables false
set_option linter.unusedSimpArgs false
def ints_divided.j0 : Nat → Int → Int → Int → Int → Int → Bool → Option (Int × Int)
 | 0, _, _, _, _, _, _ => none
 | k + 1, x0, x1, x2, x10, x11, x33 => if x33 = true then (some (0, 0)) else (if x1 = 6 then (if x11 = 0 then (none) else (some (IntKind.u64.wrap (Int.tmod x10 x11), 0))) else (if x11 = (-1) then (if 0 ≤ (wrap64 (x0 - 1)) then (if x2 = (shl .u64 1 (wrap64 (x0 - 1))) then (some (0, 42)) else (if x11 = 0 then (none) else (some (IntKind.u64.wrap (wrap64 (Int.tdiv x10 x11)), 0)))) else (none)) else (if x11 = 0 then (none) else (some (IntKind.u64.wrap (wrap64 (Int.tdiv x10 x11)), 0)))))
def ints_divided.f (k : Nat) (a0 : Int) (a1 : Int) (a2 : Int) (a3 : Int) : Option (Int × Int) := (ints_Signed.f a0 a2).bind fun t124 => ((ints_Signed.f a0 a3).bind fun t125 => (if a3 = 0 then (some (0, 41)) else (if a1 = 5 then (some (IntKind.u64.wrap (Int.tdiv a2 a3), 0)) else (if a1 = 7 then (some (Int.tmod a2 a3, 0)) else (if a1 = 6 then (ints_divided.j0 k a0 a1 a2 t124 t125 (t125 == (-1))) else (ints_divided.j0 k a0 a1 a2 t124 t125 false))))))
theorem ints_divided.mono_l : ∀ k, (∀ y0 y1 y2 y3 y4 y5, LeO (ints_divided.j0 k y0 y1 y2 y3 y4 y5) (ints_divided.j0 (k + 1) y0 y1 y2 y3 y4 y5))
 | 0 => fun _ _ _ _ _ _ r h => by simp [ints_divided.j0] at h
 | k + 1 => by
  have ih0 := ints_divided.mono_l k
  ·intro y0 y1 y2 y3 y4 y5; unfold ints_divided.j0
   repeat' first
   | (with_reducible exact ih0 _ _ _ _ _ _)
   | (with_reducible exact LeO.refl _)
   | (with_reducible exact LeO.none _)
   | (with_reducible refine LeO.ite ?_ ?_)
   | (with_reducible refine LeO.bind ?_ (fun _ => ?_))
   | exact ih0 _ _ _ _ _ _
   | exact LeO.none _
   | refine LeO.ite ?_ ?_
   | refine LeO.bind ?_ (fun _ => ?_)
theorem ints_divided.mono : ∀ a0 a1 a2 a3 k, LeO (ints_divided.f k a0 a1 a2 a3) (ints_divided.f (k + 1) a0 a1 a2 a3) := by
 intro a0 a1 a2 a3 k; have ih0 := ints_divided.mono_l k; unfold ints_divided.f
 repeat' first
   | (with_reducible exact ih0 _ _ _ _ _ _)
   | (with_reducible exact LeO.refl _)
   | (with_reducible exact LeO.none _)
   | (with_reducible refine LeO.ite ?_ ?_)
   | (with_reducible refine LeO.bind ?_ (fun _ => ?_))
   | exact ih0 _ _ _ _ _ _
   | exact LeO.none _
   | refine LeO.ite ?_ ?_
   | refine LeO.bind ?_ (fun _ => ?_)
theorem ints_divided.calls (k : Nat) (a0 : Int) (a1 : Int) (a2 : Int) (a3 : Int) (r1 : Int) (r2 : Int) (w : World) (h : ints_divided.f k a0 a1 a2 a3 = some (r1, r2)) (hG : GD w := by first | assumption | exact GD.below (by assumption) (by repeat (first | exact Aside0.out (by assumption) | exact Below.refl _ _ | assumption | apply below_alloc | apply pw_below_drewN | apply below_drew1 | refine below_set ?_ (Aside0.out (by assumption))))) :
  Calls Tryz.prog 95 #[.int .i64 a0, .int .i64 a1, .int .u64 a2, .int .u64 a3] w fun e w' => e = .returned (.tuple #[.int .u64 r1, .int .i64 r2]) ∧ Drawn0 w w' := by
 have H : ((ints_Signed.f a0 a2).bind fun t124 => ((ints_Signed.f a0 a3).bind fun t125 => (if a3 = 0 then (some (0, 41)) else (if a1 = 5 then (some (IntKind.u64.wrap (Int.tdiv a2 a3), 0)) else (if a1 = 7 then (some (Int.tmod a2 a3, 0)) else (if a1 = 6 then (ints_divided.j0 k a0 a1 a2 t124 t125 (t125 == (-1))) else (ints_divided.j0 k a0 a1 a2 t124 t125 false))))))) = some (r1, r2) := h; clear h; replace H := Option.bind_eq_some_iff.mp H; obtain ⟨t124, A50, H⟩ := H; replace H : ((ints_Signed.f a0 a3).bind fun t125 => (if a3 = 0 then (some (0, 41)) else (if a1 = 5 then (some (IntKind.u64.wrap (Int.tdiv a2 a3), 0)) else (if a1 = 7 then (some (Int.tmod a2 a3, 0)) else (if a1 = 6 then (ints_divided.j0 k a0 a1 a2 t124 t125 (t125 == (-1))) else (ints_divided.j0 k a0 a1 a2 t124 t125 false)))))) = some (r1, r2) := H; have A5 := zm_ A50; clear A50; replace H := Option.bind_eq_some_iff.mp H; obtain ⟨t125, A60, H⟩ := H; replace H : (if a3 = 0 then (some (0, 41)) else (if a1 = 5 then (some (IntKind.u64.wrap (Int.tdiv a2 a3), 0)) else (if a1 = 7 then (some (Int.tmod a2 a3, 0)) else (if a1 = 6 then (ints_divided.j0 k a0 a1 a2 t124 t125 (t125 == (-1))) else (ints_divided.j0 k a0 a1 a2 t124 t125 false))))) = some (r1, r2) := H; have A6 := zm_ A60; clear A60; by_cases c7 : a3 = 0
 ·rw [if_pos c7] at H; have c7b0 : (a3 == 0) = true := beq_iff_eq.mpr c7; have c7b1 : (a3 != 0) = false := bne_eq_false_iff_eq.mpr c7; clear c7; simp only [Option.some.injEq, Prod.mk.injEq] at H; obtain ⟨rfl, rfl⟩ := H; go_enter Tryz.func95, Tryz.ntmps95
  go_wp2_with (first | ((with_reducible refine gate_callee (f := 87) rfl ?_); refine goesL_ (some 14) rfl rfl Tryz.func87 (by kernel_rfl) rfl #[.int .i64 a0, .int .u64 a2] rfl mp_ ?_; (with_reducible refine (ints_Signed.calls a0 a2 t124 _ A5.out).mono ?_); rintro e w' ⟨rfl, ⟨nd, rfl⟩⟩; refine ⟨_, rfl, ?_⟩) | ((with_reducible refine gate_callee (f := 87) rfl ?_); refine goesL_ (some 17) rfl rfl Tryz.func87 (by kernel_rfl) rfl #[.int .i64 a0, .int .u64 a3] rfl mp_ ?_; (with_reducible refine (ints_Signed.calls a0 a3 t125 _ A6.out).mono ?_); rintro e w' ⟨rfl, ⟨nd, rfl⟩⟩; refine ⟨_, rfl, ?_⟩))
  go_ret2; exact ⟨by first | rfl | (simp; done) | (simp [*]; done), by repeat (first | exact Drawn0.refl _ | apply Drawn0.step)⟩
 ·rw [if_neg c7] at H; have c7b0 : (a3 == 0) = false := beq_eq_false_iff_ne.mpr c7; have c7b1 : (a3 != 0) = true := bne_iff_ne.mpr c7; by_cases c8 : a1 = 5
  ·rw [if_pos c8] at H; have c8b0 : (a1 == 5) = true := beq_iff_eq.mpr c8; have c8b1 : (a1 != 5) = false := bne_eq_false_iff_eq.mpr c8; clear c8; simp only [Option.some.injEq, Prod.mk.injEq] at H; obtain ⟨rfl, rfl⟩ := H; go_enter Tryz.func95, Tryz.ntmps95
   go_wp2_with (first | ((with_reducible refine gate_callee (f := 87) rfl ?_); refine goesL_ (some 14) rfl rfl Tryz.func87 (by kernel_rfl) rfl #[.int .i64 a0, .int .u64 a2] rfl mp_ ?_; (with_reducible refine (ints_Signed.calls a0 a2 t124 _ A5.out).mono ?_); rintro e w' ⟨rfl, ⟨nd, rfl⟩⟩; refine ⟨_, rfl, ?_⟩) | ((with_reducible refine gate_callee (f := 87) rfl ?_); refine goesL_ (some 17) rfl rfl Tryz.func87 (by kernel_rfl) rfl #[.int .i64 a0, .int .u64 a3] rfl mp_ ?_; (with_reducible refine (ints_Signed.calls a0 a3 t125 _ A6.out).mono ?_); rintro e w' ⟨rfl, ⟨nd, rfl⟩⟩; refine ⟨_, rfl, ?_⟩))
   go_ret2; exact ⟨by first | rfl | (simp; done) | (simp [*]; done), by repeat (first | exact Drawn0.refl _ | apply Drawn0.step)⟩
  ·rw [if_neg c8] at H; have c8b0 : (a1 == 5) = false := beq_eq_false_iff_ne.mpr c8; have c8b1 : (a1 != 5) = true := bne_iff_ne.mpr c8; by_cases c9 : a1 = 7
   ·rw [if_pos c9] at H; have c9b0 : (a1 == 7) = true := beq_iff_eq.mpr c9; have c9b1 : (a1 != 7) = false := bne_eq_false_iff_eq.mpr c9; clear c9; simp only [Option.some.injEq, Prod.mk.injEq] at H; obtain ⟨rfl, rfl⟩ := H; go_enter Tryz.func95, Tryz.ntmps95
    go_wp2_with (first | ((with_reducible refine gate_callee (f := 87) rfl ?_); refine goesL_ (some 14) rfl rfl Tryz.func87 (by kernel_rfl) rfl #[.int .i64 a0, .int .u64 a2] rfl mp_ ?_; (with_reducible refine (ints_Signed.calls a0 a2 t124 _ A5.out).mono ?_); rintro e w' ⟨rfl, ⟨nd, rfl⟩⟩; refine ⟨_, rfl, ?_⟩) | ((with_reducible refine gate_callee (f := 87) rfl ?_); refine goesL_ (some 17) rfl rfl Tryz.func87 (by kernel_rfl) rfl #[.int .i64 a0, .int .u64 a3] rfl mp_ ?_; (with_reducible refine (ints_Signed.calls a0 a3 t125 _ A6.out).mono ?_); rintro e w' ⟨rfl, ⟨nd, rfl⟩⟩; refine ⟨_, rfl, ?_⟩))
    go_ret2; exact ⟨by first | rfl | (simp; done) | (simp [*]; done), by repeat (first | exact Drawn0.refl _ | apply Drawn0.step)⟩
   ·rw [if_neg c9] at H; have c9b0 : (a1 == 7) = false := beq_eq_false_iff_ne.mpr c9; have c9b1 : (a1 != 7) = true := bne_iff_ne.mpr c9; have HC10 := zm_ H; clear H; go_enter Tryz.func95, Tryz.ntmps95
    go_upto_region 8 with (first | ((with_reducible refine gate_callee (f := 87) rfl ?_); refine goesL_ (some 14) rfl rfl Tryz.func87 (by kernel_rfl) rfl #[.int .i64 a0, .int .u64 a2] rfl mp_ ?_; (with_reducible refine (ints_Signed.calls a0 a2 t124 _ A5.out).mono ?_); rintro e w' ⟨rfl, ⟨nd, rfl⟩⟩; refine ⟨_, rfl, ?_⟩) | ((with_reducible refine gate_callee (f := 87) rfl ?_); refine goesL_ (some 17) rfl rfl Tryz.func87 (by kernel_rfl) rfl #[.int .i64 a0, .int .u64 a3] rfl mp_ ?_; (with_reducible refine (ints_Signed.calls a0 a3 t125 _ A6.out).mono ?_); rintro e w' ⟨rfl, ⟨nd, rfl⟩⟩; refine ⟨_, rfl, ?_⟩))
    (try simp only [Act.put, List.setIfInBounds_toArray, List.set_cons_zero, List.set_cons_succ])
    go_cut [33] (fun v33 wc => ∃ (kq : Nat) (x33_9 : Bool), v33 = .bool x33_9 ∧ Aside0 (ints_divided.j0 kq a0 a1 a2 t124 t125 x33_9 = some (r1, r2)) ∧ Aside0 (kq ≤ k) ∧ Drawn0 w wc)
    case first =>
     have H := HC10.out; clear HC10; by_cases c11 : a1 = 6
     ·rw [if_pos c11] at H; have c11b0 : (a1 == 6) = true := beq_iff_eq.mpr c11; have c11b1 : (a1 != 6) = false := bne_eq_false_iff_eq.mpr c11; clear c11; (first | rw [c11b0] | (simp only [i64_w, i32_w]; rw [c11b0]) | skip)
      have H' := zm_ H; clear H; go_wp2
      go_meet
      case rel => exact ⟨_, ((t125 == (-1))), rs_, H', ⟨by first | omega | exact Nat.le_refl _⟩, by repeat (first | exact Drawn0.refl _ | apply Drawn0.step)⟩
     ·rw [if_neg c11] at H; have c11b0 : (a1 == 6) = false := beq_eq_false_iff_ne.mpr c11; have c11b1 : (a1 != 6) = true := bne_iff_ne.mpr c11; (first | rw [c11b0] | (simp only [i64_w, i32_w]; rw [c11b0]) | skip)
      have H' := zm_ H; clear H; go_wp2
      go_meet
      case rel => exact ⟨_, (false), rs_, H', ⟨by first | omega | exact Nat.le_refl _⟩, by repeat (first | exact Drawn0.refl _ | apply Drawn0.step)⟩
    case rest =>
     clear HC10; (try clear c1); (try clear p2); (try clear c7); (try clear c7b0); (try clear c7b1); (try clear c8); (try clear c8b0); (try clear c8b1); (try clear c9); (try clear c9b0); (try clear c9b1); (try clear c11); (try clear c11b0); (try clear c11b1)
     obtain ⟨kq, x33_9, rfl, HA, HJ9, ⟨mc9, rfl⟩⟩ := hcut
     cases kq with
     | zero => exact absurd HA.out (by simp [ints_divided.j0])
     | succ kj9 =>
      have H := HA.out; clear HA; simp only [ints_divided.j0] at H; by_cases c12 : x33_9 = true
      ·subst c12; have H1 : (some (0, 0)) = some (r1, r2) := by rw [if_pos rfl] at H; exact H
       clear H; have H := H1; clear H1; simp only [Option.some.injEq, Prod.mk.injEq] at H; obtain ⟨rfl, rfl⟩ := H; go_wp2
       go_ret2; exact ⟨by first | rfl | (simp; done) | (simp [*]; done), by repeat (first | exact Drawn0.refl _ | apply Drawn0.step)⟩
      ·replace c12 := Bool.eq_false_iff.mpr c12; subst c12; have H1 : (if a1 = 6 then (if t125 = 0 then (none) else (some (IntKind.u64.wrap (Int.tmod t124 t125), 0))) else (if t125 = (-1) then (if 0 ≤ (wrap64 (a0 - 1)) then (if a2 = (shl .u64 1 (wrap64 (a0 - 1))) then (some (0, 42)) else (if t125 = 0 then (none) else (some (IntKind.u64.wrap (wrap64 (Int.tdiv t124 t125)), 0)))) else (none)) else (if t125 = 0 then (none) else (some (IntKind.u64.wrap (wrap64 (Int.tdiv t124 t125)), 0))))) = some (r1, r2) := by rw [if_neg (show ¬ (false = true) by decide)] at H; exact H
       clear H; have H := H1; clear H1; by_cases c13 : a1 = 6
       ·rw [if_pos c13] at H; have c13b0 : (a1 == 6) = true := beq_iff_eq.mpr c13; have c13b1 : (a1 != 6) = false := bne_eq_false_iff_eq.mpr c13; clear c13; by_cases c14 : t125 = 0
        ·rw [if_pos c14] at H; exact absurd H (by simp)
        ·rw [if_neg c14] at H; have c14b0 : (t125 == 0) = false := beq_eq_false_iff_ne.mpr c14; have c14b1 : (t125 != 0) = true := bne_iff_ne.mpr c14; simp only [Option.some.injEq, Prod.mk.injEq] at H; obtain ⟨rfl, rfl⟩ := H; go_wp2
         go_ret2; exact ⟨by first | rfl | (simp; done) | (simp [*]; done), by repeat (first | exact Drawn0.refl _ | apply Drawn0.step)⟩
       ·rw [if_neg c13] at H; have c13b0 : (a1 == 6) = false := beq_eq_false_iff_ne.mpr c13; have c13b1 : (a1 != 6) = true := bne_iff_ne.mpr c13; by_cases c15 : t125 = (-1)
        ·rw [if_pos c15] at H; have c15b0 : (t125 == (-1)) = true := beq_iff_eq.mpr c15; have c15b1 : (t125 != (-1)) = false := bne_eq_false_iff_eq.mpr c15; clear c15; obtain ⟨ji16, hji16⟩ : ∃ j_ : Int, (wrap64 (a0 - 1)) = j_ := ⟨_, rfl⟩
         replace H : (if 0 ≤ (ji16) then (if a2 = (shl .u64 1 (ji16)) then (some (0, 42)) else (if t125 = 0 then (none) else (some (IntKind.u64.wrap (wrap64 (Int.tdiv t124 t125)), 0)))) else (none)) = some (r1, r2) := by first | (rw [hji16] at H; exact H) | (simp only [hji16] at H ⊢; exact H)
         have hji16w : (IntKind.i64.wrap (a0 - 1)) = ji16 := (i64_w _).trans hji16; by_cases c17 : 0 ≤ (ji16)
         ·rw [if_pos c17] at H; have c17b0 := eq_true c17; have c17b1 : decide (0 ≤ (ji16)) = true := decide_eq_true c17; clear c17; obtain ⟨ji18, hji18⟩ : ∃ j_ : Int, (shl .u64 1 (ji16)) = j_ := ⟨_, rfl⟩
          replace H : (if a2 = (ji18) then (some (0, 42)) else (if t125 = 0 then (none) else (some (IntKind.u64.wrap (wrap64 (Int.tdiv t124 t125)), 0)))) = some (r1, r2) := by first | (rw [hji18] at H; exact H) | (simp only [hji18] at H ⊢; exact H)
          have hji18_ : (IntKind.u64.wrap (1 * 2 ^ min (ji16).toNat 64)) = ji18 := hji18; have hji18z : (ji16) ≤ 64 → (IntKind.u64.wrap (1 * 2 ^ (ji16).toNat)) = ji18 := shl_small hji18; have hji18u : (IntKind.u64.wrap (2 ^ min (ji16).toNat 64)) = ji18 := by have h_ := hji18_; rw [Int.one_mul] at h_; exact h_
          have hji18v : (ji16) ≤ 64 → (IntKind.u64.wrap (2 ^ (ji16).toNat)) = ji18 := fun hle_ => by have h_ := hji18z hle_; rw [Int.one_mul] at h_; exact h_
          by_cases c19 : a2 = (ji18)
          ·rw [if_pos c19] at H; have c19b0 : (a2 == (ji18)) = true := beq_iff_eq.mpr c19; have c19b1 : (a2 != (ji18)) = false := bne_eq_false_iff_eq.mpr c19; clear c19; simp only [Option.some.injEq, Prod.mk.injEq] at H; obtain ⟨rfl, rfl⟩ := H; go_wp2
           go_ret2; exact ⟨by first | rfl | (simp; done) | (simp only [← hji16, ← hji18] <;> (first | rfl | simp)) | (simp [*]; done), by repeat (first | exact Drawn0.refl _ | apply Drawn0.step)⟩
          ·rw [if_neg c19] at H; have c19b0 : (a2 == (ji18)) = false := beq_eq_false_iff_ne.mpr c19; have c19b1 : (a2 != (ji18)) = true := bne_iff_ne.mpr c19; by_cases c20 : t125 = 0
           ·rw [if_pos c20] at H; exact absurd H (by simp)
           ·rw [if_neg c20] at H; have c20b0 : (t125 == 0) = false := beq_eq_false_iff_ne.mpr c20; have c20b1 : (t125 != 0) = true := bne_iff_ne.mpr c20; simp only [Option.some.injEq, Prod.mk.injEq] at H; obtain ⟨rfl, rfl⟩ := H; go_wp2
            go_ret2; exact ⟨by first | rfl | (simp; done) | (simp only [← hji16, ← hji18] <;> (first | rfl | simp)) | (simp [*]; done), by repeat (first | exact Drawn0.refl _ | apply Drawn0.step)⟩
         ·rw [if_neg c17] at H; exact absurd H (by simp)
        ·rw [if_neg c15] at H; have c15b0 : (t125 == (-1)) = false := beq_eq_false_iff_ne.mpr c15; have c15b1 : (t125 != (-1)) = true := bne_iff_ne.mpr c15; by_cases c21 : t125 = 0
         ·rw [if_pos c21] at H; exact absurd H (by simp)
         ·rw [if_neg c21] at H; have c21b0 : (t125 == 0) = false := beq_eq_false_iff_ne.mpr c21; have c21b1 : (t125 != 0) = true := bne_iff_ne.mpr c21; simp only [Option.some.injEq, Prod.mk.injEq] at H; obtain ⟨rfl, rfl⟩ := H; go_wp2
          go_ret2; exact ⟨by first | rfl | (simp; done) | (simp [*]; done), by repeat (first | exact Drawn0.refl _ | apply Drawn0.step)⟩
def ints_moved.f (a0 : Int) (a1 : Int) (a2 : Int) (a3 : Int) : Option (Int) := none
def ints_held.f (a0 : Int) (a1 : Int) (a2 : Int) (a3 : Int) : Option (Int) := none
def ints_plain.f (a0 : Int) (a1 : Int) (a2 : Int) : Option (Int) := none
theorem ints_plain.calls (a0 : Int) (a1 : Int) (a2 : Int) (r : Int) (w : World) (h : ints_plain.f a0 a1 a2 = some r) (hG : GD w := by first | assumption | exact GD.below (by assumption) (by repeat (first | exact Aside0.out (by assumption) | exact Below.refl _ _ | assumption | apply below_alloc | apply pw_below_drewN | apply below_drew1 | refine below_set ?_ (Aside0.out (by assumption))))) :
  Calls Tryz.prog 98 #[.int .i64 a0, .int .u64 a1, .int .u64 a2] w fun e w' => e = .returned (.int .u64 r) ∧ Drawn0 w w' := by
 cases h
mutual
def ints_Bin.j0 : Nat → Int → Int → Int → Int → Bool → Option (Int × Int)
 | 0, _, _, _, _, _ => none
 | k + 1, x0, x1, x2, x3, x31 => if x31 = true then (some (0, 1)) else ((ints_mask.f x0).bind fun t127 => (if x1 ≥ 4 then (ints_Bin.j1 k x0 x1 (Go.bits .and .u64 x2 t127) (Go.bits .and .u64 x3 t127) t127 0 (decide (x1 ≤ 7))) else (ints_Bin.j1 k x0 x1 (Go.bits .and .u64 x2 t127) (Go.bits .and .u64 x3 t127) t127 0 false)))
def ints_Bin.j1 : Nat → Int → Int → Int → Int → Int → Int → Bool → Option (Int × Int)
 | 0, _, _, _, _, _, _, _ => none
 | k + 1, x0, x1, x2, x3, x10, x12, x44 => if x44 = true then ((ints_divided.f k x0 x1 x2 x3).bind fun bt128 => (some (Go.bits .and .u64 bt128.1 x10, bt128.2))) else (if x1 ≥ 11 then (none) else (if x1 ≥ 16 then (none) else ((ints_plain.f x1 x2 x3).bind fun t130 => (some (Go.bits .and .u64 t130 x10, x12)))))
end
def ints_Bin.f (k : Nat) (a0 : Int) (a1 : Int) (a2 : Int) (a3 : Int) : Option (Int × Int) := (ints_right.f a0).bind fun t126 => (if t126 = true then (if a1 < 1 then (ints_Bin.j0 k a0 a1 a2 a3 true) else (if a1 > 25 then (ints_Bin.j0 k a0 a1 a2 a3 true) else (if a1 = 25 then (ints_Bin.j0 k a0 a1 a2 a3 (a0 != 16)) else (ints_Bin.j0 k a0 a1 a2 a3 false)))) else (ints_Bin.j0 k a0 a1 a2 a3 true))
theorem ints_Bin.mono_l : ∀ k, (∀ y0 y1 y2 y3 y4, LeO (ints_Bin.j0 k y0 y1 y2 y3 y4) (ints_Bin.j0 (k + 1) y0 y1 y2 y3 y4)) ∧ (∀ y0 y1 y2 y3 y4 y5 y6, LeO (ints_Bin.j1 k y0 y1 y2 y3 y4 y5 y6) (ints_Bin.j1 (k + 1) y0 y1 y2 y3 y4 y5 y6))
 | 0 => ⟨fun _ _ _ _ _ r h => by simp [ints_Bin.j0] at h, fun _ _ _ _ _ _ _ r h => by simp [ints_Bin.j1] at h⟩
 | k + 1 => by
  obtain ⟨ih0, ih1⟩ := ints_Bin.mono_l k; refine ⟨?_, ?_⟩
  ·intro y0 y1 y2 y3 y4; unfold ints_Bin.j0
   repeat' first
   | (with_reducible exact ih0 _ _ _ _ _)
   | (with_reducible exact ih1 _ _ _ _ _ _ _)
   | (with_reducible exact ints_divided.mono _ _ _ _ _)
   | (with_reducible exact LeO.refl _)
   | (with_reducible exact LeO.none _)
   | (with_reducible refine LeO.ite ?_ ?_)
   | (with_reducible refine LeO.bind ?_ (fun _ => ?_))
   | exact ih0 _ _ _ _ _
   | exact ih1 _ _ _ _ _ _ _
   | exact ints_divided.mono _ _ _ _ _
   | exact LeO.none _
   | refine LeO.ite ?_ ?_
   | refine LeO.bind ?_ (fun _ => ?_)
  ·intro y0 y1 y2 y3 y4 y5 y6; unfold ints_Bin.j1
   repeat' first
   | (with_reducible exact ih0 _ _ _ _ _)
   | (with_reducible exact ih1 _ _ _ _ _ _ _)
   | (with_reducible exact ints_divided.mono _ _ _ _ _)
   | (with_reducible exact LeO.refl _)
   | (with_reducible exact LeO.none _)
   | (with_reducible refine LeO.ite ?_ ?_)
   | (with_reducible refine LeO.bind ?_ (fun _ => ?_))
   | exact ih0 _ _ _ _ _
   | exact ih1 _ _ _ _ _ _ _
   | exact ints_divided.mono _ _ _ _ _
   | exact LeO.none _
   | refine LeO.ite ?_ ?_
   | refine LeO.bind ?_ (fun _ => ?_)
theorem ints_Bin.mono : ∀ a0 a1 a2 a3 k, LeO (ints_Bin.f k a0 a1 a2 a3) (ints_Bin.f (k + 1) a0 a1 a2 a3) := by
 intro a0 a1 a2 a3 k; obtain ⟨ih0, ih1⟩ := ints_Bin.mono_l k; unfold ints_Bin.f
 repeat' first
   | (with_reducible exact ih0 _ _ _ _ _)
   | (with_reducible exact ih1 _ _ _ _ _ _ _)
   | (with_reducible exact ints_divided.mono _ _ _ _ _)
   | (with_reducible exact LeO.refl _)
   | (with_reducible exact LeO.none _)
   | (with_reducible refine LeO.ite ?_ ?_)
   | (with_reducible refine LeO.bind ?_ (fun _ => ?_))
   | exact ih0 _ _ _ _ _
   | exact ih1 _ _ _ _ _ _ _
   | exact ints_divided.mono _ _ _ _ _
   | exact LeO.none _
   | refine LeO.ite ?_ ?_
   | refine LeO.bind ?_ (fun _ => ?_)
theorem ints_Bin.calls (k : Nat) (a0 : Int) (a1 : Int) (a2 : Int) (a3 : Int) (r1 : Int) (r2 : Int) (w : World) (h : ints_Bin.f k a0 a1 a2 a3 = some (r1, r2)) (hG : GD w := by first | assumption | exact GD.below (by assumption) (by repeat (first | exact Aside0.out (by assumption) | exact Below.refl _ _ | assumption | apply below_alloc | apply pw_below_drewN | apply below_drew1 | refine below_set ?_ (Aside0.out (by assumption))))) :
  Calls Tryz.prog 49 #[.int .i64 a0, .int .i64 a1, .int .u64 a2, .int .u64 a3] w fun e w' => e = .returned (.tuple #[.int .u64 r1, .int .i64 r2]) ∧ Drawn0 w w' := by
 have H : ((ints_right.f a0).bind fun t126 => (if t126 = true then (if a1 < 1 then (ints_Bin.j0 k a0 a1 a2 a3 true) else (if a1 > 25 then (ints_Bin.j0 k a0 a1 a2 a3 true) else (if a1 = 25 then (ints_Bin.j0 k a0 a1 a2 a3 (a0 != 16)) else (ints_Bin.j0 k a0 a1 a2 a3 false)))) else (ints_Bin.j0 k a0 a1 a2 a3 true))) = some (r1, r2) := h; clear h; have HC5 := zm_ H; clear H; go_enter Tryz.func49, Tryz.ntmps49
 go_upto_region 1 with (fail)
 go_cut [31] (fun v31 wc => ∃ (kq : Nat) (x31_4 : Bool), v31 = .bool x31_4 ∧ Aside0 (ints_Bin.j0 kq a0 a1 a2 a3 x31_4 = some (r1, r2)) ∧ Aside0 (kq ≤ k) ∧ Drawn0 w wc)
 case first =>
  have H := HC5.out; clear HC5; replace H := Option.bind_eq_some_iff.mp H; obtain ⟨t126, A60, H⟩ := H; replace H : (if t126 = true then (if a1 < 1 then (ints_Bin.j0 k a0 a1 a2 a3 true) else (if a1 > 25 then (ints_Bin.j0 k a0 a1 a2 a3 true) else (if a1 = 25 then (ints_Bin.j0 k a0 a1 a2 a3 (a0 != 16)) else (ints_Bin.j0 k a0 a1 a2 a3 false)))) else (ints_Bin.j0 k a0 a1 a2 a3 true)) = some (r1, r2) := H; have A6 := zm_ A60; clear A60; by_cases c7 : t126 = true
  ·subst c7; have H1 : (if a1 < 1 then (ints_Bin.j0 k a0 a1 a2 a3 true) else (if a1 > 25 then (ints_Bin.j0 k a0 a1 a2 a3 true) else (if a1 = 25 then (ints_Bin.j0 k a0 a1 a2 a3 (a0 != 16)) else (ints_Bin.j0 k a0 a1 a2 a3 false)))) = some (r1, r2) := by rw [if_pos rfl] at H; exact H
   clear H; have H := H1; clear H1; by_cases c8 : a1 < 1
   ·rw [if_pos c8] at H; have c8b0 : decide (a1 < 1) = true := decide_eq_true c8; clear c8; (first | rw [c8b0] | (simp only [i64_w, i32_w]; rw [c8b0]) | skip)
    have H' := zm_ H; clear H; go_wp2_with (first | ((with_reducible refine gate_callee (f := 85) rfl ?_); refine goesL_ (some 14) rfl rfl Tryz.func85 (by kernel_rfl) rfl #[.int .i64 a0] rfl mp_ ?_; (with_reducible refine (ints_right.calls a0 true _ A6.out).mono ?_); rintro e w' ⟨rfl, ⟨nd, rfl⟩⟩; refine ⟨_, rfl, ?_⟩))
    go_meet
    case rel => exact ⟨_, (true), rs_, H', ⟨by first | omega | exact Nat.le_refl _⟩, by repeat (first | exact Drawn0.refl _ | apply Drawn0.step)⟩
   ·rw [if_neg c8] at H; have c8b0 : decide (a1 < 1) = false := decide_eq_false c8; clear c8; (first | rw [c8b0] | (simp only [i64_w, i32_w]; rw [c8b0]) | skip)
    by_cases c9 : a1 > 25
    ·rw [if_pos c9] at H; have c9b0 : decide (25 < a1) = true := decide_eq_true c9; clear c9; have H' := zm_ H; clear H; go_wp2_with (first | ((with_reducible refine gate_callee (f := 85) rfl ?_); refine goesL_ (some 14) rfl rfl Tryz.func85 (by kernel_rfl) rfl #[.int .i64 a0] rfl mp_ ?_; (with_reducible refine (ints_right.calls a0 true _ A6.out).mono ?_); rintro e w' ⟨rfl, ⟨nd, rfl⟩⟩; refine ⟨_, rfl, ?_⟩))
     go_meet
     case rel => exact ⟨_, (true), rs_, H', ⟨by first | omega | exact Nat.le_refl _⟩, by repeat (first | exact Drawn0.refl _ | apply Drawn0.step)⟩
    ·rw [if_neg c9] at H; have c9b0 : decide (25 < a1) = false := decide_eq_false c9; clear c9; by_cases c10 : a1 = 25
     ·rw [if_pos c10] at H; have c10b0 : (a1 == 25) = true := beq_iff_eq.mpr c10; have c10b1 : (a1 != 25) = false := bne_eq_false_iff_eq.mpr c10; clear c10; have H' := zm_ H; clear H; go_wp2_with (first | ((with_reducible refine gate_callee (f := 85) rfl ?_); refine goesL_ (some 14) rfl rfl Tryz.func85 (by kernel_rfl) rfl #[.int .i64 a0] rfl mp_ ?_; (with_reducible refine (ints_right.calls a0 true _ A6.out).mono ?_); rintro e w' ⟨rfl, ⟨nd, rfl⟩⟩; refine ⟨_, rfl, ?_⟩))
      go_meet
      case rel => exact ⟨_, ((a0 != 16)), rs_, H', ⟨by first | omega | exact Nat.le_refl _⟩, by repeat (first | exact Drawn0.refl _ | apply Drawn0.step)⟩
     ·rw [if_neg c10] at H; have c10b0 : (a1 == 25) = false := beq_eq_false_iff_ne.mpr c10; have c10b1 : (a1 != 25) = true := bne_iff_ne.mpr c10; have H' := zm_ H; clear H; go_wp2_with (first | ((with_reducible refine gate_callee (f := 85) rfl ?_); refine goesL_ (some 14) rfl rfl Tryz.func85 (by kernel_rfl) rfl #[.int .i64 a0] rfl mp_ ?_; (with_reducible refine (ints_right.calls a0 true _ A6.out).mono ?_); rintro e w' ⟨rfl, ⟨nd, rfl⟩⟩; refine ⟨_, rfl, ?_⟩))
      go_meet
      case rel => exact ⟨_, (false), rs_, H', ⟨by first | omega | exact Nat.le_refl _⟩, by repeat (first | exact Drawn0.refl _ | apply Drawn0.step)⟩
  ·replace c7 := Bool.eq_false_iff.mpr c7; subst c7; have H1 : (ints_Bin.j0 k a0 a1 a2 a3 true) = some (r1, r2) := by rw [if_neg (show ¬ (false = true) by decide)] at H; exact H
   clear H; have H := H1; clear H1; have H' := zm_ H; clear H; go_wp2_with (first | ((with_reducible refine gate_callee (f := 85) rfl ?_); refine goesL_ (some 14) rfl rfl Tryz.func85 (by kernel_rfl) rfl #[.int .i64 a0] rfl mp_ ?_; (with_reducible refine (ints_right.calls a0 false _ A6.out).mono ?_); rintro e w' ⟨rfl, ⟨nd, rfl⟩⟩; refine ⟨_, rfl, ?_⟩))
   go_meet
   case rel => exact ⟨_, (true), rs_, H', ⟨by first | omega | exact Nat.le_refl _⟩, by repeat (first | exact Drawn0.refl _ | apply Drawn0.step)⟩
 case rest =>
  clear HC5; (try clear c1); (try clear p2); (try clear c4); (try clear c7); (try clear c8); (try clear c8b0); (try clear c9); (try clear c9b0); (try clear c10); (try clear c10b0); (try clear c10b1)
  obtain ⟨kq, x31_4, rfl, HA, HJ4, ⟨mc4, rfl⟩⟩ := hcut
  cases kq with
  | zero => exact absurd HA.out (by simp [ints_Bin.j0])
  | succ kj4 =>
   have H := HA.out; clear HA; simp only [ints_Bin.j0] at H; by_cases c11 : x31_4 = true
   ·subst c11; have H1 : (some (0, 1)) = some (r1, r2) := by rw [if_pos rfl] at H; exact H
    clear H; have H := H1; clear H1; simp only [Option.some.injEq, Prod.mk.injEq] at H; obtain ⟨rfl, rfl⟩ := H; go_wp2
    go_ret2; exact ⟨by first | rfl | (simp; done) | (simp [*]; done), by repeat (first | exact Drawn0.refl _ | apply Drawn0.step)⟩
   ·replace c11 := Bool.eq_false_iff.mpr c11; subst c11; have H1 : ((ints_mask.f a0).bind fun t127 => (if a1 ≥ 4 then (ints_Bin.j1 kj4 a0 a1 (Go.bits .and .u64 a2 t127) (Go.bits .and .u64 a3 t127) t127 0 (decide (a1 ≤ 7))) else (ints_Bin.j1 kj4 a0 a1 (Go.bits .and .u64 a2 t127) (Go.bits .and .u64 a3 t127) t127 0 false))) = some (r1, r2) := by rw [if_neg (show ¬ (false = true) by decide)] at H; exact H
    clear H; have H := H1; clear H1; replace H := Option.bind_eq_some_iff.mp H; obtain ⟨t127, A120, H⟩ := H; replace H : (if a1 ≥ 4 then (ints_Bin.j1 kj4 a0 a1 (Go.bits .and .u64 a2 t127) (Go.bits .and .u64 a3 t127) t127 0 (decide (a1 ≤ 7))) else (ints_Bin.j1 kj4 a0 a1 (Go.bits .and .u64 a2 t127) (Go.bits .and .u64 a3 t127) t127 0 false)) = some (r1, r2) := H; have A12 := zm_ A120; clear A120; have HC13 := zm_ H; clear H; go_upto_region 8 with (first | ((with_reducible refine gate_callee (f := 86) rfl ?_); refine goesL_ (some 33) rfl rfl Tryz.func86 (by kernel_rfl) rfl #[.int .i64 a0] rfl mp_ ?_; (with_reducible refine (ints_mask.calls a0 t127 _ A12.out).mono ?_); rintro e w' ⟨rfl, ⟨nd, rfl⟩⟩; refine ⟨_, rfl, ?_⟩))
    (try simp only [Act.put, List.setIfInBounds_toArray, List.set_cons_zero, List.set_cons_succ])
    go_cut [44] (fun v44 wc => ∃ (kq : Nat) (x44_12 : Bool), v44 = .bool x44_12 ∧ Aside0 (ints_Bin.j1 kq a0 a1 (Go.bits .and .u64 a2 t127) (Go.bits .and .u64 a3 t127) t127 0 x44_12 = some (r1, r2)) ∧ Aside0 (kq ≤ kj4) ∧ Drawn0 w wc)
    case first =>
     have H := HC13.out; clear HC13; by_cases c14 : a1 ≥ 4
     ·rw [if_pos c14] at H; have c14b0 : decide (4 ≤ a1) = true := decide_eq_true c14; clear c14; (first | rw [c14b0] | (simp only [i64_w, i32_w]; rw [c14b0]) | skip)
      have H' := zm_ H; clear H; go_wp2
      go_meet
      case rel => exact ⟨_, (decide (a1 ≤ 7)), rs_, H', ⟨by have := HJ4.out; first | omega | exact Nat.le_refl _⟩, by repeat (first | exact Drawn0.refl _ | apply Drawn0.step)⟩
     ·rw [if_neg c14] at H; have c14b0 : decide (4 ≤ a1) = false := decide_eq_false c14; clear c14; (first | rw [c14b0] | (simp only [i64_w, i32_w]; rw [c14b0]) | skip)
      have H' := zm_ H; clear H; go_wp2
      go_meet
      case rel => exact ⟨_, (false), rs_, H', ⟨by have := HJ4.out; first | omega | exact Nat.le_refl _⟩, by repeat (first | exact Drawn0.refl _ | apply Drawn0.step)⟩
    case rest =>
     clear HC13; (try clear c1); (try clear p2); (try clear c4); (try clear c7); (try clear c8); (try clear c8b0); (try clear c9); (try clear c9b0); (try clear c10); (try clear c10b0); (try clear c10b1); (try clear c11); (try clear c14); (try clear c14b0); (try clear p2)
     obtain ⟨kq, x44_12, rfl, HA, HJ12, ⟨mc12, rfl⟩⟩ := hcut
     cases kq with
     | zero => exact absurd HA.out (by simp [ints_Bin.j1])
     | succ kj12 =>
      have H := HA.out; clear HA; simp only [ints_Bin.j1] at H; by_cases c15 : x44_12 = true
      ·subst c15; have H1 : ((ints_divided.f kj12 a0 a1 (Go.bits .and .u64 a2 t127) (Go.bits .and .u64 a3 t127)).bind fun bt128 => (some (Go.bits .and .u64 bt128.1 t127, bt128.2))) = some (r1, r2) := by rw [if_pos rfl] at H; exact H
       clear H; have H := H1; clear H1; replace H := Option.bind_eq_some_iff.mp H; obtain ⟨⟨t128, t129⟩, A160, H⟩ := H; replace H : (some (Go.bits .and .u64 t128 t127, t129)) = some (r1, r2) := H; have A16 := zm_ A160; clear A160; simp only [Option.some.injEq, Prod.mk.injEq] at H; obtain ⟨rfl, rfl⟩ := H; go_wp2_with (first | ((with_reducible refine gate_callee (f := 95) rfl ?_); refine goesL_ (some 56) rfl rfl Tryz.func95 (by kernel_rfl) rfl #[.int .i64 a0, .int .i64 a1, .int .u64 (Go.bits .and .u64 a2 t127), .int .u64 (Go.bits .and .u64 a3 t127)] rfl mp_ ?_; (with_reducible refine (ints_divided.calls kj12 a0 a1 (Go.bits .and .u64 a2 t127) (Go.bits .and .u64 a3 t127) t128 t129 _ A16.out).mono ?_); rintro e w' ⟨rfl, ⟨nd, rfl⟩⟩; refine ⟨_, rfl, ?_⟩))
       go_ret2; exact ⟨by first | rfl | (simp; done) | (simp [*]; done), by repeat (first | exact Drawn0.refl _ | apply Drawn0.step)⟩
      ·replace c15 := Bool.eq_false_iff.mpr c15; subst c15; have H1 : (if a1 ≥ 11 then (none) else (if a1 ≥ 16 then (none) else ((ints_plain.f a1 (Go.bits .and .u64 a2 t127) (Go.bits .and .u64 a3 t127)).bind fun t130 => (some (Go.bits .and .u64 t130 t127, 0))))) = some (r1, r2) := by rw [if_neg (show ¬ (false = true) by decide)] at H; exact H
       clear H; have H := H1; clear H1; by_cases c17 : a1 ≥ 11
       ·rw [if_pos c17] at H; exact absurd H (by simp)
       ·rw [if_neg c17] at H; have c17b0 : decide (11 ≤ a1) = false := decide_eq_false c17; clear c17; by_cases c18 : a1 ≥ 16
        ·rw [if_pos c18] at H; exact absurd H (by simp)
        ·rw [if_neg c18] at H; have c18b0 : decide (16 ≤ a1) = false := decide_eq_false c18; clear c18; replace H := Option.bind_eq_some_iff.mp H; obtain ⟨t130, A190, H⟩ := H; replace H : (some (Go.bits .and .u64 t130 t127, 0)) = some (r1, r2) := H; have A19 := zm_ A190; clear A190; simp only [Option.some.injEq, Prod.mk.injEq] at H; obtain ⟨rfl, rfl⟩ := H; go_wp2_with (first | ((with_reducible refine gate_callee (f := 98) rfl ?_); refine goesL_ (some 43) rfl rfl Tryz.func98 (by kernel_rfl) rfl #[.int .i64 a1, .int .u64 (Go.bits .and .u64 a2 t127), .int .u64 (Go.bits .and .u64 a3 t127)] rfl mp_ ?_; (with_reducible refine (ints_plain.calls a1 (Go.bits .and .u64 a2 t127) (Go.bits .and .u64 a3 t127) t130 _ A19.out).mono ?_); rintro e w' ⟨rfl, ⟨nd, rfl⟩⟩; refine ⟨_, rfl, ?_⟩))
         go_ret2; exact ⟨by first | rfl | (simp; done) | (simp [*]; done), by repeat (first | exact Drawn0.refl _ | apply Drawn0.step)⟩
def conv_Trunc.f (a0 : Int) (a1 : Int) (a2 : Bool) (a3 : Bool) (a4 : Int) : Option (Int × Int) := none
def conv_Convert.f (a0 : Int) (a1 : Int) (a2 : Bool) (a3 : Int) : Option (Int × Int) := none
def conv_Demote.f (a0 : Int) : Option (Int) := none
def conv_Promote.f (a0 : Int) : Option (Int) := none
def ints_Un.f (a0 : Int) (a1 : Int) (a2 : Int) : Option (Int × Int) := none
def ints_Rel.f (a0 : Int) (a1 : Int) (a2 : Int) (a3 : Int) : Option (Bool × Int) := none
def floats_Rel.f (a0 : Int) (a1 : Int) (a2 : Int) (a3 : Int) : Option (Bool × Int) := none
def floats_Bin.f (a0 : Int) (a1 : Int) (a2 : Int) (a3 : Int) : Option (Int × Int) := if (a0 = 32 ∨ a0 = 64) ∧ 1 ≤ a1 ∧ a1 ≤ 7 ∧ 0 ≤ a2 ∧ a2 < 18446744073709551616 ∧ 0 ≤ a3 ∧ a3 < 18446744073709551616 then (if a0 = 32 then some ((bin32 a1 (a2.toNat % 4294967296) (a3.toNat % 4294967296) : Nat), (0 : Int)) else some ((bin64 a1 a2.toNat a3.toNat : Nat), (0 : Int))) else none
theorem floats_Bin.calls (a0 : Int) (a1 : Int) (a2 : Int) (a3 : Int) (r1 : Int) (r2 : Int) (w : World) (h : floats_Bin.f a0 a1 a2 a3 = some (r1, r2)) (hG : GD w := by first | assumption | exact GD.below (by assumption) (by repeat (first | exact Aside0.out (by assumption) | exact Below.refl _ _ | assumption | apply below_alloc | apply pw_below_drewN | apply below_drew1 | refine below_set ?_ (Aside0.out (by assumption))))) :
  Calls Tryz.prog 51 #[.int .i64 a0, .int .i64 a1, .int .u64 a2, .int .u64 a3] w fun e w' => e = .returned (.tuple #[.int .u64 r1, .int .i64 r2]) ∧ Below w.heap.size w w' := by
 unfold floats_Bin.f at h; split at h
 ·rename_i hc
  obtain ⟨h0, h1, h2, h3, h4, h5, h6⟩ := hc; obtain ⟨n, rfl⟩ := Int.eq_ofNat_of_zero_le h3; obtain ⟨m, rfl⟩ := Int.eq_ofNat_of_zero_le h5; rw [Int.toNat_natCast, Int.toNat_natCast] at h; split at h
  ·rename_i hn
   subst hn; simp only [Option.some.injEq, Prod.mk.injEq] at h; obtain ⟨rfl, rfl⟩ := h; exact binp_any32 a1 n m w ⟨h1, h2⟩ (by omega) (by omega)
  ·rename_i hn
   obtain rfl : a0 = 64 := by omega
   simp only [Option.some.injEq, Prod.mk.injEq] at h; obtain ⟨rfl, rfl⟩ := h; exact binp_any64 a1 n m w ⟨h1, h2⟩ (by omega) (by omega)
 ·cases h
def lanes_Do.f (a0 : Int) (l1 : List Int) (l2 : List (S33)) : Option (Int × Int × Int × Bool × Int) := none
end Go.Proofs.YtkhhhceeoljheaaGreatDoor.PFlo

import Derived.Test.YtkhhhceeoljheaaGreatDoorSxPStax7
import Derived.Test.YtkhhhceeoljheaaGreatDoorSxPStax8
namespace Go.Proofs.YtkhhhceeoljheaaGreatDoor.PSta
open Go.RowKit Go.Proofs.YtkhhhceeoljheaaGreatDoorW.PrintWords Go.Proofs.YtkhhhceeoljheaaGreatDoorW.PrintLast Go.Proofs.YtkhhhceeoljheaaGreatDoorW.PrintMore
attribute [local go_sem] max2_int min2_int max_two min_two max_three min_three max_four min_four   
set_option linter.unusedVariables false
set_option linter.unusedSimpArgs false
def scalar_work.j0 : Nat → Int → Int → Int → Int → Bool → Option (Int × Int)
 | 0, _, _, _, _, _ => none
 | k + 1, x0, x1, x2, x3, x11 => if x11 = true then ((scalar_truth.f (x2 == 0) 0).bind fun bt174 => (some (bt174.1, bt174.2))) else (if x0 ≤ 79 then ((ints_Rel.f k x1 (wrap64 ((wrap64 (1 + x0)) - 70)) x2 x3).bind fun bt176 => ((scalar_truth.f bt176.1 bt176.2).bind fun bt178 => (some (bt178.1, bt178.2)))) else (if x0 ≤ 90 then ((ints_Rel.f k x1 (wrap64 ((wrap64 (1 + x0)) - 81)) x2 x3).bind fun bt180 => ((scalar_truth.f bt180.1 bt180.2).bind fun bt182 => (some (bt182.1, bt182.2)))) else (if x0 ≤ 96 then ((floats_Rel.f k x1 (wrap64 ((wrap64 (1 + x0)) - 91)) x2 x3).bind fun bt184 => ((scalar_truth.f bt184.1 bt184.2).bind fun bt186 => (some (bt186.1, bt186.2)))) else (if x0 ≤ 102 then ((floats_Rel.f k x1 (wrap64 ((wrap64 (1 + x0)) - 97)) x2 x3).bind fun bt188 => ((scalar_truth.f bt188.1 bt188.2).bind fun bt190 => (some (bt190.1, bt190.2)))) else (if x0 ≤ 105 then (none) else (if x0 ≤ 120 then ((ints_Bin.f k x1 (wrap64 ((wrap64 (1 + x0)) - 106)) x2 x3).bind fun bt192 => (some (bt192.1, bt192.2))) else (if x0 ≤ 123 then (none) else (if x0 ≤ 138 then (none) else (if x0 ≤ 145 then (none) else (if x0 ≤ 152 then (none) else (if x0 ≤ 159 then (none) else (if x0 ≤ 166 then (none) else (if x0 ≥ 64512 then (none) else ((scalar_turned.f x0 x2).bind fun bt194 => (some (bt194.1, bt194.2))))))))))))))))
def scalar_work.f (k : Nat) (a0 : Int) (a1 : Int) (a2 : Int) (a3 : Int) : Option (Int × Int) := if a0 = 69 then (scalar_work.j0 k a0 a1 a2 a3 true) else (scalar_work.j0 k a0 a1 a2 a3 (a0 == 80))
theorem scalar_work.mono_l : ∀ k, (∀ y0 y1 y2 y3 y4, LeO (scalar_work.j0 k y0 y1 y2 y3 y4) (scalar_work.j0 (k + 1) y0 y1 y2 y3 y4))
 | 0 => fun _ _ _ _ _ r h => by simp [scalar_work.j0] at h
 | k + 1 => by
  have ih0 := scalar_work.mono_l k
  ·intro y0 y1 y2 y3 y4
   unfold scalar_work.j0
   repeat' first
   | (with_reducible exact ih0 _ _ _ _ _)
   | (with_reducible exact floats_Rel.mono _ _ _ _ _)
   | (with_reducible exact ints_Bin.mono _ _ _ _ _)
   | (with_reducible exact ints_Rel.mono _ _ _ _ _)
   | (with_reducible exact LeO.refl _)
   | (with_reducible exact LeO.none _)
   | (with_reducible refine LeO.ite ?_ ?_)
   | (with_reducible refine LeO.bind ?_ (fun _ => ?_))
   | exact ih0 _ _ _ _ _
   | exact floats_Rel.mono _ _ _ _ _
   | exact ints_Bin.mono _ _ _ _ _
   | exact ints_Rel.mono _ _ _ _ _
   | exact LeO.none _
   | refine LeO.ite ?_ ?_
   | refine LeO.bind ?_ (fun _ => ?_)
theorem scalar_work.mono : ∀ a0 a1 a2 a3 k, LeO (scalar_work.f k a0 a1 a2 a3) (scalar_work.f (k + 1) a0 a1 a2 a3) := by
 intro a0 a1 a2 a3 k
 have ih0 := scalar_work.mono_l k
 unfold scalar_work.f
 repeat' first
   | (with_reducible exact ih0 _ _ _ _ _)
   | (with_reducible exact floats_Rel.mono _ _ _ _ _)
   | (with_reducible exact ints_Bin.mono _ _ _ _ _)
   | (with_reducible exact ints_Rel.mono _ _ _ _ _)
   | (with_reducible exact LeO.refl _)
   | (with_reducible exact LeO.none _)
   | (with_reducible refine LeO.ite ?_ ?_)
   | (with_reducible refine LeO.bind ?_ (fun _ => ?_))
   | exact ih0 _ _ _ _ _
   | exact floats_Rel.mono _ _ _ _ _
   | exact ints_Bin.mono _ _ _ _ _
   | exact ints_Rel.mono _ _ _ _ _
   | exact LeO.none _
   | refine LeO.ite ?_ ?_
   | refine LeO.bind ?_ (fun _ => ?_)
set_option maxHeartbeats 8000000 in
set_option maxRecDepth 100000 in
theorem scalar_work.calls (k : Nat) (a0 : Int) (a1 : Int) (a2 : Int) (a3 : Int) (r1 : Int) (r2 : Int) (w : World) (h : scalar_work.f k a0 a1 a2 a3 = some (r1, r2)) (hG : GD w := by first | assumption | exact GD.below (by assumption) (by repeat (first | exact Aside0.out (by assumption) | exact Below.refl _ _ | assumption | apply below_alloc | apply pw_below_drewN | apply below_drew1 | refine below_set ?_ (Aside0.out (by assumption))))) :
  Calls Tryz.prog 31 #[.int .i64 a0, .int .i64 a1, .int .u64 a2, .int .u64 a3] w fun e w' => e = .returned (.tuple #[.int .u64 r1, .int .i64 r2]) ∧ Below w.heap.size w w' := by
 have HB := Aside0.mk (Below.refl w.heap.size w)
 have H : (if a0 = 69 then (scalar_work.j0 k a0 a1 a2 a3 true) else (scalar_work.j0 k a0 a1 a2 a3 (a0 == 80))) = some (r1, r2) := h
 clear h
 have HC5 := Aside0.mk H
 clear H
 go_enter Tryz.func31, Tryz.ntmps31
 go_upto_region 1 with (fail)
 go_cut [11] (fun v11 wc => ∃ (kq : Nat) (x11_4 : Bool), v11 = .bool x11_4 ∧ Aside0 (scalar_work.j0 kq a0 a1 a2 a3 x11_4 = some (r1, r2)) ∧ Aside0 (kq ≤ k) ∧ Aside0 (Below w.heap.size w wc))
 case first =>
  have H := HC5.out
  clear HC5
  by_cases c6 : a0 = 69
  ·rw [if_pos c6] at H
   have c6b0 : (a0 == 69) = true := beq_iff_eq.mpr c6
   have c6b1 : (a0 != 69) = false := bne_eq_false_iff_eq.mpr c6
   clear c6
   (first | rw [c6b0] | (simp only [i64_w, i32_w]; rw [c6b0]) | skip)
   have H' := Aside0.mk H
   clear H
   go_wp2
   go_meet
   case rel => exact ⟨_, (true), rs_, H', ⟨by first | omega | exact Nat.le_refl _⟩, ⟨bl_⟩⟩
  ·rw [if_neg c6] at H
   have c6b0 : (a0 == 69) = false := beq_eq_false_iff_ne.mpr c6
   have c6b1 : (a0 != 69) = true := bne_iff_ne.mpr c6
   (first | rw [c6b0] | (simp only [i64_w, i32_w]; rw [c6b0]) | skip)
   have H' := Aside0.mk H
   clear H
   go_wp2
   go_meet
   case rel => exact ⟨_, ((a0 == 80)), rs_, H', ⟨by first | omega | exact Nat.le_refl _⟩, ⟨bl_⟩⟩
 case rest =>
  clear HC5
  (try clear p2); (try clear c3); (try clear c6); (try clear c6b0); (try clear c6b1)
  obtain ⟨kq, x11_4, rfl, HA, HJ4, HB⟩ := hcut
  cases kq with
  | zero => exact absurd HA.out (by simp [scalar_work.j0])
  | succ kj4 =>
   have H := HA.out
   clear HA
   simp only [scalar_work.j0] at H
   by_cases c7 : x11_4 = true
   ·subst c7
    have H1 : ((scalar_truth.f (a2 == 0) 0).bind fun bt174 => (some (bt174.1, bt174.2))) = some (r1, r2) := by rw [if_pos rfl] at H; exact H
    clear H
    have H := H1
    clear H1
    replace H := Option.bind_eq_some_iff.mp H
    obtain ⟨⟨t174, t175⟩, A80, H⟩ := H
    replace H : (some (t174, t175)) = some (r1, r2) := H
    have A8 := Aside0.mk A80
    clear A80
    simp only [Option.some.injEq, Prod.mk.injEq] at H
    obtain ⟨rfl, rfl⟩ := H
    go_wp2_with (first | ((with_reducible refine gate_callee (f := 45) rfl ?_); refine goesL_ (some 20) rfl rfl Tryz.func45 (by kernel_rfl) rfl #[.bool (a2 == 0), .int .i64 0] rfl mp_ ?_; (with_reducible refine (scalar_truth.calls (a2 == 0) 0 t174 t175 _ A8.out).mono ?_); rintro e w' ⟨rfl, ⟨nd, rfl⟩⟩; refine ⟨_, rfl, ?_⟩))
    go_ret2
    exact ⟨er_, bl_⟩
   ·replace c7 := Bool.eq_false_iff.mpr c7
    subst c7
    have H1 : (if a0 ≤ 79 then ((ints_Rel.f kj4 a1 (wrap64 ((wrap64 (1 + a0)) - 70)) a2 a3).bind fun bt176 => ((scalar_truth.f bt176.1 bt176.2).bind fun bt178 => (some (bt178.1, bt178.2)))) else (if a0 ≤ 90 then ((ints_Rel.f kj4 a1 (wrap64 ((wrap64 (1 + a0)) - 81)) a2 a3).bind fun bt180 => ((scalar_truth.f bt180.1 bt180.2).bind fun bt182 => (some (bt182.1, bt182.2)))) else (if a0 ≤ 96 then ((floats_Rel.f kj4 a1 (wrap64 ((wrap64 (1 + a0)) - 91)) a2 a3).bind fun bt184 => ((scalar_truth.f bt184.1 bt184.2).bind fun bt186 => (some (bt186.1, bt186.2)))) else (if a0 ≤ 102 then ((floats_Rel.f kj4 a1 (wrap64 ((wrap64 (1 + a0)) - 97)) a2 a3).bind fun bt188 => ((scalar_truth.f bt188.1 bt188.2).bind fun bt190 => (some (bt190.1, bt190.2)))) else (if a0 ≤ 105 then (none) else (if a0 ≤ 120 then ((ints_Bin.f kj4 a1 (wrap64 ((wrap64 (1 + a0)) - 106)) a2 a3).bind fun bt192 => (some (bt192.1, bt192.2))) else (if a0 ≤ 123 then (none) else (if a0 ≤ 138 then (none) else (if a0 ≤ 145 then (none) else (if a0 ≤ 152 then (none) else (if a0 ≤ 159 then (none) else (if a0 ≤ 166 then (none) else (if a0 ≥ 64512 then (none) else ((scalar_turned.f a0 a2).bind fun bt194 => (some (bt194.1, bt194.2)))))))))))))))) = some (r1, r2) := by rw [if_neg (show ¬ (false = true) by decide)] at H; exact H
    clear H
    have H := H1
    clear H1
    by_cases c9 : a0 ≤ 79
    ·rw [if_pos c9] at H
     have c9b0 : decide (a0 ≤ 79) = true := decide_eq_true c9
     clear c9
     replace H := Option.bind_eq_some_iff.mp H
     obtain ⟨⟨t176, t177⟩, A100, H⟩ := H
     replace H : ((scalar_truth.f t176 t177).bind fun bt178 => (some (bt178.1, bt178.2))) = some (r1, r2) := H
     have A10 := Aside0.mk A100
     clear A100
     replace H := Option.bind_eq_some_iff.mp H
     obtain ⟨⟨t178, t179⟩, A110, H⟩ := H
     replace H : (some (t178, t179)) = some (r1, r2) := H
     have A11 := Aside0.mk A110
     clear A110
     simp only [Option.some.injEq, Prod.mk.injEq] at H
     obtain ⟨rfl, rfl⟩ := H
     go_wp2_with (first | ((with_reducible refine gate_callee (f := 46) rfl ?_); refine goesL_ (some 32) rfl rfl Tryz.func46 (by kernel_rfl) rfl #[.int .i64 a1, .int .i64 (wrap64 ((wrap64 (1 + a0)) - 70)), .int .u64 a2, .int .u64 a3] rfl mp_ ?_; (with_reducible refine (ints_Rel.calls kj4 a1 (wrap64 ((wrap64 (1 + a0)) - 70)) a2 a3 t176 t177 _ A10.out).mono ?_); rintro e w' ⟨rfl, ⟨nd, rfl⟩⟩; refine ⟨_, rfl, ?_⟩) | ((with_reducible refine gate_callee (f := 45) rfl ?_); refine goesL_ (some 35) rfl rfl Tryz.func45 (by kernel_rfl) rfl #[.bool t176, .int .i64 t177] rfl mp_ ?_; (with_reducible refine (scalar_truth.calls t176 t177 t178 t179 _ A11.out).mono ?_); rintro e w' ⟨rfl, ⟨nd, rfl⟩⟩; refine ⟨_, rfl, ?_⟩))
     go_ret2
     exact ⟨er_, bl_⟩
    ·rw [if_neg c9] at H
     have c9b0 : decide (a0 ≤ 79) = false := decide_eq_false c9
     clear c9
     by_cases c12 : a0 ≤ 90
     ·rw [if_pos c12] at H
      have c12b0 : decide (a0 ≤ 90) = true := decide_eq_true c12
      clear c12
      replace H := Option.bind_eq_some_iff.mp H
      obtain ⟨⟨t180, t181⟩, A130, H⟩ := H
      replace H : ((scalar_truth.f t180 t181).bind fun bt182 => (some (bt182.1, bt182.2))) = some (r1, r2) := H
      have A13 := Aside0.mk A130
      clear A130
      replace H := Option.bind_eq_some_iff.mp H
      obtain ⟨⟨t182, t183⟩, A140, H⟩ := H
      replace H : (some (t182, t183)) = some (r1, r2) := H
      have A14 := Aside0.mk A140
      clear A140
      simp only [Option.some.injEq, Prod.mk.injEq] at H
      obtain ⟨rfl, rfl⟩ := H
      go_wp2_with (first | ((with_reducible refine gate_callee (f := 46) rfl ?_); refine goesL_ (some 47) rfl rfl Tryz.func46 (by kernel_rfl) rfl #[.int .i64 a1, .int .i64 (wrap64 ((wrap64 (1 + a0)) - 81)), .int .u64 a2, .int .u64 a3] rfl mp_ ?_; (with_reducible refine (ints_Rel.calls kj4 a1 (wrap64 ((wrap64 (1 + a0)) - 81)) a2 a3 t180 t181 _ A13.out).mono ?_); rintro e w' ⟨rfl, ⟨nd, rfl⟩⟩; refine ⟨_, rfl, ?_⟩) | ((with_reducible refine gate_callee (f := 45) rfl ?_); refine goesL_ (some 50) rfl rfl Tryz.func45 (by kernel_rfl) rfl #[.bool t180, .int .i64 t181] rfl mp_ ?_; (with_reducible refine (scalar_truth.calls t180 t181 t182 t183 _ A14.out).mono ?_); rintro e w' ⟨rfl, ⟨nd, rfl⟩⟩; refine ⟨_, rfl, ?_⟩))
      go_ret2
      exact ⟨er_, bl_⟩
     ·rw [if_neg c12] at H
      have c12b0 : decide (a0 ≤ 90) = false := decide_eq_false c12
      clear c12
      by_cases c15 : a0 ≤ 96
      ·rw [if_pos c15] at H
       have c15b0 : decide (a0 ≤ 96) = true := decide_eq_true c15
       clear c15
       replace H := Option.bind_eq_some_iff.mp H
       obtain ⟨⟨t184, t185⟩, A160, H⟩ := H
       replace H : ((scalar_truth.f t184 t185).bind fun bt186 => (some (bt186.1, bt186.2))) = some (r1, r2) := H
       have A16 := Aside0.mk A160
       clear A160
       replace H := Option.bind_eq_some_iff.mp H
       obtain ⟨⟨t186, t187⟩, A170, H⟩ := H
       replace H : (some (t186, t187)) = some (r1, r2) := H
       have A17 := Aside0.mk A170
       clear A170
       simp only [Option.some.injEq, Prod.mk.injEq] at H
       obtain ⟨rfl, rfl⟩ := H
       go_wp2_with (first | ((with_reducible refine gate_callee (f := 47) rfl ?_); refine goesL_ (some 62) rfl rfl Tryz.func47 (by kernel_rfl) rfl #[.int .i64 a1, .int .i64 (wrap64 ((wrap64 (1 + a0)) - 91)), .int .u64 a2, .int .u64 a3] rfl mp_ ?_; (with_reducible refine (floats_Rel.calls kj4 a1 (wrap64 ((wrap64 (1 + a0)) - 91)) a2 a3 t184 t185 _ A16.out).mono ?_); rintro e w18 ⟨rfl, hb⟩; refine ⟨_, rfl, ?_⟩; have n0_ := Aside0.mk (below_step bl_ hb); clear HB; have HB := n0_; clear n0_; (try clear hb); (try clear hb2); (try clear hk); (try clear hi)) | ((with_reducible refine gate_callee (f := 45) rfl ?_); refine goesL_ (some 65) rfl rfl Tryz.func45 (by kernel_rfl) rfl #[.bool t184, .int .i64 t185] rfl mp_ ?_; (with_reducible refine (scalar_truth.calls t184 t185 t186 t187 _ A17.out).mono ?_); rintro e w' ⟨rfl, ⟨nd, rfl⟩⟩; refine ⟨_, rfl, ?_⟩))
       go_ret2
       exact ⟨er_, bl_⟩
      ·rw [if_neg c15] at H
       have c15b0 : decide (a0 ≤ 96) = false := decide_eq_false c15
       clear c15
       by_cases c19 : a0 ≤ 102
       ·rw [if_pos c19] at H
        have c19b0 : decide (a0 ≤ 102) = true := decide_eq_true c19
        clear c19
        replace H := Option.bind_eq_some_iff.mp H
        obtain ⟨⟨t188, t189⟩, A200, H⟩ := H
        replace H : ((scalar_truth.f t188 t189).bind fun bt190 => (some (bt190.1, bt190.2))) = some (r1, r2) := H
        have A20 := Aside0.mk A200
        clear A200
        replace H := Option.bind_eq_some_iff.mp H
        obtain ⟨⟨t190, t191⟩, A210, H⟩ := H
        replace H : (some (t190, t191)) = some (r1, r2) := H
        have A21 := Aside0.mk A210
        clear A210
        simp only [Option.some.injEq, Prod.mk.injEq] at H
        obtain ⟨rfl, rfl⟩ := H
        go_wp2_with (first | ((with_reducible refine gate_callee (f := 47) rfl ?_); refine goesL_ (some 77) rfl rfl Tryz.func47 (by kernel_rfl) rfl #[.int .i64 a1, .int .i64 (wrap64 ((wrap64 (1 + a0)) - 97)), .int .u64 a2, .int .u64 a3] rfl mp_ ?_; (with_reducible refine (floats_Rel.calls kj4 a1 (wrap64 ((wrap64 (1 + a0)) - 97)) a2 a3 t188 t189 _ A20.out).mono ?_); rintro e w22 ⟨rfl, hb⟩; refine ⟨_, rfl, ?_⟩; have n0_ := Aside0.mk (below_step bl_ hb); clear HB; have HB := n0_; clear n0_; (try clear hb); (try clear hb2); (try clear hk); (try clear hi)) | ((with_reducible refine gate_callee (f := 45) rfl ?_); refine goesL_ (some 80) rfl rfl Tryz.func45 (by kernel_rfl) rfl #[.bool t188, .int .i64 t189] rfl mp_ ?_; (with_reducible refine (scalar_truth.calls t188 t189 t190 t191 _ A21.out).mono ?_); rintro e w' ⟨rfl, ⟨nd, rfl⟩⟩; refine ⟨_, rfl, ?_⟩))
        go_ret2
        exact ⟨er_, bl_⟩
       ·rw [if_neg c19] at H
        have c19b0 : decide (a0 ≤ 102) = false := decide_eq_false c19
        clear c19
        by_cases c23 : a0 ≤ 105
        ·rw [if_pos c23] at H
         exact absurd H (by simp)
        ·rw [if_neg c23] at H
         have c23b0 : decide (a0 ≤ 105) = false := decide_eq_false c23
         clear c23
         by_cases c24 : a0 ≤ 120
         ·rw [if_pos c24] at H
          have c24b0 : decide (a0 ≤ 120) = true := decide_eq_true c24
          clear c24
          replace H := Option.bind_eq_some_iff.mp H
          obtain ⟨⟨t192, t193⟩, A250, H⟩ := H
          replace H : (some (t192, t193)) = some (r1, r2) := H
          have A25 := Aside0.mk A250
          clear A250
          simp only [Option.some.injEq, Prod.mk.injEq] at H
          obtain ⟨rfl, rfl⟩ := H
          go_wp2_with (first | ((with_reducible refine gate_callee (f := 49) rfl ?_); refine goesL_ (some 103) rfl rfl Tryz.func49 (by kernel_rfl) rfl #[.int .i64 a1, .int .i64 (wrap64 ((wrap64 (1 + a0)) - 106)), .int .u64 a2, .int .u64 a3] rfl mp_ ?_; (with_reducible refine (ints_Bin.calls kj4 a1 (wrap64 ((wrap64 (1 + a0)) - 106)) a2 a3 t192 t193 _ A25.out).mono ?_); rintro e w' ⟨rfl, ⟨nd, rfl⟩⟩; refine ⟨_, rfl, ?_⟩))
          go_ret2
          exact ⟨er_, bl_⟩
         ·rw [if_neg c24] at H
          have c24b0 : decide (a0 ≤ 120) = false := decide_eq_false c24
          clear c24
          by_cases c26 : a0 ≤ 123
          ·rw [if_pos c26] at H
           exact absurd H (by simp)
          ·rw [if_neg c26] at H
           have c26b0 : decide (a0 ≤ 123) = false := decide_eq_false c26
           clear c26
           by_cases c27 : a0 ≤ 138
           ·rw [if_pos c27] at H
            exact absurd H (by simp)
           ·rw [if_neg c27] at H
            have c27b0 : decide (a0 ≤ 138) = false := decide_eq_false c27
            clear c27
            by_cases c28 : a0 ≤ 145
            ·rw [if_pos c28] at H
             exact absurd H (by simp)
            ·rw [if_neg c28] at H
             have c28b0 : decide (a0 ≤ 145) = false := decide_eq_false c28
             clear c28
             by_cases c29 : a0 ≤ 152
             ·rw [if_pos c29] at H
              exact absurd H (by simp)
             ·rw [if_neg c29] at H
              have c29b0 : decide (a0 ≤ 152) = false := decide_eq_false c29
              clear c29
              by_cases c30 : a0 ≤ 159
              ·rw [if_pos c30] at H
               exact absurd H (by simp)
              ·rw [if_neg c30] at H
               have c30b0 : decide (a0 ≤ 159) = false := decide_eq_false c30
               clear c30
               by_cases c31 : a0 ≤ 166
               ·rw [if_pos c31] at H
                exact absurd H (by simp)
               ·rw [if_neg c31] at H
                have c31b0 : decide (a0 ≤ 166) = false := decide_eq_false c31
                clear c31
                by_cases c32 : a0 ≥ 64512
                ·rw [if_pos c32] at H
                 exact absurd H (by simp)
                ·rw [if_neg c32] at H
                 have c32b0 : decide (64512 ≤ a0) = false := decide_eq_false c32
                 clear c32
                 replace H := Option.bind_eq_some_iff.mp H
                 obtain ⟨⟨t194, t195⟩, A330, H⟩ := H
                 replace H : (some (t194, t195)) = some (r1, r2) := H
                 have A33 := Aside0.mk A330
                 clear A330
                 simp only [Option.some.injEq, Prod.mk.injEq] at H
                 obtain ⟨rfl, rfl⟩ := H
                 go_wp2_with (first | ((with_reducible refine gate_callee (f := 53) rfl ?_); refine goesL_ (some 196) rfl rfl Tryz.func53 (by kernel_rfl) rfl #[.int .i64 a0, .int .u64 a2] rfl mp_ ?_; (with_reducible refine (scalar_turned.calls a0 a2 t194 t195 _ A33.out).mono ?_); rintro e w34 ⟨rfl, hb⟩; refine ⟨_, rfl, ?_⟩; have n0_ := Aside0.mk (below_step bl_ hb); clear HB; have HB := n0_; clear n0_; (try clear hb); (try clear hb2); (try clear hk); (try clear hi)))
                 go_ret2
                 exact ⟨er_, bl_⟩
def scalar_width.f (a0 : Int) : Option (Int) := if a0 = 127 then (some 32) else (if a0 = 125 then (some 32) else (some 64))
set_option maxHeartbeats 8000000 in
set_option maxRecDepth 100000 in
theorem scalar_width.calls (a0 : Int) (r : Int) (w : World) (h : scalar_width.f a0 = some r) (hG : GD w := by first | assumption | exact GD.below (by assumption) (by repeat (first | exact Aside0.out (by assumption) | exact Below.refl _ _ | assumption | apply below_alloc | apply pw_below_drewN | apply below_drew1 | refine below_set ?_ (Aside0.out (by assumption))))) :
  Calls Tryz.prog 32 #[.int .i64 a0] w fun e w' => e = .returned (.int .i64 r) ∧ Drawn0 w w' := by
 have H : (if a0 = 127 then (some 32) else (if a0 = 125 then (some 32) else (some 64))) = some r := h
 clear h
 by_cases c2 : a0 = 127
 ·rw [if_pos c2] at H
  have c2b0 : (a0 == 127) = true := beq_iff_eq.mpr c2
  have c2b1 : (a0 != 127) = false := bne_eq_false_iff_eq.mpr c2
  clear c2
  obtain rfl := Option.some.inj H
  go_enter Tryz.func32, Tryz.ntmps32
  go_wp2
  go_ret
  exact ⟨by first | rfl | (simp; done) | (simp [*]; done), by repeat (first | exact Drawn0.refl _ | apply Drawn0.step)⟩
 ·rw [if_neg c2] at H
  have c2b0 : (a0 == 127) = false := beq_eq_false_iff_ne.mpr c2
  have c2b1 : (a0 != 127) = true := bne_iff_ne.mpr c2
  by_cases c3 : a0 = 125
  ·rw [if_pos c3] at H
   have c3b0 : (a0 == 125) = true := beq_iff_eq.mpr c3
   have c3b1 : (a0 != 125) = false := bne_eq_false_iff_eq.mpr c3
   clear c3
   obtain rfl := Option.some.inj H
   go_enter Tryz.func32, Tryz.ntmps32
   go_wp2
   go_ret
   exact ⟨by first | rfl | (simp; done) | (simp [*]; done), by repeat (first | exact Drawn0.refl _ | apply Drawn0.step)⟩
  ·rw [if_neg c3] at H
   have c3b0 : (a0 == 125) = false := beq_eq_false_iff_ne.mpr c3
   have c3b1 : (a0 != 125) = true := bne_iff_ne.mpr c3
   obtain rfl := Option.some.inj H
   go_enter Tryz.func32, Tryz.ntmps32
   go_wp2
   go_ret
   exact ⟨by first | rfl | (simp; done) | (simp [*]; done), by repeat (first | exact Drawn0.refl _ | apply Drawn0.step)⟩
mutual
def scalar_Do.l0 : Nat → Int → List (S33) → List Int → List Int → List (S33) → Int → Int → Option (Int × Int × Int × Bool × Int)
 | 0, _, _, _, _, _, _, _ => none
 | k + 1, x0, x2, x8, x9, x48, x49, x50 => if x50 < x49 then (if 0 ≤ x50 then (if x50 < (x48.length : Int) then (if x50 < (x8.length : Int) then (if ((rd_T33 x48 x50).f0) = (rd x8 x50) then (scalar_Do.l0 k x0 x2 x8 x9 x48 x49 (wrap64 (x50 + 1))) else (some (0, 0, 0, false, 1))) else (none)) else (none)) else (none)) else ((scalar_clean.f k x2).bind fun t208 => (if 0 < (t208.length : Int) then (if (t208.length : Int) > 1 then (if 1 < (t208.length : Int) then (scalar_Do.j1 k x0 x8 x9 ((rd_T33 t208 0).f1) ((rd_T33 t208 1).f1)) else (none)) else (scalar_Do.j1 k x0 x8 x9 ((rd_T33 t208 0).f1) 0)) else (none)))
def scalar_Do.j1 : Nat → Int → List Int → List Int → Int → Int → Option (Int × Int × Int × Bool × Int)
 | 0, _, _, _, _, _ => none
 | k + 1, x0, x8, x9, x13, x14 => if 0 < (x8.length : Int) then ((scalar_width.f (rd x8 0)).bind fun t214 => ((scalar_work.f k x0 t214 x13 x14).bind fun bt215 => (if bt215.2 = 0 then (if 0 < (x9.length : Int) then ((scalar_clean.f k (([(⟨rd x9 0, bt215.1, 0, false⟩ : S33)] : List (S33)))).bind fun t221 => (if 0 < (t221.length : Int) then (some ((rd_T33 t221 0).f0, (rd_T33 t221 0).f1, (rd_T33 t221 0).f2, (rd_T33 t221 0).f3, 0)) else (none))) else (none)) else (some (0, 0, 0, false, bt215.2))))) else (none)
end
def scalar_Do.f (k : Nat) (a0 : Int) (l1 : List Int) (l2 : List (S33)) : Option (Int × Int × Int × Bool × Int) := if a0 ≥ 64768 then (none) else ((ops_Sign.f a0).bind fun bt197 => ((scalar_Numeric.f a0).bind fun t204 => (if t204 = true then (if (l1.length : Int) > 0 then (none) else (if (l2.length : Int) = (bt197.1.length : Int) then (scalar_Do.l0 k a0 l2 bt197.1 bt197.2.1 l2 (l2.length : Int) 0) else (some (0, 0, 0, false, 1)))) else (none))))
theorem scalar_Do.mono_l : ∀ k, (∀ y0 y1 y2 y3 y4 y5 y6, LeO (scalar_Do.l0 k y0 y1 y2 y3 y4 y5 y6) (scalar_Do.l0 (k + 1) y0 y1 y2 y3 y4 y5 y6)) ∧ (∀ y0 y1 y2 y3 y4, LeO (scalar_Do.j1 k y0 y1 y2 y3 y4) (scalar_Do.j1 (k + 1) y0 y1 y2 y3 y4))
 | 0 => ⟨fun _ _ _ _ _ _ _ r h => by simp [scalar_Do.l0] at h, fun _ _ _ _ _ r h => by simp [scalar_Do.j1] at h⟩
 | k + 1 => by
  obtain ⟨ih0, ih1⟩ := scalar_Do.mono_l k
  refine ⟨?_, ?_⟩
  ·intro y0 y1 y2 y3 y4 y5 y6
   unfold scalar_Do.l0
   repeat' first
   | (with_reducible exact ih0 _ _ _ _ _ _ _)
   | (with_reducible exact ih1 _ _ _ _ _)
   | (with_reducible exact scalar_clean.mono _ _)
   | (with_reducible exact scalar_work.mono _ _ _ _ _)
   | (with_reducible exact LeO.refl _)
   | (with_reducible exact LeO.none _)
   | (with_reducible refine LeO.ite ?_ ?_)
   | (with_reducible refine LeO.bind ?_ (fun _ => ?_))
   | exact ih0 _ _ _ _ _ _ _
   | exact ih1 _ _ _ _ _
   | exact scalar_clean.mono _ _
   | exact scalar_work.mono _ _ _ _ _
   | exact LeO.none _
   | refine LeO.ite ?_ ?_
   | refine LeO.bind ?_ (fun _ => ?_)
  ·intro y0 y1 y2 y3 y4
   unfold scalar_Do.j1
   repeat' first
   | (with_reducible exact ih0 _ _ _ _ _ _ _)
   | (with_reducible exact ih1 _ _ _ _ _)
   | (with_reducible exact scalar_clean.mono _ _)
   | (with_reducible exact scalar_work.mono _ _ _ _ _)
   | (with_reducible exact LeO.refl _)
   | (with_reducible exact LeO.none _)
   | (with_reducible refine LeO.ite ?_ ?_)
   | (with_reducible refine LeO.bind ?_ (fun _ => ?_))
   | exact ih0 _ _ _ _ _ _ _
   | exact ih1 _ _ _ _ _
   | exact scalar_clean.mono _ _
   | exact scalar_work.mono _ _ _ _ _
   | exact LeO.none _
   | refine LeO.ite ?_ ?_
   | refine LeO.bind ?_ (fun _ => ?_)
theorem scalar_Do.mono : ∀ a0 a1 a2 k, LeO (scalar_Do.f k a0 a1 a2) (scalar_Do.f (k + 1) a0 a1 a2) := by
 intro a0 a1 a2 k
 obtain ⟨ih0, ih1⟩ := scalar_Do.mono_l k
 unfold scalar_Do.f
 repeat' first
   | (with_reducible exact ih0 _ _ _ _ _ _ _)
   | (with_reducible exact ih1 _ _ _ _ _)
   | (with_reducible exact scalar_clean.mono _ _)
   | (with_reducible exact scalar_work.mono _ _ _ _ _)
   | (with_reducible exact LeO.refl _)
   | (with_reducible exact LeO.none _)
   | (with_reducible refine LeO.ite ?_ ?_)
   | (with_reducible refine LeO.bind ?_ (fun _ => ?_))
   | exact ih0 _ _ _ _ _ _ _
   | exact ih1 _ _ _ _ _
   | exact scalar_clean.mono _ _
   | exact scalar_work.mono _ _ _ _ _
   | exact LeO.none _
   | refine LeO.ite ?_ ?_
   | refine LeO.bind ?_ (fun _ => ?_)
set_option maxHeartbeats 8000000 in
set_option maxRecDepth 100000 in
theorem scalar_Do.calls (k : Nat) (a0 : Int) (A1 : Option Addr) (c1 : Nat) (l1 : List Int) (A2 : Option Addr) (c2 : Nat) (l2 : List (S33)) (r1 : Int) (r2 : Int) (r3 : Int) (r4 : Bool) (r5 : Int) (w : World) (hr1 : Kd.C (Kd.int .i64) w A1 l1.length l1) (hc1 : l1.length ≤ c1) (hr2 : Kd.C k33 w A2 l2.length l2) (hc2 : l2.length ≤ c2) (h : scalar_Do.f k a0 l1 l2 = some (r1, r2, r3, r4, r5)) (hG : GD w := by first | assumption | exact GD.below (by assumption) (by repeat (first | exact Aside0.out (by assumption) | exact Below.refl _ _ | assumption | apply below_alloc | apply pw_below_drewN | apply below_drew1 | refine below_set ?_ (Aside0.out (by assumption))))) :
  Calls Tryz.prog 16 #[.int .i64 a0, .slice A1 l1.length c1, .slice A2 l2.length c2] w fun e w' => e = .returned (.tuple #[.agg #[.int .i64 r1, .int .u64 r2, .int .u64 r3, .bool r4], .int .i64 r5]) ∧ Below w.heap.size w w' := by
 have hu33 := Tryz.underlying33
 have HR1 := Aside0.mk hr1
 have HC1 := Aside0.mk hc1
 clear hr1 hc1
 have HR2 := Aside0.mk hr2
 have HC2 := Aside0.mk hc2
 clear hr2 hc2
 have HB := Aside0.mk (Below.refl w.heap.size w)
 have H : (if a0 ≥ 64768 then (none) else ((ops_Sign.f a0).bind fun bt197 => ((scalar_Numeric.f a0).bind fun t204 => (if t204 = true then (if (l1.length : Int) > 0 then (none) else (if (l2.length : Int) = (bt197.1.length : Int) then (scalar_Do.l0 k a0 l2 bt197.1 bt197.2.1 l2 (l2.length : Int) 0) else (some (0, 0, 0, false, 1)))) else (none))))) = some (r1, r2, r3, r4, r5) := h
 clear h
 by_cases c4 : a0 ≥ 64768
 ·rw [if_pos c4] at H
  exact absurd H (by simp)
 ·rw [if_neg c4] at H
  have c4b0 : decide (64768 ≤ a0) = false := decide_eq_false c4
  clear c4
  replace H := Option.bind_eq_some_iff.mp H
  obtain ⟨⟨t197, t198, t199⟩, A50, H⟩ := H
  replace H : ((scalar_Numeric.f a0).bind fun t204 => (if t204 = true then (if (l1.length : Int) > 0 then (none) else (if (l2.length : Int) = (t197.length : Int) then (scalar_Do.l0 k a0 l2 t197 t198 l2 (l2.length : Int) 0) else (some (0, 0, 0, false, 1)))) else (none))) = some (r1, r2, r3, r4, r5) := H
  have A5 := Aside0.mk A50
  clear A50
  replace H := Option.bind_eq_some_iff.mp H
  obtain ⟨t204, A60, H⟩ := H
  replace H : (if t204 = true then (if (l1.length : Int) > 0 then (none) else (if (l2.length : Int) = (t197.length : Int) then (scalar_Do.l0 k a0 l2 t197 t198 l2 (l2.length : Int) 0) else (some (0, 0, 0, false, 1)))) else (none)) = some (r1, r2, r3, r4, r5) := H
  have A6 := Aside0.mk A60
  clear A60
  by_cases c7 : t204 = true
  ·subst c7
   have H1 : (if (l1.length : Int) > 0 then (none) else (if (l2.length : Int) = (t197.length : Int) then (scalar_Do.l0 k a0 l2 t197 t198 l2 (l2.length : Int) 0) else (some (0, 0, 0, false, 1)))) = some (r1, r2, r3, r4, r5) := by rw [if_pos rfl] at H; exact H
   clear H
   have H := H1
   clear H1
   by_cases c8 : (l1.length : Int) > 0
   ·rw [if_pos c8] at H
    exact absurd H (by simp)
   ·rw [if_neg c8] at H
    have c8b0 : decide (0 < (l1.length : Int)) = false := decide_eq_false c8
    have c8b1 : decide (0 < l1.length) = false := decide_eq_false (by omega)
    clear c8
    by_cases c9 : (l2.length : Int) = (t197.length : Int)
    ·rw [if_pos c9] at H
     have c9b0 : ((l2.length : Int) == (t197.length : Int)) = true := beq_iff_eq.mpr c9
     have c9b1 : ((l2.length : Int) != (t197.length : Int)) = false := bne_eq_false_iff_eq.mpr c9
     have c9b2 : (l2.length == t197.length) = true := by first | simpa using c9 | (simp at c9 ⊢; omega)
     clear c9
     have H' := Aside0.mk H
     clear H
     go_enter Tryz.func16, Tryz.ntmps16
     go_wp2_with (first | ((with_reducible refine gate_dst (N := 6) rfl ?_); (try (refine gate_guard (by rfl) ?_; dsimp only)); refine box_event ?hg (N := 6) ?hd (cs := #[.int .i64 0, .int .u64 0, .int .u64 0, .bool false]) (t := 33) ?hr ?_; (case hd => rfl); (case hg => rfl); (case hr => first | (go_simp; done) | (go_simp; rfl)); intro gb196 hg w10 hbox hb; have n0_ := Aside0.mk (below_step bl_ hb); have n1_ := Aside0.mk (hbox); have n2_ := Aside0.mk ((by rw [hg]; exact (below_size bl_) : w.heap.size ≤ gb196)); have n3_ := Aside0.mk ((by rw [hg]; exact (below_size bl_) : w.heap.size ≤ gb196)); clear HB; have HB := n0_; have BK196 := n1_; have GW196 := n2_; have GE196 := n3_; clear n0_ n1_ n2_ n3_; clear hb hbox hg) | (go_at_call 30; (with_reducible refine (ops_Sign.calls a0 t197 t198 t199 _ A5.out).mono ?_); rintro e w11 ⟨v200, v202, rfl, ho0, ho1, hb⟩; have n0_ := Aside0.mk (Kd.R_lower ho0 (below_size bs_)); have n1_ := Aside0.mk (Kd.R_lower ho1 (below_size bs_)); have n2_ := Aside0.mk (blk_below (g := gb196) (o := .cells #[.int .i64 0, .int .u64 0, .int .u64 0, .bool false] 33 (0, 0)) (by (with_reducible repeat (first | refine blk_drewN ?_ _ | refine blk_drew ?_ | refine blk_alloc ?_ _)); exact BK196.out) hb); have n3_ := Aside0.mk (below_step bs_ hb); clear BK196; clear HB; have HO201 := n0_; have HO203 := n1_; have BK196 := n2_; have HB := n3_; clear n0_ n1_ n2_ n3_; (try clear hb); (try clear hb2); (try clear hk); (try clear hi); (try clear ho0); (try clear ho1)) | (go_at_call 14; (with_reducible refine (scalar_Numeric.calls a0 true _ A6.out).mono ?_); rintro e w12 ⟨rfl, hb⟩; have n0_ := Aside0.mk (Kd.R_below (rl_ HO201) hb); have n1_ := Aside0.mk (Kd.R_below (rl_ HO203) hb); have n2_ := Aside0.mk (blk_below (g := gb196) (o := .cells #[.int .i64 0, .int .u64 0, .int .u64 0, .bool false] 33 (0, 0)) (by (with_reducible repeat (first | refine blk_drewN ?_ _ | refine blk_drew ?_ | refine blk_alloc ?_ _)); exact BK196.out) hb); have n3_ := Aside0.mk (below_step bs_ hb); clear HO201; clear HO203; clear BK196; clear HB; have HO201 := n0_; have HO203 := n1_; have BK196 := n2_; have HB := n3_; clear n0_ n1_ n2_ n3_; (try clear hb); (try clear hb2); (try clear hk); (try clear hi); obtain ⟨Ao13, co13, eo13⟩ := Kd.R_slice HO201.out; subst eo13))
     repeat (go_quiet (fail); try go_wp2_with (first | ((with_reducible refine gate_dst (N := 6) rfl ?_); (try (refine gate_guard (by rfl) ?_; dsimp only)); refine box_event ?hg (N := 6) ?hd (cs := #[.int .i64 0, .int .u64 0, .int .u64 0, .bool false]) (t := 33) ?hr ?_; (case hd => rfl); (case hg => rfl); (case hr => first | (go_simp; done) | (go_simp; rfl)); intro gb196 hg w10 hbox hb; have n0_ := Aside0.mk (below_step bl_ hb); have n1_ := Aside0.mk (hbox); have n2_ := Aside0.mk ((by rw [hg]; exact (below_size bl_) : w.heap.size ≤ gb196)); have n3_ := Aside0.mk ((by rw [hg]; exact (below_size bl_) : w.heap.size ≤ gb196)); clear HB; have HB := n0_; have BK196 := n1_; have GW196 := n2_; have GE196 := n3_; clear n0_ n1_ n2_ n3_; clear hb hbox hg) | (go_at_call 30; (with_reducible refine (ops_Sign.calls a0 t197 t198 t199 _ A5.out).mono ?_); rintro e w11 ⟨v200, v202, rfl, ho0, ho1, hb⟩; have n0_ := Aside0.mk (Kd.R_lower ho0 (below_size bs_)); have n1_ := Aside0.mk (Kd.R_lower ho1 (below_size bs_)); have n2_ := Aside0.mk (blk_below (g := gb196) (o := .cells #[.int .i64 0, .int .u64 0, .int .u64 0, .bool false] 33 (0, 0)) (by (with_reducible repeat (first | refine blk_drewN ?_ _ | refine blk_drew ?_ | refine blk_alloc ?_ _)); exact BK196.out) hb); have n3_ := Aside0.mk (below_step bs_ hb); clear BK196; clear HB; have HO201 := n0_; have HO203 := n1_; have BK196 := n2_; have HB := n3_; clear n0_ n1_ n2_ n3_; (try clear hb); (try clear hb2); (try clear hk); (try clear hi); (try clear ho0); (try clear ho1)) | (go_at_call 14; (with_reducible refine (scalar_Numeric.calls a0 true _ A6.out).mono ?_); rintro e w12 ⟨rfl, hb⟩; have n0_ := Aside0.mk (Kd.R_below (rl_ HO201) hb); have n1_ := Aside0.mk (Kd.R_below (rl_ HO203) hb); have n2_ := Aside0.mk (blk_below (g := gb196) (o := .cells #[.int .i64 0, .int .u64 0, .int .u64 0, .bool false] 33 (0, 0)) (by (with_reducible repeat (first | refine blk_drewN ?_ _ | refine blk_drew ?_ | refine blk_alloc ?_ _)); exact BK196.out) hb); have n3_ := Aside0.mk (below_step bs_ hb); clear HO201; clear HO203; clear BK196; clear HB; have HO201 := n0_; have HO203 := n1_; have BK196 := n2_; have HB := n3_; clear n0_ n1_ n2_ n3_; (try clear hb); (try clear hb2); (try clear hk); (try clear hi); obtain ⟨Ao13, co13, eo13⟩ := Kd.R_slice HO201.out; subst eo13)))
     go_loopg [50] k (fun kq v50 w' => ∃ (x50_1 : Int) (x197000_1 : Int) (x197001_1 : Int) (x197002_1 : Int) (x197003_1 : Bool), v50 = .int .i64 x50_1 ∧ Aside0 (scalar_Do.l0 kq a0 l2 t197 t198 l2 (l2.length : Int) x50_1 = some (r1, r2, r3, r4, r5)) ∧ Aside0 (kq ≤ k) ∧ Aside0 (Kd.R (Kd.int .i64) 3 w' w.heap.size (fun k_ => some k_ ≠ (v202 : Value).ownBlock) (.slice Ao13 t197.length co13) t197) ∧ Aside0 (Kd.R (Kd.int .i64) 3 w' w.heap.size (fun k_ => some k_ ≠ ((.slice Ao13 t197.length co13) : Value).ownBlock) v202 t198) ∧ Aside0 (w'.heap[gb196]? = some (.cells #[.int .i64 x197000_1, .int .u64 x197001_1, .int .u64 x197002_1, .bool x197003_1] 33 (0, 0))) ∧ Aside0 (Below w.heap.size w w'))
     case atStart => exact ⟨(0), (0), (0), (0), (false), rs_, H', ⟨Nat.le_refl _⟩, ⟨rl_ HO201⟩, ⟨rl_ HO203⟩, ⟨by (with_reducible repeat (first | refine blk_drewN ?_ _ | refine blk_drew ?_ | refine blk_alloc ?_ _)); exact BK196.out⟩, ⟨bs_⟩⟩
     case round =>
      clear H'
      (try clear c1); (try clear c2); (try clear p2); (try clear c4); (try clear c4b0); (try clear c7); (try clear c8); (try clear c8b0); (try clear c8b1); (try clear c9); (try clear c9b0); (try clear c9b1); (try clear c9b2)
      obtain ⟨x50_1, x197000_1, x197001_1, x197002_1, x197003_1, rfl, HA, HK1, HO_8, HO_9, BK196, HB⟩ := hrel
      cases gk with
      | zero => exact absurd HA.out (by simp [scalar_Do.l0])
      | succ k1 =>
       have H := HA.out
       clear HA
       simp only [scalar_Do.l0] at H
       by_cases c14 : x50_1 < (l2.length : Int)
       ·rw [if_pos c14] at H
        have c14b0 : decide (x50_1 < (l2.length : Int)) = true := decide_eq_true c14
        clear c14
        by_cases c15 : 0 ≤ x50_1
        ·rw [if_pos c15] at H
         have c15b0 : decide (0 ≤ x50_1) = true := decide_eq_true c15
         clear c15
         by_cases c16 : x50_1 < (l2.length : Int)
         ·rw [if_pos c16] at H
          have c16b0 : decide (x50_1 < (l2.length : Int)) = true := decide_eq_true c16
          clear c16
          by_cases c17 : x50_1 < (t197.length : Int)
          ·rw [if_pos c17] at H
           have c17b0 : decide (x50_1 < (t197.length : Int)) = true := decide_eq_true c17
           clear c17
           by_cases c18 : ((rd_T33 l2 x50_1).f0) = (rd t197 x50_1)
           ·rw [if_pos c18] at H
            have c18b0 : (((rd_T33 l2 x50_1).f0) == (rd t197 x50_1)) = true := beq_iff_eq.mpr c18
            have c18b1 : (((rd_T33 l2 x50_1).f0) != (rd t197 x50_1)) = false := bne_eq_false_iff_eq.mpr c18
            clear c18
            have H' := Aside0.mk H
            clear H
            have p205 : 0 ≤ (x50_1 : Int) := od_
            have q205 : x50_1 < (l2.length : Int) := od_
            obtain ⟨ad205, e205, hx205_0, hx205_1, hx205_2, hx205_3⟩ := at_T33 HR2.out x50_1 p205 q205
            cases e205
            replace hx205_0 := (HB.out.cell (World.block_lt_of_cell? w _ hx205_0)).trans hx205_0
            replace hx205_1 := (HB.out.cell (World.block_lt_of_cell? w _ hx205_1)).trans hx205_1
            replace hx205_2 := (HB.out.cell (World.block_lt_of_cell? w _ hx205_2)).trans hx205_2
            replace hx205_3 := (HB.out.cell (World.block_lt_of_cell? w _ hx205_3)).trans hx205_3
            replace p205 := eq_true p205
            replace q205 := eq_true q205
            go_wp2_with (first | ((with_reducible refine gate_dst (N := 12) rfl ?_); (try (refine gate_guard (by rfl) ?_; dsimp only)); refine box_event ?hg (N := 12) ?hd (cs := #[.int .i64 0, .int .u64 0, .int .u64 0, .bool false]) (t := 33) ?hr ?_; (case hd => rfl); (case hg => rfl); (case hr => first | (go_simp; done) | (go_simp; rfl)); intro gb206 hg w19 hbox hb; have n0_ := Aside0.mk (Kd.R_below (rl_ HO_8) hb); have n1_ := Aside0.mk (Kd.R_below (rl_ HO_9) hb); have n2_ := Aside0.mk (blk_below (g := gb196) (o := .cells #[.int .i64 x197000_1, .int .u64 x197001_1, .int .u64 x197002_1, .bool x197003_1] 33 (0, 0)) (by (with_reducible repeat (first | refine blk_drewN ?_ _ | refine blk_drew ?_ | refine blk_alloc ?_ _)); exact BK196.out) hb); have n3_ := Aside0.mk (below_step bs_ hb); have n4_ := Aside0.mk (hbox); have n5_ := Aside0.mk ((by rw [hg]; exact (below_size bs_) : w.heap.size ≤ gb206)); have n6_ := Aside0.mk ((by rw [hg]; exact (below_size bs_) : w.heap.size ≤ gb206)); have n7_ := Aside0.mk ((by rw [hg]; exact Nat.ne_of_lt (blk_lt (g := gb196) (o := .cells #[.int .i64 x197000_1, .int .u64 x197001_1, .int .u64 x197002_1, .bool x197003_1] 33 (0, 0)) (by (with_reducible repeat (first | refine blk_drewN ?_ _ | refine blk_drew ?_ | refine blk_alloc ?_ _)); exact BK196.out)) : gb196 ≠ gb206)); have n8_ := Aside0.mk ((by rw [hg]; exact Nat.ne_of_gt (blk_lt (g := gb196) (o := .cells #[.int .i64 x197000_1, .int .u64 x197001_1, .int .u64 x197002_1, .bool x197003_1] 33 (0, 0)) (by (with_reducible repeat (first | refine blk_drewN ?_ _ | refine blk_drew ?_ | refine blk_alloc ?_ _)); exact BK196.out)) : gb206 ≠ gb196)); clear HO_8; clear HO_9; clear BK196; clear HB; have HO_8 := n0_; have HO_9 := n1_; have BK196 := n2_; have HB := n3_; have BK206 := n4_; have GW206 := n5_; have GE206 := n6_; have NB196_206 := n7_; have NB206_196 := n8_; clear n0_ n1_ n2_ n3_ n4_ n5_ n6_ n7_ n8_; clear hb hbox hg; have hnb20 := NB206_196.out; have hnc20 := NB196_206.out; have hcz21_0 : w19.cell? ⟨gb206, 0, none⟩ = some (.int .i64 0) := (blk_cell BK206.out 0).trans rfl; have hcz21_1 : w19.cell? ⟨gb206, 1, none⟩ = some (.int .u64 0) := (blk_cell BK206.out 1).trans rfl; have hcz21_2 : w19.cell? ⟨gb206, 2, none⟩ = some (.int .u64 0) := (blk_cell BK206.out 2).trans rfl; have hcz21_3 : w19.cell? ⟨gb206, 3, none⟩ = some (.bool false) := (blk_cell BK206.out 3).trans rfl; have hfz21_0 := blk_frozen BK206.out 0; have hfz21_1 := blk_frozen BK206.out 1; have hfz21_2 := blk_frozen BK206.out 2; have hfz21_3 := blk_frozen BK206.out 3; have p207 : 0 ≤ (x50_1 : Int) := od_; have q207 : x50_1 < (t197.length : Int) := od_; obtain ⟨ad207, e207, hx207_0⟩ := Kd.at_int (Kd.R_reads' HO_8.out).2.2 x50_1 p207 q207; cases e207; have hn207_0 : ad207.block ≠ gb206 := Kd.own_blk (Kd.R_ne HO_8.out BK206.out (by decide)); have hn207_1 : ad207.block ≠ gb206 := Kd.own_blk (Kd.R_ne HO_8.out BK206.out (by decide)); have hn207_2 : ad207.block ≠ gb206 := Kd.own_blk (Kd.R_ne HO_8.out BK206.out (by decide)); have hn207_3 : ad207.block ≠ gb206 := Kd.own_blk (Kd.R_ne HO_8.out BK206.out (by decide)); replace hx207_0 := (cell_far (p := ⟨gb206, 0, none⟩) (by first | (rw [add_block]; exact hn207_0) | (show (Addr.add _ _).block ≠ _; rw [add_block]; exact hn207_0) | exact hn207_0) (.int .i64 ((rd_T33 l2 x50_1).f0))).trans hx207_0; replace hx207_0 := (cell_far (p := ⟨gb206, 1, none⟩) (by first | (rw [add_block]; exact hn207_1) | (show (Addr.add _ _).block ≠ _; rw [add_block]; exact hn207_1) | exact hn207_1) (.int .u64 ((rd_T33 l2 x50_1).f1))).trans hx207_0; replace hx207_0 := (cell_far (p := ⟨gb206, 2, none⟩) (by first | (rw [add_block]; exact hn207_2) | (show (Addr.add _ _).block ≠ _; rw [add_block]; exact hn207_2) | exact hn207_2) (.int .u64 ((rd_T33 l2 x50_1).f2))).trans hx207_0; replace hx207_0 := (cell_far (p := ⟨gb206, 3, none⟩) (by first | (rw [add_block]; exact hn207_3) | (show (Addr.add _ _).block ≠ _; rw [add_block]; exact hn207_3) | exact hn207_3) (.bool ((rd_T33 l2 x50_1).f3))).trans hx207_0; (try have hy207_0 := fun (n_ : Nat) => (show ((((((w19.drewN n_).setCell ⟨gb206, 0, none⟩ (.int .i64 ((rd_T33 l2 x50_1).f0))).setCell ⟨gb206, 1, none⟩ (.int .u64 ((rd_T33 l2 x50_1).f1))).setCell ⟨gb206, 2, none⟩ (.int .u64 ((rd_T33 l2 x50_1).f2))).setCell ⟨gb206, 3, none⟩ (.bool ((rd_T33 l2 x50_1).f3)))).cell? _ = some _ from hx207_0)); clear hn207_0; clear hn207_1; clear hn207_2; clear hn207_3; replace p207 := eq_true p207; replace q207 := eq_true q207))
            repeat (go_quiet (fail); try go_wp2_with (first | ((with_reducible refine gate_dst (N := 12) rfl ?_); (try (refine gate_guard (by rfl) ?_; dsimp only)); refine box_event ?hg (N := 12) ?hd (cs := #[.int .i64 0, .int .u64 0, .int .u64 0, .bool false]) (t := 33) ?hr ?_; (case hd => rfl); (case hg => rfl); (case hr => first | (go_simp; done) | (go_simp; rfl)); intro gb206 hg w19 hbox hb; have n0_ := Aside0.mk (Kd.R_below (rl_ HO_8) hb); have n1_ := Aside0.mk (Kd.R_below (rl_ HO_9) hb); have n2_ := Aside0.mk (blk_below (g := gb196) (o := .cells #[.int .i64 x197000_1, .int .u64 x197001_1, .int .u64 x197002_1, .bool x197003_1] 33 (0, 0)) (by (with_reducible repeat (first | refine blk_drewN ?_ _ | refine blk_drew ?_ | refine blk_alloc ?_ _)); exact BK196.out) hb); have n3_ := Aside0.mk (below_step bs_ hb); have n4_ := Aside0.mk (hbox); have n5_ := Aside0.mk ((by rw [hg]; exact (below_size bs_) : w.heap.size ≤ gb206)); have n6_ := Aside0.mk ((by rw [hg]; exact (below_size bs_) : w.heap.size ≤ gb206)); have n7_ := Aside0.mk ((by rw [hg]; exact Nat.ne_of_lt (blk_lt (g := gb196) (o := .cells #[.int .i64 x197000_1, .int .u64 x197001_1, .int .u64 x197002_1, .bool x197003_1] 33 (0, 0)) (by (with_reducible repeat (first | refine blk_drewN ?_ _ | refine blk_drew ?_ | refine blk_alloc ?_ _)); exact BK196.out)) : gb196 ≠ gb206)); have n8_ := Aside0.mk ((by rw [hg]; exact Nat.ne_of_gt (blk_lt (g := gb196) (o := .cells #[.int .i64 x197000_1, .int .u64 x197001_1, .int .u64 x197002_1, .bool x197003_1] 33 (0, 0)) (by (with_reducible repeat (first | refine blk_drewN ?_ _ | refine blk_drew ?_ | refine blk_alloc ?_ _)); exact BK196.out)) : gb206 ≠ gb196)); clear HO_8; clear HO_9; clear BK196; clear HB; have HO_8 := n0_; have HO_9 := n1_; have BK196 := n2_; have HB := n3_; have BK206 := n4_; have GW206 := n5_; have GE206 := n6_; have NB196_206 := n7_; have NB206_196 := n8_; clear n0_ n1_ n2_ n3_ n4_ n5_ n6_ n7_ n8_; clear hb hbox hg; have hnb20 := NB206_196.out; have hnc20 := NB196_206.out; have hcz21_0 : w19.cell? ⟨gb206, 0, none⟩ = some (.int .i64 0) := (blk_cell BK206.out 0).trans rfl; have hcz21_1 : w19.cell? ⟨gb206, 1, none⟩ = some (.int .u64 0) := (blk_cell BK206.out 1).trans rfl; have hcz21_2 : w19.cell? ⟨gb206, 2, none⟩ = some (.int .u64 0) := (blk_cell BK206.out 2).trans rfl; have hcz21_3 : w19.cell? ⟨gb206, 3, none⟩ = some (.bool false) := (blk_cell BK206.out 3).trans rfl; have hfz21_0 := blk_frozen BK206.out 0; have hfz21_1 := blk_frozen BK206.out 1; have hfz21_2 := blk_frozen BK206.out 2; have hfz21_3 := blk_frozen BK206.out 3; have p207 : 0 ≤ (x50_1 : Int) := od_; have q207 : x50_1 < (t197.length : Int) := od_; obtain ⟨ad207, e207, hx207_0⟩ := Kd.at_int (Kd.R_reads' HO_8.out).2.2 x50_1 p207 q207; cases e207; have hn207_0 : ad207.block ≠ gb206 := Kd.own_blk (Kd.R_ne HO_8.out BK206.out (by decide)); have hn207_1 : ad207.block ≠ gb206 := Kd.own_blk (Kd.R_ne HO_8.out BK206.out (by decide)); have hn207_2 : ad207.block ≠ gb206 := Kd.own_blk (Kd.R_ne HO_8.out BK206.out (by decide)); have hn207_3 : ad207.block ≠ gb206 := Kd.own_blk (Kd.R_ne HO_8.out BK206.out (by decide)); replace hx207_0 := (cell_far (p := ⟨gb206, 0, none⟩) (by first | (rw [add_block]; exact hn207_0) | (show (Addr.add _ _).block ≠ _; rw [add_block]; exact hn207_0) | exact hn207_0) (.int .i64 ((rd_T33 l2 x50_1).f0))).trans hx207_0; replace hx207_0 := (cell_far (p := ⟨gb206, 1, none⟩) (by first | (rw [add_block]; exact hn207_1) | (show (Addr.add _ _).block ≠ _; rw [add_block]; exact hn207_1) | exact hn207_1) (.int .u64 ((rd_T33 l2 x50_1).f1))).trans hx207_0; replace hx207_0 := (cell_far (p := ⟨gb206, 2, none⟩) (by first | (rw [add_block]; exact hn207_2) | (show (Addr.add _ _).block ≠ _; rw [add_block]; exact hn207_2) | exact hn207_2) (.int .u64 ((rd_T33 l2 x50_1).f2))).trans hx207_0; replace hx207_0 := (cell_far (p := ⟨gb206, 3, none⟩) (by first | (rw [add_block]; exact hn207_3) | (show (Addr.add _ _).block ≠ _; rw [add_block]; exact hn207_3) | exact hn207_3) (.bool ((rd_T33 l2 x50_1).f3))).trans hx207_0; (try have hy207_0 := fun (n_ : Nat) => (show ((((((w19.drewN n_).setCell ⟨gb206, 0, none⟩ (.int .i64 ((rd_T33 l2 x50_1).f0))).setCell ⟨gb206, 1, none⟩ (.int .u64 ((rd_T33 l2 x50_1).f1))).setCell ⟨gb206, 2, none⟩ (.int .u64 ((rd_T33 l2 x50_1).f2))).setCell ⟨gb206, 3, none⟩ (.bool ((rd_T33 l2 x50_1).f3)))).cell? _ = some _ from hx207_0)); clear hn207_0; clear hn207_1; clear hn207_2; clear hn207_3; replace p207 := eq_true p207; replace q207 := eq_true q207)))
            go_roundg k1
            case measure => have := HK1.out; omega
            case rel => exact ⟨(wrap64 (x50_1 + 1)), (x197000_1), (x197001_1), (x197002_1), (x197003_1), rs_, H', ⟨by have := HK1.out; omega⟩, ⟨by (with_reducible repeat (first | apply Kd.R_alloc | apply Kd.R_drewN | apply Kd.R_drew)); exact Kd.R_mono (Kd.R_far (p := ⟨gb206, 3, none⟩) (Kd.R_far (p := ⟨gb206, 2, none⟩) (Kd.R_far (p := ⟨gb206, 1, none⟩) (Kd.R_far (p := ⟨gb206, 0, none⟩) (Kd.R_types HO_8.out BK206.out (by decide)) (fun _ hk => hk.2) (.int .i64 ((rd_T33 l2 x50_1).f0))) (fun _ hk => hk.2) (.int .u64 ((rd_T33 l2 x50_1).f1))) (fun _ hk => hk.2) (.int .u64 ((rd_T33 l2 x50_1).f2))) (fun _ hk => hk.2) (.bool ((rd_T33 l2 x50_1).f3))) (fun _ hk => hk.1)⟩, ⟨by (with_reducible repeat (first | apply Kd.R_alloc | apply Kd.R_drewN | apply Kd.R_drew)); exact Kd.R_mono (Kd.R_far (p := ⟨gb206, 3, none⟩) (Kd.R_far (p := ⟨gb206, 2, none⟩) (Kd.R_far (p := ⟨gb206, 1, none⟩) (Kd.R_far (p := ⟨gb206, 0, none⟩) (Kd.R_types HO_9.out BK206.out (by decide)) (fun _ hk => hk.2) (.int .i64 ((rd_T33 l2 x50_1).f0))) (fun _ hk => hk.2) (.int .u64 ((rd_T33 l2 x50_1).f1))) (fun _ hk => hk.2) (.int .u64 ((rd_T33 l2 x50_1).f2))) (fun _ hk => hk.2) (.bool ((rd_T33 l2 x50_1).f3))) (fun _ hk => hk.1)⟩, ⟨by (with_reducible repeat (first | refine blk_drewN ?_ _ | refine blk_drew ?_ | refine blk_alloc ?_ _)); refine blk_far ?_ NB196_206.out _; (with_reducible repeat (first | refine blk_drewN ?_ _ | refine blk_drew ?_ | refine blk_alloc ?_ _)); refine blk_far ?_ NB196_206.out _; (with_reducible repeat (first | refine blk_drewN ?_ _ | refine blk_drew ?_ | refine blk_alloc ?_ _)); refine blk_far ?_ NB196_206.out _; (with_reducible repeat (first | refine blk_drewN ?_ _ | refine blk_drew ?_ | refine blk_alloc ?_ _)); refine blk_far ?_ NB196_206.out _; (with_reducible repeat (first | refine blk_drewN ?_ _ | refine blk_drew ?_ | refine blk_alloc ?_ _)); exact BK196.out⟩, ⟨bs_⟩⟩
           ·rw [if_neg c18] at H
            have c18b0 : (((rd_T33 l2 x50_1).f0) == (rd t197 x50_1)) = false := beq_eq_false_iff_ne.mpr c18
            have c18b1 : (((rd_T33 l2 x50_1).f0) != (rd t197 x50_1)) = true := bne_iff_ne.mpr c18
            simp only [Option.some.injEq, Prod.mk.injEq] at H
            obtain ⟨rfl, rfl, rfl, rfl, rfl⟩ := H
            have p205 : 0 ≤ (x50_1 : Int) := od_
            have q205 : x50_1 < (l2.length : Int) := od_
            obtain ⟨ad205, e205, hx205_0, hx205_1, hx205_2, hx205_3⟩ := at_T33 HR2.out x50_1 p205 q205
            cases e205
            replace hx205_0 := (HB.out.cell (World.block_lt_of_cell? w _ hx205_0)).trans hx205_0
            replace hx205_1 := (HB.out.cell (World.block_lt_of_cell? w _ hx205_1)).trans hx205_1
            replace hx205_2 := (HB.out.cell (World.block_lt_of_cell? w _ hx205_2)).trans hx205_2
            replace hx205_3 := (HB.out.cell (World.block_lt_of_cell? w _ hx205_3)).trans hx205_3
            replace p205 := eq_true p205
            replace q205 := eq_true q205
            go_wp2_with (first | ((with_reducible refine gate_dst (N := 12) rfl ?_); (try (refine gate_guard (by rfl) ?_; dsimp only)); refine box_event ?hg (N := 12) ?hd (cs := #[.int .i64 0, .int .u64 0, .int .u64 0, .bool false]) (t := 33) ?hr ?_; (case hd => rfl); (case hg => rfl); (case hr => first | (go_simp; done) | (go_simp; rfl)); intro gb206 hg w22 hbox hb; have n0_ := Aside0.mk (Kd.R_below (rl_ HO_8) hb); have n1_ := Aside0.mk (Kd.R_below (rl_ HO_9) hb); have n2_ := Aside0.mk (blk_below (g := gb196) (o := .cells #[.int .i64 x197000_1, .int .u64 x197001_1, .int .u64 x197002_1, .bool x197003_1] 33 (0, 0)) (by (with_reducible repeat (first | refine blk_drewN ?_ _ | refine blk_drew ?_ | refine blk_alloc ?_ _)); exact BK196.out) hb); have n3_ := Aside0.mk (below_step bs_ hb); have n4_ := Aside0.mk (hbox); have n5_ := Aside0.mk ((by rw [hg]; exact (below_size bs_) : w.heap.size ≤ gb206)); have n6_ := Aside0.mk ((by rw [hg]; exact (below_size bs_) : w.heap.size ≤ gb206)); have n7_ := Aside0.mk ((by rw [hg]; exact Nat.ne_of_lt (blk_lt (g := gb196) (o := .cells #[.int .i64 x197000_1, .int .u64 x197001_1, .int .u64 x197002_1, .bool x197003_1] 33 (0, 0)) (by (with_reducible repeat (first | refine blk_drewN ?_ _ | refine blk_drew ?_ | refine blk_alloc ?_ _)); exact BK196.out)) : gb196 ≠ gb206)); have n8_ := Aside0.mk ((by rw [hg]; exact Nat.ne_of_gt (blk_lt (g := gb196) (o := .cells #[.int .i64 x197000_1, .int .u64 x197001_1, .int .u64 x197002_1, .bool x197003_1] 33 (0, 0)) (by (with_reducible repeat (first | refine blk_drewN ?_ _ | refine blk_drew ?_ | refine blk_alloc ?_ _)); exact BK196.out)) : gb206 ≠ gb196)); clear HO_8; clear HO_9; clear BK196; clear HB; have HO_8 := n0_; have HO_9 := n1_; have BK196 := n2_; have HB := n3_; have BK206 := n4_; have GW206 := n5_; have GE206 := n6_; have NB196_206 := n7_; have NB206_196 := n8_; clear n0_ n1_ n2_ n3_ n4_ n5_ n6_ n7_ n8_; clear hb hbox hg; have hnb23 := NB206_196.out; have hnc23 := NB196_206.out; have hcz24_0 : w22.cell? ⟨gb206, 0, none⟩ = some (.int .i64 0) := (blk_cell BK206.out 0).trans rfl; have hcz24_1 : w22.cell? ⟨gb206, 1, none⟩ = some (.int .u64 0) := (blk_cell BK206.out 1).trans rfl; have hcz24_2 : w22.cell? ⟨gb206, 2, none⟩ = some (.int .u64 0) := (blk_cell BK206.out 2).trans rfl; have hcz24_3 : w22.cell? ⟨gb206, 3, none⟩ = some (.bool false) := (blk_cell BK206.out 3).trans rfl; have hfz24_0 := blk_frozen BK206.out 0; have hfz24_1 := blk_frozen BK206.out 1; have hfz24_2 := blk_frozen BK206.out 2; have hfz24_3 := blk_frozen BK206.out 3; have p207 : 0 ≤ (x50_1 : Int) := od_; have q207 : x50_1 < (t197.length : Int) := od_; obtain ⟨ad207, e207, hx207_0⟩ := Kd.at_int (Kd.R_reads' HO_8.out).2.2 x50_1 p207 q207; cases e207; have hn207_0 : ad207.block ≠ gb206 := Kd.own_blk (Kd.R_ne HO_8.out BK206.out (by decide)); have hn207_1 : ad207.block ≠ gb206 := Kd.own_blk (Kd.R_ne HO_8.out BK206.out (by decide)); have hn207_2 : ad207.block ≠ gb206 := Kd.own_blk (Kd.R_ne HO_8.out BK206.out (by decide)); have hn207_3 : ad207.block ≠ gb206 := Kd.own_blk (Kd.R_ne HO_8.out BK206.out (by decide)); replace hx207_0 := (cell_far (p := ⟨gb206, 0, none⟩) (by first | (rw [add_block]; exact hn207_0) | (show (Addr.add _ _).block ≠ _; rw [add_block]; exact hn207_0) | exact hn207_0) (.int .i64 ((rd_T33 l2 x50_1).f0))).trans hx207_0; replace hx207_0 := (cell_far (p := ⟨gb206, 1, none⟩) (by first | (rw [add_block]; exact hn207_1) | (show (Addr.add _ _).block ≠ _; rw [add_block]; exact hn207_1) | exact hn207_1) (.int .u64 ((rd_T33 l2 x50_1).f1))).trans hx207_0; replace hx207_0 := (cell_far (p := ⟨gb206, 2, none⟩) (by first | (rw [add_block]; exact hn207_2) | (show (Addr.add _ _).block ≠ _; rw [add_block]; exact hn207_2) | exact hn207_2) (.int .u64 ((rd_T33 l2 x50_1).f2))).trans hx207_0; replace hx207_0 := (cell_far (p := ⟨gb206, 3, none⟩) (by first | (rw [add_block]; exact hn207_3) | (show (Addr.add _ _).block ≠ _; rw [add_block]; exact hn207_3) | exact hn207_3) (.bool ((rd_T33 l2 x50_1).f3))).trans hx207_0; (try have hy207_0 := fun (n_ : Nat) => (show ((((((w22.drewN n_).setCell ⟨gb206, 0, none⟩ (.int .i64 ((rd_T33 l2 x50_1).f0))).setCell ⟨gb206, 1, none⟩ (.int .u64 ((rd_T33 l2 x50_1).f1))).setCell ⟨gb206, 2, none⟩ (.int .u64 ((rd_T33 l2 x50_1).f2))).setCell ⟨gb206, 3, none⟩ (.bool ((rd_T33 l2 x50_1).f3)))).cell? _ = some _ from hx207_0)); clear hn207_0; clear hn207_1; clear hn207_2; clear hn207_3; replace p207 := eq_true p207; replace q207 := eq_true q207; have hcz25_0 : w22.cell? ⟨gb196, 0, none⟩ = some (.int .i64 x197000_1) := (blk_cell BK196.out 0).trans rfl; have hcz25_1 : w22.cell? ⟨gb196, 1, none⟩ = some (.int .u64 x197001_1) := (blk_cell BK196.out 1).trans rfl; have hcz25_2 : w22.cell? ⟨gb196, 2, none⟩ = some (.int .u64 x197002_1) := (blk_cell BK196.out 2).trans rfl; have hcz25_3 : w22.cell? ⟨gb196, 3, none⟩ = some (.bool x197003_1) := (blk_cell BK196.out 3).trans rfl; have hfz25_0 := blk_frozen BK196.out 0; have hfz25_1 := blk_frozen BK196.out 1; have hfz25_2 := blk_frozen BK196.out 2; have hfz25_3 := blk_frozen BK196.out 3))
            repeat (go_quiet (fail); try go_wp2_with (first | ((with_reducible refine gate_dst (N := 12) rfl ?_); (try (refine gate_guard (by rfl) ?_; dsimp only)); refine box_event ?hg (N := 12) ?hd (cs := #[.int .i64 0, .int .u64 0, .int .u64 0, .bool false]) (t := 33) ?hr ?_; (case hd => rfl); (case hg => rfl); (case hr => first | (go_simp; done) | (go_simp; rfl)); intro gb206 hg w22 hbox hb; have n0_ := Aside0.mk (Kd.R_below (rl_ HO_8) hb); have n1_ := Aside0.mk (Kd.R_below (rl_ HO_9) hb); have n2_ := Aside0.mk (blk_below (g := gb196) (o := .cells #[.int .i64 x197000_1, .int .u64 x197001_1, .int .u64 x197002_1, .bool x197003_1] 33 (0, 0)) (by (with_reducible repeat (first | refine blk_drewN ?_ _ | refine blk_drew ?_ | refine blk_alloc ?_ _)); exact BK196.out) hb); have n3_ := Aside0.mk (below_step bs_ hb); have n4_ := Aside0.mk (hbox); have n5_ := Aside0.mk ((by rw [hg]; exact (below_size bs_) : w.heap.size ≤ gb206)); have n6_ := Aside0.mk ((by rw [hg]; exact (below_size bs_) : w.heap.size ≤ gb206)); have n7_ := Aside0.mk ((by rw [hg]; exact Nat.ne_of_lt (blk_lt (g := gb196) (o := .cells #[.int .i64 x197000_1, .int .u64 x197001_1, .int .u64 x197002_1, .bool x197003_1] 33 (0, 0)) (by (with_reducible repeat (first | refine blk_drewN ?_ _ | refine blk_drew ?_ | refine blk_alloc ?_ _)); exact BK196.out)) : gb196 ≠ gb206)); have n8_ := Aside0.mk ((by rw [hg]; exact Nat.ne_of_gt (blk_lt (g := gb196) (o := .cells #[.int .i64 x197000_1, .int .u64 x197001_1, .int .u64 x197002_1, .bool x197003_1] 33 (0, 0)) (by (with_reducible repeat (first | refine blk_drewN ?_ _ | refine blk_drew ?_ | refine blk_alloc ?_ _)); exact BK196.out)) : gb206 ≠ gb196)); clear HO_8; clear HO_9; clear BK196; clear HB; have HO_8 := n0_; have HO_9 := n1_; have BK196 := n2_; have HB := n3_; have BK206 := n4_; have GW206 := n5_; have GE206 := n6_; have NB196_206 := n7_; have NB206_196 := n8_; clear n0_ n1_ n2_ n3_ n4_ n5_ n6_ n7_ n8_; clear hb hbox hg; have hnb23 := NB206_196.out; have hnc23 := NB196_206.out; have hcz24_0 : w22.cell? ⟨gb206, 0, none⟩ = some (.int .i64 0) := (blk_cell BK206.out 0).trans rfl; have hcz24_1 : w22.cell? ⟨gb206, 1, none⟩ = some (.int .u64 0) := (blk_cell BK206.out 1).trans rfl; have hcz24_2 : w22.cell? ⟨gb206, 2, none⟩ = some (.int .u64 0) := (blk_cell BK206.out 2).trans rfl; have hcz24_3 : w22.cell? ⟨gb206, 3, none⟩ = some (.bool false) := (blk_cell BK206.out 3).trans rfl; have hfz24_0 := blk_frozen BK206.out 0; have hfz24_1 := blk_frozen BK206.out 1; have hfz24_2 := blk_frozen BK206.out 2; have hfz24_3 := blk_frozen BK206.out 3; have p207 : 0 ≤ (x50_1 : Int) := od_; have q207 : x50_1 < (t197.length : Int) := od_; obtain ⟨ad207, e207, hx207_0⟩ := Kd.at_int (Kd.R_reads' HO_8.out).2.2 x50_1 p207 q207; cases e207; have hn207_0 : ad207.block ≠ gb206 := Kd.own_blk (Kd.R_ne HO_8.out BK206.out (by decide)); have hn207_1 : ad207.block ≠ gb206 := Kd.own_blk (Kd.R_ne HO_8.out BK206.out (by decide)); have hn207_2 : ad207.block ≠ gb206 := Kd.own_blk (Kd.R_ne HO_8.out BK206.out (by decide)); have hn207_3 : ad207.block ≠ gb206 := Kd.own_blk (Kd.R_ne HO_8.out BK206.out (by decide)); replace hx207_0 := (cell_far (p := ⟨gb206, 0, none⟩) (by first | (rw [add_block]; exact hn207_0) | (show (Addr.add _ _).block ≠ _; rw [add_block]; exact hn207_0) | exact hn207_0) (.int .i64 ((rd_T33 l2 x50_1).f0))).trans hx207_0; replace hx207_0 := (cell_far (p := ⟨gb206, 1, none⟩) (by first | (rw [add_block]; exact hn207_1) | (show (Addr.add _ _).block ≠ _; rw [add_block]; exact hn207_1) | exact hn207_1) (.int .u64 ((rd_T33 l2 x50_1).f1))).trans hx207_0; replace hx207_0 := (cell_far (p := ⟨gb206, 2, none⟩) (by first | (rw [add_block]; exact hn207_2) | (show (Addr.add _ _).block ≠ _; rw [add_block]; exact hn207_2) | exact hn207_2) (.int .u64 ((rd_T33 l2 x50_1).f2))).trans hx207_0; replace hx207_0 := (cell_far (p := ⟨gb206, 3, none⟩) (by first | (rw [add_block]; exact hn207_3) | (show (Addr.add _ _).block ≠ _; rw [add_block]; exact hn207_3) | exact hn207_3) (.bool ((rd_T33 l2 x50_1).f3))).trans hx207_0; (try have hy207_0 := fun (n_ : Nat) => (show ((((((w22.drewN n_).setCell ⟨gb206, 0, none⟩ (.int .i64 ((rd_T33 l2 x50_1).f0))).setCell ⟨gb206, 1, none⟩ (.int .u64 ((rd_T33 l2 x50_1).f1))).setCell ⟨gb206, 2, none⟩ (.int .u64 ((rd_T33 l2 x50_1).f2))).setCell ⟨gb206, 3, none⟩ (.bool ((rd_T33 l2 x50_1).f3)))).cell? _ = some _ from hx207_0)); clear hn207_0; clear hn207_1; clear hn207_2; clear hn207_3; replace p207 := eq_true p207; replace q207 := eq_true q207; have hcz25_0 : w22.cell? ⟨gb196, 0, none⟩ = some (.int .i64 x197000_1) := (blk_cell BK196.out 0).trans rfl; have hcz25_1 : w22.cell? ⟨gb196, 1, none⟩ = some (.int .u64 x197001_1) := (blk_cell BK196.out 1).trans rfl; have hcz25_2 : w22.cell? ⟨gb196, 2, none⟩ = some (.int .u64 x197002_1) := (blk_cell BK196.out 2).trans rfl; have hcz25_3 : w22.cell? ⟨gb196, 3, none⟩ = some (.bool x197003_1) := (blk_cell BK196.out 3).trans rfl; have hfz25_0 := blk_frozen BK196.out 0; have hfz25_1 := blk_frozen BK196.out 1; have hfz25_2 := blk_frozen BK196.out 2; have hfz25_3 := blk_frozen BK196.out 3)))
            refine bodyPost_ret (results_ct rfl _ _ gb196 33 #[.int .i64 0, .int .u64 0, .int .u64 0, .bool false] (0, 0) _ rfl (by (with_reducible repeat (first | refine blk_drewN ?_ _ | refine blk_drew ?_ | refine blk_alloc ?_ _)); refine blk_put (cs := #[.int .i64 0, .int .u64 0, .int .u64 0, .bool x197003_1]) ?_ 3 _ rfl; (with_reducible repeat (first | refine blk_drewN ?_ _ | refine blk_drew ?_ | refine blk_alloc ?_ _)); refine blk_put (cs := #[.int .i64 0, .int .u64 0, .int .u64 x197002_1, .bool x197003_1]) ?_ 2 _ rfl; (with_reducible repeat (first | refine blk_drewN ?_ _ | refine blk_drew ?_ | refine blk_alloc ?_ _)); refine blk_put (cs := #[.int .i64 0, .int .u64 x197001_1, .int .u64 x197002_1, .bool x197003_1]) ?_ 1 _ rfl; (with_reducible repeat (first | refine blk_drewN ?_ _ | refine blk_drew ?_ | refine blk_alloc ?_ _)); refine blk_put (cs := #[.int .i64 x197000_1, .int .u64 x197001_1, .int .u64 x197002_1, .bool x197003_1]) ?_ 0 _ rfl; (with_reducible repeat (first | refine blk_drewN ?_ _ | refine blk_drew ?_ | refine blk_alloc ?_ _)); refine blk_far ?_ NB196_206.out _; (with_reducible repeat (first | refine blk_drewN ?_ _ | refine blk_drew ?_ | refine blk_alloc ?_ _)); refine blk_far ?_ NB196_206.out _; (with_reducible repeat (first | refine blk_drewN ?_ _ | refine blk_drew ?_ | refine blk_alloc ?_ _)); refine blk_far ?_ NB196_206.out _; (with_reducible repeat (first | refine blk_drewN ?_ _ | refine blk_drew ?_ | refine blk_alloc ?_ _)); refine blk_far ?_ NB196_206.out _; (with_reducible repeat (first | refine blk_drewN ?_ _ | refine blk_drew ?_ | refine blk_alloc ?_ _)); exact BK196.out) Tryz.underlying33 rfl (by kernel_rfl)) rfl ?_
            exact ⟨er_, bs_⟩
          ·rw [if_neg c17] at H
           exact absurd H (by simp)
         ·rw [if_neg c16] at H
          exact absurd H (by simp)
        ·rw [if_neg c15] at H
         exact absurd H (by simp)
       ·rw [if_neg c14] at H
        have c14b0 : decide (x50_1 < (l2.length : Int)) = false := decide_eq_false c14
        clear c14
        replace H := Option.bind_eq_some_iff.mp H
        obtain ⟨t208, A260, H⟩ := H
        replace H : (if 0 < (t208.length : Int) then (if (t208.length : Int) > 1 then (if 1 < (t208.length : Int) then (scalar_Do.j1 k1 a0 t197 t198 ((rd_T33 t208 0).f1) ((rd_T33 t208 1).f1)) else (none)) else (scalar_Do.j1 k1 a0 t197 t198 ((rd_T33 t208 0).f1) 0)) else (none)) = some (r1, r2, r3, r4, r5) := H
        have A26 := Aside0.mk A260
        clear A260
        by_cases c27 : 0 < (t208.length : Int)
        ·rw [if_pos c27] at H
         have c27b0 : decide (0 < (t208.length : Int)) = true := decide_eq_true c27
         have c27b1 : decide (0 < t208.length) = true := decide_eq_true (by omega)
         clear c27
         have HC28 := Aside0.mk H
         clear H
         go_upto_if 72 with (first | (go_at_call 29; (with_reducible refine (scalar_clean.calls k1 _ _ l2 t208 _ ?side1 ?side2 A26.out).mono ?_); (case side1 => repeat (first | exact (Kd.C_below HR2.out HB.out) | (with_reducible refine Kd.C_alloc ?_ _) | (with_reducible refine Kd.C_drewN ?_ _) | (with_reducible refine Kd.C_drew ?_))); (case side2 => exact HC2.out); rintro e w29 ⟨v209, rfl, ho0, hb⟩; have n0_ := Aside0.mk (Kd.R_below (rl_ HO_8) hb); have n1_ := Aside0.mk (Kd.R_below (rl_ HO_9) hb); have n2_ := Aside0.mk (Kd.R_lower (Kd.R_newB ho0 (g := gb196) (o := .cells #[.int .i64 x197000_1, .int .u64 x197001_1, .int .u64 x197002_1, .bool x197003_1] 33 (0, 0)) (by (with_reducible repeat (first | refine blk_drewN ?_ _ | refine blk_drew ?_ | refine blk_alloc ?_ _)); exact BK196.out)) (below_size bs_)); have n3_ := Aside0.mk (blk_below (g := gb196) (o := .cells #[.int .i64 x197000_1, .int .u64 x197001_1, .int .u64 x197002_1, .bool x197003_1] 33 (0, 0)) (by (with_reducible repeat (first | refine blk_drewN ?_ _ | refine blk_drew ?_ | refine blk_alloc ?_ _)); exact BK196.out) hb); have n4_ := Aside0.mk (below_step bs_ hb); clear HO_8; clear HO_9; clear BK196; clear HB; have HO_8 := n0_; have HO_9 := n1_; have HO210 := n2_; have BK196 := n3_; have HB := n4_; clear n0_ n1_ n2_ n3_ n4_; (try clear hb); (try clear hb2); (try clear hk); (try clear hi); (try clear ho0); obtain ⟨Ao30, co30, eo30⟩ := Kd.R_slice HO210.out; subst eo30; have p211 : 0 ≤ (0 : Int) := (by omega); have q211 : 0 < (t208.length : Int) := od_; obtain ⟨ad211, e211, hx211_0, hx211_1, hx211_2, hx211_3⟩ := at_T33 (Kd.R_reads' HO210.out).2.2 0 p211 q211; cases e211; have qi211 : (0 < t208.length) = True := eq_true (by omega); (try rw [show ((0 : Int)).toNat = 0 from rfl] at hx211_0); (try rw [show 0 * 4 = 0 from rfl] at hx211_0); (try rw [Addr.add_zero'] at hx211_0); (try rw [show ((0 : Int)).toNat = 0 from rfl] at hx211_1); (try rw [show 0 * 4 = 0 from rfl] at hx211_1); (try rw [Addr.add_zero'] at hx211_1); (try rw [show ((0 : Int)).toNat = 0 from rfl] at hx211_2); (try rw [show 0 * 4 = 0 from rfl] at hx211_2); (try rw [Addr.add_zero'] at hx211_2); (try rw [show ((0 : Int)).toNat = 0 from rfl] at hx211_3); (try rw [show 0 * 4 = 0 from rfl] at hx211_3); (try rw [Addr.add_zero'] at hx211_3); replace p211 := eq_true p211; replace q211 := eq_true q211))
         repeat (go_quiet (fail); go_upto_if 72 with (first | (go_at_call 29; (with_reducible refine (scalar_clean.calls k1 _ _ l2 t208 _ ?side1 ?side2 A26.out).mono ?_); (case side1 => repeat (first | exact (Kd.C_below HR2.out HB.out) | (with_reducible refine Kd.C_alloc ?_ _) | (with_reducible refine Kd.C_drewN ?_ _) | (with_reducible refine Kd.C_drew ?_))); (case side2 => exact HC2.out); rintro e w29 ⟨v209, rfl, ho0, hb⟩; have n0_ := Aside0.mk (Kd.R_below (rl_ HO_8) hb); have n1_ := Aside0.mk (Kd.R_below (rl_ HO_9) hb); have n2_ := Aside0.mk (Kd.R_lower (Kd.R_newB ho0 (g := gb196) (o := .cells #[.int .i64 x197000_1, .int .u64 x197001_1, .int .u64 x197002_1, .bool x197003_1] 33 (0, 0)) (by (with_reducible repeat (first | refine blk_drewN ?_ _ | refine blk_drew ?_ | refine blk_alloc ?_ _)); exact BK196.out)) (below_size bs_)); have n3_ := Aside0.mk (blk_below (g := gb196) (o := .cells #[.int .i64 x197000_1, .int .u64 x197001_1, .int .u64 x197002_1, .bool x197003_1] 33 (0, 0)) (by (with_reducible repeat (first | refine blk_drewN ?_ _ | refine blk_drew ?_ | refine blk_alloc ?_ _)); exact BK196.out) hb); have n4_ := Aside0.mk (below_step bs_ hb); clear HO_8; clear HO_9; clear BK196; clear HB; have HO_8 := n0_; have HO_9 := n1_; have HO210 := n2_; have BK196 := n3_; have HB := n4_; clear n0_ n1_ n2_ n3_ n4_; (try clear hb); (try clear hb2); (try clear hk); (try clear hi); (try clear ho0); obtain ⟨Ao30, co30, eo30⟩ := Kd.R_slice HO210.out; subst eo30; have p211 : 0 ≤ (0 : Int) := (by omega); have q211 : 0 < (t208.length : Int) := od_; obtain ⟨ad211, e211, hx211_0, hx211_1, hx211_2, hx211_3⟩ := at_T33 (Kd.R_reads' HO210.out).2.2 0 p211 q211; cases e211; have qi211 : (0 < t208.length) = True := eq_true (by omega); (try rw [show ((0 : Int)).toNat = 0 from rfl] at hx211_0); (try rw [show 0 * 4 = 0 from rfl] at hx211_0); (try rw [Addr.add_zero'] at hx211_0); (try rw [show ((0 : Int)).toNat = 0 from rfl] at hx211_1); (try rw [show 0 * 4 = 0 from rfl] at hx211_1); (try rw [Addr.add_zero'] at hx211_1); (try rw [show ((0 : Int)).toNat = 0 from rfl] at hx211_2); (try rw [show 0 * 4 = 0 from rfl] at hx211_2); (try rw [Addr.add_zero'] at hx211_2); (try rw [show ((0 : Int)).toNat = 0 from rfl] at hx211_3); (try rw [show 0 * 4 = 0 from rfl] at hx211_3); (try rw [Addr.add_zero'] at hx211_3); replace p211 := eq_true p211; replace q211 := eq_true q211)))
         (try simp only [Act.put, List.setIfInBounds_toArray, List.set_cons_zero, List.set_cons_succ])
         go_cut [14] (fun v14 wc => ∃ (kq : Nat) (x14_27 : Int), v14 = .int .u64 x14_27 ∧ Aside0 (scalar_Do.j1 kq a0 t197 t198 ((rd_T33 t208 0).f1) x14_27 = some (r1, r2, r3, r4, r5)) ∧ Aside0 (kq ≤ k1) ∧ Aside0 (Kd.R (Kd.int .i64) 3 wc w.heap.size (fun k_ => some k_ ≠ (v202 : Value).ownBlock) (.slice Ao13 t197.length co13) t197) ∧ Aside0 (Kd.R (Kd.int .i64) 3 wc w.heap.size (fun k_ => some k_ ≠ ((.slice Ao13 t197.length co13) : Value).ownBlock) v202 t198) ∧ Aside0 (wc.heap[gb196]? = some (.cells #[.int .i64 x197000_1, .int .u64 x197001_1, .int .u64 x197002_1, .bool x197003_1] 33 (0, 0))) ∧ Aside0 (Below w.heap.size w wc))
         case first =>
          have H := HC28.out
          clear HC28
          by_cases c31 : (t208.length : Int) > 1
          ·rw [if_pos c31] at H
           have c31b0 : decide (1 < (t208.length : Int)) = true := decide_eq_true c31
           have c31b1 : decide (1 < t208.length) = true := decide_eq_true (by omega)
           clear c31
           (first | rw [c31b0] | (simp only [i64_w, i32_w]; rw [c31b0]) | skip)
           by_cases c32 : 1 < (t208.length : Int)
           ·rw [if_pos c32] at H
            have c32b0 : decide (1 < (t208.length : Int)) = true := decide_eq_true c32
            have c32b1 : decide (1 < t208.length) = true := decide_eq_true (by omega)
            clear c32
            have H' := Aside0.mk H
            clear H
            have p212 : 0 ≤ (1 : Int) := (by omega)
            have q212 : 1 < (t208.length : Int) := od_
            obtain ⟨ad212, e212, hx212_0, hx212_1, hx212_2, hx212_3⟩ := at_T33 (Kd.R_reads' HO210.out).2.2 1 p212 q212
            obtain rfl : ad211 = ad212 := (by injection e212)
            (try simp only [show (1 : Int).toNat = 1 from rfl, Nat.reduceMul, Nat.reduceEqDiff, Go.Addr.add, ↓reduceIte] at hx212_0)
            (try simp only [show (1 : Int).toNat = 1 from rfl, Nat.reduceMul, Nat.reduceEqDiff, Go.Addr.add, ↓reduceIte] at hx212_1)
            (try simp only [show (1 : Int).toNat = 1 from rfl, Nat.reduceMul, Nat.reduceEqDiff, Go.Addr.add, ↓reduceIte] at hx212_2)
            (try simp only [show (1 : Int).toNat = 1 from rfl, Nat.reduceMul, Nat.reduceEqDiff, Go.Addr.add, ↓reduceIte] at hx212_3)
            have qi212 : (1 < t208.length) = True := eq_true (by omega)
            (try rw [show ((1 : Int)).toNat = 1 from rfl] at hx212_0)
            (try rw [show 1 * 4 = 4 from rfl] at hx212_0)
            (try rw [show ((1 : Int)).toNat = 1 from rfl] at hx212_1)
            (try rw [show 1 * 4 = 4 from rfl] at hx212_1)
            (try rw [show ((1 : Int)).toNat = 1 from rfl] at hx212_2)
            (try rw [show 1 * 4 = 4 from rfl] at hx212_2)
            (try rw [show ((1 : Int)).toNat = 1 from rfl] at hx212_3)
            (try rw [show 1 * 4 = 4 from rfl] at hx212_3)
            replace p212 := eq_true p212
            replace q212 := eq_true q212
            go_wp2
            repeat (go_quiet (fail); try go_wp2)
            go_meet
            case rel => exact ⟨_, ((rd_T33 t208 1).f1), rs_, H', ⟨by have := HK1.out; first | omega | exact Nat.le_refl _⟩, ⟨rl_ HO_8⟩, ⟨rl_ HO_9⟩, ⟨by (with_reducible repeat (first | refine blk_drewN ?_ _ | refine blk_drew ?_ | refine blk_alloc ?_ _)); exact BK196.out⟩, ⟨bs_⟩⟩
           ·rw [if_neg c32] at H
            exact absurd H (by simp)
          ·rw [if_neg c31] at H
           have c31b0 : decide (1 < (t208.length : Int)) = false := decide_eq_false c31
           have c31b1 : decide (1 < t208.length) = false := decide_eq_false (by omega)
           clear c31
           (first | rw [c31b0] | (simp only [i64_w, i32_w]; rw [c31b0]) | skip)
           have H' := Aside0.mk H
           clear H
           go_wp2
           repeat (go_quiet (fail); try go_wp2)
           go_meet
           case rel => exact ⟨_, (0), rs_, H', ⟨by have := HK1.out; first | omega | exact Nat.le_refl _⟩, ⟨rl_ HO_8⟩, ⟨rl_ HO_9⟩, ⟨by (with_reducible repeat (first | refine blk_drewN ?_ _ | refine blk_drew ?_ | refine blk_alloc ?_ _)); exact BK196.out⟩, ⟨bs_⟩⟩
         case rest =>
          clear HC28
          (try clear c1); (try clear c2); (try clear p2); (try clear q2); (try clear hx2); (try clear qi2); (try clear c3); (try clear c4); (try clear c4b0); (try clear p6); (try clear c7); (try clear c8); (try clear c8b0); (try clear c8b1); (try clear c9); (try clear c9b0); (try clear c9b1); (try clear c9b2); (try clear c14); (try clear c14b0); (try clear c15); (try clear c15b0); (try clear c16); (try clear c16b0); (try clear c17); (try clear c17b0); (try clear c18); (try clear c18b0); (try clear c18b1); (try clear c20); (try clear p20); (try clear q20); (try clear hx20); (try clear p21); (try clear q21); (try clear hx21); (try clear qi21); (try clear c23); (try clear c27); (try clear c27b0); (try clear c27b1); (try clear c31); (try clear c31b0); (try clear c31b1); (try clear c32); (try clear c32b0); (try clear c32b1); (try clear hcz21_0); (try clear hcz21_1); (try clear hcz21_2); (try clear hcz21_3); (try clear hcz24_0); (try clear hcz24_1); (try clear hcz24_2); (try clear hcz24_3); (try clear hcz25_0); (try clear hcz25_1); (try clear hcz25_2); (try clear hcz25_3); (try clear hfz21_0); (try clear hfz21_1); (try clear hfz21_2); (try clear hfz21_3); (try clear hfz24_0); (try clear hfz24_1); (try clear hfz24_2); (try clear hfz24_3); (try clear hfz25_0); (try clear hfz25_1); (try clear hfz25_2); (try clear hfz25_3); (try clear hx205_0); (try clear hx205_1); (try clear hx205_2); (try clear hx205_3); (try clear hx207_0); (try clear hx211_0); (try clear hx211_1); (try clear hx211_2); (try clear hx211_3); (try clear hx212_0); (try clear hx212_1); (try clear hx212_2); (try clear hx212_3); (try clear p2); (try clear p205); (try clear p207); (try clear p211); (try clear p212); (try clear q205); (try clear q207); (try clear q211); (try clear q212)
          obtain ⟨kq, x14_27, rfl, HA, HJ27, HO_8, HO_9, BK196, HB⟩ := hcut
          cases kq with
          | zero => exact absurd HA.out (by simp [scalar_Do.j1])
          | succ kj27 =>
           have H := HA.out
           clear HA
           simp only [scalar_Do.j1] at H
           by_cases c33 : 0 < (t197.length : Int)
           ·rw [if_pos c33] at H
            have c33b0 : decide (0 < (t197.length : Int)) = true := decide_eq_true c33
            have c33b1 : decide (0 < t197.length) = true := decide_eq_true (by omega)
            clear c33
            replace H := Option.bind_eq_some_iff.mp H
            obtain ⟨t214, A340, H⟩ := H
            replace H : ((scalar_work.f kj27 a0 t214 ((rd_T33 t208 0).f1) x14_27).bind fun bt215 => (if bt215.2 = 0 then (if 0 < (t198.length : Int) then ((scalar_clean.f kj27 (([(⟨rd t198 0, bt215.1, 0, false⟩ : S33)] : List (S33)))).bind fun t221 => (if 0 < (t221.length : Int) then (some ((rd_T33 t221 0).f0, (rd_T33 t221 0).f1, (rd_T33 t221 0).f2, (rd_T33 t221 0).f3, 0)) else (none))) else (none)) else (some (0, 0, 0, false, bt215.2)))) = some (r1, r2, r3, r4, r5) := H
            have A34 := Aside0.mk A340
            clear A340
            replace H := Option.bind_eq_some_iff.mp H
            obtain ⟨⟨t215, t216⟩, A350, H⟩ := H
            replace H : (if t216 = 0 then (if 0 < (t198.length : Int) then ((scalar_clean.f kj27 (([(⟨rd t198 0, t215, 0, false⟩ : S33)] : List (S33)))).bind fun t221 => (if 0 < (t221.length : Int) then (some ((rd_T33 t221 0).f0, (rd_T33 t221 0).f1, (rd_T33 t221 0).f2, (rd_T33 t221 0).f3, 0)) else (none))) else (none)) else (some (0, 0, 0, false, t216))) = some (r1, r2, r3, r4, r5) := H
            have A35 := Aside0.mk A350
            clear A350
            by_cases c36 : t216 = 0
            ·rw [if_pos c36] at H
             have c36b0 : (t216 == 0) = true := beq_iff_eq.mpr c36
             have c36b1 : (t216 != 0) = false := bne_eq_false_iff_eq.mpr c36
             clear c36
             by_cases c37 : 0 < (t198.length : Int)
             ·rw [if_pos c37] at H
              have c37b0 : decide (0 < (t198.length : Int)) = true := decide_eq_true c37
              have c37b1 : decide (0 < t198.length) = true := decide_eq_true (by omega)
              clear c37
              obtain ⟨y218, hy218⟩ : ∃ y_ : List (S33), y_ = (([(⟨rd t198 0, t215, 0, false⟩ : S33)] : List (S33))) := ⟨_, rfl⟩
              replace H : ((scalar_clean.f kj27 y218).bind fun t221 => (if 0 < (t221.length : Int) then (some ((rd_T33 t221 0).f0, (rd_T33 t221 0).f1, (rd_T33 t221 0).f2, (rd_T33 t221 0).f3, 0)) else (none))) = some (r1, r2, r3, r4, r5) := by first | (rw [hy218]; with_reducible exact H) | (have H2_ := (Option.bind_some _ _).symm.trans H; rw [hy218]; with_reducible exact H2_) | (have H2_ := (Option.bind_some _ _).symm.trans H; with_reducible exact H2_) | with_reducible exact H | (rw [hy218]; exact H) | exact H
              have Ny218 := Aside0.mk hy218
              clear hy218
              replace H := Option.bind_eq_some_iff.mp H
              obtain ⟨t221, A380, H⟩ := H
              replace H : (if 0 < (t221.length : Int) then (some ((rd_T33 t221 0).f0, (rd_T33 t221 0).f1, (rd_T33 t221 0).f2, (rd_T33 t221 0).f3, 0)) else (none)) = some (r1, r2, r3, r4, r5) := H
              have A38 := Aside0.mk A380
              clear A380
              by_cases c39 : 0 < (t221.length : Int)
              ·rw [if_pos c39] at H
               have c39b0 : decide (0 < (t221.length : Int)) = true := decide_eq_true c39
               have c39b1 : decide (0 < t221.length) = true := decide_eq_true (by omega)
               clear c39
               simp only [Option.some.injEq, Prod.mk.injEq] at H
               obtain ⟨rfl, rfl, rfl, rfl, rfl⟩ := H
               have p213 : 0 ≤ (0 : Int) := (by omega)
               have q213 : 0 < (t197.length : Int) := od_
               try (obtain ⟨ga_, ca_, hva_, _, _⟩ := Kd.R_reads HO_8.out; subst hva_)
               obtain ⟨ad213, e213, hx213_0⟩ := Kd.at_int (Kd.R_reads' HO_8.out).2.2 0 p213 q213
               cases e213
               have qi213 : (0 < t197.length) = True := eq_true (by omega)
               (try rw [show ((0 : Int)).toNat = 0 from rfl] at hx213_0)
               (try rw [Addr.add_zero'] at hx213_0)
               replace p213 := eq_true p213
               replace q213 := eq_true q213
               go_wp2_with (first | (go_at_call 32; (with_reducible refine (scalar_width.calls (rd t197 0) t214 _ A34.out).mono ?_); rintro e w' ⟨rfl, ⟨nd, rfl⟩⟩; (try first | exact qd1_ | exact qd2_)) | (go_at_call 31; (with_reducible refine (scalar_work.calls kj27 a0 t214 ((rd_T33 t208 0).f1) x14_27 t215 t216 _ A35.out).mono ?_); rintro e w40 ⟨rfl, hb⟩; have n0_ := Aside0.mk (Kd.R_below (rl_ HO_8) hb); have n1_ := Aside0.mk (Kd.R_below (rl_ HO_9) hb); have n2_ := Aside0.mk (blk_below (g := gb196) (o := .cells #[.int .i64 x197000_1, .int .u64 x197001_1, .int .u64 x197002_1, .bool x197003_1] 33 (0, 0)) (by (with_reducible repeat (first | refine blk_drewN ?_ _ | refine blk_drew ?_ | refine blk_alloc ?_ _)); exact BK196.out) hb); have n3_ := Aside0.mk (below_step bs_ hb); clear HO_8; clear HO_9; clear BK196; clear HB; have HO_8 := n0_; have HO_9 := n1_; have BK196 := n2_; have HB := n3_; clear n0_ n1_ n2_ n3_; (try clear hb); (try clear hb2); (try clear hk); (try clear hi); obtain ⟨Ao41, co41, eo41⟩ := Kd.R_slice HO_9.out; subst eo41; have p217 : 0 ≤ (0 : Int) := (by omega); have q217 : 0 < (t198.length : Int) := od_; obtain ⟨ad217, e217, hx217_0⟩ := Kd.at_int (Kd.R_reads' HO_9.out).2.2 0 p217 q217; cases e217; have qi217 : (0 < t198.length) = True := eq_true (by omega); (try rw [show ((0 : Int)).toNat = 0 from rfl] at hx217_0); (try rw [Addr.add_zero'] at hx217_0); replace p217 := eq_true p217; replace q217 := eq_true q217) | ((with_reducible refine gate_dst (N := 97) rfl ?_); (try (refine gate_guard (by rfl) ?_; dsimp only)); refine Kd.R_lit k33 _ 33 ?hg (N := 97) ?hd (xs := ([(⟨rd t198 0, t215, 0, false⟩ : S33)] : List (S33))) (inner := [.int .i64 (rd t198 0), .int .u64 t215, .int .u64 0, .bool false]) (ok := fun _ => True) (okp := fun _ => True) ?hr ?hp (fun _ hk => hk) trivial (Below.refl _ _) (Nat.le_refl _) (by simp) ?_; (case hd => rfl); (case hg => rfl); (case hr => first | (go_simp; done) | (go_simp; rfl)); (case hp => exact (Reps.c4 (show Kd.M k33 _ _ _ (⟨rd t198 0, t215, 0, false⟩ : S33) [.int .i64 (rd t198 0), .int .u64 t215, .int .u64 0, .bool false] from (k33_mkM _ _ _ (⟨rd t198 0, t215, 0, false⟩ : S33) )) (Reps.none _ _))); intro v219 w42 ho43 hb hg_ hnew_; clear hg_ hnew_; (first | rw [← Ny218.out] at ho43 | (simp only [Int.reduceToNat] at ho43; rw [← Ny218.out] at ho43)); have n0_ := Aside0.mk (Kd.R_below (rl_ HO_8) hb); have n1_ := Aside0.mk (Kd.R_below (rl_ HO_9) hb); have n2_ := Aside0.mk (Kd.R_lower (Kd.R_newB ho43 (g := gb196) (o := .cells #[.int .i64 x197000_1, .int .u64 x197001_1, .int .u64 x197002_1, .bool x197003_1] 33 (0, 0)) (by (with_reducible repeat (first | refine blk_drewN ?_ _ | refine blk_drew ?_ | refine blk_alloc ?_ _)); exact BK196.out)) (below_size bs_)); have n3_ := Aside0.mk (blk_below (g := gb196) (o := .cells #[.int .i64 x197000_1, .int .u64 x197001_1, .int .u64 x197002_1, .bool x197003_1] 33 (0, 0)) (by (with_reducible repeat (first | refine blk_drewN ?_ _ | refine blk_drew ?_ | refine blk_alloc ?_ _)); exact BK196.out) hb); have n4_ := Aside0.mk (below_step bs_ hb); clear HO_8; clear HO_9; clear BK196; clear HB; have HO_8 := n0_; have HO_9 := n1_; have HO220 := n2_; have BK196 := n3_; have HB := n4_; clear n0_ n1_ n2_ n3_ n4_; clear hb ho43; obtain ⟨Ao44, co44, eo44⟩ := Kd.R_slice HO220.out; subst eo44) | (go_at_call 29; (with_reducible refine (scalar_clean.calls kj27 _ _ y218 t221 _ ?side1 ?side2 A38.out).mono ?_); (case side1 => repeat (first | exact (Kd.R_reads' HO220.out).2.2 | (with_reducible refine Kd.C_alloc ?_ _) | (with_reducible refine Kd.C_drewN ?_ _) | (with_reducible refine Kd.C_drew ?_))); (case side2 => exact (Kd.R_reads' HO220.out).2.1); rintro e w45 ⟨v222, rfl, ho0, hb⟩; have n0_ := Aside0.mk (Kd.R_below (rl_ HO_8) hb); have n1_ := Aside0.mk (Kd.R_below (rl_ HO_9) hb); have n2_ := Aside0.mk (Kd.R_elder' (rl_ HO220) (Kd.R_base ho0) hb); have n3_ := Aside0.mk (Kd.R_lower (Kd.R_newB (Kd.R_new' ho0 (Kd.R_lt (rl_ HO220))) (g := gb196) (o := .cells #[.int .i64 x197000_1, .int .u64 x197001_1, .int .u64 x197002_1, .bool x197003_1] 33 (0, 0)) (by (with_reducible repeat (first | refine blk_drewN ?_ _ | refine blk_drew ?_ | refine blk_alloc ?_ _)); exact BK196.out)) (below_size bs_)); have n4_ := Aside0.mk (blk_below (g := gb196) (o := .cells #[.int .i64 x197000_1, .int .u64 x197001_1, .int .u64 x197002_1, .bool x197003_1] 33 (0, 0)) (by (with_reducible repeat (first | refine blk_drewN ?_ _ | refine blk_drew ?_ | refine blk_alloc ?_ _)); exact BK196.out) hb); have n5_ := Aside0.mk (below_step bs_ hb); clear HO_8; clear HO_9; clear HO220; clear BK196; clear HB; have HO_8 := n0_; have HO_9 := n1_; have HO220 := n2_; have HO223 := n3_; have BK196 := n4_; have HB := n5_; clear n0_ n1_ n2_ n3_ n4_ n5_; (try clear hb); (try clear hb2); (try clear hk); (try clear hi); (try clear ho0); obtain ⟨Ao46, co46, eo46⟩ := Kd.R_slice HO223.out; subst eo46; have p224 : 0 ≤ (0 : Int) := (by omega); have q224 : 0 < (t221.length : Int) := od_; obtain ⟨ad224, e224, hx224_0, hx224_1, hx224_2, hx224_3⟩ := at_T33 (Kd.R_reads' HO223.out).2.2 0 p224 q224; cases e224; have qi224 : (0 < t221.length) = True := eq_true (by omega); (try rw [show ((0 : Int)).toNat = 0 from rfl] at hx224_0); (try rw [show 0 * 4 = 0 from rfl] at hx224_0); (try rw [Addr.add_zero'] at hx224_0); (try rw [show ((0 : Int)).toNat = 0 from rfl] at hx224_1); (try rw [show 0 * 4 = 0 from rfl] at hx224_1); (try rw [Addr.add_zero'] at hx224_1); (try rw [show ((0 : Int)).toNat = 0 from rfl] at hx224_2); (try rw [show 0 * 4 = 0 from rfl] at hx224_2); (try rw [Addr.add_zero'] at hx224_2); (try rw [show ((0 : Int)).toNat = 0 from rfl] at hx224_3); (try rw [show 0 * 4 = 0 from rfl] at hx224_3); (try rw [Addr.add_zero'] at hx224_3); replace p224 := eq_true p224; replace q224 := eq_true q224; have hcz47_0 : w45.cell? ⟨gb196, 0, none⟩ = some (.int .i64 x197000_1) := (blk_cell BK196.out 0).trans rfl; have hcz47_1 : w45.cell? ⟨gb196, 1, none⟩ = some (.int .u64 x197001_1) := (blk_cell BK196.out 1).trans rfl; have hcz47_2 : w45.cell? ⟨gb196, 2, none⟩ = some (.int .u64 x197002_1) := (blk_cell BK196.out 2).trans rfl; have hcz47_3 : w45.cell? ⟨gb196, 3, none⟩ = some (.bool x197003_1) := (blk_cell BK196.out 3).trans rfl; have hfz47_0 := blk_frozen BK196.out 0; have hfz47_1 := blk_frozen BK196.out 1; have hfz47_2 := blk_frozen BK196.out 2; have hfz47_3 := blk_frozen BK196.out 3))
               repeat (go_quiet (first | (go_at_call 32; (with_reducible refine (scalar_width.calls (rd t197 0) t214 _ A34.out).mono ?_); rintro e w' ⟨rfl, ⟨nd, rfl⟩⟩; (try first | exact qd1_ | exact qd2_))); try go_wp2_with (first | (go_at_call 32; (with_reducible refine (scalar_width.calls (rd t197 0) t214 _ A34.out).mono ?_); rintro e w' ⟨rfl, ⟨nd, rfl⟩⟩; (try first | exact qd1_ | exact qd2_)) | (go_at_call 31; (with_reducible refine (scalar_work.calls kj27 a0 t214 ((rd_T33 t208 0).f1) x14_27 t215 t216 _ A35.out).mono ?_); rintro e w40 ⟨rfl, hb⟩; have n0_ := Aside0.mk (Kd.R_below (rl_ HO_8) hb); have n1_ := Aside0.mk (Kd.R_below (rl_ HO_9) hb); have n2_ := Aside0.mk (blk_below (g := gb196) (o := .cells #[.int .i64 x197000_1, .int .u64 x197001_1, .int .u64 x197002_1, .bool x197003_1] 33 (0, 0)) (by (with_reducible repeat (first | refine blk_drewN ?_ _ | refine blk_drew ?_ | refine blk_alloc ?_ _)); exact BK196.out) hb); have n3_ := Aside0.mk (below_step bs_ hb); clear HO_8; clear HO_9; clear BK196; clear HB; have HO_8 := n0_; have HO_9 := n1_; have BK196 := n2_; have HB := n3_; clear n0_ n1_ n2_ n3_; (try clear hb); (try clear hb2); (try clear hk); (try clear hi); obtain ⟨Ao41, co41, eo41⟩ := Kd.R_slice HO_9.out; subst eo41; have p217 : 0 ≤ (0 : Int) := (by omega); have q217 : 0 < (t198.length : Int) := od_; obtain ⟨ad217, e217, hx217_0⟩ := Kd.at_int (Kd.R_reads' HO_9.out).2.2 0 p217 q217; cases e217; have qi217 : (0 < t198.length) = True := eq_true (by omega); (try rw [show ((0 : Int)).toNat = 0 from rfl] at hx217_0); (try rw [Addr.add_zero'] at hx217_0); replace p217 := eq_true p217; replace q217 := eq_true q217) | ((with_reducible refine gate_dst (N := 97) rfl ?_); (try (refine gate_guard (by rfl) ?_; dsimp only)); refine Kd.R_lit k33 _ 33 ?hg (N := 97) ?hd (xs := ([(⟨rd t198 0, t215, 0, false⟩ : S33)] : List (S33))) (inner := [.int .i64 (rd t198 0), .int .u64 t215, .int .u64 0, .bool false]) (ok := fun _ => True) (okp := fun _ => True) ?hr ?hp (fun _ hk => hk) trivial (Below.refl _ _) (Nat.le_refl _) (by simp) ?_; (case hd => rfl); (case hg => rfl); (case hr => first | (go_simp; done) | (go_simp; rfl)); (case hp => exact (Reps.c4 (show Kd.M k33 _ _ _ (⟨rd t198 0, t215, 0, false⟩ : S33) [.int .i64 (rd t198 0), .int .u64 t215, .int .u64 0, .bool false] from (k33_mkM _ _ _ (⟨rd t198 0, t215, 0, false⟩ : S33) )) (Reps.none _ _))); intro v219 w42 ho43 hb hg_ hnew_; clear hg_ hnew_; (first | rw [← Ny218.out] at ho43 | (simp only [Int.reduceToNat] at ho43; rw [← Ny218.out] at ho43)); have n0_ := Aside0.mk (Kd.R_below (rl_ HO_8) hb); have n1_ := Aside0.mk (Kd.R_below (rl_ HO_9) hb); have n2_ := Aside0.mk (Kd.R_lower (Kd.R_newB ho43 (g := gb196) (o := .cells #[.int .i64 x197000_1, .int .u64 x197001_1, .int .u64 x197002_1, .bool x197003_1] 33 (0, 0)) (by (with_reducible repeat (first | refine blk_drewN ?_ _ | refine blk_drew ?_ | refine blk_alloc ?_ _)); exact BK196.out)) (below_size bs_)); have n3_ := Aside0.mk (blk_below (g := gb196) (o := .cells #[.int .i64 x197000_1, .int .u64 x197001_1, .int .u64 x197002_1, .bool x197003_1] 33 (0, 0)) (by (with_reducible repeat (first | refine blk_drewN ?_ _ | refine blk_drew ?_ | refine blk_alloc ?_ _)); exact BK196.out) hb); have n4_ := Aside0.mk (below_step bs_ hb); clear HO_8; clear HO_9; clear BK196; clear HB; have HO_8 := n0_; have HO_9 := n1_; have HO220 := n2_; have BK196 := n3_; have HB := n4_; clear n0_ n1_ n2_ n3_ n4_; clear hb ho43; obtain ⟨Ao44, co44, eo44⟩ := Kd.R_slice HO220.out; subst eo44) | (go_at_call 29; (with_reducible refine (scalar_clean.calls kj27 _ _ y218 t221 _ ?side1 ?side2 A38.out).mono ?_); (case side1 => repeat (first | exact (Kd.R_reads' HO220.out).2.2 | (with_reducible refine Kd.C_alloc ?_ _) | (with_reducible refine Kd.C_drewN ?_ _) | (with_reducible refine Kd.C_drew ?_))); (case side2 => exact (Kd.R_reads' HO220.out).2.1); rintro e w45 ⟨v222, rfl, ho0, hb⟩; have n0_ := Aside0.mk (Kd.R_below (rl_ HO_8) hb); have n1_ := Aside0.mk (Kd.R_below (rl_ HO_9) hb); have n2_ := Aside0.mk (Kd.R_elder' (rl_ HO220) (Kd.R_base ho0) hb); have n3_ := Aside0.mk (Kd.R_lower (Kd.R_newB (Kd.R_new' ho0 (Kd.R_lt (rl_ HO220))) (g := gb196) (o := .cells #[.int .i64 x197000_1, .int .u64 x197001_1, .int .u64 x197002_1, .bool x197003_1] 33 (0, 0)) (by (with_reducible repeat (first | refine blk_drewN ?_ _ | refine blk_drew ?_ | refine blk_alloc ?_ _)); exact BK196.out)) (below_size bs_)); have n4_ := Aside0.mk (blk_below (g := gb196) (o := .cells #[.int .i64 x197000_1, .int .u64 x197001_1, .int .u64 x197002_1, .bool x197003_1] 33 (0, 0)) (by (with_reducible repeat (first | refine blk_drewN ?_ _ | refine blk_drew ?_ | refine blk_alloc ?_ _)); exact BK196.out) hb); have n5_ := Aside0.mk (below_step bs_ hb); clear HO_8; clear HO_9; clear HO220; clear BK196; clear HB; have HO_8 := n0_; have HO_9 := n1_; have HO220 := n2_; have HO223 := n3_; have BK196 := n4_; have HB := n5_; clear n0_ n1_ n2_ n3_ n4_ n5_; (try clear hb); (try clear hb2); (try clear hk); (try clear hi); (try clear ho0); obtain ⟨Ao46, co46, eo46⟩ := Kd.R_slice HO223.out; subst eo46; have p224 : 0 ≤ (0 : Int) := (by omega); have q224 : 0 < (t221.length : Int) := od_; obtain ⟨ad224, e224, hx224_0, hx224_1, hx224_2, hx224_3⟩ := at_T33 (Kd.R_reads' HO223.out).2.2 0 p224 q224; cases e224; have qi224 : (0 < t221.length) = True := eq_true (by omega); (try rw [show ((0 : Int)).toNat = 0 from rfl] at hx224_0); (try rw [show 0 * 4 = 0 from rfl] at hx224_0); (try rw [Addr.add_zero'] at hx224_0); (try rw [show ((0 : Int)).toNat = 0 from rfl] at hx224_1); (try rw [show 0 * 4 = 0 from rfl] at hx224_1); (try rw [Addr.add_zero'] at hx224_1); (try rw [show ((0 : Int)).toNat = 0 from rfl] at hx224_2); (try rw [show 0 * 4 = 0 from rfl] at hx224_2); (try rw [Addr.add_zero'] at hx224_2); (try rw [show ((0 : Int)).toNat = 0 from rfl] at hx224_3); (try rw [show 0 * 4 = 0 from rfl] at hx224_3); (try rw [Addr.add_zero'] at hx224_3); replace p224 := eq_true p224; replace q224 := eq_true q224; have hcz47_0 : w45.cell? ⟨gb196, 0, none⟩ = some (.int .i64 x197000_1) := (blk_cell BK196.out 0).trans rfl; have hcz47_1 : w45.cell? ⟨gb196, 1, none⟩ = some (.int .u64 x197001_1) := (blk_cell BK196.out 1).trans rfl; have hcz47_2 : w45.cell? ⟨gb196, 2, none⟩ = some (.int .u64 x197002_1) := (blk_cell BK196.out 2).trans rfl; have hcz47_3 : w45.cell? ⟨gb196, 3, none⟩ = some (.bool x197003_1) := (blk_cell BK196.out 3).trans rfl; have hfz47_0 := blk_frozen BK196.out 0; have hfz47_1 := blk_frozen BK196.out 1; have hfz47_2 := blk_frozen BK196.out 2; have hfz47_3 := blk_frozen BK196.out 3)))
               refine bodyPost_ret (results_ct rfl _ _ gb196 33 #[.int .i64 ((rd_T33 t221 0).f0), .int .u64 ((rd_T33 t221 0).f1), .int .u64 ((rd_T33 t221 0).f2), .bool ((rd_T33 t221 0).f3)] (0, 0) _ rfl (by (with_reducible repeat (first | refine blk_drewN ?_ _ | refine blk_drew ?_ | refine blk_alloc ?_ _)); refine blk_put (cs := #[.int .i64 ((rd_T33 t221 0).f0), .int .u64 ((rd_T33 t221 0).f1), .int .u64 ((rd_T33 t221 0).f2), .bool x197003_1]) ?_ 3 _ rfl; (with_reducible repeat (first | refine blk_drewN ?_ _ | refine blk_drew ?_ | refine blk_alloc ?_ _)); refine blk_put (cs := #[.int .i64 ((rd_T33 t221 0).f0), .int .u64 ((rd_T33 t221 0).f1), .int .u64 x197002_1, .bool x197003_1]) ?_ 2 _ rfl; (with_reducible repeat (first | refine blk_drewN ?_ _ | refine blk_drew ?_ | refine blk_alloc ?_ _)); refine blk_put (cs := #[.int .i64 ((rd_T33 t221 0).f0), .int .u64 x197001_1, .int .u64 x197002_1, .bool x197003_1]) ?_ 1 _ rfl; (with_reducible repeat (first | refine blk_drewN ?_ _ | refine blk_drew ?_ | refine blk_alloc ?_ _)); refine blk_put (cs := #[.int .i64 x197000_1, .int .u64 x197001_1, .int .u64 x197002_1, .bool x197003_1]) ?_ 0 _ rfl; (with_reducible repeat (first | refine blk_drewN ?_ _ | refine blk_drew ?_ | refine blk_alloc ?_ _)); exact BK196.out) Tryz.underlying33 rfl (by kernel_rfl)) rfl ?_
               exact ⟨er_, bs_⟩
              ·rw [if_neg c39] at H
               exact absurd H (by simp)
             ·rw [if_neg c37] at H
              exact absurd H (by simp)
            ·rw [if_neg c36] at H
             have c36b0 : (t216 == 0) = false := beq_eq_false_iff_ne.mpr c36
             have c36b1 : (t216 != 0) = true := bne_iff_ne.mpr c36
             simp only [Option.some.injEq, Prod.mk.injEq] at H
             obtain ⟨rfl, rfl, rfl, rfl, rfl⟩ := H
             have p213 : 0 ≤ (0 : Int) := (by omega)
             have q213 : 0 < (t197.length : Int) := od_
             try (obtain ⟨ga_, ca_, hva_, _, _⟩ := Kd.R_reads HO_8.out; subst hva_)
             obtain ⟨ad213, e213, hx213_0⟩ := Kd.at_int (Kd.R_reads' HO_8.out).2.2 0 p213 q213
             cases e213
             have qi213 : (0 < t197.length) = True := eq_true (by omega)
             (try rw [show ((0 : Int)).toNat = 0 from rfl] at hx213_0)
             (try rw [Addr.add_zero'] at hx213_0)
             replace p213 := eq_true p213
             replace q213 := eq_true q213
             go_wp2_with (first | (go_at_call 32; (with_reducible refine (scalar_width.calls (rd t197 0) t214 _ A34.out).mono ?_); rintro e w' ⟨rfl, ⟨nd, rfl⟩⟩; (try first | exact qd1_ | exact qd2_)) | (go_at_call 31; (with_reducible refine (scalar_work.calls kj27 a0 t214 ((rd_T33 t208 0).f1) x14_27 t215 t216 _ A35.out).mono ?_); rintro e w48 ⟨rfl, hb⟩; have n0_ := Aside0.mk (Kd.R_below (rl_ HO_8) hb); have n1_ := Aside0.mk (Kd.R_below (rl_ HO_9) hb); have n2_ := Aside0.mk (blk_below (g := gb196) (o := .cells #[.int .i64 x197000_1, .int .u64 x197001_1, .int .u64 x197002_1, .bool x197003_1] 33 (0, 0)) (by (with_reducible repeat (first | refine blk_drewN ?_ _ | refine blk_drew ?_ | refine blk_alloc ?_ _)); exact BK196.out) hb); have n3_ := Aside0.mk (below_step bs_ hb); clear HO_8; clear HO_9; clear BK196; clear HB; have HO_8 := n0_; have HO_9 := n1_; have BK196 := n2_; have HB := n3_; clear n0_ n1_ n2_ n3_; (try clear hb); (try clear hb2); (try clear hk); (try clear hi); have hcz49_0 : w48.cell? ⟨gb196, 0, none⟩ = some (.int .i64 x197000_1) := (blk_cell BK196.out 0).trans rfl; have hcz49_1 : w48.cell? ⟨gb196, 1, none⟩ = some (.int .u64 x197001_1) := (blk_cell BK196.out 1).trans rfl; have hcz49_2 : w48.cell? ⟨gb196, 2, none⟩ = some (.int .u64 x197002_1) := (blk_cell BK196.out 2).trans rfl; have hcz49_3 : w48.cell? ⟨gb196, 3, none⟩ = some (.bool x197003_1) := (blk_cell BK196.out 3).trans rfl; have hfz49_0 := blk_frozen BK196.out 0; have hfz49_1 := blk_frozen BK196.out 1; have hfz49_2 := blk_frozen BK196.out 2; have hfz49_3 := blk_frozen BK196.out 3))
             repeat (go_quiet (first | (go_at_call 32; (with_reducible refine (scalar_width.calls (rd t197 0) t214 _ A34.out).mono ?_); rintro e w' ⟨rfl, ⟨nd, rfl⟩⟩; (try first | exact qd1_ | exact qd2_))); try go_wp2_with (first | (go_at_call 32; (with_reducible refine (scalar_width.calls (rd t197 0) t214 _ A34.out).mono ?_); rintro e w' ⟨rfl, ⟨nd, rfl⟩⟩; (try first | exact qd1_ | exact qd2_)) | (go_at_call 31; (with_reducible refine (scalar_work.calls kj27 a0 t214 ((rd_T33 t208 0).f1) x14_27 t215 t216 _ A35.out).mono ?_); rintro e w48 ⟨rfl, hb⟩; have n0_ := Aside0.mk (Kd.R_below (rl_ HO_8) hb); have n1_ := Aside0.mk (Kd.R_below (rl_ HO_9) hb); have n2_ := Aside0.mk (blk_below (g := gb196) (o := .cells #[.int .i64 x197000_1, .int .u64 x197001_1, .int .u64 x197002_1, .bool x197003_1] 33 (0, 0)) (by (with_reducible repeat (first | refine blk_drewN ?_ _ | refine blk_drew ?_ | refine blk_alloc ?_ _)); exact BK196.out) hb); have n3_ := Aside0.mk (below_step bs_ hb); clear HO_8; clear HO_9; clear BK196; clear HB; have HO_8 := n0_; have HO_9 := n1_; have BK196 := n2_; have HB := n3_; clear n0_ n1_ n2_ n3_; (try clear hb); (try clear hb2); (try clear hk); (try clear hi); have hcz49_0 : w48.cell? ⟨gb196, 0, none⟩ = some (.int .i64 x197000_1) := (blk_cell BK196.out 0).trans rfl; have hcz49_1 : w48.cell? ⟨gb196, 1, none⟩ = some (.int .u64 x197001_1) := (blk_cell BK196.out 1).trans rfl; have hcz49_2 : w48.cell? ⟨gb196, 2, none⟩ = some (.int .u64 x197002_1) := (blk_cell BK196.out 2).trans rfl; have hcz49_3 : w48.cell? ⟨gb196, 3, none⟩ = some (.bool x197003_1) := (blk_cell BK196.out 3).trans rfl; have hfz49_0 := blk_frozen BK196.out 0; have hfz49_1 := blk_frozen BK196.out 1; have hfz49_2 := blk_frozen BK196.out 2; have hfz49_3 := blk_frozen BK196.out 3)))
             refine bodyPost_ret (results_ct rfl _ _ gb196 33 #[.int .i64 0, .int .u64 0, .int .u64 0, .bool false] (0, 0) _ rfl (by (with_reducible repeat (first | refine blk_drewN ?_ _ | refine blk_drew ?_ | refine blk_alloc ?_ _)); refine blk_put (cs := #[.int .i64 0, .int .u64 0, .int .u64 0, .bool x197003_1]) ?_ 3 _ rfl; (with_reducible repeat (first | refine blk_drewN ?_ _ | refine blk_drew ?_ | refine blk_alloc ?_ _)); refine blk_put (cs := #[.int .i64 0, .int .u64 0, .int .u64 x197002_1, .bool x197003_1]) ?_ 2 _ rfl; (with_reducible repeat (first | refine blk_drewN ?_ _ | refine blk_drew ?_ | refine blk_alloc ?_ _)); refine blk_put (cs := #[.int .i64 0, .int .u64 x197001_1, .int .u64 x197002_1, .bool x197003_1]) ?_ 1 _ rfl; (with_reducible repeat (first | refine blk_drewN ?_ _ | refine blk_drew ?_ | refine blk_alloc ?_ _)); refine blk_put (cs := #[.int .i64 x197000_1, .int .u64 x197001_1, .int .u64 x197002_1, .bool x197003_1]) ?_ 0 _ rfl; (with_reducible repeat (first | refine blk_drewN ?_ _ | refine blk_drew ?_ | refine blk_alloc ?_ _)); exact BK196.out) Tryz.underlying33 rfl (by kernel_rfl)) rfl ?_
             exact ⟨er_, bs_⟩
           ·rw [if_neg c33] at H
            exact absurd H (by simp)
        ·rw [if_neg c27] at H
         exact absurd H (by simp)
    ·rw [if_neg c9] at H
     have c9b0 : ((l2.length : Int) == (t197.length : Int)) = false := beq_eq_false_iff_ne.mpr c9
     have c9b1 : ((l2.length : Int) != (t197.length : Int)) = true := bne_iff_ne.mpr c9
     have c9b2 : (l2.length == t197.length) = false := by first | simpa using c9 | (simp at c9 ⊢; omega)
     simp only [Option.some.injEq, Prod.mk.injEq] at H
     obtain ⟨rfl, rfl, rfl, rfl, rfl⟩ := H
     go_enter Tryz.func16, Tryz.ntmps16
     go_wp2_with (first | ((with_reducible refine gate_dst (N := 6) rfl ?_); (try (refine gate_guard (by rfl) ?_; dsimp only)); refine box_event ?hg (N := 6) ?hd (cs := #[.int .i64 0, .int .u64 0, .int .u64 0, .bool false]) (t := 33) ?hr ?_; (case hd => rfl); (case hg => rfl); (case hr => first | (go_simp; done) | (go_simp; rfl)); intro gb196 hg w50 hbox hb; have n0_ := Aside0.mk (below_step bl_ hb); have n1_ := Aside0.mk (hbox); have n2_ := Aside0.mk ((by rw [hg]; exact (below_size bl_) : w.heap.size ≤ gb196)); have n3_ := Aside0.mk ((by rw [hg]; exact (below_size bl_) : w.heap.size ≤ gb196)); clear HB; have HB := n0_; have BK196 := n1_; have GW196 := n2_; have GE196 := n3_; clear n0_ n1_ n2_ n3_; clear hb hbox hg) | (go_at_call 30; (with_reducible refine (ops_Sign.calls a0 t197 t198 t199 _ A5.out).mono ?_); rintro e w51 ⟨v200, v202, rfl, ho0, ho1, hb⟩; have n0_ := Aside0.mk (Kd.R_lower ho0 (below_size bs_)); have n1_ := Aside0.mk (Kd.R_lower ho1 (below_size bs_)); have n2_ := Aside0.mk (blk_below (g := gb196) (o := .cells #[.int .i64 0, .int .u64 0, .int .u64 0, .bool false] 33 (0, 0)) (by (with_reducible repeat (first | refine blk_drewN ?_ _ | refine blk_drew ?_ | refine blk_alloc ?_ _)); exact BK196.out) hb); have n3_ := Aside0.mk (below_step bs_ hb); clear BK196; clear HB; have HO201 := n0_; have HO203 := n1_; have BK196 := n2_; have HB := n3_; clear n0_ n1_ n2_ n3_; (try clear hb); (try clear hb2); (try clear hk); (try clear hi); (try clear ho0); (try clear ho1)) | (go_at_call 14; (with_reducible refine (scalar_Numeric.calls a0 true _ A6.out).mono ?_); rintro e w52 ⟨rfl, hb⟩; have n0_ := Aside0.mk (Kd.R_below (rl_ HO201) hb); have n1_ := Aside0.mk (Kd.R_below (rl_ HO203) hb); have n2_ := Aside0.mk (blk_below (g := gb196) (o := .cells #[.int .i64 0, .int .u64 0, .int .u64 0, .bool false] 33 (0, 0)) (by (with_reducible repeat (first | refine blk_drewN ?_ _ | refine blk_drew ?_ | refine blk_alloc ?_ _)); exact BK196.out) hb); have n3_ := Aside0.mk (below_step bs_ hb); clear HO201; clear HO203; clear BK196; clear HB; have HO201 := n0_; have HO203 := n1_; have BK196 := n2_; have HB := n3_; clear n0_ n1_ n2_ n3_; (try clear hb); (try clear hb2); (try clear hk); (try clear hi); obtain ⟨Ao53, co53, eo53⟩ := Kd.R_slice HO201.out; subst eo53; have hcz54_0 : w52.cell? ⟨gb196, 0, none⟩ = some (.int .i64 0) := (blk_cell BK196.out 0).trans rfl; have hcz54_1 : w52.cell? ⟨gb196, 1, none⟩ = some (.int .u64 0) := (blk_cell BK196.out 1).trans rfl; have hcz54_2 : w52.cell? ⟨gb196, 2, none⟩ = some (.int .u64 0) := (blk_cell BK196.out 2).trans rfl; have hcz54_3 : w52.cell? ⟨gb196, 3, none⟩ = some (.bool false) := (blk_cell BK196.out 3).trans rfl; have hfz54_0 := blk_frozen BK196.out 0; have hfz54_1 := blk_frozen BK196.out 1; have hfz54_2 := blk_frozen BK196.out 2; have hfz54_3 := blk_frozen BK196.out 3))
     repeat (go_quiet (fail); try go_wp2_with (first | ((with_reducible refine gate_dst (N := 6) rfl ?_); (try (refine gate_guard (by rfl) ?_; dsimp only)); refine box_event ?hg (N := 6) ?hd (cs := #[.int .i64 0, .int .u64 0, .int .u64 0, .bool false]) (t := 33) ?hr ?_; (case hd => rfl); (case hg => rfl); (case hr => first | (go_simp; done) | (go_simp; rfl)); intro gb196 hg w50 hbox hb; have n0_ := Aside0.mk (below_step bl_ hb); have n1_ := Aside0.mk (hbox); have n2_ := Aside0.mk ((by rw [hg]; exact (below_size bl_) : w.heap.size ≤ gb196)); have n3_ := Aside0.mk ((by rw [hg]; exact (below_size bl_) : w.heap.size ≤ gb196)); clear HB; have HB := n0_; have BK196 := n1_; have GW196 := n2_; have GE196 := n3_; clear n0_ n1_ n2_ n3_; clear hb hbox hg) | (go_at_call 30; (with_reducible refine (ops_Sign.calls a0 t197 t198 t199 _ A5.out).mono ?_); rintro e w51 ⟨v200, v202, rfl, ho0, ho1, hb⟩; have n0_ := Aside0.mk (Kd.R_lower ho0 (below_size bs_)); have n1_ := Aside0.mk (Kd.R_lower ho1 (below_size bs_)); have n2_ := Aside0.mk (blk_below (g := gb196) (o := .cells #[.int .i64 0, .int .u64 0, .int .u64 0, .bool false] 33 (0, 0)) (by (with_reducible repeat (first | refine blk_drewN ?_ _ | refine blk_drew ?_ | refine blk_alloc ?_ _)); exact BK196.out) hb); have n3_ := Aside0.mk (below_step bs_ hb); clear BK196; clear HB; have HO201 := n0_; have HO203 := n1_; have BK196 := n2_; have HB := n3_; clear n0_ n1_ n2_ n3_; (try clear hb); (try clear hb2); (try clear hk); (try clear hi); (try clear ho0); (try clear ho1)) | (go_at_call 14; (with_reducible refine (scalar_Numeric.calls a0 true _ A6.out).mono ?_); rintro e w52 ⟨rfl, hb⟩; have n0_ := Aside0.mk (Kd.R_below (rl_ HO201) hb); have n1_ := Aside0.mk (Kd.R_below (rl_ HO203) hb); have n2_ := Aside0.mk (blk_below (g := gb196) (o := .cells #[.int .i64 0, .int .u64 0, .int .u64 0, .bool false] 33 (0, 0)) (by (with_reducible repeat (first | refine blk_drewN ?_ _ | refine blk_drew ?_ | refine blk_alloc ?_ _)); exact BK196.out) hb); have n3_ := Aside0.mk (below_step bs_ hb); clear HO201; clear HO203; clear BK196; clear HB; have HO201 := n0_; have HO203 := n1_; have BK196 := n2_; have HB := n3_; clear n0_ n1_ n2_ n3_; (try clear hb); (try clear hb2); (try clear hk); (try clear hi); obtain ⟨Ao53, co53, eo53⟩ := Kd.R_slice HO201.out; subst eo53; have hcz54_0 : w52.cell? ⟨gb196, 0, none⟩ = some (.int .i64 0) := (blk_cell BK196.out 0).trans rfl; have hcz54_1 : w52.cell? ⟨gb196, 1, none⟩ = some (.int .u64 0) := (blk_cell BK196.out 1).trans rfl; have hcz54_2 : w52.cell? ⟨gb196, 2, none⟩ = some (.int .u64 0) := (blk_cell BK196.out 2).trans rfl; have hcz54_3 : w52.cell? ⟨gb196, 3, none⟩ = some (.bool false) := (blk_cell BK196.out 3).trans rfl; have hfz54_0 := blk_frozen BK196.out 0; have hfz54_1 := blk_frozen BK196.out 1; have hfz54_2 := blk_frozen BK196.out 2; have hfz54_3 := blk_frozen BK196.out 3)))
     refine bodyPost_ret (results_ct rfl _ _ gb196 33 #[.int .i64 0, .int .u64 0, .int .u64 0, .bool false] (0, 0) _ rfl (by (with_reducible repeat (first | refine blk_drewN ?_ _ | refine blk_drew ?_ | refine blk_alloc ?_ _)); refine blk_put (cs := #[.int .i64 0, .int .u64 0, .int .u64 0, .bool false]) ?_ 3 _ rfl; (with_reducible repeat (first | refine blk_drewN ?_ _ | refine blk_drew ?_ | refine blk_alloc ?_ _)); refine blk_put (cs := #[.int .i64 0, .int .u64 0, .int .u64 0, .bool false]) ?_ 2 _ rfl; (with_reducible repeat (first | refine blk_drewN ?_ _ | refine blk_drew ?_ | refine blk_alloc ?_ _)); refine blk_put (cs := #[.int .i64 0, .int .u64 0, .int .u64 0, .bool false]) ?_ 1 _ rfl; (with_reducible repeat (first | refine blk_drewN ?_ _ | refine blk_drew ?_ | refine blk_alloc ?_ _)); refine blk_put (cs := #[.int .i64 0, .int .u64 0, .int .u64 0, .bool false]) ?_ 0 _ rfl; (with_reducible repeat (first | refine blk_drewN ?_ _ | refine blk_drew ?_ | refine blk_alloc ?_ _)); exact BK196.out) Tryz.underlying33 rfl (by kernel_rfl)) rfl ?_
     exact ⟨er_, bs_⟩
  ·replace c7 := Bool.eq_false_iff.mpr c7
   subst c7
   have H1 : (none) = some (r1, r2, r3, r4, r5) := by rw [if_neg (show ¬ (false = true) by decide)] at H; exact H
   clear H
   have H := H1
   clear H1
   exact absurd H (by simp)
end Go.Proofs.YtkhhhceeoljheaaGreatDoor.PSta

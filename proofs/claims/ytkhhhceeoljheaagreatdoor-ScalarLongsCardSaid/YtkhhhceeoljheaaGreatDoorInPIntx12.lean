import Derived.Test.YtkhhhceeoljheaaGreatDoorInPIntx10
namespace Go.Proofs.YtkhhhceeoljheaaGreatDoor.PInt
open Go.RowKit Go.Proofs.YtkhhhceeoljheaaGreatDoorW.PrintWords Go.Proofs.YtkhhhceeoljheaaGreatDoorW.PrintLast Go.Proofs.YtkhhhceeoljheaaGreatDoorW.PrintMore
attribute [local go_sem] max2_int min2_int max_two min_two max_three min_three max_four min_four   
set_option linter.unusedVariables false
set_option linter.unusedSimpArgs false
mutual
def bodkinref02_moved.l0 : Nat → Int → Int → Int → List Int → List Int → Int → Option (Int)
 | 0, _, _, _, _, _, _ => none
 | k + 1, x0, x1, x3, x9, x10, x11 => if x11 < x0 then (if x1 = 12 then (bodkinref02_moved.j1 k x0 x1 x3 x9 x10 x11 (wrap64 (x11 - x3)) true) else (if x1 = 13 then (bodkinref02_moved.j1 k x0 x1 x3 x9 x10 x11 (wrap64 (x11 - x3)) true) else (bodkinref02_moved.j1 k x0 x1 x3 x9 x10 x11 (wrap64 (x11 - x3)) (x1 == 15)))) else ((bodkinref02_of.f k x10).bind fun t295 => (some t295))
def bodkinref02_moved.j1 : Nat → Int → Int → Int → List Int → List Int → Int → Int → Bool → Option (Int)
 | 0, _, _, _, _, _, _, _, _ => none
 | k + 1, x0, x1, x3, x9, x10, x11, x12, x36 => if x36 = true then (bodkinref02_moved.j2 k x0 x1 x3 x9 x10 x11 (wrap64 (x11 + x3))) else (bodkinref02_moved.j2 k x0 x1 x3 x9 x10 x11 x12)
def bodkinref02_moved.j2 : Nat → Int → Int → Int → List Int → List Int → Int → Int → Option (Int)
 | 0, _, _, _, _, _, _, _ => none
 | k + 1, x0, x1, x3, x9, x10, x11, x12 => if x0 = 0 then (none) else (if x1 = 14 then (bodkinref02_moved.j3 k x0 x1 x3 x9 x10 x11 x12 (Int.tmod (wrap64 (x12 + x0)) x0) x1 (x1 == 14)) else (bodkinref02_moved.j3 k x0 x1 x3 x9 x10 x11 x12 (Int.tmod (wrap64 (x12 + x0)) x0) x1 (x1 == 15)))
def bodkinref02_moved.j3 : Nat → Int → Int → Int → List Int → List Int → Int → Int → Int → Int → Bool → Option (Int)
 | 0, _, _, _, _, _, _, _, _, _, _ => none
 | k + 1, x0, x1, x3, x9, x10, x11, x12, x13, x45, x60 => if x60 = true then (if 0 ≤ x13 then (if x13 < (x9.length : Int) then (if 0 ≤ x11 then (if x11 < (x10.length : Int) then (bodkinref02_moved.l0 k x0 x1 x3 x9 (x10.set (x11 : Int).toNat (rd x9 x13)) (wrap64 (x11 + 1))) else (none)) else (none)) else (none)) else (none)) else (if x45 = 12 then (if x12 ≥ x0 then (if 0 ≤ (wrap64 (x0 - 1)) then (if (wrap64 (x0 - 1)) < (x9.length : Int) then (if 0 ≤ x11 then (if x11 < (x10.length : Int) then (bodkinref02_moved.l0 k x0 x1 x3 x9 (x10.set (x11 : Int).toNat (rd x9 (wrap64 (x0 - 1)))) (wrap64 (x11 + 1))) else (none)) else (none)) else (none)) else (none)) else (if 0 ≤ x12 then (if x12 < (x9.length : Int) then (if 0 ≤ x11 then (if x11 < (x10.length : Int) then (bodkinref02_moved.l0 k x0 x1 x3 x9 (x10.set (x11 : Int).toNat (rd x9 x12)) (wrap64 (x11 + 1))) else (none)) else (none)) else (none)) else (none))) else (if x12 ≥ 0 then (if x12 < x0 then (if 0 ≤ x12 then (if x12 < (x9.length : Int) then (if 0 ≤ x11 then (if x11 < (x10.length : Int) then (bodkinref02_moved.l0 k x0 x1 x3 x9 (x10.set (x11 : Int).toNat (rd x9 x12)) (wrap64 (x11 + 1))) else (none)) else (none)) else (none)) else (none)) else (bodkinref02_moved.l0 k x0 x1 x3 x9 x10 (wrap64 (x11 + 1)))) else (bodkinref02_moved.l0 k x0 x1 x3 x9 x10 (wrap64 (x11 + 1)))))
end
def bodkinref02_moved.f (k : Nat) (a0 : Int) (a1 : Int) (a2 : Int) (a3 : Int) : Option (Int) := (bodkinref02_list.f k a0 a2).bind fun t289 => (if 0 ≤ a0 then (if (a0 : Int).toNat ≤ 35184372088832 then (bodkinref02_moved.l0 k a0 a1 a3 t289 (List.replicate (a0 : Int).toNat 0) 0) else (none)) else (none))
theorem bodkinref02_moved.mono_l : ∀ k, (∀ y0 y1 y2 y3 y4 y5, LeO (bodkinref02_moved.l0 k y0 y1 y2 y3 y4 y5) (bodkinref02_moved.l0 (k + 1) y0 y1 y2 y3 y4 y5)) ∧ (∀ y0 y1 y2 y3 y4 y5 y6 y7, LeO (bodkinref02_moved.j1 k y0 y1 y2 y3 y4 y5 y6 y7) (bodkinref02_moved.j1 (k + 1) y0 y1 y2 y3 y4 y5 y6 y7)) ∧ (∀ y0 y1 y2 y3 y4 y5 y6, LeO (bodkinref02_moved.j2 k y0 y1 y2 y3 y4 y5 y6) (bodkinref02_moved.j2 (k + 1) y0 y1 y2 y3 y4 y5 y6)) ∧ (∀ y0 y1 y2 y3 y4 y5 y6 y7 y8 y9, LeO (bodkinref02_moved.j3 k y0 y1 y2 y3 y4 y5 y6 y7 y8 y9) (bodkinref02_moved.j3 (k + 1) y0 y1 y2 y3 y4 y5 y6 y7 y8 y9))
 | 0 => ⟨fun _ _ _ _ _ _ r h => by simp [bodkinref02_moved.l0] at h, fun _ _ _ _ _ _ _ _ r h => by simp [bodkinref02_moved.j1] at h, fun _ _ _ _ _ _ _ r h => by simp [bodkinref02_moved.j2] at h, fun _ _ _ _ _ _ _ _ _ _ r h => by simp [bodkinref02_moved.j3] at h⟩
 | k + 1 => by
  obtain ⟨ih0, ih1, ih2, ih3⟩ := bodkinref02_moved.mono_l k
  refine ⟨?_, ?_, ?_, ?_⟩
  ·intro y0 y1 y2 y3 y4 y5
   unfold bodkinref02_moved.l0
   repeat' first
   | (with_reducible exact ih0 _ _ _ _ _ _)
   | (with_reducible exact ih1 _ _ _ _ _ _ _ _)
   | (with_reducible exact ih2 _ _ _ _ _ _ _)
   | (with_reducible exact ih3 _ _ _ _ _ _ _ _ _ _)
   | (with_reducible exact bodkinref02_list.mono _ _ _)
   | (with_reducible exact bodkinref02_of.mono _ _)
   | (with_reducible exact LeO.refl _)
   | (with_reducible exact LeO.none _)
   | (with_reducible refine LeO.ite ?_ ?_)
   | (with_reducible refine LeO.bind ?_ (fun _ => ?_))
   | exact ih0 _ _ _ _ _ _
   | exact ih1 _ _ _ _ _ _ _ _
   | exact ih2 _ _ _ _ _ _ _
   | exact ih3 _ _ _ _ _ _ _ _ _ _
   | exact bodkinref02_list.mono _ _ _
   | exact bodkinref02_of.mono _ _
   | exact LeO.none _
   | refine LeO.ite ?_ ?_
   | refine LeO.bind ?_ (fun _ => ?_)
  ·intro y0 y1 y2 y3 y4 y5 y6 y7
   unfold bodkinref02_moved.j1
   repeat' first
   | (with_reducible exact ih0 _ _ _ _ _ _)
   | (with_reducible exact ih1 _ _ _ _ _ _ _ _)
   | (with_reducible exact ih2 _ _ _ _ _ _ _)
   | (with_reducible exact ih3 _ _ _ _ _ _ _ _ _ _)
   | (with_reducible exact bodkinref02_list.mono _ _ _)
   | (with_reducible exact bodkinref02_of.mono _ _)
   | (with_reducible exact LeO.refl _)
   | (with_reducible exact LeO.none _)
   | (with_reducible refine LeO.ite ?_ ?_)
   | (with_reducible refine LeO.bind ?_ (fun _ => ?_))
   | exact ih0 _ _ _ _ _ _
   | exact ih1 _ _ _ _ _ _ _ _
   | exact ih2 _ _ _ _ _ _ _
   | exact ih3 _ _ _ _ _ _ _ _ _ _
   | exact bodkinref02_list.mono _ _ _
   | exact bodkinref02_of.mono _ _
   | exact LeO.none _
   | refine LeO.ite ?_ ?_
   | refine LeO.bind ?_ (fun _ => ?_)
  ·intro y0 y1 y2 y3 y4 y5 y6
   unfold bodkinref02_moved.j2
   repeat' first
   | (with_reducible exact ih0 _ _ _ _ _ _)
   | (with_reducible exact ih1 _ _ _ _ _ _ _ _)
   | (with_reducible exact ih2 _ _ _ _ _ _ _)
   | (with_reducible exact ih3 _ _ _ _ _ _ _ _ _ _)
   | (with_reducible exact bodkinref02_list.mono _ _ _)
   | (with_reducible exact bodkinref02_of.mono _ _)
   | (with_reducible exact LeO.refl _)
   | (with_reducible exact LeO.none _)
   | (with_reducible refine LeO.ite ?_ ?_)
   | (with_reducible refine LeO.bind ?_ (fun _ => ?_))
   | exact ih0 _ _ _ _ _ _
   | exact ih1 _ _ _ _ _ _ _ _
   | exact ih2 _ _ _ _ _ _ _
   | exact ih3 _ _ _ _ _ _ _ _ _ _
   | exact bodkinref02_list.mono _ _ _
   | exact bodkinref02_of.mono _ _
   | exact LeO.none _
   | refine LeO.ite ?_ ?_
   | refine LeO.bind ?_ (fun _ => ?_)
  ·intro y0 y1 y2 y3 y4 y5 y6 y7 y8 y9
   unfold bodkinref02_moved.j3
   repeat' first
   | (with_reducible exact ih0 _ _ _ _ _ _)
   | (with_reducible exact ih1 _ _ _ _ _ _ _ _)
   | (with_reducible exact ih2 _ _ _ _ _ _ _)
   | (with_reducible exact ih3 _ _ _ _ _ _ _ _ _ _)
   | (with_reducible exact bodkinref02_list.mono _ _ _)
   | (with_reducible exact bodkinref02_of.mono _ _)
   | (with_reducible exact LeO.refl _)
   | (with_reducible exact LeO.none _)
   | (with_reducible refine LeO.ite ?_ ?_)
   | (with_reducible refine LeO.bind ?_ (fun _ => ?_))
   | exact ih0 _ _ _ _ _ _
   | exact ih1 _ _ _ _ _ _ _ _
   | exact ih2 _ _ _ _ _ _ _
   | exact ih3 _ _ _ _ _ _ _ _ _ _
   | exact bodkinref02_list.mono _ _ _
   | exact bodkinref02_of.mono _ _
   | exact LeO.none _
   | refine LeO.ite ?_ ?_
   | refine LeO.bind ?_ (fun _ => ?_)
theorem bodkinref02_moved.mono : ∀ a0 a1 a2 a3 k, LeO (bodkinref02_moved.f k a0 a1 a2 a3) (bodkinref02_moved.f (k + 1) a0 a1 a2 a3) := by
 intro a0 a1 a2 a3 k
 obtain ⟨ih0, ih1, ih2, ih3⟩ := bodkinref02_moved.mono_l k
 unfold bodkinref02_moved.f
 repeat' first
   | (with_reducible exact ih0 _ _ _ _ _ _)
   | (with_reducible exact ih1 _ _ _ _ _ _ _ _)
   | (with_reducible exact ih2 _ _ _ _ _ _ _)
   | (with_reducible exact ih3 _ _ _ _ _ _ _ _ _ _)
   | (with_reducible exact bodkinref02_list.mono _ _ _)
   | (with_reducible exact bodkinref02_of.mono _ _)
   | (with_reducible exact LeO.refl _)
   | (with_reducible exact LeO.none _)
   | (with_reducible refine LeO.ite ?_ ?_)
   | (with_reducible refine LeO.bind ?_ (fun _ => ?_))
   | exact ih0 _ _ _ _ _ _
   | exact ih1 _ _ _ _ _ _ _ _
   | exact ih2 _ _ _ _ _ _ _
   | exact ih3 _ _ _ _ _ _ _ _ _ _
   | exact bodkinref02_list.mono _ _ _
   | exact bodkinref02_of.mono _ _
   | exact LeO.none _
   | refine LeO.ite ?_ ?_
   | refine LeO.bind ?_ (fun _ => ?_)
set_option maxHeartbeats 8000000 in
set_option maxRecDepth 100000 in
theorem bodkinref02_moved.calls (k : Nat) (a0 : Int) (a1 : Int) (a2 : Int) (a3 : Int) (r : Int) (w : World) (h : bodkinref02_moved.f k a0 a1 a2 a3 = some r) (hG : GD w := by first | assumption | exact GD.below (by assumption) (by repeat (first | exact Aside0.out (by assumption) | exact Below.refl _ _ | assumption | apply below_alloc | apply pw_below_drewN | apply below_drew1 | refine below_set ?_ (Aside0.out (by assumption))))) :
  Calls Tryz.prog 153 #[.int .i64 a0, .int .i64 a1, .int .u64 a2, .int .i64 a3] w fun e w' => e = .returned (.int .u64 r) ∧ Below w.heap.size w w' := by
 have HB := Aside0.mk (Below.refl w.heap.size w)
 have H : ((bodkinref02_list.f k a0 a2).bind fun t289 => (if 0 ≤ a0 then (if (a0 : Int).toNat ≤ 35184372088832 then (bodkinref02_moved.l0 k a0 a1 a3 t289 (List.replicate (a0 : Int).toNat 0) 0) else (none)) else (none))) = some r := h
 clear h
 replace H := Option.bind_eq_some_iff.mp H
 obtain ⟨t289, A50, H⟩ := H
 replace H : (if 0 ≤ a0 then (if (a0 : Int).toNat ≤ 35184372088832 then (bodkinref02_moved.l0 k a0 a1 a3 t289 (List.replicate (a0 : Int).toNat 0) 0) else (none)) else (none)) = some r := H
 have A5 := Aside0.mk A50
 clear A50
 by_cases c6 : 0 ≤ a0
 ·rw [if_pos c6] at H
  have c6b0 := eq_true c6
  have c6b1 : decide (0 ≤ a0) = true := decide_eq_true c6
  clear c6
  by_cases c7 : (a0 : Int).toNat ≤ 35184372088832
  ·rw [if_pos c7] at H
   have c7b0 := eq_true c7
   have c7b1 : decide ((a0 : Int).toNat ≤ 35184372088832) = true := decide_eq_true c7
   clear c7
   obtain ⟨y292, hy292⟩ : ∃ y_ : List Int, y_ = (List.replicate (a0 : Int).toNat 0) := ⟨_, rfl⟩
   replace H : (bodkinref02_moved.l0 k a0 a1 a3 t289 y292 0) = some r := by first | (rw [hy292]; with_reducible exact H) | (have H2_ := (Option.bind_some _ _).symm.trans H; rw [hy292]; with_reducible exact H2_) | (have H2_ := (Option.bind_some _ _).symm.trans H; with_reducible exact H2_) | with_reducible exact H | (rw [hy292]; exact H) | exact H
   have Ny292 := Aside0.mk hy292
   clear hy292
   have H' := Aside0.mk H
   clear H
   go_enter Tryz.func153, Tryz.ntmps153
   go_wp2_with (first | ((with_reducible refine gate_callee (f := 150) rfl ?_); refine goesL_ (some 16) rfl rfl Tryz.func150 (by kernel_rfl) rfl #[.int .i64 a0, .int .u64 a2] rfl mp_ ?_; (with_reducible refine (bodkinref02_list.calls k a0 a2 t289 _ A5.out).mono ?_); rintro e w8 ⟨v290, rfl, ho0, hb⟩; refine ⟨_, rfl, ?_⟩; have n0_ := Aside0.mk (Kd.R_lower ho0 (below_size bl_)); have n1_ := Aside0.mk (below_step bl_ hb); clear HB; have HO291 := n0_; have HB := n1_; clear n0_ n1_; (try clear hb); (try clear hb2); (try clear hk); (try clear hi); (try clear ho0)) | ((with_reducible refine gate_dst (N := 18) rfl ?_); refine Kd.R_make (Kd.int .u64) _ 22 rfl (N := 18) rfl 31 _ _ rfl a0 rfl rfl Tryz.underlying31 (.int .u64 0) 8 info22 rfl (by decide) (by omega) 0 (ok := fun _ => True) (okp := fun _ => True) rfl (fun _ hk => hk) trivial (od_) (Nat.le_trans (Nat.mul_le_mul_right _ (od_ : a0.toNat ≤ 35184372088832)) (by omega)) (Below.refl _ _) (Nat.le_refl _) ?_; intro v293 w9 ho10 hb hg_ hnew_; clear hg_ hnew_; (first | rw [← Ny292.out] at ho10 | (simp only [Int.reduceToNat] at ho10; rw [← Ny292.out] at ho10)); have n0_ := Aside0.mk (Kd.R_elder' (rl_ HO291) (Kd.R_base ho10) hb); have n1_ := Aside0.mk (Kd.R_lower (Kd.R_new' ho10 (Kd.R_lt (rl_ HO291))) (below_size bl_)); have n2_ := Aside0.mk (below_step bl_ hb); clear HO291; clear HB; have HO291 := n0_; have HO294 := n1_; have HB := n2_; clear n0_ n1_ n2_; clear hb ho10))
   go_loopg [11] k (fun kq v11 w' => ∃ (x10_1 : List Int) (x11_1 : Int), v11 = .int .i64 x11_1 ∧ Aside0 (bodkinref02_moved.l0 kq a0 a1 a3 t289 x10_1 x11_1 = some r) ∧ Aside0 (kq ≤ k) ∧ Aside0 (Kd.R (Kd.int .u64) 22 w' w.heap.size (fun k_ => some k_ ≠ (v293 : Value).ownBlock) v290 t289) ∧ Aside0 (Kd.R (Kd.int .u64) 22 w' w.heap.size (fun k_ => some k_ ≠ (v290 : Value).ownBlock) v293 x10_1) ∧ Aside0 (Below w.heap.size w w'))
   case atStart => exact ⟨(y292), (0), rs_, H', ⟨Nat.le_refl _⟩, ⟨by (with_reducible repeat (first | apply Kd.R_alloc | apply Kd.R_drewN | apply Kd.R_drew)); exact Kd.R_mono HO291.out (fun _ hk => hk.2)⟩, ⟨by (with_reducible repeat (first | apply Kd.R_alloc | apply Kd.R_drewN | apply Kd.R_drew)); exact Kd.R_mono HO294.out (fun _ hk => hk.2)⟩, ⟨bl_⟩⟩
   case round =>
    clear H'
    (try clear c1); (try clear p2); (try clear c6); (try clear c6b0); (try clear c6b1); (try clear c7); (try clear c7b0); (try clear c7b1)
    obtain ⟨x10_1, x11_1, rfl, HA, HK1, HO_9, HO_10, HB⟩ := hrel
    cases gk with
    | zero => exact absurd HA.out (by simp [bodkinref02_moved.l0])
    | succ k1 =>
     have H := HA.out
     clear HA
     simp only [bodkinref02_moved.l0] at H
     by_cases c11 : x11_1 < a0
     ·rw [if_pos c11] at H
      have c11b0 : decide (x11_1 < a0) = true := decide_eq_true c11
      clear c11
      have HC12 := Aside0.mk H
      clear H
      go_upto_region 7 with (fail)
      go_cut [36] (fun v36 wc => ∃ (kq : Nat) (x36_11 : Bool), v36 = .bool x36_11 ∧ Aside0 (bodkinref02_moved.j1 kq a0 a1 a3 t289 x10_1 x11_1 (wrap64 (x11_1 - a3)) x36_11 = some r) ∧ Aside0 (kq ≤ k1) ∧ Aside0 (Kd.R (Kd.int .u64) 22 wc w.heap.size (fun k_ => some k_ ≠ (v293 : Value).ownBlock) v290 t289) ∧ Aside0 (Kd.R (Kd.int .u64) 22 wc w.heap.size (fun k_ => some k_ ≠ (v290 : Value).ownBlock) v293 x10_1) ∧ Aside0 (Below w.heap.size w wc))
      case first =>
       have H := HC12.out
       clear HC12
       by_cases c13 : a1 = 12
       ·rw [if_pos c13] at H
        have c13b0 : (a1 == 12) = true := beq_iff_eq.mpr c13
        have c13b1 : (a1 != 12) = false := bne_eq_false_iff_eq.mpr c13
        clear c13
        (first | rw [c13b0] | (simp only [i64_w, i32_w]; rw [c13b0]) | skip)
        have H' := Aside0.mk H
        clear H
        go_wp2
        go_meet
        case rel => exact ⟨_, (true), rs_, H', ⟨by have := HK1.out; first | omega | exact Nat.le_refl _⟩, ⟨rl_ HO_9⟩, ⟨rl_ HO_10⟩, ⟨bl_⟩⟩
       ·rw [if_neg c13] at H
        have c13b0 : (a1 == 12) = false := beq_eq_false_iff_ne.mpr c13
        have c13b1 : (a1 != 12) = true := bne_iff_ne.mpr c13
        (first | rw [c13b0] | (simp only [i64_w, i32_w]; rw [c13b0]) | skip)
        by_cases c14 : a1 = 13
        ·rw [if_pos c14] at H
         have c14b0 : (a1 == 13) = true := beq_iff_eq.mpr c14
         have c14b1 : (a1 != 13) = false := bne_eq_false_iff_eq.mpr c14
         clear c14
         have H' := Aside0.mk H
         clear H
         go_wp2
         go_meet
         case rel => exact ⟨_, (true), rs_, H', ⟨by have := HK1.out; first | omega | exact Nat.le_refl _⟩, ⟨rl_ HO_9⟩, ⟨rl_ HO_10⟩, ⟨bl_⟩⟩
        ·rw [if_neg c14] at H
         have c14b0 : (a1 == 13) = false := beq_eq_false_iff_ne.mpr c14
         have c14b1 : (a1 != 13) = true := bne_iff_ne.mpr c14
         have H' := Aside0.mk H
         clear H
         go_wp2
         go_meet
         case rel => exact ⟨_, ((a1 == 15)), rs_, H', ⟨by have := HK1.out; first | omega | exact Nat.le_refl _⟩, ⟨rl_ HO_9⟩, ⟨rl_ HO_10⟩, ⟨bl_⟩⟩
      case rest =>
       clear HC12
       (try clear c1); (try clear p2); (try clear c6); (try clear c6b0); (try clear c6b1); (try clear p6); (try clear c7); (try clear c7b0); (try clear c7b1); (try clear c11); (try clear c11b0); (try clear c13); (try clear c13b0); (try clear c13b1); (try clear c14); (try clear c14b0); (try clear c14b1); (try clear p2)
       obtain ⟨kq, x36_11, rfl, HA, HJ11, HO_9, HO_10, HB⟩ := hcut
       cases kq with
       | zero => exact absurd HA.out (by simp [bodkinref02_moved.j1])
       | succ kj11 =>
        have H := HA.out
        clear HA
        simp only [bodkinref02_moved.j1] at H
        have HC15 := Aside0.mk H
        clear H
        go_upto_if 36 with (fail)
        go_cut [12] (fun v12 wc => ∃ (kq : Nat) (x12_14 : Int), v12 = .int .i64 x12_14 ∧ Aside0 (bodkinref02_moved.j2 kq a0 a1 a3 t289 x10_1 x11_1 x12_14 = some r) ∧ Aside0 (kq ≤ kj11) ∧ Aside0 (Kd.R (Kd.int .u64) 22 wc w.heap.size (fun k_ => some k_ ≠ (v293 : Value).ownBlock) v290 t289) ∧ Aside0 (Kd.R (Kd.int .u64) 22 wc w.heap.size (fun k_ => some k_ ≠ (v290 : Value).ownBlock) v293 x10_1) ∧ Aside0 (Below w.heap.size w wc))
        case first =>
         have H := HC15.out
         clear HC15
         by_cases c16 : x36_11 = true
         ·subst c16
          have H1 : (bodkinref02_moved.j2 kj11 a0 a1 a3 t289 x10_1 x11_1 (wrap64 (x11_1 + a3))) = some r := by rw [if_pos rfl] at H; exact H
          clear H
          have H := H1
          clear H1
          have H' := Aside0.mk H
          clear H
          go_wp2
          go_meet
          case rel => exact ⟨_, (wrap64 (x11_1 + a3)), rs_, H', ⟨by have := HK1.out; have := HJ11.out; first | omega | exact Nat.le_refl _⟩, ⟨rl_ HO_9⟩, ⟨rl_ HO_10⟩, ⟨bl_⟩⟩
         ·replace c16 := Bool.eq_false_iff.mpr c16
          subst c16
          have H1 : (bodkinref02_moved.j2 kj11 a0 a1 a3 t289 x10_1 x11_1 (wrap64 (x11_1 - a3))) = some r := by rw [if_neg (show ¬ (false = true) by decide)] at H; exact H
          clear H
          have H := H1
          clear H1
          have H' := Aside0.mk H
          clear H
          go_wp2
          go_meet
          case rel => exact ⟨_, ((wrap64 (x11_1 - a3))), rs_, H', ⟨by have := HK1.out; have := HJ11.out; first | omega | exact Nat.le_refl _⟩, ⟨rl_ HO_9⟩, ⟨rl_ HO_10⟩, ⟨bl_⟩⟩
        case rest =>
         clear HC15
         (try clear c1); (try clear p2); (try clear c6); (try clear c6b0); (try clear c6b1); (try clear p6); (try clear c7); (try clear c7b0); (try clear c7b1); (try clear c11); (try clear c11b0); (try clear c13); (try clear c13b0); (try clear c13b1); (try clear c14); (try clear c14b0); (try clear c14b1); (try clear c15); (try clear c16); (try clear p2); (try clear p6)
         obtain ⟨kq, x12_14, rfl, HA, HJ14, HO_9, HO_10, HB⟩ := hcut
         cases kq with
         | zero => exact absurd HA.out (by simp [bodkinref02_moved.j2])
         | succ kj14 =>
          have H := HA.out
          clear HA
          simp only [bodkinref02_moved.j2] at H
          by_cases c17 : a0 = 0
          ·rw [if_pos c17] at H
           exact absurd H (by simp)
          ·rw [if_neg c17] at H
           have c17b0 : (a0 == 0) = false := beq_eq_false_iff_ne.mpr c17
           have c17b1 : (a0 != 0) = true := bne_iff_ne.mpr c17
           have HC18 := Aside0.mk H
           clear H
           go_upto_if 60 with (fail)
           go_cut [60] (fun v60 wc => ∃ (kq : Nat) (x60_17 : Bool), v60 = .bool x60_17 ∧ Aside0 (bodkinref02_moved.j3 kq a0 a1 a3 t289 x10_1 x11_1 x12_14 (Int.tmod (wrap64 (x12_14 + a0)) a0) a1 x60_17 = some r) ∧ Aside0 (kq ≤ kj14) ∧ Aside0 (Kd.R (Kd.int .u64) 22 wc w.heap.size (fun k_ => some k_ ≠ (v293 : Value).ownBlock) v290 t289) ∧ Aside0 (Kd.R (Kd.int .u64) 22 wc w.heap.size (fun k_ => some k_ ≠ (v290 : Value).ownBlock) v293 x10_1) ∧ Aside0 (Below w.heap.size w wc))
           case first =>
            have H := HC18.out
            clear HC18
            by_cases c19 : a1 = 14
            ·rw [if_pos c19] at H
             have c19b0 : (a1 == 14) = true := beq_iff_eq.mpr c19
             have c19b1 : (a1 != 14) = false := bne_eq_false_iff_eq.mpr c19
             clear c19
             (first | rw [c19b0] | (simp only [i64_w, i32_w]; rw [c19b0]) | skip)
             have H' := Aside0.mk H
             clear H
             go_wp2
             go_meet
             case rel => exact ⟨_, ((a1 == 14)), rs_, H', ⟨by have := HK1.out; have := HJ11.out; have := HJ14.out; first | omega | exact Nat.le_refl _⟩, ⟨rl_ HO_9⟩, ⟨rl_ HO_10⟩, ⟨bl_⟩⟩
            ·rw [if_neg c19] at H
             have c19b0 : (a1 == 14) = false := beq_eq_false_iff_ne.mpr c19
             have c19b1 : (a1 != 14) = true := bne_iff_ne.mpr c19
             (first | rw [c19b0] | (simp only [i64_w, i32_w]; rw [c19b0]) | skip)
             have H' := Aside0.mk H
             clear H
             go_wp2
             go_meet
             case rel => exact ⟨_, ((a1 == 15)), rs_, H', ⟨by have := HK1.out; have := HJ11.out; have := HJ14.out; first | omega | exact Nat.le_refl _⟩, ⟨rl_ HO_9⟩, ⟨rl_ HO_10⟩, ⟨bl_⟩⟩
           case rest =>
            clear HC18
            (try clear c1); (try clear p2); (try clear c6); (try clear c6b0); (try clear c6b1); (try clear p6); (try clear c7); (try clear c7b0); (try clear c7b1); (try clear c11); (try clear c11b0); (try clear c13); (try clear c13b0); (try clear c13b1); (try clear c14); (try clear c14b0); (try clear c14b1); (try clear c15); (try clear c16); (try clear c17); (try clear c17b0); (try clear c17b1); (try clear c19); (try clear c19b0); (try clear c19b1); (try clear p2); (try clear p6)
            obtain ⟨kq, x60_17, rfl, HA, HJ17, HO_9, HO_10, HB⟩ := hcut
            cases kq with
            | zero => exact absurd HA.out (by simp [bodkinref02_moved.j3])
            | succ kj17 =>
             have H := HA.out
             clear HA
             simp only [bodkinref02_moved.j3] at H
             by_cases c20 : x60_17 = true
             ·subst c20
              have H1 : (if 0 ≤ (Int.tmod (wrap64 (x12_14 + a0)) a0) then (if (Int.tmod (wrap64 (x12_14 + a0)) a0) < (t289.length : Int) then (if 0 ≤ x11_1 then (if x11_1 < (x10_1.length : Int) then (bodkinref02_moved.l0 kj17 a0 a1 a3 t289 (x10_1.set (x11_1 : Int).toNat (rd t289 (Int.tmod (wrap64 (x12_14 + a0)) a0))) (wrap64 (x11_1 + 1))) else (none)) else (none)) else (none)) else (none)) = some r := by rw [if_pos rfl] at H; exact H
              clear H
              have H := H1
              clear H1
              obtain ⟨ji21, hji21⟩ : ∃ j_ : Int, (Int.tmod (wrap64 (x12_14 + a0)) a0) = j_ := ⟨_, rfl⟩
              replace H : (if 0 ≤ (ji21) then (if (ji21) < (t289.length : Int) then (if 0 ≤ x11_1 then (if x11_1 < (x10_1.length : Int) then (bodkinref02_moved.l0 kj17 a0 a1 a3 t289 (x10_1.set (x11_1 : Int).toNat (rd t289 (ji21))) (wrap64 (x11_1 + 1))) else (none)) else (none)) else (none)) else (none)) = some r := by first | (rw [hji21] at H; exact H) | (simp only [hji21] at H ⊢; exact H)
              by_cases c22 : 0 ≤ (ji21)
              ·rw [if_pos c22] at H
               have c22b0 : decide (0 ≤ (ji21)) = true := decide_eq_true c22
               clear c22
               by_cases c23 : (ji21) < (t289.length : Int)
               ·rw [if_pos c23] at H
                have c23b0 : decide ((ji21) < (t289.length : Int)) = true := decide_eq_true c23
                clear c23
                by_cases c24 : 0 ≤ x11_1
                ·rw [if_pos c24] at H
                 have c24b0 : decide (0 ≤ x11_1) = true := decide_eq_true c24
                 clear c24
                 by_cases c25 : x11_1 < (x10_1.length : Int)
                 ·rw [if_pos c25] at H
                  have c25b0 : decide (x11_1 < (x10_1.length : Int)) = true := decide_eq_true c25
                  clear c25
                  obtain ⟨y297, hy297⟩ : ∃ y_ : List Int, y_ = (x10_1.set (x11_1 : Int).toNat (rd t289 (ji21))) := ⟨_, rfl⟩
                  replace H : (bodkinref02_moved.l0 kj17 a0 a1 a3 t289 y297 (wrap64 (x11_1 + 1))) = some r := by first | (rw [hy297]; with_reducible exact H) | (have H2_ := (Option.bind_some _ _).symm.trans H; rw [hy297]; with_reducible exact H2_) | (have H2_ := (Option.bind_some _ _).symm.trans H; with_reducible exact H2_) | with_reducible exact H | (rw [hy297]; exact H) | exact H
                  have Ny297 := Aside0.mk hy297
                  clear hy297
                  have H' := Aside0.mk H
                  clear H
                  obtain ⟨Ao27, co27, eo27⟩ := Kd.R_slice HO_9.out
                  subst eo27
                  have p296 : 0 ≤ ((ji21) : Int) := od_
                  have q296 : (ji21) < (t289.length : Int) := od_
                  try (obtain ⟨ga_, ca_, hva_, _, _⟩ := Kd.R_reads HO_9.out; subst hva_)
                  obtain ⟨ad296, e296, hx296_0⟩ := Kd.at_int (Kd.R_reads' HO_9.out).2.2 (ji21) p296 q296
                  cases e296
                  replace p296 := eq_true p296
                  replace q296 := eq_true q296
                  have p26 : 0 ≤ (x11_1 : Int) := od_
                  have q26 : (x11_1 : Int) < ((x10_1.length : Int) : Int) := od_
                  obtain ⟨go26, co26, eo26, gb26, gl26, cl26, HG26⟩ := Kd.R_form HO_10.out (by omega)
                  (first | cases eo26 | (injection eo26 with ea_ en_ ec_; (first | subst ea_ | (injection ea_ with ea_; subst ea_)); subst ec_; clear en_))
                  have GB26 := Aside0.mk gb26
                  have GG26 := Aside0.mk HG26
                  clear gb26 gl26 HG26
                  obtain ⟨hx26_0, hf26_0⟩ := Kd.R_celln 0 HO_10.out (x11_1 : Int) p26 q26
                  replace p26 := eq_true p26
                  replace q26 := eq_true q26
                  have HP28 := Kd.R_putg HO_10.out (x11_1 : Int) (rd t289 (ji21))
                  go_wp2_with (first | ((with_reducible refine gate_store (t := 22) (p := 69) rfl ?_); refine store_event (t := 22) (p := 69) (v := ?vo_w29) (w1 := (wc.setCell ⟨go26, (x11_1 : Int).toNat, none⟩ (.int .u64 (rd t289 (ji21))))) ?hg ?ho ?hn ?hr ?_; (case ho => rfl); (case hg => rfl); (case hn => rfl); (case hr => first | (go_simp; done) | (go_simp; rfl)); intro w29 hw; have hg : wc.grownBy w29 (some go26) := (by rw [hw]; exact HP28.2); have hp_ : Kd.R (Kd.int .u64) 22 w29 w.heap.size (fun k_ => some k_ ≠ (.slice (some ad296) t289.length co27 : Value).ownBlock) (.slice (some ⟨go26, 0, none⟩) x10_1.length co26) y297 := (by rw [hw, Ny297.out]; exact HP28.1); clear HP28; have n0_ := Aside0.mk (Kd.R_after (v := (.slice (some ⟨go26, 0, none⟩) x10_1.length co26)) (v1 := (.slice (some ⟨go26, 0, none⟩) x10_1.length co26)) (ok := (fun _ => True)) (by (with_reducible repeat (first | apply Kd.R_alloc | apply Kd.R_drewN | apply Kd.R_drew)); exact Kd.R_mono HO_9.out (fun _ hk => ⟨trivial, hk⟩)) hg (.inl rfl)); have n1_ := Aside0.mk (hp_); have n2_ := Aside0.mk ((by rw [hw]; exact below_set (HB.out) GB26.out : Below w.heap.size w w29)); clear HO_9; clear HO_10; clear HB; have HO_9 := n0_; have HO_10 := n1_; have HB := n2_; clear n0_ n1_ n2_; clear hg hw hp_))
                  go_roundg kj17
                  case measure => have := HK1.out; have := HJ11.out; have := HJ14.out; have := HJ17.out; omega
                  case rel => exact ⟨(y297), (wrap64 (x11_1 + 1)), rs_, H', ⟨by have := HK1.out; have := HJ11.out; have := HJ14.out; have := HJ17.out; omega⟩, ⟨by (with_reducible repeat (first | apply Kd.R_alloc | apply Kd.R_drewN | apply Kd.R_drew)); exact Kd.R_mono HO_9.out (fun _ hk => hk.2)⟩, ⟨rl_ HO_10⟩, ⟨bl_⟩⟩
                 ·rw [if_neg c25] at H
                  exact absurd H (by simp)
                ·rw [if_neg c24] at H
                 exact absurd H (by simp)
               ·rw [if_neg c23] at H
                exact absurd H (by simp)
              ·rw [if_neg c22] at H
               exact absurd H (by simp)
             ·replace c20 := Bool.eq_false_iff.mpr c20
              subst c20
              have H1 : (if a1 = 12 then (if x12_14 ≥ a0 then (if 0 ≤ (wrap64 (a0 - 1)) then (if (wrap64 (a0 - 1)) < (t289.length : Int) then (if 0 ≤ x11_1 then (if x11_1 < (x10_1.length : Int) then (bodkinref02_moved.l0 kj17 a0 a1 a3 t289 (x10_1.set (x11_1 : Int).toNat (rd t289 (wrap64 (a0 - 1)))) (wrap64 (x11_1 + 1))) else (none)) else (none)) else (none)) else (none)) else (if 0 ≤ x12_14 then (if x12_14 < (t289.length : Int) then (if 0 ≤ x11_1 then (if x11_1 < (x10_1.length : Int) then (bodkinref02_moved.l0 kj17 a0 a1 a3 t289 (x10_1.set (x11_1 : Int).toNat (rd t289 x12_14)) (wrap64 (x11_1 + 1))) else (none)) else (none)) else (none)) else (none))) else (if x12_14 ≥ 0 then (if x12_14 < a0 then (if 0 ≤ x12_14 then (if x12_14 < (t289.length : Int) then (if 0 ≤ x11_1 then (if x11_1 < (x10_1.length : Int) then (bodkinref02_moved.l0 kj17 a0 a1 a3 t289 (x10_1.set (x11_1 : Int).toNat (rd t289 x12_14)) (wrap64 (x11_1 + 1))) else (none)) else (none)) else (none)) else (none)) else (bodkinref02_moved.l0 kj17 a0 a1 a3 t289 x10_1 (wrap64 (x11_1 + 1)))) else (bodkinref02_moved.l0 kj17 a0 a1 a3 t289 x10_1 (wrap64 (x11_1 + 1))))) = some r := by rw [if_neg (show ¬ (false = true) by decide)] at H; exact H
              clear H
              have H := H1
              clear H1
              by_cases c30 : a1 = 12
              ·rw [if_pos c30] at H
               have c30b0 : (a1 == 12) = true := beq_iff_eq.mpr c30
               have c30b1 : (a1 != 12) = false := bne_eq_false_iff_eq.mpr c30
               clear c30
               by_cases c31 : x12_14 ≥ a0
               ·rw [if_pos c31] at H
                have c31b0 : decide (a0 ≤ x12_14) = true := decide_eq_true c31
                clear c31
                obtain ⟨ji32, hji32⟩ : ∃ j_ : Int, (wrap64 (a0 - 1)) = j_ := ⟨_, rfl⟩
                replace H : (if 0 ≤ (ji32) then (if (ji32) < (t289.length : Int) then (if 0 ≤ x11_1 then (if x11_1 < (x10_1.length : Int) then (bodkinref02_moved.l0 kj17 a0 a1 a3 t289 (x10_1.set (x11_1 : Int).toNat (rd t289 (ji32))) (wrap64 (x11_1 + 1))) else (none)) else (none)) else (none)) else (none)) = some r := by first | (rw [hji32] at H; exact H) | (simp only [hji32] at H ⊢; exact H)
                have hji32w : (IntKind.i64.wrap (a0 - 1)) = ji32 := (i64_w _).trans hji32
                by_cases c33 : 0 ≤ (ji32)
                ·rw [if_pos c33] at H
                 have c33b0 : decide (0 ≤ (ji32)) = true := decide_eq_true c33
                 clear c33
                 by_cases c34 : (ji32) < (t289.length : Int)
                 ·rw [if_pos c34] at H
                  have c34b0 : decide ((ji32) < (t289.length : Int)) = true := decide_eq_true c34
                  clear c34
                  by_cases c35 : 0 ≤ x11_1
                  ·rw [if_pos c35] at H
                   have c35b0 : decide (0 ≤ x11_1) = true := decide_eq_true c35
                   clear c35
                   by_cases c36 : x11_1 < (x10_1.length : Int)
                   ·rw [if_pos c36] at H
                    have c36b0 : decide (x11_1 < (x10_1.length : Int)) = true := decide_eq_true c36
                    clear c36
                    obtain ⟨y299, hy299⟩ : ∃ y_ : List Int, y_ = (x10_1.set (x11_1 : Int).toNat (rd t289 (ji32))) := ⟨_, rfl⟩
                    replace H : (bodkinref02_moved.l0 kj17 a0 a1 a3 t289 y299 (wrap64 (x11_1 + 1))) = some r := by first | (rw [hy299]; with_reducible exact H) | (have H2_ := (Option.bind_some _ _).symm.trans H; rw [hy299]; with_reducible exact H2_) | (have H2_ := (Option.bind_some _ _).symm.trans H; with_reducible exact H2_) | with_reducible exact H | (rw [hy299]; exact H) | exact H
                    have Ny299 := Aside0.mk hy299
                    clear hy299
                    have H' := Aside0.mk H
                    clear H
                    obtain ⟨Ao38, co38, eo38⟩ := Kd.R_slice HO_9.out
                    subst eo38
                    have p298 : 0 ≤ ((ji32) : Int) := od_
                    have q298 : (ji32) < (t289.length : Int) := od_
                    try (obtain ⟨ga_, ca_, hva_, _, _⟩ := Kd.R_reads HO_9.out; subst hva_)
                    obtain ⟨ad298, e298, hx298_0⟩ := Kd.at_int (Kd.R_reads' HO_9.out).2.2 (ji32) p298 q298
                    cases e298
                    replace p298 := eq_true p298
                    replace q298 := eq_true q298
                    have p37 : 0 ≤ (x11_1 : Int) := od_
                    have q37 : (x11_1 : Int) < ((x10_1.length : Int) : Int) := od_
                    obtain ⟨go37, co37, eo37, gb37, gl37, cl37, HG37⟩ := Kd.R_form HO_10.out (by omega)
                    (first | cases eo37 | (injection eo37 with ea_ en_ ec_; (first | subst ea_ | (injection ea_ with ea_; subst ea_)); subst ec_; clear en_))
                    have GB37 := Aside0.mk gb37
                    have GG37 := Aside0.mk HG37
                    clear gb37 gl37 HG37
                    obtain ⟨hx37_0, hf37_0⟩ := Kd.R_celln 0 HO_10.out (x11_1 : Int) p37 q37
                    replace p37 := eq_true p37
                    replace q37 := eq_true q37
                    have HP39 := Kd.R_putg HO_10.out (x11_1 : Int) (rd t289 (ji32))
                    go_wp2_with (first | ((with_reducible refine gate_store (t := 22) (p := 83) rfl ?_); refine store_event (t := 22) (p := 83) (v := ?vo_w40) (w1 := (wc.setCell ⟨go37, (x11_1 : Int).toNat, none⟩ (.int .u64 (rd t289 (ji32))))) ?hg ?ho ?hn ?hr ?_; (case ho => rfl); (case hg => rfl); (case hn => rfl); (case hr => first | (go_simp; done) | (go_simp; rfl)); intro w40 hw; have hg : wc.grownBy w40 (some go37) := (by rw [hw]; exact HP39.2); have hp_ : Kd.R (Kd.int .u64) 22 w40 w.heap.size (fun k_ => some k_ ≠ (.slice (some ad298) t289.length co38 : Value).ownBlock) (.slice (some ⟨go37, 0, none⟩) x10_1.length co37) y299 := (by rw [hw, Ny299.out]; exact HP39.1); clear HP39; have n0_ := Aside0.mk (Kd.R_after (v := (.slice (some ⟨go37, 0, none⟩) x10_1.length co37)) (v1 := (.slice (some ⟨go37, 0, none⟩) x10_1.length co37)) (ok := (fun _ => True)) (by (with_reducible repeat (first | apply Kd.R_alloc | apply Kd.R_drewN | apply Kd.R_drew)); exact Kd.R_mono HO_9.out (fun _ hk => ⟨trivial, hk⟩)) hg (.inl rfl)); have n1_ := Aside0.mk (hp_); have n2_ := Aside0.mk ((by rw [hw]; exact below_set (HB.out) GB37.out : Below w.heap.size w w40)); clear HO_9; clear HO_10; clear HB; have HO_9 := n0_; have HO_10 := n1_; have HB := n2_; clear n0_ n1_ n2_; clear hg hw hp_))
                    go_roundg kj17
                    case measure => have := HK1.out; have := HJ11.out; have := HJ14.out; have := HJ17.out; omega
                    case rel => exact ⟨(y299), (wrap64 (x11_1 + 1)), rs_, H', ⟨by have := HK1.out; have := HJ11.out; have := HJ14.out; have := HJ17.out; omega⟩, ⟨by (with_reducible repeat (first | apply Kd.R_alloc | apply Kd.R_drewN | apply Kd.R_drew)); exact Kd.R_mono HO_9.out (fun _ hk => hk.2)⟩, ⟨rl_ HO_10⟩, ⟨bl_⟩⟩
                   ·rw [if_neg c36] at H
                    exact absurd H (by simp)
                  ·rw [if_neg c35] at H
                   exact absurd H (by simp)
                 ·rw [if_neg c34] at H
                  exact absurd H (by simp)
                ·rw [if_neg c33] at H
                 exact absurd H (by simp)
               ·rw [if_neg c31] at H
                have c31b0 : decide (a0 ≤ x12_14) = false := decide_eq_false c31
                clear c31
                by_cases c41 : 0 ≤ x12_14
                ·rw [if_pos c41] at H
                 have c41b0 : decide (0 ≤ x12_14) = true := decide_eq_true c41
                 clear c41
                 by_cases c42 : x12_14 < (t289.length : Int)
                 ·rw [if_pos c42] at H
                  have c42b0 : decide (x12_14 < (t289.length : Int)) = true := decide_eq_true c42
                  clear c42
                  by_cases c43 : 0 ≤ x11_1
                  ·rw [if_pos c43] at H
                   have c43b0 : decide (0 ≤ x11_1) = true := decide_eq_true c43
                   clear c43
                   by_cases c44 : x11_1 < (x10_1.length : Int)
                   ·rw [if_pos c44] at H
                    have c44b0 : decide (x11_1 < (x10_1.length : Int)) = true := decide_eq_true c44
                    clear c44
                    obtain ⟨y301, hy301⟩ : ∃ y_ : List Int, y_ = (x10_1.set (x11_1 : Int).toNat (rd t289 x12_14)) := ⟨_, rfl⟩
                    replace H : (bodkinref02_moved.l0 kj17 a0 a1 a3 t289 y301 (wrap64 (x11_1 + 1))) = some r := by first | (rw [hy301]; with_reducible exact H) | (have H2_ := (Option.bind_some _ _).symm.trans H; rw [hy301]; with_reducible exact H2_) | (have H2_ := (Option.bind_some _ _).symm.trans H; with_reducible exact H2_) | with_reducible exact H | (rw [hy301]; exact H) | exact H
                    have Ny301 := Aside0.mk hy301
                    clear hy301
                    have H' := Aside0.mk H
                    clear H
                    obtain ⟨Ao46, co46, eo46⟩ := Kd.R_slice HO_9.out
                    subst eo46
                    have p300 : 0 ≤ (x12_14 : Int) := od_
                    have q300 : x12_14 < (t289.length : Int) := od_
                    try (obtain ⟨ga_, ca_, hva_, _, _⟩ := Kd.R_reads HO_9.out; subst hva_)
                    obtain ⟨ad300, e300, hx300_0⟩ := Kd.at_int (Kd.R_reads' HO_9.out).2.2 x12_14 p300 q300
                    cases e300
                    replace p300 := eq_true p300
                    replace q300 := eq_true q300
                    have p45 : 0 ≤ (x11_1 : Int) := od_
                    have q45 : (x11_1 : Int) < ((x10_1.length : Int) : Int) := od_
                    obtain ⟨go45, co45, eo45, gb45, gl45, cl45, HG45⟩ := Kd.R_form HO_10.out (by omega)
                    (first | cases eo45 | (injection eo45 with ea_ en_ ec_; (first | subst ea_ | (injection ea_ with ea_; subst ea_)); subst ec_; clear en_))
                    have GB45 := Aside0.mk gb45
                    have GG45 := Aside0.mk HG45
                    clear gb45 gl45 HG45
                    obtain ⟨hx45_0, hf45_0⟩ := Kd.R_celln 0 HO_10.out (x11_1 : Int) p45 q45
                    replace p45 := eq_true p45
                    replace q45 := eq_true q45
                    have HP47 := Kd.R_putg HO_10.out (x11_1 : Int) (rd t289 x12_14)
                    go_wp2_with (first | ((with_reducible refine gate_store (t := 22) (p := 83) rfl ?_); refine store_event (t := 22) (p := 83) (v := ?vo_w48) (w1 := (wc.setCell ⟨go45, (x11_1 : Int).toNat, none⟩ (.int .u64 (rd t289 x12_14)))) ?hg ?ho ?hn ?hr ?_; (case ho => rfl); (case hg => rfl); (case hn => rfl); (case hr => first | (go_simp; done) | (go_simp; rfl)); intro w48 hw; have hg : wc.grownBy w48 (some go45) := (by rw [hw]; exact HP47.2); have hp_ : Kd.R (Kd.int .u64) 22 w48 w.heap.size (fun k_ => some k_ ≠ (.slice (some ad300) t289.length co46 : Value).ownBlock) (.slice (some ⟨go45, 0, none⟩) x10_1.length co45) y301 := (by rw [hw, Ny301.out]; exact HP47.1); clear HP47; have n0_ := Aside0.mk (Kd.R_after (v := (.slice (some ⟨go45, 0, none⟩) x10_1.length co45)) (v1 := (.slice (some ⟨go45, 0, none⟩) x10_1.length co45)) (ok := (fun _ => True)) (by (with_reducible repeat (first | apply Kd.R_alloc | apply Kd.R_drewN | apply Kd.R_drew)); exact Kd.R_mono HO_9.out (fun _ hk => ⟨trivial, hk⟩)) hg (.inl rfl)); have n1_ := Aside0.mk (hp_); have n2_ := Aside0.mk ((by rw [hw]; exact below_set (HB.out) GB45.out : Below w.heap.size w w48)); clear HO_9; clear HO_10; clear HB; have HO_9 := n0_; have HO_10 := n1_; have HB := n2_; clear n0_ n1_ n2_; clear hg hw hp_))
                    go_roundg kj17
                    case measure => have := HK1.out; have := HJ11.out; have := HJ14.out; have := HJ17.out; omega
                    case rel => exact ⟨(y301), (wrap64 (x11_1 + 1)), rs_, H', ⟨by have := HK1.out; have := HJ11.out; have := HJ14.out; have := HJ17.out; omega⟩, ⟨by (with_reducible repeat (first | apply Kd.R_alloc | apply Kd.R_drewN | apply Kd.R_drew)); exact Kd.R_mono HO_9.out (fun _ hk => hk.2)⟩, ⟨rl_ HO_10⟩, ⟨bl_⟩⟩
                   ·rw [if_neg c44] at H
                    exact absurd H (by simp)
                  ·rw [if_neg c43] at H
                   exact absurd H (by simp)
                 ·rw [if_neg c42] at H
                  exact absurd H (by simp)
                ·rw [if_neg c41] at H
                 exact absurd H (by simp)
              ·rw [if_neg c30] at H
               have c30b0 : (a1 == 12) = false := beq_eq_false_iff_ne.mpr c30
               have c30b1 : (a1 != 12) = true := bne_iff_ne.mpr c30
               by_cases c49 : x12_14 ≥ 0
               ·rw [if_pos c49] at H
                have c49b0 : decide (0 ≤ x12_14) = true := decide_eq_true c49
                clear c49
                by_cases c50 : x12_14 < a0
                ·rw [if_pos c50] at H
                 have c50b0 : decide (x12_14 < a0) = true := decide_eq_true c50
                 clear c50
                 by_cases c51 : 0 ≤ x12_14
                 ·rw [if_pos c51] at H
                  have c51b0 : decide (0 ≤ x12_14) = true := decide_eq_true c51
                  clear c51
                  by_cases c52 : x12_14 < (t289.length : Int)
                  ·rw [if_pos c52] at H
                   have c52b0 : decide (x12_14 < (t289.length : Int)) = true := decide_eq_true c52
                   clear c52
                   by_cases c53 : 0 ≤ x11_1
                   ·rw [if_pos c53] at H
                    have c53b0 : decide (0 ≤ x11_1) = true := decide_eq_true c53
                    clear c53
                    by_cases c54 : x11_1 < (x10_1.length : Int)
                    ·rw [if_pos c54] at H
                     have c54b0 : decide (x11_1 < (x10_1.length : Int)) = true := decide_eq_true c54
                     clear c54
                     obtain ⟨y303, hy303⟩ : ∃ y_ : List Int, y_ = (x10_1.set (x11_1 : Int).toNat (rd t289 x12_14)) := ⟨_, rfl⟩
                     replace H : (bodkinref02_moved.l0 kj17 a0 a1 a3 t289 y303 (wrap64 (x11_1 + 1))) = some r := by first | (rw [hy303]; with_reducible exact H) | (have H2_ := (Option.bind_some _ _).symm.trans H; rw [hy303]; with_reducible exact H2_) | (have H2_ := (Option.bind_some _ _).symm.trans H; with_reducible exact H2_) | with_reducible exact H | (rw [hy303]; exact H) | exact H
                     have Ny303 := Aside0.mk hy303
                     clear hy303
                     have H' := Aside0.mk H
                     clear H
                     obtain ⟨Ao56, co56, eo56⟩ := Kd.R_slice HO_9.out
                     subst eo56
                     have p302 : 0 ≤ (x12_14 : Int) := od_
                     have q302 : x12_14 < (t289.length : Int) := od_
                     try (obtain ⟨ga_, ca_, hva_, _, _⟩ := Kd.R_reads HO_9.out; subst hva_)
                     obtain ⟨ad302, e302, hx302_0⟩ := Kd.at_int (Kd.R_reads' HO_9.out).2.2 x12_14 p302 q302
                     cases e302
                     replace p302 := eq_true p302
                     replace q302 := eq_true q302
                     have p55 : 0 ≤ (x11_1 : Int) := od_
                     have q55 : (x11_1 : Int) < ((x10_1.length : Int) : Int) := od_
                     obtain ⟨go55, co55, eo55, gb55, gl55, cl55, HG55⟩ := Kd.R_form HO_10.out (by omega)
                     (first | cases eo55 | (injection eo55 with ea_ en_ ec_; (first | subst ea_ | (injection ea_ with ea_; subst ea_)); subst ec_; clear en_))
                     have GB55 := Aside0.mk gb55
                     have GG55 := Aside0.mk HG55
                     clear gb55 gl55 HG55
                     obtain ⟨hx55_0, hf55_0⟩ := Kd.R_celln 0 HO_10.out (x11_1 : Int) p55 q55
                     replace p55 := eq_true p55
                     replace q55 := eq_true q55
                     have HP57 := Kd.R_putg HO_10.out (x11_1 : Int) (rd t289 x12_14)
                     go_wp2_with (first | ((with_reducible refine gate_store (t := 22) (p := 59) rfl ?_); refine store_event (t := 22) (p := 59) (v := ?vo_w58) (w1 := (wc.setCell ⟨go55, (x11_1 : Int).toNat, none⟩ (.int .u64 (rd t289 x12_14)))) ?hg ?ho ?hn ?hr ?_; (case ho => rfl); (case hg => rfl); (case hn => rfl); (case hr => first | (go_simp; done) | (go_simp; rfl)); intro w58 hw; have hg : wc.grownBy w58 (some go55) := (by rw [hw]; exact HP57.2); have hp_ : Kd.R (Kd.int .u64) 22 w58 w.heap.size (fun k_ => some k_ ≠ (.slice (some ad302) t289.length co56 : Value).ownBlock) (.slice (some ⟨go55, 0, none⟩) x10_1.length co55) y303 := (by rw [hw, Ny303.out]; exact HP57.1); clear HP57; have n0_ := Aside0.mk (Kd.R_after (v := (.slice (some ⟨go55, 0, none⟩) x10_1.length co55)) (v1 := (.slice (some ⟨go55, 0, none⟩) x10_1.length co55)) (ok := (fun _ => True)) (by (with_reducible repeat (first | apply Kd.R_alloc | apply Kd.R_drewN | apply Kd.R_drew)); exact Kd.R_mono HO_9.out (fun _ hk => ⟨trivial, hk⟩)) hg (.inl rfl)); have n1_ := Aside0.mk (hp_); have n2_ := Aside0.mk ((by rw [hw]; exact below_set (HB.out) GB55.out : Below w.heap.size w w58)); clear HO_9; clear HO_10; clear HB; have HO_9 := n0_; have HO_10 := n1_; have HB := n2_; clear n0_ n1_ n2_; clear hg hw hp_))
                     go_roundg kj17
                     case measure => have := HK1.out; have := HJ11.out; have := HJ14.out; have := HJ17.out; omega
                     case rel => exact ⟨(y303), (wrap64 (x11_1 + 1)), rs_, H', ⟨by have := HK1.out; have := HJ11.out; have := HJ14.out; have := HJ17.out; omega⟩, ⟨by (with_reducible repeat (first | apply Kd.R_alloc | apply Kd.R_drewN | apply Kd.R_drew)); exact Kd.R_mono HO_9.out (fun _ hk => hk.2)⟩, ⟨rl_ HO_10⟩, ⟨bl_⟩⟩
                    ·rw [if_neg c54] at H
                     exact absurd H (by simp)
                   ·rw [if_neg c53] at H
                    exact absurd H (by simp)
                  ·rw [if_neg c52] at H
                   exact absurd H (by simp)
                 ·rw [if_neg c51] at H
                  exact absurd H (by simp)
                ·rw [if_neg c50] at H
                 have c50b0 : decide (x12_14 < a0) = false := decide_eq_false c50
                 clear c50
                 have H' := Aside0.mk H
                 clear H
                 go_wp2
                 go_roundg kj17
                 case measure => have := HK1.out; have := HJ11.out; have := HJ14.out; have := HJ17.out; omega
                 case rel => exact ⟨(x10_1), (wrap64 (x11_1 + 1)), rs_, H', ⟨by have := HK1.out; have := HJ11.out; have := HJ14.out; have := HJ17.out; omega⟩, ⟨rl_ HO_9⟩, ⟨rl_ HO_10⟩, ⟨bl_⟩⟩
               ·rw [if_neg c49] at H
                have c49b0 : decide (0 ≤ x12_14) = false := decide_eq_false c49
                clear c49
                have H' := Aside0.mk H
                clear H
                go_wp2
                go_roundg kj17
                case measure => have := HK1.out; have := HJ11.out; have := HJ14.out; have := HJ17.out; omega
                case rel => exact ⟨(x10_1), (wrap64 (x11_1 + 1)), rs_, H', ⟨by have := HK1.out; have := HJ11.out; have := HJ14.out; have := HJ17.out; omega⟩, ⟨rl_ HO_9⟩, ⟨rl_ HO_10⟩, ⟨bl_⟩⟩
     ·rw [if_neg c11] at H
      have c11b0 : decide (x11_1 < a0) = false := decide_eq_false c11
      clear c11
      replace H := Option.bind_eq_some_iff.mp H
      obtain ⟨t295, A590, H⟩ := H
      replace H : (some t295) = some r := H
      have A59 := Aside0.mk A590
      clear A590
      obtain rfl := Option.some.inj H
      obtain ⟨Ao60, co60, eo60⟩ := Kd.R_slice HO_10.out
      subst eo60
      go_wp2_with (first | ((with_reducible refine gate_callee (f := 151) rfl ?_); refine goesL_ (some 85) rfl rfl Tryz.func151 (by kernel_rfl) rfl #[.slice Ao60 x10_1.length co60] rfl mp_ ?_; (with_reducible refine (bodkinref02_of.calls k1 _ _ x10_1 t295 _ ?side1 ?side2 A59.out).mono ?_); (case side1 => repeat (first | exact (Kd.R_reads' HO_10.out).2.2 | (with_reducible refine Kd.C_alloc ?_ _) | (with_reducible refine Kd.C_drewN ?_ _) | (with_reducible refine Kd.C_drew ?_))); (case side2 => exact (Kd.R_reads' HO_10.out).2.1); rintro e w' ⟨rfl, ⟨nd, rfl⟩⟩; refine ⟨_, rfl, ?_⟩))
      go_ret
      exact ⟨er_, bl_⟩
  ·rw [if_neg c7] at H
   exact absurd H (by simp)
 ·rw [if_neg c6] at H
  exact absurd H (by simp)
def bodkinref02_held.f (a0 : Int) (a1 : Int) (a2 : Int) (a3 : Int) (a4 : Int) (a5 : Int) : Option (Int) := none
end Go.Proofs.YtkhhhceeoljheaaGreatDoor.PInt

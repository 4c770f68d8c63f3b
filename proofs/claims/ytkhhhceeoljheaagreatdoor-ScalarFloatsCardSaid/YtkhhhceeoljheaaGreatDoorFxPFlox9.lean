import Derived.Test.YtkhhhceeoljheaaGreatDoorFxPFlox7
set_option maxHeartbeats 8000000
set_option maxRecDepth 100000
namespace Go.Proofs.YtkhhhceeoljheaaGreatDoor.PFlo
open Go.RowKit Go.Proofs.YtkhhhceeoljheaaGreatDoorW.PrintWords Go.Proofs.YtkhhhceeoljheaaGreatDoorW.PrintLast Go.Proofs.YtkhhhceeoljheaaGreatDoorW.PrintMore
attribute [local go_sem] max2_int min2_int max_two min_two max_three min_three max_four min_four   
set_option linter.unusedVariables false
set_option linter.unusedSimpArgs false
def bodkinref05_Types.l0 : Nat → ByteArray → List Int → Int → Option (List Int)
 | 0, _, _, _ => none
 | k + 1, x0, x3, x4 => if x4 < (x0.size : Int) then (if 0 ≤ x4 then (if (bt x0 x4) = 105 then (if x3.length < 17592186044416 then (bodkinref05_Types.l0 k x0 (x3 ++ [127]) (wrap64 (x4 + 1))) else (none)) else (if (bt x0 x4) = 108 then (if x3.length < 17592186044416 then (bodkinref05_Types.l0 k x0 (x3 ++ [126]) (wrap64 (x4 + 1))) else (none)) else (if (bt x0 x4) = 102 then (if x3.length < 17592186044416 then (bodkinref05_Types.l0 k x0 (x3 ++ [125]) (wrap64 (x4 + 1))) else (none)) else (if (bt x0 x4) = 100 then (if x3.length < 17592186044416 then (bodkinref05_Types.l0 k x0 (x3 ++ [124]) (wrap64 (x4 + 1))) else (none)) else (if (bt x0 x4) = 118 then (if x3.length < 17592186044416 then (bodkinref05_Types.l0 k x0 (x3 ++ [123]) (wrap64 (x4 + 1))) else (none)) else (if (bt x0 x4) = 110 then (if x3.length < 17592186044416 then (bodkinref05_Types.l0 k x0 (x3 ++ [112]) (wrap64 (x4 + 1))) else (none)) else (bodkinref05_Types.l0 k x0 x3 (wrap64 (x4 + 1))))))))) else (none)) else (some x3)
def bodkinref05_Types.f (k : Nat) (a0 : ByteArray) : Option (List Int) := bodkinref05_Types.l0 k a0 ([] : List Int) 0
theorem bodkinref05_Types.mono_l : ∀ k, (∀ y0 y1 y2, LeO (bodkinref05_Types.l0 k y0 y1 y2) (bodkinref05_Types.l0 (k + 1) y0 y1 y2))
 | 0 => fun _ _ _ r h => by simp [bodkinref05_Types.l0] at h
 | k + 1 => by
  have ih0 := bodkinref05_Types.mono_l k
  ·intro y0 y1 y2; unfold bodkinref05_Types.l0
   repeat' first
   | (with_reducible exact ih0 _ _ _)
   | (with_reducible exact LeO.refl _)
   | (with_reducible exact LeO.none _)
   | (with_reducible refine LeO.ite ?_ ?_)
   | (with_reducible refine LeO.bind ?_ (fun _ => ?_))
   | exact ih0 _ _ _
   | exact LeO.none _
   | refine LeO.ite ?_ ?_
   | refine LeO.bind ?_ (fun _ => ?_)
theorem bodkinref05_Types.mono : ∀ a0 k, LeO (bodkinref05_Types.f k a0) (bodkinref05_Types.f (k + 1) a0) := by
 intro a0 k; have ih0 := bodkinref05_Types.mono_l k; unfold bodkinref05_Types.f
 repeat' first
   | (with_reducible exact ih0 _ _ _)
   | (with_reducible exact LeO.refl _)
   | (with_reducible exact LeO.none _)
   | (with_reducible refine LeO.ite ?_ ?_)
   | (with_reducible refine LeO.bind ?_ (fun _ => ?_))
   | exact ih0 _ _ _
   | exact LeO.none _
   | refine LeO.ite ?_ ?_
   | refine LeO.bind ?_ (fun _ => ?_)
theorem bodkinref05_Types.calls (k : Nat) (a0 : ByteArray) (r : List Int) (w : World) (h : bodkinref05_Types.f k a0 = some r) (hG : GD w := by first | assumption | exact GD.below (by assumption) (by repeat (first | exact Aside0.out (by assumption) | exact Below.refl _ _ | assumption | apply below_alloc | apply pw_below_drewN | apply below_drew1 | refine below_set ?_ (Aside0.out (by assumption))))) :
  Calls Tryz.prog 15 #[.string a0] w fun e w' => ∃ v0_ : Value, e = .returned (v0_) ∧ Kd.R (Kd.int .i64) 3 w' w.heap.size (fun _ => True) v0_ r ∧ Below w.heap.size w w' := by
 have HB := zm_ (Below.refl w.heap.size w); have H : (bodkinref05_Types.l0 k a0 ([] : List Int) 0) = some r := h; clear h; have H' := zm_ H; clear H; go_enter Tryz.func15, Tryz.ntmps15
 go_wp2
 go_loopg [3, 4] k (fun kq v3 v4 w' => ∃ (x3_1 : List Int) (x4_1 : Int), v4 = .int .i64 x4_1 ∧ Aside0 (bodkinref05_Types.l0 kq a0 x3_1 x4_1 = some r) ∧ Aside0 (kq ≤ k) ∧ Aside0 (Kd.R (Kd.int .i64) 3 w' w.heap.size (fun _ => True) v3 x3_1) ∧ Aside0 (Below w.heap.size w w'))
 case atStart => exact ⟨(([] : List Int)), (0), rs_, H', ⟨Nat.le_refl _⟩, ⟨by first | exact Kd.R_nil _ _ _ _ _ | exact Kd.N_nil _ _ _ _ _ | exact Kd.V_nil _ _ _ _ _ | exact Kd.Q_nil _ _ _ _ _ | exact Kd.S_nil _ _ _ _ _⟩, ⟨bl_⟩⟩
 case round =>
  clear H'; try clear c1
  obtain ⟨x3_1, x4_1, rfl, HA, HK1, HO_3, HB⟩ := hrel
  cases gk with
  | zero => exact absurd HA.out (by simp [bodkinref05_Types.l0])
  | succ k1 =>
   have H := HA.out; clear HA; simp only [bodkinref05_Types.l0] at H; by_cases c2 : x4_1 < (a0.size : Int)
   ·rw [if_pos c2] at H; have c2b0 : decide (x4_1 < (a0.size : Int)) = true := decide_eq_true c2; clear c2; by_cases c3 : 0 ≤ x4_1
    ·rw [if_pos c3] at H; have c3b0 : decide (0 ≤ x4_1) = true := decide_eq_true c3; clear c3; by_cases c5 : (bt a0 x4_1) = 105
     ·rw [if_pos c5] at H; have c5b0 : ((bt a0 x4_1) == 105) = true := beq_iff_eq.mpr c5; have c5b1 : ((bt a0 x4_1) != 105) = false := bne_eq_false_iff_eq.mpr c5; clear c5; by_cases c6 : x3_1.length < 17592186044416
      ·rw [if_pos c6] at H; have LMc6 := zm_ c6; clear c6; obtain ⟨y230, hy230⟩ : ∃ y_ : List Int, y_ = (x3_1 ++ [127]) := ⟨_, rfl⟩
       replace H : (bodkinref05_Types.l0 k1 a0 y230 (wrap64 (x4_1 + 1))) = some r := by first | (rw [hy230]; with_reducible exact H) | (have H2_ := (Option.bind_some _ _).symm.trans H; rw [hy230]; with_reducible exact H2_) | (have H2_ := (Option.bind_some _ _).symm.trans H; with_reducible exact H2_) | with_reducible exact H | (rw [hy230]; exact H) | exact H
       have Ny230 := zm_ hy230; clear hy230; have H' := zm_ H; clear H; have p4 : 0 ≤ (x4_1 : Int) := od_; have q4 : x4_1 < (a0.size : Int) := od_; have hx4 := bt_at a0 x4_1; replace p4 := eq_true p4; replace q4 := eq_true q4; go_wp2_with (first | ((with_reducible refine gate_builtin (b := .append) (xs := #[.tmp 16, .tmp 17]) rfl ?_); at_builtin; refine Kd.R_append (Kd.int .i64) (w0 := w) w.heap.size rfl (.tmp 16) (.tmp 17) 28 3 (.int .i64 0) 8 rfl Tryz.underlying28 info3 rfl (by decide) (by omega) u3 x3_1 127 [.int .i64 127] (fun _ => True) (fun _ => False) rfl rfl ?aP (fun _ hk => hk.elim) ?aF ?aO ?aB ?aS ?aL ?_; (case aP => exact rfl); (case aB => exact bl_); (case aF => exact (fun _ _ => trivial)); (case aO => exact (rl_ HO_3)); (case aS => exact (below_size bl_)); (case aL => have := LMc6.out; omega); intro v231 w7 ho hb hg hat; rw [← Ny230.out] at ho; have n0_ := zm_ (hb); have n1_ := zm_ (ho); clear HB; clear HO_3; have HB := n0_; have HO232 := n1_; clear n0_ n1_; clear ho hb hg hat))
       go_roundg k1
       case measure => have := HK1.out; omega
       case rel => exact ⟨(y230), (wrap64 (x4_1 + 1)), rs_, H', ⟨by have := HK1.out; omega⟩, ⟨rl_ HO232⟩, ⟨bl_⟩⟩
      ·rw [if_neg c6] at H; exact absurd H (by simp)
     ·rw [if_neg c5] at H; have c5b0 : ((bt a0 x4_1) == 105) = false := beq_eq_false_iff_ne.mpr c5; have c5b1 : ((bt a0 x4_1) != 105) = true := bne_iff_ne.mpr c5; by_cases c8 : (bt a0 x4_1) = 108
      ·rw [if_pos c8] at H; have c8b0 : ((bt a0 x4_1) == 108) = true := beq_iff_eq.mpr c8; have c8b1 : ((bt a0 x4_1) != 108) = false := bne_eq_false_iff_eq.mpr c8; clear c8; by_cases c9 : x3_1.length < 17592186044416
       ·rw [if_pos c9] at H; have LMc9 := zm_ c9; clear c9; obtain ⟨y233, hy233⟩ : ∃ y_ : List Int, y_ = (x3_1 ++ [126]) := ⟨_, rfl⟩
        replace H : (bodkinref05_Types.l0 k1 a0 y233 (wrap64 (x4_1 + 1))) = some r := by first | (rw [hy233]; with_reducible exact H) | (have H2_ := (Option.bind_some _ _).symm.trans H; rw [hy233]; with_reducible exact H2_) | (have H2_ := (Option.bind_some _ _).symm.trans H; with_reducible exact H2_) | with_reducible exact H | (rw [hy233]; exact H) | exact H
        have Ny233 := zm_ hy233; clear hy233; have H' := zm_ H; clear H; have p4 : 0 ≤ (x4_1 : Int) := od_; have q4 : x4_1 < (a0.size : Int) := od_; have hx4 := bt_at a0 x4_1; replace p4 := eq_true p4; replace q4 := eq_true q4; go_wp2_with (first | ((with_reducible refine gate_builtin (b := .append) (xs := #[.tmp 21, .tmp 22]) rfl ?_); at_builtin; refine Kd.R_append (Kd.int .i64) (w0 := w) w.heap.size rfl (.tmp 21) (.tmp 22) 28 3 (.int .i64 0) 8 rfl Tryz.underlying28 info3 rfl (by decide) (by omega) u3 x3_1 126 [.int .i64 126] (fun _ => True) (fun _ => False) rfl rfl ?aP (fun _ hk => hk.elim) ?aF ?aO ?aB ?aS ?aL ?_; (case aP => exact rfl); (case aB => exact bl_); (case aF => exact (fun _ _ => trivial)); (case aO => exact (rl_ HO_3)); (case aS => exact (below_size bl_)); (case aL => have := LMc9.out; omega); intro v234 w10 ho hb hg hat; rw [← Ny233.out] at ho; have n0_ := zm_ (hb); have n1_ := zm_ (ho); clear HB; clear HO_3; have HB := n0_; have HO235 := n1_; clear n0_ n1_; clear ho hb hg hat))
        go_roundg k1
        case measure => have := HK1.out; omega
        case rel => exact ⟨(y233), (wrap64 (x4_1 + 1)), rs_, H', ⟨by have := HK1.out; omega⟩, ⟨rl_ HO235⟩, ⟨bl_⟩⟩
       ·rw [if_neg c9] at H; exact absurd H (by simp)
      ·rw [if_neg c8] at H; have c8b0 : ((bt a0 x4_1) == 108) = false := beq_eq_false_iff_ne.mpr c8; have c8b1 : ((bt a0 x4_1) != 108) = true := bne_iff_ne.mpr c8; by_cases c11 : (bt a0 x4_1) = 102
       ·rw [if_pos c11] at H; have c11b0 : ((bt a0 x4_1) == 102) = true := beq_iff_eq.mpr c11; have c11b1 : ((bt a0 x4_1) != 102) = false := bne_eq_false_iff_eq.mpr c11; clear c11; by_cases c12 : x3_1.length < 17592186044416
        ·rw [if_pos c12] at H; have LMc12 := zm_ c12; clear c12; obtain ⟨y236, hy236⟩ : ∃ y_ : List Int, y_ = (x3_1 ++ [125]) := ⟨_, rfl⟩
         replace H : (bodkinref05_Types.l0 k1 a0 y236 (wrap64 (x4_1 + 1))) = some r := by first | (rw [hy236]; with_reducible exact H) | (have H2_ := (Option.bind_some _ _).symm.trans H; rw [hy236]; with_reducible exact H2_) | (have H2_ := (Option.bind_some _ _).symm.trans H; with_reducible exact H2_) | with_reducible exact H | (rw [hy236]; exact H) | exact H
         have Ny236 := zm_ hy236; clear hy236; have H' := zm_ H; clear H; have p4 : 0 ≤ (x4_1 : Int) := od_; have q4 : x4_1 < (a0.size : Int) := od_; have hx4 := bt_at a0 x4_1; replace p4 := eq_true p4; replace q4 := eq_true q4; go_wp2_with (first | ((with_reducible refine gate_builtin (b := .append) (xs := #[.tmp 26, .tmp 27]) rfl ?_); at_builtin; refine Kd.R_append (Kd.int .i64) (w0 := w) w.heap.size rfl (.tmp 26) (.tmp 27) 28 3 (.int .i64 0) 8 rfl Tryz.underlying28 info3 rfl (by decide) (by omega) u3 x3_1 125 [.int .i64 125] (fun _ => True) (fun _ => False) rfl rfl ?aP (fun _ hk => hk.elim) ?aF ?aO ?aB ?aS ?aL ?_; (case aP => exact rfl); (case aB => exact bl_); (case aF => exact (fun _ _ => trivial)); (case aO => exact (rl_ HO_3)); (case aS => exact (below_size bl_)); (case aL => have := LMc12.out; omega); intro v237 w13 ho hb hg hat; rw [← Ny236.out] at ho; have n0_ := zm_ (hb); have n1_ := zm_ (ho); clear HB; clear HO_3; have HB := n0_; have HO238 := n1_; clear n0_ n1_; clear ho hb hg hat))
         go_roundg k1
         case measure => have := HK1.out; omega
         case rel => exact ⟨(y236), (wrap64 (x4_1 + 1)), rs_, H', ⟨by have := HK1.out; omega⟩, ⟨rl_ HO238⟩, ⟨bl_⟩⟩
        ·rw [if_neg c12] at H; exact absurd H (by simp)
       ·rw [if_neg c11] at H; have c11b0 : ((bt a0 x4_1) == 102) = false := beq_eq_false_iff_ne.mpr c11; have c11b1 : ((bt a0 x4_1) != 102) = true := bne_iff_ne.mpr c11; by_cases c14 : (bt a0 x4_1) = 100
        ·rw [if_pos c14] at H; have c14b0 : ((bt a0 x4_1) == 100) = true := beq_iff_eq.mpr c14; have c14b1 : ((bt a0 x4_1) != 100) = false := bne_eq_false_iff_eq.mpr c14; clear c14; by_cases c15 : x3_1.length < 17592186044416
         ·rw [if_pos c15] at H; have LMc15 := zm_ c15; clear c15; obtain ⟨y239, hy239⟩ : ∃ y_ : List Int, y_ = (x3_1 ++ [124]) := ⟨_, rfl⟩
          replace H : (bodkinref05_Types.l0 k1 a0 y239 (wrap64 (x4_1 + 1))) = some r := by first | (rw [hy239]; with_reducible exact H) | (have H2_ := (Option.bind_some _ _).symm.trans H; rw [hy239]; with_reducible exact H2_) | (have H2_ := (Option.bind_some _ _).symm.trans H; with_reducible exact H2_) | with_reducible exact H | (rw [hy239]; exact H) | exact H
          have Ny239 := zm_ hy239; clear hy239; have H' := zm_ H; clear H; have p4 : 0 ≤ (x4_1 : Int) := od_; have q4 : x4_1 < (a0.size : Int) := od_; have hx4 := bt_at a0 x4_1; replace p4 := eq_true p4; replace q4 := eq_true q4; go_wp2_with (first | ((with_reducible refine gate_builtin (b := .append) (xs := #[.tmp 31, .tmp 32]) rfl ?_); at_builtin; refine Kd.R_append (Kd.int .i64) (w0 := w) w.heap.size rfl (.tmp 31) (.tmp 32) 28 3 (.int .i64 0) 8 rfl Tryz.underlying28 info3 rfl (by decide) (by omega) u3 x3_1 124 [.int .i64 124] (fun _ => True) (fun _ => False) rfl rfl ?aP (fun _ hk => hk.elim) ?aF ?aO ?aB ?aS ?aL ?_; (case aP => exact rfl); (case aB => exact bl_); (case aF => exact (fun _ _ => trivial)); (case aO => exact (rl_ HO_3)); (case aS => exact (below_size bl_)); (case aL => have := LMc15.out; omega); intro v240 w16 ho hb hg hat; rw [← Ny239.out] at ho; have n0_ := zm_ (hb); have n1_ := zm_ (ho); clear HB; clear HO_3; have HB := n0_; have HO241 := n1_; clear n0_ n1_; clear ho hb hg hat))
          go_roundg k1
          case measure => have := HK1.out; omega
          case rel => exact ⟨(y239), (wrap64 (x4_1 + 1)), rs_, H', ⟨by have := HK1.out; omega⟩, ⟨rl_ HO241⟩, ⟨bl_⟩⟩
         ·rw [if_neg c15] at H; exact absurd H (by simp)
        ·rw [if_neg c14] at H; have c14b0 : ((bt a0 x4_1) == 100) = false := beq_eq_false_iff_ne.mpr c14; have c14b1 : ((bt a0 x4_1) != 100) = true := bne_iff_ne.mpr c14; by_cases c17 : (bt a0 x4_1) = 118
         ·rw [if_pos c17] at H; have c17b0 : ((bt a0 x4_1) == 118) = true := beq_iff_eq.mpr c17; have c17b1 : ((bt a0 x4_1) != 118) = false := bne_eq_false_iff_eq.mpr c17; clear c17; by_cases c18 : x3_1.length < 17592186044416
          ·rw [if_pos c18] at H; have LMc18 := zm_ c18; clear c18; obtain ⟨y242, hy242⟩ : ∃ y_ : List Int, y_ = (x3_1 ++ [123]) := ⟨_, rfl⟩
           replace H : (bodkinref05_Types.l0 k1 a0 y242 (wrap64 (x4_1 + 1))) = some r := by first | (rw [hy242]; with_reducible exact H) | (have H2_ := (Option.bind_some _ _).symm.trans H; rw [hy242]; with_reducible exact H2_) | (have H2_ := (Option.bind_some _ _).symm.trans H; with_reducible exact H2_) | with_reducible exact H | (rw [hy242]; exact H) | exact H
           have Ny242 := zm_ hy242; clear hy242; have H' := zm_ H; clear H; have p4 : 0 ≤ (x4_1 : Int) := od_; have q4 : x4_1 < (a0.size : Int) := od_; have hx4 := bt_at a0 x4_1; replace p4 := eq_true p4; replace q4 := eq_true q4; go_wp2_with (first | ((with_reducible refine gate_builtin (b := .append) (xs := #[.tmp 36, .tmp 37]) rfl ?_); at_builtin; refine Kd.R_append (Kd.int .i64) (w0 := w) w.heap.size rfl (.tmp 36) (.tmp 37) 28 3 (.int .i64 0) 8 rfl Tryz.underlying28 info3 rfl (by decide) (by omega) u3 x3_1 123 [.int .i64 123] (fun _ => True) (fun _ => False) rfl rfl ?aP (fun _ hk => hk.elim) ?aF ?aO ?aB ?aS ?aL ?_; (case aP => exact rfl); (case aB => exact bl_); (case aF => exact (fun _ _ => trivial)); (case aO => exact (rl_ HO_3)); (case aS => exact (below_size bl_)); (case aL => have := LMc18.out; omega); intro v243 w19 ho hb hg hat; rw [← Ny242.out] at ho; have n0_ := zm_ (hb); have n1_ := zm_ (ho); clear HB; clear HO_3; have HB := n0_; have HO244 := n1_; clear n0_ n1_; clear ho hb hg hat))
           go_roundg k1
           case measure => have := HK1.out; omega
           case rel => exact ⟨(y242), (wrap64 (x4_1 + 1)), rs_, H', ⟨by have := HK1.out; omega⟩, ⟨rl_ HO244⟩, ⟨bl_⟩⟩
          ·rw [if_neg c18] at H; exact absurd H (by simp)
         ·rw [if_neg c17] at H; have c17b0 : ((bt a0 x4_1) == 118) = false := beq_eq_false_iff_ne.mpr c17; have c17b1 : ((bt a0 x4_1) != 118) = true := bne_iff_ne.mpr c17; by_cases c20 : (bt a0 x4_1) = 110
          ·rw [if_pos c20] at H; have c20b0 : ((bt a0 x4_1) == 110) = true := beq_iff_eq.mpr c20; have c20b1 : ((bt a0 x4_1) != 110) = false := bne_eq_false_iff_eq.mpr c20; clear c20; by_cases c21 : x3_1.length < 17592186044416
           ·rw [if_pos c21] at H; have LMc21 := zm_ c21; clear c21; obtain ⟨y245, hy245⟩ : ∃ y_ : List Int, y_ = (x3_1 ++ [112]) := ⟨_, rfl⟩
            replace H : (bodkinref05_Types.l0 k1 a0 y245 (wrap64 (x4_1 + 1))) = some r := by first | (rw [hy245]; with_reducible exact H) | (have H2_ := (Option.bind_some _ _).symm.trans H; rw [hy245]; with_reducible exact H2_) | (have H2_ := (Option.bind_some _ _).symm.trans H; with_reducible exact H2_) | with_reducible exact H | (rw [hy245]; exact H) | exact H
            have Ny245 := zm_ hy245; clear hy245; have H' := zm_ H; clear H; have p4 : 0 ≤ (x4_1 : Int) := od_; have q4 : x4_1 < (a0.size : Int) := od_; have hx4 := bt_at a0 x4_1; replace p4 := eq_true p4; replace q4 := eq_true q4; go_wp2_with (first | ((with_reducible refine gate_builtin (b := .append) (xs := #[.tmp 41, .tmp 42]) rfl ?_); at_builtin; refine Kd.R_append (Kd.int .i64) (w0 := w) w.heap.size rfl (.tmp 41) (.tmp 42) 28 3 (.int .i64 0) 8 rfl Tryz.underlying28 info3 rfl (by decide) (by omega) u3 x3_1 112 [.int .i64 112] (fun _ => True) (fun _ => False) rfl rfl ?aP (fun _ hk => hk.elim) ?aF ?aO ?aB ?aS ?aL ?_; (case aP => exact rfl); (case aB => exact bl_); (case aF => exact (fun _ _ => trivial)); (case aO => exact (rl_ HO_3)); (case aS => exact (below_size bl_)); (case aL => have := LMc21.out; omega); intro v246 w22 ho hb hg hat; rw [← Ny245.out] at ho; have n0_ := zm_ (hb); have n1_ := zm_ (ho); clear HB; clear HO_3; have HB := n0_; have HO247 := n1_; clear n0_ n1_; clear ho hb hg hat))
            go_roundg k1
            case measure => have := HK1.out; omega
            case rel => exact ⟨(y245), (wrap64 (x4_1 + 1)), rs_, H', ⟨by have := HK1.out; omega⟩, ⟨rl_ HO247⟩, ⟨bl_⟩⟩
           ·rw [if_neg c21] at H; exact absurd H (by simp)
          ·rw [if_neg c20] at H; have c20b0 : ((bt a0 x4_1) == 110) = false := beq_eq_false_iff_ne.mpr c20; have c20b1 : ((bt a0 x4_1) != 110) = true := bne_iff_ne.mpr c20; have H' := zm_ H; clear H; have p4 : 0 ≤ (x4_1 : Int) := od_; have q4 : x4_1 < (a0.size : Int) := od_; have hx4 := bt_at a0 x4_1; replace p4 := eq_true p4; replace q4 := eq_true q4; go_wp2
           go_roundg k1
           case measure => have := HK1.out; omega
           case rel => exact ⟨(x3_1), (wrap64 (x4_1 + 1)), rs_, H', ⟨by have := HK1.out; omega⟩, ⟨rl_ HO_3⟩, ⟨bl_⟩⟩
    ·rw [if_neg c3] at H; exact absurd H (by simp)
   ·rw [if_neg c2] at H; have c2b0 : decide (x4_1 < (a0.size : Int)) = false := decide_eq_false c2; clear c2; obtain rfl := Option.some.inj H; go_wp2
    go_ret; exact ⟨_, er_, by (with_reducible repeat (first | apply Kd.R_alloc | apply Kd.R_drewN | apply Kd.R_drew)); exact HO_3.out, bl_⟩
def bodkinref07_Numeric.f (k : Nat) (a0 : Int) : Option (Bool) := (bodkinref05_Of.f k a0).bind fun bt248 => (if bt248.1 < 0 then (some false) else (if a0 ≥ 69 then (if a0 ≤ 196 then (some true) else (if a0 ≥ 64512 then (if a0 ≤ 64519 then (some true) else (if a0 ≥ 64768 then (if bt248.2.2.1 = 0 then (some true) else (if bt248.2.2.1 = 24 then (some true) else (some (bt248.2.2.1 == 25)))) else (none))) else (none))) else (none)))
theorem bodkinref07_Numeric.mono : ∀ a0 k, LeO (bodkinref07_Numeric.f k a0) (bodkinref07_Numeric.f (k + 1) a0) := by
 intro a0 k; unfold bodkinref07_Numeric.f
 repeat' first
   | (with_reducible exact bodkinref05_Of.mono _ _)
   | (with_reducible exact LeO.refl _)
   | (with_reducible exact LeO.none _)
   | (with_reducible refine LeO.ite ?_ ?_)
   | (with_reducible refine LeO.bind ?_ (fun _ => ?_))
   | exact bodkinref05_Of.mono _ _
   | exact LeO.none _
   | refine LeO.ite ?_ ?_
   | refine LeO.bind ?_ (fun _ => ?_)
theorem bodkinref07_Numeric.calls (k : Nat) (a0 : Int) (r : Bool) (w : World) (h : bodkinref07_Numeric.f k a0 = some r) (hG : GD w := by first | assumption | exact GD.below (by assumption) (by repeat (first | exact Aside0.out (by assumption) | exact Below.refl _ _ | assumption | apply below_alloc | apply pw_below_drewN | apply below_drew1 | refine below_set ?_ (Aside0.out (by assumption))))) :
  Calls Tryz.prog 18 #[.int .i64 a0] w fun e w' => e = .returned (.bool r) ∧ Below w.heap.size w w' := by
 have hu25 := Tryz.underlying25; have HB := zm_ (Below.refl w.heap.size w); have H : ((bodkinref05_Of.f k a0).bind fun bt248 => (if bt248.1 < 0 then (some false) else (if a0 ≥ 69 then (if a0 ≤ 196 then (some true) else (if a0 ≥ 64512 then (if a0 ≤ 64519 then (some true) else (if a0 ≥ 64768 then (if bt248.2.2.1 = 0 then (some true) else (if bt248.2.2.1 = 24 then (some true) else (some (bt248.2.2.1 == 25)))) else (none))) else (none))) else (none)))) = some r := h; clear h; replace H := Option.bind_eq_some_iff.mp H; obtain ⟨⟨t248, t249, t250, t251, t252, t253⟩, A20, H⟩ := H; replace H : (if t248 < 0 then (some false) else (if a0 ≥ 69 then (if a0 ≤ 196 then (some true) else (if a0 ≥ 64512 then (if a0 ≤ 64519 then (some true) else (if a0 ≥ 64768 then (if t250 = 0 then (some true) else (if t250 = 24 then (some true) else (some (t250 == 25)))) else (none))) else (none))) else (none))) = some r := H; have A2 := zm_ A20; clear A20; by_cases c3 : t248 < 0
 ·rw [if_pos c3] at H; have c3b0 : decide (t248 < 0) = true := decide_eq_true c3; clear c3; obtain rfl := Option.some.inj H; go_enter Tryz.func18, Tryz.ntmps18
  go_wp2_with (first | ((with_reducible refine gate_callee (f := 13) rfl ?_); refine goesL_ (some 5) rfl rfl Tryz.func13 (by kernel_rfl) rfl #[.int .i64 a0] rfl mp_ ?_; (with_reducible refine (bodkinref05_Of.calls k a0 t248 t249 t250 t251 t252 t253 _ A2.out).mono ?_); rintro e w4 ⟨rfl, hb⟩; refine ⟨_, rfl, ?_⟩; have n0_ := zm_ (below_step bl_ hb); clear HB; have HB := n0_; clear n0_; (try clear hb); (try clear hb2); (try clear hk); (try clear hi)) | ((with_reducible refine gate_dst (N := 3) rfl ?_); refine box_event ?hg (N := 3) ?hd (cs := #[.int .i64 0, .string (⟨#[]⟩ : ByteArray), .int .i64 0, .string (⟨#[]⟩ : ByteArray), .string (⟨#[]⟩ : ByteArray), .bool false]) (t := 25) ?hr ?_; (case hd => rfl); (case hg => rfl); (case hr => first | (go_simp; done) | (go_simp; rfl)); intro gb254 hg w5 hbox hb; have n0_ := zm_ (below_step bl_ hb); have n1_ := zm_ (hbox); have n2_ := zm_ ((by rw [hg]; exact (below_size bl_) : w.heap.size ≤ gb254)); have n3_ := zm_ ((by rw [hg]; exact (below_size bl_) : w.heap.size ≤ gb254)); clear HB; have HB := n0_; have BK254 := n1_; have GW254 := n2_; have GE254 := n3_; clear n0_ n1_ n2_ n3_; clear hb hbox hg; have hcz6_0 := zl_ BK254 0 (.int .i64 0); have hcz6_1 := zl_ BK254 1 (.string (⟨#[]⟩ : ByteArray)); have hcz6_2 := zl_ BK254 2 (.int .i64 0); have hcz6_3 := zl_ BK254 3 (.string (⟨#[]⟩ : ByteArray)); have hcz6_4 := zl_ BK254 4 (.string (⟨#[]⟩ : ByteArray)); have hcz6_5 := zl_ BK254 5 (.bool false); have hfz6_0 := blk_frozen BK254.out 0; have hfz6_1 := blk_frozen BK254.out 1; have hfz6_2 := blk_frozen BK254.out 2; have hfz6_3 := blk_frozen BK254.out 3; have hfz6_4 := blk_frozen BK254.out 4; have hfz6_5 := blk_frozen BK254.out 5))
  go_ret; exact ⟨er_, bs_⟩
 ·rw [if_neg c3] at H; have c3b0 : decide (t248 < 0) = false := decide_eq_false c3; clear c3; by_cases c7 : a0 ≥ 69
  ·rw [if_pos c7] at H; have c7b0 : decide (69 ≤ a0) = true := decide_eq_true c7; clear c7; by_cases c8 : a0 ≤ 196
   ·rw [if_pos c8] at H; have c8b0 : decide (a0 ≤ 196) = true := decide_eq_true c8; clear c8; obtain rfl := Option.some.inj H; go_enter Tryz.func18, Tryz.ntmps18
    go_wp2_with (first | ((with_reducible refine gate_callee (f := 13) rfl ?_); refine goesL_ (some 5) rfl rfl Tryz.func13 (by kernel_rfl) rfl #[.int .i64 a0] rfl mp_ ?_; (with_reducible refine (bodkinref05_Of.calls k a0 t248 t249 t250 t251 t252 t253 _ A2.out).mono ?_); rintro e w9 ⟨rfl, hb⟩; refine ⟨_, rfl, ?_⟩; have n0_ := zm_ (below_step bl_ hb); clear HB; have HB := n0_; clear n0_; (try clear hb); (try clear hb2); (try clear hk); (try clear hi)) | ((with_reducible refine gate_dst (N := 3) rfl ?_); refine box_event ?hg (N := 3) ?hd (cs := #[.int .i64 0, .string (⟨#[]⟩ : ByteArray), .int .i64 0, .string (⟨#[]⟩ : ByteArray), .string (⟨#[]⟩ : ByteArray), .bool false]) (t := 25) ?hr ?_; (case hd => rfl); (case hg => rfl); (case hr => first | (go_simp; done) | (go_simp; rfl)); intro gb254 hg w10 hbox hb; have n0_ := zm_ (below_step bl_ hb); have n1_ := zm_ (hbox); have n2_ := zm_ ((by rw [hg]; exact (below_size bl_) : w.heap.size ≤ gb254)); have n3_ := zm_ ((by rw [hg]; exact (below_size bl_) : w.heap.size ≤ gb254)); clear HB; have HB := n0_; have BK254 := n1_; have GW254 := n2_; have GE254 := n3_; clear n0_ n1_ n2_ n3_; clear hb hbox hg; have hcz11_0 := zl_ BK254 0 (.int .i64 0); have hcz11_1 := zl_ BK254 1 (.string (⟨#[]⟩ : ByteArray)); have hcz11_2 := zl_ BK254 2 (.int .i64 0); have hcz11_3 := zl_ BK254 3 (.string (⟨#[]⟩ : ByteArray)); have hcz11_4 := zl_ BK254 4 (.string (⟨#[]⟩ : ByteArray)); have hcz11_5 := zl_ BK254 5 (.bool false); have hfz11_0 := blk_frozen BK254.out 0; have hfz11_1 := blk_frozen BK254.out 1; have hfz11_2 := blk_frozen BK254.out 2; have hfz11_3 := blk_frozen BK254.out 3; have hfz11_4 := blk_frozen BK254.out 4; have hfz11_5 := blk_frozen BK254.out 5))
    go_ret; exact ⟨er_, bs_⟩
   ·rw [if_neg c8] at H; have c8b0 : decide (a0 ≤ 196) = false := decide_eq_false c8; clear c8; by_cases c12 : a0 ≥ 64512
    ·rw [if_pos c12] at H; have c12b0 : decide (64512 ≤ a0) = true := decide_eq_true c12; clear c12; by_cases c13 : a0 ≤ 64519
     ·rw [if_pos c13] at H; have c13b0 : decide (a0 ≤ 64519) = true := decide_eq_true c13; clear c13; obtain rfl := Option.some.inj H; go_enter Tryz.func18, Tryz.ntmps18
      go_wp2_with (first | ((with_reducible refine gate_callee (f := 13) rfl ?_); refine goesL_ (some 5) rfl rfl Tryz.func13 (by kernel_rfl) rfl #[.int .i64 a0] rfl mp_ ?_; (with_reducible refine (bodkinref05_Of.calls k a0 t248 t249 t250 t251 t252 t253 _ A2.out).mono ?_); rintro e w14 ⟨rfl, hb⟩; refine ⟨_, rfl, ?_⟩; have n0_ := zm_ (below_step bl_ hb); clear HB; have HB := n0_; clear n0_; (try clear hb); (try clear hb2); (try clear hk); (try clear hi)) | ((with_reducible refine gate_dst (N := 3) rfl ?_); refine box_event ?hg (N := 3) ?hd (cs := #[.int .i64 0, .string (⟨#[]⟩ : ByteArray), .int .i64 0, .string (⟨#[]⟩ : ByteArray), .string (⟨#[]⟩ : ByteArray), .bool false]) (t := 25) ?hr ?_; (case hd => rfl); (case hg => rfl); (case hr => first | (go_simp; done) | (go_simp; rfl)); intro gb254 hg w15 hbox hb; have n0_ := zm_ (below_step bl_ hb); have n1_ := zm_ (hbox); have n2_ := zm_ ((by rw [hg]; exact (below_size bl_) : w.heap.size ≤ gb254)); have n3_ := zm_ ((by rw [hg]; exact (below_size bl_) : w.heap.size ≤ gb254)); clear HB; have HB := n0_; have BK254 := n1_; have GW254 := n2_; have GE254 := n3_; clear n0_ n1_ n2_ n3_; clear hb hbox hg; have hcz16_0 := zl_ BK254 0 (.int .i64 0); have hcz16_1 := zl_ BK254 1 (.string (⟨#[]⟩ : ByteArray)); have hcz16_2 := zl_ BK254 2 (.int .i64 0); have hcz16_3 := zl_ BK254 3 (.string (⟨#[]⟩ : ByteArray)); have hcz16_4 := zl_ BK254 4 (.string (⟨#[]⟩ : ByteArray)); have hcz16_5 := zl_ BK254 5 (.bool false); have hfz16_0 := blk_frozen BK254.out 0; have hfz16_1 := blk_frozen BK254.out 1; have hfz16_2 := blk_frozen BK254.out 2; have hfz16_3 := blk_frozen BK254.out 3; have hfz16_4 := blk_frozen BK254.out 4; have hfz16_5 := blk_frozen BK254.out 5))
      go_ret; exact ⟨er_, bs_⟩
     ·rw [if_neg c13] at H; have c13b0 : decide (a0 ≤ 64519) = false := decide_eq_false c13; clear c13; by_cases c17 : a0 ≥ 64768
      ·rw [if_pos c17] at H; have c17b0 : decide (64768 ≤ a0) = true := decide_eq_true c17; clear c17; by_cases c18 : t250 = 0
       ·rw [if_pos c18] at H; have c18b0 : (t250 == 0) = true := beq_iff_eq.mpr c18; have c18b1 : (t250 != 0) = false := bne_eq_false_iff_eq.mpr c18; clear c18; obtain rfl := Option.some.inj H; go_enter Tryz.func18, Tryz.ntmps18
        go_wp2_with (first | ((with_reducible refine gate_callee (f := 13) rfl ?_); refine goesL_ (some 5) rfl rfl Tryz.func13 (by kernel_rfl) rfl #[.int .i64 a0] rfl mp_ ?_; (with_reducible refine (bodkinref05_Of.calls k a0 t248 t249 t250 t251 t252 t253 _ A2.out).mono ?_); rintro e w19 ⟨rfl, hb⟩; refine ⟨_, rfl, ?_⟩; have n0_ := zm_ (below_step bl_ hb); clear HB; have HB := n0_; clear n0_; (try clear hb); (try clear hb2); (try clear hk); (try clear hi)) | ((with_reducible refine gate_dst (N := 3) rfl ?_); refine box_event ?hg (N := 3) ?hd (cs := #[.int .i64 0, .string (⟨#[]⟩ : ByteArray), .int .i64 0, .string (⟨#[]⟩ : ByteArray), .string (⟨#[]⟩ : ByteArray), .bool false]) (t := 25) ?hr ?_; (case hd => rfl); (case hg => rfl); (case hr => first | (go_simp; done) | (go_simp; rfl)); intro gb254 hg w20 hbox hb; have n0_ := zm_ (below_step bl_ hb); have n1_ := zm_ (hbox); have n2_ := zm_ ((by rw [hg]; exact (below_size bl_) : w.heap.size ≤ gb254)); have n3_ := zm_ ((by rw [hg]; exact (below_size bl_) : w.heap.size ≤ gb254)); clear HB; have HB := n0_; have BK254 := n1_; have GW254 := n2_; have GE254 := n3_; clear n0_ n1_ n2_ n3_; clear hb hbox hg; have hcz21_0 := zl_ BK254 0 (.int .i64 0); have hcz21_1 := zl_ BK254 1 (.string (⟨#[]⟩ : ByteArray)); have hcz21_2 := zl_ BK254 2 (.int .i64 0); have hcz21_3 := zl_ BK254 3 (.string (⟨#[]⟩ : ByteArray)); have hcz21_4 := zl_ BK254 4 (.string (⟨#[]⟩ : ByteArray)); have hcz21_5 := zl_ BK254 5 (.bool false); have hfz21_0 := blk_frozen BK254.out 0; have hfz21_1 := blk_frozen BK254.out 1; have hfz21_2 := blk_frozen BK254.out 2; have hfz21_3 := blk_frozen BK254.out 3; have hfz21_4 := blk_frozen BK254.out 4; have hfz21_5 := blk_frozen BK254.out 5))
        go_ret; exact ⟨er_, bs_⟩
       ·rw [if_neg c18] at H; have c18b0 : (t250 == 0) = false := beq_eq_false_iff_ne.mpr c18; have c18b1 : (t250 != 0) = true := bne_iff_ne.mpr c18; by_cases c22 : t250 = 24
        ·rw [if_pos c22] at H; have c22b0 : (t250 == 24) = true := beq_iff_eq.mpr c22; have c22b1 : (t250 != 24) = false := bne_eq_false_iff_eq.mpr c22; clear c22; obtain rfl := Option.some.inj H; go_enter Tryz.func18, Tryz.ntmps18
         go_wp2_with (first | ((with_reducible refine gate_callee (f := 13) rfl ?_); refine goesL_ (some 5) rfl rfl Tryz.func13 (by kernel_rfl) rfl #[.int .i64 a0] rfl mp_ ?_; (with_reducible refine (bodkinref05_Of.calls k a0 t248 t249 t250 t251 t252 t253 _ A2.out).mono ?_); rintro e w23 ⟨rfl, hb⟩; refine ⟨_, rfl, ?_⟩; have n0_ := zm_ (below_step bl_ hb); clear HB; have HB := n0_; clear n0_; (try clear hb); (try clear hb2); (try clear hk); (try clear hi)) | ((with_reducible refine gate_dst (N := 3) rfl ?_); refine box_event ?hg (N := 3) ?hd (cs := #[.int .i64 0, .string (⟨#[]⟩ : ByteArray), .int .i64 0, .string (⟨#[]⟩ : ByteArray), .string (⟨#[]⟩ : ByteArray), .bool false]) (t := 25) ?hr ?_; (case hd => rfl); (case hg => rfl); (case hr => first | (go_simp; done) | (go_simp; rfl)); intro gb254 hg w24 hbox hb; have n0_ := zm_ (below_step bl_ hb); have n1_ := zm_ (hbox); have n2_ := zm_ ((by rw [hg]; exact (below_size bl_) : w.heap.size ≤ gb254)); have n3_ := zm_ ((by rw [hg]; exact (below_size bl_) : w.heap.size ≤ gb254)); clear HB; have HB := n0_; have BK254 := n1_; have GW254 := n2_; have GE254 := n3_; clear n0_ n1_ n2_ n3_; clear hb hbox hg; have hcz25_0 := zl_ BK254 0 (.int .i64 0); have hcz25_1 := zl_ BK254 1 (.string (⟨#[]⟩ : ByteArray)); have hcz25_2 := zl_ BK254 2 (.int .i64 0); have hcz25_3 := zl_ BK254 3 (.string (⟨#[]⟩ : ByteArray)); have hcz25_4 := zl_ BK254 4 (.string (⟨#[]⟩ : ByteArray)); have hcz25_5 := zl_ BK254 5 (.bool false); have hfz25_0 := blk_frozen BK254.out 0; have hfz25_1 := blk_frozen BK254.out 1; have hfz25_2 := blk_frozen BK254.out 2; have hfz25_3 := blk_frozen BK254.out 3; have hfz25_4 := blk_frozen BK254.out 4; have hfz25_5 := blk_frozen BK254.out 5))
         go_ret; exact ⟨er_, bs_⟩
        ·rw [if_neg c22] at H; have c22b0 : (t250 == 24) = false := beq_eq_false_iff_ne.mpr c22; have c22b1 : (t250 != 24) = true := bne_iff_ne.mpr c22; obtain rfl := Option.some.inj H; go_enter Tryz.func18, Tryz.ntmps18
         go_wp2_with (first | ((with_reducible refine gate_callee (f := 13) rfl ?_); refine goesL_ (some 5) rfl rfl Tryz.func13 (by kernel_rfl) rfl #[.int .i64 a0] rfl mp_ ?_; (with_reducible refine (bodkinref05_Of.calls k a0 t248 t249 t250 t251 t252 t253 _ A2.out).mono ?_); rintro e w26 ⟨rfl, hb⟩; refine ⟨_, rfl, ?_⟩; have n0_ := zm_ (below_step bl_ hb); clear HB; have HB := n0_; clear n0_; (try clear hb); (try clear hb2); (try clear hk); (try clear hi)) | ((with_reducible refine gate_dst (N := 3) rfl ?_); refine box_event ?hg (N := 3) ?hd (cs := #[.int .i64 0, .string (⟨#[]⟩ : ByteArray), .int .i64 0, .string (⟨#[]⟩ : ByteArray), .string (⟨#[]⟩ : ByteArray), .bool false]) (t := 25) ?hr ?_; (case hd => rfl); (case hg => rfl); (case hr => first | (go_simp; done) | (go_simp; rfl)); intro gb254 hg w27 hbox hb; have n0_ := zm_ (below_step bl_ hb); have n1_ := zm_ (hbox); have n2_ := zm_ ((by rw [hg]; exact (below_size bl_) : w.heap.size ≤ gb254)); have n3_ := zm_ ((by rw [hg]; exact (below_size bl_) : w.heap.size ≤ gb254)); clear HB; have HB := n0_; have BK254 := n1_; have GW254 := n2_; have GE254 := n3_; clear n0_ n1_ n2_ n3_; clear hb hbox hg; have hcz28_0 := zl_ BK254 0 (.int .i64 0); have hcz28_1 := zl_ BK254 1 (.string (⟨#[]⟩ : ByteArray)); have hcz28_2 := zl_ BK254 2 (.int .i64 0); have hcz28_3 := zl_ BK254 3 (.string (⟨#[]⟩ : ByteArray)); have hcz28_4 := zl_ BK254 4 (.string (⟨#[]⟩ : ByteArray)); have hcz28_5 := zl_ BK254 5 (.bool false); have hfz28_0 := blk_frozen BK254.out 0; have hfz28_1 := blk_frozen BK254.out 1; have hfz28_2 := blk_frozen BK254.out 2; have hfz28_3 := blk_frozen BK254.out 3; have hfz28_4 := blk_frozen BK254.out 4; have hfz28_5 := blk_frozen BK254.out 5))
         go_ret; exact ⟨er_, bs_⟩
      ·rw [if_neg c17] at H; exact absurd H (by simp)
    ·rw [if_neg c12] at H; exact absurd H (by simp)
  ·rw [if_neg c7] at H; exact absurd H (by simp)
def bodkinref02_Cut.l0 : Nat → Int → Int → Int → Int → Option (Int)
 | 0, _, _, _, _ => none
 | k + 1, x0, x1, x5, x6 => if x6 < x0 then (bodkinref02_Cut.l0 k x0 x1 (IntKind.u64.wrap (x5 * 2)) (wrap64 (x6 + 1))) else (if x5 = 0 then (none) else (some (Int.tmod x1 x5)))
def bodkinref02_Cut.f (k : Nat) (a0 : Int) (a1 : Int) : Option (Int) := if a0 = 64 then (some a1) else (bodkinref02_Cut.l0 k a0 a1 1 0)
theorem bodkinref02_Cut.mono_l : ∀ k, (∀ y0 y1 y2 y3, LeO (bodkinref02_Cut.l0 k y0 y1 y2 y3) (bodkinref02_Cut.l0 (k + 1) y0 y1 y2 y3))
 | 0 => fun _ _ _ _ r h => by simp [bodkinref02_Cut.l0] at h
 | k + 1 => by
  have ih0 := bodkinref02_Cut.mono_l k
  ·intro y0 y1 y2 y3; unfold bodkinref02_Cut.l0
   repeat' first
   | (with_reducible exact ih0 _ _ _ _)
   | (with_reducible exact LeO.refl _)
   | (with_reducible exact LeO.none _)
   | (with_reducible refine LeO.ite ?_ ?_)
   | (with_reducible refine LeO.bind ?_ (fun _ => ?_))
   | exact ih0 _ _ _ _
   | exact LeO.none _
   | refine LeO.ite ?_ ?_
   | refine LeO.bind ?_ (fun _ => ?_)
theorem bodkinref02_Cut.mono : ∀ a0 a1 k, LeO (bodkinref02_Cut.f k a0 a1) (bodkinref02_Cut.f (k + 1) a0 a1) := by
 intro a0 a1 k; have ih0 := bodkinref02_Cut.mono_l k; unfold bodkinref02_Cut.f
 repeat' first
   | (with_reducible exact ih0 _ _ _ _)
   | (with_reducible exact LeO.refl _)
   | (with_reducible exact LeO.none _)
   | (with_reducible refine LeO.ite ?_ ?_)
   | (with_reducible refine LeO.bind ?_ (fun _ => ?_))
   | exact ih0 _ _ _ _
   | exact LeO.none _
   | refine LeO.ite ?_ ?_
   | refine LeO.bind ?_ (fun _ => ?_)
theorem bodkinref02_Cut.calls (k : Nat) (a0 : Int) (a1 : Int) (r : Int) (w : World) (h : bodkinref02_Cut.f k a0 a1 = some r) (hG : GD w := by first | assumption | exact GD.below (by assumption) (by repeat (first | exact Aside0.out (by assumption) | exact Below.refl _ _ | assumption | apply below_alloc | apply pw_below_drewN | apply below_drew1 | refine below_set ?_ (Aside0.out (by assumption))))) :
  Calls Tryz.prog 54 #[.int .i64 a0, .int .u64 a1] w fun e w' => e = .returned (.int .u64 r) ∧ Drawn0 w w' := by
 have H : (if a0 = 64 then (some a1) else (bodkinref02_Cut.l0 k a0 a1 1 0)) = some r := h; clear h; by_cases c3 : a0 = 64
 ·rw [if_pos c3] at H; have c3b0 : (a0 == 64) = true := beq_iff_eq.mpr c3; have c3b1 : (a0 != 64) = false := bne_eq_false_iff_eq.mpr c3; clear c3; obtain rfl := Option.some.inj H; go_enter Tryz.func54, Tryz.ntmps54
  go_wp2
  go_ret; exact ⟨by first | rfl | (simp; done) | (simp [*]; done), by repeat (first | exact Drawn0.refl _ | apply Drawn0.step)⟩
 ·rw [if_neg c3] at H; have c3b0 : (a0 == 64) = false := beq_eq_false_iff_ne.mpr c3; have c3b1 : (a0 != 64) = true := bne_iff_ne.mpr c3; have H' := zm_ H; clear H; go_enter Tryz.func54, Tryz.ntmps54
  go_wp2
  go_loopg [5, 6] k (fun kq v5 v6 w' => ∃ (x5_1 : Int) (x6_1 : Int), v5 = .int .u64 x5_1 ∧ v6 = .int .i64 x6_1 ∧ Aside0 (bodkinref02_Cut.l0 kq a0 a1 x5_1 x6_1 = some r) ∧ Aside0 (kq ≤ k) ∧ Drawn0 w w')
  case atStart => exact ⟨(1), (0), rs_, rs_, H', ⟨Nat.le_refl _⟩, by repeat (first | exact Drawn0.refl _ | apply Drawn0.step)⟩
  case round =>
   clear H'; (try clear p2); (try clear c3); (try clear c3b0); (try clear c3b1)
   obtain ⟨x5_1, x6_1, rfl, rfl, HA, HK1, ⟨m1, rfl⟩⟩ := hrel
   cases gk with
   | zero => exact absurd HA.out (by simp [bodkinref02_Cut.l0])
   | succ k1 =>
    have H := HA.out; clear HA; simp only [bodkinref02_Cut.l0] at H; by_cases c4 : x6_1 < a0
    ·rw [if_pos c4] at H; have c4b0 : decide (x6_1 < a0) = true := decide_eq_true c4; clear c4; have H' := zm_ H; clear H; go_wp2
     go_roundg k1
     case measure => have := HK1.out; omega
     case rel => exact ⟨(IntKind.u64.wrap (x5_1 * 2)), (wrap64 (x6_1 + 1)), rs_, rs_, H', ⟨by have := HK1.out; omega⟩, by repeat (first | exact Drawn0.refl _ | apply Drawn0.step)⟩
    ·rw [if_neg c4] at H; have c4b0 : decide (x6_1 < a0) = false := decide_eq_false c4; clear c4; by_cases c5 : x5_1 = 0
     ·rw [if_pos c5] at H; exact absurd H (by simp)
     ·rw [if_neg c5] at H; have c5b0 : (x5_1 == 0) = false := beq_eq_false_iff_ne.mpr c5; have c5b1 : (x5_1 != 0) = true := bne_iff_ne.mpr c5; obtain rfl := Option.some.inj H; go_wp2
      go_ret; exact ⟨by first | rfl | (simp; done) | (simp [*]; done), by repeat (first | exact Drawn0.refl _ | apply Drawn0.step)⟩
end Go.Proofs.YtkhhhceeoljheaaGreatDoor.PFlo
set_option maxHeartbeats 8000000
set_option maxRecDepth 100000
namespace Go.Proofs.YtkhhhceeoljheaaGreatDoor.PFlo
open Go.RowKit Go.Proofs.YtkhhhceeoljheaaGreatDoorW.PrintWords Go.Proofs.YtkhhhceeoljheaaGreatDoorW.PrintLast Go.Proofs.YtkhhhceeoljheaaGreatDoorW.PrintMore
attribute [local go_sem] max2_int min2_int max_two min_two max_three min_three max_four min_four   
set_option linter.unusedVariables false
set_option linter.unusedSimpArgs false
def bodkinref07_Clean.j0 : Nat → Int → Bool → Int → Int → Int → Bool → Option (Int × Int × Int × Bool)
 | 0, _, _, _, _, _, _ => none
 | k + 1, x4, x5, x256000, x256001, x256002, x256003 => if x5 = true then ((bodkinref02_Cut.f k 32 x256001).bind fun t257 => (some (x256000, t257, 0, false))) else (if x4 = 123 then (some (x256000, x256001, x256002, false)) else (some (x256000, x256001, 0, false)))
def bodkinref07_Clean.f (k : Nat) (a0_0 : Int) (a0_1 : Int) (a0_2 : Int) (a0_3 : Bool) : Option (Int × Int × Int × Bool) := if a0_0 = 127 then (bodkinref07_Clean.j0 k a0_0 (a0_0 == 127) a0_0 a0_1 a0_2 a0_3) else (bodkinref07_Clean.j0 k a0_0 (a0_0 == 125) a0_0 a0_1 a0_2 a0_3)
theorem bodkinref07_Clean.mono_l : ∀ k, (∀ y0 y1 y2 y3 y4 y5, LeO (bodkinref07_Clean.j0 k y0 y1 y2 y3 y4 y5) (bodkinref07_Clean.j0 (k + 1) y0 y1 y2 y3 y4 y5))
 | 0 => fun _ _ _ _ _ _ r h => by simp [bodkinref07_Clean.j0] at h
 | k + 1 => by
  have ih0 := bodkinref07_Clean.mono_l k
  ·intro y0 y1 y2 y3 y4 y5; unfold bodkinref07_Clean.j0
   repeat' first
   | (with_reducible exact ih0 _ _ _ _ _ _)
   | (with_reducible exact bodkinref02_Cut.mono _ _ _)
   | (with_reducible exact LeO.refl _)
   | (with_reducible exact LeO.none _)
   | (with_reducible refine LeO.ite ?_ ?_)
   | (with_reducible refine LeO.bind ?_ (fun _ => ?_))
   | exact ih0 _ _ _ _ _ _
   | exact bodkinref02_Cut.mono _ _ _
   | exact LeO.none _
   | refine LeO.ite ?_ ?_
   | refine LeO.bind ?_ (fun _ => ?_)
theorem bodkinref07_Clean.mono : ∀ a0 a1 a2 a3 k, LeO (bodkinref07_Clean.f k a0 a1 a2 a3) (bodkinref07_Clean.f (k + 1) a0 a1 a2 a3) := by
 intro a0 a1 a2 a3 k; have ih0 := bodkinref07_Clean.mono_l k; unfold bodkinref07_Clean.f
 repeat' first
   | (with_reducible exact ih0 _ _ _ _ _ _)
   | (with_reducible exact bodkinref02_Cut.mono _ _ _)
   | (with_reducible exact LeO.refl _)
   | (with_reducible exact LeO.none _)
   | (with_reducible refine LeO.ite ?_ ?_)
   | (with_reducible refine LeO.bind ?_ (fun _ => ?_))
   | exact ih0 _ _ _ _ _ _
   | exact bodkinref02_Cut.mono _ _ _
   | exact LeO.none _
   | refine LeO.ite ?_ ?_
   | refine LeO.bind ?_ (fun _ => ?_)
theorem bodkinref07_Clean.calls (k : Nat) (a0_0 : Int) (a0_1 : Int) (a0_2 : Int) (a0_3 : Bool) (r1 : Int) (r2 : Int) (r3 : Int) (r4 : Bool) (w : World) (h : bodkinref07_Clean.f k a0_0 a0_1 a0_2 a0_3 = some (r1, r2, r3, r4)) (hG : GD w := by first | assumption | exact GD.below (by assumption) (by repeat (first | exact Aside0.out (by assumption) | exact Below.refl _ _ | assumption | apply below_alloc | apply pw_below_drewN | apply below_drew1 | refine below_set ?_ (Aside0.out (by assumption))))) :
  Calls Tryz.prog 33 #[.agg #[.int .i64 a0_0, .int .u64 a0_1, .int .u64 a0_2, .bool a0_3]] w fun e w' => e = .returned (.agg #[.int .i64 r1, .int .u64 r2, .int .u64 r3, .bool r4]) ∧ Below w.heap.size w w' := by
 have hu33 := Tryz.underlying33; have HB := zm_ (Below.refl w.heap.size w); have H : (if a0_0 = 127 then (bodkinref07_Clean.j0 k a0_0 (a0_0 == 127) a0_0 a0_1 a0_2 a0_3) else (bodkinref07_Clean.j0 k a0_0 (a0_0 == 125) a0_0 a0_1 a0_2 a0_3)) = some (r1, r2, r3, r4) := h; clear h; have HC2 := zm_ H; clear H; go_enter Tryz.func33, Tryz.ntmps33
 go_upto_if 5 with (first | ((with_reducible refine gate_dst (N := 1) rfl ?_); refine box_event ?hg (N := 1) ?hd (cs := #[.int .i64 a0_0, .int .u64 a0_1, .int .u64 a0_2, .bool a0_3]) (t := 33) ?hr ?_; (case hd => rfl); (case hg => rfl); (case hr => first | (go_simp; done) | (go_simp; rfl)); intro gb255 hg w3 hbox hb; have n0_ := zm_ (below_step bl_ hb); have n1_ := zm_ (hbox); have n2_ := zm_ ((by rw [hg]; exact (below_size bl_) : w.heap.size ≤ gb255)); have n3_ := zm_ ((by rw [hg]; exact (below_size bl_) : w.heap.size ≤ gb255)); clear HB; have HB := n0_; have BK255 := n1_; have GW255 := n2_; have GE255 := n3_; clear n0_ n1_ n2_ n3_; clear hb hbox hg) | ((with_reducible refine gate_dst (N := 2) rfl ?_); refine box_event ?hg (N := 2) ?hd (cs := #[.int .i64 0, .int .u64 0, .int .u64 0, .bool false]) (t := 33) ?hr ?_; (case hd => rfl); (case hg => rfl); (case hr => first | (go_simp; done) | (go_simp; rfl)); intro gb256 hg w4 hbox hb; have n0_ := zm_ (blk_below (g := gb255) (o := .cells #[.int .i64 a0_0, .int .u64 a0_1, .int .u64 a0_2, .bool a0_3] 33 (0, 0)) (by refine zb_ ?_; exact BK255.out) hb); have n1_ := zm_ (below_step bs_ hb); have n2_ := zm_ (hbox); have n3_ := zm_ ((by rw [hg]; exact (below_size bs_) : w.heap.size ≤ gb256)); have n4_ := zm_ ((by rw [hg]; exact (below_size bs_) : w.heap.size ≤ gb256)); have n5_ := zm_ ((by rw [hg]; exact Nat.ne_of_lt (blk_lt (g := gb255) (o := .cells #[.int .i64 a0_0, .int .u64 a0_1, .int .u64 a0_2, .bool a0_3] 33 (0, 0)) (by refine zb_ ?_; exact BK255.out)) : gb255 ≠ gb256)); have n6_ := zm_ ((by rw [hg]; exact Nat.ne_of_gt (blk_lt (g := gb255) (o := .cells #[.int .i64 a0_0, .int .u64 a0_1, .int .u64 a0_2, .bool a0_3] 33 (0, 0)) (by refine zb_ ?_; exact BK255.out)) : gb256 ≠ gb255)); clear BK255; clear HB; have BK255 := n0_; have HB := n1_; have BK256 := n2_; have GW256 := n3_; have GE256 := n4_; have NB255_256 := n5_; have NB256_255 := n6_; clear n0_ n1_ n2_ n3_ n4_ n5_ n6_; clear hb hbox hg; have hnb5 := NB255_256.out; have hnc5 := NB256_255.out; have hcz6_0 := zl_ BK255 0 (.int .i64 a0_0); have hcz6_1 := zl_ BK255 1 (.int .u64 a0_1); have hcz6_2 := zl_ BK255 2 (.int .u64 a0_2); have hcz6_3 := zl_ BK255 3 (.bool a0_3); have hfz6_0 := blk_frozen BK255.out 0; have hfz6_1 := blk_frozen BK255.out 1; have hfz6_2 := blk_frozen BK255.out 2; have hfz6_3 := blk_frozen BK255.out 3))
 (try simp only [Act.put, List.setIfInBounds_toArray, List.set_cons_zero, List.set_cons_succ])
 go_cut [5] (fun v5 wc => ∃ (kq : Nat) (x5_1 : Bool), v5 = .bool x5_1 ∧ Aside0 (bodkinref07_Clean.j0 kq a0_0 x5_1 a0_0 a0_1 a0_2 a0_3 = some (r1, r2, r3, r4)) ∧ Aside0 (kq ≤ k) ∧ Aside0 (wc.heap[gb255]? = some (.cells #[.int .i64 a0_0, .int .u64 a0_1, .int .u64 a0_2, .bool a0_3] 33 (0, 0))) ∧ Aside0 (wc.heap[gb256]? = some (.cells #[.int .i64 0, .int .u64 0, .int .u64 0, .bool false] 33 (0, 0))) ∧ Aside0 (Below w.heap.size w wc))
 case first =>
  have H := HC2.out; clear HC2; by_cases c7 : a0_0 = 127
  ·rw [if_pos c7] at H; have c7b0 : (a0_0 == 127) = true := beq_iff_eq.mpr c7; have c7b1 : (a0_0 != 127) = false := bne_eq_false_iff_eq.mpr c7; clear c7; (first | rw [c7b0] | (simp only [i64_w, i32_w]; rw [c7b0]) | skip)
   have H' := zm_ H; clear H; go_wp2
   go_meet
   case rel => exact ⟨_, ((a0_0 == 127)), rs_, H', ⟨by first | omega | exact Nat.le_refl _⟩, ⟨by refine zb_ ?_; exact BK255.out⟩, ⟨by refine zb_ ?_; exact BK256.out⟩, ⟨bs_⟩⟩
  ·rw [if_neg c7] at H; have c7b0 : (a0_0 == 127) = false := beq_eq_false_iff_ne.mpr c7; have c7b1 : (a0_0 != 127) = true := bne_iff_ne.mpr c7; (first | rw [c7b0] | (simp only [i64_w, i32_w]; rw [c7b0]) | skip)
   have H' := zm_ H; clear H; go_wp2
   go_meet
   case rel => exact ⟨_, ((a0_0 == 125)), rs_, H', ⟨by first | omega | exact Nat.le_refl _⟩, ⟨by refine zb_ ?_; exact BK255.out⟩, ⟨by refine zb_ ?_; exact BK256.out⟩, ⟨bs_⟩⟩
 case rest =>
  clear HC2; (try clear p2); (try clear c3); (try clear c5); (try clear c7); (try clear c7b0); (try clear c7b1); (try clear hcz6_0); (try clear hcz6_1); (try clear hcz6_2); (try clear hcz6_3); (try clear hfz6_0); (try clear hfz6_1); (try clear hfz6_2); (try clear hfz6_3)
  obtain ⟨kq, x5_1, rfl, HA, HJ1, BK255, BK256, HB⟩ := hcut
  cases kq with
  | zero => exact absurd HA.out (by simp [bodkinref07_Clean.j0])
  | succ kj1 =>
   have H := HA.out; clear HA; simp only [bodkinref07_Clean.j0] at H; by_cases c8 : x5_1 = true
   ·subst c8; have H1 : ((bodkinref02_Cut.f kj1 32 a0_1).bind fun t257 => (some (a0_0, t257, 0, false))) = some (r1, r2, r3, r4) := by rw [if_pos rfl] at H; exact H
    clear H; have H := H1; clear H1; replace H := Option.bind_eq_some_iff.mp H; obtain ⟨t257, A90, H⟩ := H; replace H : (some (a0_0, t257, 0, false)) = some (r1, r2, r3, r4) := H; have A9 := zm_ A90; clear A90; simp only [Option.some.injEq, Prod.mk.injEq] at H; obtain ⟨rfl, rfl, rfl, rfl⟩ := H; try go_wp2
    have n0_ := zm_ (blk_drew BK255.out); have n1_ := zm_ (blk_drew BK256.out); have n2_ := zm_ (below_drew1 HB.out); clear BK255; clear BK256; clear HB; have BK255 := n0_; have BK256 := n1_; have HB := n2_; clear n0_ n1_ n2_; refine start_ (n := 7) (S := fun w' => w'.cell? ⟨gb255, 0, none⟩ = some (.int .i64 a0_0) ∧ w'.cell? ⟨gb255, 1, none⟩ = some (.int .u64 a0_1) ∧ w'.cell? ⟨gb255, 2, none⟩ = some (.int .u64 a0_2) ∧ w'.cell? ⟨gb255, 3, none⟩ = some (.bool a0_3)) (ds := []) #[false, false, false, false, false, false, false] (by kernel_rfl) rfl rfl ⟨(blk_cell BK255.out 0).trans rfl, (blk_cell BK255.out 1).trans rfl, (blk_cell BK255.out 2).trans rfl, (blk_cell BK255.out 3).trans rfl⟩ (fun hHeld => ?_); generalize wc.drew = w10 at BK255 BK256 HB hHeld ⊢; refine pu_ 0 (some 8) (ba 7 1) ?_; refine pu_ 2 (some 10) (ba 7 5) ?_; refine ta_ 1 (some 9) (ba 7 7) ?_ (hy := Or.inl ⟨by rfl, by rintro w' ⟨s0, s1, s2, s3⟩; go_simp; with_reducible rfl⟩) (hS := hHeld); refine ta_ 3 (some 11) (ba 7 15) ?_ (hy := Or.inl ⟨by rfl, by rintro w' ⟨s0, s1, s2, s3⟩; go_simp; with_reducible rfl⟩) (hS := hHeld); refine one_ (i := 4) (N := some 12) #[true, true, true, true, true, false, false] rfl rfl (by kernel_rfl) (by decide) (fun K hK => ?_); refine goes_ Tryz.func54 (by kernel_rfl) rfl #[.int .i64 32, .int .u64 a0_1] (by rfl) rfl rfl mp_ ?_; with_reducible refine (bodkinref02_Cut.calls kj1 32 a0_1 t257 _ A9.out).mono ?_
    rintro e w' ⟨rfl, ⟨nd, rfl⟩⟩; refine ⟨_, rfl, ?_⟩; refine hK.out _ _ ⟨(blk_cell BK255.out 0).trans rfl, (blk_cell BK255.out 1).trans rfl, (blk_cell BK255.out 2).trans rfl, (blk_cell BK255.out 3).trans rfl⟩ (fun hHeld => ?_); clear hK K; refine norm_ (a' := ?_) ?_ ?_; rotate_left
    ·show Act.put _ (some 12) _ = _
     simp only [Act.put, List.setIfInBounds_toArray, List.set_cons_zero, List.set_cons_succ, i64_w, i32_w]; rfl
    refine pu_ 5 (some 13) (ba 7 63) ?_; refine one_ (i := 6) (N := none) #[true, true, true, true, true, true, true] rfl rfl (by kernel_rfl) (by decide) (fun K hK => ?_); have hs11 : w10.cell? ⟨gb256, 0, none⟩ = some (.int .i64 0) := (blk_cell BK256.out 0).trans rfl; have hfs11 := blk_frozen BK256.out 0; have hns11_0 := NB255_256.out; have hms11_0 := NB256_255.out; have hs12 : w10.cell? ⟨gb256, 1, none⟩ = some (.int .u64 0) := (blk_cell BK256.out 1).trans rfl; have hfs12 := blk_frozen BK256.out 1; have hns12_0 := NB255_256.out; have hms12_0 := NB256_255.out; have hs13 : w10.cell? ⟨gb256, 2, none⟩ = some (.int .u64 0) := (blk_cell BK256.out 2).trans rfl; have hfs13 := blk_frozen BK256.out 2; have hns13_0 := NB255_256.out; have hms13_0 := NB256_255.out; have hs14 : w10.cell? ⟨gb256, 3, none⟩ = some (.bool false) := (blk_cell BK256.out 3).trans rfl; have hfs14 := blk_frozen BK256.out 3; have hns14_0 := NB255_256.out; have hms14_0 := NB256_255.out; refine skip_ (w1 := ?_) (by rfl) rfl ?_ ?_; rotate_left
    ·go_simp; rfl
    refine hK.out _ _ ⟨((cell_far (p := ⟨gb256, _, none⟩) NB255_256.out _).trans (((cell_far (p := ⟨gb256, _, none⟩) NB255_256.out _).trans (((cell_far (p := ⟨gb256, _, none⟩) NB255_256.out _).trans (((cell_far (p := ⟨gb256, _, none⟩) NB255_256.out _).trans (hHeld.1)))))))), ((cell_far (p := ⟨gb256, _, none⟩) NB255_256.out _).trans (((cell_far (p := ⟨gb256, _, none⟩) NB255_256.out _).trans (((cell_far (p := ⟨gb256, _, none⟩) NB255_256.out _).trans (((cell_far (p := ⟨gb256, _, none⟩) NB255_256.out _).trans (hHeld.2.1)))))))), ((cell_far (p := ⟨gb256, _, none⟩) NB255_256.out _).trans (((cell_far (p := ⟨gb256, _, none⟩) NB255_256.out _).trans (((cell_far (p := ⟨gb256, _, none⟩) NB255_256.out _).trans (((cell_far (p := ⟨gb256, _, none⟩) NB255_256.out _).trans (hHeld.2.2.1)))))))), ((cell_far (p := ⟨gb256, _, none⟩) NB255_256.out _).trans (((cell_far (p := ⟨gb256, _, none⟩) NB255_256.out _).trans (((cell_far (p := ⟨gb256, _, none⟩) NB255_256.out _).trans (((cell_far (p := ⟨gb256, _, none⟩) NB255_256.out _).trans (hHeld.2.2.2))))))))⟩ (fun hHeld => ?_); clear hK K; refine done_ (by kernel_rfl) ?_; try go_wp2
    refine bodyPost_ret (results_cell_row rfl _ _ gb256 33 #[.int .i64 a0_0, .int .u64 t257, .int .u64 0, .bool false] (0, 0) _ rfl (by refine zb_ ?_; refine blk_put (cs := #[.int .i64 a0_0, .int .u64 t257, .int .u64 0, .bool false]) ?_ 3 _ rfl; refine zb_ ?_; refine blk_put (cs := #[.int .i64 a0_0, .int .u64 t257, .int .u64 0, .bool false]) ?_ 2 _ rfl; refine zb_ ?_; refine blk_put (cs := #[.int .i64 a0_0, .int .u64 0, .int .u64 0, .bool false]) ?_ 1 _ rfl; refine zb_ ?_; refine blk_put (cs := #[.int .i64 0, .int .u64 0, .int .u64 0, .bool false]) ?_ 0 _ rfl; refine zb_ ?_; exact BK256.out) Tryz.underlying33 rfl (by kernel_rfl)) rfl ?_; exact ⟨er_, bs_⟩
   ·replace c8 := Bool.eq_false_iff.mpr c8; subst c8; have H1 : (if a0_0 = 123 then (some (a0_0, a0_1, a0_2, false)) else (some (a0_0, a0_1, 0, false))) = some (r1, r2, r3, r4) := by rw [if_neg (show ¬ (false = true) by decide)] at H; exact H
    clear H; have H := H1; clear H1; by_cases c15 : a0_0 = 123
    ·rw [if_pos c15] at H; have c15b0 : (a0_0 == 123) = true := beq_iff_eq.mpr c15; have c15b1 : (a0_0 != 123) = false := bne_eq_false_iff_eq.mpr c15; clear c15; simp only [Option.some.injEq, Prod.mk.injEq] at H; obtain ⟨rfl, rfl, rfl, rfl⟩ := H; have hnb16 := NB255_256.out; have hnc16 := NB256_255.out; have hcz17_0 : wc.cell? ⟨gb255, 0, none⟩ = some (.int .i64 a0_0) := (blk_cell BK255.out 0).trans rfl; have hcz17_1 : wc.cell? ⟨gb255, 1, none⟩ = some (.int .u64 a0_1) := (blk_cell BK255.out 1).trans rfl; have hcz17_2 : wc.cell? ⟨gb255, 2, none⟩ = some (.int .u64 a0_2) := (blk_cell BK255.out 2).trans rfl; have hcz17_3 : wc.cell? ⟨gb255, 3, none⟩ = some (.bool a0_3) := (blk_cell BK255.out 3).trans rfl; have hfz17_0 := blk_frozen BK255.out 0; have hfz17_1 := blk_frozen BK255.out 1; have hfz17_2 := blk_frozen BK255.out 2; have hfz17_3 := blk_frozen BK255.out 3; have hcz18_0 : wc.cell? ⟨gb256, 0, none⟩ = some (.int .i64 0) := (blk_cell BK256.out 0).trans rfl; have hcz18_1 : wc.cell? ⟨gb256, 1, none⟩ = some (.int .u64 0) := (blk_cell BK256.out 1).trans rfl; have hcz18_2 : wc.cell? ⟨gb256, 2, none⟩ = some (.int .u64 0) := (blk_cell BK256.out 2).trans rfl; have hcz18_3 : wc.cell? ⟨gb256, 3, none⟩ = some (.bool false) := (blk_cell BK256.out 3).trans rfl; have hfz18_0 := blk_frozen BK256.out 0; have hfz18_1 := blk_frozen BK256.out 1; have hfz18_2 := blk_frozen BK256.out 2; have hfz18_3 := blk_frozen BK256.out 3; go_wp2
     refine bodyPost_ret (results_cell_row rfl _ _ gb256 33 #[.int .i64 a0_0, .int .u64 a0_1, .int .u64 a0_2, .bool false] (0, 0) _ rfl (by refine zb_ ?_; refine blk_put (cs := #[.int .i64 a0_0, .int .u64 a0_1, .int .u64 a0_2, .bool false]) ?_ 3 _ rfl; refine zb_ ?_; refine blk_put (cs := #[.int .i64 a0_0, .int .u64 a0_1, .int .u64 0, .bool false]) ?_ 2 _ rfl; refine zb_ ?_; refine blk_put (cs := #[.int .i64 a0_0, .int .u64 0, .int .u64 0, .bool false]) ?_ 1 _ rfl; refine zb_ ?_; refine blk_put (cs := #[.int .i64 0, .int .u64 0, .int .u64 0, .bool false]) ?_ 0 _ rfl; refine zb_ ?_; exact BK256.out) Tryz.underlying33 rfl (by kernel_rfl)) rfl ?_; exact ⟨er_, bs_⟩
    ·rw [if_neg c15] at H; have c15b0 : (a0_0 == 123) = false := beq_eq_false_iff_ne.mpr c15; have c15b1 : (a0_0 != 123) = true := bne_iff_ne.mpr c15; simp only [Option.some.injEq, Prod.mk.injEq] at H; obtain ⟨rfl, rfl, rfl, rfl⟩ := H; have hnb19 := NB255_256.out; have hnc19 := NB256_255.out; have hcz20_0 : wc.cell? ⟨gb255, 0, none⟩ = some (.int .i64 a0_0) := (blk_cell BK255.out 0).trans rfl; have hcz20_1 : wc.cell? ⟨gb255, 1, none⟩ = some (.int .u64 a0_1) := (blk_cell BK255.out 1).trans rfl; have hcz20_2 : wc.cell? ⟨gb255, 2, none⟩ = some (.int .u64 a0_2) := (blk_cell BK255.out 2).trans rfl; have hcz20_3 : wc.cell? ⟨gb255, 3, none⟩ = some (.bool a0_3) := (blk_cell BK255.out 3).trans rfl; have hfz20_0 := blk_frozen BK255.out 0; have hfz20_1 := blk_frozen BK255.out 1; have hfz20_2 := blk_frozen BK255.out 2; have hfz20_3 := blk_frozen BK255.out 3; have hcz21_0 : wc.cell? ⟨gb256, 0, none⟩ = some (.int .i64 0) := (blk_cell BK256.out 0).trans rfl; have hcz21_1 : wc.cell? ⟨gb256, 1, none⟩ = some (.int .u64 0) := (blk_cell BK256.out 1).trans rfl; have hcz21_2 : wc.cell? ⟨gb256, 2, none⟩ = some (.int .u64 0) := (blk_cell BK256.out 2).trans rfl; have hcz21_3 : wc.cell? ⟨gb256, 3, none⟩ = some (.bool false) := (blk_cell BK256.out 3).trans rfl; have hfz21_0 := blk_frozen BK256.out 0; have hfz21_1 := blk_frozen BK256.out 1; have hfz21_2 := blk_frozen BK256.out 2; have hfz21_3 := blk_frozen BK256.out 3; go_wp2
     refine bodyPost_ret (results_cell_row rfl _ _ gb256 33 #[.int .i64 a0_0, .int .u64 a0_1, .int .u64 0, .bool false] (0, 0) _ rfl (by refine zb_ ?_; refine blk_put (cs := #[.int .i64 a0_0, .int .u64 a0_1, .int .u64 0, .bool false]) ?_ 3 _ rfl; refine zb_ ?_; refine blk_put (cs := #[.int .i64 a0_0, .int .u64 a0_1, .int .u64 0, .bool false]) ?_ 2 _ rfl; refine zb_ ?_; refine blk_put (cs := #[.int .i64 a0_0, .int .u64 0, .int .u64 0, .bool false]) ?_ 1 _ rfl; refine zb_ ?_; refine blk_put (cs := #[.int .i64 0, .int .u64 0, .int .u64 0, .bool false]) ?_ 0 _ rfl; refine zb_ ?_; exact BK256.out) Tryz.underlying33 rfl (by kernel_rfl)) rfl ?_; exact ⟨er_, bs_⟩
def bodkinref02_Signed.f (a0 : Int) (a1 : Int) : Option (Int) := none
def bodkinref02_Bin.f (a0 : Int) (a1 : Int) (a2 : Int) (a3 : Int) : Option (Int × Int) := none
def bodkinref03_Rel.f (a0 : Int) (a1 : Int) (a2 : Int) (a3 : Int) : Option (Bool × Int) := none
theorem bodkinref03_Rel.calls (a0 : Int) (a1 : Int) (a2 : Int) (a3 : Int) (r1 : Bool) (r2 : Int) (w : World) (h : bodkinref03_Rel.f a0 a1 a2 a3 = some (r1, r2)) (hG : GD w := by first | assumption | exact GD.below (by assumption) (by repeat (first | exact Aside0.out (by assumption) | exact Below.refl _ _ | assumption | apply below_alloc | apply pw_below_drewN | apply below_drew1 | refine below_set ?_ (Aside0.out (by assumption))))) :
  Calls Tryz.prog 61 #[.int .i64 a0, .int .i64 a1, .int .u64 a2, .int .u64 a3] w fun e w' => e = .returned (.tuple #[.bool r1, .int .i64 r2]) ∧ Below w.heap.size w w' := by
 cases h
def bodkinref03_Un.f (a0 : Int) (a1 : Int) (a2 : Int) : Option (Int × Int) := if (a0 = 32 ∨ a0 = 64) ∧ 1 ≤ a1 ∧ a1 ≤ 7 ∧ 0 ≤ a2 ∧ a2 < 18446744073709551616 then (if a0 = 32 then (un32 a1 (a2.toNat % 4294967296)).map fun (u : Nat) => ((u : Int), (0 : Int)) else some ((un64 a1 a2.toNat : Nat), (0 : Int))) else none
theorem bodkinref03_Un.calls (a0 : Int) (a1 : Int) (a2 : Int) (r1 : Int) (r2 : Int) (w : World) (h : bodkinref03_Un.f a0 a1 a2 = some (r1, r2)) (hG : GD w := by first | assumption | exact GD.below (by assumption) (by repeat (first | exact Aside0.out (by assumption) | exact Below.refl _ _ | assumption | apply below_alloc | apply pw_below_drewN | apply below_drew1 | refine below_set ?_ (Aside0.out (by assumption))))) :
  Calls Tryz.prog 62 #[.int .i64 a0, .int .i64 a1, .int .u64 a2] w fun e w' => e = .returned (.tuple #[.int .u64 r1, .int .i64 r2]) ∧ Drawn0 w w' := by
 unfold bodkinref03_Un.f at h; split at h
 ·rename_i hc
  obtain ⟨h0, h1, h2, h3, h4⟩ := hc; obtain ⟨n, rfl⟩ := Int.eq_ofNat_of_zero_le h3; rw [Int.toNat_natCast] at h; split at h
  ·rename_i hn
   subst hn; obtain ⟨u, hu, e⟩ := Option.map_eq_some_iff.1 h; simp only [Prod.mk.injEq] at e; obtain ⟨rfl, rfl⟩ := e; exact un32_any a1 n u w ⟨h1, h2⟩ (by omega) hu
  ·rename_i hn
   obtain rfl : a0 = 64 := by omega
   simp only [Option.some.injEq, Prod.mk.injEq] at h; obtain ⟨rfl, rfl⟩ := h; exact un64_any a1 n w ⟨h1, h2⟩ (by omega)
 ·cases h
def bodkinref03_Bin.f (a0 : Int) (a1 : Int) (a2 : Int) (a3 : Int) : Option (Int × Int) := if (a0 = 32 ∨ a0 = 64) ∧ 1 ≤ a1 ∧ a1 ≤ 7 ∧ 0 ≤ a2 ∧ a2 < 18446744073709551616 ∧ 0 ≤ a3 ∧ a3 < 18446744073709551616 then (if a0 = 32 then some ((bin32 a1 (a2.toNat % 4294967296) (a3.toNat % 4294967296) : Nat), (0 : Int)) else some ((bin64 a1 a2.toNat a3.toNat : Nat), (0 : Int))) else none
theorem bodkinref03_Bin.calls (a0 : Int) (a1 : Int) (a2 : Int) (a3 : Int) (r1 : Int) (r2 : Int) (w : World) (h : bodkinref03_Bin.f a0 a1 a2 a3 = some (r1, r2)) (hG : GD w := by first | assumption | exact GD.below (by assumption) (by repeat (first | exact Aside0.out (by assumption) | exact Below.refl _ _ | assumption | apply below_alloc | apply pw_below_drewN | apply below_drew1 | refine below_set ?_ (Aside0.out (by assumption))))) :
  Calls Tryz.prog 63 #[.int .i64 a0, .int .i64 a1, .int .u64 a2, .int .u64 a3] w fun e w' => e = .returned (.tuple #[.int .u64 r1, .int .i64 r2]) ∧ Drawn0 w w' := by
 unfold bodkinref03_Bin.f at h; split at h
 ·rename_i hc
  obtain ⟨h0, h1, h2, h3, h4, h5, h6⟩ := hc; obtain ⟨n, rfl⟩ := Int.eq_ofNat_of_zero_le h3; obtain ⟨m, rfl⟩ := Int.eq_ofNat_of_zero_le h5; rw [Int.toNat_natCast, Int.toNat_natCast] at h; split at h
  ·rename_i hn
   subst hn; simp only [Option.some.injEq, Prod.mk.injEq] at h; obtain ⟨rfl, rfl⟩ := h; exact bin32_any a1 n m w ⟨h1, h2⟩ (by omega) (by omega)
  ·rename_i hn
   obtain rfl : a0 = 64 := by omega
   simp only [Option.some.injEq, Prod.mk.injEq] at h; obtain ⟨rfl, rfl⟩ := h; exact bin64_any a1 n m w ⟨h1, h2⟩ (by omega) (by omega)
 ·cases h
def bodkinref02_Rel.f (a0 : Int) (a1 : Int) (a2 : Int) (a3 : Int) : Option (Bool × Int) := none
def bodkinref02_Un.f (a0 : Int) (a1 : Int) (a2 : Int) : Option (Int × Int) := none
def bodkinref06_Do.f (a0 : Int) (l1 : List Int) (l2 : List (S33)) : Option (Int × Int × Int × Bool × Int) := none
def bodkinref07_Bits.f (a0 : Int) : Option (Int) := if a0 = 127 then (some 32) else (if a0 = 125 then (some 32) else (some 64))
theorem bodkinref07_Bits.calls (a0 : Int) (r : Int) (w : World) (h : bodkinref07_Bits.f a0 = some r) (hG : GD w := by first | assumption | exact GD.below (by assumption) (by repeat (first | exact Aside0.out (by assumption) | exact Below.refl _ _ | assumption | apply below_alloc | apply pw_below_drewN | apply below_drew1 | refine below_set ?_ (Aside0.out (by assumption))))) :
  Calls Tryz.prog 36 #[.int .i64 a0] w fun e w' => e = .returned (.int .i64 r) ∧ Drawn0 w w' := by
 have H : (if a0 = 127 then (some 32) else (if a0 = 125 then (some 32) else (some 64))) = some r := h; clear h; by_cases c2 : a0 = 127
 ·rw [if_pos c2] at H; have c2b0 : (a0 == 127) = true := beq_iff_eq.mpr c2; have c2b1 : (a0 != 127) = false := bne_eq_false_iff_eq.mpr c2; clear c2; obtain rfl := Option.some.inj H; go_enter Tryz.func36, Tryz.ntmps36
  go_wp2
  go_ret; exact ⟨by first | rfl | (simp; done) | (simp [*]; done), by repeat (first | exact Drawn0.refl _ | apply Drawn0.step)⟩
 ·rw [if_neg c2] at H; have c2b0 : (a0 == 127) = false := beq_eq_false_iff_ne.mpr c2; have c2b1 : (a0 != 127) = true := bne_iff_ne.mpr c2; by_cases c3 : a0 = 125
  ·rw [if_pos c3] at H; have c3b0 : (a0 == 125) = true := beq_iff_eq.mpr c3; have c3b1 : (a0 != 125) = false := bne_eq_false_iff_eq.mpr c3; clear c3; obtain rfl := Option.some.inj H; go_enter Tryz.func36, Tryz.ntmps36
   go_wp2
   go_ret; exact ⟨by first | rfl | (simp; done) | (simp [*]; done), by repeat (first | exact Drawn0.refl _ | apply Drawn0.step)⟩
  ·rw [if_neg c3] at H; have c3b0 : (a0 == 125) = false := beq_eq_false_iff_ne.mpr c3; have c3b1 : (a0 != 125) = true := bne_iff_ne.mpr c3; obtain rfl := Option.some.inj H; go_enter Tryz.func36, Tryz.ntmps36
   go_wp2
   go_ret; exact ⟨by first | rfl | (simp; done) | (simp [*]; done), by repeat (first | exact Drawn0.refl _ | apply Drawn0.step)⟩
def bodkinref07_one.f (a0 : Bool) : Option (Int) := none
theorem bodkinref07_one.calls (a0 : Bool) (r : Int) (w : World) (h : bodkinref07_one.f a0 = some r) (hG : GD w := by first | assumption | exact GD.below (by assumption) (by repeat (first | exact Aside0.out (by assumption) | exact Below.refl _ _ | assumption | apply below_alloc | apply pw_below_drewN | apply below_drew1 | refine below_set ?_ (Aside0.out (by assumption))))) :
  Calls Tryz.prog 57 #[.bool a0] w fun e w' => e = .returned (.int .u64 r) ∧ Drawn0 w w' := by
 cases h
def bodkinref07_turned.f (a0 : ByteArray) (a1 : Int) (a2 : Int) (a3 : Int) : Option (Int × Int) := none
theorem bodkinref07_turned.calls (a0 : ByteArray) (a1 : Int) (a2 : Int) (a3 : Int) (r1 : Int) (r2 : Int) (w : World) (h : bodkinref07_turned.f a0 a1 a2 a3 = some (r1, r2)) (hG : GD w := by first | assumption | exact GD.below (by assumption) (by repeat (first | exact Aside0.out (by assumption) | exact Below.refl _ _ | assumption | apply below_alloc | apply pw_below_drewN | apply below_drew1 | refine below_set ?_ (Aside0.out (by assumption))))) :
  Calls Tryz.prog 59 #[.string a0, .int .i64 a1, .int .i64 a2, .int .u64 a3] w fun e w' => e = .returned (.tuple #[.int .u64 r1, .int .i64 r2]) ∧ Below w.heap.size w w' := by
 cases h
def bodkinref07_index.l0 : Nat → ByteArray → List ByteArray → Int → Option (Int)
 | 0, _, _, _ => none
 | k + 1, x0, x1, x5 => if x5 < (x1.length : Int) then (if 0 ≤ x5 then (if (rdOf ByteArray.empty x1 x5).toList = x0.toList then (some x5) else (bodkinref07_index.l0 k x0 x1 (wrap64 (x5 + 1)))) else (none)) else (some (-1))
def bodkinref07_index.f (k : Nat) (a0 : ByteArray) (l1 : List ByteArray) : Option (Int) := bodkinref07_index.l0 k a0 l1 0
theorem bodkinref07_index.mono_l : ∀ k, (∀ y0 y1 y2, LeO (bodkinref07_index.l0 k y0 y1 y2) (bodkinref07_index.l0 (k + 1) y0 y1 y2))
 | 0 => fun _ _ _ r h => by simp [bodkinref07_index.l0] at h
 | k + 1 => by
  have ih0 := bodkinref07_index.mono_l k
  ·intro y0 y1 y2; unfold bodkinref07_index.l0
   repeat' first
   | (with_reducible exact ih0 _ _ _)
   | (with_reducible exact LeO.refl _)
   | (with_reducible exact LeO.none _)
   | (with_reducible refine LeO.ite ?_ ?_)
   | (with_reducible refine LeO.bind ?_ (fun _ => ?_))
   | exact ih0 _ _ _
   | exact LeO.none _
   | refine LeO.ite ?_ ?_
   | refine LeO.bind ?_ (fun _ => ?_)
theorem bodkinref07_index.mono : ∀ a0 a1 k, LeO (bodkinref07_index.f k a0 a1) (bodkinref07_index.f (k + 1) a0 a1) := by
 intro a0 a1 k; have ih0 := bodkinref07_index.mono_l k; unfold bodkinref07_index.f
 repeat' first
   | (with_reducible exact ih0 _ _ _)
   | (with_reducible exact LeO.refl _)
   | (with_reducible exact LeO.none _)
   | (with_reducible refine LeO.ite ?_ ?_)
   | (with_reducible refine LeO.bind ?_ (fun _ => ?_))
   | exact ih0 _ _ _
   | exact LeO.none _
   | refine LeO.ite ?_ ?_
   | refine LeO.bind ?_ (fun _ => ?_)
theorem bodkinref07_index.calls (k : Nat) (a0 : ByteArray) (A1 : Option Addr) (c1 : Nat) (l1 : List ByteArray) (r : Int) (w : World) (hr1 : Kd.C Kd.string w A1 l1.length l1) (hc1 : l1.length ≤ c1) (h : bodkinref07_index.f k a0 l1 = some r) (hG : GD w := by first | assumption | exact GD.below (by assumption) (by repeat (first | exact Aside0.out (by assumption) | exact Below.refl _ _ | assumption | apply below_alloc | apply pw_below_drewN | apply below_drew1 | refine below_set ?_ (Aside0.out (by assumption))))) :
  Calls Tryz.prog 60 #[.string a0, .slice A1 l1.length c1] w fun e w' => e = .returned (.int .i64 r) ∧ Drawn0 w w' := by
 have HR1 := zm_ hr1; have HC1 := zm_ hc1; clear hr1 hc1; have H : (bodkinref07_index.l0 k a0 l1 0) = some r := h; clear h; have H' := zm_ H; clear H; go_enter Tryz.func60, Tryz.ntmps60
 go_wp2
 go_loopg [5] k (fun kq v5 w' => ∃ (x5_1 : Int), v5 = .int .i64 x5_1 ∧ Aside0 (bodkinref07_index.l0 kq a0 l1 x5_1 = some r) ∧ Aside0 (kq ≤ k) ∧ Drawn0 w w')
 case atStart => exact ⟨(0), rs_, H', ⟨Nat.le_refl _⟩, by repeat (first | exact Drawn0.refl _ | apply Drawn0.step)⟩
 case round =>
  clear H'; (try clear c1); (try clear p2)
  obtain ⟨x5_1, rfl, HA, HK1, ⟨m1, rfl⟩⟩ := hrel
  cases gk with
  | zero => exact absurd HA.out (by simp [bodkinref07_index.l0])
  | succ k1 =>
   have H := HA.out; clear HA; simp only [bodkinref07_index.l0] at H; by_cases c3 : x5_1 < (l1.length : Int)
   ·rw [if_pos c3] at H; have c3b0 : decide (x5_1 < (l1.length : Int)) = true := decide_eq_true c3; clear c3; by_cases c4 : 0 ≤ x5_1
    ·rw [if_pos c4] at H; have c4b0 : decide (0 ≤ x5_1) = true := decide_eq_true c4; clear c4; by_cases c5 : (rdOf ByteArray.empty l1 x5_1).toList = a0.toList
     ·rw [if_pos c5] at H; have c5b0 : ((rdOf ByteArray.empty l1 x5_1).toList == a0.toList) = true := beq_iff_eq.mpr c5; have c5b1 : ((rdOf ByteArray.empty l1 x5_1).toList != a0.toList) = false := bne_eq_false_iff_eq.mpr c5; clear c5; obtain rfl := Option.some.inj H; have p258 : 0 ≤ (x5_1 : Int) := od_; have q258 : x5_1 < (l1.length : Int) := od_; obtain ⟨ad258, e258, hx258_0⟩ := Kd.at_string HR1.out x5_1 p258 q258; cases e258
      replace p258 := eq_true p258; replace q258 := eq_true q258; go_wp2
      go_ret; exact ⟨by first | rfl | (simp; done) | (simp [*]; done), by repeat (first | exact Drawn0.refl _ | apply Drawn0.step)⟩
     ·rw [if_neg c5] at H; have c5b0 : ((rdOf ByteArray.empty l1 x5_1).toList == a0.toList) = false := beq_eq_false_iff_ne.mpr c5; have c5b1 : ((rdOf ByteArray.empty l1 x5_1).toList != a0.toList) = true := bne_iff_ne.mpr c5; have H' := zm_ H; clear H; have p258 : 0 ≤ (x5_1 : Int) := od_; have q258 : x5_1 < (l1.length : Int) := od_; obtain ⟨ad258, e258, hx258_0⟩ := Kd.at_string HR1.out x5_1 p258 q258; cases e258
      replace p258 := eq_true p258; replace q258 := eq_true q258; go_wp2
      go_roundg k1
      case measure => have := HK1.out; omega
      case rel => exact ⟨(wrap64 (x5_1 + 1)), rs_, H', ⟨by have := HK1.out; omega⟩, by repeat (first | exact Drawn0.refl _ | apply Drawn0.step)⟩
    ·rw [if_neg c4] at H; exact absurd H (by simp)
   ·rw [if_neg c3] at H; have c3b0 : decide (x5_1 < (l1.length : Int)) = false := decide_eq_false c3; clear c3; obtain rfl := Option.some.inj H; go_wp2
    go_ret; exact ⟨by first | rfl | (simp; done) | (simp [*]; done), by repeat (first | exact Drawn0.refl _ | apply Drawn0.step)⟩
end Go.Proofs.YtkhhhceeoljheaaGreatDoor.PFlo

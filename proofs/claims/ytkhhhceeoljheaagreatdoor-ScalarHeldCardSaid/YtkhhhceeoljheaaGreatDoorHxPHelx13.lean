import Derived.Test.YtkhhhceeoljheaaGreatDoorHxPHelx12
namespace Go.Proofs.YtkhhhceeoljheaaGreatDoor.PHel
open Go.RowKit Go.Proofs.YtkhhhceeoljheaaGreatDoorW.PrintWords Go.Proofs.YtkhhhceeoljheaaGreatDoorW.PrintLast Go.Proofs.YtkhhhceeoljheaaGreatDoorW.PrintMore
attribute [local go_sem] max2_int min2_int max_two min_two max_three min_three max_four min_four   
set_option linter.unusedVariables false
set_option linter.unusedSimpArgs false
def bodkinref05_Types.l0 : Nat → ByteArray → List Int → Int → Option (List Int)
 | 0, _, _, _ => none
 | k + 1, x0, x3, x4 => if x4 < (x0.size : Int) then (if 0 ≤ x4 then (if (bt x0 x4) = 105 then (if x3.length < 17592186044416 then (bodkinref05_Types.l0 k x0 (x3 ++ [127]) (wrap64 (x4 + 1))) else (none)) else (if (bt x0 x4) = 108 then (if x3.length < 17592186044416 then (bodkinref05_Types.l0 k x0 (x3 ++ [126]) (wrap64 (x4 + 1))) else (none)) else (if (bt x0 x4) = 102 then (if x3.length < 17592186044416 then (bodkinref05_Types.l0 k x0 (x3 ++ [125]) (wrap64 (x4 + 1))) else (none)) else (if (bt x0 x4) = 100 then (if x3.length < 17592186044416 then (bodkinref05_Types.l0 k x0 (x3 ++ [124]) (wrap64 (x4 + 1))) else (none)) else (if (bt x0 x4) = 118 then (if x3.length < 17592186044416 then (bodkinref05_Types.l0 k x0 (x3 ++ [123]) (wrap64 (x4 + 1))) else (none)) else (if (bt x0 x4) = 110 then (if x3.length < 17592186044416 then (bodkinref05_Types.l0 k x0 (x3 ++ [112]) (wrap64 (x4 + 1))) else (none)) else (bodkinref05_Types.l0 k x0 x3 (wrap64 (x4 + 1))))))))) else (none)) else (some x3)
def bodkinref05_Types.f (k : Nat) (a0 : ByteArray) : Option (List Int) := bodkinref05_Types.l0 k a0 ([] : List Int) 0
theorem bodkinref05_Types.mono_l : ∀ k, (∀ y0 y1 y2, LeO (bodkinref05_Types.l0 k y0 y1 y2) (bodkinref05_Types.l0 (k + 1) y0 y1 y2))
 | 0 => fun _ _ _ r h => by simp [bodkinref05_Types.l0] at h
 | k + 1 => by
  have ih0 := bodkinref05_Types.mono_l k
  ·intro y0 y1 y2
   unfold bodkinref05_Types.l0
   repeat' first
   | (with_reducible exact ih0 _ _ _)
   | (with_reducible exact LeO.refl _)
   | (with_reducible exact LeO.none _)
   | (with_reducible refine LeO.ite ?_ ?_)
   | (with_reducible refine LeO.bind ?_ (fun _ => ?_))
   | exact ih0 _ _ _
   | exact LeO.none _
   | refine LeO.ite ?_ ?_
   | refine LeO.bind ?_ (fun _ => ?_)
theorem bodkinref05_Types.mono : ∀ a0 k, LeO (bodkinref05_Types.f k a0) (bodkinref05_Types.f (k + 1) a0) := by
 intro a0 k
 have ih0 := bodkinref05_Types.mono_l k
 unfold bodkinref05_Types.f
 repeat' first
   | (with_reducible exact ih0 _ _ _)
   | (with_reducible exact LeO.refl _)
   | (with_reducible exact LeO.none _)
   | (with_reducible refine LeO.ite ?_ ?_)
   | (with_reducible refine LeO.bind ?_ (fun _ => ?_))
   | exact ih0 _ _ _
   | exact LeO.none _
   | refine LeO.ite ?_ ?_
   | refine LeO.bind ?_ (fun _ => ?_)
set_option maxHeartbeats 8000000 in
set_option maxRecDepth 100000 in
theorem bodkinref05_Types.calls (k : Nat) (a0 : ByteArray) (r : List Int) (w : World) (h : bodkinref05_Types.f k a0 = some r) (hG : GD w := by first | assumption | exact GD.below (by assumption) (by repeat (first | exact Aside0.out (by assumption) | exact Below.refl _ _ | assumption | apply below_alloc | apply pw_below_drewN | apply below_drew1 | refine below_set ?_ (Aside0.out (by assumption))))) :
  Calls Tryz.prog 15 #[.string a0] w fun e w' => ∃ v0_ : Value, e = .returned (v0_) ∧ Kd.R (Kd.int .i64) 3 w' w.heap.size (fun _ => True) v0_ r ∧ Below w.heap.size w w' := by
 have HB := Aside0.mk (Below.refl w.heap.size w)
 have H : (bodkinref05_Types.l0 k a0 ([] : List Int) 0) = some r := h
 clear h
 have H' := Aside0.mk H
 clear H
 go_enter Tryz.func15, Tryz.ntmps15
 go_wp2
 go_loopg [3, 4] k (fun kq v3 v4 w' => ∃ (x3_1 : List Int) (x4_1 : Int), v4 = .int .i64 x4_1 ∧ Aside0 (bodkinref05_Types.l0 kq a0 x3_1 x4_1 = some r) ∧ Aside0 (kq ≤ k) ∧ Aside0 (Kd.R (Kd.int .i64) 3 w' w.heap.size (fun _ => True) v3 x3_1) ∧ Aside0 (Below w.heap.size w w'))
 case atStart => exact ⟨(([] : List Int)), (0), rs_, H', ⟨Nat.le_refl _⟩, ⟨by first | exact Kd.R_nil _ _ _ _ _ | exact Kd.N_nil _ _ _ _ _ | exact Kd.V_nil _ _ _ _ _ | exact Kd.Q_nil _ _ _ _ _ | exact Kd.S_nil _ _ _ _ _⟩, ⟨bl_⟩⟩
 case round =>
  clear H'
  try clear c1
  obtain ⟨x3_1, x4_1, rfl, HA, HK1, HO_3, HB⟩ := hrel
  cases gk with
  | zero => exact absurd HA.out (by simp [bodkinref05_Types.l0])
  | succ k1 =>
   have H := HA.out
   clear HA
   simp only [bodkinref05_Types.l0] at H
   by_cases c2 : x4_1 < (a0.size : Int)
   ·rw [if_pos c2] at H
    have c2b0 : decide (x4_1 < (a0.size : Int)) = true := decide_eq_true c2
    clear c2
    by_cases c3 : 0 ≤ x4_1
    ·rw [if_pos c3] at H
     have c3b0 : decide (0 ≤ x4_1) = true := decide_eq_true c3
     clear c3
     by_cases c5 : (bt a0 x4_1) = 105
     ·rw [if_pos c5] at H
      have c5b0 : ((bt a0 x4_1) == 105) = true := beq_iff_eq.mpr c5
      have c5b1 : ((bt a0 x4_1) != 105) = false := bne_eq_false_iff_eq.mpr c5
      clear c5
      by_cases c6 : x3_1.length < 17592186044416
      ·rw [if_pos c6] at H
       have LMc6 := Aside0.mk c6
       clear c6
       obtain ⟨y274, hy274⟩ : ∃ y_ : List Int, y_ = (x3_1 ++ [127]) := ⟨_, rfl⟩
       replace H : (bodkinref05_Types.l0 k1 a0 y274 (wrap64 (x4_1 + 1))) = some r := by first | (rw [hy274]; with_reducible exact H) | (have H2_ := (Option.bind_some _ _).symm.trans H; rw [hy274]; with_reducible exact H2_) | (have H2_ := (Option.bind_some _ _).symm.trans H; with_reducible exact H2_) | with_reducible exact H | (rw [hy274]; exact H) | exact H
       have Ny274 := Aside0.mk hy274
       clear hy274
       have H' := Aside0.mk H
       clear H
       have p4 : 0 ≤ (x4_1 : Int) := od_
       have q4 : x4_1 < (a0.size : Int) := od_
       have hx4 := bt_at a0 x4_1
       replace p4 := eq_true p4
       replace q4 := eq_true q4
       go_wp2_with (first | ((with_reducible refine gate_builtin (b := .append) (xs := #[.tmp 16, .tmp 17]) rfl ?_); at_builtin; refine Kd.R_append (Kd.int .i64) (w0 := w) w.heap.size rfl (.tmp 16) (.tmp 17) 28 3 (.int .i64 0) 8 rfl Tryz.underlying28 info3 rfl (by decide) (by omega) u3 x3_1 127 [.int .i64 127] (fun _ => True) (fun _ => False) rfl rfl ?aP (fun _ hk => hk.elim) ?aF ?aO ?aB ?aS ?aL ?_; (case aP => exact rfl); (case aB => exact bl_); (case aF => exact (fun _ _ => trivial)); (case aO => exact (rl_ HO_3)); (case aS => exact (below_size bl_)); (case aL => have := LMc6.out; omega); intro v275 w7 ho hb hg hat; rw [← Ny274.out] at ho; have n0_ := Aside0.mk (hb); have n1_ := Aside0.mk (ho); clear HB; clear HO_3; have HB := n0_; have HO276 := n1_; clear n0_ n1_; clear ho hb hg hat))
       go_roundg k1
       case measure => have := HK1.out; omega
       case rel => exact ⟨(y274), (wrap64 (x4_1 + 1)), rs_, H', ⟨by have := HK1.out; omega⟩, ⟨rl_ HO276⟩, ⟨bl_⟩⟩
      ·rw [if_neg c6] at H
       exact absurd H (by simp)
     ·rw [if_neg c5] at H
      have c5b0 : ((bt a0 x4_1) == 105) = false := beq_eq_false_iff_ne.mpr c5
      have c5b1 : ((bt a0 x4_1) != 105) = true := bne_iff_ne.mpr c5
      by_cases c8 : (bt a0 x4_1) = 108
      ·rw [if_pos c8] at H
       have c8b0 : ((bt a0 x4_1) == 108) = true := beq_iff_eq.mpr c8
       have c8b1 : ((bt a0 x4_1) != 108) = false := bne_eq_false_iff_eq.mpr c8
       clear c8
       by_cases c9 : x3_1.length < 17592186044416
       ·rw [if_pos c9] at H
        have LMc9 := Aside0.mk c9
        clear c9
        obtain ⟨y277, hy277⟩ : ∃ y_ : List Int, y_ = (x3_1 ++ [126]) := ⟨_, rfl⟩
        replace H : (bodkinref05_Types.l0 k1 a0 y277 (wrap64 (x4_1 + 1))) = some r := by first | (rw [hy277]; with_reducible exact H) | (have H2_ := (Option.bind_some _ _).symm.trans H; rw [hy277]; with_reducible exact H2_) | (have H2_ := (Option.bind_some _ _).symm.trans H; with_reducible exact H2_) | with_reducible exact H | (rw [hy277]; exact H) | exact H
        have Ny277 := Aside0.mk hy277
        clear hy277
        have H' := Aside0.mk H
        clear H
        have p4 : 0 ≤ (x4_1 : Int) := od_
        have q4 : x4_1 < (a0.size : Int) := od_
        have hx4 := bt_at a0 x4_1
        replace p4 := eq_true p4
        replace q4 := eq_true q4
        go_wp2_with (first | ((with_reducible refine gate_builtin (b := .append) (xs := #[.tmp 21, .tmp 22]) rfl ?_); at_builtin; refine Kd.R_append (Kd.int .i64) (w0 := w) w.heap.size rfl (.tmp 21) (.tmp 22) 28 3 (.int .i64 0) 8 rfl Tryz.underlying28 info3 rfl (by decide) (by omega) u3 x3_1 126 [.int .i64 126] (fun _ => True) (fun _ => False) rfl rfl ?aP (fun _ hk => hk.elim) ?aF ?aO ?aB ?aS ?aL ?_; (case aP => exact rfl); (case aB => exact bl_); (case aF => exact (fun _ _ => trivial)); (case aO => exact (rl_ HO_3)); (case aS => exact (below_size bl_)); (case aL => have := LMc9.out; omega); intro v278 w10 ho hb hg hat; rw [← Ny277.out] at ho; have n0_ := Aside0.mk (hb); have n1_ := Aside0.mk (ho); clear HB; clear HO_3; have HB := n0_; have HO279 := n1_; clear n0_ n1_; clear ho hb hg hat))
        go_roundg k1
        case measure => have := HK1.out; omega
        case rel => exact ⟨(y277), (wrap64 (x4_1 + 1)), rs_, H', ⟨by have := HK1.out; omega⟩, ⟨rl_ HO279⟩, ⟨bl_⟩⟩
       ·rw [if_neg c9] at H
        exact absurd H (by simp)
      ·rw [if_neg c8] at H
       have c8b0 : ((bt a0 x4_1) == 108) = false := beq_eq_false_iff_ne.mpr c8
       have c8b1 : ((bt a0 x4_1) != 108) = true := bne_iff_ne.mpr c8
       by_cases c11 : (bt a0 x4_1) = 102
       ·rw [if_pos c11] at H
        have c11b0 : ((bt a0 x4_1) == 102) = true := beq_iff_eq.mpr c11
        have c11b1 : ((bt a0 x4_1) != 102) = false := bne_eq_false_iff_eq.mpr c11
        clear c11
        by_cases c12 : x3_1.length < 17592186044416
        ·rw [if_pos c12] at H
         have LMc12 := Aside0.mk c12
         clear c12
         obtain ⟨y280, hy280⟩ : ∃ y_ : List Int, y_ = (x3_1 ++ [125]) := ⟨_, rfl⟩
         replace H : (bodkinref05_Types.l0 k1 a0 y280 (wrap64 (x4_1 + 1))) = some r := by first | (rw [hy280]; with_reducible exact H) | (have H2_ := (Option.bind_some _ _).symm.trans H; rw [hy280]; with_reducible exact H2_) | (have H2_ := (Option.bind_some _ _).symm.trans H; with_reducible exact H2_) | with_reducible exact H | (rw [hy280]; exact H) | exact H
         have Ny280 := Aside0.mk hy280
         clear hy280
         have H' := Aside0.mk H
         clear H
         have p4 : 0 ≤ (x4_1 : Int) := od_
         have q4 : x4_1 < (a0.size : Int) := od_
         have hx4 := bt_at a0 x4_1
         replace p4 := eq_true p4
         replace q4 := eq_true q4
         go_wp2_with (first | ((with_reducible refine gate_builtin (b := .append) (xs := #[.tmp 26, .tmp 27]) rfl ?_); at_builtin; refine Kd.R_append (Kd.int .i64) (w0 := w) w.heap.size rfl (.tmp 26) (.tmp 27) 28 3 (.int .i64 0) 8 rfl Tryz.underlying28 info3 rfl (by decide) (by omega) u3 x3_1 125 [.int .i64 125] (fun _ => True) (fun _ => False) rfl rfl ?aP (fun _ hk => hk.elim) ?aF ?aO ?aB ?aS ?aL ?_; (case aP => exact rfl); (case aB => exact bl_); (case aF => exact (fun _ _ => trivial)); (case aO => exact (rl_ HO_3)); (case aS => exact (below_size bl_)); (case aL => have := LMc12.out; omega); intro v281 w13 ho hb hg hat; rw [← Ny280.out] at ho; have n0_ := Aside0.mk (hb); have n1_ := Aside0.mk (ho); clear HB; clear HO_3; have HB := n0_; have HO282 := n1_; clear n0_ n1_; clear ho hb hg hat))
         go_roundg k1
         case measure => have := HK1.out; omega
         case rel => exact ⟨(y280), (wrap64 (x4_1 + 1)), rs_, H', ⟨by have := HK1.out; omega⟩, ⟨rl_ HO282⟩, ⟨bl_⟩⟩
        ·rw [if_neg c12] at H
         exact absurd H (by simp)
       ·rw [if_neg c11] at H
        have c11b0 : ((bt a0 x4_1) == 102) = false := beq_eq_false_iff_ne.mpr c11
        have c11b1 : ((bt a0 x4_1) != 102) = true := bne_iff_ne.mpr c11
        by_cases c14 : (bt a0 x4_1) = 100
        ·rw [if_pos c14] at H
         have c14b0 : ((bt a0 x4_1) == 100) = true := beq_iff_eq.mpr c14
         have c14b1 : ((bt a0 x4_1) != 100) = false := bne_eq_false_iff_eq.mpr c14
         clear c14
         by_cases c15 : x3_1.length < 17592186044416
         ·rw [if_pos c15] at H
          have LMc15 := Aside0.mk c15
          clear c15
          obtain ⟨y283, hy283⟩ : ∃ y_ : List Int, y_ = (x3_1 ++ [124]) := ⟨_, rfl⟩
          replace H : (bodkinref05_Types.l0 k1 a0 y283 (wrap64 (x4_1 + 1))) = some r := by first | (rw [hy283]; with_reducible exact H) | (have H2_ := (Option.bind_some _ _).symm.trans H; rw [hy283]; with_reducible exact H2_) | (have H2_ := (Option.bind_some _ _).symm.trans H; with_reducible exact H2_) | with_reducible exact H | (rw [hy283]; exact H) | exact H
          have Ny283 := Aside0.mk hy283
          clear hy283
          have H' := Aside0.mk H
          clear H
          have p4 : 0 ≤ (x4_1 : Int) := od_
          have q4 : x4_1 < (a0.size : Int) := od_
          have hx4 := bt_at a0 x4_1
          replace p4 := eq_true p4
          replace q4 := eq_true q4
          go_wp2_with (first | ((with_reducible refine gate_builtin (b := .append) (xs := #[.tmp 31, .tmp 32]) rfl ?_); at_builtin; refine Kd.R_append (Kd.int .i64) (w0 := w) w.heap.size rfl (.tmp 31) (.tmp 32) 28 3 (.int .i64 0) 8 rfl Tryz.underlying28 info3 rfl (by decide) (by omega) u3 x3_1 124 [.int .i64 124] (fun _ => True) (fun _ => False) rfl rfl ?aP (fun _ hk => hk.elim) ?aF ?aO ?aB ?aS ?aL ?_; (case aP => exact rfl); (case aB => exact bl_); (case aF => exact (fun _ _ => trivial)); (case aO => exact (rl_ HO_3)); (case aS => exact (below_size bl_)); (case aL => have := LMc15.out; omega); intro v284 w16 ho hb hg hat; rw [← Ny283.out] at ho; have n0_ := Aside0.mk (hb); have n1_ := Aside0.mk (ho); clear HB; clear HO_3; have HB := n0_; have HO285 := n1_; clear n0_ n1_; clear ho hb hg hat))
          go_roundg k1
          case measure => have := HK1.out; omega
          case rel => exact ⟨(y283), (wrap64 (x4_1 + 1)), rs_, H', ⟨by have := HK1.out; omega⟩, ⟨rl_ HO285⟩, ⟨bl_⟩⟩
         ·rw [if_neg c15] at H
          exact absurd H (by simp)
        ·rw [if_neg c14] at H
         have c14b0 : ((bt a0 x4_1) == 100) = false := beq_eq_false_iff_ne.mpr c14
         have c14b1 : ((bt a0 x4_1) != 100) = true := bne_iff_ne.mpr c14
         by_cases c17 : (bt a0 x4_1) = 118
         ·rw [if_pos c17] at H
          have c17b0 : ((bt a0 x4_1) == 118) = true := beq_iff_eq.mpr c17
          have c17b1 : ((bt a0 x4_1) != 118) = false := bne_eq_false_iff_eq.mpr c17
          clear c17
          by_cases c18 : x3_1.length < 17592186044416
          ·rw [if_pos c18] at H
           have LMc18 := Aside0.mk c18
           clear c18
           obtain ⟨y286, hy286⟩ : ∃ y_ : List Int, y_ = (x3_1 ++ [123]) := ⟨_, rfl⟩
           replace H : (bodkinref05_Types.l0 k1 a0 y286 (wrap64 (x4_1 + 1))) = some r := by first | (rw [hy286]; with_reducible exact H) | (have H2_ := (Option.bind_some _ _).symm.trans H; rw [hy286]; with_reducible exact H2_) | (have H2_ := (Option.bind_some _ _).symm.trans H; with_reducible exact H2_) | with_reducible exact H | (rw [hy286]; exact H) | exact H
           have Ny286 := Aside0.mk hy286
           clear hy286
           have H' := Aside0.mk H
           clear H
           have p4 : 0 ≤ (x4_1 : Int) := od_
           have q4 : x4_1 < (a0.size : Int) := od_
           have hx4 := bt_at a0 x4_1
           replace p4 := eq_true p4
           replace q4 := eq_true q4
           go_wp2_with (first | ((with_reducible refine gate_builtin (b := .append) (xs := #[.tmp 36, .tmp 37]) rfl ?_); at_builtin; refine Kd.R_append (Kd.int .i64) (w0 := w) w.heap.size rfl (.tmp 36) (.tmp 37) 28 3 (.int .i64 0) 8 rfl Tryz.underlying28 info3 rfl (by decide) (by omega) u3 x3_1 123 [.int .i64 123] (fun _ => True) (fun _ => False) rfl rfl ?aP (fun _ hk => hk.elim) ?aF ?aO ?aB ?aS ?aL ?_; (case aP => exact rfl); (case aB => exact bl_); (case aF => exact (fun _ _ => trivial)); (case aO => exact (rl_ HO_3)); (case aS => exact (below_size bl_)); (case aL => have := LMc18.out; omega); intro v287 w19 ho hb hg hat; rw [← Ny286.out] at ho; have n0_ := Aside0.mk (hb); have n1_ := Aside0.mk (ho); clear HB; clear HO_3; have HB := n0_; have HO288 := n1_; clear n0_ n1_; clear ho hb hg hat))
           go_roundg k1
           case measure => have := HK1.out; omega
           case rel => exact ⟨(y286), (wrap64 (x4_1 + 1)), rs_, H', ⟨by have := HK1.out; omega⟩, ⟨rl_ HO288⟩, ⟨bl_⟩⟩
          ·rw [if_neg c18] at H
           exact absurd H (by simp)
         ·rw [if_neg c17] at H
          have c17b0 : ((bt a0 x4_1) == 118) = false := beq_eq_false_iff_ne.mpr c17
          have c17b1 : ((bt a0 x4_1) != 118) = true := bne_iff_ne.mpr c17
          by_cases c20 : (bt a0 x4_1) = 110
          ·rw [if_pos c20] at H
           have c20b0 : ((bt a0 x4_1) == 110) = true := beq_iff_eq.mpr c20
           have c20b1 : ((bt a0 x4_1) != 110) = false := bne_eq_false_iff_eq.mpr c20
           clear c20
           by_cases c21 : x3_1.length < 17592186044416
           ·rw [if_pos c21] at H
            have LMc21 := Aside0.mk c21
            clear c21
            obtain ⟨y289, hy289⟩ : ∃ y_ : List Int, y_ = (x3_1 ++ [112]) := ⟨_, rfl⟩
            replace H : (bodkinref05_Types.l0 k1 a0 y289 (wrap64 (x4_1 + 1))) = some r := by first | (rw [hy289]; with_reducible exact H) | (have H2_ := (Option.bind_some _ _).symm.trans H; rw [hy289]; with_reducible exact H2_) | (have H2_ := (Option.bind_some _ _).symm.trans H; with_reducible exact H2_) | with_reducible exact H | (rw [hy289]; exact H) | exact H
            have Ny289 := Aside0.mk hy289
            clear hy289
            have H' := Aside0.mk H
            clear H
            have p4 : 0 ≤ (x4_1 : Int) := od_
            have q4 : x4_1 < (a0.size : Int) := od_
            have hx4 := bt_at a0 x4_1
            replace p4 := eq_true p4
            replace q4 := eq_true q4
            go_wp2_with (first | ((with_reducible refine gate_builtin (b := .append) (xs := #[.tmp 41, .tmp 42]) rfl ?_); at_builtin; refine Kd.R_append (Kd.int .i64) (w0 := w) w.heap.size rfl (.tmp 41) (.tmp 42) 28 3 (.int .i64 0) 8 rfl Tryz.underlying28 info3 rfl (by decide) (by omega) u3 x3_1 112 [.int .i64 112] (fun _ => True) (fun _ => False) rfl rfl ?aP (fun _ hk => hk.elim) ?aF ?aO ?aB ?aS ?aL ?_; (case aP => exact rfl); (case aB => exact bl_); (case aF => exact (fun _ _ => trivial)); (case aO => exact (rl_ HO_3)); (case aS => exact (below_size bl_)); (case aL => have := LMc21.out; omega); intro v290 w22 ho hb hg hat; rw [← Ny289.out] at ho; have n0_ := Aside0.mk (hb); have n1_ := Aside0.mk (ho); clear HB; clear HO_3; have HB := n0_; have HO291 := n1_; clear n0_ n1_; clear ho hb hg hat))
            go_roundg k1
            case measure => have := HK1.out; omega
            case rel => exact ⟨(y289), (wrap64 (x4_1 + 1)), rs_, H', ⟨by have := HK1.out; omega⟩, ⟨rl_ HO291⟩, ⟨bl_⟩⟩
           ·rw [if_neg c21] at H
            exact absurd H (by simp)
          ·rw [if_neg c20] at H
           have c20b0 : ((bt a0 x4_1) == 110) = false := beq_eq_false_iff_ne.mpr c20
           have c20b1 : ((bt a0 x4_1) != 110) = true := bne_iff_ne.mpr c20
           have H' := Aside0.mk H
           clear H
           have p4 : 0 ≤ (x4_1 : Int) := od_
           have q4 : x4_1 < (a0.size : Int) := od_
           have hx4 := bt_at a0 x4_1
           replace p4 := eq_true p4
           replace q4 := eq_true q4
           go_wp2
           go_roundg k1
           case measure => have := HK1.out; omega
           case rel => exact ⟨(x3_1), (wrap64 (x4_1 + 1)), rs_, H', ⟨by have := HK1.out; omega⟩, ⟨rl_ HO_3⟩, ⟨bl_⟩⟩
    ·rw [if_neg c3] at H
     exact absurd H (by simp)
   ·rw [if_neg c2] at H
    have c2b0 : decide (x4_1 < (a0.size : Int)) = false := decide_eq_false c2
    clear c2
    obtain rfl := Option.some.inj H
    go_wp2
    go_ret
    exact ⟨_, er_, by (with_reducible repeat (first | apply Kd.R_alloc | apply Kd.R_drewN | apply Kd.R_drew)); exact HO_3.out, bl_⟩
def bodkinref07_Numeric.f (k : Nat) (a0 : Int) : Option (Bool) := (bodkinref05_Of.f k a0).bind fun bt292 => (if bt292.1 < 0 then (some false) else (if a0 ≥ 69 then (if a0 ≤ 196 then (some true) else (if a0 ≥ 64512 then (if a0 ≤ 64519 then (some true) else (if a0 ≥ 64768 then (if bt292.2.2.1 = 0 then (some true) else (if bt292.2.2.1 = 24 then (some true) else (some (bt292.2.2.1 == 25)))) else (none))) else (none))) else (none)))
theorem bodkinref07_Numeric.mono : ∀ a0 k, LeO (bodkinref07_Numeric.f k a0) (bodkinref07_Numeric.f (k + 1) a0) := by
 intro a0 k
 unfold bodkinref07_Numeric.f
 repeat' first
   | (with_reducible exact bodkinref05_Of.mono _ _)
   | (with_reducible exact LeO.refl _)
   | (with_reducible exact LeO.none _)
   | (with_reducible refine LeO.ite ?_ ?_)
   | (with_reducible refine LeO.bind ?_ (fun _ => ?_))
   | exact bodkinref05_Of.mono _ _
   | exact LeO.none _
   | refine LeO.ite ?_ ?_
   | refine LeO.bind ?_ (fun _ => ?_)
set_option maxHeartbeats 8000000 in
set_option maxRecDepth 100000 in
theorem bodkinref07_Numeric.calls (k : Nat) (a0 : Int) (r : Bool) (w : World) (h : bodkinref07_Numeric.f k a0 = some r) (hG : GD w := by first | assumption | exact GD.below (by assumption) (by repeat (first | exact Aside0.out (by assumption) | exact Below.refl _ _ | assumption | apply below_alloc | apply pw_below_drewN | apply below_drew1 | refine below_set ?_ (Aside0.out (by assumption))))) :
  Calls Tryz.prog 18 #[.int .i64 a0] w fun e w' => e = .returned (.bool r) ∧ Below w.heap.size w w' := by
 have hu25 := Tryz.underlying25
 have HB := Aside0.mk (Below.refl w.heap.size w)
 have H : ((bodkinref05_Of.f k a0).bind fun bt292 => (if bt292.1 < 0 then (some false) else (if a0 ≥ 69 then (if a0 ≤ 196 then (some true) else (if a0 ≥ 64512 then (if a0 ≤ 64519 then (some true) else (if a0 ≥ 64768 then (if bt292.2.2.1 = 0 then (some true) else (if bt292.2.2.1 = 24 then (some true) else (some (bt292.2.2.1 == 25)))) else (none))) else (none))) else (none)))) = some r := h
 clear h
 replace H := Option.bind_eq_some_iff.mp H
 obtain ⟨⟨t292, t293, t294, t295, t296, t297⟩, A20, H⟩ := H
 replace H : (if t292 < 0 then (some false) else (if a0 ≥ 69 then (if a0 ≤ 196 then (some true) else (if a0 ≥ 64512 then (if a0 ≤ 64519 then (some true) else (if a0 ≥ 64768 then (if t294 = 0 then (some true) else (if t294 = 24 then (some true) else (some (t294 == 25)))) else (none))) else (none))) else (none))) = some r := H
 have A2 := Aside0.mk A20
 clear A20
 by_cases c3 : t292 < 0
 ·rw [if_pos c3] at H
  have c3b0 : decide (t292 < 0) = true := decide_eq_true c3
  clear c3
  obtain rfl := Option.some.inj H
  go_enter Tryz.func18, Tryz.ntmps18
  go_wp2_with (first | ((with_reducible refine gate_callee (f := 13) rfl ?_); refine goesL_ (some 5) rfl rfl Tryz.func13 (by kernel_rfl) rfl #[.int .i64 a0] rfl mp_ ?_; (with_reducible refine (bodkinref05_Of.calls k a0 t292 t293 t294 t295 t296 t297 _ A2.out).mono ?_); rintro e w4 ⟨rfl, hb⟩; refine ⟨_, rfl, ?_⟩; have n0_ := Aside0.mk (below_step bl_ hb); clear HB; have HB := n0_; clear n0_; (try clear hb); (try clear hb2); (try clear hk); (try clear hi)) | ((with_reducible refine gate_dst (N := 3) rfl ?_); refine box_event ?hg (N := 3) ?hd (cs := #[.int .i64 0, .string (⟨#[]⟩ : ByteArray), .int .i64 0, .string (⟨#[]⟩ : ByteArray), .string (⟨#[]⟩ : ByteArray), .bool false]) (t := 25) ?hr ?_; (case hd => rfl); (case hg => rfl); (case hr => first | (go_simp; done) | (go_simp; rfl)); intro gb298 hg w5 hbox hb; have n0_ := Aside0.mk (below_step bl_ hb); have n1_ := Aside0.mk (hbox); have n2_ := Aside0.mk ((by rw [hg]; exact (below_size bl_) : w.heap.size ≤ gb298)); have n3_ := Aside0.mk ((by rw [hg]; exact (below_size bl_) : w.heap.size ≤ gb298)); clear HB; have HB := n0_; have BK298 := n1_; have GW298 := n2_; have GE298 := n3_; clear n0_ n1_ n2_ n3_; clear hb hbox hg; have hcz6_0 : w5.cell? ⟨gb298, 0, none⟩ = some (.int .i64 0) := (blk_cell BK298.out 0).trans rfl; have hcz6_1 : w5.cell? ⟨gb298, 1, none⟩ = some (.string (⟨#[]⟩ : ByteArray)) := (blk_cell BK298.out 1).trans rfl; have hcz6_2 : w5.cell? ⟨gb298, 2, none⟩ = some (.int .i64 0) := (blk_cell BK298.out 2).trans rfl; have hcz6_3 : w5.cell? ⟨gb298, 3, none⟩ = some (.string (⟨#[]⟩ : ByteArray)) := (blk_cell BK298.out 3).trans rfl; have hcz6_4 : w5.cell? ⟨gb298, 4, none⟩ = some (.string (⟨#[]⟩ : ByteArray)) := (blk_cell BK298.out 4).trans rfl; have hcz6_5 : w5.cell? ⟨gb298, 5, none⟩ = some (.bool false) := (blk_cell BK298.out 5).trans rfl; have hfz6_0 := blk_frozen BK298.out 0; have hfz6_1 := blk_frozen BK298.out 1; have hfz6_2 := blk_frozen BK298.out 2; have hfz6_3 := blk_frozen BK298.out 3; have hfz6_4 := blk_frozen BK298.out 4; have hfz6_5 := blk_frozen BK298.out 5))
  go_ret
  exact ⟨er_, bs_⟩
 ·rw [if_neg c3] at H
  have c3b0 : decide (t292 < 0) = false := decide_eq_false c3
  clear c3
  by_cases c7 : a0 ≥ 69
  ·rw [if_pos c7] at H
   have c7b0 : decide (69 ≤ a0) = true := decide_eq_true c7
   clear c7
   by_cases c8 : a0 ≤ 196
   ·rw [if_pos c8] at H
    have c8b0 : decide (a0 ≤ 196) = true := decide_eq_true c8
    clear c8
    obtain rfl := Option.some.inj H
    go_enter Tryz.func18, Tryz.ntmps18
    go_wp2_with (first | ((with_reducible refine gate_callee (f := 13) rfl ?_); refine goesL_ (some 5) rfl rfl Tryz.func13 (by kernel_rfl) rfl #[.int .i64 a0] rfl mp_ ?_; (with_reducible refine (bodkinref05_Of.calls k a0 t292 t293 t294 t295 t296 t297 _ A2.out).mono ?_); rintro e w9 ⟨rfl, hb⟩; refine ⟨_, rfl, ?_⟩; have n0_ := Aside0.mk (below_step bl_ hb); clear HB; have HB := n0_; clear n0_; (try clear hb); (try clear hb2); (try clear hk); (try clear hi)) | ((with_reducible refine gate_dst (N := 3) rfl ?_); refine box_event ?hg (N := 3) ?hd (cs := #[.int .i64 0, .string (⟨#[]⟩ : ByteArray), .int .i64 0, .string (⟨#[]⟩ : ByteArray), .string (⟨#[]⟩ : ByteArray), .bool false]) (t := 25) ?hr ?_; (case hd => rfl); (case hg => rfl); (case hr => first | (go_simp; done) | (go_simp; rfl)); intro gb298 hg w10 hbox hb; have n0_ := Aside0.mk (below_step bl_ hb); have n1_ := Aside0.mk (hbox); have n2_ := Aside0.mk ((by rw [hg]; exact (below_size bl_) : w.heap.size ≤ gb298)); have n3_ := Aside0.mk ((by rw [hg]; exact (below_size bl_) : w.heap.size ≤ gb298)); clear HB; have HB := n0_; have BK298 := n1_; have GW298 := n2_; have GE298 := n3_; clear n0_ n1_ n2_ n3_; clear hb hbox hg; have hcz11_0 : w10.cell? ⟨gb298, 0, none⟩ = some (.int .i64 0) := (blk_cell BK298.out 0).trans rfl; have hcz11_1 : w10.cell? ⟨gb298, 1, none⟩ = some (.string (⟨#[]⟩ : ByteArray)) := (blk_cell BK298.out 1).trans rfl; have hcz11_2 : w10.cell? ⟨gb298, 2, none⟩ = some (.int .i64 0) := (blk_cell BK298.out 2).trans rfl; have hcz11_3 : w10.cell? ⟨gb298, 3, none⟩ = some (.string (⟨#[]⟩ : ByteArray)) := (blk_cell BK298.out 3).trans rfl; have hcz11_4 : w10.cell? ⟨gb298, 4, none⟩ = some (.string (⟨#[]⟩ : ByteArray)) := (blk_cell BK298.out 4).trans rfl; have hcz11_5 : w10.cell? ⟨gb298, 5, none⟩ = some (.bool false) := (blk_cell BK298.out 5).trans rfl; have hfz11_0 := blk_frozen BK298.out 0; have hfz11_1 := blk_frozen BK298.out 1; have hfz11_2 := blk_frozen BK298.out 2; have hfz11_3 := blk_frozen BK298.out 3; have hfz11_4 := blk_frozen BK298.out 4; have hfz11_5 := blk_frozen BK298.out 5))
    go_ret
    exact ⟨er_, bs_⟩
   ·rw [if_neg c8] at H
    have c8b0 : decide (a0 ≤ 196) = false := decide_eq_false c8
    clear c8
    by_cases c12 : a0 ≥ 64512
    ·rw [if_pos c12] at H
     have c12b0 : decide (64512 ≤ a0) = true := decide_eq_true c12
     clear c12
     by_cases c13 : a0 ≤ 64519
     ·rw [if_pos c13] at H
      have c13b0 : decide (a0 ≤ 64519) = true := decide_eq_true c13
      clear c13
      obtain rfl := Option.some.inj H
      go_enter Tryz.func18, Tryz.ntmps18
      go_wp2_with (first | ((with_reducible refine gate_callee (f := 13) rfl ?_); refine goesL_ (some 5) rfl rfl Tryz.func13 (by kernel_rfl) rfl #[.int .i64 a0] rfl mp_ ?_; (with_reducible refine (bodkinref05_Of.calls k a0 t292 t293 t294 t295 t296 t297 _ A2.out).mono ?_); rintro e w14 ⟨rfl, hb⟩; refine ⟨_, rfl, ?_⟩; have n0_ := Aside0.mk (below_step bl_ hb); clear HB; have HB := n0_; clear n0_; (try clear hb); (try clear hb2); (try clear hk); (try clear hi)) | ((with_reducible refine gate_dst (N := 3) rfl ?_); refine box_event ?hg (N := 3) ?hd (cs := #[.int .i64 0, .string (⟨#[]⟩ : ByteArray), .int .i64 0, .string (⟨#[]⟩ : ByteArray), .string (⟨#[]⟩ : ByteArray), .bool false]) (t := 25) ?hr ?_; (case hd => rfl); (case hg => rfl); (case hr => first | (go_simp; done) | (go_simp; rfl)); intro gb298 hg w15 hbox hb; have n0_ := Aside0.mk (below_step bl_ hb); have n1_ := Aside0.mk (hbox); have n2_ := Aside0.mk ((by rw [hg]; exact (below_size bl_) : w.heap.size ≤ gb298)); have n3_ := Aside0.mk ((by rw [hg]; exact (below_size bl_) : w.heap.size ≤ gb298)); clear HB; have HB := n0_; have BK298 := n1_; have GW298 := n2_; have GE298 := n3_; clear n0_ n1_ n2_ n3_; clear hb hbox hg; have hcz16_0 : w15.cell? ⟨gb298, 0, none⟩ = some (.int .i64 0) := (blk_cell BK298.out 0).trans rfl; have hcz16_1 : w15.cell? ⟨gb298, 1, none⟩ = some (.string (⟨#[]⟩ : ByteArray)) := (blk_cell BK298.out 1).trans rfl; have hcz16_2 : w15.cell? ⟨gb298, 2, none⟩ = some (.int .i64 0) := (blk_cell BK298.out 2).trans rfl; have hcz16_3 : w15.cell? ⟨gb298, 3, none⟩ = some (.string (⟨#[]⟩ : ByteArray)) := (blk_cell BK298.out 3).trans rfl; have hcz16_4 : w15.cell? ⟨gb298, 4, none⟩ = some (.string (⟨#[]⟩ : ByteArray)) := (blk_cell BK298.out 4).trans rfl; have hcz16_5 : w15.cell? ⟨gb298, 5, none⟩ = some (.bool false) := (blk_cell BK298.out 5).trans rfl; have hfz16_0 := blk_frozen BK298.out 0; have hfz16_1 := blk_frozen BK298.out 1; have hfz16_2 := blk_frozen BK298.out 2; have hfz16_3 := blk_frozen BK298.out 3; have hfz16_4 := blk_frozen BK298.out 4; have hfz16_5 := blk_frozen BK298.out 5))
      go_ret
      exact ⟨er_, bs_⟩
     ·rw [if_neg c13] at H
      have c13b0 : decide (a0 ≤ 64519) = false := decide_eq_false c13
      clear c13
      by_cases c17 : a0 ≥ 64768
      ·rw [if_pos c17] at H
       have c17b0 : decide (64768 ≤ a0) = true := decide_eq_true c17
       clear c17
       by_cases c18 : t294 = 0
       ·rw [if_pos c18] at H
        have c18b0 : (t294 == 0) = true := beq_iff_eq.mpr c18
        have c18b1 : (t294 != 0) = false := bne_eq_false_iff_eq.mpr c18
        clear c18
        obtain rfl := Option.some.inj H
        go_enter Tryz.func18, Tryz.ntmps18
        go_wp2_with (first | ((with_reducible refine gate_callee (f := 13) rfl ?_); refine goesL_ (some 5) rfl rfl Tryz.func13 (by kernel_rfl) rfl #[.int .i64 a0] rfl mp_ ?_; (with_reducible refine (bodkinref05_Of.calls k a0 t292 t293 t294 t295 t296 t297 _ A2.out).mono ?_); rintro e w19 ⟨rfl, hb⟩; refine ⟨_, rfl, ?_⟩; have n0_ := Aside0.mk (below_step bl_ hb); clear HB; have HB := n0_; clear n0_; (try clear hb); (try clear hb2); (try clear hk); (try clear hi)) | ((with_reducible refine gate_dst (N := 3) rfl ?_); refine box_event ?hg (N := 3) ?hd (cs := #[.int .i64 0, .string (⟨#[]⟩ : ByteArray), .int .i64 0, .string (⟨#[]⟩ : ByteArray), .string (⟨#[]⟩ : ByteArray), .bool false]) (t := 25) ?hr ?_; (case hd => rfl); (case hg => rfl); (case hr => first | (go_simp; done) | (go_simp; rfl)); intro gb298 hg w20 hbox hb; have n0_ := Aside0.mk (below_step bl_ hb); have n1_ := Aside0.mk (hbox); have n2_ := Aside0.mk ((by rw [hg]; exact (below_size bl_) : w.heap.size ≤ gb298)); have n3_ := Aside0.mk ((by rw [hg]; exact (below_size bl_) : w.heap.size ≤ gb298)); clear HB; have HB := n0_; have BK298 := n1_; have GW298 := n2_; have GE298 := n3_; clear n0_ n1_ n2_ n3_; clear hb hbox hg; have hcz21_0 : w20.cell? ⟨gb298, 0, none⟩ = some (.int .i64 0) := (blk_cell BK298.out 0).trans rfl; have hcz21_1 : w20.cell? ⟨gb298, 1, none⟩ = some (.string (⟨#[]⟩ : ByteArray)) := (blk_cell BK298.out 1).trans rfl; have hcz21_2 : w20.cell? ⟨gb298, 2, none⟩ = some (.int .i64 0) := (blk_cell BK298.out 2).trans rfl; have hcz21_3 : w20.cell? ⟨gb298, 3, none⟩ = some (.string (⟨#[]⟩ : ByteArray)) := (blk_cell BK298.out 3).trans rfl; have hcz21_4 : w20.cell? ⟨gb298, 4, none⟩ = some (.string (⟨#[]⟩ : ByteArray)) := (blk_cell BK298.out 4).trans rfl; have hcz21_5 : w20.cell? ⟨gb298, 5, none⟩ = some (.bool false) := (blk_cell BK298.out 5).trans rfl; have hfz21_0 := blk_frozen BK298.out 0; have hfz21_1 := blk_frozen BK298.out 1; have hfz21_2 := blk_frozen BK298.out 2; have hfz21_3 := blk_frozen BK298.out 3; have hfz21_4 := blk_frozen BK298.out 4; have hfz21_5 := blk_frozen BK298.out 5))
        go_ret
        exact ⟨er_, bs_⟩
       ·rw [if_neg c18] at H
        have c18b0 : (t294 == 0) = false := beq_eq_false_iff_ne.mpr c18
        have c18b1 : (t294 != 0) = true := bne_iff_ne.mpr c18
        by_cases c22 : t294 = 24
        ·rw [if_pos c22] at H
         have c22b0 : (t294 == 24) = true := beq_iff_eq.mpr c22
         have c22b1 : (t294 != 24) = false := bne_eq_false_iff_eq.mpr c22
         clear c22
         obtain rfl := Option.some.inj H
         go_enter Tryz.func18, Tryz.ntmps18
         go_wp2_with (first | ((with_reducible refine gate_callee (f := 13) rfl ?_); refine goesL_ (some 5) rfl rfl Tryz.func13 (by kernel_rfl) rfl #[.int .i64 a0] rfl mp_ ?_; (with_reducible refine (bodkinref05_Of.calls k a0 t292 t293 t294 t295 t296 t297 _ A2.out).mono ?_); rintro e w23 ⟨rfl, hb⟩; refine ⟨_, rfl, ?_⟩; have n0_ := Aside0.mk (below_step bl_ hb); clear HB; have HB := n0_; clear n0_; (try clear hb); (try clear hb2); (try clear hk); (try clear hi)) | ((with_reducible refine gate_dst (N := 3) rfl ?_); refine box_event ?hg (N := 3) ?hd (cs := #[.int .i64 0, .string (⟨#[]⟩ : ByteArray), .int .i64 0, .string (⟨#[]⟩ : ByteArray), .string (⟨#[]⟩ : ByteArray), .bool false]) (t := 25) ?hr ?_; (case hd => rfl); (case hg => rfl); (case hr => first | (go_simp; done) | (go_simp; rfl)); intro gb298 hg w24 hbox hb; have n0_ := Aside0.mk (below_step bl_ hb); have n1_ := Aside0.mk (hbox); have n2_ := Aside0.mk ((by rw [hg]; exact (below_size bl_) : w.heap.size ≤ gb298)); have n3_ := Aside0.mk ((by rw [hg]; exact (below_size bl_) : w.heap.size ≤ gb298)); clear HB; have HB := n0_; have BK298 := n1_; have GW298 := n2_; have GE298 := n3_; clear n0_ n1_ n2_ n3_; clear hb hbox hg; have hcz25_0 : w24.cell? ⟨gb298, 0, none⟩ = some (.int .i64 0) := (blk_cell BK298.out 0).trans rfl; have hcz25_1 : w24.cell? ⟨gb298, 1, none⟩ = some (.string (⟨#[]⟩ : ByteArray)) := (blk_cell BK298.out 1).trans rfl; have hcz25_2 : w24.cell? ⟨gb298, 2, none⟩ = some (.int .i64 0) := (blk_cell BK298.out 2).trans rfl; have hcz25_3 : w24.cell? ⟨gb298, 3, none⟩ = some (.string (⟨#[]⟩ : ByteArray)) := (blk_cell BK298.out 3).trans rfl; have hcz25_4 : w24.cell? ⟨gb298, 4, none⟩ = some (.string (⟨#[]⟩ : ByteArray)) := (blk_cell BK298.out 4).trans rfl; have hcz25_5 : w24.cell? ⟨gb298, 5, none⟩ = some (.bool false) := (blk_cell BK298.out 5).trans rfl; have hfz25_0 := blk_frozen BK298.out 0; have hfz25_1 := blk_frozen BK298.out 1; have hfz25_2 := blk_frozen BK298.out 2; have hfz25_3 := blk_frozen BK298.out 3; have hfz25_4 := blk_frozen BK298.out 4; have hfz25_5 := blk_frozen BK298.out 5))
         go_ret
         exact ⟨er_, bs_⟩
        ·rw [if_neg c22] at H
         have c22b0 : (t294 == 24) = false := beq_eq_false_iff_ne.mpr c22
         have c22b1 : (t294 != 24) = true := bne_iff_ne.mpr c22
         obtain rfl := Option.some.inj H
         go_enter Tryz.func18, Tryz.ntmps18
         go_wp2_with (first | ((with_reducible refine gate_callee (f := 13) rfl ?_); refine goesL_ (some 5) rfl rfl Tryz.func13 (by kernel_rfl) rfl #[.int .i64 a0] rfl mp_ ?_; (with_reducible refine (bodkinref05_Of.calls k a0 t292 t293 t294 t295 t296 t297 _ A2.out).mono ?_); rintro e w26 ⟨rfl, hb⟩; refine ⟨_, rfl, ?_⟩; have n0_ := Aside0.mk (below_step bl_ hb); clear HB; have HB := n0_; clear n0_; (try clear hb); (try clear hb2); (try clear hk); (try clear hi)) | ((with_reducible refine gate_dst (N := 3) rfl ?_); refine box_event ?hg (N := 3) ?hd (cs := #[.int .i64 0, .string (⟨#[]⟩ : ByteArray), .int .i64 0, .string (⟨#[]⟩ : ByteArray), .string (⟨#[]⟩ : ByteArray), .bool false]) (t := 25) ?hr ?_; (case hd => rfl); (case hg => rfl); (case hr => first | (go_simp; done) | (go_simp; rfl)); intro gb298 hg w27 hbox hb; have n0_ := Aside0.mk (below_step bl_ hb); have n1_ := Aside0.mk (hbox); have n2_ := Aside0.mk ((by rw [hg]; exact (below_size bl_) : w.heap.size ≤ gb298)); have n3_ := Aside0.mk ((by rw [hg]; exact (below_size bl_) : w.heap.size ≤ gb298)); clear HB; have HB := n0_; have BK298 := n1_; have GW298 := n2_; have GE298 := n3_; clear n0_ n1_ n2_ n3_; clear hb hbox hg; have hcz28_0 : w27.cell? ⟨gb298, 0, none⟩ = some (.int .i64 0) := (blk_cell BK298.out 0).trans rfl; have hcz28_1 : w27.cell? ⟨gb298, 1, none⟩ = some (.string (⟨#[]⟩ : ByteArray)) := (blk_cell BK298.out 1).trans rfl; have hcz28_2 : w27.cell? ⟨gb298, 2, none⟩ = some (.int .i64 0) := (blk_cell BK298.out 2).trans rfl; have hcz28_3 : w27.cell? ⟨gb298, 3, none⟩ = some (.string (⟨#[]⟩ : ByteArray)) := (blk_cell BK298.out 3).trans rfl; have hcz28_4 : w27.cell? ⟨gb298, 4, none⟩ = some (.string (⟨#[]⟩ : ByteArray)) := (blk_cell BK298.out 4).trans rfl; have hcz28_5 : w27.cell? ⟨gb298, 5, none⟩ = some (.bool false) := (blk_cell BK298.out 5).trans rfl; have hfz28_0 := blk_frozen BK298.out 0; have hfz28_1 := blk_frozen BK298.out 1; have hfz28_2 := blk_frozen BK298.out 2; have hfz28_3 := blk_frozen BK298.out 3; have hfz28_4 := blk_frozen BK298.out 4; have hfz28_5 := blk_frozen BK298.out 5))
         go_ret
         exact ⟨er_, bs_⟩
      ·rw [if_neg c17] at H
       exact absurd H (by simp)
    ·rw [if_neg c12] at H
     exact absurd H (by simp)
  ·rw [if_neg c7] at H
   exact absurd H (by simp)
def bodkinref02_Cut.l0 : Nat → Int → Int → Int → Int → Option (Int)
 | 0, _, _, _, _ => none
 | k + 1, x0, x1, x5, x6 => if x6 < x0 then (bodkinref02_Cut.l0 k x0 x1 (IntKind.u64.wrap (x5 * 2)) (wrap64 (x6 + 1))) else (if x5 = 0 then (none) else (some (Int.tmod x1 x5)))
def bodkinref02_Cut.f (k : Nat) (a0 : Int) (a1 : Int) : Option (Int) := if a0 = 64 then (some a1) else (bodkinref02_Cut.l0 k a0 a1 1 0)
theorem bodkinref02_Cut.mono_l : ∀ k, (∀ y0 y1 y2 y3, LeO (bodkinref02_Cut.l0 k y0 y1 y2 y3) (bodkinref02_Cut.l0 (k + 1) y0 y1 y2 y3))
 | 0 => fun _ _ _ _ r h => by simp [bodkinref02_Cut.l0] at h
 | k + 1 => by
  have ih0 := bodkinref02_Cut.mono_l k
  ·intro y0 y1 y2 y3
   unfold bodkinref02_Cut.l0
   repeat' first
   | (with_reducible exact ih0 _ _ _ _)
   | (with_reducible exact LeO.refl _)
   | (with_reducible exact LeO.none _)
   | (with_reducible refine LeO.ite ?_ ?_)
   | (with_reducible refine LeO.bind ?_ (fun _ => ?_))
   | exact ih0 _ _ _ _
   | exact LeO.none _
   | refine LeO.ite ?_ ?_
   | refine LeO.bind ?_ (fun _ => ?_)
theorem bodkinref02_Cut.mono : ∀ a0 a1 k, LeO (bodkinref02_Cut.f k a0 a1) (bodkinref02_Cut.f (k + 1) a0 a1) := by
 intro a0 a1 k
 have ih0 := bodkinref02_Cut.mono_l k
 unfold bodkinref02_Cut.f
 repeat' first
   | (with_reducible exact ih0 _ _ _ _)
   | (with_reducible exact LeO.refl _)
   | (with_reducible exact LeO.none _)
   | (with_reducible refine LeO.ite ?_ ?_)
   | (with_reducible refine LeO.bind ?_ (fun _ => ?_))
   | exact ih0 _ _ _ _
   | exact LeO.none _
   | refine LeO.ite ?_ ?_
   | refine LeO.bind ?_ (fun _ => ?_)
set_option maxHeartbeats 8000000 in
set_option maxRecDepth 100000 in
theorem bodkinref02_Cut.calls (k : Nat) (a0 : Int) (a1 : Int) (r : Int) (w : World) (h : bodkinref02_Cut.f k a0 a1 = some r) (hG : GD w := by first | assumption | exact GD.below (by assumption) (by repeat (first | exact Aside0.out (by assumption) | exact Below.refl _ _ | assumption | apply below_alloc | apply pw_below_drewN | apply below_drew1 | refine below_set ?_ (Aside0.out (by assumption))))) :
  Calls Tryz.prog 54 #[.int .i64 a0, .int .u64 a1] w fun e w' => e = .returned (.int .u64 r) ∧ Drawn0 w w' := by
 have H : (if a0 = 64 then (some a1) else (bodkinref02_Cut.l0 k a0 a1 1 0)) = some r := h
 clear h
 by_cases c3 : a0 = 64
 ·rw [if_pos c3] at H
  have c3b0 : (a0 == 64) = true := beq_iff_eq.mpr c3
  have c3b1 : (a0 != 64) = false := bne_eq_false_iff_eq.mpr c3
  clear c3
  obtain rfl := Option.some.inj H
  go_enter Tryz.func54, Tryz.ntmps54
  go_wp2
  go_ret
  exact ⟨by first | rfl | (simp; done) | (simp [*]; done), by repeat (first | exact Drawn0.refl _ | apply Drawn0.step)⟩
 ·rw [if_neg c3] at H
  have c3b0 : (a0 == 64) = false := beq_eq_false_iff_ne.mpr c3
  have c3b1 : (a0 != 64) = true := bne_iff_ne.mpr c3
  have H' := Aside0.mk H
  clear H
  go_enter Tryz.func54, Tryz.ntmps54
  go_wp2
  go_loopg [5, 6] k (fun kq v5 v6 w' => ∃ (x5_1 : Int) (x6_1 : Int), v5 = .int .u64 x5_1 ∧ v6 = .int .i64 x6_1 ∧ Aside0 (bodkinref02_Cut.l0 kq a0 a1 x5_1 x6_1 = some r) ∧ Aside0 (kq ≤ k) ∧ Drawn0 w w')
  case atStart => exact ⟨(1), (0), rs_, rs_, H', ⟨Nat.le_refl _⟩, by repeat (first | exact Drawn0.refl _ | apply Drawn0.step)⟩
  case round =>
   clear H'
   (try clear p2); (try clear c3); (try clear c3b0); (try clear c3b1)
   obtain ⟨x5_1, x6_1, rfl, rfl, HA, HK1, ⟨m1, rfl⟩⟩ := hrel
   cases gk with
   | zero => exact absurd HA.out (by simp [bodkinref02_Cut.l0])
   | succ k1 =>
    have H := HA.out
    clear HA
    simp only [bodkinref02_Cut.l0] at H
    by_cases c4 : x6_1 < a0
    ·rw [if_pos c4] at H
     have c4b0 : decide (x6_1 < a0) = true := decide_eq_true c4
     clear c4
     have H' := Aside0.mk H
     clear H
     go_wp2
     go_roundg k1
     case measure => have := HK1.out; omega
     case rel => exact ⟨(IntKind.u64.wrap (x5_1 * 2)), (wrap64 (x6_1 + 1)), rs_, rs_, H', ⟨by have := HK1.out; omega⟩, by repeat (first | exact Drawn0.refl _ | apply Drawn0.step)⟩
    ·rw [if_neg c4] at H
     have c4b0 : decide (x6_1 < a0) = false := decide_eq_false c4
     clear c4
     by_cases c5 : x5_1 = 0
     ·rw [if_pos c5] at H
      exact absurd H (by simp)
     ·rw [if_neg c5] at H
      have c5b0 : (x5_1 == 0) = false := beq_eq_false_iff_ne.mpr c5
      have c5b1 : (x5_1 != 0) = true := bne_iff_ne.mpr c5
      obtain rfl := Option.some.inj H
      go_wp2
      go_ret
      exact ⟨by first | rfl | (simp; done) | (simp [*]; done), by repeat (first | exact Drawn0.refl _ | apply Drawn0.step)⟩
end Go.Proofs.YtkhhhceeoljheaaGreatDoor.PHel

import Derived.Test.YtkhhhceeoljheaaGreatDoorFxPFlox11
set_option maxHeartbeats 8000000
set_option maxRecDepth 100000
namespace Go.Proofs.YtkhhhceeoljheaaGreatDoor.PFlo
open Go.RowKit Go.Proofs.YtkhhhceeoljheaaGreatDoorW.PrintWords Go.Proofs.YtkhhhceeoljheaaGreatDoorW.PrintLast Go.Proofs.YtkhhhceeoljheaaGreatDoorW.PrintMore
attribute [local go_sem] max2_int min2_int max_two min_two max_three min_three max_four min_four   
set_option linter.unusedVariables false
set_option linter.unusedSimpArgs false
attribute [local go_sem high] eqA33
theorem fld_takes (a : Int) (b : ByteArray) (c : Int) (d e : ByteArray) (f : Bool) (w : World) : (Instr.field 25 (.agg #[.int .i64 a, .string b, .int .i64 c, .string d, .string e, .bool f]) 3).run Tryz.prog w = .ok (.string d) w := by kernel_rfl
mutual
def bodkinlaw07_some.l0 : Nat → Int → Int → Int → Int → Option (Bool)
 | 0, _, _, _, _ => none
 | k + 1, x1, x2, x3, x9 => if x9 ≤ x1 then ((bodkinref05_Of.f k x9).bind fun bt321 => ((bodkinref05_Types.f k bt321.2.2.2.1).bind fun t327 => (bodkinlaw07_some.l1 k x1 x2 x3 x9 t327 ([] : List (S33)) 0))) else (some true)
def bodkinlaw07_some.l1 : Nat → Int → Int → Int → Int → List Int → List (S33) → Int → Option (Bool)
 | 0, _, _, _, _, _, _, _ => none
 | k + 1, x1, x2, x3, x9, x10, x11, x12 => if x12 < (x10.length : Int) then (if 0 ≤ x12 then ((some (([x2, x3] : List Int) : List Int)).bind fun y331 => (if x12 < (y331.length : Int) then (if x11.length < 4398046511104 then (bodkinlaw07_some.l1 k x1 x2 x3 x9 x10 (x11 ++ [(⟨rd x10 x12, rd y331 x12, 0, false⟩ : S33)]) (wrap64 (x12 + 1))) else (none)) else (none))) else (none)) else ((scalar_Do.f k x9 ([] : List Int) x11).bind fun bt338 => ((bodkinref07_Do.f k x9 ([] : List Int) x11).bind fun bt344 => (if (!(bt338.1 == bt344.1) || (!(bt338.2.1 == bt344.2.1) || (!(bt338.2.2.1 == bt344.2.2.1) || (!(bt338.2.2.2.1 == bt344.2.2.2.1))))) = true then (none) else (if bt338.2.2.2.2 = bt344.2.2.2.2 then (bodkinlaw07_some.l0 k x1 x2 x3 (wrap64 (x9 + 1))) else (some false)))))
end
def bodkinlaw07_some.f (k : Nat) (a0 : Int) (a1 : Int) (a2 : Int) (a3 : Int) : Option (Bool) := bodkinlaw07_some.l0 k a1 a2 a3 a0
theorem bodkinlaw07_some.mono_l : ∀ k, (∀ y0 y1 y2 y3, LeO (bodkinlaw07_some.l0 k y0 y1 y2 y3) (bodkinlaw07_some.l0 (k + 1) y0 y1 y2 y3)) ∧ (∀ y0 y1 y2 y3 y4 y5 y6, LeO (bodkinlaw07_some.l1 k y0 y1 y2 y3 y4 y5 y6) (bodkinlaw07_some.l1 (k + 1) y0 y1 y2 y3 y4 y5 y6))
 | 0 => ⟨fun _ _ _ _ r h => by simp [bodkinlaw07_some.l0] at h, fun _ _ _ _ _ _ _ r h => by simp [bodkinlaw07_some.l1] at h⟩
 | k + 1 => by
  obtain ⟨ih0, ih1⟩ := bodkinlaw07_some.mono_l k; refine ⟨?_, ?_⟩
  ·intro y0 y1 y2 y3; unfold bodkinlaw07_some.l0
   repeat' first
   | (with_reducible exact ih0 _ _ _ _)
   | (with_reducible exact ih1 _ _ _ _ _ _ _)
   | (with_reducible exact bodkinref05_Of.mono _ _)
   | (with_reducible exact bodkinref05_Types.mono _ _)
   | (with_reducible exact bodkinref07_Do.mono _ _ _ _)
   | (with_reducible exact scalar_Do.mono _ _ _ _)
   | (with_reducible exact LeO.refl _)
   | (with_reducible exact LeO.none _)
   | (with_reducible refine LeO.ite ?_ ?_)
   | (with_reducible refine LeO.bind ?_ (fun _ => ?_))
   | exact ih0 _ _ _ _
   | exact ih1 _ _ _ _ _ _ _
   | exact bodkinref05_Of.mono _ _
   | exact bodkinref05_Types.mono _ _
   | exact bodkinref07_Do.mono _ _ _ _
   | exact scalar_Do.mono _ _ _ _
   | exact LeO.none _
   | refine LeO.ite ?_ ?_
   | refine LeO.bind ?_ (fun _ => ?_)
  ·intro y0 y1 y2 y3 y4 y5 y6; unfold bodkinlaw07_some.l1
   repeat' first
   | (with_reducible exact ih0 _ _ _ _)
   | (with_reducible exact ih1 _ _ _ _ _ _ _)
   | (with_reducible exact bodkinref05_Of.mono _ _)
   | (with_reducible exact bodkinref05_Types.mono _ _)
   | (with_reducible exact bodkinref07_Do.mono _ _ _ _)
   | (with_reducible exact scalar_Do.mono _ _ _ _)
   | (with_reducible exact LeO.refl _)
   | (with_reducible exact LeO.none _)
   | (with_reducible refine LeO.ite ?_ ?_)
   | (with_reducible refine LeO.bind ?_ (fun _ => ?_))
   | exact ih0 _ _ _ _
   | exact ih1 _ _ _ _ _ _ _
   | exact bodkinref05_Of.mono _ _
   | exact bodkinref05_Types.mono _ _
   | exact bodkinref07_Do.mono _ _ _ _
   | exact scalar_Do.mono _ _ _ _
   | exact LeO.none _
   | refine LeO.ite ?_ ?_
   | refine LeO.bind ?_ (fun _ => ?_)
theorem bodkinlaw07_some.mono : ∀ a0 a1 a2 a3 k, LeO (bodkinlaw07_some.f k a0 a1 a2 a3) (bodkinlaw07_some.f (k + 1) a0 a1 a2 a3) := by
 intro a0 a1 a2 a3 k; obtain ⟨ih0, ih1⟩ := bodkinlaw07_some.mono_l k; unfold bodkinlaw07_some.f
 repeat' first
   | (with_reducible exact ih0 _ _ _ _)
   | (with_reducible exact ih1 _ _ _ _ _ _ _)
   | (with_reducible exact bodkinref05_Of.mono _ _)
   | (with_reducible exact bodkinref05_Types.mono _ _)
   | (with_reducible exact bodkinref07_Do.mono _ _ _ _)
   | (with_reducible exact scalar_Do.mono _ _ _ _)
   | (with_reducible exact LeO.refl _)
   | (with_reducible exact LeO.none _)
   | (with_reducible refine LeO.ite ?_ ?_)
   | (with_reducible refine LeO.bind ?_ (fun _ => ?_))
   | exact ih0 _ _ _ _
   | exact ih1 _ _ _ _ _ _ _
   | exact bodkinref05_Of.mono _ _
   | exact bodkinref05_Types.mono _ _
   | exact bodkinref07_Do.mono _ _ _ _
   | exact scalar_Do.mono _ _ _ _
   | exact LeO.none _
   | refine LeO.ite ?_ ?_
   | refine LeO.bind ?_ (fun _ => ?_)
def bodkinlaw07_some.T9 : Bool × List (List Nat × List Nat) := (true, [([], []), ([], []), ([], []), ([1, 2], [1, 2]), ([3], [3]), ([], []), ([], []), ([5, 6], [5, 6]), ([], []), ([7, 8], [7, 8]), ([9], [9]), ([4, 10], [4, 10]), ([11], [11]), ([0, 12], [0, 12]), ([13, 13, 0, 1, 2, 3, 4, 5, 6, 7, 8, 9, 10, 11, 12, 13], [0, 13])])
def bodkinlaw07_some.B9 : List Nat := [0, 0, 0, 6, 14, 0, 0, 96, 0, 480, 992, 2046, 4094, 8191, 16383]
theorem bodkinlaw07_some.tab9 : rtab .any (opsOf Tryz.f19 9) = bodkinlaw07_some.T9 := by kernel_rfl
theorem bodkinlaw07_some.bits9 : waitsOk bodkinlaw07_some.T9.2 bodkinlaw07_some.B9 = true := by kernel_rfl
theorem bodkinlaw07_some.calls (k : Nat) (a0 : Int) (a1 : Int) (a2 : Int) (a3 : Int) (r : Bool) (w : World) (h : bodkinlaw07_some.f k a0 a1 a2 a3 = some r) (hG : GD w := by first | assumption | exact GD.below (by assumption) (by repeat (first | exact Aside0.out (by assumption) | exact Below.refl _ _ | assumption | apply below_alloc | apply pw_below_drewN | apply below_drew1 | refine below_set ?_ (Aside0.out (by assumption))))) :
  Calls Tryz.prog 19 #[.int .i64 a0, .int .i64 a1, .int .u64 a2, .int .u64 a3] w fun e w' => e = .returned (.bool r) ∧ Below w.heap.size w w' := by
 have hfl_ := fld_takes; have hu33 := Tryz.underlying33; have HB := zm_ (Below.refl w.heap.size w); have H : (bodkinlaw07_some.l0 k a1 a2 a3 a0) = some r := h; clear h; have H' := zm_ H; clear H; go_enter Tryz.func19, Tryz.ntmps19
 go_wp2
 go_loopg [9] k (fun kq v9 w' => ∃ (x9_1 : Int), v9 = .int .i64 x9_1 ∧ Aside0 (bodkinlaw07_some.l0 kq a1 a2 a3 x9_1 = some r) ∧ Aside0 (kq ≤ k) ∧ Aside0 (Below w.heap.size w w'))
 case atStart => exact ⟨(a0), rs_, H', ⟨Nat.le_refl _⟩, ⟨bl_⟩⟩
 case round =>
  clear H'; (try clear c1); (try clear p2)
  obtain ⟨x9_1, rfl, HA, HK1, HB⟩ := hrel
  cases gk with
  | zero => exact absurd HA.out (by simp [bodkinlaw07_some.l0])
  | succ k1 =>
   have H := HA.out; clear HA; simp only [bodkinlaw07_some.l0] at H; by_cases c5 : x9_1 ≤ a1
   ·rw [if_pos c5] at H; have c5b0 : decide (x9_1 ≤ a1) = true := decide_eq_true c5; clear c5; replace H := Option.bind_eq_some_iff.mp H; obtain ⟨⟨t321, t322, t323, t324, t325, t326⟩, A60, H⟩ := H; replace H : ((bodkinref05_Types.f k1 t324).bind fun t327 => (bodkinlaw07_some.l1 k1 a1 a2 a3 x9_1 t327 ([] : List (S33)) 0)) = some r := H; have A6 := zm_ A60; clear A60; replace H := Option.bind_eq_some_iff.mp H; obtain ⟨t327, A70, H⟩ := H; replace H : (bodkinlaw07_some.l1 k1 a1 a2 a3 x9_1 t327 ([] : List (S33)) 0) = some r := H; have A7 := zm_ A70; clear A70; have H' := zm_ H; clear H; go_wp2_with (first | ((with_reducible refine gate_callee (f := 13) rfl ?_); refine goesL_ (some 24) rfl rfl Tryz.func13 (by kernel_rfl) rfl #[.int .i64 x9_1] rfl mp_ ?_; (with_reducible refine (bodkinref05_Of.calls k1 x9_1 t321 t322 t323 t324 t325 t326 _ A6.out).mono ?_); rintro e w8 ⟨rfl, hb⟩; refine ⟨_, rfl, ?_⟩; have n0_ := zm_ (below_step bl_ hb); clear HB; have HB := n0_; clear n0_; (try clear hb); (try clear hb2); (try clear hk); (try clear hi)) | ((with_reducible refine gate_callee (f := 15) rfl ?_); refine goesL_ (some 26) rfl rfl Tryz.func15 (by kernel_rfl) rfl #[.string t324] rfl mp_ ?_; (with_reducible refine (bodkinref05_Types.calls k1 t324 t327 _ A7.out).mono ?_); rintro e w9 ⟨v328, rfl, ho0, hb⟩; refine ⟨_, rfl, ?_⟩; have n0_ := zm_ (Kd.R_lower ho0 (below_size bl_)); have n1_ := zm_ (below_step bl_ hb); clear HB; have HO329 := n0_; have HB := n1_; clear n0_ n1_; (try clear hb); (try clear hb2); (try clear hk); (try clear hi); (try clear ho0)))
    go_loopg [11, 12] k1 (fun kq v11 v12 w' => ∃ (x11_2 : List (S33)) (x12_2 : Int), v12 = .int .i64 x12_2 ∧ Aside0 (bodkinlaw07_some.l1 kq a1 a2 a3 x9_1 t327 x11_2 x12_2 = some r) ∧ Aside0 (kq ≤ k1) ∧ Aside0 (Kd.R (Kd.int .i64) 3 w' w.heap.size (fun _ => True) v328 t327) ∧ Aside0 (Kd.R k33 33 w' w.heap.size (fun _ => True) v11 x11_2) ∧ Aside0 (Below w.heap.size w w'))
    case atStart => exact ⟨(([] : List (S33))), (0), rs_, H', ⟨Nat.le_refl _⟩, ⟨rl_ HO329⟩, ⟨by first | exact Kd.R_nil _ _ _ _ _ | exact Kd.N_nil _ _ _ _ _ | exact Kd.V_nil _ _ _ _ _ | exact Kd.Q_nil _ _ _ _ _ | exact Kd.S_nil _ _ _ _ _⟩, ⟨bl_⟩⟩
    case round =>
     clear H'; (try clear c1); (try clear p2); (try clear c5); (try clear c5b0); (try clear p2)
     obtain ⟨x11_2, x12_2, rfl, HA, HK2, HO_10, HO_11, HB⟩ := hrel
     cases gk with
     | zero => exact absurd HA.out (by simp [bodkinlaw07_some.l1])
     | succ k2 =>
      have H := HA.out; clear HA; simp only [bodkinlaw07_some.l1] at H; by_cases c10 : x12_2 < (t327.length : Int)
      ·rw [if_pos c10] at H; have c10b0 : decide (x12_2 < (t327.length : Int)) = true := decide_eq_true c10; clear c10; by_cases c11 : 0 ≤ x12_2
       ·rw [if_pos c11] at H; have c11b0 : decide (0 ≤ x12_2) = true := decide_eq_true c11; clear c11; obtain ⟨y331, hy331⟩ : ∃ y_ : List Int, y_ = (([a2, a3] : List Int)) := ⟨_, rfl⟩
        replace H : (if x12_2 < (y331.length : Int) then (if x11_2.length < 4398046511104 then (bodkinlaw07_some.l1 k2 a1 a2 a3 x9_1 t327 (x11_2 ++ [(⟨rd t327 x12_2, rd y331 x12_2, 0, false⟩ : S33)]) (wrap64 (x12_2 + 1))) else (none)) else (none)) = some r := by first | (rw [hy331]; with_reducible exact H) | (have H2_ := (Option.bind_some _ _).symm.trans H; rw [hy331]; with_reducible exact H2_) | (have H2_ := (Option.bind_some _ _).symm.trans H; with_reducible exact H2_) | with_reducible exact H | (rw [hy331]; exact H) | exact H
        have Ny331 := zm_ hy331; clear hy331; by_cases c12 : x12_2 < (y331.length : Int)
        ·rw [if_pos c12] at H; have c12b0 : decide (x12_2 < (y331.length : Int)) = true := decide_eq_true c12; clear c12; by_cases c13 : x11_2.length < 4398046511104
         ·rw [if_pos c13] at H; have LMc13 := zm_ c13; clear c13; obtain ⟨y335, hy335⟩ : ∃ y_ : List (S33), y_ = (x11_2 ++ [(⟨rd t327 x12_2, rd y331 x12_2, 0, false⟩ : S33)]) := ⟨_, rfl⟩
          replace H : (bodkinlaw07_some.l1 k2 a1 a2 a3 x9_1 t327 y335 (wrap64 (x12_2 + 1))) = some r := by first | (rw [hy335]; with_reducible exact H) | (have H2_ := (Option.bind_some _ _).symm.trans H; rw [hy335]; with_reducible exact H2_) | (have H2_ := (Option.bind_some _ _).symm.trans H; with_reducible exact H2_) | with_reducible exact H | (rw [hy335]; exact H) | exact H
          have Ny335 := zm_ hy335; clear hy335; have H' := zm_ H; clear H; obtain ⟨Ao14, co14, eo14⟩ := Kd.R_slice HO_10.out; subst eo14; try go_wp2
          have pi334 : (0 ≤ (x12_2 : Int)) = True := eq_true (od_); have qi334 : (x12_2 < (y331.length : Int)) = True := eq_true (od_); have n0_ := zm_ (Kd.R_drew HO_10.out); have n1_ := zm_ (Kd.R_drew HO_11.out); have n2_ := zm_ (below_drew1 HB.out); clear HO_10; clear HO_11; clear HB; have HO_10 := n0_; have HO_11 := n1_; have HB := n2_; clear n0_ n1_ n2_; have p330 : 0 ≤ (x12_2 : Int) := od_; have q330 : x12_2 < (t327.length : Int) := od_; try (obtain ⟨ga_, ca_, hva_, _, _⟩ := Kd.R_reads HO_10.out; subst hva_)
          obtain ⟨ad330, e330, hx330_0⟩ := Kd.at_int (Kd.R_reads' HO_10.out).2.2 x12_2 p330 q330; cases e330
          replace p330 := eq_true p330; replace q330 := eq_true q330; refine start_ (n := 15) (S := fun w' => w'.cell? (ad330.add (x12_2).toNat) = some (.int .i64 (rd t327 x12_2))) (ds := [12, 13]) #[false, false, false, false, false, false, false, false, false, false, false, false, false, false, false] (by kernel_rfl) rfl rfl (hx330_0) (fun hHeld => ?_); refine with_tabW bodkinlaw07_some.tab9 bodkinlaw07_some.bits9 (fun HT_ HW_ => ?_)
          generalize wr.drew = w15 at HO_10 HO_11 HB hx330_0 hHeld ⊢; refine pu_ 0 (some 33) (ba 15 1) ?_ (hc := any_of HT_.out (by kernel_rfl)); refine pu_ 1 (some 34) (ba 15 3) ?_ (hc := any_of HT_.out (by kernel_rfl)); refine pu_ 2 (some 35) (ba 15 7) ?_ (hc := any_of HT_.out (by kernel_rfl)); refine pu_ 3 (some 36) (ba 15 15) ?_ (hc := any_of HT_.out (by kernel_rfl)); refine pu_ 5 (some 38) (ba 15 47) ?_ (hc := any_of HT_.out (by kernel_rfl)); refine pu_ 6 (some 39) (ba 15 111) ?_ (hc := any_of HT_.out (by kernel_rfl)); refine pu_ 8 (some 41) (ba 15 367) ?_ (hc := any_of HT_.out (by kernel_rfl)); refine ta_ 4 (some 37) (ba 15 383) ?_ (hc := take_ofW HT_.out HW_.out (by kernel_rfl)) (hy := Or.inl ⟨by rfl, by intro w' s0; go_simp; with_reducible rfl⟩) (hS := hHeld); refine one_ (i := 7) (N := some 40) #[true, true, true, true, true, true, true, true, true, false, false, false, false, false, false] rfl rfl (one_of HT_.out (by kernel_rfl)) (by decide) (fun K hK => ?_); refine Kd.R_lit_step (Kd.int .u64) _ 22 ?hg (N := 40) ?hd (xs := ([a2, a3] : List Int)) (inner := [.int .u64 a2, .int .u64 a3]) (ok := fun _ => True) (okp := fun _ => True) ?hr ?hp (fun _ hk => hk) trivial (Below.refl _ _) (Nat.le_refl _) (by simp) ?_; (case hd => rfl); (case hg => rfl); (case hr => first | (go_simp; done) | (go_simp; rfl)); (case hp => exact (Reps.one (show Kd.M (Kd.int .u64) _ _ _ a2 [.int .u64 a2] from rfl) (Reps.one (show Kd.M (Kd.int .u64) _ _ _ a3 [.int .u64 a3] from rfl) (Reps.none _ _))))
          intro v332 w16 ho17 hb hg_ hnew_; have HS0_ := (hb.cell (World.block_lt_of_cell? _ _ (hHeld))).trans (hHeld); clear hg_ hnew_; (first | rw [← Ny331.out] at ho17 | (simp only [Int.reduceToNat] at ho17; rw [← Ny331.out] at ho17))
          have n0_ := zm_ (Kd.R_below (rl_ HO_10) hb); have n1_ := zm_ (Kd.R_below (rl_ HO_11) hb); have n2_ := zm_ (Kd.R_lower ho17 (below_size bl_)); have n3_ := zm_ (below_step bl_ hb); clear HO_10; clear HO_11; clear HB; have HO_10 := n0_; have HO_11 := n1_; have HO333 := n2_; have HB := n3_; clear n0_ n1_ n2_ n3_; clear hb ho17; obtain ⟨Ao18, co18, eo18⟩ := Kd.R_slice HO333.out; subst eo18; obtain ⟨ado18, fo18, _⟩ := Kd.at_int (Kd.R_reads' HO333.out).2.2 0 (by decide) (by rw [Ny331.out]; simp); cases fo18
          refine hK.out _ _ (HS0_) (fun hHeld => ?_); clear hK K; refine norm_ (a' := ?_) ?_ ?_; rotate_left
          ·show Act.put _ (some 40) _ = _
           simp only [Act.put, List.setIfInBounds_toArray, List.set_cons_zero, List.set_cons_succ, i64_w, i32_w]; rfl
          refine pu_ 9 (some 42) (ba 15 1023) ?_ (hc := any_of HT_.out (by kernel_rfl)); refine one_ (i := 10) (N := some 43) #[true, true, true, true, true, true, true, true, true, true, true, false, false, false, false] rfl rfl (one_of HT_.out (by kernel_rfl)) (by decide) (fun K hK => ?_); (have p334 : 0 ≤ (x12_2 : Int) := od_; have q334 : x12_2 < (y331.length : Int) := od_; obtain ⟨ad334, e334, hx334_0⟩ := Kd.at_int (Kd.R_reads' HO333.out).2.2 x12_2 p334 q334; obtain rfl : ado18 = ad334 := (by injection e334))
          refine value_ (w1 := ?_) (v := ?_) (by rfl) rfl ?_ ?_; rotate_left 2
          ·go_simp; constructor
           ·rfl
           ·rfl
          clear hx334_0; refine hK.out _ _ (hHeld) (fun hHeld => ?_); clear hK K; refine norm_ (a' := ?_) ?_ ?_; rotate_left
          ·show Act.put _ (some 43) _ = _
           simp only [Act.put, List.setIfInBounds_toArray, List.set_cons_zero, List.set_cons_succ, i64_w, i32_w]; rfl
          refine pu_ 11 (some 44) (ba 15 4095) ?_ (hc := any_of HT_.out (by kernel_rfl)); refine last_ (i := 12) (N := some 45) #[true, true, true, true, true, true, true, true, true, true, true, true, true, false, false] rfl rfl (one_of HT_.out (by kernel_rfl)) (by decide) (fun K hK => ?_); refine value_ (w1 := ?_) (v := ?_) (by rfl) rfl ?_ ?_; rotate_left 2
          ·go_simp; constructor
           ·rfl
           ·rfl
          refine hK.out _ _ ?_; clear hK K; refine norm_ (a' := ?_) ?_ ?_; rotate_left
          ·show Act.put _ (some 45) _ = _
           simp only [Act.put, List.setIfInBounds_toArray, List.set_cons_zero, List.set_cons_succ, i64_w, i32_w]; rfl
          refine last_ (i := 13) (N := some 46) #[true, true, true, true, true, true, true, true, true, true, true, true, true, true, false] rfl rfl (one_of HT_.out (by kernel_rfl)) (by decide) (fun K hK => ?_); refine Kd.R_append_step k33 (w0 := w) w.heap.size (by rfl) (.tmp 33) (.tmp 45) 30 33 (.agg #[(.int .i64 0), (.int .u64 0), (.int .u64 0), (.bool false)]) 32 rfl Tryz.underlying30 info33 rfl (by decide) (by omega) u11 x11_2 (⟨rd t327 x12_2, rd y331 x12_2, 0, false⟩ : S33) [.int .i64 (rd t327 x12_2), .int .u64 (rd y331 x12_2), .int .u64 0, .bool false] (fun _ => True) (fun _ => False) rfl rfl ?aP (fun _ hk => hk.elim) ?aF ?aO ?aB ?aS ?aL ?_; (case aP => exact k33_mkM _ _ _ (⟨rd t327 x12_2, rd y331 x12_2, 0, false⟩ : S33))
          (case aB => exact bl_)
          (case aF => exact (fun _ _ => trivial))
          (case aO => exact (rl_ HO_11))
          (case aS => exact (below_size bl_))
          (case aL => have := LMc13.out; omega)
          intro v336 w19 ho hb hg hat; rw [← Ny335.out] at ho; have n0_ := zm_ (Kd.R_over' (rl_ HO_10) (Kd.R_typed (rl_ HO_11)) (by decide) hg); have n1_ := zm_ (Kd.R_over' (rl_ HO333) (Kd.R_typed (rl_ HO_11)) (by decide) hg); have n2_ := zm_ (hb); have n3_ := zm_ (ho); clear HO_10; clear HO333; clear HB; clear HO_11; have HO_10 := n0_; have HO333 := n1_; have HB := n2_; have HO337 := n3_; clear n0_ n1_ n2_ n3_; clear ho hb hg hat; refine hK.out _ _ ?_; clear hK K; refine norm_ (a' := ?_) ?_ ?_; rotate_left
          ·show Act.put _ (some 46) _ = _
           simp only [Act.put, List.setIfInBounds_toArray, List.set_cons_zero, List.set_cons_succ, i64_w, i32_w]; rfl
          refine pu_ 14 (some 11) (ba 15 32767) ?_ (hc := any_of HT_.out (by kernel_rfl)); refine done_ (done_of HT_.out (by kernel_rfl)) ?_; try go_wp2
          go_roundg k2
          case measure => have := HK1.out; have := HK2.out; omega
          case rel => exact ⟨(y335), (wrap64 (x12_2 + 1)), rs_, H', ⟨by have := HK1.out; have := HK2.out; omega⟩, ⟨rl_ HO_10⟩, ⟨rl_ HO337⟩, ⟨bl_⟩⟩
         ·rw [if_neg c13] at H; exact absurd H (by simp)
        ·rw [if_neg c12] at H; exact absurd H (by simp)
       ·rw [if_neg c11] at H; exact absurd H (by simp)
      ·rw [if_neg c10] at H; have c10b0 : decide (x12_2 < (t327.length : Int)) = false := decide_eq_false c10; clear c10; replace H := Option.bind_eq_some_iff.mp H; obtain ⟨⟨t338, t339, t340, t341, t342⟩, A200, H⟩ := H; replace H : ((bodkinref07_Do.f k2 x9_1 ([] : List Int) x11_2).bind fun bt344 => (if (!(t338 == bt344.1) || (!(t339 == bt344.2.1) || (!(t340 == bt344.2.2.1) || (!(t341 == bt344.2.2.2.1))))) = true then (none) else (if t342 = bt344.2.2.2.2 then (bodkinlaw07_some.l0 k2 a1 a2 a3 (wrap64 (x9_1 + 1))) else (some false)))) = some r := H; have A20 := zm_ A200; clear A200; replace H := Option.bind_eq_some_iff.mp H; obtain ⟨⟨t344, t345, t346, t347, t348⟩, A210, H⟩ := H; replace H : (if (!(t338 == t344) || (!(t339 == t345) || (!(t340 == t346) || (!(t341 == t347))))) = true then (none) else (if t342 = t348 then (bodkinlaw07_some.l0 k2 a1 a2 a3 (wrap64 (x9_1 + 1))) else (some false))) = some r := H; have A21 := zm_ A210; clear A210; by_cases c22 : (!(t338 == t344) || (!(t339 == t345) || (!(t340 == t346) || (!(t341 == t347))))) = true
       ·rw [if_pos c22] at H; exact absurd H (by simp)
       ·rw [if_neg c22] at H; have c22b0 : (!(t338 == t344) || (!(t339 == t345) || (!(t340 == t346) || (!(t341 == t347))))) = false := by simpa using c22
        clear c22; by_cases c23 : t342 = t348
        ·rw [if_pos c23] at H; have c23b0 : (t342 == t348) = true := beq_iff_eq.mpr c23; have c23b1 : (t342 != t348) = false := bne_eq_false_iff_eq.mpr c23; clear c23; have H' := zm_ H; clear H; obtain ⟨Ao24, co24, eo24⟩ := Kd.R_slice HO_10.out; subst eo24; obtain ⟨Ao25, co25, eo25⟩ := Kd.R_slice HO_11.out; subst eo25; go_wp2_with (first | ((with_reducible refine gate_callee (f := 16) rfl ?_); refine goesL_ (some 50) rfl rfl Tryz.func16 (by kernel_rfl) rfl #[.int .i64 x9_1, .slice none 0 0, .slice Ao25 x11_2.length co25] rfl mp_ ?_; (refine (scalar_Do.calls k2 x9_1 _ _ ([] : List Int) _ _ x11_2 t338 t339 t340 t341 t342 _ ?side1 ?side2 ?side3 ?side4 A20.out).mono ?_); (case side1 => exact Kd.C_nil _ _); (case side2 => exact Nat.le_refl _); (case side3 => repeat (first | exact (Kd.R_reads' HO_11.out).2.2 | (with_reducible refine Kd.C_alloc ?_ _) | (with_reducible refine Kd.C_drewN ?_ _) | (with_reducible refine Kd.C_drew ?_))); (case side4 => exact (Kd.R_reads' HO_11.out).2.1); rintro e w26 ⟨rfl, hb⟩; refine ⟨_, rfl, ?_⟩; have n0_ := zm_ (Kd.R_below (rl_ HO_10) hb); have n1_ := zm_ (Kd.R_below (rl_ HO_11) hb); have n2_ := zm_ (below_step bl_ hb); clear HO_10; clear HO_11; clear HB; have HO_10 := n0_; have HO_11 := n1_; have HB := n2_; clear n0_ n1_ n2_; (try clear hb); (try clear hb2); (try clear hk); (try clear hi)) | ((with_reducible refine gate_dst (N := 13) rfl ?_); refine box_event ?hg (N := 13) ?hd (cs := #[.int .i64 0, .int .u64 0, .int .u64 0, .bool false]) (t := 33) ?hr ?_; (case hd => rfl); (case hg => rfl); (case hr => first | (go_simp; done) | (go_simp; rfl)); intro gb343 hg w27 hbox hb; have n0_ := zm_ (Kd.R_below (rl_ HO_10) hb); have n1_ := zm_ (Kd.R_below (Kd.R_elderB (rl_ HO_11) gb343 (Nat.le_of_eq hg.symm)) hb); have n2_ := zm_ (below_step bl_ hb); have n3_ := zm_ (hbox); have n4_ := zm_ ((by rw [hg]; exact (below_size bl_) : w.heap.size ≤ gb343)); have n5_ := zm_ ((by rw [hg]; exact (below_size bl_) : w.heap.size ≤ gb343)); clear HO_10; clear HO_11; clear HB; have HO_10 := n0_; have HO_11 := n1_; have HB := n2_; have BK343 := n3_; have GW343 := n4_; have GE343 := n5_; clear n0_ n1_ n2_ n3_ n4_ n5_; clear hb hbox hg; have hcz28_0 := zl_ BK343 0 (.int .i64 0); have hcz28_1 := zl_ BK343 1 (.int .u64 0); have hcz28_2 := zl_ BK343 2 (.int .u64 0); have hcz28_3 := zl_ BK343 3 (.bool false); have hfz28_0 := blk_frozen BK343.out 0; have hfz28_1 := blk_frozen BK343.out 1; have hfz28_2 := blk_frozen BK343.out 2; have hfz28_3 := blk_frozen BK343.out 3) | ((with_reducible refine gate_callee (f := 17) rfl ?_); refine goesL_ (some 56) rfl rfl Tryz.func17 (by kernel_rfl) rfl #[.int .i64 x9_1, .slice none 0 0, .slice Ao25 x11_2.length co25] rfl mp_ ?_; (refine (bodkinref07_Do.calls k2 x9_1 _ _ ([] : List Int) _ _ x11_2 t344 t345 t346 t347 t348 _ ?side1 ?side2 ?side3 ?side4 A21.out).mono ?_); (case side1 => exact Kd.C_nil _ _); (case side2 => exact Nat.le_refl _); (case side3 => refine (Kd.R_reads' (e := 33) (base := w.heap.size) (ok := fun k_ => (True ∧ k_ ≠ gb343)) (n := x11_2.length) (c := co25) ?_).2.2; exact (by (with_reducible repeat (first | apply Kd.R_alloc | apply Kd.R_drewN | apply Kd.R_drew)); exact (Kd.R_mono (Kd.R_far (p := ⟨gb343, 3, none⟩) (Kd.R_far (p := ⟨gb343, 2, none⟩) (Kd.R_far (p := ⟨gb343, 1, none⟩) (Kd.R_far (p := ⟨gb343, 0, none⟩) (Kd.R_mono HO_11.out (fun k_ hk => (⟨hk, hk.2⟩ : _ ∧ k_ ≠ gb343))) (fun _ hk => hk.2) (.int .i64 t338)) (fun _ hk => hk.2) (.int .u64 t339)) (fun _ hk => hk.2) (.int .u64 t340)) (fun _ hk => hk.2) (.bool t341)) (fun _ h_ => h_.1)))); (case side4 => exact (Kd.R_reads' HO_11.out).2.1); rintro e w29 ⟨rfl, hb⟩; refine ⟨_, rfl, ?_⟩; have n0_ := zm_ (Kd.R_below (by (with_reducible repeat (first | apply Kd.R_alloc | apply Kd.R_drewN | apply Kd.R_drew)); exact (Kd.R_mono (Kd.R_far (p := ⟨gb343, 3, none⟩) (Kd.R_far (p := ⟨gb343, 2, none⟩) (Kd.R_far (p := ⟨gb343, 1, none⟩) (Kd.R_far (p := ⟨gb343, 0, none⟩) (Kd.R_types HO_10.out BK343.out (by decide)) (fun _ hk => hk.2) (.int .i64 t338)) (fun _ hk => hk.2) (.int .u64 t339)) (fun _ hk => hk.2) (.int .u64 t340)) (fun _ hk => hk.2) (.bool t341)) (fun _ h_ => h_.1))) hb); have n1_ := zm_ (Kd.R_below (by (with_reducible repeat (first | apply Kd.R_alloc | apply Kd.R_drewN | apply Kd.R_drew)); exact (Kd.R_mono (Kd.R_far (p := ⟨gb343, 3, none⟩) (Kd.R_far (p := ⟨gb343, 2, none⟩) (Kd.R_far (p := ⟨gb343, 1, none⟩) (Kd.R_far (p := ⟨gb343, 0, none⟩) (Kd.R_mono HO_11.out (fun k_ hk => (⟨hk, hk.2⟩ : _ ∧ k_ ≠ gb343))) (fun _ hk => hk.2) (.int .i64 t338)) (fun _ hk => hk.2) (.int .u64 t339)) (fun _ hk => hk.2) (.int .u64 t340)) (fun _ hk => hk.2) (.bool t341)) (fun _ h_ => h_.1))) hb); have n2_ := zm_ (blk_below (g := gb343) (o := .cells #[.int .i64 t338, .int .u64 t339, .int .u64 t340, .bool t341] 33 (0, 0)) (by refine zb_ ?_; refine blk_put (cs := #[.int .i64 t338, .int .u64 t339, .int .u64 t340, .bool false]) ?_ 3 _ rfl; refine zb_ ?_; refine blk_put (cs := #[.int .i64 t338, .int .u64 t339, .int .u64 0, .bool false]) ?_ 2 _ rfl; refine zb_ ?_; refine blk_put (cs := #[.int .i64 t338, .int .u64 0, .int .u64 0, .bool false]) ?_ 1 _ rfl; refine zb_ ?_; refine blk_put (cs := #[.int .i64 0, .int .u64 0, .int .u64 0, .bool false]) ?_ 0 _ rfl; refine zb_ ?_; exact BK343.out) hb); have n3_ := zm_ (below_step bs_ hb); clear HO_10; clear HO_11; clear BK343; clear HB; have HO_10 := n0_; have HO_11 := n1_; have BK343 := n2_; have HB := n3_; clear n0_ n1_ n2_ n3_; (try clear hb); (try clear hb2); (try clear hk); (try clear hi)) | ((with_reducible refine gate_dst (N := 15) rfl ?_); refine box_event ?hg (N := 15) ?hd (cs := #[.int .i64 0, .int .u64 0, .int .u64 0, .bool false]) (t := 33) ?hr ?_; (case hd => rfl); (case hg => rfl); (case hr => first | (go_simp; done) | (go_simp; rfl)); intro gb349 hg w30 hbox hb; have n0_ := zm_ (Kd.R_below (rl_ HO_10) hb); have n1_ := zm_ (Kd.R_below (Kd.R_elderB (rl_ HO_11) gb349 (Nat.le_of_eq hg.symm)) hb); have n2_ := zm_ (blk_below (g := gb343) (o := .cells #[.int .i64 t338, .int .u64 t339, .int .u64 t340, .bool t341] 33 (0, 0)) (by refine zb_ ?_; exact BK343.out) hb); have n3_ := zm_ (below_step bs_ hb); have n4_ := zm_ (hbox); have n5_ := zm_ ((by rw [hg]; exact (below_size bs_) : w.heap.size ≤ gb349)); have n6_ := zm_ ((by rw [hg]; exact (below_size bs_) : w.heap.size ≤ gb349)); have n7_ := zm_ ((by rw [hg]; exact Nat.ne_of_lt (blk_lt (g := gb343) (o := .cells #[.int .i64 t338, .int .u64 t339, .int .u64 t340, .bool t341] 33 (0, 0)) (by refine zb_ ?_; exact BK343.out)) : gb343 ≠ gb349)); have n8_ := zm_ ((by rw [hg]; exact Nat.ne_of_gt (blk_lt (g := gb343) (o := .cells #[.int .i64 t338, .int .u64 t339, .int .u64 t340, .bool t341] 33 (0, 0)) (by refine zb_ ?_; exact BK343.out)) : gb349 ≠ gb343)); clear HO_10; clear HO_11; clear BK343; clear HB; have HO_10 := n0_; have HO_11 := n1_; have BK343 := n2_; have HB := n3_; have BK349 := n4_; have GW349 := n5_; have GE349 := n6_; have NB343_349 := n7_; have NB349_343 := n8_; clear n0_ n1_ n2_ n3_ n4_ n5_ n6_ n7_ n8_; clear hb hbox hg; have hnb31 := NB349_343.out; have hnc31 := NB343_349.out; have hcz32_0 := zl_ BK349 0 (.int .i64 0); have hcz32_1 := zl_ BK349 1 (.int .u64 0); have hcz32_2 := zl_ BK349 2 (.int .u64 0); have hcz32_3 := zl_ BK349 3 (.bool false); have hfz32_0 := blk_frozen BK349.out 0; have hfz32_1 := blk_frozen BK349.out 1; have hfz32_2 := blk_frozen BK349.out 2; have hfz32_3 := blk_frozen BK349.out 3; have hcz33_0 := zl_ BK343 0 (.int .i64 t338); have hcz33_1 := zl_ BK343 1 (.int .u64 t339); have hcz33_2 := zl_ BK343 2 (.int .u64 t340); have hcz33_3 := zl_ BK343 3 (.bool t341); have hfz33_0 := blk_frozen BK343.out 0; have hfz33_1 := blk_frozen BK343.out 1; have hfz33_2 := blk_frozen BK343.out 2; have hfz33_3 := blk_frozen BK343.out 3))
         go_roundg k2
         case measure => have := HK1.out; have := HK2.out; omega
         case rel => exact ⟨(wrap64 (x9_1 + 1)), rs_, H', ⟨by have := HK1.out; have := HK2.out; omega⟩, ⟨bs_⟩⟩
        ·rw [if_neg c23] at H; have c23b0 : (t342 == t348) = false := beq_eq_false_iff_ne.mpr c23; have c23b1 : (t342 != t348) = true := bne_iff_ne.mpr c23; obtain rfl := Option.some.inj H; obtain ⟨Ao34, co34, eo34⟩ := Kd.R_slice HO_10.out; subst eo34; obtain ⟨Ao35, co35, eo35⟩ := Kd.R_slice HO_11.out; subst eo35; go_wp2_with (first | ((with_reducible refine gate_callee (f := 16) rfl ?_); refine goesL_ (some 50) rfl rfl Tryz.func16 (by kernel_rfl) rfl #[.int .i64 x9_1, .slice none 0 0, .slice Ao35 x11_2.length co35] rfl mp_ ?_; (refine (scalar_Do.calls k2 x9_1 _ _ ([] : List Int) _ _ x11_2 t338 t339 t340 t341 t342 _ ?side1 ?side2 ?side3 ?side4 A20.out).mono ?_); (case side1 => exact Kd.C_nil _ _); (case side2 => exact Nat.le_refl _); (case side3 => repeat (first | exact (Kd.R_reads' HO_11.out).2.2 | (with_reducible refine Kd.C_alloc ?_ _) | (with_reducible refine Kd.C_drewN ?_ _) | (with_reducible refine Kd.C_drew ?_))); (case side4 => exact (Kd.R_reads' HO_11.out).2.1); rintro e w36 ⟨rfl, hb⟩; refine ⟨_, rfl, ?_⟩; have n0_ := zm_ (Kd.R_below (rl_ HO_10) hb); have n1_ := zm_ (Kd.R_below (rl_ HO_11) hb); have n2_ := zm_ (below_step bl_ hb); clear HO_10; clear HO_11; clear HB; have HO_10 := n0_; have HO_11 := n1_; have HB := n2_; clear n0_ n1_ n2_; (try clear hb); (try clear hb2); (try clear hk); (try clear hi)) | ((with_reducible refine gate_dst (N := 13) rfl ?_); refine box_event ?hg (N := 13) ?hd (cs := #[.int .i64 0, .int .u64 0, .int .u64 0, .bool false]) (t := 33) ?hr ?_; (case hd => rfl); (case hg => rfl); (case hr => first | (go_simp; done) | (go_simp; rfl)); intro gb343 hg w37 hbox hb; have n0_ := zm_ (Kd.R_below (rl_ HO_10) hb); have n1_ := zm_ (Kd.R_below (Kd.R_elderB (rl_ HO_11) gb343 (Nat.le_of_eq hg.symm)) hb); have n2_ := zm_ (below_step bl_ hb); have n3_ := zm_ (hbox); have n4_ := zm_ ((by rw [hg]; exact (below_size bl_) : w.heap.size ≤ gb343)); have n5_ := zm_ ((by rw [hg]; exact (below_size bl_) : w.heap.size ≤ gb343)); clear HO_10; clear HO_11; clear HB; have HO_10 := n0_; have HO_11 := n1_; have HB := n2_; have BK343 := n3_; have GW343 := n4_; have GE343 := n5_; clear n0_ n1_ n2_ n3_ n4_ n5_; clear hb hbox hg; have hcz38_0 := zl_ BK343 0 (.int .i64 0); have hcz38_1 := zl_ BK343 1 (.int .u64 0); have hcz38_2 := zl_ BK343 2 (.int .u64 0); have hcz38_3 := zl_ BK343 3 (.bool false); have hfz38_0 := blk_frozen BK343.out 0; have hfz38_1 := blk_frozen BK343.out 1; have hfz38_2 := blk_frozen BK343.out 2; have hfz38_3 := blk_frozen BK343.out 3) | ((with_reducible refine gate_callee (f := 17) rfl ?_); refine goesL_ (some 56) rfl rfl Tryz.func17 (by kernel_rfl) rfl #[.int .i64 x9_1, .slice none 0 0, .slice Ao35 x11_2.length co35] rfl mp_ ?_; (refine (bodkinref07_Do.calls k2 x9_1 _ _ ([] : List Int) _ _ x11_2 t344 t345 t346 t347 t348 _ ?side1 ?side2 ?side3 ?side4 A21.out).mono ?_); (case side1 => exact Kd.C_nil _ _); (case side2 => exact Nat.le_refl _); (case side3 => refine (Kd.R_reads' (e := 33) (base := w.heap.size) (ok := fun k_ => (True ∧ k_ ≠ gb343)) (n := x11_2.length) (c := co35) ?_).2.2; exact (by (with_reducible repeat (first | apply Kd.R_alloc | apply Kd.R_drewN | apply Kd.R_drew)); exact (Kd.R_mono (Kd.R_far (p := ⟨gb343, 3, none⟩) (Kd.R_far (p := ⟨gb343, 2, none⟩) (Kd.R_far (p := ⟨gb343, 1, none⟩) (Kd.R_far (p := ⟨gb343, 0, none⟩) (Kd.R_mono HO_11.out (fun k_ hk => (⟨hk, hk.2⟩ : _ ∧ k_ ≠ gb343))) (fun _ hk => hk.2) (.int .i64 t338)) (fun _ hk => hk.2) (.int .u64 t339)) (fun _ hk => hk.2) (.int .u64 t340)) (fun _ hk => hk.2) (.bool t341)) (fun _ h_ => h_.1)))); (case side4 => exact (Kd.R_reads' HO_11.out).2.1); rintro e w39 ⟨rfl, hb⟩; refine ⟨_, rfl, ?_⟩; have n0_ := zm_ (Kd.R_below (by (with_reducible repeat (first | apply Kd.R_alloc | apply Kd.R_drewN | apply Kd.R_drew)); exact (Kd.R_mono (Kd.R_far (p := ⟨gb343, 3, none⟩) (Kd.R_far (p := ⟨gb343, 2, none⟩) (Kd.R_far (p := ⟨gb343, 1, none⟩) (Kd.R_far (p := ⟨gb343, 0, none⟩) (Kd.R_types HO_10.out BK343.out (by decide)) (fun _ hk => hk.2) (.int .i64 t338)) (fun _ hk => hk.2) (.int .u64 t339)) (fun _ hk => hk.2) (.int .u64 t340)) (fun _ hk => hk.2) (.bool t341)) (fun _ h_ => h_.1))) hb); have n1_ := zm_ (Kd.R_below (by (with_reducible repeat (first | apply Kd.R_alloc | apply Kd.R_drewN | apply Kd.R_drew)); exact (Kd.R_mono (Kd.R_far (p := ⟨gb343, 3, none⟩) (Kd.R_far (p := ⟨gb343, 2, none⟩) (Kd.R_far (p := ⟨gb343, 1, none⟩) (Kd.R_far (p := ⟨gb343, 0, none⟩) (Kd.R_mono HO_11.out (fun k_ hk => (⟨hk, hk.2⟩ : _ ∧ k_ ≠ gb343))) (fun _ hk => hk.2) (.int .i64 t338)) (fun _ hk => hk.2) (.int .u64 t339)) (fun _ hk => hk.2) (.int .u64 t340)) (fun _ hk => hk.2) (.bool t341)) (fun _ h_ => h_.1))) hb); have n2_ := zm_ (blk_below (g := gb343) (o := .cells #[.int .i64 t338, .int .u64 t339, .int .u64 t340, .bool t341] 33 (0, 0)) (by refine zb_ ?_; refine blk_put (cs := #[.int .i64 t338, .int .u64 t339, .int .u64 t340, .bool false]) ?_ 3 _ rfl; refine zb_ ?_; refine blk_put (cs := #[.int .i64 t338, .int .u64 t339, .int .u64 0, .bool false]) ?_ 2 _ rfl; refine zb_ ?_; refine blk_put (cs := #[.int .i64 t338, .int .u64 0, .int .u64 0, .bool false]) ?_ 1 _ rfl; refine zb_ ?_; refine blk_put (cs := #[.int .i64 0, .int .u64 0, .int .u64 0, .bool false]) ?_ 0 _ rfl; refine zb_ ?_; exact BK343.out) hb); have n3_ := zm_ (below_step bs_ hb); clear HO_10; clear HO_11; clear BK343; clear HB; have HO_10 := n0_; have HO_11 := n1_; have BK343 := n2_; have HB := n3_; clear n0_ n1_ n2_ n3_; (try clear hb); (try clear hb2); (try clear hk); (try clear hi)) | ((with_reducible refine gate_dst (N := 15) rfl ?_); refine box_event ?hg (N := 15) ?hd (cs := #[.int .i64 0, .int .u64 0, .int .u64 0, .bool false]) (t := 33) ?hr ?_; (case hd => rfl); (case hg => rfl); (case hr => first | (go_simp; done) | (go_simp; rfl)); intro gb349 hg w40 hbox hb; have n0_ := zm_ (Kd.R_below (rl_ HO_10) hb); have n1_ := zm_ (Kd.R_below (Kd.R_elderB (rl_ HO_11) gb349 (Nat.le_of_eq hg.symm)) hb); have n2_ := zm_ (blk_below (g := gb343) (o := .cells #[.int .i64 t338, .int .u64 t339, .int .u64 t340, .bool t341] 33 (0, 0)) (by refine zb_ ?_; exact BK343.out) hb); have n3_ := zm_ (below_step bs_ hb); have n4_ := zm_ (hbox); have n5_ := zm_ ((by rw [hg]; exact (below_size bs_) : w.heap.size ≤ gb349)); have n6_ := zm_ ((by rw [hg]; exact (below_size bs_) : w.heap.size ≤ gb349)); have n7_ := zm_ ((by rw [hg]; exact Nat.ne_of_lt (blk_lt (g := gb343) (o := .cells #[.int .i64 t338, .int .u64 t339, .int .u64 t340, .bool t341] 33 (0, 0)) (by refine zb_ ?_; exact BK343.out)) : gb343 ≠ gb349)); have n8_ := zm_ ((by rw [hg]; exact Nat.ne_of_gt (blk_lt (g := gb343) (o := .cells #[.int .i64 t338, .int .u64 t339, .int .u64 t340, .bool t341] 33 (0, 0)) (by refine zb_ ?_; exact BK343.out)) : gb349 ≠ gb343)); clear HO_10; clear HO_11; clear BK343; clear HB; have HO_10 := n0_; have HO_11 := n1_; have BK343 := n2_; have HB := n3_; have BK349 := n4_; have GW349 := n5_; have GE349 := n6_; have NB343_349 := n7_; have NB349_343 := n8_; clear n0_ n1_ n2_ n3_ n4_ n5_ n6_ n7_ n8_; clear hb hbox hg; have hnb41 := NB349_343.out; have hnc41 := NB343_349.out; have hcz42_0 := zl_ BK349 0 (.int .i64 0); have hcz42_1 := zl_ BK349 1 (.int .u64 0); have hcz42_2 := zl_ BK349 2 (.int .u64 0); have hcz42_3 := zl_ BK349 3 (.bool false); have hfz42_0 := blk_frozen BK349.out 0; have hfz42_1 := blk_frozen BK349.out 1; have hfz42_2 := blk_frozen BK349.out 2; have hfz42_3 := blk_frozen BK349.out 3; have hcz43_0 := zl_ BK343 0 (.int .i64 t338); have hcz43_1 := zl_ BK343 1 (.int .u64 t339); have hcz43_2 := zl_ BK343 2 (.int .u64 t340); have hcz43_3 := zl_ BK343 3 (.bool t341); have hfz43_0 := blk_frozen BK343.out 0; have hfz43_1 := blk_frozen BK343.out 1; have hfz43_2 := blk_frozen BK343.out 2; have hfz43_3 := blk_frozen BK343.out 3))
         go_ret; exact ⟨er_, bs_⟩
   ·rw [if_neg c5] at H; have c5b0 : decide (x9_1 ≤ a1) = false := decide_eq_false c5; clear c5; obtain rfl := Option.some.inj H; go_wp2
    go_ret; exact ⟨er_, bl_⟩
def bodkinlaw07_ScalarFloats.f (k : Nat) (a0 : Int) (a1 : Int) : Option (Bool) := (bodkinlaw07_awake.f k).bind fun t350 => (if t350 = true then ((bodkinlaw07_some.f k 139 166 a0 a1).bind fun t351 => (some t351)) else (some false))
theorem bodkinlaw07_ScalarFloats.mono : ∀ a0 a1 k, LeO (bodkinlaw07_ScalarFloats.f k a0 a1) (bodkinlaw07_ScalarFloats.f (k + 1) a0 a1) := by
 intro a0 a1 k; unfold bodkinlaw07_ScalarFloats.f
 repeat' first
   | (with_reducible exact bodkinlaw07_awake.mono _)
   | (with_reducible exact bodkinlaw07_some.mono _ _ _ _ _)
   | (with_reducible exact LeO.refl _)
   | (with_reducible exact LeO.none _)
   | (with_reducible refine LeO.ite ?_ ?_)
   | (with_reducible refine LeO.bind ?_ (fun _ => ?_))
   | exact bodkinlaw07_awake.mono _
   | exact bodkinlaw07_some.mono _ _ _ _ _
   | exact LeO.none _
   | refine LeO.ite ?_ ?_
   | refine LeO.bind ?_ (fun _ => ?_)
theorem bodkinlaw07_ScalarFloats.calls (k : Nat) (a0 : Int) (a1 : Int) (r : Bool) (w : World) (h : bodkinlaw07_ScalarFloats.f k a0 a1 = some r) (hG : GD w := by first | assumption | exact GD.below (by assumption) (by repeat (first | exact Aside0.out (by assumption) | exact Below.refl _ _ | assumption | apply below_alloc | apply pw_below_drewN | apply below_drew1 | refine below_set ?_ (Aside0.out (by assumption))))) :
  Calls Tryz.prog 9 #[.int .u64 a0, .int .u64 a1] w fun e w' => e = .returned (.bool r) ∧ Below w.heap.size w w' := by
 have HB := zm_ (Below.refl w.heap.size w); have H : ((bodkinlaw07_awake.f k).bind fun t350 => (if t350 = true then ((bodkinlaw07_some.f k 139 166 a0 a1).bind fun t351 => (some t351)) else (some false))) = some r := h; clear h; replace H := Option.bind_eq_some_iff.mp H; obtain ⟨t350, A30, H⟩ := H; replace H : (if t350 = true then ((bodkinlaw07_some.f k 139 166 a0 a1).bind fun t351 => (some t351)) else (some false)) = some r := H; have A3 := zm_ A30; clear A30; by_cases c4 : t350 = true
 ·subst c4; have H1 : ((bodkinlaw07_some.f k 139 166 a0 a1).bind fun t351 => (some t351)) = some r := by rw [if_pos rfl] at H; exact H
  clear H; have H := H1; clear H1; replace H := Option.bind_eq_some_iff.mp H; obtain ⟨t351, A50, H⟩ := H; replace H : (some t351) = some r := H; have A5 := zm_ A50; clear A50; obtain rfl := Option.some.inj H; go_enter Tryz.func9, Tryz.ntmps9
  go_wp2_with (first | ((with_reducible refine gate_callee (f := 12) rfl ?_); refine goesL_ (some 6) rfl rfl Tryz.func12 (by kernel_rfl) rfl #[] rfl mp_ ?_; (with_reducible refine (bodkinlaw07_awake.calls k  true _ A3.out).mono ?_); rintro e w6 ⟨rfl, hb⟩; refine ⟨_, rfl, ?_⟩; have n0_ := zm_ (below_step bl_ hb); clear HB; have HB := n0_; clear n0_; (try clear hb); (try clear hb2); (try clear hk); (try clear hi)) | ((with_reducible refine gate_callee (f := 19) rfl ?_); refine goesL_ (some 11) rfl rfl Tryz.func19 (by kernel_rfl) rfl #[.int .i64 139, .int .i64 166, .int .u64 a0, .int .u64 a1] rfl mp_ ?_; (with_reducible refine (bodkinlaw07_some.calls k 139 166 a0 a1 t351 _ A5.out).mono ?_); rintro e w7 ⟨rfl, hb⟩; refine ⟨_, rfl, ?_⟩; have n0_ := zm_ (below_step bl_ hb); clear HB; have HB := n0_; clear n0_; (try clear hb); (try clear hb2); (try clear hk); (try clear hi)))
  go_ret; exact ⟨er_, bl_⟩
 ·replace c4 := Bool.eq_false_iff.mpr c4; subst c4; have H1 : (some false) = some r := by rw [if_neg (show ¬ (false = true) by decide)] at H; exact H
  clear H; have H := H1; clear H1; obtain rfl := Option.some.inj H; go_enter Tryz.func9, Tryz.ntmps9
  go_wp2_with (first | ((with_reducible refine gate_callee (f := 12) rfl ?_); refine goesL_ (some 6) rfl rfl Tryz.func12 (by kernel_rfl) rfl #[] rfl mp_ ?_; (with_reducible refine (bodkinlaw07_awake.calls k  false _ A3.out).mono ?_); rintro e w8 ⟨rfl, hb⟩; refine ⟨_, rfl, ?_⟩; have n0_ := zm_ (below_step bl_ hb); clear HB; have HB := n0_; clear n0_; (try clear hb); (try clear hb2); (try clear hk); (try clear hi)))
  go_ret; exact ⟨er_, bl_⟩
def bodkinlaw07_ScalarFloats.Pure : Prop := ∀ (a0 : Int) (a1 : Int), (Lit.int .u64 a0).wf = true → (Lit.int .u64 a1).wf = true → ∃ k, bodkinlaw07_ScalarFloats.f k a0 a1 = some true
theorem bodkinlaw07_ScalarFloats.walk (P : bodkinlaw07_ScalarFloats.Pure) (a0 : Int) (a1 : Int) (w : World) (w0 : (Lit.int .u64 a0).wf = true) (w1 : (Lit.int .u64 a1).wf = true) (hG : GD w) :
  Calls Tryz.prog 9 #[.int .u64 a0, .int .u64 a1] w fun e w' => e = .returned (.bool true) ∧ Below w.heap.size w w' := by
 obtain ⟨k, h⟩ := P a0 a1 w0 w1; refine (bodkinlaw07_ScalarFloats.calls k a0 a1 true w h hG).mono ?_; rintro e w' ⟨rfl, hd⟩; exact ⟨rfl, hd⟩
end Go.Proofs.YtkhhhceeoljheaaGreatDoor.PFlo

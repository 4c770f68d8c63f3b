import Derived.Test.YtkhhhceeoljheaaGreatDoorInPIntx15
namespace Go.Proofs.YtkhhhceeoljheaaGreatDoor.PInt
open Go.RowKit Go.Proofs.YtkhhhceeoljheaaGreatDoorW.PrintWords Go.Proofs.YtkhhhceeoljheaaGreatDoorW.PrintLast Go.Proofs.YtkhhhceeoljheaaGreatDoorW.PrintMore
attribute [local go_sem] max2_int min2_int max_two min_two max_three min_three max_four min_four   
set_option linter.unusedVariables false
set_option linter.unusedSimpArgs false
theorem more_ {P : Program} {md : Region.Mode} {ops : Array Oper} {Q : Exit → Act → World → Prop} {S S2 : World → Prop} {ds : List Nat} (h12 : ∀ w, S2 w → S w) :
    ∀ (fuel : Nat) (listed : Array Bool) (a : Act) (w : World), S2 w → wpAnyLast P md ops Q S2 [] fuel listed a w → wpAnyLast P md ops Q S ds fuel listed a w
  | 0, _, _, _, _, h => h
  | fuel + 1, listed, a, w, hS, h => ⟨h.1, fun i hi => wpOp_mono (fun a' w' h3 => ⟨fun _ _ => h12 _ (h3.1 (by simp) hS), more_ h12 fuel _ a' w' (h3.1 (by simp) hS) h3.2⟩) (h.2 i hi)⟩
mutual
def bodkinref07_Do.j0 : Nat → Int → List (S33) → List Int → Bool → Int → ByteArray → Int → ByteArray → ByteArray → Bool → Option (Int × Int × Int × Bool × Int)
 | 0, _, _, _, _, _, _, _, _, _, _ => none
 | k + 1, x0, x2, x9, x40, x371000, x371001, x371002, x371003, x371004, x371005 => if x40 = true then (some (0, 0, 0, false, 1)) else (bodkinref07_Do.l0 k x0 x2 x9 ([] : List (S33)) 0 x371000 x371001 x371002 x371003 x371004 x371005)
def bodkinref07_Do.l0 : Nat → Int → List (S33) → List Int → List (S33) → Int → Int → ByteArray → Int → ByteArray → ByteArray → Bool → Option (Int × Int × Int × Bool × Int)
 | 0, _, _, _, _, _, _, _, _, _, _, _ => none
 | k + 1, x0, x2, x9, x11, x12, x371000, x371001, x371002, x371003, x371004, x371005 => if x12 < (x2.length : Int) then (if 0 ≤ x12 then (if x12 < (x9.length : Int) then (if ((rd_T33 x2 x12).f0) = (rd x9 x12) then ((bodkinref07_Clean.f k ((rd_T33 x2 x12).f0) ((rd_T33 x2 x12).f1) ((rd_T33 x2 x12).f2) ((rd_T33 x2 x12).f3)).bind fun bt378 => (if x11.length < 4398046511104 then (bodkinref07_Do.l0 k x0 x2 x9 (x11 ++ [(⟨bt378.1, bt378.2.1, bt378.2.2.1, bt378.2.2.2⟩ : S33)]) (wrap64 (x12 + 1)) x371000 x371001 x371002 x371003 x371004 x371005) else (none))) else (some (0, 0, 0, false, 1))) else (none)) else (none)) else (if x0 ≥ 64768 then (none) else (if (x11.length : Int) = 2 then (if 1 < (x11.length : Int) then (bodkinref07_Do.j2 k x9 x11 ((rd_T33 x11 1).f1) x371000 x371001 x371002 x371003 x371004 x371005) else (none)) else (bodkinref07_Do.j2 k x9 x11 0 x371000 x371001 x371002 x371003 x371004 x371005)))
def bodkinref07_Do.j2 : Nat → List Int → List (S33) → Int → Int → ByteArray → Int → ByteArray → ByteArray → Bool → Option (Int × Int × Int × Bool × Int)
 | 0, _, _, _, _, _, _, _, _, _ => none
 | k + 1, x9, x11, x13, x371000, x371001, x371002, x371003, x371004, x371005 => if 0 ≤ 1 then (if 1 ≤ (x371001.size : Int) then (if 0 < (x9.length : Int) then ((bodkinref07_Bits.f (rd x9 0)).bind fun t387 => ((bodkinref05_Types.f k x371004).bind fun t388 => (if 0 < (t388.length : Int) then (if 4 ≤ (x371001.size : Int) then (if 0 < (x11.length : Int) then ((bodkinref07_worked.f k (x371001.extract 0 1) t387 (rd t388 0) (x371001.extract 4 x371001.size) ((rd_T33 x11 0).f1) x13).bind fun bt393 => (if bt393.2 = 0 then ((bodkinref05_Types.f k x371004).bind fun t395 => (if 0 < (t395.length : Int) then ((bodkinref07_Clean.f k (rd t395 0) bt393.1 0 false).bind fun bt399 => (some (bt399.1, bt399.2.1, bt399.2.2.1, bt399.2.2.2, 0))) else (none))) else (some (0, 0, 0, false, bt393.2)))) else (none)) else (none)) else (none)))) else (none)) else (none)) else (none)
end
def bodkinref07_Do.f (k : Nat) (a0 : Int) (l1 : List Int) (l2 : List (S33)) : Option (Int × Int × Int × Bool × Int) := (bodkinref05_Of.f k a0).bind fun bt364 => ((bodkinref05_Types.f k bt364.2.2.2.1).bind fun t371 => ((bodkinref07_Numeric.f k a0).bind fun t374 => (if t374 = true then (if (l2.length : Int) = (t371.length : Int) then (if a0 < 64768 then (bodkinref07_Do.j0 k a0 l2 t371 (decide ((l1.length : Int) > 0)) bt364.1 bt364.2.1 bt364.2.2.1 bt364.2.2.2.1 bt364.2.2.2.2.1 bt364.2.2.2.2.2) else (bodkinref07_Do.j0 k a0 l2 t371 false bt364.1 bt364.2.1 bt364.2.2.1 bt364.2.2.2.1 bt364.2.2.2.2.1 bt364.2.2.2.2.2)) else (none)) else (none))))
theorem bodkinref07_Do.mono_l : ∀ k, (∀ y0 y1 y2 y3 y4 y5 y6 y7 y8 y9, LeO (bodkinref07_Do.j0 k y0 y1 y2 y3 y4 y5 y6 y7 y8 y9) (bodkinref07_Do.j0 (k + 1) y0 y1 y2 y3 y4 y5 y6 y7 y8 y9)) ∧ (∀ y0 y1 y2 y3 y4 y5 y6 y7 y8 y9 y10, LeO (bodkinref07_Do.l0 k y0 y1 y2 y3 y4 y5 y6 y7 y8 y9 y10) (bodkinref07_Do.l0 (k + 1) y0 y1 y2 y3 y4 y5 y6 y7 y8 y9 y10)) ∧ (∀ y0 y1 y2 y3 y4 y5 y6 y7 y8, LeO (bodkinref07_Do.j2 k y0 y1 y2 y3 y4 y5 y6 y7 y8) (bodkinref07_Do.j2 (k + 1) y0 y1 y2 y3 y4 y5 y6 y7 y8))
 | 0 => ⟨fun _ _ _ _ _ _ _ _ _ _ r h => by simp [bodkinref07_Do.j0] at h, fun _ _ _ _ _ _ _ _ _ _ _ r h => by simp [bodkinref07_Do.l0] at h, fun _ _ _ _ _ _ _ _ _ r h => by simp [bodkinref07_Do.j2] at h⟩
 | k + 1 => by
  obtain ⟨ih0, ih1, ih2⟩ := bodkinref07_Do.mono_l k
  refine ⟨?_, ?_, ?_⟩
  ·intro y0 y1 y2 y3 y4 y5 y6 y7 y8 y9
   unfold bodkinref07_Do.j0
   repeat' first
   | (with_reducible exact ih0 _ _ _ _ _ _ _ _ _ _)
   | (with_reducible exact ih1 _ _ _ _ _ _ _ _ _ _ _)
   | (with_reducible exact ih2 _ _ _ _ _ _ _ _ _)
   | (with_reducible exact bodkinref05_Of.mono _ _)
   | (with_reducible exact bodkinref05_Types.mono _ _)
   | (with_reducible exact bodkinref07_Clean.mono _ _ _ _ _)
   | (with_reducible exact bodkinref07_Numeric.mono _ _)
   | (with_reducible exact bodkinref07_worked.mono _ _ _ _ _ _ _)
   | (with_reducible exact LeO.refl _)
   | (with_reducible exact LeO.none _)
   | (with_reducible refine LeO.ite ?_ ?_)
   | (with_reducible refine LeO.bind ?_ (fun _ => ?_))
   | exact ih0 _ _ _ _ _ _ _ _ _ _
   | exact ih1 _ _ _ _ _ _ _ _ _ _ _
   | exact ih2 _ _ _ _ _ _ _ _ _
   | exact bodkinref05_Of.mono _ _
   | exact bodkinref05_Types.mono _ _
   | exact bodkinref07_Clean.mono _ _ _ _ _
   | exact bodkinref07_Numeric.mono _ _
   | exact bodkinref07_worked.mono _ _ _ _ _ _ _
   | exact LeO.none _
   | refine LeO.ite ?_ ?_
   | refine LeO.bind ?_ (fun _ => ?_)
  ·intro y0 y1 y2 y3 y4 y5 y6 y7 y8 y9 y10
   unfold bodkinref07_Do.l0
   repeat' first
   | (with_reducible exact ih0 _ _ _ _ _ _ _ _ _ _)
   | (with_reducible exact ih1 _ _ _ _ _ _ _ _ _ _ _)
   | (with_reducible exact ih2 _ _ _ _ _ _ _ _ _)
   | (with_reducible exact bodkinref05_Of.mono _ _)
   | (with_reducible exact bodkinref05_Types.mono _ _)
   | (with_reducible exact bodkinref07_Clean.mono _ _ _ _ _)
   | (with_reducible exact bodkinref07_Numeric.mono _ _)
   | (with_reducible exact bodkinref07_worked.mono _ _ _ _ _ _ _)
   | (with_reducible exact LeO.refl _)
   | (with_reducible exact LeO.none _)
   | (with_reducible refine LeO.ite ?_ ?_)
   | (with_reducible refine LeO.bind ?_ (fun _ => ?_))
   | exact ih0 _ _ _ _ _ _ _ _ _ _
   | exact ih1 _ _ _ _ _ _ _ _ _ _ _
   | exact ih2 _ _ _ _ _ _ _ _ _
   | exact bodkinref05_Of.mono _ _
   | exact bodkinref05_Types.mono _ _
   | exact bodkinref07_Clean.mono _ _ _ _ _
   | exact bodkinref07_Numeric.mono _ _
   | exact bodkinref07_worked.mono _ _ _ _ _ _ _
   | exact LeO.none _
   | refine LeO.ite ?_ ?_
   | refine LeO.bind ?_ (fun _ => ?_)
  ·intro y0 y1 y2 y3 y4 y5 y6 y7 y8
   unfold bodkinref07_Do.j2
   repeat' first
   | (with_reducible exact ih0 _ _ _ _ _ _ _ _ _ _)
   | (with_reducible exact ih1 _ _ _ _ _ _ _ _ _ _ _)
   | (with_reducible exact ih2 _ _ _ _ _ _ _ _ _)
   | (with_reducible exact bodkinref05_Of.mono _ _)
   | (with_reducible exact bodkinref05_Types.mono _ _)
   | (with_reducible exact bodkinref07_Clean.mono _ _ _ _ _)
   | (with_reducible exact bodkinref07_Numeric.mono _ _)
   | (with_reducible exact bodkinref07_worked.mono _ _ _ _ _ _ _)
   | (with_reducible exact LeO.refl _)
   | (with_reducible exact LeO.none _)
   | (with_reducible refine LeO.ite ?_ ?_)
   | (with_reducible refine LeO.bind ?_ (fun _ => ?_))
   | exact ih0 _ _ _ _ _ _ _ _ _ _
   | exact ih1 _ _ _ _ _ _ _ _ _ _ _
   | exact ih2 _ _ _ _ _ _ _ _ _
   | exact bodkinref05_Of.mono _ _
   | exact bodkinref05_Types.mono _ _
   | exact bodkinref07_Clean.mono _ _ _ _ _
   | exact bodkinref07_Numeric.mono _ _
   | exact bodkinref07_worked.mono _ _ _ _ _ _ _
   | exact LeO.none _
   | refine LeO.ite ?_ ?_
   | refine LeO.bind ?_ (fun _ => ?_)
theorem bodkinref07_Do.mono : ∀ a0 a1 a2 k, LeO (bodkinref07_Do.f k a0 a1 a2) (bodkinref07_Do.f (k + 1) a0 a1 a2) := by
 intro a0 a1 a2 k
 obtain ⟨ih0, ih1, ih2⟩ := bodkinref07_Do.mono_l k
 unfold bodkinref07_Do.f
 repeat' first
   | (with_reducible exact ih0 _ _ _ _ _ _ _ _ _ _)
   | (with_reducible exact ih1 _ _ _ _ _ _ _ _ _ _ _)
   | (with_reducible exact ih2 _ _ _ _ _ _ _ _ _)
   | (with_reducible exact bodkinref05_Of.mono _ _)
   | (with_reducible exact bodkinref05_Types.mono _ _)
   | (with_reducible exact bodkinref07_Clean.mono _ _ _ _ _)
   | (with_reducible exact bodkinref07_Numeric.mono _ _)
   | (with_reducible exact bodkinref07_worked.mono _ _ _ _ _ _ _)
   | (with_reducible exact LeO.refl _)
   | (with_reducible exact LeO.none _)
   | (with_reducible refine LeO.ite ?_ ?_)
   | (with_reducible refine LeO.bind ?_ (fun _ => ?_))
   | exact ih0 _ _ _ _ _ _ _ _ _ _
   | exact ih1 _ _ _ _ _ _ _ _ _ _ _
   | exact ih2 _ _ _ _ _ _ _ _ _
   | exact bodkinref05_Of.mono _ _
   | exact bodkinref05_Types.mono _ _
   | exact bodkinref07_Clean.mono _ _ _ _ _
   | exact bodkinref07_Numeric.mono _ _
   | exact bodkinref07_worked.mono _ _ _ _ _ _ _
   | exact LeO.none _
   | refine LeO.ite ?_ ?_
   | refine LeO.bind ?_ (fun _ => ?_)
def bodkinref07_Do.T10 : Bool × List (List Nat × List Nat) := (true, [([], []), ([], []), ([0, 1], [0, 1]), ([2], [2]), ([3], [3]), ([], []), ([], []), ([5, 6], [5, 6]), ([7], [7]), ([4, 8], [4, 8])])
def bodkinref07_Do.B10 : List Nat := [0, 0, 3, 7, 15, 0, 0, 96, 224, 511]
theorem bodkinref07_Do.tab10 : rtab .any (opsOf Tryz.f17 10) = bodkinref07_Do.T10 := by kernel_rfl
theorem bodkinref07_Do.bits10 : waitsOk bodkinref07_Do.T10.2 bodkinref07_Do.B10 = true := by kernel_rfl
def bodkinref07_Do.T18 : Bool × List (List Nat × List Nat) := (true, [([], []), ([0], [0]), ([1], [1]), ([], []), ([3], [3]), ([4], [4]), ([5], [5]), ([], []), ([7], [7]), ([8, 6], [8]), ([9], [9]), ([10], [10]), ([], []), ([12], [12]), ([13], [13]), ([], []), ([15], [15]), ([16], [16]), ([17], [17]), ([], []), ([2, 6, 11, 14, 18, 19, 9], [2, 6, 11, 14, 18, 19]), ([20], [20]), ([21], [21]), ([21], [21]), ([22, 20, 0, 1, 2, 3, 4, 5, 6, 7, 8, 9, 10, 11, 12, 13, 14, 15, 16, 17, 18, 19, 20, 21, 22], [22]), ([23, 24, 0, 1, 2, 3, 4, 5, 6, 7, 8, 9, 10, 11, 12, 13, 14, 15, 16, 17, 18, 19, 20, 21, 22, 23, 24], [23])])
def bodkinref07_Do.B18 : List Nat := [0, 1, 3, 0, 8, 24, 56, 0, 128, 504, 1016, 2040, 0, 4096, 12288, 0, 32768, 98304, 229376, 0, 1048575, 2097151, 4194303, 4194303, 8388607, 33554431]
theorem bodkinref07_Do.tab18 : rtab .any (opsOf Tryz.f17 18) = bodkinref07_Do.T18 := by kernel_rfl
theorem bodkinref07_Do.bits18 : waitsOk bodkinref07_Do.T18.2 bodkinref07_Do.B18 = true := by kernel_rfl
set_option maxHeartbeats 8000000 in
set_option maxRecDepth 100000 in
theorem bodkinref07_Do.calls (k : Nat) (a0 : Int) (A1 : Option Addr) (c1 : Nat) (l1 : List Int) (A2 : Option Addr) (c2 : Nat) (l2 : List (S33)) (r1 : Int) (r2 : Int) (r3 : Int) (r4 : Bool) (r5 : Int) (w : World) (hr1 : Kd.C (Kd.int .i64) w A1 l1.length l1) (hc1 : l1.length ≤ c1) (hr2 : Kd.C k33 w A2 l2.length l2) (hc2 : l2.length ≤ c2) (h : bodkinref07_Do.f k a0 l1 l2 = some (r1, r2, r3, r4, r5)) (hG : GD w := by first | assumption | exact GD.below (by assumption) (by repeat (first | exact Aside0.out (by assumption) | exact Below.refl _ _ | assumption | apply below_alloc | apply pw_below_drewN | apply below_drew1 | refine below_set ?_ (Aside0.out (by assumption))))) :
  Calls Tryz.prog 17 #[.int .i64 a0, .slice A1 l1.length c1, .slice A2 l2.length c2] w fun e w' => e = .returned (.tuple #[.agg #[.int .i64 r1, .int .u64 r2, .int .u64 r3, .bool r4], .int .i64 r5]) ∧ Below w.heap.size w w' := by
 have hu33 := Tryz.underlying33
 have hu25 := Tryz.underlying25
 have HR1 := Aside0.mk hr1
 have HC1 := Aside0.mk hc1
 clear hr1 hc1
 have HR2 := Aside0.mk hr2
 have HC2 := Aside0.mk hc2
 clear hr2 hc2
 have HB := Aside0.mk (Below.refl w.heap.size w)
 have H : ((bodkinref05_Of.f k a0).bind fun bt364 => ((bodkinref05_Types.f k bt364.2.2.2.1).bind fun t371 => ((bodkinref07_Numeric.f k a0).bind fun t374 => (if t374 = true then (if (l2.length : Int) = (t371.length : Int) then (if a0 < 64768 then (bodkinref07_Do.j0 k a0 l2 t371 (decide ((l1.length : Int) > 0)) bt364.1 bt364.2.1 bt364.2.2.1 bt364.2.2.2.1 bt364.2.2.2.2.1 bt364.2.2.2.2.2) else (bodkinref07_Do.j0 k a0 l2 t371 false bt364.1 bt364.2.1 bt364.2.2.1 bt364.2.2.2.1 bt364.2.2.2.2.1 bt364.2.2.2.2.2)) else (none)) else (none))))) = some (r1, r2, r3, r4, r5) := h
 clear h
 replace H := Option.bind_eq_some_iff.mp H
 obtain ⟨⟨t364, t365, t366, t367, t368, t369⟩, A40, H⟩ := H
 replace H : ((bodkinref05_Types.f k t367).bind fun t371 => ((bodkinref07_Numeric.f k a0).bind fun t374 => (if t374 = true then (if (l2.length : Int) = (t371.length : Int) then (if a0 < 64768 then (bodkinref07_Do.j0 k a0 l2 t371 (decide ((l1.length : Int) > 0)) t364 t365 t366 t367 t368 t369) else (bodkinref07_Do.j0 k a0 l2 t371 false t364 t365 t366 t367 t368 t369)) else (none)) else (none)))) = some (r1, r2, r3, r4, r5) := H
 have A4 := Aside0.mk A40
 clear A40
 replace H := Option.bind_eq_some_iff.mp H
 obtain ⟨t371, A50, H⟩ := H
 replace H : ((bodkinref07_Numeric.f k a0).bind fun t374 => (if t374 = true then (if (l2.length : Int) = (t371.length : Int) then (if a0 < 64768 then (bodkinref07_Do.j0 k a0 l2 t371 (decide ((l1.length : Int) > 0)) t364 t365 t366 t367 t368 t369) else (bodkinref07_Do.j0 k a0 l2 t371 false t364 t365 t366 t367 t368 t369)) else (none)) else (none))) = some (r1, r2, r3, r4, r5) := H
 have A5 := Aside0.mk A50
 clear A50
 replace H := Option.bind_eq_some_iff.mp H
 obtain ⟨t374, A60, H⟩ := H
 replace H : (if t374 = true then (if (l2.length : Int) = (t371.length : Int) then (if a0 < 64768 then (bodkinref07_Do.j0 k a0 l2 t371 (decide ((l1.length : Int) > 0)) t364 t365 t366 t367 t368 t369) else (bodkinref07_Do.j0 k a0 l2 t371 false t364 t365 t366 t367 t368 t369)) else (none)) else (none)) = some (r1, r2, r3, r4, r5) := H
 have A6 := Aside0.mk A60
 clear A60
 have HC7 := Aside0.mk H
 clear H
 go_enter Tryz.func17, Tryz.ntmps17
 go_upto_region 4 with (first | ((with_reducible refine gate_dst (N := 6) rfl ?_); (try (refine gate_guard (by rfl) ?_; dsimp only)); refine box_event ?hg (N := 6) ?hd (cs := #[.int .i64 0, .int .u64 0, .int .u64 0, .bool false]) (t := 33) ?hr ?_; (case hd => rfl); (case hg => rfl); (case hr => first | (go_simp; done) | (go_simp; rfl)); intro gb363 hg w8 hbox hb; have n0_ := Aside0.mk (below_step bl_ hb); have n1_ := Aside0.mk (hbox); have n2_ := Aside0.mk ((by rw [hg]; exact (below_size bl_) : w.heap.size ≤ gb363)); have n3_ := Aside0.mk ((by rw [hg]; exact (below_size bl_) : w.heap.size ≤ gb363)); clear HB; have HB := n0_; have BK363 := n1_; have GW363 := n2_; have GE363 := n3_; clear n0_ n1_ n2_ n3_; clear hb hbox hg) | ((with_reducible refine gate_callee (f := 13) rfl ?_); refine goesL_ (some 17) rfl rfl Tryz.func13 (by kernel_rfl) rfl #[.int .i64 a0] rfl mp_ ?_; (with_reducible refine (bodkinref05_Of.calls k a0 t364 t365 t366 t367 t368 t369 _ A4.out).mono ?_); rintro e w9 ⟨rfl, hb⟩; refine ⟨_, rfl, ?_⟩; have n0_ := Aside0.mk (blk_below (g := gb363) (o := .cells #[.int .i64 0, .int .u64 0, .int .u64 0, .bool false] 33 (0, 0)) (by (with_reducible repeat (first | refine blk_drewN ?_ _ | refine blk_drew ?_ | refine blk_alloc ?_ _)); exact BK363.out) hb); have n1_ := Aside0.mk (below_step bs_ hb); clear BK363; clear HB; have BK363 := n0_; have HB := n1_; clear n0_ n1_; (try clear hb); (try clear hb2); (try clear hk); (try clear hi)) | ((with_reducible refine gate_dst (N := 8) rfl ?_); (try (refine gate_guard (by rfl) ?_; dsimp only)); refine box_event ?hg (N := 8) ?hd (cs := #[.int .i64 0, .string (⟨#[]⟩ : ByteArray), .int .i64 0, .string (⟨#[]⟩ : ByteArray), .string (⟨#[]⟩ : ByteArray), .bool false]) (t := 25) ?hr ?_; (case hd => rfl); (case hg => rfl); (case hr => first | (go_simp; done) | (go_simp; rfl)); intro gb370 hg w10 hbox hb; have n0_ := Aside0.mk (blk_below (g := gb363) (o := .cells #[.int .i64 0, .int .u64 0, .int .u64 0, .bool false] 33 (0, 0)) (by (with_reducible repeat (first | refine blk_drewN ?_ _ | refine blk_drew ?_ | refine blk_alloc ?_ _)); exact BK363.out) hb); have n1_ := Aside0.mk (below_step bs_ hb); have n2_ := Aside0.mk (hbox); have n3_ := Aside0.mk ((by rw [hg]; exact (below_size bs_) : w.heap.size ≤ gb370)); have n4_ := Aside0.mk ((by rw [hg]; exact (below_size bs_) : w.heap.size ≤ gb370)); have n5_ := Aside0.mk ((by rw [hg]; exact Nat.ne_of_lt (blk_lt (g := gb363) (o := .cells #[.int .i64 0, .int .u64 0, .int .u64 0, .bool false] 33 (0, 0)) (by (with_reducible repeat (first | refine blk_drewN ?_ _ | refine blk_drew ?_ | refine blk_alloc ?_ _)); exact BK363.out)) : gb363 ≠ gb370)); have n6_ := Aside0.mk ((by rw [hg]; exact Nat.ne_of_gt (blk_lt (g := gb363) (o := .cells #[.int .i64 0, .int .u64 0, .int .u64 0, .bool false] 33 (0, 0)) (by (with_reducible repeat (first | refine blk_drewN ?_ _ | refine blk_drew ?_ | refine blk_alloc ?_ _)); exact BK363.out)) : gb370 ≠ gb363)); clear BK363; clear HB; have BK363 := n0_; have HB := n1_; have BK370 := n2_; have GW370 := n3_; have GE370 := n4_; have NB363_370 := n5_; have NB370_363 := n6_; clear n0_ n1_ n2_ n3_ n4_ n5_ n6_; clear hb hbox hg; have hnb11 := NB370_363.out; have hnc11 := NB363_370.out; have hcz12_0 : w10.cell? ⟨gb370, 0, none⟩ = some (.int .i64 0) := (blk_cell BK370.out 0).trans rfl; have hcz12_1 : w10.cell? ⟨gb370, 1, none⟩ = some (.string (⟨#[]⟩ : ByteArray)) := (blk_cell BK370.out 1).trans rfl; have hcz12_2 : w10.cell? ⟨gb370, 2, none⟩ = some (.int .i64 0) := (blk_cell BK370.out 2).trans rfl; have hcz12_3 : w10.cell? ⟨gb370, 3, none⟩ = some (.string (⟨#[]⟩ : ByteArray)) := (blk_cell BK370.out 3).trans rfl; have hcz12_4 : w10.cell? ⟨gb370, 4, none⟩ = some (.string (⟨#[]⟩ : ByteArray)) := (blk_cell BK370.out 4).trans rfl; have hcz12_5 : w10.cell? ⟨gb370, 5, none⟩ = some (.bool false) := (blk_cell BK370.out 5).trans rfl; have hfz12_0 := blk_frozen BK370.out 0; have hfz12_1 := blk_frozen BK370.out 1; have hfz12_2 := blk_frozen BK370.out 2; have hfz12_3 := blk_frozen BK370.out 3; have hfz12_4 := blk_frozen BK370.out 4; have hfz12_5 := blk_frozen BK370.out 5) | ((with_reducible refine gate_callee (f := 15) rfl ?_); refine goesL_ (some 20) rfl rfl Tryz.func15 (by kernel_rfl) rfl #[.string t367] rfl mp_ ?_; (with_reducible refine (bodkinref05_Types.calls k t367 t371 _ A5.out).mono ?_); rintro e w13 ⟨v372, rfl, ho0, hb⟩; refine ⟨_, rfl, ?_⟩; have n0_ := Aside0.mk (Kd.R_lower ho0 (below_size bs_)); have n1_ := Aside0.mk (blk_below (g := gb363) (o := .cells #[.int .i64 0, .int .u64 0, .int .u64 0, .bool false] 33 (0, 0)) (by (with_reducible repeat (first | refine blk_drewN ?_ _ | refine blk_drew ?_ | refine blk_alloc ?_ _)); refine blk_far ?_ NB363_370.out _; (with_reducible repeat (first | refine blk_drewN ?_ _ | refine blk_drew ?_ | refine blk_alloc ?_ _)); refine blk_far ?_ NB363_370.out _; (with_reducible repeat (first | refine blk_drewN ?_ _ | refine blk_drew ?_ | refine blk_alloc ?_ _)); refine blk_far ?_ NB363_370.out _; (with_reducible repeat (first | refine blk_drewN ?_ _ | refine blk_drew ?_ | refine blk_alloc ?_ _)); refine blk_far ?_ NB363_370.out _; (with_reducible repeat (first | refine blk_drewN ?_ _ | refine blk_drew ?_ | refine blk_alloc ?_ _)); refine blk_far ?_ NB363_370.out _; (with_reducible repeat (first | refine blk_drewN ?_ _ | refine blk_drew ?_ | refine blk_alloc ?_ _)); refine blk_far ?_ NB363_370.out _; (with_reducible repeat (first | refine blk_drewN ?_ _ | refine blk_drew ?_ | refine blk_alloc ?_ _)); exact BK363.out) hb); have n2_ := Aside0.mk (blk_below (g := gb370) (o := .cells #[.int .i64 t364, .string t365, .int .i64 t366, .string t367, .string t368, .bool t369] 25 (0, 0)) (by (with_reducible repeat (first | refine blk_drewN ?_ _ | refine blk_drew ?_ | refine blk_alloc ?_ _)); refine blk_put (cs := #[.int .i64 t364, .string t365, .int .i64 t366, .string t367, .string t368, .bool false]) ?_ 5 _ rfl; (with_reducible repeat (first | refine blk_drewN ?_ _ | refine blk_drew ?_ | refine blk_alloc ?_ _)); refine blk_put (cs := #[.int .i64 t364, .string t365, .int .i64 t366, .string t367, .string (⟨#[]⟩ : ByteArray), .bool false]) ?_ 4 _ rfl; (with_reducible repeat (first | refine blk_drewN ?_ _ | refine blk_drew ?_ | refine blk_alloc ?_ _)); refine blk_put (cs := #[.int .i64 t364, .string t365, .int .i64 t366, .string (⟨#[]⟩ : ByteArray), .string (⟨#[]⟩ : ByteArray), .bool false]) ?_ 3 _ rfl; (with_reducible repeat (first | refine blk_drewN ?_ _ | refine blk_drew ?_ | refine blk_alloc ?_ _)); refine blk_put (cs := #[.int .i64 t364, .string t365, .int .i64 0, .string (⟨#[]⟩ : ByteArray), .string (⟨#[]⟩ : ByteArray), .bool false]) ?_ 2 _ rfl; (with_reducible repeat (first | refine blk_drewN ?_ _ | refine blk_drew ?_ | refine blk_alloc ?_ _)); refine blk_put (cs := #[.int .i64 t364, .string (⟨#[]⟩ : ByteArray), .int .i64 0, .string (⟨#[]⟩ : ByteArray), .string (⟨#[]⟩ : ByteArray), .bool false]) ?_ 1 _ rfl; (with_reducible repeat (first | refine blk_drewN ?_ _ | refine blk_drew ?_ | refine blk_alloc ?_ _)); refine blk_put (cs := #[.int .i64 0, .string (⟨#[]⟩ : ByteArray), .int .i64 0, .string (⟨#[]⟩ : ByteArray), .string (⟨#[]⟩ : ByteArray), .bool false]) ?_ 0 _ rfl; (with_reducible repeat (first | refine blk_drewN ?_ _ | refine blk_drew ?_ | refine blk_alloc ?_ _)); exact BK370.out) hb); have n3_ := Aside0.mk (below_step bs_ hb); clear BK363; clear BK370; clear HB; have HO373 := n0_; have BK363 := n1_; have BK370 := n2_; have HB := n3_; clear n0_ n1_ n2_ n3_; (try clear hb); (try clear hb2); (try clear hk); (try clear hi); (try clear ho0)) | ((with_reducible refine gate_callee (f := 18) rfl ?_); refine goesL_ (some 22) rfl rfl Tryz.func18 (by kernel_rfl) rfl #[.int .i64 a0] rfl mp_ ?_; (with_reducible refine (bodkinref07_Numeric.calls k a0 t374 _ A6.out).mono ?_); rintro e w14 ⟨rfl, hb⟩; refine ⟨_, rfl, ?_⟩; have n0_ := Aside0.mk (Kd.R_below (rl_ HO373) hb); have n1_ := Aside0.mk (blk_below (g := gb363) (o := .cells #[.int .i64 0, .int .u64 0, .int .u64 0, .bool false] 33 (0, 0)) (by (with_reducible repeat (first | refine blk_drewN ?_ _ | refine blk_drew ?_ | refine blk_alloc ?_ _)); exact BK363.out) hb); have n2_ := Aside0.mk (blk_below (g := gb370) (o := .cells #[.int .i64 t364, .string t365, .int .i64 t366, .string t367, .string t368, .bool t369] 25 (0, 0)) (by (with_reducible repeat (first | refine blk_drewN ?_ _ | refine blk_drew ?_ | refine blk_alloc ?_ _)); exact BK370.out) hb); have n3_ := Aside0.mk (below_step bs_ hb); clear HO373; clear BK363; clear BK370; clear HB; have HO373 := n0_; have BK363 := n1_; have BK370 := n2_; have HB := n3_; clear n0_ n1_ n2_ n3_; (try clear hb); (try clear hb2); (try clear hk); (try clear hi)))
 (try simp only [Act.put, List.setIfInBounds_toArray, List.set_cons_zero, List.set_cons_succ])
 go_cut [40] (fun v40 wc => ∃ (kq : Nat) (x40_6 : Bool), v40 = .bool x40_6 ∧ Aside0 (bodkinref07_Do.j0 kq a0 l2 t371 x40_6 t364 t365 t366 t367 t368 t369 = some (r1, r2, r3, r4, r5)) ∧ Aside0 (kq ≤ k) ∧ Aside0 (Kd.R (Kd.int .i64) 3 wc w.heap.size (fun _ => True) v372 t371) ∧ Aside0 (wc.heap[gb363]? = some (.cells #[.int .i64 0, .int .u64 0, .int .u64 0, .bool false] 33 (0, 0))) ∧ Aside0 (wc.heap[gb370]? = some (.cells #[.int .i64 t364, .string t365, .int .i64 t366, .string t367, .string t368, .bool t369] 25 (0, 0))) ∧ Aside0 (Below w.heap.size w wc))
 case first =>
  have H := HC7.out
  clear HC7
  by_cases c15 : t374 = true
  ·subst c15
   have H1 : (if (l2.length : Int) = (t371.length : Int) then (if a0 < 64768 then (bodkinref07_Do.j0 k a0 l2 t371 (decide ((l1.length : Int) > 0)) t364 t365 t366 t367 t368 t369) else (bodkinref07_Do.j0 k a0 l2 t371 false t364 t365 t366 t367 t368 t369)) else (none)) = some (r1, r2, r3, r4, r5) := by rw [if_pos rfl] at H; exact H
   clear H
   have H := H1
   clear H1
   by_cases c16 : (l2.length : Int) = (t371.length : Int)
   ·rw [if_pos c16] at H
    have c16b0 : ((l2.length : Int) == (t371.length : Int)) = true := beq_iff_eq.mpr c16
    have c16b1 : ((l2.length : Int) != (t371.length : Int)) = false := bne_eq_false_iff_eq.mpr c16
    have c16b2 : (l2.length == t371.length) = true := by first | simpa using c16 | (simp at c16 ⊢; omega)
    clear c16
    (first | rw [c16b0] | (simp only [i64_w, i32_w]; rw [c16b0]) | skip)
    by_cases c17 : a0 < 64768
    ·rw [if_pos c17] at H
     have c17b0 : decide (a0 < 64768) = true := decide_eq_true c17
     clear c17
     have H' := Aside0.mk H
     clear H
     obtain ⟨Ao18, co18, eo18⟩ := Kd.R_slice HO373.out
     subst eo18
     go_wp2
     go_meet
     case rel => exact ⟨_, (decide ((l1.length : Int) > 0)), rs_, H', ⟨by first | omega | exact Nat.le_refl _⟩, ⟨rl_ HO373⟩, ⟨by (with_reducible repeat (first | refine blk_drewN ?_ _ | refine blk_drew ?_ | refine blk_alloc ?_ _)); exact BK363.out⟩, ⟨by (with_reducible repeat (first | refine blk_drewN ?_ _ | refine blk_drew ?_ | refine blk_alloc ?_ _)); exact BK370.out⟩, ⟨bs_⟩⟩
    ·rw [if_neg c17] at H
     have c17b0 : decide (a0 < 64768) = false := decide_eq_false c17
     clear c17
     have H' := Aside0.mk H
     clear H
     obtain ⟨Ao19, co19, eo19⟩ := Kd.R_slice HO373.out
     subst eo19
     go_wp2
     go_meet
     case rel => exact ⟨_, (false), rs_, H', ⟨by first | omega | exact Nat.le_refl _⟩, ⟨rl_ HO373⟩, ⟨by (with_reducible repeat (first | refine blk_drewN ?_ _ | refine blk_drew ?_ | refine blk_alloc ?_ _)); exact BK363.out⟩, ⟨by (with_reducible repeat (first | refine blk_drewN ?_ _ | refine blk_drew ?_ | refine blk_alloc ?_ _)); exact BK370.out⟩, ⟨bs_⟩⟩
   ·rw [if_neg c16] at H
    exact absurd H (by simp)
  ·replace c15 := Bool.eq_false_iff.mpr c15
   subst c15
   have H1 : (none) = some (r1, r2, r3, r4, r5) := by rw [if_neg (show ¬ (false = true) by decide)] at H; exact H
   clear H
   have H := H1
   clear H1
   exact absurd H (by simp)
 case rest =>
  clear HC7
  (try clear c1); (try clear c2); (try clear p2); (try clear c11); (try clear c13); (try clear c15); (try clear c16); (try clear c16b0); (try clear c16b1); (try clear c16b2); (try clear c17); (try clear c17b0); (try clear c18); (try clear hcz12_0); (try clear hcz12_1); (try clear hcz12_2); (try clear hcz12_3); (try clear hcz12_4); (try clear hcz12_5); (try clear hfz12_0); (try clear hfz12_1); (try clear hfz12_2); (try clear hfz12_3); (try clear hfz12_4); (try clear hfz12_5)
  obtain ⟨kq, x40_6, rfl, HA, HJ6, HO_9, BK363, BK370, HB⟩ := hcut
  cases kq with
  | zero => exact absurd HA.out (by simp [bodkinref07_Do.j0])
  | succ kj6 =>
   have H := HA.out
   clear HA
   simp only [bodkinref07_Do.j0] at H
   by_cases c20 : x40_6 = true
   ·subst c20
    have H1 : (some (0, 0, 0, false, 1)) = some (r1, r2, r3, r4, r5) := by rw [if_pos rfl] at H; exact H
    clear H
    have H := H1
    clear H1
    simp only [Option.some.injEq, Prod.mk.injEq] at H
    obtain ⟨rfl, rfl, rfl, rfl, rfl⟩ := H
    have hnb21 := NB363_370.out
    have hnc21 := NB370_363.out
    have hcz22_0 : wc.cell? ⟨gb363, 0, none⟩ = some (.int .i64 0) := (blk_cell BK363.out 0).trans rfl
    have hcz22_1 : wc.cell? ⟨gb363, 1, none⟩ = some (.int .u64 0) := (blk_cell BK363.out 1).trans rfl
    have hcz22_2 : wc.cell? ⟨gb363, 2, none⟩ = some (.int .u64 0) := (blk_cell BK363.out 2).trans rfl
    have hcz22_3 : wc.cell? ⟨gb363, 3, none⟩ = some (.bool false) := (blk_cell BK363.out 3).trans rfl
    have hfz22_0 := blk_frozen BK363.out 0
    have hfz22_1 := blk_frozen BK363.out 1
    have hfz22_2 := blk_frozen BK363.out 2
    have hfz22_3 := blk_frozen BK363.out 3
    go_wp2
    refine bodyPost_ret (results_ct rfl _ _ gb363 33 #[.int .i64 0, .int .u64 0, .int .u64 0, .bool false] (0, 0) _ rfl (by (with_reducible repeat (first | refine blk_drewN ?_ _ | refine blk_drew ?_ | refine blk_alloc ?_ _)); refine blk_put (cs := #[.int .i64 0, .int .u64 0, .int .u64 0, .bool false]) ?_ 3 _ rfl; (with_reducible repeat (first | refine blk_drewN ?_ _ | refine blk_drew ?_ | refine blk_alloc ?_ _)); refine blk_put (cs := #[.int .i64 0, .int .u64 0, .int .u64 0, .bool false]) ?_ 2 _ rfl; (with_reducible repeat (first | refine blk_drewN ?_ _ | refine blk_drew ?_ | refine blk_alloc ?_ _)); refine blk_put (cs := #[.int .i64 0, .int .u64 0, .int .u64 0, .bool false]) ?_ 1 _ rfl; (with_reducible repeat (first | refine blk_drewN ?_ _ | refine blk_drew ?_ | refine blk_alloc ?_ _)); refine blk_put (cs := #[.int .i64 0, .int .u64 0, .int .u64 0, .bool false]) ?_ 0 _ rfl; (with_reducible repeat (first | refine blk_drewN ?_ _ | refine blk_drew ?_ | refine blk_alloc ?_ _)); exact BK363.out) Tryz.underlying33 rfl (by kernel_rfl)) rfl ?_
    exact ⟨er_, bs_⟩
   ·replace c20 := Bool.eq_false_iff.mpr c20
    subst c20
    have H1 : (bodkinref07_Do.l0 kj6 a0 l2 t371 ([] : List (S33)) 0 t364 t365 t366 t367 t368 t369) = some (r1, r2, r3, r4, r5) := by rw [if_neg (show ¬ (false = true) by decide)] at H; exact H
    clear H
    have H := H1
    clear H1
    have H' := Aside0.mk H
    clear H
    go_wp2
    go_loopg [11, 12] kj6 (fun kq v11 v12 w' => ∃ (x11_2 : List (S33)) (x12_2 : Int) (x364000_2 : Int) (x364001_2 : Int) (x364002_2 : Int) (x364003_2 : Bool), v12 = .int .i64 x12_2 ∧ Aside0 (bodkinref07_Do.l0 kq a0 l2 t371 x11_2 x12_2 t364 t365 t366 t367 t368 t369 = some (r1, r2, r3, r4, r5)) ∧ Aside0 (kq ≤ kj6) ∧ Aside0 (Kd.R (Kd.int .i64) 3 w' w.heap.size (fun _ => True) v372 t371) ∧ Aside0 (Kd.R k33 33 w' w.heap.size (fun k_ => k_ ≠ gb363) v11 x11_2) ∧ Aside0 (w'.heap[gb363]? = some (.cells #[.int .i64 x364000_2, .int .u64 x364001_2, .int .u64 x364002_2, .bool x364003_2] 33 (0, 0))) ∧ Aside0 (w'.heap[gb370]? = some (.cells #[.int .i64 t364, .string t365, .int .i64 t366, .string t367, .string t368, .bool t369] 25 (0, 0))) ∧ Aside0 (Below w.heap.size w w'))
    case atStart => exact ⟨(([] : List (S33))), (0), (0), (0), (0), (false), rs_, H', ⟨Nat.le_refl _⟩, ⟨rl_ HO_9⟩, ⟨by first | exact Kd.R_nil _ _ _ _ _ | exact Kd.N_nil _ _ _ _ _ | exact Kd.V_nil _ _ _ _ _ | exact Kd.Q_nil _ _ _ _ _ | exact Kd.S_nil _ _ _ _ _⟩, ⟨by (with_reducible repeat (first | refine blk_drewN ?_ _ | refine blk_drew ?_ | refine blk_alloc ?_ _)); exact BK363.out⟩, ⟨by (with_reducible repeat (first | refine blk_drewN ?_ _ | refine blk_drew ?_ | refine blk_alloc ?_ _)); exact BK370.out⟩, ⟨bs_⟩⟩
    case round =>
     clear H'
     (try clear c1); (try clear c2); (try clear p2); (try clear c11); (try clear c13); (try clear c15); (try clear c16); (try clear c16b0); (try clear c16b1); (try clear c16b2); (try clear c17); (try clear c17b0); (try clear c18); (try clear c20); (try clear c21); (try clear hcz12_0); (try clear hcz12_1); (try clear hcz12_2); (try clear hcz12_3); (try clear hcz12_4); (try clear hcz12_5); (try clear hcz22_0); (try clear hcz22_1); (try clear hcz22_2); (try clear hcz22_3); (try clear hfz12_0); (try clear hfz12_1); (try clear hfz12_2); (try clear hfz12_3); (try clear hfz12_4); (try clear hfz12_5); (try clear hfz22_0); (try clear hfz22_1); (try clear hfz22_2); (try clear hfz22_3); (try clear p2)
     obtain ⟨x11_2, x12_2, x364000_2, x364001_2, x364002_2, x364003_2, rfl, HA, HK2, HO_9, HO_11, BK363, BK370, HB⟩ := hrel
     cases gk with
     | zero => exact absurd HA.out (by simp [bodkinref07_Do.l0])
     | succ k2 =>
      have H := HA.out
      clear HA
      simp only [bodkinref07_Do.l0] at H
      by_cases c23 : x12_2 < (l2.length : Int)
      ·rw [if_pos c23] at H
       have c23b0 : decide (x12_2 < (l2.length : Int)) = true := decide_eq_true c23
       clear c23
       by_cases c24 : 0 ≤ x12_2
       ·rw [if_pos c24] at H
        have c24b0 : decide (0 ≤ x12_2) = true := decide_eq_true c24
        clear c24
        by_cases c25 : x12_2 < (t371.length : Int)
        ·rw [if_pos c25] at H
         have c25b0 : decide (x12_2 < (t371.length : Int)) = true := decide_eq_true c25
         clear c25
         by_cases c26 : ((rd_T33 l2 x12_2).f0) = (rd t371 x12_2)
         ·rw [if_pos c26] at H
          have c26b0 : (((rd_T33 l2 x12_2).f0) == (rd t371 x12_2)) = true := beq_iff_eq.mpr c26
          have c26b1 : (((rd_T33 l2 x12_2).f0) != (rd t371 x12_2)) = false := bne_eq_false_iff_eq.mpr c26
          clear c26
          replace H := Option.bind_eq_some_iff.mp H
          obtain ⟨⟨t378, t379, t380, t381⟩, A270, H⟩ := H
          replace H : (if x11_2.length < 4398046511104 then (bodkinref07_Do.l0 k2 a0 l2 t371 (x11_2 ++ [(⟨t378, t379, t380, t381⟩ : S33)]) (wrap64 (x12_2 + 1)) t364 t365 t366 t367 t368 t369) else (none)) = some (r1, r2, r3, r4, r5) := H
          have A27 := Aside0.mk A270
          clear A270
          by_cases c28 : x11_2.length < 4398046511104
          ·rw [if_pos c28] at H
           have LMc28 := Aside0.mk c28
           clear c28
           obtain ⟨y382, hy382⟩ : ∃ y_ : List (S33), y_ = (x11_2 ++ [(⟨t378, t379, t380, t381⟩ : S33)]) := ⟨_, rfl⟩
           replace H : (bodkinref07_Do.l0 k2 a0 l2 t371 y382 (wrap64 (x12_2 + 1)) t364 t365 t366 t367 t368 t369) = some (r1, r2, r3, r4, r5) := by first | (rw [hy382]; with_reducible exact H) | (have H2_ := (Option.bind_some _ _).symm.trans H; rw [hy382]; with_reducible exact H2_) | (have H2_ := (Option.bind_some _ _).symm.trans H; with_reducible exact H2_) | with_reducible exact H | (rw [hy382]; exact H) | exact H
           have Ny382 := Aside0.mk hy382
           clear hy382
           have H' := Aside0.mk H
           clear H
           try go_wp2
           have n0_ := Aside0.mk (Kd.R_drew HO_9.out)
           have n1_ := Aside0.mk (Kd.R_drew HO_11.out)
           have n2_ := Aside0.mk (blk_drew BK363.out)
           have n3_ := Aside0.mk (blk_drew BK370.out)
           have n4_ := Aside0.mk (below_drew1 HB.out)
           clear HO_9
           clear HO_11
           clear BK363
           clear BK370
           clear HB
           have HO_9 := n0_
           have HO_11 := n1_
           have BK363 := n2_
           have BK370 := n3_
           have HB := n4_
           clear n0_ n1_ n2_ n3_ n4_
           have p375 : 0 ≤ (x12_2 : Int) := od_
           have q375 : x12_2 < (l2.length : Int) := od_
           obtain ⟨ad375, e375, hx375_0, hx375_1, hx375_2, hx375_3⟩ := at_T33 HR2.out x12_2 p375 q375
           have hw375_3 := hx375_3
           have hw375_2 := hx375_2
           have hw375_1 := hx375_1
           have hw375_0 := hx375_0
           cases e375
           replace hx375_0 := (HB.out.cell (World.block_lt_of_cell? w _ hx375_0)).trans hx375_0
           replace hx375_1 := (HB.out.cell (World.block_lt_of_cell? w _ hx375_1)).trans hx375_1
           replace hx375_2 := (HB.out.cell (World.block_lt_of_cell? w _ hx375_2)).trans hx375_2
           replace hx375_3 := (HB.out.cell (World.block_lt_of_cell? w _ hx375_3)).trans hx375_3
           replace p375 := eq_true p375
           replace q375 := eq_true q375
           obtain ⟨Ao30, co30, eo30⟩ := Kd.R_slice HO_9.out
           (first | subst eo30 | (injection eo30 with f1_ f2_ f3_; have f4_ := f1_.symm; have f5_ := f3_.symm; clear f1_ f2_ f3_; subst f4_; subst f5_))
           have p376 : 0 ≤ (x12_2 : Int) := od_
           have q376 : x12_2 < (t371.length : Int) := od_
           try (obtain ⟨ga_, ca_, hva_, _, _⟩ := Kd.R_reads HO_9.out; subst hva_)
           obtain ⟨ad376, e376, hx376_0⟩ := Kd.at_int (Kd.R_reads' HO_9.out).2.2 x12_2 p376 q376
           cases e376
           replace p376 := eq_true p376
           replace q376 := eq_true q376
           refine start_ (n := 10) (S := fun w' => w'.cell? (ad375.add ((x12_2).toNat * 4)) = some (.int .i64 ((rd_T33 l2 x12_2).f0)) ∧ w'.cell? ⟨(ad375.add ((x12_2).toNat * 4)).block, (ad375.add ((x12_2).toNat * 4)).off + 1, none⟩ = some (.int .u64 ((rd_T33 l2 x12_2).f1)) ∧ w'.cell? ⟨(ad375.add ((x12_2).toNat * 4)).block, (ad375.add ((x12_2).toNat * 4)).off + 2, none⟩ = some (.int .u64 ((rd_T33 l2 x12_2).f2)) ∧ w'.cell? ⟨(ad375.add ((x12_2).toNat * 4)).block, (ad375.add ((x12_2).toNat * 4)).off + 3, none⟩ = some (.bool ((rd_T33 l2 x12_2).f3)) ∧ w'.cell? (ad376.add (x12_2).toNat) = some (.int .i64 (rd t371 x12_2))) (ds := []) #[false, false, false, false, false, false, false, false, false, false] (by kernel_rfl) rfl rfl ⟨((HB.out.cell (World.block_lt_of_cell? w _ hw375_0)).trans hw375_0), ((HB.out.cell (World.block_lt_of_cell? w _ hw375_1)).trans hw375_1), ((HB.out.cell (World.block_lt_of_cell? w _ hw375_2)).trans hw375_2), ((HB.out.cell (World.block_lt_of_cell? w _ hw375_3)).trans hw375_3), hx376_0⟩ (fun hHeld => ?_); refine with_tabW bodkinref07_Do.tab10 bodkinref07_Do.bits10 (fun HT_ HW_ => ?_)
           generalize wr.drew = w29 at HO_9 HO_11 BK363 BK370 HB hx375_0 hx375_1 hx375_2 hx375_3 hx376_0 hHeld ⊢
           refine pure_ (i := 0) (N := some 48) (v := ?_) (a' := ?_) #[true, false, false, false, false, false, false, false, false, false] rfl rfl (any_of HT_.out (by kernel_rfl)) (fun _ _ _ h => h) (Or.inl ⟨by rfl, ?_⟩) ?_ ?_
           rotate_left
           ·intro w'
            go_simp
            with_reducible rfl
           rotate_left
           ·simp only [Act.put, List.setIfInBounds_toArray, List.set_cons_zero, List.set_cons_succ, i64_w, i32_w]
            rfl
           refine pure_ (i := 1) (N := some 49) (v := ?_) (a' := ?_) #[true, true, false, false, false, false, false, false, false, false] rfl rfl (any_of HT_.out (by kernel_rfl)) (fun _ _ _ h => h) (Or.inl ⟨by rfl, ?_⟩) ?_ ?_
           rotate_left
           ·intro w'
            go_simp
            with_reducible rfl
           rotate_left
           ·simp only [Act.put, List.setIfInBounds_toArray, List.set_cons_zero, List.set_cons_succ, i64_w, i32_w]
            rfl
           refine pure_ (i := 2) (N := some 50) (v := ?_) (a' := ?_) #[true, true, true, false, false, false, false, false, false, false] rfl rfl (any_of HT_.out (by kernel_rfl)) (fun _ _ _ h => h) (Or.inl ⟨by rfl, ?_⟩) ?_ ?_
           rotate_left
           ·intro w'
            go_simp
            with_reducible rfl
           rotate_left
           ·simp only [Act.put, List.setIfInBounds_toArray, List.set_cons_zero, List.set_cons_succ, i64_w, i32_w]
            rfl
           refine pure_ (i := 3) (N := some 51) (v := ?_) (a' := ?_) #[true, true, true, true, false, false, false, false, false, false] rfl rfl (any_of HT_.out (by kernel_rfl)) (fun _ _ _ h => h) (Or.inl ⟨by rfl, ?_⟩) ?_ ?_
           rotate_left
           ·intro w'
            go_simp
            with_reducible rfl
           rotate_left
           ·simp only [Act.put, List.setIfInBounds_toArray, List.set_cons_zero, List.set_cons_succ, i64_w, i32_w]
            rfl
           refine pure_ (i := 5) (N := some 53) (v := ?_) (a' := ?_) #[true, true, true, true, false, true, false, false, false, false] rfl rfl (any_of HT_.out (by kernel_rfl)) (fun _ _ _ h => h) (Or.inl ⟨by rfl, ?_⟩) ?_ ?_
           rotate_left
           ·intro w'
            go_simp
            with_reducible rfl
           rotate_left
           ·simp only [Act.put, List.setIfInBounds_toArray, List.set_cons_zero, List.set_cons_succ, i64_w, i32_w]
            rfl
           refine pure_ (i := 6) (N := some 54) (v := ?_) (a' := ?_) #[true, true, true, true, false, true, true, false, false, false] rfl rfl (any_of HT_.out (by kernel_rfl)) (fun _ _ _ h => h) (Or.inl ⟨by rfl, ?_⟩) ?_ ?_
           rotate_left
           ·intro w'
            go_simp
            with_reducible rfl
           rotate_left
           ·simp only [Act.put, List.setIfInBounds_toArray, List.set_cons_zero, List.set_cons_succ, i64_w, i32_w]
            rfl
           refine pure_ (i := 7) (N := some 55) (v := ?_) (a' := ?_) #[true, true, true, true, false, true, true, true, false, false] rfl rfl (any_of HT_.out (by kernel_rfl)) (fun _ _ _ h => h) (Or.inl ⟨by rfl, ?_⟩) ?_ ?_
           rotate_left
           ·intro w'
            go_simp
            with_reducible rfl
           rotate_left
           ·simp only [Act.put, List.setIfInBounds_toArray, List.set_cons_zero, List.set_cons_succ, i64_w, i32_w]
            rfl
           refine take_ (i := 4) (N := some 52) (v := ?_) (a' := ?_) #[true, true, true, true, true, true, true, true, false, false] rfl rfl (take_ofW HT_.out HW_.out (by kernel_rfl)) (fun _ _ _ h => h) (Or.inl ⟨by rfl, ?_⟩) hHeld ?_ ?_
           rotate_left
           ·rintro w' ⟨s0, s1, s2, s3, s4⟩
            go_simp
            with_reducible rfl
           rotate_left
           ·simp only [Act.put, List.setIfInBounds_toArray, List.set_cons_zero, List.set_cons_succ, i64_w, i32_w]
            rfl
           refine take_ (i := 8) (N := some 56) (v := ?_) (a' := ?_) #[true, true, true, true, true, true, true, true, true, false] rfl rfl (take_ofW HT_.out HW_.out (by kernel_rfl)) (fun _ _ _ h => h) (Or.inl ⟨by rfl, ?_⟩) hHeld ?_ ?_
           rotate_left
           ·rintro w' ⟨s0, s1, s2, s3, s4⟩
            go_simp
            with_reducible rfl
           rotate_left
           ·simp only [Act.put, List.setIfInBounds_toArray, List.set_cons_zero, List.set_cons_succ, i64_w, i32_w]
            rfl
           refine pure_ (i := 9) (N := some 57) (v := ?_) (a' := ?_) #[true, true, true, true, true, true, true, true, true, true] rfl rfl (any_of HT_.out (by kernel_rfl)) (fun _ _ _ h => h) (Or.inl ⟨by rfl, ?_⟩) ?_ ?_
           rotate_left
           ·intro w'
            go_simp
            with_reducible rfl
           rotate_left
           ·simp only [Act.put, List.setIfInBounds_toArray, List.set_cons_zero, List.set_cons_succ, i64_w, i32_w]
            rfl
           refine done_ (done_of HT_.out (by kernel_rfl)) ?_
           have p377 : 0 ≤ (x12_2 : Int) := od_
           have q377 : x12_2 < (l2.length : Int) := od_
           obtain ⟨ad377, e377, hx377_0, hx377_1, hx377_2, hx377_3⟩ := at_T33 HR2.out x12_2 p377 q377
           obtain rfl : ad375 = ad377 := (by injection e377)
           replace hx377_0 := (HB.out.cell (World.block_lt_of_cell? w _ hx377_0)).trans hx377_0
           replace hx377_1 := (HB.out.cell (World.block_lt_of_cell? w _ hx377_1)).trans hx377_1
           replace hx377_2 := (HB.out.cell (World.block_lt_of_cell? w _ hx377_2)).trans hx377_2
           replace hx377_3 := (HB.out.cell (World.block_lt_of_cell? w _ hx377_3)).trans hx377_3
           replace p377 := eq_true p377
           replace q377 := eq_true q377
           try go_wp2_with (first | ((with_reducible refine gate_callee (f := 33) rfl ?_); refine goesL_ (some 64) rfl rfl Tryz.func33 (by kernel_rfl) rfl #[.agg #[.int .i64 ((rd_T33 l2 x12_2).f0), .int .u64 ((rd_T33 l2 x12_2).f1), .int .u64 ((rd_T33 l2 x12_2).f2), .bool ((rd_T33 l2 x12_2).f3)]] rfl mp_ ?_; (with_reducible refine (bodkinref07_Clean.calls k2 ((rd_T33 l2 x12_2).f0) ((rd_T33 l2 x12_2).f1) ((rd_T33 l2 x12_2).f2) ((rd_T33 l2 x12_2).f3) t378 t379 t380 t381 _ A27.out).mono ?_); rintro e w31 ⟨rfl, hb⟩; refine ⟨_, rfl, ?_⟩; have n0_ := Aside0.mk (Kd.R_below (rl_ HO_9) hb); have n1_ := Aside0.mk (Kd.R_below (rl_ HO_11) hb); have n2_ := Aside0.mk (blk_below (g := gb363) (o := .cells #[.int .i64 x364000_2, .int .u64 x364001_2, .int .u64 x364002_2, .bool x364003_2] 33 (0, 0)) (by (with_reducible repeat (first | refine blk_drewN ?_ _ | refine blk_drew ?_ | refine blk_alloc ?_ _)); exact BK363.out) hb); have n3_ := Aside0.mk (blk_below (g := gb370) (o := .cells #[.int .i64 t364, .string t365, .int .i64 t366, .string t367, .string t368, .bool t369] 25 (0, 0)) (by (with_reducible repeat (first | refine blk_drewN ?_ _ | refine blk_drew ?_ | refine blk_alloc ?_ _)); exact BK370.out) hb); have n4_ := Aside0.mk (below_step bs_ hb); clear HO_9; clear HO_11; clear BK363; clear BK370; clear HB; have HO_9 := n0_; have HO_11 := n1_; have BK363 := n2_; have BK370 := n3_; have HB := n4_; clear n0_ n1_ n2_ n3_ n4_; (try clear hb); (try clear hb2); (try clear hk); (try clear hi)) | ((with_reducible refine gate_builtin (b := .append) (xs := #[.tmp 59, .tmp 65]) rfl ?_); (try (refine gate_guard (by rfl) ?_; dsimp only)); at_builtin; refine Kd.R_append k33 (w0 := w) w.heap.size rfl (.tmp 59) (.tmp 65) 30 33 (.agg #[(.int .i64 0), (.int .u64 0), (.int .u64 0), (.bool false)]) 32 rfl Tryz.underlying30 info33 rfl (by decide) (by omega) u11 x11_2 (⟨t378, t379, t380, t381⟩ : S33) [.int .i64 t378, .int .u64 t379, .int .u64 t380, .bool t381] (fun k_ => k_ ≠ gb363) (fun _ => False) rfl rfl ?aP (fun _ hk => hk.elim) ?aF ?aO ?aB ?aS ?aL ?_; (case aP => exact k33_mkM _ _ _ (⟨t378, t379, t380, t381⟩ : S33)); (case aB => exact bs_); (case aF => exact (fun k_ hk => Kd.freshB (g := gb363) (o := .cells #[.int .i64 x364000_2, .int .u64 x364001_2, .int .u64 x364002_2, .bool x364003_2] 33 (0, 0)) (by (with_reducible repeat (first | refine blk_drewN ?_ _ | refine blk_drew ?_ | refine blk_alloc ?_ _)); exact BK363.out) k_ hk)); (case aO => exact (rl_ HO_11)); (case aS => exact (below_size bs_)); (case aL => have := LMc28.out; omega); intro v383 w32 ho hb hg hat; rw [← Ny382.out] at ho; have n0_ := Aside0.mk (Kd.R_over' (rl_ HO_9) (Kd.R_typed (rl_ HO_11)) (by decide) hg); have n1_ := Aside0.mk (blk_grown (g := gb363) (o := .cells #[.int .i64 x364000_2, .int .u64 x364001_2, .int .u64 x364002_2, .bool x364003_2] 33 (0, 0)) (by (with_reducible repeat (first | refine blk_drewN ?_ _ | refine blk_drew ?_ | refine blk_alloc ?_ _)); exact BK363.out) hg (Kd.R_away HO_11.out (fun _ hk => hk))); have n2_ := Aside0.mk (blk_grown (g := gb370) (o := .cells #[.int .i64 t364, .string t365, .int .i64 t366, .string t367, .string t368, .bool t369] 25 (0, 0)) (by (with_reducible repeat (first | refine blk_drewN ?_ _ | refine blk_drew ?_ | refine blk_alloc ?_ _)); exact BK370.out) hg (Kd.R_ne HO_11.out BK370.out (by decide))); have n3_ := Aside0.mk (hb); have n4_ := Aside0.mk (ho); clear HO_9; clear BK363; clear BK370; clear HB; clear HO_11; have HO_9 := n0_; have BK363 := n1_; have BK370 := n2_; have HB := n3_; have HO384 := n4_; clear n0_ n1_ n2_ n3_ n4_; clear ho hb hg hat))
           go_roundg k2
           case measure => have := HJ6.out; have := HK2.out; omega
           case rel => exact ⟨(y382), (wrap64 (x12_2 + 1)), (x364000_2), (x364001_2), (x364002_2), (x364003_2), rs_, H', ⟨by have := HJ6.out; have := HK2.out; omega⟩, ⟨rl_ HO_9⟩, ⟨rl_ HO384⟩, ⟨by (with_reducible repeat (first | refine blk_drewN ?_ _ | refine blk_drew ?_ | refine blk_alloc ?_ _)); exact BK363.out⟩, ⟨by (with_reducible repeat (first | refine blk_drewN ?_ _ | refine blk_drew ?_ | refine blk_alloc ?_ _)); exact BK370.out⟩, ⟨bs_⟩⟩
          ·rw [if_neg c28] at H
           exact absurd H (by simp)
         ·rw [if_neg c26] at H
          have c26b0 : (((rd_T33 l2 x12_2).f0) == (rd t371 x12_2)) = false := beq_eq_false_iff_ne.mpr c26
          have c26b1 : (((rd_T33 l2 x12_2).f0) != (rd t371 x12_2)) = true := bne_iff_ne.mpr c26
          simp only [Option.some.injEq, Prod.mk.injEq] at H
          obtain ⟨rfl, rfl, rfl, rfl, rfl⟩ := H
          try go_wp2
          have n0_ := Aside0.mk (Kd.R_drew HO_9.out)
          have n1_ := Aside0.mk (Kd.R_drew HO_11.out)
          have n2_ := Aside0.mk (blk_drew BK363.out)
          have n3_ := Aside0.mk (blk_drew BK370.out)
          have n4_ := Aside0.mk (below_drew1 HB.out)
          clear HO_9
          clear HO_11
          clear BK363
          clear BK370
          clear HB
          have HO_9 := n0_
          have HO_11 := n1_
          have BK363 := n2_
          have BK370 := n3_
          have HB := n4_
          clear n0_ n1_ n2_ n3_ n4_
          have p375 : 0 ≤ (x12_2 : Int) := od_
          have q375 : x12_2 < (l2.length : Int) := od_
          obtain ⟨ad375, e375, hx375_0, hx375_1, hx375_2, hx375_3⟩ := at_T33 HR2.out x12_2 p375 q375
          have hw375_3 := hx375_3
          have hw375_2 := hx375_2
          have hw375_1 := hx375_1
          have hw375_0 := hx375_0
          cases e375
          replace hx375_0 := (HB.out.cell (World.block_lt_of_cell? w _ hx375_0)).trans hx375_0
          replace hx375_1 := (HB.out.cell (World.block_lt_of_cell? w _ hx375_1)).trans hx375_1
          replace hx375_2 := (HB.out.cell (World.block_lt_of_cell? w _ hx375_2)).trans hx375_2
          replace hx375_3 := (HB.out.cell (World.block_lt_of_cell? w _ hx375_3)).trans hx375_3
          replace p375 := eq_true p375
          replace q375 := eq_true q375
          obtain ⟨Ao34, co34, eo34⟩ := Kd.R_slice HO_9.out
          (first | subst eo34 | (injection eo34 with f1_ f2_ f3_; have f4_ := f1_.symm; have f5_ := f3_.symm; clear f1_ f2_ f3_; subst f4_; subst f5_))
          have p376 : 0 ≤ (x12_2 : Int) := od_
          have q376 : x12_2 < (t371.length : Int) := od_
          try (obtain ⟨ga_, ca_, hva_, _, _⟩ := Kd.R_reads HO_9.out; subst hva_)
          obtain ⟨ad376, e376, hx376_0⟩ := Kd.at_int (Kd.R_reads' HO_9.out).2.2 x12_2 p376 q376
          cases e376
          replace p376 := eq_true p376
          replace q376 := eq_true q376
          refine start_ (n := 10) (S := fun w' => w'.cell? (ad375.add ((x12_2).toNat * 4)) = some (.int .i64 ((rd_T33 l2 x12_2).f0)) ∧ w'.cell? ⟨(ad375.add ((x12_2).toNat * 4)).block, (ad375.add ((x12_2).toNat * 4)).off + 1, none⟩ = some (.int .u64 ((rd_T33 l2 x12_2).f1)) ∧ w'.cell? ⟨(ad375.add ((x12_2).toNat * 4)).block, (ad375.add ((x12_2).toNat * 4)).off + 2, none⟩ = some (.int .u64 ((rd_T33 l2 x12_2).f2)) ∧ w'.cell? ⟨(ad375.add ((x12_2).toNat * 4)).block, (ad375.add ((x12_2).toNat * 4)).off + 3, none⟩ = some (.bool ((rd_T33 l2 x12_2).f3)) ∧ w'.cell? (ad376.add (x12_2).toNat) = some (.int .i64 (rd t371 x12_2))) (ds := []) #[false, false, false, false, false, false, false, false, false, false] (by kernel_rfl) rfl rfl ⟨((HB.out.cell (World.block_lt_of_cell? w _ hw375_0)).trans hw375_0), ((HB.out.cell (World.block_lt_of_cell? w _ hw375_1)).trans hw375_1), ((HB.out.cell (World.block_lt_of_cell? w _ hw375_2)).trans hw375_2), ((HB.out.cell (World.block_lt_of_cell? w _ hw375_3)).trans hw375_3), hx376_0⟩ (fun hHeld => ?_); refine with_tabW bodkinref07_Do.tab10 bodkinref07_Do.bits10 (fun HT_ HW_ => ?_)
          generalize wr.drew = w33 at HO_9 HO_11 BK363 BK370 HB hx375_0 hx375_1 hx375_2 hx375_3 hx376_0 hHeld ⊢
          refine pure_ (i := 0) (N := some 48) (v := ?_) (a' := ?_) #[true, false, false, false, false, false, false, false, false, false] rfl rfl (any_of HT_.out (by kernel_rfl)) (fun _ _ _ h => h) (Or.inl ⟨by rfl, ?_⟩) ?_ ?_
          rotate_left
          ·intro w'
           go_simp
           with_reducible rfl
          rotate_left
          ·simp only [Act.put, List.setIfInBounds_toArray, List.set_cons_zero, List.set_cons_succ, i64_w, i32_w]
           rfl
          refine pure_ (i := 1) (N := some 49) (v := ?_) (a' := ?_) #[true, true, false, false, false, false, false, false, false, false] rfl rfl (any_of HT_.out (by kernel_rfl)) (fun _ _ _ h => h) (Or.inl ⟨by rfl, ?_⟩) ?_ ?_
          rotate_left
          ·intro w'
           go_simp
           with_reducible rfl
          rotate_left
          ·simp only [Act.put, List.setIfInBounds_toArray, List.set_cons_zero, List.set_cons_succ, i64_w, i32_w]
           rfl
          refine pure_ (i := 2) (N := some 50) (v := ?_) (a' := ?_) #[true, true, true, false, false, false, false, false, false, false] rfl rfl (any_of HT_.out (by kernel_rfl)) (fun _ _ _ h => h) (Or.inl ⟨by rfl, ?_⟩) ?_ ?_
          rotate_left
          ·intro w'
           go_simp
           with_reducible rfl
          rotate_left
          ·simp only [Act.put, List.setIfInBounds_toArray, List.set_cons_zero, List.set_cons_succ, i64_w, i32_w]
           rfl
          refine pure_ (i := 3) (N := some 51) (v := ?_) (a' := ?_) #[true, true, true, true, false, false, false, false, false, false] rfl rfl (any_of HT_.out (by kernel_rfl)) (fun _ _ _ h => h) (Or.inl ⟨by rfl, ?_⟩) ?_ ?_
          rotate_left
          ·intro w'
           go_simp
           with_reducible rfl
          rotate_left
          ·simp only [Act.put, List.setIfInBounds_toArray, List.set_cons_zero, List.set_cons_succ, i64_w, i32_w]
           rfl
          refine pure_ (i := 5) (N := some 53) (v := ?_) (a' := ?_) #[true, true, true, true, false, true, false, false, false, false] rfl rfl (any_of HT_.out (by kernel_rfl)) (fun _ _ _ h => h) (Or.inl ⟨by rfl, ?_⟩) ?_ ?_
          rotate_left
          ·intro w'
           go_simp
           with_reducible rfl
          rotate_left
          ·simp only [Act.put, List.setIfInBounds_toArray, List.set_cons_zero, List.set_cons_succ, i64_w, i32_w]
           rfl
          refine pure_ (i := 6) (N := some 54) (v := ?_) (a' := ?_) #[true, true, true, true, false, true, true, false, false, false] rfl rfl (any_of HT_.out (by kernel_rfl)) (fun _ _ _ h => h) (Or.inl ⟨by rfl, ?_⟩) ?_ ?_
          rotate_left
          ·intro w'
           go_simp
           with_reducible rfl
          rotate_left
          ·simp only [Act.put, List.setIfInBounds_toArray, List.set_cons_zero, List.set_cons_succ, i64_w, i32_w]
           rfl
          refine pure_ (i := 7) (N := some 55) (v := ?_) (a' := ?_) #[true, true, true, true, false, true, true, true, false, false] rfl rfl (any_of HT_.out (by kernel_rfl)) (fun _ _ _ h => h) (Or.inl ⟨by rfl, ?_⟩) ?_ ?_
          rotate_left
          ·intro w'
           go_simp
           with_reducible rfl
          rotate_left
          ·simp only [Act.put, List.setIfInBounds_toArray, List.set_cons_zero, List.set_cons_succ, i64_w, i32_w]
           rfl
          refine take_ (i := 4) (N := some 52) (v := ?_) (a' := ?_) #[true, true, true, true, true, true, true, true, false, false] rfl rfl (take_ofW HT_.out HW_.out (by kernel_rfl)) (fun _ _ _ h => h) (Or.inl ⟨by rfl, ?_⟩) hHeld ?_ ?_
          rotate_left
          ·rintro w' ⟨s0, s1, s2, s3, s4⟩
           go_simp
           with_reducible rfl
          rotate_left
          ·simp only [Act.put, List.setIfInBounds_toArray, List.set_cons_zero, List.set_cons_succ, i64_w, i32_w]
           rfl
          refine take_ (i := 8) (N := some 56) (v := ?_) (a' := ?_) #[true, true, true, true, true, true, true, true, true, false] rfl rfl (take_ofW HT_.out HW_.out (by kernel_rfl)) (fun _ _ _ h => h) (Or.inl ⟨by rfl, ?_⟩) hHeld ?_ ?_
          rotate_left
          ·rintro w' ⟨s0, s1, s2, s3, s4⟩
           go_simp
           with_reducible rfl
          rotate_left
          ·simp only [Act.put, List.setIfInBounds_toArray, List.set_cons_zero, List.set_cons_succ, i64_w, i32_w]
           rfl
          refine pure_ (i := 9) (N := some 57) (v := ?_) (a' := ?_) #[true, true, true, true, true, true, true, true, true, true] rfl rfl (any_of HT_.out (by kernel_rfl)) (fun _ _ _ h => h) (Or.inl ⟨by rfl, ?_⟩) ?_ ?_
          rotate_left
          ·intro w'
           go_simp
           with_reducible rfl
          rotate_left
          ·simp only [Act.put, List.setIfInBounds_toArray, List.set_cons_zero, List.set_cons_succ, i64_w, i32_w]
           rfl
          refine done_ (done_of HT_.out (by kernel_rfl)) ?_
          have hnb35 := NB363_370.out
          have hnc35 := NB370_363.out
          have hcz36_0 : w33.cell? ⟨gb363, 0, none⟩ = some (.int .i64 x364000_2) := (blk_cell BK363.out 0).trans rfl
          have hcz36_1 : w33.cell? ⟨gb363, 1, none⟩ = some (.int .u64 x364001_2) := (blk_cell BK363.out 1).trans rfl
          have hcz36_2 : w33.cell? ⟨gb363, 2, none⟩ = some (.int .u64 x364002_2) := (blk_cell BK363.out 2).trans rfl
          have hcz36_3 : w33.cell? ⟨gb363, 3, none⟩ = some (.bool x364003_2) := (blk_cell BK363.out 3).trans rfl
          have hfz36_0 := blk_frozen BK363.out 0
          have hfz36_1 := blk_frozen BK363.out 1
          have hfz36_2 := blk_frozen BK363.out 2
          have hfz36_3 := blk_frozen BK363.out 3
          try go_wp2
          refine bodyPost_ret (results_ct rfl _ _ gb363 33 #[.int .i64 0, .int .u64 0, .int .u64 0, .bool false] (0, 0) _ rfl (by (with_reducible repeat (first | refine blk_drewN ?_ _ | refine blk_drew ?_ | refine blk_alloc ?_ _)); refine blk_put (cs := #[.int .i64 0, .int .u64 0, .int .u64 0, .bool x364003_2]) ?_ 3 _ rfl; (with_reducible repeat (first | refine blk_drewN ?_ _ | refine blk_drew ?_ | refine blk_alloc ?_ _)); refine blk_put (cs := #[.int .i64 0, .int .u64 0, .int .u64 x364002_2, .bool x364003_2]) ?_ 2 _ rfl; (with_reducible repeat (first | refine blk_drewN ?_ _ | refine blk_drew ?_ | refine blk_alloc ?_ _)); refine blk_put (cs := #[.int .i64 0, .int .u64 x364001_2, .int .u64 x364002_2, .bool x364003_2]) ?_ 1 _ rfl; (with_reducible repeat (first | refine blk_drewN ?_ _ | refine blk_drew ?_ | refine blk_alloc ?_ _)); refine blk_put (cs := #[.int .i64 x364000_2, .int .u64 x364001_2, .int .u64 x364002_2, .bool x364003_2]) ?_ 0 _ rfl; (with_reducible repeat (first | refine blk_drewN ?_ _ | refine blk_drew ?_ | refine blk_alloc ?_ _)); exact BK363.out) Tryz.underlying33 rfl (by kernel_rfl)) rfl ?_
          exact ⟨er_, bs_⟩
        ·rw [if_neg c25] at H
         exact absurd H (by simp)
       ·rw [if_neg c24] at H
        exact absurd H (by simp)
      ·rw [if_neg c23] at H
       have c23b0 : decide (x12_2 < (l2.length : Int)) = false := decide_eq_false c23
       clear c23
       by_cases c37 : a0 ≥ 64768
       ·rw [if_pos c37] at H
        exact absurd H (by simp)
       ·rw [if_neg c37] at H
        have c37b0 : decide (64768 ≤ a0) = false := decide_eq_false c37
        clear c37
        have HC38 := Aside0.mk H
        clear H
        obtain ⟨Ao39, co39, eo39⟩ := Kd.R_slice HO_11.out
        subst eo39
        go_upto_if 77 with (fail)
        go_cut [13] (fun v13 wc => ∃ (kq : Nat) (x13_37 : Int), v13 = .int .u64 x13_37 ∧ Aside0 (bodkinref07_Do.j2 kq t371 x11_2 x13_37 t364 t365 t366 t367 t368 t369 = some (r1, r2, r3, r4, r5)) ∧ Aside0 (kq ≤ k2) ∧ Aside0 (Kd.R (Kd.int .i64) 3 wc w.heap.size (fun _ => True) v372 t371) ∧ Aside0 (Kd.R k33 33 wc w.heap.size (fun k_ => k_ ≠ gb363) (.slice Ao39 x11_2.length co39) x11_2) ∧ Aside0 (wc.heap[gb363]? = some (.cells #[.int .i64 x364000_2, .int .u64 x364001_2, .int .u64 x364002_2, .bool x364003_2] 33 (0, 0))) ∧ Aside0 (wc.heap[gb370]? = some (.cells #[.int .i64 t364, .string t365, .int .i64 t366, .string t367, .string t368, .bool t369] 25 (0, 0))) ∧ Aside0 (Below w.heap.size w wc))
        case first =>
         have H := HC38.out
         clear HC38
         by_cases c40 : (x11_2.length : Int) = 2
         ·rw [if_pos c40] at H
          have c40b0 : ((x11_2.length : Int) == 2) = true := beq_iff_eq.mpr c40
          have c40b1 : ((x11_2.length : Int) != 2) = false := bne_eq_false_iff_eq.mpr c40
          clear c40
          (first | rw [c40b0] | (simp only [i64_w, i32_w]; rw [c40b0]) | skip)
          by_cases c41 : 1 < (x11_2.length : Int)
          ·rw [if_pos c41] at H
           have c41b0 : decide (1 < (x11_2.length : Int)) = true := decide_eq_true c41
           have c41b1 : decide (1 < x11_2.length) = true := decide_eq_true (by omega)
           clear c41
           have H' := Aside0.mk H
           clear H
           have p385 : 0 ≤ (1 : Int) := (by omega)
           have q385 : 1 < (x11_2.length : Int) := od_
           obtain ⟨ad385, e385, hx385_0, hx385_1, hx385_2, hx385_3⟩ := at_T33 (Kd.R_reads' HO_11.out).2.2 1 p385 q385
           cases e385
           (try simp only [show (1 : Int).toNat = 1 from rfl, Nat.reduceMul, Nat.reduceEqDiff, Go.Addr.add, ↓reduceIte] at hx385_0)
           (try simp only [show (1 : Int).toNat = 1 from rfl, Nat.reduceMul, Nat.reduceEqDiff, Go.Addr.add, ↓reduceIte] at hx385_1)
           (try simp only [show (1 : Int).toNat = 1 from rfl, Nat.reduceMul, Nat.reduceEqDiff, Go.Addr.add, ↓reduceIte] at hx385_2)
           (try simp only [show (1 : Int).toNat = 1 from rfl, Nat.reduceMul, Nat.reduceEqDiff, Go.Addr.add, ↓reduceIte] at hx385_3)
           have qi385 : (1 < x11_2.length) = True := eq_true (by omega)
           (try rw [show ((1 : Int)).toNat = 1 from rfl] at hx385_0)
           (try rw [show 1 * 4 = 4 from rfl] at hx385_0)
           (try rw [show ((1 : Int)).toNat = 1 from rfl] at hx385_1)
           (try rw [show 1 * 4 = 4 from rfl] at hx385_1)
           (try rw [show ((1 : Int)).toNat = 1 from rfl] at hx385_2)
           (try rw [show 1 * 4 = 4 from rfl] at hx385_2)
           (try rw [show ((1 : Int)).toNat = 1 from rfl] at hx385_3)
           (try rw [show 1 * 4 = 4 from rfl] at hx385_3)
           replace p385 := eq_true p385
           replace q385 := eq_true q385
           go_wp2
           go_meet
           case rel => exact ⟨_, ((rd_T33 x11_2 1).f1), rs_, H', ⟨by have := HJ6.out; have := HK2.out; first | omega | exact Nat.le_refl _⟩, ⟨rl_ HO_9⟩, ⟨rl_ HO_11⟩, ⟨by (with_reducible repeat (first | refine blk_drewN ?_ _ | refine blk_drew ?_ | refine blk_alloc ?_ _)); exact BK363.out⟩, ⟨by (with_reducible repeat (first | refine blk_drewN ?_ _ | refine blk_drew ?_ | refine blk_alloc ?_ _)); exact BK370.out⟩, ⟨bs_⟩⟩
          ·rw [if_neg c41] at H
           exact absurd H (by simp)
         ·rw [if_neg c40] at H
          have c40b0 : ((x11_2.length : Int) == 2) = false := beq_eq_false_iff_ne.mpr c40
          have c40b1 : ((x11_2.length : Int) != 2) = true := bne_iff_ne.mpr c40
          (first | rw [c40b0] | (simp only [i64_w, i32_w]; rw [c40b0]) | skip)
          have H' := Aside0.mk H
          clear H
          go_wp2
          go_meet
          case rel => exact ⟨_, (0), rs_, H', ⟨by have := HJ6.out; have := HK2.out; first | omega | exact Nat.le_refl _⟩, ⟨rl_ HO_9⟩, ⟨rl_ HO_11⟩, ⟨by (with_reducible repeat (first | refine blk_drewN ?_ _ | refine blk_drew ?_ | refine blk_alloc ?_ _)); exact BK363.out⟩, ⟨by (with_reducible repeat (first | refine blk_drewN ?_ _ | refine blk_drew ?_ | refine blk_alloc ?_ _)); exact BK370.out⟩, ⟨bs_⟩⟩
        case rest =>
         clear HC38
         (try clear c1); (try clear c2); (try clear p2); (try clear c3); (try clear p3); (try clear q3); (try clear hx3); (try clear qi3); (try clear c4); (try clear p6); (try clear c11); (try clear c13); (try clear c15); (try clear c16); (try clear c16b0); (try clear c16b1); (try clear c16b2); (try clear c17); (try clear c17b0); (try clear c18); (try clear c20); (try clear c21); (try clear c23); (try clear c23b0); (try clear c24); (try clear c24b0); (try clear c25); (try clear c25b0); (try clear c26); (try clear c26b0); (try clear c26b1); (try clear c28); (try clear c33); (try clear c35); (try clear c37); (try clear c37b0); (try clear p37); (try clear q37); (try clear hx37); (try clear p38); (try clear q38); (try clear hx38); (try clear qi38); (try clear c40); (try clear c40b0); (try clear c40b1); (try clear c41); (try clear c41b0); (try clear c41b1); (try clear hcz12_0); (try clear hcz12_1); (try clear hcz12_2); (try clear hcz12_3); (try clear hcz12_4); (try clear hcz12_5); (try clear hcz22_0); (try clear hcz22_1); (try clear hcz22_2); (try clear hcz22_3); (try clear hcz36_0); (try clear hcz36_1); (try clear hcz36_2); (try clear hcz36_3); (try clear hfz12_0); (try clear hfz12_1); (try clear hfz12_2); (try clear hfz12_3); (try clear hfz12_4); (try clear hfz12_5); (try clear hfz22_0); (try clear hfz22_1); (try clear hfz22_2); (try clear hfz22_3); (try clear hfz36_0); (try clear hfz36_1); (try clear hfz36_2); (try clear hfz36_3); (try clear hx375_0); (try clear hx375_1); (try clear hx375_2); (try clear hx375_3); (try clear hx376_0); (try clear hx377_0); (try clear hx377_1); (try clear hx377_2); (try clear hx377_3); (try clear hx385_0); (try clear hx385_1); (try clear hx385_2); (try clear hx385_3); (try clear p2); (try clear p375); (try clear p376); (try clear p377); (try clear p385); (try clear q375); (try clear q376); (try clear q377); (try clear q385)
         obtain ⟨kq, x13_37, rfl, HA, HJ37, HO_9, HO_11, BK363, BK370, HB⟩ := hcut
         cases kq with
         | zero => exact absurd HA.out (by simp [bodkinref07_Do.j2])
         | succ kj37 =>
          have H := HA.out
          clear HA
          simp only [bodkinref07_Do.j2] at H
          by_cases c42 : 0 ≤ 1
          ·rw [if_pos c42] at H
           have c42b0 := eq_true c42
           have c42b1 : decide (0 ≤ 1) = true := decide_eq_true c42
           clear c42
           by_cases c43 : 1 ≤ (t365.size : Int)
           ·rw [if_pos c43] at H
            have c43b0 := eq_true c43
            have c43b1 : decide (1 ≤ (t365.size : Int)) = true := decide_eq_true c43
            clear c43
            by_cases c44 : 0 < (t371.length : Int)
            ·rw [if_pos c44] at H
             have c44b0 : decide (0 < (t371.length : Int)) = true := decide_eq_true c44
             have c44b1 : decide (0 < t371.length) = true := decide_eq_true (by omega)
             clear c44
             replace H := Option.bind_eq_some_iff.mp H
             obtain ⟨t387, A450, H⟩ := H
             replace H : ((bodkinref05_Types.f kj37 t368).bind fun t388 => (if 0 < (t388.length : Int) then (if 4 ≤ (t365.size : Int) then (if 0 < (x11_2.length : Int) then ((bodkinref07_worked.f kj37 (t365.extract 0 1) t387 (rd t388 0) (t365.extract 4 t365.size) ((rd_T33 x11_2 0).f1) x13_37).bind fun bt393 => (if bt393.2 = 0 then ((bodkinref05_Types.f kj37 t368).bind fun t395 => (if 0 < (t395.length : Int) then ((bodkinref07_Clean.f kj37 (rd t395 0) bt393.1 0 false).bind fun bt399 => (some (bt399.1, bt399.2.1, bt399.2.2.1, bt399.2.2.2, 0))) else (none))) else (some (0, 0, 0, false, bt393.2)))) else (none)) else (none)) else (none))) = some (r1, r2, r3, r4, r5) := H
             have A45 := Aside0.mk A450
             clear A450
             replace H := Option.bind_eq_some_iff.mp H
             obtain ⟨t388, A460, H⟩ := H
             replace H : (if 0 < (t388.length : Int) then (if 4 ≤ (t365.size : Int) then (if 0 < (x11_2.length : Int) then ((bodkinref07_worked.f kj37 (t365.extract 0 1) t387 (rd t388 0) (t365.extract 4 t365.size) ((rd_T33 x11_2 0).f1) x13_37).bind fun bt393 => (if bt393.2 = 0 then ((bodkinref05_Types.f kj37 t368).bind fun t395 => (if 0 < (t395.length : Int) then ((bodkinref07_Clean.f kj37 (rd t395 0) bt393.1 0 false).bind fun bt399 => (some (bt399.1, bt399.2.1, bt399.2.2.1, bt399.2.2.2, 0))) else (none))) else (some (0, 0, 0, false, bt393.2)))) else (none)) else (none)) else (none)) = some (r1, r2, r3, r4, r5) := H
             have A46 := Aside0.mk A460
             clear A460
             by_cases c47 : 0 < (t388.length : Int)
             ·rw [if_pos c47] at H
              have c47b0 : decide (0 < (t388.length : Int)) = true := decide_eq_true c47
              have c47b1 : decide (0 < t388.length) = true := decide_eq_true (by omega)
              clear c47
              by_cases c48 : 4 ≤ (t365.size : Int)
              ·rw [if_pos c48] at H
               have c48b0 := eq_true c48
               have c48b1 : decide (4 ≤ (t365.size : Int)) = true := decide_eq_true c48
               clear c48
               by_cases c49 : 0 < (x11_2.length : Int)
               ·rw [if_pos c49] at H
                have c49b0 : decide (0 < (x11_2.length : Int)) = true := decide_eq_true c49
                have c49b1 : decide (0 < x11_2.length) = true := decide_eq_true (by omega)
                clear c49
                replace H := Option.bind_eq_some_iff.mp H
                obtain ⟨⟨t393, t394⟩, A500, H⟩ := H
                replace H : (if t394 = 0 then ((bodkinref05_Types.f kj37 t368).bind fun t395 => (if 0 < (t395.length : Int) then ((bodkinref07_Clean.f kj37 (rd t395 0) t393 0 false).bind fun bt399 => (some (bt399.1, bt399.2.1, bt399.2.2.1, bt399.2.2.2, 0))) else (none))) else (some (0, 0, 0, false, t394))) = some (r1, r2, r3, r4, r5) := H
                have A50 := Aside0.mk A500
                clear A500
                by_cases c51 : t394 = 0
                ·rw [if_pos c51] at H
                 have c51b0 : (t394 == 0) = true := beq_iff_eq.mpr c51
                 have c51b1 : (t394 != 0) = false := bne_eq_false_iff_eq.mpr c51
                 clear c51
                 replace H := Option.bind_eq_some_iff.mp H
                 obtain ⟨t395, A520, H⟩ := H
                 replace H : (if 0 < (t395.length : Int) then ((bodkinref07_Clean.f kj37 (rd t395 0) t393 0 false).bind fun bt399 => (some (bt399.1, bt399.2.1, bt399.2.2.1, bt399.2.2.2, 0))) else (none)) = some (r1, r2, r3, r4, r5) := H
                 have A52 := Aside0.mk A520
                 clear A520
                 by_cases c53 : 0 < (t395.length : Int)
                 ·rw [if_pos c53] at H
                  have c53b0 : decide (0 < (t395.length : Int)) = true := decide_eq_true c53
                  have c53b1 : decide (0 < t395.length) = true := decide_eq_true (by omega)
                  clear c53
                  replace H := Option.bind_eq_some_iff.mp H
                  obtain ⟨⟨t399, t400, t401, t402⟩, A540, H⟩ := H
                  replace H : (some (t399, t400, t401, t402, 0)) = some (r1, r2, r3, r4, r5) := H
                  have A54 := Aside0.mk A540
                  clear A540
                  simp only [Option.some.injEq, Prod.mk.injEq] at H
                  obtain ⟨rfl, rfl, rfl, rfl, rfl⟩ := H
                  try go_wp2
                  have n0_ := Aside0.mk (Kd.R_drew HO_9.out)
                  have n1_ := Aside0.mk (Kd.R_drew HO_11.out)
                  have n2_ := Aside0.mk (blk_drew BK363.out)
                  have n3_ := Aside0.mk (blk_drew BK370.out)
                  have n4_ := Aside0.mk (below_drew1 HB.out)
                  clear HO_9
                  clear HO_11
                  clear BK363
                  clear BK370
                  clear HB
                  have HO_9 := n0_
                  have HO_11 := n1_
                  have BK363 := n2_
                  have BK370 := n3_
                  have HB := n4_
                  clear n0_ n1_ n2_ n3_ n4_
                  obtain ⟨Ao56, co56, eo56⟩ := Kd.R_slice HO_9.out
                  (first | subst eo56 | (injection eo56 with f1_ f2_ f3_; have f4_ := f1_.symm; have f5_ := f3_.symm; clear f1_ f2_ f3_; subst f4_; subst f5_))
                  have p386 : 0 ≤ (0 : Int) := (by omega)
                  have q386 : 0 < (t371.length : Int) := od_
                  try (obtain ⟨ga_, ca_, hva_, _, _⟩ := Kd.R_reads HO_9.out; subst hva_)
                  obtain ⟨ad386, e386, hx386_0⟩ := Kd.at_int (Kd.R_reads' HO_9.out).2.2 0 p386 q386
                  cases e386
                  have qi386 : (0 < t371.length) = True := eq_true (by omega)
                  (try rw [show ((0 : Int)).toNat = 0 from rfl] at hx386_0)
                  (try rw [Addr.add_zero'] at hx386_0)
                  replace p386 := eq_true p386
                  replace q386 := eq_true q386
                  have p392 : 0 ≤ (0 : Int) := (by omega)
                  have q392 : 0 < (x11_2.length : Int) := od_
                  obtain ⟨ad392, e392, hx392_0, hx392_1, hx392_2, hx392_3⟩ := at_T33 (Kd.R_reads' HO_11.out).2.2 0 p392 q392
                  cases e392
                  have qi392 : (0 < x11_2.length) = True := eq_true (by omega)
                  (try rw [show ((0 : Int)).toNat = 0 from rfl] at hx392_0)
                  (try rw [show 0 * 4 = 0 from rfl] at hx392_0)
                  (try rw [Addr.add_zero'] at hx392_0)
                  (try rw [show ((0 : Int)).toNat = 0 from rfl] at hx392_1)
                  (try rw [show 0 * 4 = 0 from rfl] at hx392_1)
                  (try rw [Addr.add_zero'] at hx392_1)
                  (try rw [show ((0 : Int)).toNat = 0 from rfl] at hx392_2)
                  (try rw [show 0 * 4 = 0 from rfl] at hx392_2)
                  (try rw [Addr.add_zero'] at hx392_2)
                  (try rw [show ((0 : Int)).toNat = 0 from rfl] at hx392_3)
                  (try rw [show 0 * 4 = 0 from rfl] at hx392_3)
                  (try rw [Addr.add_zero'] at hx392_3)
                  replace p392 := eq_true p392
                  replace q392 := eq_true q392
                  refine start_ (n := 26) (S := fun w' => w'.cell? ⟨gb370, 0, none⟩ = some (.int .i64 t364) ∧ w'.cell? ⟨gb370, 1, none⟩ = some (.string t365) ∧ w'.cell? ⟨gb370, 2, none⟩ = some (.int .i64 t366) ∧ w'.cell? ⟨gb370, 3, none⟩ = some (.string t367) ∧ w'.cell? ⟨gb370, 4, none⟩ = some (.string t368) ∧ w'.cell? ⟨gb370, 5, none⟩ = some (.bool t369) ∧ w'.cell? ad386 = some (.int .i64 (rd t371 0)) ∧ w'.cell? ad392 = some (.int .i64 ((rd_T33 x11_2 0).f0)) ∧ w'.cell? ⟨ad392.block, ad392.off + 1, none⟩ = some (.int .u64 ((rd_T33 x11_2 0).f1)) ∧ w'.cell? ⟨ad392.block, ad392.off + 2, none⟩ = some (.int .u64 ((rd_T33 x11_2 0).f2)) ∧ w'.cell? ⟨ad392.block, ad392.off + 3, none⟩ = some (.bool ((rd_T33 x11_2 0).f3))) (ds := []) #[false, false, false, false, false, false, false, false, false, false, false, false, false, false, false, false, false, false, false, false, false, false, false, false, false, false] (by kernel_rfl) rfl rfl ⟨(blk_cell BK370.out 0).trans rfl, (blk_cell BK370.out 1).trans rfl, (blk_cell BK370.out 2).trans rfl, (blk_cell BK370.out 3).trans rfl, (blk_cell BK370.out 4).trans rfl, (blk_cell BK370.out 5).trans rfl, hx386_0, hx392_0, hx392_1, hx392_2, hx392_3⟩ (fun hHeld => ?_); refine with_tabW bodkinref07_Do.tab18 bodkinref07_Do.bits18 (fun HT_ HW_ => ?_)
                  generalize wc.drew = w55 at HO_9 HO_11 BK363 BK370 HB hx386_0 hx392_0 hx392_1 hx392_2 hx392_3 hHeld ⊢
                  refine pure_ (i := 0) (N := some 83) (v := ?_) (a' := ?_) #[true, false, false, false, false, false, false, false, false, false, false, false, false, false, false, false, false, false, false, false, false, false, false, false, false, false] rfl rfl (any_of HT_.out (by kernel_rfl)) (fun _ _ _ h => h) (Or.inl ⟨by rfl, ?_⟩) ?_ ?_
                  rotate_left
                  ·intro w'
                   go_simp
                   with_reducible rfl
                  rotate_left
                  ·simp only [Act.put, List.setIfInBounds_toArray, List.set_cons_zero, List.set_cons_succ, i64_w, i32_w]
                   rfl
                  refine pure_ (i := 3) (N := some 86) (v := ?_) (a' := ?_) #[true, false, false, true, false, false, false, false, false, false, false, false, false, false, false, false, false, false, false, false, false, false, false, false, false, false] rfl rfl (any_of HT_.out (by kernel_rfl)) (fun _ _ _ h => h) (Or.inl ⟨by rfl, ?_⟩) ?_ ?_
                  rotate_left
                  ·intro w'
                   go_simp
                   with_reducible rfl
                  rotate_left
                  ·simp only [Act.put, List.setIfInBounds_toArray, List.set_cons_zero, List.set_cons_succ, i64_w, i32_w]
                   rfl
                  refine pure_ (i := 4) (N := some 87) (v := ?_) (a' := ?_) #[true, false, false, true, true, false, false, false, false, false, false, false, false, false, false, false, false, false, false, false, false, false, false, false, false, false] rfl rfl (any_of HT_.out (by kernel_rfl)) (fun _ _ _ h => h) (Or.inl ⟨by rfl, ?_⟩) ?_ ?_
                  rotate_left
                  ·intro w'
                   go_simp
                   with_reducible rfl
                  rotate_left
                  ·simp only [Act.put, List.setIfInBounds_toArray, List.set_cons_zero, List.set_cons_succ, i64_w, i32_w]
                   rfl
                  refine pure_ (i := 7) (N := some 90) (v := ?_) (a' := ?_) #[true, false, false, true, true, false, false, true, false, false, false, false, false, false, false, false, false, false, false, false, false, false, false, false, false, false] rfl rfl (any_of HT_.out (by kernel_rfl)) (fun _ _ _ h => h) (Or.inl ⟨by rfl, ?_⟩) ?_ ?_
                  rotate_left
                  ·intro w'
                   go_simp
                   with_reducible rfl
                  rotate_left
                  ·simp only [Act.put, List.setIfInBounds_toArray, List.set_cons_zero, List.set_cons_succ, i64_w, i32_w]
                   rfl
                  refine pure_ (i := 12) (N := some 95) (v := ?_) (a' := ?_) #[true, false, false, true, true, false, false, true, false, false, false, false, true, false, false, false, false, false, false, false, false, false, false, false, false, false] rfl rfl (any_of HT_.out (by kernel_rfl)) (fun _ _ _ h => h) (Or.inl ⟨by rfl, ?_⟩) ?_ ?_
                  rotate_left
                  ·intro w'
                   go_simp
                   with_reducible rfl
                  rotate_left
                  ·simp only [Act.put, List.setIfInBounds_toArray, List.set_cons_zero, List.set_cons_succ, i64_w, i32_w]
                   rfl
                  refine pure_ (i := 15) (N := some 98) (v := ?_) (a' := ?_) #[true, false, false, true, true, false, false, true, false, false, false, false, true, false, false, true, false, false, false, false, false, false, false, false, false, false] rfl rfl (any_of HT_.out (by kernel_rfl)) (fun _ _ _ h => h) (Or.inl ⟨by rfl, ?_⟩) ?_ ?_
                  rotate_left
                  ·intro w'
                   go_simp
                   with_reducible rfl
                  rotate_left
                  ·simp only [Act.put, List.setIfInBounds_toArray, List.set_cons_zero, List.set_cons_succ, i64_w, i32_w]
                   rfl
                  refine pure_ (i := 16) (N := some 99) (v := ?_) (a' := ?_) #[true, false, false, true, true, false, false, true, false, false, false, false, true, false, false, true, true, false, false, false, false, false, false, false, false, false] rfl rfl (any_of HT_.out (by kernel_rfl)) (fun _ _ _ h => h) (Or.inl ⟨by rfl, ?_⟩) ?_ ?_
                  rotate_left
                  ·intro w'
                   go_simp
                   with_reducible rfl
                  rotate_left
                  ·simp only [Act.put, List.setIfInBounds_toArray, List.set_cons_zero, List.set_cons_succ, i64_w, i32_w]
                   rfl
                  refine pure_ (i := 17) (N := some 100) (v := ?_) (a' := ?_) #[true, false, false, true, true, false, false, true, false, false, false, false, true, false, false, true, true, true, false, false, false, false, false, false, false, false] rfl rfl (any_of HT_.out (by kernel_rfl)) (fun _ _ _ h => h) (Or.inl ⟨by rfl, ?_⟩) ?_ ?_
                  rotate_left
                  ·intro w'
                   go_simp
                   with_reducible rfl
                  rotate_left
                  ·simp only [Act.put, List.setIfInBounds_toArray, List.set_cons_zero, List.set_cons_succ, i64_w, i32_w]
                   rfl
                  refine pure_ (i := 19) (N := some 102) (v := ?_) (a' := ?_) #[true, false, false, true, true, false, false, true, false, false, false, false, true, false, false, true, true, true, false, true, false, false, false, false, false, false] rfl rfl (any_of HT_.out (by kernel_rfl)) (fun _ _ _ h => h) (Or.inl ⟨by rfl, ?_⟩) ?_ ?_
                  rotate_left
                  ·intro w'
                   go_simp
                   with_reducible rfl
                  rotate_left
                  ·simp only [Act.put, List.setIfInBounds_toArray, List.set_cons_zero, List.set_cons_succ, i64_w, i32_w]
                   rfl
                  refine take_ (i := 1) (N := some 84) (v := ?_) (a' := ?_) #[true, true, false, true, true, false, false, true, false, false, false, false, true, false, false, true, true, true, false, true, false, false, false, false, false, false] rfl rfl (take_ofW HT_.out HW_.out (by kernel_rfl)) (fun _ _ _ h => h) (Or.inl ⟨by rfl, ?_⟩) hHeld ?_ ?_
                  rotate_left
                  ·rintro w' ⟨s0, s1, s2, s3, s4, s5, s6, s7, s8, s9, s10⟩
                   go_simp
                   with_reducible rfl
                  rotate_left
                  ·simp only [Act.put, List.setIfInBounds_toArray, List.set_cons_zero, List.set_cons_succ, i64_w, i32_w]
                   rfl
                  refine pure_ (i := 2) (N := some 85) (v := ?_) (a' := ?_) #[true, true, true, true, true, false, false, true, false, false, false, false, true, false, false, true, true, true, false, true, false, false, false, false, false, false] rfl rfl (any_of HT_.out (by kernel_rfl)) (fun _ _ _ h => h) (Or.inl ⟨by rfl, ?_⟩) ?_ ?_
                  rotate_left
                  ·intro w'
                   go_simp
                   with_reducible rfl
                  rotate_left
                  ·simp only [Act.put, List.setIfInBounds_toArray, List.set_cons_zero, List.set_cons_succ, i64_w, i32_w]
                   rfl
                  refine take_ (i := 5) (N := some 88) (v := ?_) (a' := ?_) #[true, true, true, true, true, true, false, true, false, false, false, false, true, false, false, true, true, true, false, true, false, false, false, false, false, false] rfl rfl (take_ofW HT_.out HW_.out (by kernel_rfl)) (fun _ _ _ h => h) (Or.inl ⟨by rfl, ?_⟩) hHeld ?_ ?_
                  rotate_left
                  ·rintro w' ⟨s0, s1, s2, s3, s4, s5, s6, s7, s8, s9, s10⟩
                   go_simp
                   with_reducible rfl
                  rotate_left
                  ·simp only [Act.put, List.setIfInBounds_toArray, List.set_cons_zero, List.set_cons_succ, i64_w, i32_w]
                   rfl
                  refine take_ (i := 8) (N := some 91) (v := ?_) (a' := ?_) #[true, true, true, true, true, true, false, true, true, false, false, false, true, false, false, true, true, true, false, true, false, false, false, false, false, false] rfl rfl (take_ofW HT_.out HW_.out (by kernel_rfl)) (fun _ _ _ h => h) (Or.inl ⟨by rfl, ?_⟩) hHeld ?_ ?_
                  rotate_left
                  ·rintro w' ⟨s0, s1, s2, s3, s4, s5, s6, s7, s8, s9, s10⟩
                   go_simp
                   with_reducible rfl
                  rotate_left
                  ·simp only [Act.put, List.setIfInBounds_toArray, List.set_cons_zero, List.set_cons_succ, i64_w, i32_w]
                   rfl
                  refine take_ (i := 13) (N := some 96) (v := ?_) (a' := ?_) #[true, true, true, true, true, true, false, true, true, false, false, false, true, true, false, true, true, true, false, true, false, false, false, false, false, false] rfl rfl (take_ofW HT_.out HW_.out (by kernel_rfl)) (fun _ _ _ h => h) (Or.inl ⟨by rfl, ?_⟩) hHeld ?_ ?_
                  rotate_left
                  ·rintro w' ⟨s0, s1, s2, s3, s4, s5, s6, s7, s8, s9, s10⟩
                   go_simp
                   with_reducible rfl
                  rotate_left
                  ·simp only [Act.put, List.setIfInBounds_toArray, List.set_cons_zero, List.set_cons_succ, i64_w, i32_w]
                   rfl
                  refine pure_ (i := 14) (N := some 97) (v := ?_) (a' := ?_) #[true, true, true, true, true, true, false, true, true, false, false, false, true, true, true, true, true, true, false, true, false, false, false, false, false, false] rfl rfl (any_of HT_.out (by kernel_rfl)) (fun _ _ _ h => h) (Or.inl ⟨by rfl, ?_⟩) ?_ ?_
                  rotate_left
                  ·intro w'
                   go_simp
                   with_reducible rfl
                  rotate_left
                  ·simp only [Act.put, List.setIfInBounds_toArray, List.set_cons_zero, List.set_cons_succ, i64_w, i32_w]
                   rfl
                  refine take_ (i := 18) (N := some 101) (v := ?_) (a' := ?_) #[true, true, true, true, true, true, false, true, true, false, false, false, true, true, true, true, true, true, true, true, false, false, false, false, false, false] rfl rfl (take_ofW HT_.out HW_.out (by kernel_rfl)) (fun _ _ _ h => h) (Or.inl ⟨by rfl, ?_⟩) hHeld ?_ ?_
                  rotate_left
                  ·rintro w' ⟨s0, s1, s2, s3, s4, s5, s6, s7, s8, s9, s10⟩
                   go_simp
                   with_reducible rfl
                  rotate_left
                  ·simp only [Act.put, List.setIfInBounds_toArray, List.set_cons_zero, List.set_cons_succ, i64_w, i32_w]
                   rfl
                  refine one_ (i := 6) (N := some 89) #[true, true, true, true, true, true, true, true, true, false, false, false, true, true, true, true, true, true, true, true, false, false, false, false, false, false] rfl rfl (one_of HT_.out (by kernel_rfl)) (by decide) (fun K hK => ?_)
                  refine goes_ Tryz.func36 (by kernel_rfl) rfl #[.int .i64 (rd t371 0)] (by rfl) rfl rfl mp_ ?_
                  with_reducible refine (bodkinref07_Bits.calls (rd t371 0) t387 _ A45.out).mono ?_
                  rintro e w' ⟨rfl, ⟨nd, rfl⟩⟩
                  refine ⟨_, rfl, ?_⟩
                  refine hK.out _ _ ⟨(blk_cell BK370.out 0).trans rfl, (blk_cell BK370.out 1).trans rfl, (blk_cell BK370.out 2).trans rfl, (blk_cell BK370.out 3).trans rfl, (blk_cell BK370.out 4).trans rfl, (blk_cell BK370.out 5).trans rfl, hHeld.2.2.2.2.2.2.1, hHeld.2.2.2.2.2.2.2.1, hHeld.2.2.2.2.2.2.2.2.1, hHeld.2.2.2.2.2.2.2.2.2.1, hHeld.2.2.2.2.2.2.2.2.2.2⟩ (fun hHeld => ?_)
                  clear hK K
                  refine norm_ (a' := ?_) ?_ ?_
                  rotate_left
                  ·show Act.put _ (some 89) _ = _
                   simp only [Act.put, List.setIfInBounds_toArray, List.set_cons_zero, List.set_cons_succ, i64_w, i32_w]
                   rfl
                  refine one_ (i := 9) (N := some 92) #[true, true, true, true, true, true, true, true, true, true, false, false, true, true, true, true, true, true, true, true, false, false, false, false, false, false] rfl rfl (one_of HT_.out (by kernel_rfl)) (by decide) (fun K hK => ?_)
                  refine goes_ Tryz.func15 (by kernel_rfl) rfl #[.string t368] (by rfl) rfl rfl mp_ ?_
                  with_reducible refine (bodkinref05_Types.calls kj37 t368 t388 _ A46.out).mono ?_
                  rintro e w57 ⟨v389, rfl, ho0, hb⟩
                  have HS6_ := (hb.cell (World.block_lt_of_cell? _ _ (hHeld.2.2.2.2.2.2.1))).trans (hHeld.2.2.2.2.2.2.1)
                  have HS7_ := (hb.cell (World.block_lt_of_cell? _ _ (hHeld.2.2.2.2.2.2.2.1))).trans (hHeld.2.2.2.2.2.2.2.1)
                  have HS8_ := (hb.cell (World.block_lt_of_cell? _ _ (hHeld.2.2.2.2.2.2.2.2.1))).trans (hHeld.2.2.2.2.2.2.2.2.1)
                  have HS9_ := (hb.cell (World.block_lt_of_cell? _ _ (hHeld.2.2.2.2.2.2.2.2.2.1))).trans (hHeld.2.2.2.2.2.2.2.2.2.1)
                  have HS10_ := (hb.cell (World.block_lt_of_cell? _ _ (hHeld.2.2.2.2.2.2.2.2.2.2))).trans (hHeld.2.2.2.2.2.2.2.2.2.2)
                  skip
                  refine ⟨_, rfl, ?_⟩
                  have n0_ := Aside0.mk (Kd.R_elder' (rl_ HO_9) (Kd.R_base ho0) hb)
                  have n1_ := Aside0.mk (Kd.R_below (rl_ HO_11) hb)
                  have n2_ := Aside0.mk (Kd.R_lower (Kd.R_new' ho0 (Kd.R_lt (rl_ HO_9))) (below_size bs_))
                  have n3_ := Aside0.mk (blk_below (g := gb363) (o := .cells #[.int .i64 x364000_2, .int .u64 x364001_2, .int .u64 x364002_2, .bool x364003_2] 33 (0, 0)) (by (with_reducible repeat (first | refine blk_drewN ?_ _ | refine blk_drew ?_ | refine blk_alloc ?_ _)); exact BK363.out) hb)
                  have n4_ := Aside0.mk (blk_below (g := gb370) (o := .cells #[.int .i64 t364, .string t365, .int .i64 t366, .string t367, .string t368, .bool t369] 25 (0, 0)) (by (with_reducible repeat (first | refine blk_drewN ?_ _ | refine blk_drew ?_ | refine blk_alloc ?_ _)); exact BK370.out) hb)
                  have n5_ := Aside0.mk (below_step bs_ hb)
                  clear HO_9
                  clear HO_11
                  clear BK363
                  clear BK370
                  clear HB
                  have HO_9 := n0_
                  have HO_11 := n1_
                  have HO390 := n2_
                  have BK363 := n3_
                  have BK370 := n4_
                  have HB := n5_
                  clear n0_ n1_ n2_ n3_ n4_ n5_
                  (try clear hb)
                  (try clear hb2)
                  (try clear hk)
                  (try clear hi)
                  (try clear ho0)
                  obtain ⟨Ao58, co58, eo58⟩ := Kd.R_slice HO390.out
                  (first | subst eo58 | (injection eo58 with f1_ f2_ f3_; have f4_ := f1_.symm; have f5_ := f3_.symm; clear f1_ f2_ f3_; subst f4_; subst f5_))
                  have p391 : 0 ≤ (0 : Int) := (by omega)
                  have q391 : 0 < (t388.length : Int) := od_
                  try (obtain ⟨ga_, ca_, hva_, _, _⟩ := Kd.R_reads HO390.out; subst hva_)
                  obtain ⟨ad391, e391, hx391_0⟩ := Kd.at_int (Kd.R_reads' HO390.out).2.2 0 p391 q391
                  cases e391
                  have qi391 : (0 < t388.length) = True := eq_true (by omega)
                  (try rw [show ((0 : Int)).toNat = 0 from rfl] at hx391_0)
                  (try rw [Addr.add_zero'] at hx391_0)
                  replace p391 := eq_true p391
                  replace q391 := eq_true q391
                  refine hK.out _ _ ⟨(blk_cell BK370.out 0).trans rfl, (blk_cell BK370.out 1).trans rfl, (blk_cell BK370.out 2).trans rfl, (blk_cell BK370.out 3).trans rfl, (blk_cell BK370.out 4).trans rfl, (blk_cell BK370.out 5).trans rfl, HS6_, HS7_, HS8_, HS9_, HS10_⟩ (fun hHeld => ?_)
                  clear hK K
                  refine more_ (S2 := fun w' => w'.cell? ⟨gb370, 0, none⟩ = some (.int .i64 t364) ∧ w'.cell? ⟨gb370, 1, none⟩ = some (.string t365) ∧ w'.cell? ⟨gb370, 2, none⟩ = some (.int .i64 t366) ∧ w'.cell? ⟨gb370, 3, none⟩ = some (.string t367) ∧ w'.cell? ⟨gb370, 4, none⟩ = some (.string t368) ∧ w'.cell? ⟨gb370, 5, none⟩ = some (.bool t369) ∧ w'.cell? ad386 = some (.int .i64 (rd t371 0)) ∧ w'.cell? ad392 = some (.int .i64 ((rd_T33 x11_2 0).f0)) ∧ w'.cell? ⟨ad392.block, ad392.off + 1, none⟩ = some (.int .u64 ((rd_T33 x11_2 0).f1)) ∧ w'.cell? ⟨ad392.block, ad392.off + 2, none⟩ = some (.int .u64 ((rd_T33 x11_2 0).f2)) ∧ w'.cell? ⟨ad392.block, ad392.off + 3, none⟩ = some (.bool ((rd_T33 x11_2 0).f3)) ∧ w'.cell? ad391 = some (.int .i64 (rd t388 0))) (fun _ ⟨a0, a1, a2, a3, a4, a5, a6, a7, a8, a9, a10, a11⟩ => ⟨a0, a1, a2, a3, a4, a5, a6, a7, a8, a9, a10⟩) _ _ _ _ ⟨(blk_cell BK370.out 0).trans rfl, (blk_cell BK370.out 1).trans rfl, (blk_cell BK370.out 2).trans rfl, (blk_cell BK370.out 3).trans rfl, (blk_cell BK370.out 4).trans rfl, (blk_cell BK370.out 5).trans rfl, HS6_, HS7_, HS8_, HS9_, HS10_, hx391_0⟩ ?_
                  replace hHeld := (show _ ∧ _ ∧ _ ∧ _ ∧ _ ∧ _ ∧ _ ∧ _ ∧ _ ∧ _ ∧ _ ∧ _ from ⟨(blk_cell BK370.out 0).trans rfl, (blk_cell BK370.out 1).trans rfl, (blk_cell BK370.out 2).trans rfl, (blk_cell BK370.out 3).trans rfl, (blk_cell BK370.out 4).trans rfl, (blk_cell BK370.out 5).trans rfl, HS6_, HS7_, HS8_, HS9_, HS10_, hx391_0⟩)
                  refine norm_ (a' := ?_) ?_ ?_
                  rotate_left
                  ·show Act.put _ (some 92) _ = _
                   simp only [Act.put, List.setIfInBounds_toArray, List.set_cons_zero, List.set_cons_succ, i64_w, i32_w]
                   rfl
                  refine pure_ (i := 10) (N := some 93) (v := ?_) (a' := ?_) #[true, true, true, true, true, true, true, true, true, true, true, false, true, true, true, true, true, true, true, true, false, false, false, false, false, false] rfl rfl (any_of HT_.out (by kernel_rfl)) (fun _ _ _ h => h) (Or.inl ⟨by rfl, ?_⟩) ?_ ?_
                  rotate_left
                  ·intro w'
                   go_simp
                   with_reducible rfl
                  rotate_left
                  ·simp only [Act.put, List.setIfInBounds_toArray, List.set_cons_zero, List.set_cons_succ, i64_w, i32_w]
                   rfl
                  refine take_ (i := 11) (N := some 94) (v := ?_) (a' := ?_) #[true, true, true, true, true, true, true, true, true, true, true, true, true, true, true, true, true, true, true, true, false, false, false, false, false, false] rfl rfl (take_ofW HT_.out HW_.out (by kernel_rfl)) (fun _ _ _ h => h) (Or.inl ⟨by rfl, ?_⟩) hHeld ?_ ?_
                  rotate_left
                  ·rintro w' ⟨s0, s1, s2, s3, s4, s5, s6, s7, s8, s9, s10, s11⟩
                   go_simp
                   with_reducible rfl
                  rotate_left
                  ·simp only [Act.put, List.setIfInBounds_toArray, List.set_cons_zero, List.set_cons_succ, i64_w, i32_w]
                   rfl
                  refine one_ (i := 20) (N := some 103) #[true, true, true, true, true, true, true, true, true, true, true, true, true, true, true, true, true, true, true, true, true, false, false, false, false, false] rfl rfl (one_of HT_.out (by kernel_rfl)) (by decide) (fun K hK => ?_)
                  refine goes_ Tryz.func35 (by kernel_rfl) rfl #[.string (t365.extract 0 1), .int .i64 t387, .int .i64 (rd t388 0), .string (t365.extract 4 t365.size), .int .u64 ((rd_T33 x11_2 0).f1), .int .u64 x13_37] (by rfl) rfl rfl mp_ ?_
                  with_reducible refine (bodkinref07_worked.calls kj37 (t365.extract 0 1) t387 (rd t388 0) (t365.extract 4 t365.size) ((rd_T33 x11_2 0).f1) x13_37 t393 t394 _ A50.out).mono ?_
                  rintro e w59 ⟨rfl, hb⟩
                  have HS6_ := (hb.cell (World.block_lt_of_cell? _ _ (hHeld.2.2.2.2.2.2.1))).trans (hHeld.2.2.2.2.2.2.1)
                  have HS7_ := (hb.cell (World.block_lt_of_cell? _ _ (hHeld.2.2.2.2.2.2.2.1))).trans (hHeld.2.2.2.2.2.2.2.1)
                  have HS8_ := (hb.cell (World.block_lt_of_cell? _ _ (hHeld.2.2.2.2.2.2.2.2.1))).trans (hHeld.2.2.2.2.2.2.2.2.1)
                  have HS9_ := (hb.cell (World.block_lt_of_cell? _ _ (hHeld.2.2.2.2.2.2.2.2.2.1))).trans (hHeld.2.2.2.2.2.2.2.2.2.1)
                  have HS10_ := (hb.cell (World.block_lt_of_cell? _ _ (hHeld.2.2.2.2.2.2.2.2.2.2.1))).trans (hHeld.2.2.2.2.2.2.2.2.2.2.1)
                  have HS11_ := (hb.cell (World.block_lt_of_cell? _ _ (hHeld.2.2.2.2.2.2.2.2.2.2.2))).trans (hHeld.2.2.2.2.2.2.2.2.2.2.2)
                  refine ⟨_, rfl, ?_⟩
                  have n0_ := Aside0.mk (Kd.R_below (rl_ HO_9) hb)
                  have n1_ := Aside0.mk (Kd.R_below (rl_ HO_11) hb)
                  have n2_ := Aside0.mk (Kd.R_below (rl_ HO390) hb)
                  have n3_ := Aside0.mk (blk_below (g := gb363) (o := .cells #[.int .i64 x364000_2, .int .u64 x364001_2, .int .u64 x364002_2, .bool x364003_2] 33 (0, 0)) (by (with_reducible repeat (first | refine blk_drewN ?_ _ | refine blk_drew ?_ | refine blk_alloc ?_ _)); exact BK363.out) hb)
                  have n4_ := Aside0.mk (blk_below (g := gb370) (o := .cells #[.int .i64 t364, .string t365, .int .i64 t366, .string t367, .string t368, .bool t369] 25 (0, 0)) (by (with_reducible repeat (first | refine blk_drewN ?_ _ | refine blk_drew ?_ | refine blk_alloc ?_ _)); exact BK370.out) hb)
                  have n5_ := Aside0.mk (below_step bs_ hb)
                  clear HO_9
                  clear HO_11
                  clear HO390
                  clear BK363
                  clear BK370
                  clear HB
                  have HO_9 := n0_
                  have HO_11 := n1_
                  have HO390 := n2_
                  have BK363 := n3_
                  have BK370 := n4_
                  have HB := n5_
                  clear n0_ n1_ n2_ n3_ n4_ n5_
                  (try clear hb)
                  (try clear hb2)
                  (try clear hk)
                  (try clear hi)
                  refine hK.out _ _ ⟨(blk_cell BK370.out 0).trans rfl, (blk_cell BK370.out 1).trans rfl, (blk_cell BK370.out 2).trans rfl, (blk_cell BK370.out 3).trans rfl, (blk_cell BK370.out 4).trans rfl, (blk_cell BK370.out 5).trans rfl, HS6_, HS7_, HS8_, HS9_, HS10_, HS11_⟩ (fun hHeld => ?_)
                  clear hK K
                  refine norm_ (a' := ?_) ?_ ?_
                  rotate_left
                  ·show Act.put _ (some 103) _ = _
                   simp only [Act.put, List.setIfInBounds_toArray, List.set_cons_zero, List.set_cons_succ, i64_w, i32_w]
                   rfl
                  refine pure_ (i := 21) (N := some 82) (v := ?_) (a' := ?_) #[true, true, true, true, true, true, true, true, true, true, true, true, true, true, true, true, true, true, true, true, true, true, false, false, false, false] rfl rfl (any_of HT_.out (by kernel_rfl)) (fun _ _ _ h => h) (Or.inl ⟨by rfl, ?_⟩) ?_ ?_
                  rotate_left
                  ·intro w'
                   go_simp
                   with_reducible rfl
                  rotate_left
                  ·simp only [Act.put, List.setIfInBounds_toArray, List.set_cons_zero, List.set_cons_succ, i64_w, i32_w]
                   rfl
                  refine pure_ (i := 22) (N := some 104) (v := ?_) (a' := ?_) #[true, true, true, true, true, true, true, true, true, true, true, true, true, true, true, true, true, true, true, true, true, true, true, false, false, false] rfl rfl (any_of HT_.out (by kernel_rfl)) (fun _ _ _ h => h) (Or.inl ⟨by rfl, ?_⟩) ?_ ?_
                  rotate_left
                  ·intro w'
                   go_simp
                   with_reducible rfl
                  rotate_left
                  ·simp only [Act.put, List.setIfInBounds_toArray, List.set_cons_zero, List.set_cons_succ, i64_w, i32_w]
                   rfl
                  refine pure_ (i := 23) (N := some 105) (v := ?_) (a' := ?_) #[true, true, true, true, true, true, true, true, true, true, true, true, true, true, true, true, true, true, true, true, true, true, true, true, false, false] rfl rfl (any_of HT_.out (by kernel_rfl)) (fun _ _ _ h => h) (Or.inl ⟨by rfl, ?_⟩) ?_ ?_
                  rotate_left
                  ·intro w'
                   go_simp
                   with_reducible rfl
                  rotate_left
                  ·simp only [Act.put, List.setIfInBounds_toArray, List.set_cons_zero, List.set_cons_succ, i64_w, i32_w]
                   rfl
                  refine pure_ (i := 24) (N := some 14) (v := ?_) (a' := ?_) #[true, true, true, true, true, true, true, true, true, true, true, true, true, true, true, true, true, true, true, true, true, true, true, true, true, false] rfl rfl (any_of HT_.out (by kernel_rfl)) (fun _ _ _ h => h) (Or.inl ⟨by rfl, ?_⟩) ?_ ?_
                  rotate_left
                  ·intro w'
                   go_simp
                   with_reducible rfl
                  rotate_left
                  ·simp only [Act.put, List.setIfInBounds_toArray, List.set_cons_zero, List.set_cons_succ, i64_w, i32_w]
                   rfl
                  refine pure_ (i := 25) (N := some 15) (v := ?_) (a' := ?_) #[true, true, true, true, true, true, true, true, true, true, true, true, true, true, true, true, true, true, true, true, true, true, true, true, true, true] rfl rfl (any_of HT_.out (by kernel_rfl)) (fun _ _ _ h => h) (Or.inl ⟨by rfl, ?_⟩) ?_ ?_
                  rotate_left
                  ·intro w'
                   go_simp
                   with_reducible rfl
                  rotate_left
                  ·simp only [Act.put, List.setIfInBounds_toArray, List.set_cons_zero, List.set_cons_succ, i64_w, i32_w]
                   rfl
                  refine done_ (done_of HT_.out (by kernel_rfl)) ?_
                  have hnb60 := NB370_363.out
                  have hnc60 := NB363_370.out
                  have hcz61_0 : w59.cell? ⟨gb370, 0, none⟩ = some (.int .i64 t364) := (blk_cell BK370.out 0).trans rfl
                  have hcz61_1 : w59.cell? ⟨gb370, 1, none⟩ = some (.string t365) := (blk_cell BK370.out 1).trans rfl
                  have hcz61_2 : w59.cell? ⟨gb370, 2, none⟩ = some (.int .i64 t366) := (blk_cell BK370.out 2).trans rfl
                  have hcz61_3 : w59.cell? ⟨gb370, 3, none⟩ = some (.string t367) := (blk_cell BK370.out 3).trans rfl
                  have hcz61_4 : w59.cell? ⟨gb370, 4, none⟩ = some (.string t368) := (blk_cell BK370.out 4).trans rfl
                  have hcz61_5 : w59.cell? ⟨gb370, 5, none⟩ = some (.bool t369) := (blk_cell BK370.out 5).trans rfl
                  have hfz61_0 := blk_frozen BK370.out 0
                  have hfz61_1 := blk_frozen BK370.out 1
                  have hfz61_2 := blk_frozen BK370.out 2
                  have hfz61_3 := blk_frozen BK370.out 3
                  have hfz61_4 := blk_frozen BK370.out 4
                  have hfz61_5 := blk_frozen BK370.out 5
                  try go_wp2_with (first | ((with_reducible refine gate_callee (f := 15) rfl ?_); refine goesL_ (some 112) rfl rfl Tryz.func15 (by kernel_rfl) rfl #[.string t368] rfl mp_ ?_; (with_reducible refine (bodkinref05_Types.calls kj37 t368 t395 _ A52.out).mono ?_); rintro e w62 ⟨v396, rfl, ho0, hb⟩; refine ⟨_, rfl, ?_⟩; have n0_ := Aside0.mk (Kd.R_elder' (rl_ HO_9) (Kd.R_base ho0) hb); have n1_ := Aside0.mk (Kd.R_below (rl_ HO_11) hb); have n2_ := Aside0.mk (Kd.R_elder' (rl_ HO390) (Kd.R_base ho0) hb); have n3_ := Aside0.mk (Kd.R_lower (Kd.R_new' (Kd.R_new' ho0 (Kd.R_lt (rl_ HO_9))) (Kd.R_lt (rl_ HO390))) (below_size bs_)); have n4_ := Aside0.mk (blk_below (g := gb363) (o := .cells #[.int .i64 x364000_2, .int .u64 x364001_2, .int .u64 x364002_2, .bool x364003_2] 33 (0, 0)) (by (with_reducible repeat (first | refine blk_drewN ?_ _ | refine blk_drew ?_ | refine blk_alloc ?_ _)); exact BK363.out) hb); have n5_ := Aside0.mk (blk_below (g := gb370) (o := .cells #[.int .i64 t364, .string t365, .int .i64 t366, .string t367, .string t368, .bool t369] 25 (0, 0)) (by (with_reducible repeat (first | refine blk_drewN ?_ _ | refine blk_drew ?_ | refine blk_alloc ?_ _)); exact BK370.out) hb); have n6_ := Aside0.mk (below_step bs_ hb); clear HO_9; clear HO_11; clear HO390; clear BK363; clear BK370; clear HB; have HO_9 := n0_; have HO_11 := n1_; have HO390 := n2_; have HO397 := n3_; have BK363 := n4_; have BK370 := n5_; have HB := n6_; clear n0_ n1_ n2_ n3_ n4_ n5_ n6_; (try clear hb); (try clear hb2); (try clear hk); (try clear hi); (try clear ho0); obtain ⟨Ao63, co63, eo63⟩ := Kd.R_slice HO397.out; subst eo63; have p398 : 0 ≤ (0 : Int) := (by omega); have q398 : 0 < (t395.length : Int) := od_; obtain ⟨ad398, e398, hx398_0⟩ := Kd.at_int (Kd.R_reads' HO397.out).2.2 0 p398 q398; cases e398; have qi398 : (0 < t395.length) = True := eq_true (by omega); (try rw [show ((0 : Int)).toNat = 0 from rfl] at hx398_0); (try rw [Addr.add_zero'] at hx398_0); replace p398 := eq_true p398; replace q398 := eq_true q398) | ((with_reducible refine gate_callee (f := 33) rfl ?_); refine goesL_ (some 117) rfl rfl Tryz.func33 (by kernel_rfl) rfl #[.agg #[.int .i64 (rd t395 0), .int .u64 t393, .int .u64 0, .bool false]] rfl mp_ ?_; (with_reducible refine (bodkinref07_Clean.calls kj37 (rd t395 0) t393 0 false t399 t400 t401 t402 _ A54.out).mono ?_); rintro e w64 ⟨rfl, hb⟩; refine ⟨_, rfl, ?_⟩; have n0_ := Aside0.mk (Kd.R_below (rl_ HO_9) hb); have n1_ := Aside0.mk (Kd.R_below (rl_ HO_11) hb); have n2_ := Aside0.mk (Kd.R_below (rl_ HO390) hb); have n3_ := Aside0.mk (Kd.R_below (rl_ HO397) hb); have n4_ := Aside0.mk (blk_below (g := gb363) (o := .cells #[.int .i64 x364000_2, .int .u64 x364001_2, .int .u64 x364002_2, .bool x364003_2] 33 (0, 0)) (by (with_reducible repeat (first | refine blk_drewN ?_ _ | refine blk_drew ?_ | refine blk_alloc ?_ _)); exact BK363.out) hb); have n5_ := Aside0.mk (blk_below (g := gb370) (o := .cells #[.int .i64 t364, .string t365, .int .i64 t366, .string t367, .string t368, .bool t369] 25 (0, 0)) (by (with_reducible repeat (first | refine blk_drewN ?_ _ | refine blk_drew ?_ | refine blk_alloc ?_ _)); exact BK370.out) hb); have n6_ := Aside0.mk (below_step bs_ hb); clear HO_9; clear HO_11; clear HO390; clear HO397; clear BK363; clear BK370; clear HB; have HO_9 := n0_; have HO_11 := n1_; have HO390 := n2_; have HO397 := n3_; have BK363 := n4_; have BK370 := n5_; have HB := n6_; clear n0_ n1_ n2_ n3_ n4_ n5_ n6_; (try clear hb); (try clear hb2); (try clear hk); (try clear hi); have hcz65_0 : w64.cell? ⟨gb363, 0, none⟩ = some (.int .i64 x364000_2) := (blk_cell BK363.out 0).trans rfl; have hcz65_1 : w64.cell? ⟨gb363, 1, none⟩ = some (.int .u64 x364001_2) := (blk_cell BK363.out 1).trans rfl; have hcz65_2 : w64.cell? ⟨gb363, 2, none⟩ = some (.int .u64 x364002_2) := (blk_cell BK363.out 2).trans rfl; have hcz65_3 : w64.cell? ⟨gb363, 3, none⟩ = some (.bool x364003_2) := (blk_cell BK363.out 3).trans rfl; have hfz65_0 := blk_frozen BK363.out 0; have hfz65_1 := blk_frozen BK363.out 1; have hfz65_2 := blk_frozen BK363.out 2; have hfz65_3 := blk_frozen BK363.out 3))
                  refine bodyPost_ret (results_ct rfl _ _ gb363 33 #[.int .i64 t399, .int .u64 t400, .int .u64 t401, .bool t402] (0, 0) _ rfl (by (with_reducible repeat (first | refine blk_drewN ?_ _ | refine blk_drew ?_ | refine blk_alloc ?_ _)); refine blk_put (cs := #[.int .i64 t399, .int .u64 t400, .int .u64 t401, .bool x364003_2]) ?_ 3 _ rfl; (with_reducible repeat (first | refine blk_drewN ?_ _ | refine blk_drew ?_ | refine blk_alloc ?_ _)); refine blk_put (cs := #[.int .i64 t399, .int .u64 t400, .int .u64 x364002_2, .bool x364003_2]) ?_ 2 _ rfl; (with_reducible repeat (first | refine blk_drewN ?_ _ | refine blk_drew ?_ | refine blk_alloc ?_ _)); refine blk_put (cs := #[.int .i64 t399, .int .u64 x364001_2, .int .u64 x364002_2, .bool x364003_2]) ?_ 1 _ rfl; (with_reducible repeat (first | refine blk_drewN ?_ _ | refine blk_drew ?_ | refine blk_alloc ?_ _)); refine blk_put (cs := #[.int .i64 x364000_2, .int .u64 x364001_2, .int .u64 x364002_2, .bool x364003_2]) ?_ 0 _ rfl; (with_reducible repeat (first | refine blk_drewN ?_ _ | refine blk_drew ?_ | refine blk_alloc ?_ _)); exact BK363.out) Tryz.underlying33 rfl (by kernel_rfl)) rfl ?_
                  exact ⟨er_, bs_⟩
                 ·rw [if_neg c53] at H
                  exact absurd H (by simp)
                ·rw [if_neg c51] at H
                 have c51b0 : (t394 == 0) = false := beq_eq_false_iff_ne.mpr c51
                 have c51b1 : (t394 != 0) = true := bne_iff_ne.mpr c51
                 simp only [Option.some.injEq, Prod.mk.injEq] at H
                 obtain ⟨rfl, rfl, rfl, rfl, rfl⟩ := H
                 try go_wp2
                 have n0_ := Aside0.mk (Kd.R_drew HO_9.out)
                 have n1_ := Aside0.mk (Kd.R_drew HO_11.out)
                 have n2_ := Aside0.mk (blk_drew BK363.out)
                 have n3_ := Aside0.mk (blk_drew BK370.out)
                 have n4_ := Aside0.mk (below_drew1 HB.out)
                 clear HO_9
                 clear HO_11
                 clear BK363
                 clear BK370
                 clear HB
                 have HO_9 := n0_
                 have HO_11 := n1_
                 have BK363 := n2_
                 have BK370 := n3_
                 have HB := n4_
                 clear n0_ n1_ n2_ n3_ n4_
                 obtain ⟨Ao67, co67, eo67⟩ := Kd.R_slice HO_9.out
                 (first | subst eo67 | (injection eo67 with f1_ f2_ f3_; have f4_ := f1_.symm; have f5_ := f3_.symm; clear f1_ f2_ f3_; subst f4_; subst f5_))
                 have p386 : 0 ≤ (0 : Int) := (by omega)
                 have q386 : 0 < (t371.length : Int) := od_
                 try (obtain ⟨ga_, ca_, hva_, _, _⟩ := Kd.R_reads HO_9.out; subst hva_)
                 obtain ⟨ad386, e386, hx386_0⟩ := Kd.at_int (Kd.R_reads' HO_9.out).2.2 0 p386 q386
                 cases e386
                 have qi386 : (0 < t371.length) = True := eq_true (by omega)
                 (try rw [show ((0 : Int)).toNat = 0 from rfl] at hx386_0)
                 (try rw [Addr.add_zero'] at hx386_0)
                 replace p386 := eq_true p386
                 replace q386 := eq_true q386
                 have p392 : 0 ≤ (0 : Int) := (by omega)
                 have q392 : 0 < (x11_2.length : Int) := od_
                 obtain ⟨ad392, e392, hx392_0, hx392_1, hx392_2, hx392_3⟩ := at_T33 (Kd.R_reads' HO_11.out).2.2 0 p392 q392
                 cases e392
                 have qi392 : (0 < x11_2.length) = True := eq_true (by omega)
                 (try rw [show ((0 : Int)).toNat = 0 from rfl] at hx392_0)
                 (try rw [show 0 * 4 = 0 from rfl] at hx392_0)
                 (try rw [Addr.add_zero'] at hx392_0)
                 (try rw [show ((0 : Int)).toNat = 0 from rfl] at hx392_1)
                 (try rw [show 0 * 4 = 0 from rfl] at hx392_1)
                 (try rw [Addr.add_zero'] at hx392_1)
                 (try rw [show ((0 : Int)).toNat = 0 from rfl] at hx392_2)
                 (try rw [show 0 * 4 = 0 from rfl] at hx392_2)
                 (try rw [Addr.add_zero'] at hx392_2)
                 (try rw [show ((0 : Int)).toNat = 0 from rfl] at hx392_3)
                 (try rw [show 0 * 4 = 0 from rfl] at hx392_3)
                 (try rw [Addr.add_zero'] at hx392_3)
                 replace p392 := eq_true p392
                 replace q392 := eq_true q392
                 refine start_ (n := 26) (S := fun w' => w'.cell? ⟨gb370, 0, none⟩ = some (.int .i64 t364) ∧ w'.cell? ⟨gb370, 1, none⟩ = some (.string t365) ∧ w'.cell? ⟨gb370, 2, none⟩ = some (.int .i64 t366) ∧ w'.cell? ⟨gb370, 3, none⟩ = some (.string t367) ∧ w'.cell? ⟨gb370, 4, none⟩ = some (.string t368) ∧ w'.cell? ⟨gb370, 5, none⟩ = some (.bool t369) ∧ w'.cell? ad386 = some (.int .i64 (rd t371 0)) ∧ w'.cell? ad392 = some (.int .i64 ((rd_T33 x11_2 0).f0)) ∧ w'.cell? ⟨ad392.block, ad392.off + 1, none⟩ = some (.int .u64 ((rd_T33 x11_2 0).f1)) ∧ w'.cell? ⟨ad392.block, ad392.off + 2, none⟩ = some (.int .u64 ((rd_T33 x11_2 0).f2)) ∧ w'.cell? ⟨ad392.block, ad392.off + 3, none⟩ = some (.bool ((rd_T33 x11_2 0).f3))) (ds := []) #[false, false, false, false, false, false, false, false, false, false, false, false, false, false, false, false, false, false, false, false, false, false, false, false, false, false] (by kernel_rfl) rfl rfl ⟨(blk_cell BK370.out 0).trans rfl, (blk_cell BK370.out 1).trans rfl, (blk_cell BK370.out 2).trans rfl, (blk_cell BK370.out 3).trans rfl, (blk_cell BK370.out 4).trans rfl, (blk_cell BK370.out 5).trans rfl, hx386_0, hx392_0, hx392_1, hx392_2, hx392_3⟩ (fun hHeld => ?_); refine with_tabW bodkinref07_Do.tab18 bodkinref07_Do.bits18 (fun HT_ HW_ => ?_)
                 generalize wc.drew = w66 at HO_9 HO_11 BK363 BK370 HB hx386_0 hx392_0 hx392_1 hx392_2 hx392_3 hHeld ⊢
                 refine pure_ (i := 0) (N := some 83) (v := ?_) (a' := ?_) #[true, false, false, false, false, false, false, false, false, false, false, false, false, false, false, false, false, false, false, false, false, false, false, false, false, false] rfl rfl (any_of HT_.out (by kernel_rfl)) (fun _ _ _ h => h) (Or.inl ⟨by rfl, ?_⟩) ?_ ?_
                 rotate_left
                 ·intro w'
                  go_simp
                  with_reducible rfl
                 rotate_left
                 ·simp only [Act.put, List.setIfInBounds_toArray, List.set_cons_zero, List.set_cons_succ, i64_w, i32_w]
                  rfl
                 refine pure_ (i := 3) (N := some 86) (v := ?_) (a' := ?_) #[true, false, false, true, false, false, false, false, false, false, false, false, false, false, false, false, false, false, false, false, false, false, false, false, false, false] rfl rfl (any_of HT_.out (by kernel_rfl)) (fun _ _ _ h => h) (Or.inl ⟨by rfl, ?_⟩) ?_ ?_
                 rotate_left
                 ·intro w'
                  go_simp
                  with_reducible rfl
                 rotate_left
                 ·simp only [Act.put, List.setIfInBounds_toArray, List.set_cons_zero, List.set_cons_succ, i64_w, i32_w]
                  rfl
                 refine pure_ (i := 4) (N := some 87) (v := ?_) (a' := ?_) #[true, false, false, true, true, false, false, false, false, false, false, false, false, false, false, false, false, false, false, false, false, false, false, false, false, false] rfl rfl (any_of HT_.out (by kernel_rfl)) (fun _ _ _ h => h) (Or.inl ⟨by rfl, ?_⟩) ?_ ?_
                 rotate_left
                 ·intro w'
                  go_simp
                  with_reducible rfl
                 rotate_left
                 ·simp only [Act.put, List.setIfInBounds_toArray, List.set_cons_zero, List.set_cons_succ, i64_w, i32_w]
                  rfl
                 refine pure_ (i := 7) (N := some 90) (v := ?_) (a' := ?_) #[true, false, false, true, true, false, false, true, false, false, false, false, false, false, false, false, false, false, false, false, false, false, false, false, false, false] rfl rfl (any_of HT_.out (by kernel_rfl)) (fun _ _ _ h => h) (Or.inl ⟨by rfl, ?_⟩) ?_ ?_
                 rotate_left
                 ·intro w'
                  go_simp
                  with_reducible rfl
                 rotate_left
                 ·simp only [Act.put, List.setIfInBounds_toArray, List.set_cons_zero, List.set_cons_succ, i64_w, i32_w]
                  rfl
                 refine pure_ (i := 12) (N := some 95) (v := ?_) (a' := ?_) #[true, false, false, true, true, false, false, true, false, false, false, false, true, false, false, false, false, false, false, false, false, false, false, false, false, false] rfl rfl (any_of HT_.out (by kernel_rfl)) (fun _ _ _ h => h) (Or.inl ⟨by rfl, ?_⟩) ?_ ?_
                 rotate_left
                 ·intro w'
                  go_simp
                  with_reducible rfl
                 rotate_left
                 ·simp only [Act.put, List.setIfInBounds_toArray, List.set_cons_zero, List.set_cons_succ, i64_w, i32_w]
                  rfl
                 refine pure_ (i := 15) (N := some 98) (v := ?_) (a' := ?_) #[true, false, false, true, true, false, false, true, false, false, false, false, true, false, false, true, false, false, false, false, false, false, false, false, false, false] rfl rfl (any_of HT_.out (by kernel_rfl)) (fun _ _ _ h => h) (Or.inl ⟨by rfl, ?_⟩) ?_ ?_
                 rotate_left
                 ·intro w'
                  go_simp
                  with_reducible rfl
                 rotate_left
                 ·simp only [Act.put, List.setIfInBounds_toArray, List.set_cons_zero, List.set_cons_succ, i64_w, i32_w]
                  rfl
                 refine pure_ (i := 16) (N := some 99) (v := ?_) (a' := ?_) #[true, false, false, true, true, false, false, true, false, false, false, false, true, false, false, true, true, false, false, false, false, false, false, false, false, false] rfl rfl (any_of HT_.out (by kernel_rfl)) (fun _ _ _ h => h) (Or.inl ⟨by rfl, ?_⟩) ?_ ?_
                 rotate_left
                 ·intro w'
                  go_simp
                  with_reducible rfl
                 rotate_left
                 ·simp only [Act.put, List.setIfInBounds_toArray, List.set_cons_zero, List.set_cons_succ, i64_w, i32_w]
                  rfl
                 refine pure_ (i := 17) (N := some 100) (v := ?_) (a' := ?_) #[true, false, false, true, true, false, false, true, false, false, false, false, true, false, false, true, true, true, false, false, false, false, false, false, false, false] rfl rfl (any_of HT_.out (by kernel_rfl)) (fun _ _ _ h => h) (Or.inl ⟨by rfl, ?_⟩) ?_ ?_
                 rotate_left
                 ·intro w'
                  go_simp
                  with_reducible rfl
                 rotate_left
                 ·simp only [Act.put, List.setIfInBounds_toArray, List.set_cons_zero, List.set_cons_succ, i64_w, i32_w]
                  rfl
                 refine pure_ (i := 19) (N := some 102) (v := ?_) (a' := ?_) #[true, false, false, true, true, false, false, true, false, false, false, false, true, false, false, true, true, true, false, true, false, false, false, false, false, false] rfl rfl (any_of HT_.out (by kernel_rfl)) (fun _ _ _ h => h) (Or.inl ⟨by rfl, ?_⟩) ?_ ?_
                 rotate_left
                 ·intro w'
                  go_simp
                  with_reducible rfl
                 rotate_left
                 ·simp only [Act.put, List.setIfInBounds_toArray, List.set_cons_zero, List.set_cons_succ, i64_w, i32_w]
                  rfl
                 refine take_ (i := 1) (N := some 84) (v := ?_) (a' := ?_) #[true, true, false, true, true, false, false, true, false, false, false, false, true, false, false, true, true, true, false, true, false, false, false, false, false, false] rfl rfl (take_ofW HT_.out HW_.out (by kernel_rfl)) (fun _ _ _ h => h) (Or.inl ⟨by rfl, ?_⟩) hHeld ?_ ?_
                 rotate_left
                 ·rintro w' ⟨s0, s1, s2, s3, s4, s5, s6, s7, s8, s9, s10⟩
                  go_simp
                  with_reducible rfl
                 rotate_left
                 ·simp only [Act.put, List.setIfInBounds_toArray, List.set_cons_zero, List.set_cons_succ, i64_w, i32_w]
                  rfl
                 refine pure_ (i := 2) (N := some 85) (v := ?_) (a' := ?_) #[true, true, true, true, true, false, false, true, false, false, false, false, true, false, false, true, true, true, false, true, false, false, false, false, false, false] rfl rfl (any_of HT_.out (by kernel_rfl)) (fun _ _ _ h => h) (Or.inl ⟨by rfl, ?_⟩) ?_ ?_
                 rotate_left
                 ·intro w'
                  go_simp
                  with_reducible rfl
                 rotate_left
                 ·simp only [Act.put, List.setIfInBounds_toArray, List.set_cons_zero, List.set_cons_succ, i64_w, i32_w]
                  rfl
                 refine take_ (i := 5) (N := some 88) (v := ?_) (a' := ?_) #[true, true, true, true, true, true, false, true, false, false, false, false, true, false, false, true, true, true, false, true, false, false, false, false, false, false] rfl rfl (take_ofW HT_.out HW_.out (by kernel_rfl)) (fun _ _ _ h => h) (Or.inl ⟨by rfl, ?_⟩) hHeld ?_ ?_
                 rotate_left
                 ·rintro w' ⟨s0, s1, s2, s3, s4, s5, s6, s7, s8, s9, s10⟩
                  go_simp
                  with_reducible rfl
                 rotate_left
                 ·simp only [Act.put, List.setIfInBounds_toArray, List.set_cons_zero, List.set_cons_succ, i64_w, i32_w]
                  rfl
                 refine take_ (i := 8) (N := some 91) (v := ?_) (a' := ?_) #[true, true, true, true, true, true, false, true, true, false, false, false, true, false, false, true, true, true, false, true, false, false, false, false, false, false] rfl rfl (take_ofW HT_.out HW_.out (by kernel_rfl)) (fun _ _ _ h => h) (Or.inl ⟨by rfl, ?_⟩) hHeld ?_ ?_
                 rotate_left
                 ·rintro w' ⟨s0, s1, s2, s3, s4, s5, s6, s7, s8, s9, s10⟩
                  go_simp
                  with_reducible rfl
                 rotate_left
                 ·simp only [Act.put, List.setIfInBounds_toArray, List.set_cons_zero, List.set_cons_succ, i64_w, i32_w]
                  rfl
                 refine take_ (i := 13) (N := some 96) (v := ?_) (a' := ?_) #[true, true, true, true, true, true, false, true, true, false, false, false, true, true, false, true, true, true, false, true, false, false, false, false, false, false] rfl rfl (take_ofW HT_.out HW_.out (by kernel_rfl)) (fun _ _ _ h => h) (Or.inl ⟨by rfl, ?_⟩) hHeld ?_ ?_
                 rotate_left
                 ·rintro w' ⟨s0, s1, s2, s3, s4, s5, s6, s7, s8, s9, s10⟩
                  go_simp
                  with_reducible rfl
                 rotate_left
                 ·simp only [Act.put, List.setIfInBounds_toArray, List.set_cons_zero, List.set_cons_succ, i64_w, i32_w]
                  rfl
                 refine pure_ (i := 14) (N := some 97) (v := ?_) (a' := ?_) #[true, true, true, true, true, true, false, true, true, false, false, false, true, true, true, true, true, true, false, true, false, false, false, false, false, false] rfl rfl (any_of HT_.out (by kernel_rfl)) (fun _ _ _ h => h) (Or.inl ⟨by rfl, ?_⟩) ?_ ?_
                 rotate_left
                 ·intro w'
                  go_simp
                  with_reducible rfl
                 rotate_left
                 ·simp only [Act.put, List.setIfInBounds_toArray, List.set_cons_zero, List.set_cons_succ, i64_w, i32_w]
                  rfl
                 refine take_ (i := 18) (N := some 101) (v := ?_) (a' := ?_) #[true, true, true, true, true, true, false, true, true, false, false, false, true, true, true, true, true, true, true, true, false, false, false, false, false, false] rfl rfl (take_ofW HT_.out HW_.out (by kernel_rfl)) (fun _ _ _ h => h) (Or.inl ⟨by rfl, ?_⟩) hHeld ?_ ?_
                 rotate_left
                 ·rintro w' ⟨s0, s1, s2, s3, s4, s5, s6, s7, s8, s9, s10⟩
                  go_simp
                  with_reducible rfl
                 rotate_left
                 ·simp only [Act.put, List.setIfInBounds_toArray, List.set_cons_zero, List.set_cons_succ, i64_w, i32_w]
                  rfl
                 refine one_ (i := 6) (N := some 89) #[true, true, true, true, true, true, true, true, true, false, false, false, true, true, true, true, true, true, true, true, false, false, false, false, false, false] rfl rfl (one_of HT_.out (by kernel_rfl)) (by decide) (fun K hK => ?_)
                 refine goes_ Tryz.func36 (by kernel_rfl) rfl #[.int .i64 (rd t371 0)] (by rfl) rfl rfl mp_ ?_
                 with_reducible refine (bodkinref07_Bits.calls (rd t371 0) t387 _ A45.out).mono ?_
                 rintro e w' ⟨rfl, ⟨nd, rfl⟩⟩
                 refine ⟨_, rfl, ?_⟩
                 refine hK.out _ _ ⟨(blk_cell BK370.out 0).trans rfl, (blk_cell BK370.out 1).trans rfl, (blk_cell BK370.out 2).trans rfl, (blk_cell BK370.out 3).trans rfl, (blk_cell BK370.out 4).trans rfl, (blk_cell BK370.out 5).trans rfl, hHeld.2.2.2.2.2.2.1, hHeld.2.2.2.2.2.2.2.1, hHeld.2.2.2.2.2.2.2.2.1, hHeld.2.2.2.2.2.2.2.2.2.1, hHeld.2.2.2.2.2.2.2.2.2.2⟩ (fun hHeld => ?_)
                 clear hK K
                 refine norm_ (a' := ?_) ?_ ?_
                 rotate_left
                 ·show Act.put _ (some 89) _ = _
                  simp only [Act.put, List.setIfInBounds_toArray, List.set_cons_zero, List.set_cons_succ, i64_w, i32_w]
                  rfl
                 refine one_ (i := 9) (N := some 92) #[true, true, true, true, true, true, true, true, true, true, false, false, true, true, true, true, true, true, true, true, false, false, false, false, false, false] rfl rfl (one_of HT_.out (by kernel_rfl)) (by decide) (fun K hK => ?_)
                 refine goes_ Tryz.func15 (by kernel_rfl) rfl #[.string t368] (by rfl) rfl rfl mp_ ?_
                 with_reducible refine (bodkinref05_Types.calls kj37 t368 t388 _ A46.out).mono ?_
                 rintro e w68 ⟨v389, rfl, ho0, hb⟩
                 have HS6_ := (hb.cell (World.block_lt_of_cell? _ _ (hHeld.2.2.2.2.2.2.1))).trans (hHeld.2.2.2.2.2.2.1)
                 have HS7_ := (hb.cell (World.block_lt_of_cell? _ _ (hHeld.2.2.2.2.2.2.2.1))).trans (hHeld.2.2.2.2.2.2.2.1)
                 have HS8_ := (hb.cell (World.block_lt_of_cell? _ _ (hHeld.2.2.2.2.2.2.2.2.1))).trans (hHeld.2.2.2.2.2.2.2.2.1)
                 have HS9_ := (hb.cell (World.block_lt_of_cell? _ _ (hHeld.2.2.2.2.2.2.2.2.2.1))).trans (hHeld.2.2.2.2.2.2.2.2.2.1)
                 have HS10_ := (hb.cell (World.block_lt_of_cell? _ _ (hHeld.2.2.2.2.2.2.2.2.2.2))).trans (hHeld.2.2.2.2.2.2.2.2.2.2)
                 skip
                 refine ⟨_, rfl, ?_⟩
                 have n0_ := Aside0.mk (Kd.R_elder' (rl_ HO_9) (Kd.R_base ho0) hb)
                 have n1_ := Aside0.mk (Kd.R_below (rl_ HO_11) hb)
                 have n2_ := Aside0.mk (Kd.R_lower (Kd.R_new' ho0 (Kd.R_lt (rl_ HO_9))) (below_size bs_))
                 have n3_ := Aside0.mk (blk_below (g := gb363) (o := .cells #[.int .i64 x364000_2, .int .u64 x364001_2, .int .u64 x364002_2, .bool x364003_2] 33 (0, 0)) (by (with_reducible repeat (first | refine blk_drewN ?_ _ | refine blk_drew ?_ | refine blk_alloc ?_ _)); exact BK363.out) hb)
                 have n4_ := Aside0.mk (blk_below (g := gb370) (o := .cells #[.int .i64 t364, .string t365, .int .i64 t366, .string t367, .string t368, .bool t369] 25 (0, 0)) (by (with_reducible repeat (first | refine blk_drewN ?_ _ | refine blk_drew ?_ | refine blk_alloc ?_ _)); exact BK370.out) hb)
                 have n5_ := Aside0.mk (below_step bs_ hb)
                 clear HO_9
                 clear HO_11
                 clear BK363
                 clear BK370
                 clear HB
                 have HO_9 := n0_
                 have HO_11 := n1_
                 have HO390 := n2_
                 have BK363 := n3_
                 have BK370 := n4_
                 have HB := n5_
                 clear n0_ n1_ n2_ n3_ n4_ n5_
                 (try clear hb)
                 (try clear hb2)
                 (try clear hk)
                 (try clear hi)
                 (try clear ho0)
                 obtain ⟨Ao69, co69, eo69⟩ := Kd.R_slice HO390.out
                 (first | subst eo69 | (injection eo69 with f1_ f2_ f3_; have f4_ := f1_.symm; have f5_ := f3_.symm; clear f1_ f2_ f3_; subst f4_; subst f5_))
                 have p391 : 0 ≤ (0 : Int) := (by omega)
                 have q391 : 0 < (t388.length : Int) := od_
                 try (obtain ⟨ga_, ca_, hva_, _, _⟩ := Kd.R_reads HO390.out; subst hva_)
                 obtain ⟨ad391, e391, hx391_0⟩ := Kd.at_int (Kd.R_reads' HO390.out).2.2 0 p391 q391
                 cases e391
                 have qi391 : (0 < t388.length) = True := eq_true (by omega)
                 (try rw [show ((0 : Int)).toNat = 0 from rfl] at hx391_0)
                 (try rw [Addr.add_zero'] at hx391_0)
                 replace p391 := eq_true p391
                 replace q391 := eq_true q391
                 refine hK.out _ _ ⟨(blk_cell BK370.out 0).trans rfl, (blk_cell BK370.out 1).trans rfl, (blk_cell BK370.out 2).trans rfl, (blk_cell BK370.out 3).trans rfl, (blk_cell BK370.out 4).trans rfl, (blk_cell BK370.out 5).trans rfl, HS6_, HS7_, HS8_, HS9_, HS10_⟩ (fun hHeld => ?_)
                 clear hK K
                 refine more_ (S2 := fun w' => w'.cell? ⟨gb370, 0, none⟩ = some (.int .i64 t364) ∧ w'.cell? ⟨gb370, 1, none⟩ = some (.string t365) ∧ w'.cell? ⟨gb370, 2, none⟩ = some (.int .i64 t366) ∧ w'.cell? ⟨gb370, 3, none⟩ = some (.string t367) ∧ w'.cell? ⟨gb370, 4, none⟩ = some (.string t368) ∧ w'.cell? ⟨gb370, 5, none⟩ = some (.bool t369) ∧ w'.cell? ad386 = some (.int .i64 (rd t371 0)) ∧ w'.cell? ad392 = some (.int .i64 ((rd_T33 x11_2 0).f0)) ∧ w'.cell? ⟨ad392.block, ad392.off + 1, none⟩ = some (.int .u64 ((rd_T33 x11_2 0).f1)) ∧ w'.cell? ⟨ad392.block, ad392.off + 2, none⟩ = some (.int .u64 ((rd_T33 x11_2 0).f2)) ∧ w'.cell? ⟨ad392.block, ad392.off + 3, none⟩ = some (.bool ((rd_T33 x11_2 0).f3)) ∧ w'.cell? ad391 = some (.int .i64 (rd t388 0))) (fun _ ⟨a0, a1, a2, a3, a4, a5, a6, a7, a8, a9, a10, a11⟩ => ⟨a0, a1, a2, a3, a4, a5, a6, a7, a8, a9, a10⟩) _ _ _ _ ⟨(blk_cell BK370.out 0).trans rfl, (blk_cell BK370.out 1).trans rfl, (blk_cell BK370.out 2).trans rfl, (blk_cell BK370.out 3).trans rfl, (blk_cell BK370.out 4).trans rfl, (blk_cell BK370.out 5).trans rfl, HS6_, HS7_, HS8_, HS9_, HS10_, hx391_0⟩ ?_
                 replace hHeld := (show _ ∧ _ ∧ _ ∧ _ ∧ _ ∧ _ ∧ _ ∧ _ ∧ _ ∧ _ ∧ _ ∧ _ from ⟨(blk_cell BK370.out 0).trans rfl, (blk_cell BK370.out 1).trans rfl, (blk_cell BK370.out 2).trans rfl, (blk_cell BK370.out 3).trans rfl, (blk_cell BK370.out 4).trans rfl, (blk_cell BK370.out 5).trans rfl, HS6_, HS7_, HS8_, HS9_, HS10_, hx391_0⟩)
                 refine norm_ (a' := ?_) ?_ ?_
                 rotate_left
                 ·show Act.put _ (some 92) _ = _
                  simp only [Act.put, List.setIfInBounds_toArray, List.set_cons_zero, List.set_cons_succ, i64_w, i32_w]
                  rfl
                 refine pure_ (i := 10) (N := some 93) (v := ?_) (a' := ?_) #[true, true, true, true, true, true, true, true, true, true, true, false, true, true, true, true, true, true, true, true, false, false, false, false, false, false] rfl rfl (any_of HT_.out (by kernel_rfl)) (fun _ _ _ h => h) (Or.inl ⟨by rfl, ?_⟩) ?_ ?_
                 rotate_left
                 ·intro w'
                  go_simp
                  with_reducible rfl
                 rotate_left
                 ·simp only [Act.put, List.setIfInBounds_toArray, List.set_cons_zero, List.set_cons_succ, i64_w, i32_w]
                  rfl
                 refine take_ (i := 11) (N := some 94) (v := ?_) (a' := ?_) #[true, true, true, true, true, true, true, true, true, true, true, true, true, true, true, true, true, true, true, true, false, false, false, false, false, false] rfl rfl (take_ofW HT_.out HW_.out (by kernel_rfl)) (fun _ _ _ h => h) (Or.inl ⟨by rfl, ?_⟩) hHeld ?_ ?_
                 rotate_left
                 ·rintro w' ⟨s0, s1, s2, s3, s4, s5, s6, s7, s8, s9, s10, s11⟩
                  go_simp
                  with_reducible rfl
                 rotate_left
                 ·simp only [Act.put, List.setIfInBounds_toArray, List.set_cons_zero, List.set_cons_succ, i64_w, i32_w]
                  rfl
                 refine one_ (i := 20) (N := some 103) #[true, true, true, true, true, true, true, true, true, true, true, true, true, true, true, true, true, true, true, true, true, false, false, false, false, false] rfl rfl (one_of HT_.out (by kernel_rfl)) (by decide) (fun K hK => ?_)
                 refine goes_ Tryz.func35 (by kernel_rfl) rfl #[.string (t365.extract 0 1), .int .i64 t387, .int .i64 (rd t388 0), .string (t365.extract 4 t365.size), .int .u64 ((rd_T33 x11_2 0).f1), .int .u64 x13_37] (by rfl) rfl rfl mp_ ?_
                 with_reducible refine (bodkinref07_worked.calls kj37 (t365.extract 0 1) t387 (rd t388 0) (t365.extract 4 t365.size) ((rd_T33 x11_2 0).f1) x13_37 t393 t394 _ A50.out).mono ?_
                 rintro e w70 ⟨rfl, hb⟩
                 have HS6_ := (hb.cell (World.block_lt_of_cell? _ _ (hHeld.2.2.2.2.2.2.1))).trans (hHeld.2.2.2.2.2.2.1)
                 have HS7_ := (hb.cell (World.block_lt_of_cell? _ _ (hHeld.2.2.2.2.2.2.2.1))).trans (hHeld.2.2.2.2.2.2.2.1)
                 have HS8_ := (hb.cell (World.block_lt_of_cell? _ _ (hHeld.2.2.2.2.2.2.2.2.1))).trans (hHeld.2.2.2.2.2.2.2.2.1)
                 have HS9_ := (hb.cell (World.block_lt_of_cell? _ _ (hHeld.2.2.2.2.2.2.2.2.2.1))).trans (hHeld.2.2.2.2.2.2.2.2.2.1)
                 have HS10_ := (hb.cell (World.block_lt_of_cell? _ _ (hHeld.2.2.2.2.2.2.2.2.2.2.1))).trans (hHeld.2.2.2.2.2.2.2.2.2.2.1)
                 have HS11_ := (hb.cell (World.block_lt_of_cell? _ _ (hHeld.2.2.2.2.2.2.2.2.2.2.2))).trans (hHeld.2.2.2.2.2.2.2.2.2.2.2)
                 refine ⟨_, rfl, ?_⟩
                 have n0_ := Aside0.mk (Kd.R_below (rl_ HO_9) hb)
                 have n1_ := Aside0.mk (Kd.R_below (rl_ HO_11) hb)
                 have n2_ := Aside0.mk (Kd.R_below (rl_ HO390) hb)
                 have n3_ := Aside0.mk (blk_below (g := gb363) (o := .cells #[.int .i64 x364000_2, .int .u64 x364001_2, .int .u64 x364002_2, .bool x364003_2] 33 (0, 0)) (by (with_reducible repeat (first | refine blk_drewN ?_ _ | refine blk_drew ?_ | refine blk_alloc ?_ _)); exact BK363.out) hb)
                 have n4_ := Aside0.mk (blk_below (g := gb370) (o := .cells #[.int .i64 t364, .string t365, .int .i64 t366, .string t367, .string t368, .bool t369] 25 (0, 0)) (by (with_reducible repeat (first | refine blk_drewN ?_ _ | refine blk_drew ?_ | refine blk_alloc ?_ _)); exact BK370.out) hb)
                 have n5_ := Aside0.mk (below_step bs_ hb)
                 clear HO_9
                 clear HO_11
                 clear HO390
                 clear BK363
                 clear BK370
                 clear HB
                 have HO_9 := n0_
                 have HO_11 := n1_
                 have HO390 := n2_
                 have BK363 := n3_
                 have BK370 := n4_
                 have HB := n5_
                 clear n0_ n1_ n2_ n3_ n4_ n5_
                 (try clear hb)
                 (try clear hb2)
                 (try clear hk)
                 (try clear hi)
                 refine hK.out _ _ ⟨(blk_cell BK370.out 0).trans rfl, (blk_cell BK370.out 1).trans rfl, (blk_cell BK370.out 2).trans rfl, (blk_cell BK370.out 3).trans rfl, (blk_cell BK370.out 4).trans rfl, (blk_cell BK370.out 5).trans rfl, HS6_, HS7_, HS8_, HS9_, HS10_, HS11_⟩ (fun hHeld => ?_)
                 clear hK K
                 refine norm_ (a' := ?_) ?_ ?_
                 rotate_left
                 ·show Act.put _ (some 103) _ = _
                  simp only [Act.put, List.setIfInBounds_toArray, List.set_cons_zero, List.set_cons_succ, i64_w, i32_w]
                  rfl
                 refine pure_ (i := 21) (N := some 82) (v := ?_) (a' := ?_) #[true, true, true, true, true, true, true, true, true, true, true, true, true, true, true, true, true, true, true, true, true, true, false, false, false, false] rfl rfl (any_of HT_.out (by kernel_rfl)) (fun _ _ _ h => h) (Or.inl ⟨by rfl, ?_⟩) ?_ ?_
                 rotate_left
                 ·intro w'
                  go_simp
                  with_reducible rfl
                 rotate_left
                 ·simp only [Act.put, List.setIfInBounds_toArray, List.set_cons_zero, List.set_cons_succ, i64_w, i32_w]
                  rfl
                 refine pure_ (i := 22) (N := some 104) (v := ?_) (a' := ?_) #[true, true, true, true, true, true, true, true, true, true, true, true, true, true, true, true, true, true, true, true, true, true, true, false, false, false] rfl rfl (any_of HT_.out (by kernel_rfl)) (fun _ _ _ h => h) (Or.inl ⟨by rfl, ?_⟩) ?_ ?_
                 rotate_left
                 ·intro w'
                  go_simp
                  with_reducible rfl
                 rotate_left
                 ·simp only [Act.put, List.setIfInBounds_toArray, List.set_cons_zero, List.set_cons_succ, i64_w, i32_w]
                  rfl
                 refine pure_ (i := 23) (N := some 105) (v := ?_) (a' := ?_) #[true, true, true, true, true, true, true, true, true, true, true, true, true, true, true, true, true, true, true, true, true, true, true, true, false, false] rfl rfl (any_of HT_.out (by kernel_rfl)) (fun _ _ _ h => h) (Or.inl ⟨by rfl, ?_⟩) ?_ ?_
                 rotate_left
                 ·intro w'
                  go_simp
                  with_reducible rfl
                 rotate_left
                 ·simp only [Act.put, List.setIfInBounds_toArray, List.set_cons_zero, List.set_cons_succ, i64_w, i32_w]
                  rfl
                 refine pure_ (i := 24) (N := some 14) (v := ?_) (a' := ?_) #[true, true, true, true, true, true, true, true, true, true, true, true, true, true, true, true, true, true, true, true, true, true, true, true, true, false] rfl rfl (any_of HT_.out (by kernel_rfl)) (fun _ _ _ h => h) (Or.inl ⟨by rfl, ?_⟩) ?_ ?_
                 rotate_left
                 ·intro w'
                  go_simp
                  with_reducible rfl
                 rotate_left
                 ·simp only [Act.put, List.setIfInBounds_toArray, List.set_cons_zero, List.set_cons_succ, i64_w, i32_w]
                  rfl
                 refine pure_ (i := 25) (N := some 15) (v := ?_) (a' := ?_) #[true, true, true, true, true, true, true, true, true, true, true, true, true, true, true, true, true, true, true, true, true, true, true, true, true, true] rfl rfl (any_of HT_.out (by kernel_rfl)) (fun _ _ _ h => h) (Or.inl ⟨by rfl, ?_⟩) ?_ ?_
                 rotate_left
                 ·intro w'
                  go_simp
                  with_reducible rfl
                 rotate_left
                 ·simp only [Act.put, List.setIfInBounds_toArray, List.set_cons_zero, List.set_cons_succ, i64_w, i32_w]
                  rfl
                 refine done_ (done_of HT_.out (by kernel_rfl)) ?_
                 have hnb71 := NB363_370.out
                 have hnc71 := NB370_363.out
                 have hcz72_0 : w70.cell? ⟨gb363, 0, none⟩ = some (.int .i64 x364000_2) := (blk_cell BK363.out 0).trans rfl
                 have hcz72_1 : w70.cell? ⟨gb363, 1, none⟩ = some (.int .u64 x364001_2) := (blk_cell BK363.out 1).trans rfl
                 have hcz72_2 : w70.cell? ⟨gb363, 2, none⟩ = some (.int .u64 x364002_2) := (blk_cell BK363.out 2).trans rfl
                 have hcz72_3 : w70.cell? ⟨gb363, 3, none⟩ = some (.bool x364003_2) := (blk_cell BK363.out 3).trans rfl
                 have hfz72_0 := blk_frozen BK363.out 0
                 have hfz72_1 := blk_frozen BK363.out 1
                 have hfz72_2 := blk_frozen BK363.out 2
                 have hfz72_3 := blk_frozen BK363.out 3
                 try go_wp2
                 refine bodyPost_ret (results_ct rfl _ _ gb363 33 #[.int .i64 0, .int .u64 0, .int .u64 0, .bool false] (0, 0) _ rfl (by (with_reducible repeat (first | refine blk_drewN ?_ _ | refine blk_drew ?_ | refine blk_alloc ?_ _)); refine blk_put (cs := #[.int .i64 0, .int .u64 0, .int .u64 0, .bool x364003_2]) ?_ 3 _ rfl; (with_reducible repeat (first | refine blk_drewN ?_ _ | refine blk_drew ?_ | refine blk_alloc ?_ _)); refine blk_put (cs := #[.int .i64 0, .int .u64 0, .int .u64 x364002_2, .bool x364003_2]) ?_ 2 _ rfl; (with_reducible repeat (first | refine blk_drewN ?_ _ | refine blk_drew ?_ | refine blk_alloc ?_ _)); refine blk_put (cs := #[.int .i64 0, .int .u64 x364001_2, .int .u64 x364002_2, .bool x364003_2]) ?_ 1 _ rfl; (with_reducible repeat (first | refine blk_drewN ?_ _ | refine blk_drew ?_ | refine blk_alloc ?_ _)); refine blk_put (cs := #[.int .i64 x364000_2, .int .u64 x364001_2, .int .u64 x364002_2, .bool x364003_2]) ?_ 0 _ rfl; (with_reducible repeat (first | refine blk_drewN ?_ _ | refine blk_drew ?_ | refine blk_alloc ?_ _)); exact BK363.out) Tryz.underlying33 rfl (by kernel_rfl)) rfl ?_
                 exact ⟨er_, bs_⟩
               ·rw [if_neg c49] at H
                exact absurd H (by simp)
              ·rw [if_neg c48] at H
               exact absurd H (by simp)
             ·rw [if_neg c47] at H
              exact absurd H (by simp)
            ·rw [if_neg c44] at H
             exact absurd H (by simp)
           ·rw [if_neg c43] at H
            exact absurd H (by simp)
          ·rw [if_neg c42] at H
           exact absurd H (by simp)
end Go.Proofs.YtkhhhceeoljheaaGreatDoor.PInt

-- Printed by a program of this session (pr.py over the print) for the claim. Not trusted: Lean checks it.
import Derived.Test.YtiopaclofkncaaaDoorPOpsx0
import Derived.Test.YtiopaclofkncaaaDoorPOpsx1
import Derived.Test.YtiopaclofkncaaaDoorPOpsx2
import Derived.Test.YtiopaclofkncaaaDoorPOpsx3
import Derived.Test.YtiopaclofkncaaaDoorPOpsx4
import Derived.Test.YtiopaclofkncaaaDoorPOpsx5
import Derived.Test.YtiopaclofkncaaaDoorPOpsx7
namespace Go.Proofs.YtiopaclofkncaaaDoor.POps
open Go.RowKit Go.Proofs.YtiopaclofkncaaaDoorW.PrintWords Go.Proofs.YtiopaclofkncaaaDoorW.PrintLast Go.Proofs.YtiopaclofkncaaaDoorW.PrintMore
attribute [local go_sem] max2_int min2_int max_two min_two max_three min_three max_four min_four   -- for this text's walks alone
set_option linter.unusedVariables false
set_option linter.unusedSimpArgs false

/-! ### bodkinlaw05_OpsPlaces: function 6 -/
def bodkinlaw05_OpsPlaces.f (k : Nat) (a0 : Int) : Option (Bool) := (bodkinlaw05_awake.f k).bind fun t286 => (if t286 = true then ((ops_Align.f k a0).bind fun t287 => ((bodkinref05_Align.f k a0).bind fun t288 => (if t287 = t288 then ((ops_Lanes.f k a0).bind fun t289 => ((bodkinref05_Lanes.f k a0).bind fun t290 => (some (t289 == t290)))) else (none)))) else (some false))
theorem bodkinlaw05_OpsPlaces.mono : ∀ a0 k, LeO (bodkinlaw05_OpsPlaces.f k a0) (bodkinlaw05_OpsPlaces.f (k + 1) a0) := by
 intro a0 k
 unfold bodkinlaw05_OpsPlaces.f
 repeat' first
   | (with_reducible exact bodkinlaw05_awake.mono _)
   | (with_reducible exact bodkinref05_Align.mono _ _)
   | (with_reducible exact bodkinref05_Lanes.mono _ _)
   | (with_reducible exact ops_Align.mono _ _)
   | (with_reducible exact ops_Lanes.mono _ _)
   | (with_reducible exact LeO.refl _)
   | (with_reducible exact LeO.none _)
   | (with_reducible refine LeO.ite ?_ ?_)
   | (with_reducible refine LeO.bind ?_ (fun _ => ?_))
   | exact bodkinlaw05_awake.mono _
   | exact bodkinref05_Align.mono _ _
   | exact bodkinref05_Lanes.mono _ _
   | exact ops_Align.mono _ _
   | exact ops_Lanes.mono _ _
   | exact LeO.none _
   | refine LeO.ite ?_ ?_
   | refine LeO.bind ?_ (fun _ => ?_)
set_option maxHeartbeats 8000000 in
set_option maxRecDepth 100000 in
theorem bodkinlaw05_OpsPlaces.calls (k : Nat) (a0 : Int) (r : Bool) (w : World) (h : bodkinlaw05_OpsPlaces.f k a0 = some r) (hG : GG w) :
  Calls Tryd.prog 6 #[.int .i64 a0] w fun e w' => e = .returned (.bool r) ∧ Below w.heap.size w w' := by
 have HB := Aside0.mk (Below.refl w.heap.size w)
 have H : ((bodkinlaw05_awake.f k).bind fun t286 => (if t286 = true then ((ops_Align.f k a0).bind fun t287 => ((bodkinref05_Align.f k a0).bind fun t288 => (if t287 = t288 then ((ops_Lanes.f k a0).bind fun t289 => ((bodkinref05_Lanes.f k a0).bind fun t290 => (some (t289 == t290)))) else (none)))) else (some false))) = some r := h
 clear h
 replace H := Option.bind_eq_some_iff.mp H
 obtain ⟨t286, A20, H⟩ := H
 replace H : (if t286 = true then ((ops_Align.f k a0).bind fun t287 => ((bodkinref05_Align.f k a0).bind fun t288 => (if t287 = t288 then ((ops_Lanes.f k a0).bind fun t289 => ((bodkinref05_Lanes.f k a0).bind fun t290 => (some (t289 == t290)))) else (none)))) else (some false)) = some r := H
 have A2 := Aside0.mk A20
 clear A20
 by_cases c3 : t286 = true
 ·subst c3
  have H1 : ((ops_Align.f k a0).bind fun t287 => ((bodkinref05_Align.f k a0).bind fun t288 => (if t287 = t288 then ((ops_Lanes.f k a0).bind fun t289 => ((bodkinref05_Lanes.f k a0).bind fun t290 => (some (t289 == t290)))) else (none)))) = some r := by rw [if_pos rfl] at H; exact H
  clear H
  have H := H1
  clear H1
  replace H := Option.bind_eq_some_iff.mp H
  obtain ⟨t287, A40, H⟩ := H
  replace H : ((bodkinref05_Align.f k a0).bind fun t288 => (if t287 = t288 then ((ops_Lanes.f k a0).bind fun t289 => ((bodkinref05_Lanes.f k a0).bind fun t290 => (some (t289 == t290)))) else (none))) = some r := H
  have A4 := Aside0.mk A40
  clear A40
  replace H := Option.bind_eq_some_iff.mp H
  obtain ⟨t288, A50, H⟩ := H
  replace H : (if t287 = t288 then ((ops_Lanes.f k a0).bind fun t289 => ((bodkinref05_Lanes.f k a0).bind fun t290 => (some (t289 == t290)))) else (none)) = some r := H
  have A5 := Aside0.mk A50
  clear A50
  by_cases c6 : t287 = t288
  ·rw [if_pos c6] at H
   have c6b0 : (t287 == t288) = true := beq_iff_eq.mpr c6
   have c6b1 : (t287 != t288) = false := bne_eq_false_iff_eq.mpr c6
   clear c6
   replace H := Option.bind_eq_some_iff.mp H
   obtain ⟨t289, A70, H⟩ := H
   replace H : ((bodkinref05_Lanes.f k a0).bind fun t290 => (some (t289 == t290))) = some r := H
   have A7 := Aside0.mk A70
   clear A70
   replace H := Option.bind_eq_some_iff.mp H
   obtain ⟨t290, A80, H⟩ := H
   replace H : (some (t289 == t290)) = some r := H
   have A8 := Aside0.mk A80
   clear A80
   obtain rfl := Option.some.inj H
   go_enter Tryd.func6, Tryd.ntmps6
   go_wp2_with (first | ((with_reducible refine gate_callee (f := 8) rfl ?_); refine goesL_ (some 4) rfl rfl Tryd.func8 (by kernel_rfl) rfl #[] rfl (by (try simp only [List.map_toArray, List.map_cons, List.map_nil]); first | done | rfl | (simp only [List.length_drop, List.length_take]; rfl)) ?_; (with_reducible refine (bodkinlaw05_awake.calls k  true _ A2.out (by repeat first | exact hG | refine GG.below hG ?_ | exact HB.out | exact Below.refl _ _ | assumption | apply below_alloc | apply pw_below_drewN | apply below_drew1 | refine below_set ?_ (Aside0.out (by assumption)))).mono ?_); rintro e w9 ⟨rfl, hb⟩; refine ⟨_, rfl, ?_⟩; have n0_ := Aside0.mk (below_step (by repeat (first | (with_reducible first | exact HB.out | apply below_alloc | apply pw_below_drewN | apply below_drew1) | exact HB.out)) hb); clear HB; have HB := n0_; clear n0_; (try clear hb); (try clear hb2); (try clear hk); (try clear hi)) | ((with_reducible refine gate_callee (f := 16) rfl ?_); refine goesL_ (some 8) rfl rfl Tryd.func16 (by kernel_rfl) rfl #[.int .i64 a0] rfl (by (try simp only [List.map_toArray, List.map_cons, List.map_nil]); first | done | rfl | (simp only [List.length_drop, List.length_take]; rfl)) ?_; (with_reducible refine (ops_Align.calls k a0 t287 _ A4.out (by repeat first | exact hG | refine GG.below hG ?_ | exact HB.out | exact Below.refl _ _ | assumption | apply below_alloc | apply pw_below_drewN | apply below_drew1 | refine below_set ?_ (Aside0.out (by assumption)))).mono ?_); rintro e w10 ⟨rfl, hb⟩; refine ⟨_, rfl, ?_⟩; have n0_ := Aside0.mk (below_step (by repeat (first | (with_reducible first | exact HB.out | apply below_alloc | apply pw_below_drewN | apply below_drew1) | exact HB.out)) hb); clear HB; have HB := n0_; clear n0_; (try clear hb); (try clear hb2); (try clear hk); (try clear hi)) | ((with_reducible refine gate_callee (f := 17) rfl ?_); refine goesL_ (some 10) rfl rfl Tryd.func17 (by kernel_rfl) rfl #[.int .i64 a0] rfl (by (try simp only [List.map_toArray, List.map_cons, List.map_nil]); first | done | rfl | (simp only [List.length_drop, List.length_take]; rfl)) ?_; (with_reducible refine (bodkinref05_Align.calls k a0 t288 _ A5.out (by repeat first | exact hG | refine GG.below hG ?_ | exact HB.out | exact Below.refl _ _ | assumption | apply below_alloc | apply pw_below_drewN | apply below_drew1 | refine below_set ?_ (Aside0.out (by assumption)))).mono ?_); rintro e w11 ⟨rfl, hb⟩; refine ⟨_, rfl, ?_⟩; have n0_ := Aside0.mk (below_step (by repeat (first | (with_reducible first | exact HB.out | apply below_alloc | apply pw_below_drewN | apply below_drew1) | exact HB.out)) hb); clear HB; have HB := n0_; clear n0_; (try clear hb); (try clear hb2); (try clear hk); (try clear hi)) | (go_at_call 18; (with_reducible refine (ops_Lanes.calls k a0 t289 _ A7.out (by repeat first | exact hG | refine GG.below hG ?_ | exact HB.out | exact Below.refl _ _ | assumption | apply below_alloc | apply pw_below_drewN | apply below_drew1 | refine below_set ?_ (Aside0.out (by assumption)))).mono ?_); rintro e w12 ⟨rfl, hb⟩; have n0_ := Aside0.mk (below_step (by repeat (first | (with_reducible first | exact HB.out | apply below_alloc | apply pw_below_drewN | apply below_drew1) | exact HB.out)) hb); clear HB; have HB := n0_; clear n0_; (try clear hb); (try clear hb2); (try clear hk); (try clear hi)) | (go_at_call 19; (with_reducible refine (bodkinref05_Lanes.calls k a0 t290 _ A8.out (by repeat first | exact hG | refine GG.below hG ?_ | exact HB.out | exact Below.refl _ _ | assumption | apply below_alloc | apply pw_below_drewN | apply below_drew1 | refine below_set ?_ (Aside0.out (by assumption)))).mono ?_); rintro e w13 ⟨rfl, hb⟩; have n0_ := Aside0.mk (below_step (by repeat (first | (with_reducible first | exact HB.out | apply below_alloc | apply pw_below_drewN | apply below_drew1) | exact HB.out)) hb); clear HB; have HB := n0_; clear n0_; (try clear hb); (try clear hb2); (try clear hk); (try clear hi)))
   go_ret
   exact ⟨by first | rfl | (simp [errW_none, errW_some] <;> rfl) | (simp [*, errW_none, errW_some] <;> rfl) | (rw [Int.tdiv_eq_ediv_of_nonneg] <;> first | rfl | decide) | (simp [errW_none, errW_some] <;> exact isEmpty_bne _), by repeat (first | (with_reducible first | exact HB.out | apply below_alloc | apply pw_below_drewN | apply below_drew1) | exact HB.out)⟩
  ·rw [if_neg c6] at H
   exact absurd H (by simp)
 ·replace c3 := Bool.eq_false_iff.mpr c3
  subst c3
  have H1 : (some false) = some r := by rw [if_neg (show ¬ (false = true) by decide)] at H; exact H
  clear H
  have H := H1
  clear H1
  obtain rfl := Option.some.inj H
  go_enter Tryd.func6, Tryd.ntmps6
  go_wp2_with (first | ((with_reducible refine gate_callee (f := 8) rfl ?_); refine goesL_ (some 4) rfl rfl Tryd.func8 (by kernel_rfl) rfl #[] rfl (by (try simp only [List.map_toArray, List.map_cons, List.map_nil]); first | done | rfl | (simp only [List.length_drop, List.length_take]; rfl)) ?_; (with_reducible refine (bodkinlaw05_awake.calls k  false _ A2.out (by repeat first | exact hG | refine GG.below hG ?_ | exact HB.out | exact Below.refl _ _ | assumption | apply below_alloc | apply pw_below_drewN | apply below_drew1 | refine below_set ?_ (Aside0.out (by assumption)))).mono ?_); rintro e w14 ⟨rfl, hb⟩; refine ⟨_, rfl, ?_⟩; have n0_ := Aside0.mk (below_step (by repeat (first | (with_reducible first | exact HB.out | apply below_alloc | apply pw_below_drewN | apply below_drew1) | exact HB.out)) hb); clear HB; have HB := n0_; clear n0_; (try clear hb); (try clear hb2); (try clear hk); (try clear hi)))
  go_ret
  exact ⟨by first | rfl | (simp [errW_none, errW_some] <;> rfl) | (simp [*, errW_none, errW_some] <;> rfl) | (rw [Int.tdiv_eq_ediv_of_nonneg] <;> first | rfl | decide) | (simp [errW_none, errW_some] <;> exact isEmpty_bne _), by repeat (first | (with_reducible first | exact HB.out | apply below_alloc | apply pw_below_drewN | apply below_drew1) | exact HB.out)⟩

/-- THE ONE PURE STATEMENT of bodkinlaw05_OpsPlaces: yours. -/
def bodkinlaw05_OpsPlaces.Pure : Prop := ∀ (a0 : Int), (Lit.int .i64 a0).wf = true → ∃ k, bodkinlaw05_OpsPlaces.f k a0 = some true
theorem bodkinlaw05_OpsPlaces.walk (P : bodkinlaw05_OpsPlaces.Pure) (a0 : Int) (w : World) (w0 : (Lit.int .i64 a0).wf = true) (hG : GG w) :
  Calls Tryd.prog 6 #[.int .i64 a0] w fun e w' => e = .returned (.bool true) ∧ Below w.heap.size w w' := by
 obtain ⟨k, h⟩ := P a0 w0
 refine (bodkinlaw05_OpsPlaces.calls k a0 true w h hG).mono ?_
 rintro e w' ⟨rfl, hd⟩
 exact ⟨rfl, hd⟩

/-! ### bodkinlaw05_OpsSigns: function 7 -/
mutual
def bodkinlaw05_OpsSigns.l0 : Nat → Int → List Int → List Int → Bool → Int → Int → ByteArray → Int → ByteArray → ByteArray → Bool → Option (Bool)
 | 0, _, _, _, _, _, _, _, _, _, _, _ => none
 | k + 1, x0, x5, x6, x8, x9, x299000, x299001, x299002, x299003, x299004, x299005 => if x9 < (x5.length : Int) then (if 0 ≤ x9 then (bodkinlaw05_OpsSigns.l0 k x0 (x5.set (x9 : Int).toNat 0) x6 x8 (wrap64 (x9 + 1)) x299000 x299001 x299002 x299003 x299004 x299005) else (none)) else (bodkinlaw05_OpsSigns.l1 k x0 x6 x8 0 x299000 x299001 x299002 x299003 x299004 x299005)
def bodkinlaw05_OpsSigns.l1 : Nat → Int → List Int → Bool → Int → Int → ByteArray → Int → ByteArray → ByteArray → Bool → Option (Bool)
 | 0, _, _, _, _, _, _, _, _, _, _ => none
 | k + 1, x0, x6, x8, x10, x299000, x299001, x299002, x299003, x299004, x299005 => if x10 < (x6.length : Int) then (if 0 ≤ x10 then (bodkinlaw05_OpsSigns.l1 k x0 (x6.set (x10 : Int).toNat 0) x8 (wrap64 (x10 + 1)) x299000 x299001 x299002 x299003 x299004 x299005) else (none)) else ((ops_Sign.f x0).bind fun bt316 => (if x8 = true then ((bodkinref05_Types.f k x299003).bind fun t323 => ((bodkinref05_Same.f k bt316.1 t323).bind fun t326 => (if t326 = true then ((bodkinref05_Types.f k x299004).bind fun t327 => ((bodkinref05_Same.f k bt316.2.1 t327).bind fun t330 => (some t330))) else (none)))) else (none)))
end
def bodkinlaw05_OpsSigns.f (k : Nat) (a0 : Int) : Option (Bool) := (bodkinlaw05_awake.f k).bind fun t291 => (if t291 = true then ((bodkinref05_Of.f k a0).bind fun bt292 => ((ops_Sign.f a0).bind fun bt299 => ((bodkinref05_Types.f k bt292.2.2.2.1).bind fun t306 => ((bodkinref05_Same.f k bt299.1 t306).bind fun t309 => (if t309 = true then ((bodkinref05_Types.f k bt292.2.2.2.2.1).bind fun t310 => ((bodkinref05_Same.f k bt299.2.1 t310).bind fun t313 => (if t313 = true then (bodkinlaw05_OpsSigns.l0 k a0 bt299.1 bt299.2.1 (bt299.2.2 == bt292.2.2.2.2.2) 0 bt292.1 bt292.2.1 bt292.2.2.1 bt292.2.2.2.1 bt292.2.2.2.2.1 bt292.2.2.2.2.2) else (none)))) else (none)))))) else (some false))
theorem bodkinlaw05_OpsSigns.mono_l : ∀ k, (∀ y0 y1 y2 y3 y4 y5 y6 y7 y8 y9 y10, LeO (bodkinlaw05_OpsSigns.l0 k y0 y1 y2 y3 y4 y5 y6 y7 y8 y9 y10) (bodkinlaw05_OpsSigns.l0 (k + 1) y0 y1 y2 y3 y4 y5 y6 y7 y8 y9 y10)) ∧ (∀ y0 y1 y2 y3 y4 y5 y6 y7 y8 y9, LeO (bodkinlaw05_OpsSigns.l1 k y0 y1 y2 y3 y4 y5 y6 y7 y8 y9) (bodkinlaw05_OpsSigns.l1 (k + 1) y0 y1 y2 y3 y4 y5 y6 y7 y8 y9))
 | 0 => ⟨fun _ _ _ _ _ _ _ _ _ _ _ r h => by simp [bodkinlaw05_OpsSigns.l0] at h, fun _ _ _ _ _ _ _ _ _ _ r h => by simp [bodkinlaw05_OpsSigns.l1] at h⟩
 | k + 1 => by
  obtain ⟨ih0, ih1⟩ := bodkinlaw05_OpsSigns.mono_l k
  refine ⟨?_, ?_⟩
  ·intro y0 y1 y2 y3 y4 y5 y6 y7 y8 y9 y10
   unfold bodkinlaw05_OpsSigns.l0
   repeat' first
   | (with_reducible exact ih0 _ _ _ _ _ _ _ _ _ _ _)
   | (with_reducible exact ih1 _ _ _ _ _ _ _ _ _ _)
   | (with_reducible exact bodkinlaw05_awake.mono _)
   | (with_reducible exact bodkinref05_Of.mono _ _)
   | (with_reducible exact bodkinref05_Same.mono _ _ _)
   | (with_reducible exact bodkinref05_Types.mono _ _)
   | (with_reducible exact LeO.refl _)
   | (with_reducible exact LeO.none _)
   | (with_reducible refine LeO.ite ?_ ?_)
   | (with_reducible refine LeO.bind ?_ (fun _ => ?_))
   | exact ih0 _ _ _ _ _ _ _ _ _ _ _
   | exact ih1 _ _ _ _ _ _ _ _ _ _
   | exact bodkinlaw05_awake.mono _
   | exact bodkinref05_Of.mono _ _
   | exact bodkinref05_Same.mono _ _ _
   | exact bodkinref05_Types.mono _ _
   | exact LeO.none _
   | refine LeO.ite ?_ ?_
   | refine LeO.bind ?_ (fun _ => ?_)
  ·intro y0 y1 y2 y3 y4 y5 y6 y7 y8 y9
   unfold bodkinlaw05_OpsSigns.l1
   repeat' first
   | (with_reducible exact ih0 _ _ _ _ _ _ _ _ _ _ _)
   | (with_reducible exact ih1 _ _ _ _ _ _ _ _ _ _)
   | (with_reducible exact bodkinlaw05_awake.mono _)
   | (with_reducible exact bodkinref05_Of.mono _ _)
   | (with_reducible exact bodkinref05_Same.mono _ _ _)
   | (with_reducible exact bodkinref05_Types.mono _ _)
   | (with_reducible exact LeO.refl _)
   | (with_reducible exact LeO.none _)
   | (with_reducible refine LeO.ite ?_ ?_)
   | (with_reducible refine LeO.bind ?_ (fun _ => ?_))
   | exact ih0 _ _ _ _ _ _ _ _ _ _ _
   | exact ih1 _ _ _ _ _ _ _ _ _ _
   | exact bodkinlaw05_awake.mono _
   | exact bodkinref05_Of.mono _ _
   | exact bodkinref05_Same.mono _ _ _
   | exact bodkinref05_Types.mono _ _
   | exact LeO.none _
   | refine LeO.ite ?_ ?_
   | refine LeO.bind ?_ (fun _ => ?_)
theorem bodkinlaw05_OpsSigns.mono : ∀ a0 k, LeO (bodkinlaw05_OpsSigns.f k a0) (bodkinlaw05_OpsSigns.f (k + 1) a0) := by
 intro a0 k
 obtain ⟨ih0, ih1⟩ := bodkinlaw05_OpsSigns.mono_l k
 unfold bodkinlaw05_OpsSigns.f
 repeat' first
   | (with_reducible exact ih0 _ _ _ _ _ _ _ _ _ _ _)
   | (with_reducible exact ih1 _ _ _ _ _ _ _ _ _ _)
   | (with_reducible exact bodkinlaw05_awake.mono _)
   | (with_reducible exact bodkinref05_Of.mono _ _)
   | (with_reducible exact bodkinref05_Same.mono _ _ _)
   | (with_reducible exact bodkinref05_Types.mono _ _)
   | (with_reducible exact LeO.refl _)
   | (with_reducible exact LeO.none _)
   | (with_reducible refine LeO.ite ?_ ?_)
   | (with_reducible refine LeO.bind ?_ (fun _ => ?_))
   | exact ih0 _ _ _ _ _ _ _ _ _ _ _
   | exact ih1 _ _ _ _ _ _ _ _ _ _
   | exact bodkinlaw05_awake.mono _
   | exact bodkinref05_Of.mono _ _
   | exact bodkinref05_Same.mono _ _ _
   | exact bodkinref05_Types.mono _ _
   | exact LeO.none _
   | refine LeO.ite ?_ ?_
   | refine LeO.bind ?_ (fun _ => ?_)
set_option maxHeartbeats 8000000 in
set_option maxRecDepth 100000 in
theorem bodkinlaw05_OpsSigns.calls (k : Nat) (a0 : Int) (r : Bool) (w : World) (h : bodkinlaw05_OpsSigns.f k a0 = some r) (hG : GG w) :
  Calls Tryd.prog 7 #[.int .i64 a0] w fun e w' => e = .returned (.bool r) ∧ Below w.heap.size w w' := by
 have hu24 := Tryd.underlying24
 have HB := Aside0.mk (Below.refl w.heap.size w)
 have H : ((bodkinlaw05_awake.f k).bind fun t291 => (if t291 = true then ((bodkinref05_Of.f k a0).bind fun bt292 => ((ops_Sign.f a0).bind fun bt299 => ((bodkinref05_Types.f k bt292.2.2.2.1).bind fun t306 => ((bodkinref05_Same.f k bt299.1 t306).bind fun t309 => (if t309 = true then ((bodkinref05_Types.f k bt292.2.2.2.2.1).bind fun t310 => ((bodkinref05_Same.f k bt299.2.1 t310).bind fun t313 => (if t313 = true then (bodkinlaw05_OpsSigns.l0 k a0 bt299.1 bt299.2.1 (bt299.2.2 == bt292.2.2.2.2.2) 0 bt292.1 bt292.2.1 bt292.2.2.1 bt292.2.2.2.1 bt292.2.2.2.2.1 bt292.2.2.2.2.2) else (none)))) else (none)))))) else (some false))) = some r := h
 clear h
 replace H := Option.bind_eq_some_iff.mp H
 obtain ⟨t291, A20, H⟩ := H
 replace H : (if t291 = true then ((bodkinref05_Of.f k a0).bind fun bt292 => ((ops_Sign.f a0).bind fun bt299 => ((bodkinref05_Types.f k bt292.2.2.2.1).bind fun t306 => ((bodkinref05_Same.f k bt299.1 t306).bind fun t309 => (if t309 = true then ((bodkinref05_Types.f k bt292.2.2.2.2.1).bind fun t310 => ((bodkinref05_Same.f k bt299.2.1 t310).bind fun t313 => (if t313 = true then (bodkinlaw05_OpsSigns.l0 k a0 bt299.1 bt299.2.1 (bt299.2.2 == bt292.2.2.2.2.2) 0 bt292.1 bt292.2.1 bt292.2.2.1 bt292.2.2.2.1 bt292.2.2.2.2.1 bt292.2.2.2.2.2) else (none)))) else (none)))))) else (some false)) = some r := H
 have A2 := Aside0.mk A20
 clear A20
 by_cases c3 : t291 = true
 ·subst c3
  have H1 : ((bodkinref05_Of.f k a0).bind fun bt292 => ((ops_Sign.f a0).bind fun bt299 => ((bodkinref05_Types.f k bt292.2.2.2.1).bind fun t306 => ((bodkinref05_Same.f k bt299.1 t306).bind fun t309 => (if t309 = true then ((bodkinref05_Types.f k bt292.2.2.2.2.1).bind fun t310 => ((bodkinref05_Same.f k bt299.2.1 t310).bind fun t313 => (if t313 = true then (bodkinlaw05_OpsSigns.l0 k a0 bt299.1 bt299.2.1 (bt299.2.2 == bt292.2.2.2.2.2) 0 bt292.1 bt292.2.1 bt292.2.2.1 bt292.2.2.2.1 bt292.2.2.2.2.1 bt292.2.2.2.2.2) else (none)))) else (none)))))) = some r := by rw [if_pos rfl] at H; exact H
  clear H
  have H := H1
  clear H1
  replace H := Option.bind_eq_some_iff.mp H
  obtain ⟨⟨t292, t293, t294, t295, t296, t297⟩, A40, H⟩ := H
  replace H : ((ops_Sign.f a0).bind fun bt299 => ((bodkinref05_Types.f k t295).bind fun t306 => ((bodkinref05_Same.f k bt299.1 t306).bind fun t309 => (if t309 = true then ((bodkinref05_Types.f k t296).bind fun t310 => ((bodkinref05_Same.f k bt299.2.1 t310).bind fun t313 => (if t313 = true then (bodkinlaw05_OpsSigns.l0 k a0 bt299.1 bt299.2.1 (bt299.2.2 == t297) 0 t292 t293 t294 t295 t296 t297) else (none)))) else (none))))) = some r := H
  have A4 := Aside0.mk A40
  clear A40
  replace H := Option.bind_eq_some_iff.mp H
  obtain ⟨⟨t299, t300, t301⟩, A50, H⟩ := H
  replace H : ((bodkinref05_Types.f k t295).bind fun t306 => ((bodkinref05_Same.f k t299 t306).bind fun t309 => (if t309 = true then ((bodkinref05_Types.f k t296).bind fun t310 => ((bodkinref05_Same.f k t300 t310).bind fun t313 => (if t313 = true then (bodkinlaw05_OpsSigns.l0 k a0 t299 t300 (t301 == t297) 0 t292 t293 t294 t295 t296 t297) else (none)))) else (none)))) = some r := H
  have A5 := Aside0.mk A50
  clear A50
  replace H := Option.bind_eq_some_iff.mp H
  obtain ⟨t306, A60, H⟩ := H
  replace H : ((bodkinref05_Same.f k t299 t306).bind fun t309 => (if t309 = true then ((bodkinref05_Types.f k t296).bind fun t310 => ((bodkinref05_Same.f k t300 t310).bind fun t313 => (if t313 = true then (bodkinlaw05_OpsSigns.l0 k a0 t299 t300 (t301 == t297) 0 t292 t293 t294 t295 t296 t297) else (none)))) else (none))) = some r := H
  have A6 := Aside0.mk A60
  clear A60
  replace H := Option.bind_eq_some_iff.mp H
  obtain ⟨t309, A70, H⟩ := H
  replace H : (if t309 = true then ((bodkinref05_Types.f k t296).bind fun t310 => ((bodkinref05_Same.f k t300 t310).bind fun t313 => (if t313 = true then (bodkinlaw05_OpsSigns.l0 k a0 t299 t300 (t301 == t297) 0 t292 t293 t294 t295 t296 t297) else (none)))) else (none)) = some r := H
  have A7 := Aside0.mk A70
  clear A70
  by_cases c8 : t309 = true
  ·subst c8
   have H1 : ((bodkinref05_Types.f k t296).bind fun t310 => ((bodkinref05_Same.f k t300 t310).bind fun t313 => (if t313 = true then (bodkinlaw05_OpsSigns.l0 k a0 t299 t300 (t301 == t297) 0 t292 t293 t294 t295 t296 t297) else (none)))) = some r := by rw [if_pos rfl] at H; exact H
   clear H
   have H := H1
   clear H1
   replace H := Option.bind_eq_some_iff.mp H
   obtain ⟨t310, A90, H⟩ := H
   replace H : ((bodkinref05_Same.f k t300 t310).bind fun t313 => (if t313 = true then (bodkinlaw05_OpsSigns.l0 k a0 t299 t300 (t301 == t297) 0 t292 t293 t294 t295 t296 t297) else (none))) = some r := H
   have A9 := Aside0.mk A90
   clear A90
   replace H := Option.bind_eq_some_iff.mp H
   obtain ⟨t313, A100, H⟩ := H
   replace H : (if t313 = true then (bodkinlaw05_OpsSigns.l0 k a0 t299 t300 (t301 == t297) 0 t292 t293 t294 t295 t296 t297) else (none)) = some r := H
   have A10 := Aside0.mk A100
   clear A100
   by_cases c11 : t313 = true
   ·subst c11
    have H1 : (bodkinlaw05_OpsSigns.l0 k a0 t299 t300 (t301 == t297) 0 t292 t293 t294 t295 t296 t297) = some r := by rw [if_pos rfl] at H; exact H
    clear H
    have H := H1
    clear H1
    have H' := Aside0.mk H
    clear H
    go_enter Tryd.func7, Tryd.ntmps7
    go_wp2_with (first | ((with_reducible refine gate_callee (f := 8) rfl ?_); refine goesL_ (some 14) rfl rfl Tryd.func8 (by kernel_rfl) rfl #[] rfl (by (try simp only [List.map_toArray, List.map_cons, List.map_nil]); first | done | rfl | (simp only [List.length_drop, List.length_take]; rfl)) ?_; (with_reducible refine (bodkinlaw05_awake.calls k  true _ A2.out (by repeat first | exact hG | refine GG.below hG ?_ | exact HB.out | exact Below.refl _ _ | assumption | apply below_alloc | apply pw_below_drewN | apply below_drew1 | refine below_set ?_ (Aside0.out (by assumption)))).mono ?_); rintro e w12 ⟨rfl, hb⟩; refine ⟨_, rfl, ?_⟩; have n0_ := Aside0.mk (below_step (by repeat (first | (with_reducible first | exact HB.out | apply below_alloc | apply pw_below_drewN | apply below_drew1) | exact HB.out)) hb); clear HB; have HB := n0_; clear n0_; (try clear hb); (try clear hb2); (try clear hk); (try clear hi)) | ((with_reducible refine gate_callee (f := 9) rfl ?_); refine goesL_ (some 18) rfl rfl Tryd.func9 (by kernel_rfl) rfl #[.int .i64 a0] rfl (by (try simp only [List.map_toArray, List.map_cons, List.map_nil]); first | done | rfl | (simp only [List.length_drop, List.length_take]; rfl)) ?_; (with_reducible refine (bodkinref05_Of.calls k a0 t292 t293 t294 t295 t296 t297 _ A4.out (by repeat first | exact hG | refine GG.below hG ?_ | exact HB.out | exact Below.refl _ _ | assumption | apply below_alloc | apply pw_below_drewN | apply below_drew1 | refine below_set ?_ (Aside0.out (by assumption)))).mono ?_); rintro e w13 ⟨rfl, hb⟩; refine ⟨_, rfl, ?_⟩; have n0_ := Aside0.mk (below_step (by repeat (first | (with_reducible first | exact HB.out | apply below_alloc | apply pw_below_drewN | apply below_drew1) | exact HB.out)) hb); clear HB; have HB := n0_; clear n0_; (try clear hb); (try clear hb2); (try clear hk); (try clear hi)) | ((with_reducible refine gate_dst (N := 4) rfl ?_); refine box_event ?hg (N := 4) ?hd (cs := #[.int .i64 0, .string (⟨#[]⟩ : ByteArray), .int .i64 0, .string (⟨#[]⟩ : ByteArray), .string (⟨#[]⟩ : ByteArray), .bool false]) (t := 24) ?hr ?_; (case hd => rfl); (case hg => rfl); (case hr => first | (go_simp; done) | (go_simp; rfl)); intro gb298 hg w14 hbox hb; have n0_ := Aside0.mk (below_step (by repeat (first | (with_reducible first | exact HB.out | apply below_alloc | apply pw_below_drewN | apply below_drew1) | exact HB.out)) hb); have n1_ := Aside0.mk (hbox); have n2_ := Aside0.mk ((by rw [hg]; exact (below_size (by repeat (first | (with_reducible first | exact HB.out | apply below_alloc | apply pw_below_drewN | apply below_drew1) | exact HB.out))) : w.heap.size ≤ gb298)); have n3_ := Aside0.mk ((by rw [hg]; exact (below_size (by repeat (first | (with_reducible first | exact HB.out | apply below_alloc | apply pw_below_drewN | apply below_drew1) | exact HB.out))) : w.heap.size ≤ gb298)); clear HB; have HB := n0_; have BK298 := n1_; have GW298 := n2_; have GE298 := n3_; clear n0_ n1_ n2_ n3_; clear hb hbox hg; have hcz15_0 : w14.cell? ⟨gb298, 0, none⟩ = some (.int .i64 0) := (blk_cell BK298.out 0).trans rfl; have hcz15_1 : w14.cell? ⟨gb298, 1, none⟩ = some (.string (⟨#[]⟩ : ByteArray)) := (blk_cell BK298.out 1).trans rfl; have hcz15_2 : w14.cell? ⟨gb298, 2, none⟩ = some (.int .i64 0) := (blk_cell BK298.out 2).trans rfl; have hcz15_3 : w14.cell? ⟨gb298, 3, none⟩ = some (.string (⟨#[]⟩ : ByteArray)) := (blk_cell BK298.out 3).trans rfl; have hcz15_4 : w14.cell? ⟨gb298, 4, none⟩ = some (.string (⟨#[]⟩ : ByteArray)) := (blk_cell BK298.out 4).trans rfl; have hcz15_5 : w14.cell? ⟨gb298, 5, none⟩ = some (.bool false) := (blk_cell BK298.out 5).trans rfl; have hfz15_0 := blk_frozen BK298.out 0; have hfz15_1 := blk_frozen BK298.out 1; have hfz15_2 := blk_frozen BK298.out 2; have hfz15_3 := blk_frozen BK298.out 3; have hfz15_4 := blk_frozen BK298.out 4; have hfz15_5 := blk_frozen BK298.out 5) | ((with_reducible refine gate_callee (f := 10) rfl ?_); refine goesL_ (some 21) rfl rfl Tryd.func10 (by kernel_rfl) rfl #[.int .i64 a0] rfl (by (try simp only [List.map_toArray, List.map_cons, List.map_nil]); first | done | rfl | (simp only [List.length_drop, List.length_take]; rfl)) ?_; (with_reducible refine (ops_Sign.calls a0 t299 t300 t301 _ A5.out (by repeat first | exact hG | refine GG.below hG ?_ | exact HB.out | exact Below.refl _ _ | assumption | apply below_alloc | apply pw_below_drewN | apply below_drew1 | refine below_set ?_ (Aside0.out (by assumption)))).mono ?_); rintro e w16 ⟨v302, v304, rfl, ho0, ho1, hb⟩; refine ⟨_, rfl, ?_⟩; have n0_ := Aside0.mk (Kd.R_lower ho0 (below_size (by repeat (first | (with_reducible first | exact HB.out | apply below_alloc | apply pw_below_drewN | apply below_drew1 | refine below_set ?_ GE298.out) | exact HB.out)))); have n1_ := Aside0.mk (Kd.R_lower ho1 (below_size (by repeat (first | (with_reducible first | exact HB.out | apply below_alloc | apply pw_below_drewN | apply below_drew1 | refine below_set ?_ GE298.out) | exact HB.out)))); have n2_ := Aside0.mk (blk_below (g := gb298) (o := .cells #[.int .i64 t292, .string t293, .int .i64 t294, .string t295, .string t296, .bool t297] 24 (0, 0)) (by (with_reducible repeat (first | refine blk_drewN ?_ _ | refine blk_drew ?_ | refine blk_alloc ?_ _)); refine blk_put (cs := #[.int .i64 t292, .string t293, .int .i64 t294, .string t295, .string t296, .bool false]) ?_ 5 _ rfl; (with_reducible repeat (first | refine blk_drewN ?_ _ | refine blk_drew ?_ | refine blk_alloc ?_ _)); refine blk_put (cs := #[.int .i64 t292, .string t293, .int .i64 t294, .string t295, .string (⟨#[]⟩ : ByteArray), .bool false]) ?_ 4 _ rfl; (with_reducible repeat (first | refine blk_drewN ?_ _ | refine blk_drew ?_ | refine blk_alloc ?_ _)); refine blk_put (cs := #[.int .i64 t292, .string t293, .int .i64 t294, .string (⟨#[]⟩ : ByteArray), .string (⟨#[]⟩ : ByteArray), .bool false]) ?_ 3 _ rfl; (with_reducible repeat (first | refine blk_drewN ?_ _ | refine blk_drew ?_ | refine blk_alloc ?_ _)); refine blk_put (cs := #[.int .i64 t292, .string t293, .int .i64 0, .string (⟨#[]⟩ : ByteArray), .string (⟨#[]⟩ : ByteArray), .bool false]) ?_ 2 _ rfl; (with_reducible repeat (first | refine blk_drewN ?_ _ | refine blk_drew ?_ | refine blk_alloc ?_ _)); refine blk_put (cs := #[.int .i64 t292, .string (⟨#[]⟩ : ByteArray), .int .i64 0, .string (⟨#[]⟩ : ByteArray), .string (⟨#[]⟩ : ByteArray), .bool false]) ?_ 1 _ rfl; (with_reducible repeat (first | refine blk_drewN ?_ _ | refine blk_drew ?_ | refine blk_alloc ?_ _)); refine blk_put (cs := #[.int .i64 0, .string (⟨#[]⟩ : ByteArray), .int .i64 0, .string (⟨#[]⟩ : ByteArray), .string (⟨#[]⟩ : ByteArray), .bool false]) ?_ 0 _ rfl; (with_reducible repeat (first | refine blk_drewN ?_ _ | refine blk_drew ?_ | refine blk_alloc ?_ _)); exact BK298.out) hb); have n3_ := Aside0.mk (below_step (by repeat (first | (with_reducible first | exact HB.out | apply below_alloc | apply pw_below_drewN | apply below_drew1 | refine below_set ?_ GE298.out) | exact HB.out)) hb); clear BK298; clear HB; have HO303 := n0_; have HO305 := n1_; have BK298 := n2_; have HB := n3_; clear n0_ n1_ n2_ n3_; (try clear hb); (try clear hb2); (try clear hk); (try clear hi); (try clear ho0); (try clear ho1); have hcz17_0 : w16.cell? ⟨gb298, 0, none⟩ = some (.int .i64 t292) := (blk_cell BK298.out 0).trans rfl; have hcz17_1 : w16.cell? ⟨gb298, 1, none⟩ = some (.string t293) := (blk_cell BK298.out 1).trans rfl; have hcz17_2 : w16.cell? ⟨gb298, 2, none⟩ = some (.int .i64 t294) := (blk_cell BK298.out 2).trans rfl; have hcz17_3 : w16.cell? ⟨gb298, 3, none⟩ = some (.string t295) := (blk_cell BK298.out 3).trans rfl; have hcz17_4 : w16.cell? ⟨gb298, 4, none⟩ = some (.string t296) := (blk_cell BK298.out 4).trans rfl; have hcz17_5 : w16.cell? ⟨gb298, 5, none⟩ = some (.bool t297) := (blk_cell BK298.out 5).trans rfl; have hfz17_0 := blk_frozen BK298.out 0; have hfz17_1 := blk_frozen BK298.out 1; have hfz17_2 := blk_frozen BK298.out 2; have hfz17_3 := blk_frozen BK298.out 3; have hfz17_4 := blk_frozen BK298.out 4; have hfz17_5 := blk_frozen BK298.out 5) | ((with_reducible refine gate_callee (f := 15) rfl ?_); refine goesL_ (some 28) rfl rfl Tryd.func15 (by kernel_rfl) rfl #[.string t295] rfl (by (try simp only [List.map_toArray, List.map_cons, List.map_nil]); first | done | rfl | (simp only [List.length_drop, List.length_take]; rfl)) ?_; (with_reducible refine (bodkinref05_Types.calls k t295 t306 _ A6.out (by repeat first | exact hG | refine GG.below hG ?_ | exact HB.out | exact Below.refl _ _ | assumption | apply below_alloc | apply pw_below_drewN | apply below_drew1 | refine below_set ?_ (Aside0.out (by assumption)))).mono ?_); rintro e w18 ⟨v307, rfl, ho0, hb⟩; refine ⟨_, rfl, ?_⟩; have n0_ := Aside0.mk (Kd.R_elder' (by (with_reducible repeat (first | apply Kd.R_alloc | apply Kd.R_drewN | apply Kd.R_drew)); exact HO303.out) (Kd.R_base ho0) hb); have n1_ := Aside0.mk (Kd.R_elder' (by (with_reducible repeat (first | apply Kd.R_alloc | apply Kd.R_drewN | apply Kd.R_drew)); exact HO305.out) (Kd.R_base ho0) hb); have n2_ := Aside0.mk (Kd.R_lower (Kd.R_new' (Kd.R_new' ho0 (Kd.R_lt (by (with_reducible repeat (first | apply Kd.R_alloc | apply Kd.R_drewN | apply Kd.R_drew)); exact HO303.out))) (Kd.R_lt (by (with_reducible repeat (first | apply Kd.R_alloc | apply Kd.R_drewN | apply Kd.R_drew)); exact HO305.out))) (below_size (by repeat (first | (with_reducible first | exact HB.out | apply below_alloc | apply pw_below_drewN | apply below_drew1 | refine below_set ?_ GE298.out) | exact HB.out)))); have n3_ := Aside0.mk (blk_below (g := gb298) (o := .cells #[.int .i64 t292, .string t293, .int .i64 t294, .string t295, .string t296, .bool t297] 24 (0, 0)) (by (with_reducible repeat (first | refine blk_drewN ?_ _ | refine blk_drew ?_ | refine blk_alloc ?_ _)); exact BK298.out) hb); have n4_ := Aside0.mk (below_step (by repeat (first | (with_reducible first | exact HB.out | apply below_alloc | apply pw_below_drewN | apply below_drew1 | refine below_set ?_ GE298.out) | exact HB.out)) hb); clear HO303; clear HO305; clear BK298; clear HB; have HO303 := n0_; have HO305 := n1_; have HO308 := n2_; have BK298 := n3_; have HB := n4_; clear n0_ n1_ n2_ n3_ n4_; (try clear hb); (try clear hb2); (try clear hk); (try clear hi); (try clear ho0); obtain ⟨Ao19, co19, eo19⟩ := Kd.R_slice HO303.out; subst eo19; obtain ⟨Ao20, co20, eo20⟩ := Kd.R_slice HO308.out; subst eo20) | ((with_reducible refine gate_callee (f := 14) rfl ?_); refine goesL_ (some 29) rfl rfl Tryd.func14 (by kernel_rfl) rfl #[.slice Ao19 t299.length co19, .slice Ao20 t306.length co20] rfl (by (try simp only [List.map_toArray, List.map_cons, List.map_nil]); first | done | rfl | (simp only [List.length_drop, List.length_take]; rfl)) ?_; (with_reducible refine (bodkinref05_Same.calls k _ _ t299 _ _ t306 true _ ?side1 ?side2 ?side3 ?side4 A7.out (by repeat first | exact hG | refine GG.below hG ?_ | exact HB.out | exact Below.refl _ _ | assumption | apply below_alloc | apply pw_below_drewN | apply below_drew1 | refine below_set ?_ (Aside0.out (by assumption)))).mono ?_); (case side1 => repeat (first | exact (Kd.R_reads' HO303.out).2.2 | (with_reducible refine Kd.C_alloc ?_ _) | (with_reducible refine Kd.C_drewN ?_ _) | (with_reducible refine Kd.C_drew ?_))); (case side2 => exact (Kd.R_reads' HO303.out).2.1); (case side3 => repeat (first | exact (Kd.R_reads' HO308.out).2.2 | (with_reducible refine Kd.C_alloc ?_ _) | (with_reducible refine Kd.C_drewN ?_ _) | (with_reducible refine Kd.C_drew ?_))); (case side4 => exact (Kd.R_reads' HO308.out).2.1); rintro e w' ⟨rfl, ⟨nd, rfl⟩⟩; refine ⟨_, rfl, ?_⟩; have hcz21_0 : w18.cell? ⟨gb298, 0, none⟩ = some (.int .i64 t292) := (blk_cell BK298.out 0).trans rfl; have hcz21_1 : w18.cell? ⟨gb298, 1, none⟩ = some (.string t293) := (blk_cell BK298.out 1).trans rfl; have hcz21_2 : w18.cell? ⟨gb298, 2, none⟩ = some (.int .i64 t294) := (blk_cell BK298.out 2).trans rfl; have hcz21_3 : w18.cell? ⟨gb298, 3, none⟩ = some (.string t295) := (blk_cell BK298.out 3).trans rfl; have hcz21_4 : w18.cell? ⟨gb298, 4, none⟩ = some (.string t296) := (blk_cell BK298.out 4).trans rfl; have hcz21_5 : w18.cell? ⟨gb298, 5, none⟩ = some (.bool t297) := (blk_cell BK298.out 5).trans rfl; have hfz21_0 := blk_frozen BK298.out 0; have hfz21_1 := blk_frozen BK298.out 1; have hfz21_2 := blk_frozen BK298.out 2; have hfz21_3 := blk_frozen BK298.out 3; have hfz21_4 := blk_frozen BK298.out 4; have hfz21_5 := blk_frozen BK298.out 5) | (go_at_call 15; (with_reducible refine (bodkinref05_Types.calls k t296 t310 _ A9.out (by repeat first | exact hG | refine GG.below hG ?_ | exact HB.out | exact Below.refl _ _ | assumption | apply below_alloc | apply pw_below_drewN | apply below_drew1 | refine below_set ?_ (Aside0.out (by assumption)))).mono ?_); rintro e w22 ⟨v311, rfl, ho0, hb⟩; have n0_ := Aside0.mk (Kd.R_elder' (by (with_reducible repeat (first | apply Kd.R_alloc | apply Kd.R_drewN | apply Kd.R_drew)); exact HO303.out) (Kd.R_base ho0) hb); have n1_ := Aside0.mk (Kd.R_elder' (by (with_reducible repeat (first | apply Kd.R_alloc | apply Kd.R_drewN | apply Kd.R_drew)); exact HO305.out) (Kd.R_base ho0) hb); have n2_ := Aside0.mk (Kd.R_elder' (by (with_reducible repeat (first | apply Kd.R_alloc | apply Kd.R_drewN | apply Kd.R_drew)); exact HO308.out) (Kd.R_base ho0) hb); have n3_ := Aside0.mk (Kd.R_lower (Kd.R_new' (Kd.R_new' (Kd.R_new' ho0 (Kd.R_lt (by (with_reducible repeat (first | apply Kd.R_alloc | apply Kd.R_drewN | apply Kd.R_drew)); exact HO303.out))) (Kd.R_lt (by (with_reducible repeat (first | apply Kd.R_alloc | apply Kd.R_drewN | apply Kd.R_drew)); exact HO305.out))) (Kd.R_lt (by (with_reducible repeat (first | apply Kd.R_alloc | apply Kd.R_drewN | apply Kd.R_drew)); exact HO308.out))) (below_size (by repeat (first | (with_reducible first | exact HB.out | apply below_alloc | apply pw_below_drewN | apply below_drew1 | refine below_set ?_ GE298.out) | exact HB.out)))); have n4_ := Aside0.mk (blk_below (g := gb298) (o := .cells #[.int .i64 t292, .string t293, .int .i64 t294, .string t295, .string t296, .bool t297] 24 (0, 0)) (by (with_reducible repeat (first | refine blk_drewN ?_ _ | refine blk_drew ?_ | refine blk_alloc ?_ _)); exact BK298.out) hb); have n5_ := Aside0.mk (below_step (by repeat (first | (with_reducible first | exact HB.out | apply below_alloc | apply pw_below_drewN | apply below_drew1 | refine below_set ?_ GE298.out) | exact HB.out)) hb); clear HO303; clear HO305; clear HO308; clear BK298; clear HB; have HO303 := n0_; have HO305 := n1_; have HO308 := n2_; have HO312 := n3_; have BK298 := n4_; have HB := n5_; clear n0_ n1_ n2_ n3_ n4_ n5_; (try clear hb); (try clear hb2); (try clear hk); (try clear hi); (try clear ho0); obtain ⟨Ao23, co23, eo23⟩ := Kd.R_slice HO305.out; subst eo23; obtain ⟨Ao24, co24, eo24⟩ := Kd.R_slice HO312.out; subst eo24) | (go_at_call 14; (with_reducible refine (bodkinref05_Same.calls k _ _ t300 _ _ t310 true _ ?side1 ?side2 ?side3 ?side4 A10.out (by repeat first | exact hG | refine GG.below hG ?_ | exact HB.out | exact Below.refl _ _ | assumption | apply below_alloc | apply pw_below_drewN | apply below_drew1 | refine below_set ?_ (Aside0.out (by assumption)))).mono ?_); (case side1 => repeat (first | exact (Kd.R_reads' HO305.out).2.2 | (with_reducible refine Kd.C_alloc ?_ _) | (with_reducible refine Kd.C_drewN ?_ _) | (with_reducible refine Kd.C_drew ?_))); (case side2 => exact (Kd.R_reads' HO305.out).2.1); (case side3 => repeat (first | exact (Kd.R_reads' HO312.out).2.2 | (with_reducible refine Kd.C_alloc ?_ _) | (with_reducible refine Kd.C_drewN ?_ _) | (with_reducible refine Kd.C_drew ?_))); (case side4 => exact (Kd.R_reads' HO312.out).2.1); rintro e w' ⟨rfl, ⟨nd, rfl⟩⟩; have hcz25_0 : w22.cell? ⟨gb298, 0, none⟩ = some (.int .i64 t292) := (blk_cell BK298.out 0).trans rfl; have hcz25_1 : w22.cell? ⟨gb298, 1, none⟩ = some (.string t293) := (blk_cell BK298.out 1).trans rfl; have hcz25_2 : w22.cell? ⟨gb298, 2, none⟩ = some (.int .i64 t294) := (blk_cell BK298.out 2).trans rfl; have hcz25_3 : w22.cell? ⟨gb298, 3, none⟩ = some (.string t295) := (blk_cell BK298.out 3).trans rfl; have hcz25_4 : w22.cell? ⟨gb298, 4, none⟩ = some (.string t296) := (blk_cell BK298.out 4).trans rfl; have hcz25_5 : w22.cell? ⟨gb298, 5, none⟩ = some (.bool t297) := (blk_cell BK298.out 5).trans rfl; have hfz25_0 := blk_frozen BK298.out 0; have hfz25_1 := blk_frozen BK298.out 1; have hfz25_2 := blk_frozen BK298.out 2; have hfz25_3 := blk_frozen BK298.out 3; have hfz25_4 := blk_frozen BK298.out 4; have hfz25_5 := blk_frozen BK298.out 5))
    go_loopg [9] k (fun kq v9 w' => ∃ (x5_1 : List Int) (x9_1 : Int), v9 = .int .i64 x9_1 ∧ Aside0 (bodkinlaw05_OpsSigns.l0 kq a0 x5_1 t300 (t301 == t297) x9_1 t292 t293 t294 t295 t296 t297 = some r) ∧ Aside0 (kq ≤ k) ∧ Aside0 (Kd.R (Kd.int .i64) 3 w' w.heap.size (fun k_ => some k_ ≠ ((.slice Ao23 t300.length co23) : Value).ownBlock) (.slice Ao19 t299.length co19) x5_1) ∧ Aside0 (Kd.R (Kd.int .i64) 3 w' w.heap.size (fun k_ => some k_ ≠ ((.slice Ao19 t299.length co19) : Value).ownBlock) (.slice Ao23 t300.length co23) t300) ∧ Aside0 (w'.heap[gb298]? = some (.cells #[.int .i64 t292, .string t293, .int .i64 t294, .string t295, .string t296, .bool t297] 24 (0, 0))) ∧ Aside0 (Below w.heap.size w w'))
    case atStart => exact ⟨(t299), (0), (by first | rfl | (simp; done) | (simp [*]; done)), H', ⟨Nat.le_refl _⟩, ⟨by (with_reducible repeat (first | apply Kd.R_alloc | apply Kd.R_drewN | apply Kd.R_drew)); exact Kd.R_mono HO303.out (fun _ hk => hk.1.1)⟩, ⟨by (with_reducible repeat (first | apply Kd.R_alloc | apply Kd.R_drewN | apply Kd.R_drew)); exact Kd.R_mono HO305.out (fun _ hk => hk.1.1)⟩, ⟨by (with_reducible repeat (first | refine blk_drewN ?_ _ | refine blk_drew ?_ | refine blk_alloc ?_ _)); exact BK298.out⟩, ⟨by repeat (first | (with_reducible first | exact HB.out | apply below_alloc | apply pw_below_drewN | apply below_drew1 | refine below_set ?_ GE298.out) | exact HB.out)⟩⟩
    case round =>
     clear H'
     try clear c1
     try clear p2
     try clear c3
     try clear c7
     try clear c8
     try clear c9
     try clear c10
     try clear c11
     try clear c14
     try clear c15
     try clear hcz15_0
     try clear hcz15_1
     try clear hcz15_2
     try clear hcz15_3
     try clear hcz15_4
     try clear hcz15_5
     try clear hcz17_0
     try clear hcz17_1
     try clear hcz17_2
     try clear hcz17_3
     try clear hcz17_4
     try clear hcz17_5
     try clear hcz21_0
     try clear hcz21_1
     try clear hcz21_2
     try clear hcz21_3
     try clear hcz21_4
     try clear hcz21_5
     try clear hcz25_0
     try clear hcz25_1
     try clear hcz25_2
     try clear hcz25_3
     try clear hcz25_4
     try clear hcz25_5
     try clear hfz15_0
     try clear hfz15_1
     try clear hfz15_2
     try clear hfz15_3
     try clear hfz15_4
     try clear hfz15_5
     try clear hfz17_0
     try clear hfz17_1
     try clear hfz17_2
     try clear hfz17_3
     try clear hfz17_4
     try clear hfz17_5
     try clear hfz21_0
     try clear hfz21_1
     try clear hfz21_2
     try clear hfz21_3
     try clear hfz21_4
     try clear hfz21_5
     try clear hfz25_0
     try clear hfz25_1
     try clear hfz25_2
     try clear hfz25_3
     try clear hfz25_4
     try clear hfz25_5
     obtain ⟨x5_1, x9_1, rfl, HA, HK1, HO_5, HO_6, BK298, HB⟩ := hrel
     have hl5_1 := (Kd.R_reads' HO_5.out).1
     rw [hl5_1] at HO_5
     (try simp only [hl5_1])
     (try simp only [hl5_1] at BK298)
     (try simp only [hl5_1] at HO_6)
     cases gk with
     | zero => exact absurd HA.out (by simp [bodkinlaw05_OpsSigns.l0])
     | succ k1 =>
      have H := HA.out
      clear HA
      simp only [bodkinlaw05_OpsSigns.l0] at H
      by_cases c26 : x9_1 < (x5_1.length : Int)
      ·rw [if_pos c26] at H
       have c26b0 : decide (x9_1 < (x5_1.length : Int)) = true := decide_eq_true c26
       clear c26
       by_cases c27 : 0 ≤ x9_1
       ·rw [if_pos c27] at H
        have c27b0 : decide (0 ≤ x9_1) = true := decide_eq_true c27
        clear c27
        obtain ⟨y314, hy314⟩ : ∃ y_ : List Int, y_ = (x5_1.set (x9_1 : Int).toNat 0) := ⟨_, rfl⟩
        replace H : (bodkinlaw05_OpsSigns.l0 k1 a0 y314 t300 (t301 == t297) (wrap64 (x9_1 + 1)) t292 t293 t294 t295 t296 t297) = some r := by first | (rw [hy314]; with_reducible exact H) | (have H2_ := (Option.bind_some _ _).symm.trans H; rw [hy314]; with_reducible exact H2_) | (have H2_ := (Option.bind_some _ _).symm.trans H; with_reducible exact H2_) | with_reducible exact H | (rw [hy314]; exact H) | exact H
        have Ny314 := Aside0.mk hy314
        clear hy314
        have H' := Aside0.mk H
        clear H
        have p28 : 0 ≤ (x9_1 : Int) := of_decide_eq_true (by first | (with_reducible assumption) | assumption)
        have q28 : (x9_1 : Int) < ((x5_1.length : Int) : Int) := of_decide_eq_true (by first | (with_reducible assumption) | assumption)
        obtain ⟨go28, co28, eo28, gb28, gl28, cl28, HG28⟩ := Kd.R_form HO_5.out (by omega)
        (first | cases eo28 | (injection eo28 with ea_ en_ ec_; (first | subst ea_ | (injection ea_ with ea_; subst ea_)); subst ec_; clear en_))
        have GB28 := Aside0.mk gb28
        have GG28 := Aside0.mk HG28
        clear gb28 gl28 HG28
        obtain ⟨hx28_0, hf28_0⟩ := Kd.R_celln 0 HO_5.out (x9_1 : Int) p28 q28
        replace p28 := eq_true p28
        replace q28 := eq_true q28
        have HP29 := Kd.R_putg HO_5.out (x9_1 : Int) 0
        go_wp2_with (first | ((with_reducible refine gate_store (t := 3) (p := 51) rfl ?_); refine store_event (t := 3) (p := 51) (v := ?vo_w30) (w1 := (wr.setCell ⟨go28, (x9_1 : Int).toNat, none⟩ (.int .i64 0))) ?hg ?ho ?hn ?hr ?_; (case ho => rfl); (case hg => rfl); (case hn => rfl); (case hr => first | (go_simp; done) | (go_simp; rfl)); intro w30 hw; have hg : wr.grownBy w30 (some go28) := (by rw [hw]; exact HP29.2); have hp_ : Kd.R (Kd.int .i64) 3 w30 w.heap.size (fun k_ => some k_ ≠ (.slice Ao23 t300.length co23 : Value).ownBlock) (.slice (some ⟨go28, 0, none⟩) x5_1.length co19) y314 := (by rw [hw, Ny314.out]; exact HP29.1); clear HP29; have n0_ := Aside0.mk (hp_); have n1_ := Aside0.mk (Kd.R_after (v := (.slice (some ⟨go28, 0, none⟩) x5_1.length co19)) (v1 := (.slice (some ⟨go28, 0, none⟩) x5_1.length co19)) (ok := (fun _ => True)) (by (with_reducible repeat (first | apply Kd.R_alloc | apply Kd.R_drewN | apply Kd.R_drew)); exact Kd.R_mono HO_6.out (fun _ hk => ⟨trivial, hk⟩)) hg (.inl rfl)); have n2_ := Aside0.mk (blk_grown (g := gb298) (o := .cells #[.int .i64 t292, .string t293, .int .i64 t294, .string t295, .string t296, .bool t297] 24 (0, 0)) (by (with_reducible repeat (first | refine blk_drewN ?_ _ | refine blk_drew ?_ | refine blk_alloc ?_ _)); exact BK298.out) hg (Kd.R_ne HO_5.out BK298.out (by decide))); have n3_ := Aside0.mk ((by rw [hw]; exact below_set (HB.out) GB28.out : Below w.heap.size w w30)); clear HO_5; clear HO_6; clear BK298; clear HB; have HO_5 := n0_; have HO_6 := n1_; have BK298 := n2_; have HB := n3_; clear n0_ n1_ n2_ n3_; clear hg hw hp_))
        (try simp only [← hl5_1])
        go_roundg k1
        case measure => have := HK1.out; omega
        case rel => exact ⟨(y314), (wrap64 (x9_1 + 1)), (by first | rfl | (simp; done) | (simp [*]; done)), H', ⟨by have := HK1.out; omega⟩, ⟨by (try simp only [hl5_1]); (with_reducible repeat (first | apply Kd.R_alloc | apply Kd.R_drewN | apply Kd.R_drew)); exact HO_5.out⟩, ⟨by (try simp only [hl5_1]); (with_reducible repeat (first | apply Kd.R_alloc | apply Kd.R_drewN | apply Kd.R_drew)); exact Kd.R_mono HO_6.out (fun _ hk => hk.2)⟩, ⟨by (try simp only [hl5_1]); (with_reducible repeat (first | refine blk_drewN ?_ _ | refine blk_drew ?_ | refine blk_alloc ?_ _)); exact BK298.out⟩, ⟨by repeat (first | (with_reducible first | exact HB.out | apply below_alloc | apply pw_below_drewN | apply below_drew1 | refine below_set ?_ GE298.out) | exact HB.out)⟩⟩
       ·rw [if_neg c27] at H
        exact absurd H (by simp)
      ·rw [if_neg c26] at H
       have c26b0 : decide (x9_1 < (x5_1.length : Int)) = false := decide_eq_false c26
       clear c26
       have H' := Aside0.mk H
       clear H
       go_wp2
       go_loopg [10] k1 (fun kq v10 w' => ∃ (x6_2 : List Int) (x10_2 : Int), v10 = .int .i64 x10_2 ∧ Aside0 (bodkinlaw05_OpsSigns.l1 kq a0 x6_2 (t301 == t297) x10_2 t292 t293 t294 t295 t296 t297 = some r) ∧ Aside0 (kq ≤ k1) ∧ Aside0 (Kd.R (Kd.int .i64) 3 w' w.heap.size (fun _ => True) (.slice Ao23 t300.length co23) x6_2) ∧ Aside0 (w'.heap[gb298]? = some (.cells #[.int .i64 t292, .string t293, .int .i64 t294, .string t295, .string t296, .bool t297] 24 (0, 0))) ∧ Aside0 (Below w.heap.size w w'))
       case atStart => exact ⟨(t300), (0), (by first | rfl | (simp; done) | (simp [*]; done)), H', ⟨Nat.le_refl _⟩, ⟨by (try simp only [hl5_1]); (with_reducible repeat (first | apply Kd.R_alloc | apply Kd.R_drewN | apply Kd.R_drew)); exact Kd.R_mono HO_6.out (fun _ hk => trivial)⟩, ⟨by (try simp only [hl5_1]); (with_reducible repeat (first | refine blk_drewN ?_ _ | refine blk_drew ?_ | refine blk_alloc ?_ _)); exact BK298.out⟩, ⟨by repeat (first | (with_reducible first | exact HB.out | apply below_alloc | apply pw_below_drewN | apply below_drew1 | refine below_set ?_ GE298.out) | exact HB.out)⟩⟩
       case round =>
        clear H'
        try clear c1
        try clear c2
        try clear p2
        try clear q2
        try clear hx2
        try clear hf2
        try clear c3
        try clear p6
        try clear c7
        try clear c8
        try clear c9
        try clear c10
        try clear c11
        try clear c14
        try clear c15
        try clear c26
        try clear c26b0
        try clear c27
        try clear c27b0
        try clear p28
        try clear q28
        try clear hx28
        try clear hf28
        try clear hcz15_0
        try clear hcz15_1
        try clear hcz15_2
        try clear hcz15_3
        try clear hcz15_4
        try clear hcz15_5
        try clear hcz17_0
        try clear hcz17_1
        try clear hcz17_2
        try clear hcz17_3
        try clear hcz17_4
        try clear hcz17_5
        try clear hcz21_0
        try clear hcz21_1
        try clear hcz21_2
        try clear hcz21_3
        try clear hcz21_4
        try clear hcz21_5
        try clear hcz25_0
        try clear hcz25_1
        try clear hcz25_2
        try clear hcz25_3
        try clear hcz25_4
        try clear hcz25_5
        try clear hfz15_0
        try clear hfz15_1
        try clear hfz15_2
        try clear hfz15_3
        try clear hfz15_4
        try clear hfz15_5
        try clear hfz17_0
        try clear hfz17_1
        try clear hfz17_2
        try clear hfz17_3
        try clear hfz17_4
        try clear hfz17_5
        try clear hfz21_0
        try clear hfz21_1
        try clear hfz21_2
        try clear hfz21_3
        try clear hfz21_4
        try clear hfz21_5
        try clear hfz25_0
        try clear hfz25_1
        try clear hfz25_2
        try clear hfz25_3
        try clear hfz25_4
        try clear hfz25_5
        try clear hx28_0
        try clear p2
        try clear p28
        try clear q28
        obtain ⟨x6_2, x10_2, rfl, HA, HK2, HO_6, BK298, HB⟩ := hrel
        have hl6_2 := (Kd.R_reads' HO_6.out).1
        rw [hl6_2] at HO_6
        (try simp only [hl6_2])
        (try simp only [hl6_2] at BK298)
        cases gk with
        | zero => exact absurd HA.out (by simp [bodkinlaw05_OpsSigns.l1])
        | succ k2 =>
         have H := HA.out
         clear HA
         simp only [bodkinlaw05_OpsSigns.l1] at H
         by_cases c31 : x10_2 < (x6_2.length : Int)
         ·rw [if_pos c31] at H
          have c31b0 : decide (x10_2 < (x6_2.length : Int)) = true := decide_eq_true c31
          clear c31
          by_cases c32 : 0 ≤ x10_2
          ·rw [if_pos c32] at H
           have c32b0 : decide (0 ≤ x10_2) = true := decide_eq_true c32
           clear c32
           obtain ⟨y315, hy315⟩ : ∃ y_ : List Int, y_ = (x6_2.set (x10_2 : Int).toNat 0) := ⟨_, rfl⟩
           replace H : (bodkinlaw05_OpsSigns.l1 k2 a0 y315 (t301 == t297) (wrap64 (x10_2 + 1)) t292 t293 t294 t295 t296 t297) = some r := by first | (rw [hy315]; with_reducible exact H) | (have H2_ := (Option.bind_some _ _).symm.trans H; rw [hy315]; with_reducible exact H2_) | (have H2_ := (Option.bind_some _ _).symm.trans H; with_reducible exact H2_) | with_reducible exact H | (rw [hy315]; exact H) | exact H
           have Ny315 := Aside0.mk hy315
           clear hy315
           have H' := Aside0.mk H
           clear H
           have p33 : 0 ≤ (x10_2 : Int) := of_decide_eq_true (by first | (with_reducible assumption) | assumption)
           have q33 : (x10_2 : Int) < ((x6_2.length : Int) : Int) := of_decide_eq_true (by first | (with_reducible assumption) | assumption)
           obtain ⟨go33, co33, eo33, gb33, gl33, cl33, HG33⟩ := Kd.R_form HO_6.out (by omega)
           (first | cases eo33 | (injection eo33 with ea_ en_ ec_; (first | subst ea_ | (injection ea_ with ea_; subst ea_)); subst ec_; clear en_))
           have GB33 := Aside0.mk gb33
           have GG33 := Aside0.mk HG33
           clear gb33 gl33 HG33
           obtain ⟨hx33_0, hf33_0⟩ := Kd.R_celln 0 HO_6.out (x10_2 : Int) p33 q33
           replace p33 := eq_true p33
           replace q33 := eq_true q33
           have HP34 := Kd.R_putg HO_6.out (x10_2 : Int) 0
           go_wp2_with (first | ((with_reducible refine gate_store (t := 3) (p := 60) rfl ?_); refine store_event (t := 3) (p := 60) (v := ?vo_w35) (w1 := (wr.setCell ⟨go33, (x10_2 : Int).toNat, none⟩ (.int .i64 0))) ?hg ?ho ?hn ?hr ?_; (case ho => rfl); (case hg => rfl); (case hn => rfl); (case hr => first | (go_simp; done) | (go_simp; rfl)); intro w35 hw; have hg : wr.grownBy w35 (some go33) := (by rw [hw]; exact HP34.2); have hp_ : Kd.R (Kd.int .i64) 3 w35 w.heap.size (fun _ => True) (.slice (some ⟨go33, 0, none⟩) x6_2.length co23) y315 := (by rw [hw, Ny315.out]; exact HP34.1); clear HP34; have n0_ := Aside0.mk (hp_); have n1_ := Aside0.mk (blk_grown (g := gb298) (o := .cells #[.int .i64 t292, .string t293, .int .i64 t294, .string t295, .string t296, .bool t297] 24 (0, 0)) (by (with_reducible repeat (first | refine blk_drewN ?_ _ | refine blk_drew ?_ | refine blk_alloc ?_ _)); exact BK298.out) hg (Kd.R_ne HO_6.out BK298.out (by decide))); have n2_ := Aside0.mk ((by rw [hw]; exact below_set (HB.out) GB33.out : Below w.heap.size w w35)); clear HO_6; clear BK298; clear HB; have HO_6 := n0_; have BK298 := n1_; have HB := n2_; clear n0_ n1_ n2_; clear hg hw hp_))
           (try simp only [← hl6_2])
           go_roundg k2
           case measure => have := HK1.out; have := HK2.out; omega
           case rel => exact ⟨(y315), (wrap64 (x10_2 + 1)), (by first | rfl | (simp; done) | (simp [*]; done)), H', ⟨by have := HK1.out; have := HK2.out; omega⟩, ⟨by (try simp only [hl5_1]); (try simp only [hl6_2]); (with_reducible repeat (first | apply Kd.R_alloc | apply Kd.R_drewN | apply Kd.R_drew)); exact HO_6.out⟩, ⟨by (try simp only [hl5_1]); (try simp only [hl6_2]); (with_reducible repeat (first | refine blk_drewN ?_ _ | refine blk_drew ?_ | refine blk_alloc ?_ _)); exact BK298.out⟩, ⟨by repeat (first | (with_reducible first | exact HB.out | apply below_alloc | apply pw_below_drewN | apply below_drew1 | refine below_set ?_ GE298.out) | exact HB.out)⟩⟩
          ·rw [if_neg c32] at H
           exact absurd H (by simp)
         ·rw [if_neg c31] at H
          have c31b0 : decide (x10_2 < (x6_2.length : Int)) = false := decide_eq_false c31
          clear c31
          replace H := Option.bind_eq_some_iff.mp H
          obtain ⟨⟨t316, t317, t318⟩, A360, H⟩ := H
          replace H : (if (t301 == t297) = true then ((bodkinref05_Types.f k2 t295).bind fun t323 => ((bodkinref05_Same.f k2 t316 t323).bind fun t326 => (if t326 = true then ((bodkinref05_Types.f k2 t296).bind fun t327 => ((bodkinref05_Same.f k2 t317 t327).bind fun t330 => (some t330))) else (none)))) else (none)) = some r := H
          have A36 := Aside0.mk A360
          clear A360
          by_cases c37 : (t301 == t297) = true
          ·rw [if_pos c37] at H
           have c37b0 : (t301 == t297) = true := c37
           (try (have c37b1 : decide (t301 = t297) = true := by simpa using c37))
           (try (have c37b2 : (t301 == t297) = true := by simpa using c37))
           clear c37
           replace H := Option.bind_eq_some_iff.mp H
           obtain ⟨t323, A380, H⟩ := H
           replace H : ((bodkinref05_Same.f k2 t316 t323).bind fun t326 => (if t326 = true then ((bodkinref05_Types.f k2 t296).bind fun t327 => ((bodkinref05_Same.f k2 t317 t327).bind fun t330 => (some t330))) else (none))) = some r := H
           have A38 := Aside0.mk A380
           clear A380
           replace H := Option.bind_eq_some_iff.mp H
           obtain ⟨t326, A390, H⟩ := H
           replace H : (if t326 = true then ((bodkinref05_Types.f k2 t296).bind fun t327 => ((bodkinref05_Same.f k2 t317 t327).bind fun t330 => (some t330))) else (none)) = some r := H
           have A39 := Aside0.mk A390
           clear A390
           by_cases c40 : t326 = true
           ·subst c40
            have H1 : ((bodkinref05_Types.f k2 t296).bind fun t327 => ((bodkinref05_Same.f k2 t317 t327).bind fun t330 => (some t330))) = some r := by rw [if_pos rfl] at H; exact H
            clear H
            have H := H1
            clear H1
            replace H := Option.bind_eq_some_iff.mp H
            obtain ⟨t327, A410, H⟩ := H
            replace H : ((bodkinref05_Same.f k2 t317 t327).bind fun t330 => (some t330)) = some r := H
            have A41 := Aside0.mk A410
            clear A410
            replace H := Option.bind_eq_some_iff.mp H
            obtain ⟨t330, A420, H⟩ := H
            replace H : (some t330) = some r := H
            have A42 := Aside0.mk A420
            clear A420
            obtain rfl := Option.some.inj H
            go_wp2_with (first | ((with_reducible refine gate_callee (f := 10) rfl ?_); refine goesL_ (some 63) rfl rfl Tryd.func10 (by kernel_rfl) rfl #[.int .i64 a0] rfl (by (try simp only [List.map_toArray, List.map_cons, List.map_nil]); first | done | rfl | (simp only [List.length_drop, List.length_take]; rfl)) ?_; (with_reducible refine (ops_Sign.calls a0 t316 t317 t318 _ A36.out (by repeat first | exact hG | refine GG.below hG ?_ | exact HB.out | exact Below.refl _ _ | assumption | apply below_alloc | apply pw_below_drewN | apply below_drew1 | refine below_set ?_ (Aside0.out (by assumption)))).mono ?_); rintro e w43 ⟨v319, v321, rfl, ho0, ho1, hb⟩; refine ⟨_, rfl, ?_⟩; have n0_ := Aside0.mk (Kd.R_mono (Kd.R_told (Kd.R_told (Kd.R_old (by (with_reducible repeat (first | apply Kd.R_alloc | apply Kd.R_drewN | apply Kd.R_drew)); exact HO_6.out) hb) (Kd.R_base ho0)) (Kd.R_base ho1)) (fun _ h_ => h_.1)); have n1_ := Aside0.mk (Kd.R_lower (Kd.R_new' ho0 (Kd.R_lt (by (with_reducible repeat (first | apply Kd.R_alloc | apply Kd.R_drewN | apply Kd.R_drew)); exact HO_6.out))) (below_size (by repeat (first | (with_reducible first | exact HB.out | apply below_alloc | apply pw_below_drewN | apply below_drew1 | refine below_set ?_ GE298.out) | exact HB.out)))); have n2_ := Aside0.mk (Kd.R_lower (Kd.R_new' ho1 (Kd.R_lt (by (with_reducible repeat (first | apply Kd.R_alloc | apply Kd.R_drewN | apply Kd.R_drew)); exact HO_6.out))) (below_size (by repeat (first | (with_reducible first | exact HB.out | apply below_alloc | apply pw_below_drewN | apply below_drew1 | refine below_set ?_ GE298.out) | exact HB.out)))); have n3_ := Aside0.mk (blk_below (g := gb298) (o := .cells #[.int .i64 t292, .string t293, .int .i64 t294, .string t295, .string t296, .bool t297] 24 (0, 0)) (by (with_reducible repeat (first | refine blk_drewN ?_ _ | refine blk_drew ?_ | refine blk_alloc ?_ _)); exact BK298.out) hb); have n4_ := Aside0.mk (below_step (by repeat (first | (with_reducible first | exact HB.out | apply below_alloc | apply pw_below_drewN | apply below_drew1 | refine below_set ?_ GE298.out) | exact HB.out)) hb); clear HO_6; clear BK298; clear HB; have HO_6 := n0_; have HO320 := n1_; have HO322 := n2_; have BK298 := n3_; have HB := n4_; clear n0_ n1_ n2_ n3_ n4_; (try clear hb); (try clear hb2); (try clear hk); (try clear hi); (try clear ho0); (try clear ho1); have hcz44_0 : w43.cell? ⟨gb298, 0, none⟩ = some (.int .i64 t292) := (blk_cell BK298.out 0).trans rfl; have hcz44_1 : w43.cell? ⟨gb298, 1, none⟩ = some (.string t293) := (blk_cell BK298.out 1).trans rfl; have hcz44_2 : w43.cell? ⟨gb298, 2, none⟩ = some (.int .i64 t294) := (blk_cell BK298.out 2).trans rfl; have hcz44_3 : w43.cell? ⟨gb298, 3, none⟩ = some (.string t295) := (blk_cell BK298.out 3).trans rfl; have hcz44_4 : w43.cell? ⟨gb298, 4, none⟩ = some (.string t296) := (blk_cell BK298.out 4).trans rfl; have hcz44_5 : w43.cell? ⟨gb298, 5, none⟩ = some (.bool t297) := (blk_cell BK298.out 5).trans rfl; have hfz44_0 := blk_frozen BK298.out 0; have hfz44_1 := blk_frozen BK298.out 1; have hfz44_2 := blk_frozen BK298.out 2; have hfz44_3 := blk_frozen BK298.out 3; have hfz44_4 := blk_frozen BK298.out 4; have hfz44_5 := blk_frozen BK298.out 5) | (go_at_call 15; (with_reducible refine (bodkinref05_Types.calls k2 t295 t323 _ A38.out (by repeat first | exact hG | refine GG.below hG ?_ | exact HB.out | exact Below.refl _ _ | assumption | apply below_alloc | apply pw_below_drewN | apply below_drew1 | refine below_set ?_ (Aside0.out (by assumption)))).mono ?_); rintro e w45 ⟨v324, rfl, ho0, hb⟩; have n0_ := Aside0.mk (Kd.R_elder' (by (with_reducible repeat (first | apply Kd.R_alloc | apply Kd.R_drewN | apply Kd.R_drew)); exact HO_6.out) (Kd.R_base ho0) hb); have n1_ := Aside0.mk (Kd.R_elder' (by (with_reducible repeat (first | apply Kd.R_alloc | apply Kd.R_drewN | apply Kd.R_drew)); exact HO320.out) (Kd.R_base ho0) hb); have n2_ := Aside0.mk (Kd.R_elder' (by (with_reducible repeat (first | apply Kd.R_alloc | apply Kd.R_drewN | apply Kd.R_drew)); exact HO322.out) (Kd.R_base ho0) hb); have n3_ := Aside0.mk (Kd.R_lower (Kd.R_new' (Kd.R_new' (Kd.R_new' ho0 (Kd.R_lt (by (with_reducible repeat (first | apply Kd.R_alloc | apply Kd.R_drewN | apply Kd.R_drew)); exact HO_6.out))) (Kd.R_lt (by (with_reducible repeat (first | apply Kd.R_alloc | apply Kd.R_drewN | apply Kd.R_drew)); exact HO320.out))) (Kd.R_lt (by (with_reducible repeat (first | apply Kd.R_alloc | apply Kd.R_drewN | apply Kd.R_drew)); exact HO322.out))) (below_size (by repeat (first | (with_reducible first | exact HB.out | apply below_alloc | apply pw_below_drewN | apply below_drew1 | refine below_set ?_ GE298.out) | exact HB.out)))); have n4_ := Aside0.mk (blk_below (g := gb298) (o := .cells #[.int .i64 t292, .string t293, .int .i64 t294, .string t295, .string t296, .bool t297] 24 (0, 0)) (by (with_reducible repeat (first | refine blk_drewN ?_ _ | refine blk_drew ?_ | refine blk_alloc ?_ _)); exact BK298.out) hb); have n5_ := Aside0.mk (below_step (by repeat (first | (with_reducible first | exact HB.out | apply below_alloc | apply pw_below_drewN | apply below_drew1 | refine below_set ?_ GE298.out) | exact HB.out)) hb); clear HO_6; clear HO320; clear HO322; clear BK298; clear HB; have HO_6 := n0_; have HO320 := n1_; have HO322 := n2_; have HO325 := n3_; have BK298 := n4_; have HB := n5_; clear n0_ n1_ n2_ n3_ n4_ n5_; (try clear hb); (try clear hb2); (try clear hk); (try clear hi); (try clear ho0); obtain ⟨Ao46, co46, eo46⟩ := Kd.R_slice HO320.out; subst eo46; obtain ⟨Ao47, co47, eo47⟩ := Kd.R_slice HO325.out; subst eo47) | (go_at_call 14; (with_reducible refine (bodkinref05_Same.calls k2 _ _ t316 _ _ t323 true _ ?side1 ?side2 ?side3 ?side4 A39.out (by repeat first | exact hG | refine GG.below hG ?_ | exact HB.out | exact Below.refl _ _ | assumption | apply below_alloc | apply pw_below_drewN | apply below_drew1 | refine below_set ?_ (Aside0.out (by assumption)))).mono ?_); (case side1 => repeat (first | exact (Kd.R_reads' HO320.out).2.2 | (with_reducible refine Kd.C_alloc ?_ _) | (with_reducible refine Kd.C_drewN ?_ _) | (with_reducible refine Kd.C_drew ?_))); (case side2 => exact (Kd.R_reads' HO320.out).2.1); (case side3 => repeat (first | exact (Kd.R_reads' HO325.out).2.2 | (with_reducible refine Kd.C_alloc ?_ _) | (with_reducible refine Kd.C_drewN ?_ _) | (with_reducible refine Kd.C_drew ?_))); (case side4 => exact (Kd.R_reads' HO325.out).2.1); rintro e w' ⟨rfl, ⟨nd, rfl⟩⟩; have hcz48_0 : w45.cell? ⟨gb298, 0, none⟩ = some (.int .i64 t292) := (blk_cell BK298.out 0).trans rfl; have hcz48_1 : w45.cell? ⟨gb298, 1, none⟩ = some (.string t293) := (blk_cell BK298.out 1).trans rfl; have hcz48_2 : w45.cell? ⟨gb298, 2, none⟩ = some (.int .i64 t294) := (blk_cell BK298.out 2).trans rfl; have hcz48_3 : w45.cell? ⟨gb298, 3, none⟩ = some (.string t295) := (blk_cell BK298.out 3).trans rfl; have hcz48_4 : w45.cell? ⟨gb298, 4, none⟩ = some (.string t296) := (blk_cell BK298.out 4).trans rfl; have hcz48_5 : w45.cell? ⟨gb298, 5, none⟩ = some (.bool t297) := (blk_cell BK298.out 5).trans rfl; have hfz48_0 := blk_frozen BK298.out 0; have hfz48_1 := blk_frozen BK298.out 1; have hfz48_2 := blk_frozen BK298.out 2; have hfz48_3 := blk_frozen BK298.out 3; have hfz48_4 := blk_frozen BK298.out 4; have hfz48_5 := blk_frozen BK298.out 5) | (go_at_call 15; (with_reducible refine (bodkinref05_Types.calls k2 t296 t327 _ A41.out (by repeat first | exact hG | refine GG.below hG ?_ | exact HB.out | exact Below.refl _ _ | assumption | apply below_alloc | apply pw_below_drewN | apply below_drew1 | refine below_set ?_ (Aside0.out (by assumption)))).mono ?_); rintro e w49 ⟨v328, rfl, ho0, hb⟩; have n0_ := Aside0.mk (Kd.R_elder' (by (with_reducible repeat (first | apply Kd.R_alloc | apply Kd.R_drewN | apply Kd.R_drew)); exact HO_6.out) (Kd.R_base ho0) hb); have n1_ := Aside0.mk (Kd.R_elder' (by (with_reducible repeat (first | apply Kd.R_alloc | apply Kd.R_drewN | apply Kd.R_drew)); exact HO320.out) (Kd.R_base ho0) hb); have n2_ := Aside0.mk (Kd.R_elder' (by (with_reducible repeat (first | apply Kd.R_alloc | apply Kd.R_drewN | apply Kd.R_drew)); exact HO322.out) (Kd.R_base ho0) hb); have n3_ := Aside0.mk (Kd.R_elder' (by (with_reducible repeat (first | apply Kd.R_alloc | apply Kd.R_drewN | apply Kd.R_drew)); exact HO325.out) (Kd.R_base ho0) hb); have n4_ := Aside0.mk (Kd.R_lower (Kd.R_new' (Kd.R_new' (Kd.R_new' (Kd.R_new' ho0 (Kd.R_lt (by (with_reducible repeat (first | apply Kd.R_alloc | apply Kd.R_drewN | apply Kd.R_drew)); exact HO_6.out))) (Kd.R_lt (by (with_reducible repeat (first | apply Kd.R_alloc | apply Kd.R_drewN | apply Kd.R_drew)); exact HO320.out))) (Kd.R_lt (by (with_reducible repeat (first | apply Kd.R_alloc | apply Kd.R_drewN | apply Kd.R_drew)); exact HO322.out))) (Kd.R_lt (by (with_reducible repeat (first | apply Kd.R_alloc | apply Kd.R_drewN | apply Kd.R_drew)); exact HO325.out))) (below_size (by repeat (first | (with_reducible first | exact HB.out | apply below_alloc | apply pw_below_drewN | apply below_drew1 | refine below_set ?_ GE298.out) | exact HB.out)))); have n5_ := Aside0.mk (blk_below (g := gb298) (o := .cells #[.int .i64 t292, .string t293, .int .i64 t294, .string t295, .string t296, .bool t297] 24 (0, 0)) (by (with_reducible repeat (first | refine blk_drewN ?_ _ | refine blk_drew ?_ | refine blk_alloc ?_ _)); exact BK298.out) hb); have n6_ := Aside0.mk (below_step (by repeat (first | (with_reducible first | exact HB.out | apply below_alloc | apply pw_below_drewN | apply below_drew1 | refine below_set ?_ GE298.out) | exact HB.out)) hb); clear HO_6; clear HO320; clear HO322; clear HO325; clear BK298; clear HB; have HO_6 := n0_; have HO320 := n1_; have HO322 := n2_; have HO325 := n3_; have HO329 := n4_; have BK298 := n5_; have HB := n6_; clear n0_ n1_ n2_ n3_ n4_ n5_ n6_; (try clear hb); (try clear hb2); (try clear hk); (try clear hi); (try clear ho0); obtain ⟨Ao50, co50, eo50⟩ := Kd.R_slice HO322.out; subst eo50; obtain ⟨Ao51, co51, eo51⟩ := Kd.R_slice HO329.out; subst eo51) | (go_at_call 14; (with_reducible refine (bodkinref05_Same.calls k2 _ _ t317 _ _ t327 t330 _ ?side1 ?side2 ?side3 ?side4 A42.out (by repeat first | exact hG | refine GG.below hG ?_ | exact HB.out | exact Below.refl _ _ | assumption | apply below_alloc | apply pw_below_drewN | apply below_drew1 | refine below_set ?_ (Aside0.out (by assumption)))).mono ?_); (case side1 => repeat (first | exact (Kd.R_reads' HO322.out).2.2 | (with_reducible refine Kd.C_alloc ?_ _) | (with_reducible refine Kd.C_drewN ?_ _) | (with_reducible refine Kd.C_drew ?_))); (case side2 => exact (Kd.R_reads' HO322.out).2.1); (case side3 => repeat (first | exact (Kd.R_reads' HO329.out).2.2 | (with_reducible refine Kd.C_alloc ?_ _) | (with_reducible refine Kd.C_drewN ?_ _) | (with_reducible refine Kd.C_drew ?_))); (case side4 => exact (Kd.R_reads' HO329.out).2.1); rintro e w' ⟨rfl, ⟨nd, rfl⟩⟩))
            go_ret
            exact ⟨by first | rfl | (simp [errW_none, errW_some] <;> rfl) | (simp [*, errW_none, errW_some] <;> rfl) | (rw [Int.tdiv_eq_ediv_of_nonneg] <;> first | rfl | decide) | (simp [errW_none, errW_some] <;> exact isEmpty_bne _), by repeat (first | (with_reducible first | exact HB.out | apply below_alloc | apply pw_below_drewN | apply below_drew1 | refine below_set ?_ GE298.out) | exact HB.out)⟩
           ·replace c40 := Bool.eq_false_iff.mpr c40
            subst c40
            have H1 : (none) = some r := by rw [if_neg (show ¬ (false = true) by decide)] at H; exact H
            clear H
            have H := H1
            clear H1
            exact absurd H (by simp)
          ·rw [if_neg c37] at H
           exact absurd H (by simp)
   ·replace c11 := Bool.eq_false_iff.mpr c11
    subst c11
    have H1 : (none) = some r := by rw [if_neg (show ¬ (false = true) by decide)] at H; exact H
    clear H
    have H := H1
    clear H1
    exact absurd H (by simp)
  ·replace c8 := Bool.eq_false_iff.mpr c8
   subst c8
   have H1 : (none) = some r := by rw [if_neg (show ¬ (false = true) by decide)] at H; exact H
   clear H
   have H := H1
   clear H1
   exact absurd H (by simp)
 ·replace c3 := Bool.eq_false_iff.mpr c3
  subst c3
  have H1 : (some false) = some r := by rw [if_neg (show ¬ (false = true) by decide)] at H; exact H
  clear H
  have H := H1
  clear H1
  obtain rfl := Option.some.inj H
  go_enter Tryd.func7, Tryd.ntmps7
  go_wp2_with (first | ((with_reducible refine gate_callee (f := 8) rfl ?_); refine goesL_ (some 14) rfl rfl Tryd.func8 (by kernel_rfl) rfl #[] rfl (by (try simp only [List.map_toArray, List.map_cons, List.map_nil]); first | done | rfl | (simp only [List.length_drop, List.length_take]; rfl)) ?_; (with_reducible refine (bodkinlaw05_awake.calls k  false _ A2.out (by repeat first | exact hG | refine GG.below hG ?_ | exact HB.out | exact Below.refl _ _ | assumption | apply below_alloc | apply pw_below_drewN | apply below_drew1 | refine below_set ?_ (Aside0.out (by assumption)))).mono ?_); rintro e w52 ⟨rfl, hb⟩; refine ⟨_, rfl, ?_⟩; have n0_ := Aside0.mk (below_step (by repeat (first | (with_reducible first | exact HB.out | apply below_alloc | apply pw_below_drewN | apply below_drew1) | exact HB.out)) hb); clear HB; have HB := n0_; clear n0_; (try clear hb); (try clear hb2); (try clear hk); (try clear hi)))
  go_ret
  exact ⟨by first | rfl | (simp [errW_none, errW_some] <;> rfl) | (simp [*, errW_none, errW_some] <;> rfl) | (rw [Int.tdiv_eq_ediv_of_nonneg] <;> first | rfl | decide) | (simp [errW_none, errW_some] <;> exact isEmpty_bne _), by repeat (first | (with_reducible first | exact HB.out | apply below_alloc | apply pw_below_drewN | apply below_drew1) | exact HB.out)⟩

/-- THE ONE PURE STATEMENT of bodkinlaw05_OpsSigns: yours. -/
def bodkinlaw05_OpsSigns.Pure : Prop := ∀ (a0 : Int), (Lit.int .i64 a0).wf = true → ∃ k, bodkinlaw05_OpsSigns.f k a0 = some true
theorem bodkinlaw05_OpsSigns.walk (P : bodkinlaw05_OpsSigns.Pure) (a0 : Int) (w : World) (w0 : (Lit.int .i64 a0).wf = true) (hG : GG w) :
  Calls Tryd.prog 7 #[.int .i64 a0] w fun e w' => e = .returned (.bool true) ∧ Below w.heap.size w w' := by
 obtain ⟨k, h⟩ := P a0 w0
 refine (bodkinlaw05_OpsSigns.calls k a0 true w h hG).mono ?_
 rintro e w' ⟨rfl, hd⟩
 exact ⟨rfl, hd⟩

end Go.Proofs.YtiopaclofkncaaaDoor.POps

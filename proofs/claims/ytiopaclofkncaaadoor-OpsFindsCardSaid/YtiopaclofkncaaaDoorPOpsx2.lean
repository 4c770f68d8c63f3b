import Derived.Test.YtiopaclofkncaaaDoorPOpsx0
import Derived.Test.YtiopaclofkncaaaDoorPOpsx1
namespace Go.Proofs.YtiopaclofkncaaaDoor.POps
open Go.RowKit Go.Proofs.YtiopaclofkncaaaDoorW.PrintWords Go.Proofs.YtiopaclofkncaaaDoorW.PrintLast Go.Proofs.YtiopaclofkncaaaDoorW.PrintMore
attribute [local go_sem] max2_int min2_int max_two min_two max_three min_three max_four min_four   
set_option linter.unusedVariables false
set_option linter.unusedSimpArgs false
def ops_Align.j0 : Nat → Int → Bool → Option (Int)
 | 0, _, _ => none
 | k + 1, x0, x16 => if x16 = true then (some (-1)) else ((ops_Name.f x0).bind fun t126 => ((strings_Cut.f t126 (⟨#[46]⟩ : ByteArray)).bind fun bt127 => ((strings_TrimPrefix.f bt127.2.1 (⟨#[108, 111, 97, 100]⟩ : ByteArray)).bind fun t130 => ((strings_TrimPrefix.f t130 (⟨#[115, 116, 111, 114, 101]⟩ : ByteArray)).bind fun t131 => ((ops_number.f k t131).bind fun bt132 => ((strings_HasPrefix.f bt132.2 (⟨#[120]⟩ : ByteArray)).bind fun t134 => (if t134 = true then ((ops_power.f k 64).bind fun t135 => (some t135)) else (if bt132.1 = 0 then (if 1 ≤ (bt127.1.size : Int) then ((ops_number.f k (bt127.1.extract 1 bt127.1.size)).bind fun bt136 => ((ops_power.f k bt136.1).bind fun t138 => (some t138))) else (none)) else ((ops_power.f k bt132.1).bind fun t139 => (some t139))))))))))
def ops_Align.f (k : Nat) (a0 : Int) : Option (Int) := (ops_Imm.f a0).bind fun t125 => (if t125 = 10 then (ops_Align.j0 k a0 false) else (ops_Align.j0 k a0 (t125 != 26)))
theorem ops_Align.mono_l : ∀ k, (∀ y0 y1, LeO (ops_Align.j0 k y0 y1) (ops_Align.j0 (k + 1) y0 y1))
 | 0 => fun _ _ r h => by simp [ops_Align.j0] at h
 | k + 1 => by
  have ih0 := ops_Align.mono_l k
  ·intro y0 y1
   unfold ops_Align.j0
   repeat' first
   | (with_reducible exact ih0 _ _)
   | (with_reducible exact ops_number.mono _ _)
   | (with_reducible exact ops_power.mono _ _)
   | (with_reducible exact LeO.refl _)
   | (with_reducible exact LeO.none _)
   | (with_reducible refine LeO.ite ?_ ?_)
   | (with_reducible refine LeO.bind ?_ (fun _ => ?_))
   | exact ih0 _ _
   | exact ops_number.mono _ _
   | exact ops_power.mono _ _
   | exact LeO.none _
   | refine LeO.ite ?_ ?_
   | refine LeO.bind ?_ (fun _ => ?_)
theorem ops_Align.mono : ∀ a0 k, LeO (ops_Align.f k a0) (ops_Align.f (k + 1) a0) := by
 intro a0 k
 have ih0 := ops_Align.mono_l k
 unfold ops_Align.f
 repeat' first
   | (with_reducible exact ih0 _ _)
   | (with_reducible exact ops_number.mono _ _)
   | (with_reducible exact ops_power.mono _ _)
   | (with_reducible exact LeO.refl _)
   | (with_reducible exact LeO.none _)
   | (with_reducible refine LeO.ite ?_ ?_)
   | (with_reducible refine LeO.bind ?_ (fun _ => ?_))
   | exact ih0 _ _
   | exact ops_number.mono _ _
   | exact ops_power.mono _ _
   | exact LeO.none _
   | refine LeO.ite ?_ ?_
   | refine LeO.bind ?_ (fun _ => ?_)
set_option maxHeartbeats 8000000 in
set_option maxRecDepth 100000 in
theorem ops_Align.calls (k : Nat) (a0 : Int) (r : Int) (w : World) (h : ops_Align.f k a0 = some r) (hG : GG w) :
  Calls Tryd.prog 16 #[.int .i64 a0] w fun e w' => e = .returned (.int .i64 r) ∧ Below w.heap.size w w' := by
 have HB := Aside0.mk (Below.refl w.heap.size w)
 have H : ((ops_Imm.f a0).bind fun t125 => (if t125 = 10 then (ops_Align.j0 k a0 false) else (ops_Align.j0 k a0 (t125 != 26)))) = some r := h
 clear h
 replace H := Option.bind_eq_some_iff.mp H
 obtain ⟨t125, A20, H⟩ := H
 replace H : (if t125 = 10 then (ops_Align.j0 k a0 false) else (ops_Align.j0 k a0 (t125 != 26))) = some r := H
 have A2 := Aside0.mk A20
 clear A20
 have HC3 := Aside0.mk H
 clear H
 go_enter Tryd.func16, Tryd.ntmps16
 go_upto_region 2 with (first | ((with_reducible refine gate_callee (f := 13) rfl ?_); refine goesL_ (some 10) rfl rfl Tryd.func13 (by kernel_rfl) rfl #[.int .i64 a0] rfl (by (try simp only [List.map_toArray, List.map_cons, List.map_nil]); first | done | rfl | (simp only [List.length_drop, List.length_take]; rfl)) ?_; (with_reducible refine (ops_Imm.calls a0 t125 _ A2.out (by repeat first | exact hG | refine GG.below hG ?_ | exact HB.out | exact Below.refl _ _ | assumption | apply below_alloc | apply pw_below_drewN | apply below_drew1 | refine below_set ?_ (Aside0.out (by assumption)))).mono ?_); rintro e w4 ⟨rfl, hb⟩; refine ⟨_, rfl, ?_⟩; have n0_ := Aside0.mk (below_step (by repeat (first | (with_reducible first | exact HB.out | apply below_alloc | apply pw_below_drewN | apply below_drew1) | exact HB.out)) hb); clear HB; have HB := n0_; clear n0_; (try clear hb); (try clear hb2); (try clear hk); (try clear hi)))
 (try simp only [Act.put, List.setIfInBounds_toArray, List.set_cons_zero, List.set_cons_succ])
 go_cut [16] (fun v16 wc => ∃ (kq : Nat) (x16_2 : Bool), v16 = .bool x16_2 ∧ Aside0 (ops_Align.j0 kq a0 x16_2 = some r) ∧ Aside0 (kq ≤ k) ∧ Aside0 (Below w.heap.size w wc))
 case first =>
  have H := HC3.out
  clear HC3
  by_cases c5 : t125 = 10
  ·rw [if_pos c5] at H
   have c5b0 : (t125 == 10) = true := beq_iff_eq.mpr c5
   have c5b1 : (t125 != 10) = false := bne_eq_false_iff_eq.mpr c5
   clear c5
   (first | rw [c5b0] | (simp only [i64_w, i32_w]; rw [c5b0]) | skip)
   have H' := Aside0.mk H
   clear H
   go_wp2
   go_meet
   case rel => exact ⟨_, (false), (by first | rfl | (simp; done) | (simp [*]; done)), H', ⟨by first | omega | exact Nat.le_refl _⟩, ⟨by repeat (first | (with_reducible first | exact HB.out | apply below_alloc | apply pw_below_drewN | apply below_drew1) | exact HB.out)⟩⟩
  ·rw [if_neg c5] at H
   have c5b0 : (t125 == 10) = false := beq_eq_false_iff_ne.mpr c5
   have c5b1 : (t125 != 10) = true := bne_iff_ne.mpr c5
   (first | rw [c5b0] | (simp only [i64_w, i32_w]; rw [c5b0]) | skip)
   have H' := Aside0.mk H
   clear H
   go_wp2
   go_meet
   case rel => exact ⟨_, ((t125 != 26)), (by first | rfl | (simp; done) | (simp [*]; done)), H', ⟨by first | omega | exact Nat.le_refl _⟩, ⟨by repeat (first | (with_reducible first | exact HB.out | apply below_alloc | apply pw_below_drewN | apply below_drew1) | exact HB.out)⟩⟩
 case rest =>
  clear HC3
  try clear c1
  try clear p2
  try clear c5
  try clear c5b0
  try clear c5b1
  obtain ⟨kq, x16_2, rfl, HA, HJ2, HB⟩ := hcut
  cases kq with
  | zero => exact absurd HA.out (by simp [ops_Align.j0])
  | succ kj2 =>
   have H := HA.out
   clear HA
   simp only [ops_Align.j0] at H
   by_cases c6 : x16_2 = true
   ·subst c6
    have H1 : (some (-1)) = some r := by rw [if_pos rfl] at H; exact H
    clear H
    have H := H1
    clear H1
    obtain rfl := Option.some.inj H
    go_wp2
    go_ret
    exact ⟨by first | rfl | (simp [errW_none, errW_some] <;> rfl) | (simp [*, errW_none, errW_some] <;> rfl) | (rw [Int.tdiv_eq_ediv_of_nonneg] <;> first | rfl | decide) | (simp [errW_none, errW_some] <;> exact isEmpty_bne _), by repeat (first | (with_reducible first | exact HB.out | apply below_alloc | apply pw_below_drewN | apply below_drew1) | exact HB.out)⟩
   ·replace c6 := Bool.eq_false_iff.mpr c6
    subst c6
    have H1 : ((ops_Name.f a0).bind fun t126 => ((strings_Cut.f t126 (⟨#[46]⟩ : ByteArray)).bind fun bt127 => ((strings_TrimPrefix.f bt127.2.1 (⟨#[108, 111, 97, 100]⟩ : ByteArray)).bind fun t130 => ((strings_TrimPrefix.f t130 (⟨#[115, 116, 111, 114, 101]⟩ : ByteArray)).bind fun t131 => ((ops_number.f kj2 t131).bind fun bt132 => ((strings_HasPrefix.f bt132.2 (⟨#[120]⟩ : ByteArray)).bind fun t134 => (if t134 = true then ((ops_power.f kj2 64).bind fun t135 => (some t135)) else (if bt132.1 = 0 then (if 1 ≤ (bt127.1.size : Int) then ((ops_number.f kj2 (bt127.1.extract 1 bt127.1.size)).bind fun bt136 => ((ops_power.f kj2 bt136.1).bind fun t138 => (some t138))) else (none)) else ((ops_power.f kj2 bt132.1).bind fun t139 => (some t139)))))))))) = some r := by rw [if_neg (show ¬ (false = true) by decide)] at H; exact H
    clear H
    have H := H1
    clear H1
    replace H := Option.bind_eq_some_iff.mp H
    obtain ⟨t126, A70, H⟩ := H
    replace H : ((strings_Cut.f t126 (⟨#[46]⟩ : ByteArray)).bind fun bt127 => ((strings_TrimPrefix.f bt127.2.1 (⟨#[108, 111, 97, 100]⟩ : ByteArray)).bind fun t130 => ((strings_TrimPrefix.f t130 (⟨#[115, 116, 111, 114, 101]⟩ : ByteArray)).bind fun t131 => ((ops_number.f kj2 t131).bind fun bt132 => ((strings_HasPrefix.f bt132.2 (⟨#[120]⟩ : ByteArray)).bind fun t134 => (if t134 = true then ((ops_power.f kj2 64).bind fun t135 => (some t135)) else (if bt132.1 = 0 then (if 1 ≤ (bt127.1.size : Int) then ((ops_number.f kj2 (bt127.1.extract 1 bt127.1.size)).bind fun bt136 => ((ops_power.f kj2 bt136.1).bind fun t138 => (some t138))) else (none)) else ((ops_power.f kj2 bt132.1).bind fun t139 => (some t139))))))))) = some r := H
    have A7 := Aside0.mk A70
    clear A70
    replace H := Option.bind_eq_some_iff.mp H
    obtain ⟨⟨t127, t128, t129⟩, A80, H⟩ := H
    replace H : ((strings_TrimPrefix.f t128 (⟨#[108, 111, 97, 100]⟩ : ByteArray)).bind fun t130 => ((strings_TrimPrefix.f t130 (⟨#[115, 116, 111, 114, 101]⟩ : ByteArray)).bind fun t131 => ((ops_number.f kj2 t131).bind fun bt132 => ((strings_HasPrefix.f bt132.2 (⟨#[120]⟩ : ByteArray)).bind fun t134 => (if t134 = true then ((ops_power.f kj2 64).bind fun t135 => (some t135)) else (if bt132.1 = 0 then (if 1 ≤ (t127.size : Int) then ((ops_number.f kj2 (t127.extract 1 t127.size)).bind fun bt136 => ((ops_power.f kj2 bt136.1).bind fun t138 => (some t138))) else (none)) else ((ops_power.f kj2 bt132.1).bind fun t139 => (some t139)))))))) = some r := H
    have A8 := Aside0.mk A80
    clear A80
    replace H := Option.bind_eq_some_iff.mp H
    obtain ⟨t130, A90, H⟩ := H
    replace H : ((strings_TrimPrefix.f t130 (⟨#[115, 116, 111, 114, 101]⟩ : ByteArray)).bind fun t131 => ((ops_number.f kj2 t131).bind fun bt132 => ((strings_HasPrefix.f bt132.2 (⟨#[120]⟩ : ByteArray)).bind fun t134 => (if t134 = true then ((ops_power.f kj2 64).bind fun t135 => (some t135)) else (if bt132.1 = 0 then (if 1 ≤ (t127.size : Int) then ((ops_number.f kj2 (t127.extract 1 t127.size)).bind fun bt136 => ((ops_power.f kj2 bt136.1).bind fun t138 => (some t138))) else (none)) else ((ops_power.f kj2 bt132.1).bind fun t139 => (some t139))))))) = some r := H
    have A9 := Aside0.mk A90
    clear A90
    replace H := Option.bind_eq_some_iff.mp H
    obtain ⟨t131, A100, H⟩ := H
    replace H : ((ops_number.f kj2 t131).bind fun bt132 => ((strings_HasPrefix.f bt132.2 (⟨#[120]⟩ : ByteArray)).bind fun t134 => (if t134 = true then ((ops_power.f kj2 64).bind fun t135 => (some t135)) else (if bt132.1 = 0 then (if 1 ≤ (t127.size : Int) then ((ops_number.f kj2 (t127.extract 1 t127.size)).bind fun bt136 => ((ops_power.f kj2 bt136.1).bind fun t138 => (some t138))) else (none)) else ((ops_power.f kj2 bt132.1).bind fun t139 => (some t139)))))) = some r := H
    have A10 := Aside0.mk A100
    clear A100
    replace H := Option.bind_eq_some_iff.mp H
    obtain ⟨⟨t132, t133⟩, A110, H⟩ := H
    replace H : ((strings_HasPrefix.f t133 (⟨#[120]⟩ : ByteArray)).bind fun t134 => (if t134 = true then ((ops_power.f kj2 64).bind fun t135 => (some t135)) else (if t132 = 0 then (if 1 ≤ (t127.size : Int) then ((ops_number.f kj2 (t127.extract 1 t127.size)).bind fun bt136 => ((ops_power.f kj2 bt136.1).bind fun t138 => (some t138))) else (none)) else ((ops_power.f kj2 t132).bind fun t139 => (some t139))))) = some r := H
    have A11 := Aside0.mk A110
    clear A110
    replace H := Option.bind_eq_some_iff.mp H
    obtain ⟨t134, A120, H⟩ := H
    replace H : (if t134 = true then ((ops_power.f kj2 64).bind fun t135 => (some t135)) else (if t132 = 0 then (if 1 ≤ (t127.size : Int) then ((ops_number.f kj2 (t127.extract 1 t127.size)).bind fun bt136 => ((ops_power.f kj2 bt136.1).bind fun t138 => (some t138))) else (none)) else ((ops_power.f kj2 t132).bind fun t139 => (some t139)))) = some r := H
    have A12 := Aside0.mk A120
    clear A120
    by_cases c13 : t134 = true
    ·subst c13
     have H1 : ((ops_power.f kj2 64).bind fun t135 => (some t135)) = some r := by rw [if_pos rfl] at H; exact H
     clear H
     have H := H1
     clear H1
     replace H := Option.bind_eq_some_iff.mp H
     obtain ⟨t135, A140, H⟩ := H
     replace H : (some t135) = some r := H
     have A14 := Aside0.mk A140
     clear A140
     obtain rfl := Option.some.inj H
     go_wp2_with (first | ((with_reducible refine gate_callee (f := 12) rfl ?_); refine goesL_ (some 19) rfl rfl Tryd.func12 (by kernel_rfl) rfl #[.int .i64 a0] rfl (by (try simp only [List.map_toArray, List.map_cons, List.map_nil]); first | done | rfl | (simp only [List.length_drop, List.length_take]; rfl)) ?_; (with_reducible refine (ops_Name.calls a0 t126 _ A7.out (by repeat first | exact hG | refine GG.below hG ?_ | exact HB.out | exact Below.refl _ _ | assumption | apply below_alloc | apply pw_below_drewN | apply below_drew1 | refine below_set ?_ (Aside0.out (by assumption)))).mono ?_); rintro e w15 ⟨rfl, hb⟩; refine ⟨_, rfl, ?_⟩; have n0_ := Aside0.mk (below_step (by repeat (first | (with_reducible first | exact HB.out | apply below_alloc | apply pw_below_drewN | apply below_drew1) | exact HB.out)) hb); clear HB; have HB := n0_; clear n0_; (try clear hb); (try clear hb2); (try clear hk); (try clear hi)) | ((with_reducible refine gate_callee (f := 29) rfl ?_); refine goesL_ (some 20) rfl rfl Tryd.func29 (by kernel_rfl) rfl #[.string t126, .string (⟨#[46]⟩ : ByteArray)] rfl (by (try simp only [List.map_toArray, List.map_cons, List.map_nil]); first | done | rfl | (simp only [List.length_drop, List.length_take]; rfl)) ?_; (with_reducible refine (strings_Cut.calls t126 (⟨#[46]⟩ : ByteArray) t127 t128 t129 _ A8.out (by repeat first | exact hG | refine GG.below hG ?_ | exact HB.out | exact Below.refl _ _ | assumption | apply below_alloc | apply pw_below_drewN | apply below_drew1 | refine below_set ?_ (Aside0.out (by assumption)))).mono ?_); rintro e w' ⟨rfl, ⟨nd, rfl⟩⟩; refine ⟨_, rfl, ?_⟩) | ((with_reducible refine gate_callee (f := 34) rfl ?_); refine goesL_ (some 26) rfl rfl Tryd.func34 (by kernel_rfl) rfl #[.string t128, .string (⟨#[108, 111, 97, 100]⟩ : ByteArray)] rfl (by (try simp only [List.map_toArray, List.map_cons, List.map_nil]); first | done | rfl | (simp only [List.length_drop, List.length_take]; rfl)) ?_; (with_reducible refine (strings_TrimPrefix.calls t128 (⟨#[108, 111, 97, 100]⟩ : ByteArray) t130 _ A9.out (by repeat first | exact hG | refine GG.below hG ?_ | exact HB.out | exact Below.refl _ _ | assumption | apply below_alloc | apply pw_below_drewN | apply below_drew1 | refine below_set ?_ (Aside0.out (by assumption)))).mono ?_); rintro e w' ⟨rfl, ⟨nd, rfl⟩⟩; refine ⟨_, rfl, ?_⟩) | ((with_reducible refine gate_callee (f := 34) rfl ?_); refine goesL_ (some 27) rfl rfl Tryd.func34 (by kernel_rfl) rfl #[.string t130, .string (⟨#[115, 116, 111, 114, 101]⟩ : ByteArray)] rfl (by (try simp only [List.map_toArray, List.map_cons, List.map_nil]); first | done | rfl | (simp only [List.length_drop, List.length_take]; rfl)) ?_; (with_reducible refine (strings_TrimPrefix.calls t130 (⟨#[115, 116, 111, 114, 101]⟩ : ByteArray) t131 _ A10.out (by repeat first | exact hG | refine GG.below hG ?_ | exact HB.out | exact Below.refl _ _ | assumption | apply below_alloc | apply pw_below_drewN | apply below_drew1 | refine below_set ?_ (Aside0.out (by assumption)))).mono ?_); rintro e w' ⟨rfl, ⟨nd, rfl⟩⟩; refine ⟨_, rfl, ?_⟩) | ((with_reducible refine gate_callee (f := 33) rfl ?_); refine goesL_ (some 28) rfl rfl Tryd.func33 (by kernel_rfl) rfl #[.string t131] rfl (by (try simp only [List.map_toArray, List.map_cons, List.map_nil]); first | done | rfl | (simp only [List.length_drop, List.length_take]; rfl)) ?_; (with_reducible refine (ops_number.calls kj2 t131 t132 t133 _ A11.out (by repeat first | exact hG | refine GG.below hG ?_ | exact HB.out | exact Below.refl _ _ | assumption | apply below_alloc | apply pw_below_drewN | apply below_drew1 | refine below_set ?_ (Aside0.out (by assumption)))).mono ?_); rintro e w' ⟨rfl, ⟨nd, rfl⟩⟩; refine ⟨_, rfl, ?_⟩) | ((with_reducible refine gate_callee (f := 35) rfl ?_); refine goesL_ (some 33) rfl rfl Tryd.func35 (by kernel_rfl) rfl #[.string t133, .string (⟨#[120]⟩ : ByteArray)] rfl (by (try simp only [List.map_toArray, List.map_cons, List.map_nil]); first | done | rfl | (simp only [List.length_drop, List.length_take]; rfl)) ?_; (with_reducible refine (strings_HasPrefix.calls t133 (⟨#[120]⟩ : ByteArray) true _ A12.out (by repeat first | exact hG | refine GG.below hG ?_ | exact HB.out | exact Below.refl _ _ | assumption | apply below_alloc | apply pw_below_drewN | apply below_drew1 | refine below_set ?_ (Aside0.out (by assumption)))).mono ?_); rintro e w' ⟨rfl, ⟨nd, rfl⟩⟩; refine ⟨_, rfl, ?_⟩) | ((with_reducible refine gate_callee (f := 36) rfl ?_); refine goesL_ (some 44) rfl rfl Tryd.func36 (by kernel_rfl) rfl #[.int .i64 64] rfl (by (try simp only [List.map_toArray, List.map_cons, List.map_nil]); first | done | rfl | (simp only [List.length_drop, List.length_take]; rfl)) ?_; (with_reducible refine (ops_power.calls kj2 64 t135 _ A14.out (by repeat first | exact hG | refine GG.below hG ?_ | exact HB.out | exact Below.refl _ _ | assumption | apply below_alloc | apply pw_below_drewN | apply below_drew1 | refine below_set ?_ (Aside0.out (by assumption)))).mono ?_); rintro e w' ⟨rfl, ⟨nd, rfl⟩⟩; refine ⟨_, rfl, ?_⟩))
     go_ret
     exact ⟨by first | rfl | (simp [errW_none, errW_some] <;> rfl) | (simp [*, errW_none, errW_some] <;> rfl) | (rw [Int.tdiv_eq_ediv_of_nonneg] <;> first | rfl | decide) | (simp [errW_none, errW_some] <;> exact isEmpty_bne _), by repeat (first | (with_reducible first | exact HB.out | apply below_alloc | apply pw_below_drewN | apply below_drew1) | exact HB.out)⟩
    ·replace c13 := Bool.eq_false_iff.mpr c13
     subst c13
     have H1 : (if t132 = 0 then (if 1 ≤ (t127.size : Int) then ((ops_number.f kj2 (t127.extract 1 t127.size)).bind fun bt136 => ((ops_power.f kj2 bt136.1).bind fun t138 => (some t138))) else (none)) else ((ops_power.f kj2 t132).bind fun t139 => (some t139))) = some r := by rw [if_neg (show ¬ (false = true) by decide)] at H; exact H
     clear H
     have H := H1
     clear H1
     by_cases c16 : t132 = 0
     ·rw [if_pos c16] at H
      have c16b0 : (t132 == 0) = true := beq_iff_eq.mpr c16
      have c16b1 : (t132 != 0) = false := bne_eq_false_iff_eq.mpr c16
      clear c16
      by_cases c17 : 1 ≤ (t127.size : Int)
      ·rw [if_pos c17] at H
       have c17b0 := eq_true c17
       have c17b1 : decide (1 ≤ (t127.size : Int)) = true := decide_eq_true c17
       clear c17
       replace H := Option.bind_eq_some_iff.mp H
       obtain ⟨⟨t136, t137⟩, A180, H⟩ := H
       replace H : ((ops_power.f kj2 t136).bind fun t138 => (some t138)) = some r := H
       have A18 := Aside0.mk A180
       clear A180
       replace H := Option.bind_eq_some_iff.mp H
       obtain ⟨t138, A190, H⟩ := H
       replace H : (some t138) = some r := H
       have A19 := Aside0.mk A190
       clear A190
       obtain rfl := Option.some.inj H
       go_wp2_with (first | ((with_reducible refine gate_callee (f := 12) rfl ?_); refine goesL_ (some 19) rfl rfl Tryd.func12 (by kernel_rfl) rfl #[.int .i64 a0] rfl (by (try simp only [List.map_toArray, List.map_cons, List.map_nil]); first | done | rfl | (simp only [List.length_drop, List.length_take]; rfl)) ?_; (with_reducible refine (ops_Name.calls a0 t126 _ A7.out (by repeat first | exact hG | refine GG.below hG ?_ | exact HB.out | exact Below.refl _ _ | assumption | apply below_alloc | apply pw_below_drewN | apply below_drew1 | refine below_set ?_ (Aside0.out (by assumption)))).mono ?_); rintro e w20 ⟨rfl, hb⟩; refine ⟨_, rfl, ?_⟩; have n0_ := Aside0.mk (below_step (by repeat (first | (with_reducible first | exact HB.out | apply below_alloc | apply pw_below_drewN | apply below_drew1) | exact HB.out)) hb); clear HB; have HB := n0_; clear n0_; (try clear hb); (try clear hb2); (try clear hk); (try clear hi)) | ((with_reducible refine gate_callee (f := 29) rfl ?_); refine goesL_ (some 20) rfl rfl Tryd.func29 (by kernel_rfl) rfl #[.string t126, .string (⟨#[46]⟩ : ByteArray)] rfl (by (try simp only [List.map_toArray, List.map_cons, List.map_nil]); first | done | rfl | (simp only [List.length_drop, List.length_take]; rfl)) ?_; (with_reducible refine (strings_Cut.calls t126 (⟨#[46]⟩ : ByteArray) t127 t128 t129 _ A8.out (by repeat first | exact hG | refine GG.below hG ?_ | exact HB.out | exact Below.refl _ _ | assumption | apply below_alloc | apply pw_below_drewN | apply below_drew1 | refine below_set ?_ (Aside0.out (by assumption)))).mono ?_); rintro e w' ⟨rfl, ⟨nd, rfl⟩⟩; refine ⟨_, rfl, ?_⟩) | ((with_reducible refine gate_callee (f := 34) rfl ?_); refine goesL_ (some 26) rfl rfl Tryd.func34 (by kernel_rfl) rfl #[.string t128, .string (⟨#[108, 111, 97, 100]⟩ : ByteArray)] rfl (by (try simp only [List.map_toArray, List.map_cons, List.map_nil]); first | done | rfl | (simp only [List.length_drop, List.length_take]; rfl)) ?_; (with_reducible refine (strings_TrimPrefix.calls t128 (⟨#[108, 111, 97, 100]⟩ : ByteArray) t130 _ A9.out (by repeat first | exact hG | refine GG.below hG ?_ | exact HB.out | exact Below.refl _ _ | assumption | apply below_alloc | apply pw_below_drewN | apply below_drew1 | refine below_set ?_ (Aside0.out (by assumption)))).mono ?_); rintro e w' ⟨rfl, ⟨nd, rfl⟩⟩; refine ⟨_, rfl, ?_⟩) | ((with_reducible refine gate_callee (f := 34) rfl ?_); refine goesL_ (some 27) rfl rfl Tryd.func34 (by kernel_rfl) rfl #[.string t130, .string (⟨#[115, 116, 111, 114, 101]⟩ : ByteArray)] rfl (by (try simp only [List.map_toArray, List.map_cons, List.map_nil]); first | done | rfl | (simp only [List.length_drop, List.length_take]; rfl)) ?_; (with_reducible refine (strings_TrimPrefix.calls t130 (⟨#[115, 116, 111, 114, 101]⟩ : ByteArray) t131 _ A10.out (by repeat first | exact hG | refine GG.below hG ?_ | exact HB.out | exact Below.refl _ _ | assumption | apply below_alloc | apply pw_below_drewN | apply below_drew1 | refine below_set ?_ (Aside0.out (by assumption)))).mono ?_); rintro e w' ⟨rfl, ⟨nd, rfl⟩⟩; refine ⟨_, rfl, ?_⟩) | ((with_reducible refine gate_callee (f := 33) rfl ?_); refine goesL_ (some 28) rfl rfl Tryd.func33 (by kernel_rfl) rfl #[.string t131] rfl (by (try simp only [List.map_toArray, List.map_cons, List.map_nil]); first | done | rfl | (simp only [List.length_drop, List.length_take]; rfl)) ?_; (with_reducible refine (ops_number.calls kj2 t131 t132 t133 _ A11.out (by repeat first | exact hG | refine GG.below hG ?_ | exact HB.out | exact Below.refl _ _ | assumption | apply below_alloc | apply pw_below_drewN | apply below_drew1 | refine below_set ?_ (Aside0.out (by assumption)))).mono ?_); rintro e w' ⟨rfl, ⟨nd, rfl⟩⟩; refine ⟨_, rfl, ?_⟩) | ((with_reducible refine gate_callee (f := 35) rfl ?_); refine goesL_ (some 33) rfl rfl Tryd.func35 (by kernel_rfl) rfl #[.string t133, .string (⟨#[120]⟩ : ByteArray)] rfl (by (try simp only [List.map_toArray, List.map_cons, List.map_nil]); first | done | rfl | (simp only [List.length_drop, List.length_take]; rfl)) ?_; (with_reducible refine (strings_HasPrefix.calls t133 (⟨#[120]⟩ : ByteArray) false _ A12.out (by repeat first | exact hG | refine GG.below hG ?_ | exact HB.out | exact Below.refl _ _ | assumption | apply below_alloc | apply pw_below_drewN | apply below_drew1 | refine below_set ?_ (Aside0.out (by assumption)))).mono ?_); rintro e w' ⟨rfl, ⟨nd, rfl⟩⟩; refine ⟨_, rfl, ?_⟩) | ((with_reducible refine gate_callee (f := 33) rfl ?_); refine goesL_ (some 40) rfl rfl Tryd.func33 (by kernel_rfl) rfl #[.string (t127.extract 1 t127.size)] rfl (by (try simp only [List.map_toArray, List.map_cons, List.map_nil]); first | done | rfl | (simp only [List.length_drop, List.length_take]; rfl)) ?_; (with_reducible refine (ops_number.calls kj2 (t127.extract 1 t127.size) t136 t137 _ A18.out (by repeat first | exact hG | refine GG.below hG ?_ | exact HB.out | exact Below.refl _ _ | assumption | apply below_alloc | apply pw_below_drewN | apply below_drew1 | refine below_set ?_ (Aside0.out (by assumption)))).mono ?_); rintro e w' ⟨rfl, ⟨nd, rfl⟩⟩; refine ⟨_, rfl, ?_⟩) | ((with_reducible refine gate_callee (f := 36) rfl ?_); refine goesL_ (some 44) rfl rfl Tryd.func36 (by kernel_rfl) rfl #[.int .i64 t136] rfl (by (try simp only [List.map_toArray, List.map_cons, List.map_nil]); first | done | rfl | (simp only [List.length_drop, List.length_take]; rfl)) ?_; (with_reducible refine (ops_power.calls kj2 t136 t138 _ A19.out (by repeat first | exact hG | refine GG.below hG ?_ | exact HB.out | exact Below.refl _ _ | assumption | apply below_alloc | apply pw_below_drewN | apply below_drew1 | refine below_set ?_ (Aside0.out (by assumption)))).mono ?_); rintro e w' ⟨rfl, ⟨nd, rfl⟩⟩; refine ⟨_, rfl, ?_⟩))
       go_ret
       exact ⟨by first | rfl | (simp [errW_none, errW_some] <;> rfl) | (simp [*, errW_none, errW_some] <;> rfl) | (rw [Int.tdiv_eq_ediv_of_nonneg] <;> first | rfl | decide) | (simp [errW_none, errW_some] <;> exact isEmpty_bne _), by repeat (first | (with_reducible first | exact HB.out | apply below_alloc | apply pw_below_drewN | apply below_drew1) | exact HB.out)⟩
      ·rw [if_neg c17] at H
       exact absurd H (by simp)
     ·rw [if_neg c16] at H
      have c16b0 : (t132 == 0) = false := beq_eq_false_iff_ne.mpr c16
      have c16b1 : (t132 != 0) = true := bne_iff_ne.mpr c16
      replace H := Option.bind_eq_some_iff.mp H
      obtain ⟨t139, A210, H⟩ := H
      replace H : (some t139) = some r := H
      have A21 := Aside0.mk A210
      clear A210
      obtain rfl := Option.some.inj H
      go_wp2_with (first | ((with_reducible refine gate_callee (f := 12) rfl ?_); refine goesL_ (some 19) rfl rfl Tryd.func12 (by kernel_rfl) rfl #[.int .i64 a0] rfl (by (try simp only [List.map_toArray, List.map_cons, List.map_nil]); first | done | rfl | (simp only [List.length_drop, List.length_take]; rfl)) ?_; (with_reducible refine (ops_Name.calls a0 t126 _ A7.out (by repeat first | exact hG | refine GG.below hG ?_ | exact HB.out | exact Below.refl _ _ | assumption | apply below_alloc | apply pw_below_drewN | apply below_drew1 | refine below_set ?_ (Aside0.out (by assumption)))).mono ?_); rintro e w22 ⟨rfl, hb⟩; refine ⟨_, rfl, ?_⟩; have n0_ := Aside0.mk (below_step (by repeat (first | (with_reducible first | exact HB.out | apply below_alloc | apply pw_below_drewN | apply below_drew1) | exact HB.out)) hb); clear HB; have HB := n0_; clear n0_; (try clear hb); (try clear hb2); (try clear hk); (try clear hi)) | ((with_reducible refine gate_callee (f := 29) rfl ?_); refine goesL_ (some 20) rfl rfl Tryd.func29 (by kernel_rfl) rfl #[.string t126, .string (⟨#[46]⟩ : ByteArray)] rfl (by (try simp only [List.map_toArray, List.map_cons, List.map_nil]); first | done | rfl | (simp only [List.length_drop, List.length_take]; rfl)) ?_; (with_reducible refine (strings_Cut.calls t126 (⟨#[46]⟩ : ByteArray) t127 t128 t129 _ A8.out (by repeat first | exact hG | refine GG.below hG ?_ | exact HB.out | exact Below.refl _ _ | assumption | apply below_alloc | apply pw_below_drewN | apply below_drew1 | refine below_set ?_ (Aside0.out (by assumption)))).mono ?_); rintro e w' ⟨rfl, ⟨nd, rfl⟩⟩; refine ⟨_, rfl, ?_⟩) | ((with_reducible refine gate_callee (f := 34) rfl ?_); refine goesL_ (some 26) rfl rfl Tryd.func34 (by kernel_rfl) rfl #[.string t128, .string (⟨#[108, 111, 97, 100]⟩ : ByteArray)] rfl (by (try simp only [List.map_toArray, List.map_cons, List.map_nil]); first | done | rfl | (simp only [List.length_drop, List.length_take]; rfl)) ?_; (with_reducible refine (strings_TrimPrefix.calls t128 (⟨#[108, 111, 97, 100]⟩ : ByteArray) t130 _ A9.out (by repeat first | exact hG | refine GG.below hG ?_ | exact HB.out | exact Below.refl _ _ | assumption | apply below_alloc | apply pw_below_drewN | apply below_drew1 | refine below_set ?_ (Aside0.out (by assumption)))).mono ?_); rintro e w' ⟨rfl, ⟨nd, rfl⟩⟩; refine ⟨_, rfl, ?_⟩) | ((with_reducible refine gate_callee (f := 34) rfl ?_); refine goesL_ (some 27) rfl rfl Tryd.func34 (by kernel_rfl) rfl #[.string t130, .string (⟨#[115, 116, 111, 114, 101]⟩ : ByteArray)] rfl (by (try simp only [List.map_toArray, List.map_cons, List.map_nil]); first | done | rfl | (simp only [List.length_drop, List.length_take]; rfl)) ?_; (with_reducible refine (strings_TrimPrefix.calls t130 (⟨#[115, 116, 111, 114, 101]⟩ : ByteArray) t131 _ A10.out (by repeat first | exact hG | refine GG.below hG ?_ | exact HB.out | exact Below.refl _ _ | assumption | apply below_alloc | apply pw_below_drewN | apply below_drew1 | refine below_set ?_ (Aside0.out (by assumption)))).mono ?_); rintro e w' ⟨rfl, ⟨nd, rfl⟩⟩; refine ⟨_, rfl, ?_⟩) | ((with_reducible refine gate_callee (f := 33) rfl ?_); refine goesL_ (some 28) rfl rfl Tryd.func33 (by kernel_rfl) rfl #[.string t131] rfl (by (try simp only [List.map_toArray, List.map_cons, List.map_nil]); first | done | rfl | (simp only [List.length_drop, List.length_take]; rfl)) ?_; (with_reducible refine (ops_number.calls kj2 t131 t132 t133 _ A11.out (by repeat first | exact hG | refine GG.below hG ?_ | exact HB.out | exact Below.refl _ _ | assumption | apply below_alloc | apply pw_below_drewN | apply below_drew1 | refine below_set ?_ (Aside0.out (by assumption)))).mono ?_); rintro e w' ⟨rfl, ⟨nd, rfl⟩⟩; refine ⟨_, rfl, ?_⟩) | ((with_reducible refine gate_callee (f := 35) rfl ?_); refine goesL_ (some 33) rfl rfl Tryd.func35 (by kernel_rfl) rfl #[.string t133, .string (⟨#[120]⟩ : ByteArray)] rfl (by (try simp only [List.map_toArray, List.map_cons, List.map_nil]); first | done | rfl | (simp only [List.length_drop, List.length_take]; rfl)) ?_; (with_reducible refine (strings_HasPrefix.calls t133 (⟨#[120]⟩ : ByteArray) false _ A12.out (by repeat first | exact hG | refine GG.below hG ?_ | exact HB.out | exact Below.refl _ _ | assumption | apply below_alloc | apply pw_below_drewN | apply below_drew1 | refine below_set ?_ (Aside0.out (by assumption)))).mono ?_); rintro e w' ⟨rfl, ⟨nd, rfl⟩⟩; refine ⟨_, rfl, ?_⟩) | ((with_reducible refine gate_callee (f := 36) rfl ?_); refine goesL_ (some 44) rfl rfl Tryd.func36 (by kernel_rfl) rfl #[.int .i64 t132] rfl (by (try simp only [List.map_toArray, List.map_cons, List.map_nil]); first | done | rfl | (simp only [List.length_drop, List.length_take]; rfl)) ?_; (with_reducible refine (ops_power.calls kj2 t132 t139 _ A21.out (by repeat first | exact hG | refine GG.below hG ?_ | exact HB.out | exact Below.refl _ _ | assumption | apply below_alloc | apply pw_below_drewN | apply below_drew1 | refine below_set ?_ (Aside0.out (by assumption)))).mono ?_); rintro e w' ⟨rfl, ⟨nd, rfl⟩⟩; refine ⟨_, rfl, ?_⟩))
      go_ret
      exact ⟨by first | rfl | (simp [errW_none, errW_some] <;> rfl) | (simp [*, errW_none, errW_some] <;> rfl) | (rw [Int.tdiv_eq_ediv_of_nonneg] <;> first | rfl | decide) | (simp [errW_none, errW_some] <;> exact isEmpty_bne _), by repeat (first | (with_reducible first | exact HB.out | apply below_alloc | apply pw_below_drewN | apply below_drew1) | exact HB.out)⟩
def ops_Lanes.f (k : Nat) (a0 : Int) : Option (Int) := (ops_Imm.f a0).bind fun t140 => (if t140 = 24 then (some 32) else (if t140 = 26 then ((ops_Align.f k a0).bind fun t141 => (if 0 ≤ (IntKind.u64.wrap (t141)) then (some (shr .i64 16 (IntKind.u64.wrap (t141)))) else (none))) else (if t140 = 25 then ((ops_Name.f a0).bind fun t142 => ((strings_Cut.f t142 (⟨#[120]⟩ : ByteArray)).bind fun bt143 => ((ops_number.f k bt143.2.1).bind fun bt146 => (some bt146.1)))) else (some 0))))
theorem ops_Lanes.mono : ∀ a0 k, LeO (ops_Lanes.f k a0) (ops_Lanes.f (k + 1) a0) := by
 intro a0 k
 unfold ops_Lanes.f
 repeat' first
   | (with_reducible exact ops_Align.mono _ _)
   | (with_reducible exact ops_number.mono _ _)
   | (with_reducible exact LeO.refl _)
   | (with_reducible exact LeO.none _)
   | (with_reducible refine LeO.ite ?_ ?_)
   | (with_reducible refine LeO.bind ?_ (fun _ => ?_))
   | exact ops_Align.mono _ _
   | exact ops_number.mono _ _
   | exact LeO.none _
   | refine LeO.ite ?_ ?_
   | refine LeO.bind ?_ (fun _ => ?_)
set_option maxHeartbeats 8000000 in
set_option maxRecDepth 100000 in
theorem ops_Lanes.calls (k : Nat) (a0 : Int) (r : Int) (w : World) (h : ops_Lanes.f k a0 = some r) (hG : GG w) :
  Calls Tryd.prog 18 #[.int .i64 a0] w fun e w' => e = .returned (.int .i64 r) ∧ Below w.heap.size w w' := by
 have HB := Aside0.mk (Below.refl w.heap.size w)
 have H : ((ops_Imm.f a0).bind fun t140 => (if t140 = 24 then (some 32) else (if t140 = 26 then ((ops_Align.f k a0).bind fun t141 => (if 0 ≤ (IntKind.u64.wrap (t141)) then (some (shr .i64 16 (IntKind.u64.wrap (t141)))) else (none))) else (if t140 = 25 then ((ops_Name.f a0).bind fun t142 => ((strings_Cut.f t142 (⟨#[120]⟩ : ByteArray)).bind fun bt143 => ((ops_number.f k bt143.2.1).bind fun bt146 => (some bt146.1)))) else (some 0))))) = some r := h
 clear h
 replace H := Option.bind_eq_some_iff.mp H
 obtain ⟨t140, A20, H⟩ := H
 replace H : (if t140 = 24 then (some 32) else (if t140 = 26 then ((ops_Align.f k a0).bind fun t141 => (if 0 ≤ (IntKind.u64.wrap (t141)) then (some (shr .i64 16 (IntKind.u64.wrap (t141)))) else (none))) else (if t140 = 25 then ((ops_Name.f a0).bind fun t142 => ((strings_Cut.f t142 (⟨#[120]⟩ : ByteArray)).bind fun bt143 => ((ops_number.f k bt143.2.1).bind fun bt146 => (some bt146.1)))) else (some 0)))) = some r := H
 have A2 := Aside0.mk A20
 clear A20
 by_cases c3 : t140 = 24
 ·rw [if_pos c3] at H
  have c3b0 : (t140 == 24) = true := beq_iff_eq.mpr c3
  have c3b1 : (t140 != 24) = false := bne_eq_false_iff_eq.mpr c3
  clear c3
  obtain rfl := Option.some.inj H
  go_enter Tryd.func18, Tryd.ntmps18
  go_wp2_with (first | ((with_reducible refine gate_callee (f := 13) rfl ?_); refine goesL_ (some 9) rfl rfl Tryd.func13 (by kernel_rfl) rfl #[.int .i64 a0] rfl (by (try simp only [List.map_toArray, List.map_cons, List.map_nil]); first | done | rfl | (simp only [List.length_drop, List.length_take]; rfl)) ?_; (with_reducible refine (ops_Imm.calls a0 t140 _ A2.out (by repeat first | exact hG | refine GG.below hG ?_ | exact HB.out | exact Below.refl _ _ | assumption | apply below_alloc | apply pw_below_drewN | apply below_drew1 | refine below_set ?_ (Aside0.out (by assumption)))).mono ?_); rintro e w4 ⟨rfl, hb⟩; refine ⟨_, rfl, ?_⟩; have n0_ := Aside0.mk (below_step (by repeat (first | (with_reducible first | exact HB.out | apply below_alloc | apply pw_below_drewN | apply below_drew1) | exact HB.out)) hb); clear HB; have HB := n0_; clear n0_; (try clear hb); (try clear hb2); (try clear hk); (try clear hi)))
  go_ret
  exact ⟨by first | rfl | (simp [errW_none, errW_some] <;> rfl) | (simp [*, errW_none, errW_some] <;> rfl) | (rw [Int.tdiv_eq_ediv_of_nonneg] <;> first | rfl | decide) | (simp [errW_none, errW_some] <;> exact isEmpty_bne _), by repeat (first | (with_reducible first | exact HB.out | apply below_alloc | apply pw_below_drewN | apply below_drew1) | exact HB.out)⟩
 ·rw [if_neg c3] at H
  have c3b0 : (t140 == 24) = false := beq_eq_false_iff_ne.mpr c3
  have c3b1 : (t140 != 24) = true := bne_iff_ne.mpr c3
  by_cases c5 : t140 = 26
  ·rw [if_pos c5] at H
   have c5b0 : (t140 == 26) = true := beq_iff_eq.mpr c5
   have c5b1 : (t140 != 26) = false := bne_eq_false_iff_eq.mpr c5
   clear c5
   replace H := Option.bind_eq_some_iff.mp H
   obtain ⟨t141, A60, H⟩ := H
   replace H : (if 0 ≤ (IntKind.u64.wrap (t141)) then (some (shr .i64 16 (IntKind.u64.wrap (t141)))) else (none)) = some r := H
   have A6 := Aside0.mk A60
   clear A60
   obtain ⟨ji7, hji7⟩ : ∃ j_ : Int, (IntKind.u64.wrap (t141)) = j_ := ⟨_, rfl⟩
   replace H : (if 0 ≤ (ji7) then (some (shr .i64 16 (ji7))) else (none)) = some r := by first | (rw [hji7] at H; exact H) | (simp only [hji7] at H ⊢; exact H)
   (try rw [hji7] at A2)
   (try rw [hji7] at A6)
   by_cases c8 : 0 ≤ (ji7)
   ·rw [if_pos c8] at H
    have c8b0 := eq_true c8
    have c8b1 : decide (0 ≤ (ji7)) = true := decide_eq_true c8
    clear c8
    obtain ⟨ji9, hji9⟩ : ∃ j_ : Int, (shr .i64 16 (ji7)) = j_ := ⟨_, rfl⟩
    replace H : (some ji9) = some r := by first | (rw [hji9] at H; exact H) | (simp only [hji9] at H ⊢; exact H)
    (try rw [hji9] at A2)
    (try rw [hji9] at A6)
    have hji9_ : (16 / 2 ^ min (ji7).toNat 64) = ji9 := hji9
    have hji9z : (ji7) ≤ 64 → (16 / 2 ^ (ji7).toNat) = ji9 := shr_small hji9
    obtain rfl := Option.some.inj H
    go_enter Tryd.func18, Tryd.ntmps18
    go_wp2_with (first | ((with_reducible refine gate_callee (f := 13) rfl ?_); refine goesL_ (some 9) rfl rfl Tryd.func13 (by kernel_rfl) rfl #[.int .i64 a0] rfl (by (try simp only [List.map_toArray, List.map_cons, List.map_nil]); first | done | rfl | (simp only [List.length_drop, List.length_take]; rfl)) ?_; (with_reducible refine (ops_Imm.calls a0 t140 _ A2.out (by repeat first | exact hG | refine GG.below hG ?_ | exact HB.out | exact Below.refl _ _ | assumption | apply below_alloc | apply pw_below_drewN | apply below_drew1 | refine below_set ?_ (Aside0.out (by assumption)))).mono ?_); rintro e w10 ⟨rfl, hb⟩; refine ⟨_, rfl, ?_⟩; have n0_ := Aside0.mk (below_step (by repeat (first | (with_reducible first | exact HB.out | apply below_alloc | apply pw_below_drewN | apply below_drew1) | exact HB.out)) hb); clear HB; have HB := n0_; clear n0_; (try clear hb); (try clear hb2); (try clear hk); (try clear hi)) | ((with_reducible refine gate_callee (f := 16) rfl ?_); refine goesL_ (some 15) rfl rfl Tryd.func16 (by kernel_rfl) rfl #[.int .i64 a0] rfl (by (try simp only [List.map_toArray, List.map_cons, List.map_nil]); first | done | rfl | (simp only [List.length_drop, List.length_take]; rfl)) ?_; (with_reducible refine (ops_Align.calls k a0 t141 _ A6.out (by repeat first | exact hG | refine GG.below hG ?_ | exact HB.out | exact Below.refl _ _ | assumption | apply below_alloc | apply pw_below_drewN | apply below_drew1 | refine below_set ?_ (Aside0.out (by assumption)))).mono ?_); rintro e w11 ⟨rfl, hb⟩; refine ⟨_, rfl, ?_⟩; have n0_ := Aside0.mk (below_step (by repeat (first | (with_reducible first | exact HB.out | apply below_alloc | apply pw_below_drewN | apply below_drew1) | exact HB.out)) hb); clear HB; have HB := n0_; clear n0_; (try clear hb); (try clear hb2); (try clear hk); (try clear hi)))
    go_ret
    exact ⟨by first | rfl | (simp [errW_none, errW_some] <;> rfl) | (simp only [← hji7, ← hji9]; first | rfl | (simp [errW_none, errW_some] <;> rfl)) | (simp [*, errW_none, errW_some] <;> rfl), by repeat (first | (with_reducible first | exact HB.out | apply below_alloc | apply pw_below_drewN | apply below_drew1) | exact HB.out)⟩
   ·rw [if_neg c8] at H
    exact absurd H (by simp)
  ·rw [if_neg c5] at H
   have c5b0 : (t140 == 26) = false := beq_eq_false_iff_ne.mpr c5
   have c5b1 : (t140 != 26) = true := bne_iff_ne.mpr c5
   by_cases c12 : t140 = 25
   ·rw [if_pos c12] at H
    have c12b0 : (t140 == 25) = true := beq_iff_eq.mpr c12
    have c12b1 : (t140 != 25) = false := bne_eq_false_iff_eq.mpr c12
    clear c12
    replace H := Option.bind_eq_some_iff.mp H
    obtain ⟨t142, A130, H⟩ := H
    replace H : ((strings_Cut.f t142 (⟨#[120]⟩ : ByteArray)).bind fun bt143 => ((ops_number.f k bt143.2.1).bind fun bt146 => (some bt146.1))) = some r := H
    have A13 := Aside0.mk A130
    clear A130
    replace H := Option.bind_eq_some_iff.mp H
    obtain ⟨⟨t143, t144, t145⟩, A140, H⟩ := H
    replace H : ((ops_number.f k t144).bind fun bt146 => (some bt146.1)) = some r := H
    have A14 := Aside0.mk A140
    clear A140
    replace H := Option.bind_eq_some_iff.mp H
    obtain ⟨⟨t146, t147⟩, A150, H⟩ := H
    replace H : (some t146) = some r := H
    have A15 := Aside0.mk A150
    clear A150
    obtain rfl := Option.some.inj H
    go_enter Tryd.func18, Tryd.ntmps18
    go_wp2_with (first | ((with_reducible refine gate_callee (f := 13) rfl ?_); refine goesL_ (some 9) rfl rfl Tryd.func13 (by kernel_rfl) rfl #[.int .i64 a0] rfl (by (try simp only [List.map_toArray, List.map_cons, List.map_nil]); first | done | rfl | (simp only [List.length_drop, List.length_take]; rfl)) ?_; (with_reducible refine (ops_Imm.calls a0 t140 _ A2.out (by repeat first | exact hG | refine GG.below hG ?_ | exact HB.out | exact Below.refl _ _ | assumption | apply below_alloc | apply pw_below_drewN | apply below_drew1 | refine below_set ?_ (Aside0.out (by assumption)))).mono ?_); rintro e w16 ⟨rfl, hb⟩; refine ⟨_, rfl, ?_⟩; have n0_ := Aside0.mk (below_step (by repeat (first | (with_reducible first | exact HB.out | apply below_alloc | apply pw_below_drewN | apply below_drew1) | exact HB.out)) hb); clear HB; have HB := n0_; clear n0_; (try clear hb); (try clear hb2); (try clear hk); (try clear hi)) | ((with_reducible refine gate_callee (f := 12) rfl ?_); refine goesL_ (some 22) rfl rfl Tryd.func12 (by kernel_rfl) rfl #[.int .i64 a0] rfl (by (try simp only [List.map_toArray, List.map_cons, List.map_nil]); first | done | rfl | (simp only [List.length_drop, List.length_take]; rfl)) ?_; (with_reducible refine (ops_Name.calls a0 t142 _ A13.out (by repeat first | exact hG | refine GG.below hG ?_ | exact HB.out | exact Below.refl _ _ | assumption | apply below_alloc | apply pw_below_drewN | apply below_drew1 | refine below_set ?_ (Aside0.out (by assumption)))).mono ?_); rintro e w17 ⟨rfl, hb⟩; refine ⟨_, rfl, ?_⟩; have n0_ := Aside0.mk (below_step (by repeat (first | (with_reducible first | exact HB.out | apply below_alloc | apply pw_below_drewN | apply below_drew1) | exact HB.out)) hb); clear HB; have HB := n0_; clear n0_; (try clear hb); (try clear hb2); (try clear hk); (try clear hi)) | ((with_reducible refine gate_callee (f := 29) rfl ?_); refine goesL_ (some 23) rfl rfl Tryd.func29 (by kernel_rfl) rfl #[.string t142, .string (⟨#[120]⟩ : ByteArray)] rfl (by (try simp only [List.map_toArray, List.map_cons, List.map_nil]); first | done | rfl | (simp only [List.length_drop, List.length_take]; rfl)) ?_; (with_reducible refine (strings_Cut.calls t142 (⟨#[120]⟩ : ByteArray) t143 t144 t145 _ A14.out (by repeat first | exact hG | refine GG.below hG ?_ | exact HB.out | exact Below.refl _ _ | assumption | apply below_alloc | apply pw_below_drewN | apply below_drew1 | refine below_set ?_ (Aside0.out (by assumption)))).mono ?_); rintro e w' ⟨rfl, ⟨nd, rfl⟩⟩; refine ⟨_, rfl, ?_⟩) | ((with_reducible refine gate_callee (f := 33) rfl ?_); refine goesL_ (some 29) rfl rfl Tryd.func33 (by kernel_rfl) rfl #[.string t144] rfl (by (try simp only [List.map_toArray, List.map_cons, List.map_nil]); first | done | rfl | (simp only [List.length_drop, List.length_take]; rfl)) ?_; (with_reducible refine (ops_number.calls k t144 t146 t147 _ A15.out (by repeat first | exact hG | refine GG.below hG ?_ | exact HB.out | exact Below.refl _ _ | assumption | apply below_alloc | apply pw_below_drewN | apply below_drew1 | refine below_set ?_ (Aside0.out (by assumption)))).mono ?_); rintro e w' ⟨rfl, ⟨nd, rfl⟩⟩; refine ⟨_, rfl, ?_⟩))
    go_ret
    exact ⟨by first | rfl | (simp [errW_none, errW_some] <;> rfl) | (simp [*, errW_none, errW_some] <;> rfl) | (rw [Int.tdiv_eq_ediv_of_nonneg] <;> first | rfl | decide) | (simp [errW_none, errW_some] <;> exact isEmpty_bne _), by repeat (first | (with_reducible first | exact HB.out | apply below_alloc | apply pw_below_drewN | apply below_drew1) | exact HB.out)⟩
   ·rw [if_neg c12] at H
    have c12b0 : (t140 == 25) = false := beq_eq_false_iff_ne.mpr c12
    have c12b1 : (t140 != 25) = true := bne_iff_ne.mpr c12
    obtain rfl := Option.some.inj H
    go_enter Tryd.func18, Tryd.ntmps18
    go_wp2_with (first | ((with_reducible refine gate_callee (f := 13) rfl ?_); refine goesL_ (some 9) rfl rfl Tryd.func13 (by kernel_rfl) rfl #[.int .i64 a0] rfl (by (try simp only [List.map_toArray, List.map_cons, List.map_nil]); first | done | rfl | (simp only [List.length_drop, List.length_take]; rfl)) ?_; (with_reducible refine (ops_Imm.calls a0 t140 _ A2.out (by repeat first | exact hG | refine GG.below hG ?_ | exact HB.out | exact Below.refl _ _ | assumption | apply below_alloc | apply pw_below_drewN | apply below_drew1 | refine below_set ?_ (Aside0.out (by assumption)))).mono ?_); rintro e w18 ⟨rfl, hb⟩; refine ⟨_, rfl, ?_⟩; have n0_ := Aside0.mk (below_step (by repeat (first | (with_reducible first | exact HB.out | apply below_alloc | apply pw_below_drewN | apply below_drew1) | exact HB.out)) hb); clear HB; have HB := n0_; clear n0_; (try clear hb); (try clear hb2); (try clear hk); (try clear hi)))
    go_ret
    exact ⟨by first | rfl | (simp [errW_none, errW_some] <;> rfl) | (simp [*, errW_none, errW_some] <;> rfl) | (rw [Int.tdiv_eq_ediv_of_nonneg] <;> first | rfl | decide) | (simp [errW_none, errW_some] <;> exact isEmpty_bne _), by repeat (first | (with_reducible first | exact HB.out | apply below_alloc | apply pw_below_drewN | apply below_drew1) | exact HB.out)⟩
def ops_All.l0 : Nat → List Int → Int → Option (List Int)
 | 0, _, _ => none
 | k + 1, x1, x3 => if x3 < 65024 then ((ops_Known.f x3).bind fun t148 => (if t148 = true then (if x1.length < 17592186044416 then (ops_All.l0 k (x1 ++ [x3]) (wrap64 (x3 + 1))) else (none)) else (ops_All.l0 k x1 (wrap64 (x3 + 1))))) else (some x1)
def ops_All.f (k : Nat)  : Option (List Int) := ops_All.l0 k ([] : List Int) 0
theorem ops_All.mono_l : ∀ k, (∀ y0 y1, LeO (ops_All.l0 k y0 y1) (ops_All.l0 (k + 1) y0 y1))
 | 0 => fun _ _ r h => by simp [ops_All.l0] at h
 | k + 1 => by
  have ih0 := ops_All.mono_l k
  ·intro y0 y1
   unfold ops_All.l0
   repeat' first
   | (with_reducible exact ih0 _ _)
   | (with_reducible exact LeO.refl _)
   | (with_reducible exact LeO.none _)
   | (with_reducible refine LeO.ite ?_ ?_)
   | (with_reducible refine LeO.bind ?_ (fun _ => ?_))
   | exact ih0 _ _
   | exact LeO.none _
   | refine LeO.ite ?_ ?_
   | refine LeO.bind ?_ (fun _ => ?_)
theorem ops_All.mono : ∀ k, LeO (ops_All.f k ) (ops_All.f (k + 1) ) := by
 intro  k
 have ih0 := ops_All.mono_l k
 unfold ops_All.f
 repeat' first
   | (with_reducible exact ih0 _ _)
   | (with_reducible exact LeO.refl _)
   | (with_reducible exact LeO.none _)
   | (with_reducible refine LeO.ite ?_ ?_)
   | (with_reducible refine LeO.bind ?_ (fun _ => ?_))
   | exact ih0 _ _
   | exact LeO.none _
   | refine LeO.ite ?_ ?_
   | refine LeO.bind ?_ (fun _ => ?_)
set_option maxHeartbeats 8000000 in
set_option maxRecDepth 100000 in
theorem ops_All.calls (k : Nat)  (r : List Int) (w : World) (h : ops_All.f k  = some r) (hG : GG w) :
  Calls Tryd.prog 22 #[] w fun e w' => ∃ v0_ : Value, e = .returned (v0_) ∧ Kd.R (Kd.int .i64) 3 w' w.heap.size (fun _ => True) v0_ r ∧ Below w.heap.size w w' := by
 have HB := Aside0.mk (Below.refl w.heap.size w)
 have H : (ops_All.l0 k ([] : List Int) 0) = some r := h
 clear h
 have H' := Aside0.mk H
 clear H
 go_enter Tryd.func22, Tryd.ntmps22
 go_wp2
 go_loopg [1, 3] k (fun kq v1 v3 w' => ∃ (x1_1 : List Int) (x3_1 : Int), v3 = .int .i64 x3_1 ∧ Aside0 (ops_All.l0 kq x1_1 x3_1 = some r) ∧ Aside0 (kq ≤ k) ∧ Aside0 (Kd.R (Kd.int .i64) 3 w' w.heap.size (fun _ => True) v1 x1_1) ∧ Aside0 (Below w.heap.size w w'))
 case atStart => exact ⟨(([] : List Int)), (0), (by first | rfl | (simp; done) | (simp [*]; done)), H', ⟨Nat.le_refl _⟩, ⟨by first | exact Kd.R_nil _ _ _ _ _ | exact Kd.N_nil _ _ _ _ _ | exact Kd.V_nil _ _ _ _ _ | exact Kd.Q_nil _ _ _ _ _ | exact Kd.S_nil _ _ _ _ _⟩, ⟨by repeat (first | (with_reducible first | exact HB.out | apply below_alloc | apply pw_below_drewN | apply below_drew1) | exact HB.out)⟩⟩
 case round =>
  clear H'
  obtain ⟨x1_1, x3_1, rfl, HA, HK1, HO_1, HB⟩ := hrel
  cases gk with
  | zero => exact absurd HA.out (by simp [ops_All.l0])
  | succ k1 =>
   have H := HA.out
   clear HA
   simp only [ops_All.l0] at H
   by_cases c1 : x3_1 < 65024
   ·rw [if_pos c1] at H
    have c1b0 : decide (x3_1 < 65024) = true := decide_eq_true c1
    clear c1
    replace H := Option.bind_eq_some_iff.mp H
    obtain ⟨t148, A20, H⟩ := H
    replace H : (if t148 = true then (if x1_1.length < 17592186044416 then (ops_All.l0 k1 (x1_1 ++ [x3_1]) (wrap64 (x3_1 + 1))) else (none)) else (ops_All.l0 k1 x1_1 (wrap64 (x3_1 + 1)))) = some r := H
    have A2 := Aside0.mk A20
    clear A20
    by_cases c3 : t148 = true
    ·subst c3
     have H1 : (if x1_1.length < 17592186044416 then (ops_All.l0 k1 (x1_1 ++ [x3_1]) (wrap64 (x3_1 + 1))) else (none)) = some r := by rw [if_pos rfl] at H; exact H
     clear H
     have H := H1
     clear H1
     by_cases c4 : x1_1.length < 17592186044416
     ·rw [if_pos c4] at H
      have LMc4 := Aside0.mk c4
      clear c4
      obtain ⟨y149, hy149⟩ : ∃ y_ : List Int, y_ = (x1_1 ++ [x3_1]) := ⟨_, rfl⟩
      replace H : (ops_All.l0 k1 y149 (wrap64 (x3_1 + 1))) = some r := by first | (rw [hy149]; with_reducible exact H) | (have H2_ := (Option.bind_some _ _).symm.trans H; rw [hy149]; with_reducible exact H2_) | (have H2_ := (Option.bind_some _ _).symm.trans H; with_reducible exact H2_) | with_reducible exact H | (rw [hy149]; exact H) | exact H
      have Ny149 := Aside0.mk hy149
      clear hy149
      have H' := Aside0.mk H
      clear H
      go_wp2_with (first | ((with_reducible refine gate_callee (f := 11) rfl ?_); refine goesL_ (some 7) rfl rfl Tryd.func11 (by kernel_rfl) rfl #[.int .i64 x3_1] rfl (by (try simp only [List.map_toArray, List.map_cons, List.map_nil]); first | done | rfl | (simp only [List.length_drop, List.length_take]; rfl)) ?_; (with_reducible refine (ops_Known.calls x3_1 true _ A2.out (by repeat first | exact hG | refine GG.below hG ?_ | exact HB.out | exact Below.refl _ _ | assumption | apply below_alloc | apply pw_below_drewN | apply below_drew1 | refine below_set ?_ (Aside0.out (by assumption)))).mono ?_); rintro e w5 ⟨rfl, hb⟩; refine ⟨_, rfl, ?_⟩; have n0_ := Aside0.mk (Kd.R_below (by (with_reducible repeat (first | apply Kd.R_alloc | apply Kd.R_drewN | apply Kd.R_drew)); exact HO_1.out) hb); have n1_ := Aside0.mk (below_step (by repeat (first | (with_reducible first | exact HB.out | apply below_alloc | apply pw_below_drewN | apply below_drew1) | exact HB.out)) hb); clear HO_1; clear HB; have HO_1 := n0_; have HB := n1_; clear n0_ n1_; (try clear hb); (try clear hb2); (try clear hk); (try clear hi)) | ((with_reducible refine gate_builtin (b := .append) (xs := #[.tmp 8, .tmp 10]) rfl ?_); at_builtin; refine Kd.R_append (Kd.int .i64) (w0 := w) w.heap.size rfl (.tmp 8) (.tmp 10) 26 3 (.int .i64 0) 8 rfl Tryd.underlying26 info3 rfl (by decide) (by omega) u1 x1_1 x3_1 [.int .i64 x3_1] (fun _ => True) (fun _ => False) rfl rfl ?aP (fun _ hk => hk.elim) ?aF ?aO ?aB ?aS ?aL ?_; (case aP => exact rfl); (case aB => exact (by repeat (first | (with_reducible first | exact HB.out | apply below_alloc | apply pw_below_drewN | apply below_drew1) | exact HB.out))); (case aF => exact (fun _ _ => trivial)); (case aO => exact (by (with_reducible repeat (first | apply Kd.R_alloc | apply Kd.R_drewN | apply Kd.R_drew)); exact HO_1.out)); (case aS => exact (below_size (by repeat (first | (with_reducible first | exact HB.out | apply below_alloc | apply pw_below_drewN | apply below_drew1) | exact HB.out)))); (case aL => have := LMc4.out; omega); intro v150 w6 ho hb hg hat; rw [← Ny149.out] at ho; have n0_ := Aside0.mk (hb); have n1_ := Aside0.mk (ho); clear HB; clear HO_1; have HB := n0_; have HO151 := n1_; clear n0_ n1_; clear ho hb hg hat))
      go_roundg k1
      case measure => have := HK1.out; omega
      case rel => exact ⟨(y149), (wrap64 (x3_1 + 1)), (by first | rfl | (simp; done) | (simp [*]; done)), H', ⟨by have := HK1.out; omega⟩, ⟨by (with_reducible repeat (first | apply Kd.R_alloc | apply Kd.R_drewN | apply Kd.R_drew)); exact HO151.out⟩, ⟨by repeat (first | (with_reducible first | exact HB.out | apply below_alloc | apply pw_below_drewN | apply below_drew1) | exact HB.out)⟩⟩
     ·rw [if_neg c4] at H
      exact absurd H (by simp)
    ·replace c3 := Bool.eq_false_iff.mpr c3
     subst c3
     have H1 : (ops_All.l0 k1 x1_1 (wrap64 (x3_1 + 1))) = some r := by rw [if_neg (show ¬ (false = true) by decide)] at H; exact H
     clear H
     have H := H1
     clear H1
     have H' := Aside0.mk H
     clear H
     go_wp2_with (first | ((with_reducible refine gate_callee (f := 11) rfl ?_); refine goesL_ (some 7) rfl rfl Tryd.func11 (by kernel_rfl) rfl #[.int .i64 x3_1] rfl (by (try simp only [List.map_toArray, List.map_cons, List.map_nil]); first | done | rfl | (simp only [List.length_drop, List.length_take]; rfl)) ?_; (with_reducible refine (ops_Known.calls x3_1 false _ A2.out (by repeat first | exact hG | refine GG.below hG ?_ | exact HB.out | exact Below.refl _ _ | assumption | apply below_alloc | apply pw_below_drewN | apply below_drew1 | refine below_set ?_ (Aside0.out (by assumption)))).mono ?_); rintro e w7 ⟨rfl, hb⟩; refine ⟨_, rfl, ?_⟩; have n0_ := Aside0.mk (Kd.R_below (by (with_reducible repeat (first | apply Kd.R_alloc | apply Kd.R_drewN | apply Kd.R_drew)); exact HO_1.out) hb); have n1_ := Aside0.mk (below_step (by repeat (first | (with_reducible first | exact HB.out | apply below_alloc | apply pw_below_drewN | apply below_drew1) | exact HB.out)) hb); clear HO_1; clear HB; have HO_1 := n0_; have HB := n1_; clear n0_ n1_; (try clear hb); (try clear hb2); (try clear hk); (try clear hi)))
     go_roundg k1
     case measure => have := HK1.out; omega
     case rel => exact ⟨(x1_1), (wrap64 (x3_1 + 1)), (by first | rfl | (simp; done) | (simp [*]; done)), H', ⟨by have := HK1.out; omega⟩, ⟨by (with_reducible repeat (first | apply Kd.R_alloc | apply Kd.R_drewN | apply Kd.R_drew)); exact HO_1.out⟩, ⟨by repeat (first | (with_reducible first | exact HB.out | apply below_alloc | apply pw_below_drewN | apply below_drew1) | exact HB.out)⟩⟩
   ·rw [if_neg c1] at H
    have c1b0 : decide (x3_1 < 65024) = false := decide_eq_false c1
    clear c1
    obtain rfl := Option.some.inj H
    go_wp2
    go_ret
    exact ⟨_, by first | rfl | (simp [errW_none, errW_some] <;> rfl) | (simp [*, errW_none, errW_some] <;> rfl) | (rw [Int.tdiv_eq_ediv_of_nonneg] <;> first | rfl | decide) | (simp [errW_none, errW_some] <;> exact isEmpty_bne _), by (with_reducible repeat (first | apply Kd.R_alloc | apply Kd.R_drewN | apply Kd.R_drew)); exact HO_1.out, by repeat (first | (with_reducible first | exact HB.out | apply below_alloc | apply pw_below_drewN | apply below_drew1) | exact HB.out)⟩
def ops_Find.l0 : Nat → ByteArray → List Int → Int → Int → Option (Int × Bool)
 | 0, _, _, _, _ => none
 | k + 1, x0, x8, x9, x10 => if x10 < x9 then (if 0 ≤ x10 then (if x10 < (x8.length : Int) then ((ops_Name.f (rd x8 x10)).bind fun t156 => (if t156.toList = x0.toList then (some (rd x8 x10, true)) else (ops_Find.l0 k x0 x8 x9 (wrap64 (x10 + 1))))) else (none)) else (none)) else (some (0, false))
def ops_Find.f (k : Nat) (a0 : ByteArray) : Option (Int × Bool) := if a0.toList = ([] : List UInt8) then (some (0, false)) else ((ops_All.f k).bind fun t152 => (ops_Find.l0 k a0 t152 (t152.length : Int) 0))
theorem ops_Find.mono_l : ∀ k, (∀ y0 y1 y2 y3, LeO (ops_Find.l0 k y0 y1 y2 y3) (ops_Find.l0 (k + 1) y0 y1 y2 y3))
 | 0 => fun _ _ _ _ r h => by simp [ops_Find.l0] at h
 | k + 1 => by
  have ih0 := ops_Find.mono_l k
  ·intro y0 y1 y2 y3
   unfold ops_Find.l0
   repeat' first
   | (with_reducible exact ih0 _ _ _ _)
   | (with_reducible exact ops_All.mono _)
   | (with_reducible exact LeO.refl _)
   | (with_reducible exact LeO.none _)
   | (with_reducible refine LeO.ite ?_ ?_)
   | (with_reducible refine LeO.bind ?_ (fun _ => ?_))
   | exact ih0 _ _ _ _
   | exact ops_All.mono _
   | exact LeO.none _
   | refine LeO.ite ?_ ?_
   | refine LeO.bind ?_ (fun _ => ?_)
theorem ops_Find.mono : ∀ a0 k, LeO (ops_Find.f k a0) (ops_Find.f (k + 1) a0) := by
 intro a0 k
 have ih0 := ops_Find.mono_l k
 unfold ops_Find.f
 repeat' first
   | (with_reducible exact ih0 _ _ _ _)
   | (with_reducible exact ops_All.mono _)
   | (with_reducible exact LeO.refl _)
   | (with_reducible exact LeO.none _)
   | (with_reducible refine LeO.ite ?_ ?_)
   | (with_reducible refine LeO.bind ?_ (fun _ => ?_))
   | exact ih0 _ _ _ _
   | exact ops_All.mono _
   | exact LeO.none _
   | refine LeO.ite ?_ ?_
   | refine LeO.bind ?_ (fun _ => ?_)
set_option maxHeartbeats 8000000 in
set_option maxRecDepth 100000 in
theorem ops_Find.calls (k : Nat) (a0 : ByteArray) (r1 : Int) (r2 : Bool) (w : World) (h : ops_Find.f k a0 = some (r1, r2)) (hG : GG w) :
  Calls Tryd.prog 20 #[.string a0] w fun e w' => e = .returned (.tuple #[.int .i64 r1, .bool r2]) ∧ Below w.heap.size w w' := by
 have HB := Aside0.mk (Below.refl w.heap.size w)
 have H : (if a0.toList = ([] : List UInt8) then (some (0, false)) else ((ops_All.f k).bind fun t152 => (ops_Find.l0 k a0 t152 (t152.length : Int) 0))) = some (r1, r2) := h
 clear h
 by_cases c2 : a0.toList = ([] : List UInt8)
 ·rw [if_pos c2] at H
  have c2b0 : (a0.toList == ([] : List UInt8)) = true := beq_iff_eq.mpr c2
  have c2b1 : (a0.toList != ([] : List UInt8)) = false := bne_eq_false_iff_eq.mpr c2
  clear c2
  simp only [Option.some.injEq, Prod.mk.injEq] at H
  obtain ⟨rfl, rfl⟩ := H
  go_enter Tryd.func20, Tryd.ntmps20
  go_wp2
  go_ret2
  exact ⟨by first | rfl | (simp [errW_none, errW_some] <;> rfl) | (simp [*, errW_none, errW_some] <;> rfl) | (rw [Int.tdiv_eq_ediv_of_nonneg] <;> first | rfl | decide) | (simp [errW_none, errW_some] <;> exact isEmpty_bne _), by repeat (first | (with_reducible first | exact HB.out | apply below_alloc | apply pw_below_drewN | apply below_drew1) | exact HB.out)⟩
 ·rw [if_neg c2] at H
  have c2b0 : (a0.toList == ([] : List UInt8)) = false := beq_eq_false_iff_ne.mpr c2
  have c2b1 : (a0.toList != ([] : List UInt8)) = true := bne_iff_ne.mpr c2
  replace H := Option.bind_eq_some_iff.mp H
  obtain ⟨t152, A30, H⟩ := H
  replace H : (ops_Find.l0 k a0 t152 (t152.length : Int) 0) = some (r1, r2) := H
  have A3 := Aside0.mk A30
  clear A30
  have H' := Aside0.mk H
  clear H
  go_enter Tryd.func20, Tryd.ntmps20
  go_wp2_with (first | ((with_reducible refine gate_callee (f := 22) rfl ?_); refine goesL_ (some 8) rfl rfl Tryd.func22 (by kernel_rfl) rfl #[] rfl (by (try simp only [List.map_toArray, List.map_cons, List.map_nil]); first | done | rfl | (simp only [List.length_drop, List.length_take]; rfl)) ?_; (with_reducible refine (ops_All.calls k  t152 _ A3.out (by repeat first | exact hG | refine GG.below hG ?_ | exact HB.out | exact Below.refl _ _ | assumption | apply below_alloc | apply pw_below_drewN | apply below_drew1 | refine below_set ?_ (Aside0.out (by assumption)))).mono ?_); rintro e w4 ⟨v153, rfl, ho0, hb⟩; refine ⟨_, rfl, ?_⟩; have n0_ := Aside0.mk (Kd.R_lower ho0 (below_size (by repeat (first | (with_reducible first | exact HB.out | apply below_alloc | apply pw_below_drewN | apply below_drew1) | exact HB.out)))); have n1_ := Aside0.mk (below_step (by repeat (first | (with_reducible first | exact HB.out | apply below_alloc | apply pw_below_drewN | apply below_drew1) | exact HB.out)) hb); clear HB; have HO154 := n0_; have HB := n1_; clear n0_ n1_; (try clear hb); (try clear hb2); (try clear hk); (try clear hi); (try clear ho0); obtain ⟨Ao5, co5, eo5⟩ := Kd.R_slice HO154.out; subst eo5))
  go_loopg [10] k (fun kq v10 w' => ∃ (x10_1 : Int), v10 = .int .i64 x10_1 ∧ Aside0 (ops_Find.l0 kq a0 t152 (t152.length : Int) x10_1 = some (r1, r2)) ∧ Aside0 (kq ≤ k) ∧ Aside0 (Kd.R (Kd.int .i64) 3 w' w.heap.size (fun _ => True) (.slice Ao5 t152.length co5) t152) ∧ Aside0 (Below w.heap.size w w'))
  case atStart => exact ⟨(0), (by first | rfl | (simp; done) | (simp [*]; done)), H', ⟨Nat.le_refl _⟩, ⟨by (with_reducible repeat (first | apply Kd.R_alloc | apply Kd.R_drewN | apply Kd.R_drew)); exact HO154.out⟩, ⟨by repeat (first | (with_reducible first | exact HB.out | apply below_alloc | apply pw_below_drewN | apply below_drew1) | exact HB.out)⟩⟩
  case round =>
   clear H'
   try clear c2
   try clear c2b0
   try clear c2b1
   try clear p2
   obtain ⟨x10_1, rfl, HA, HK1, HO_8, HB⟩ := hrel
   cases gk with
   | zero => exact absurd HA.out (by simp [ops_Find.l0])
   | succ k1 =>
    have H := HA.out
    clear HA
    simp only [ops_Find.l0] at H
    by_cases c6 : x10_1 < (t152.length : Int)
    ·rw [if_pos c6] at H
     have c6b0 : decide (x10_1 < (t152.length : Int)) = true := decide_eq_true c6
     clear c6
     by_cases c7 : 0 ≤ x10_1
     ·rw [if_pos c7] at H
      have c7b0 : decide (0 ≤ x10_1) = true := decide_eq_true c7
      clear c7
      by_cases c8 : x10_1 < (t152.length : Int)
      ·rw [if_pos c8] at H
       have c8b0 : decide (x10_1 < (t152.length : Int)) = true := decide_eq_true c8
       clear c8
       replace H := Option.bind_eq_some_iff.mp H
       obtain ⟨t156, A90, H⟩ := H
       replace H : (if t156.toList = a0.toList then (some (rd t152 x10_1, true)) else (ops_Find.l0 k1 a0 t152 (t152.length : Int) (wrap64 (x10_1 + 1)))) = some (r1, r2) := H
       have A9 := Aside0.mk A90
       clear A90
       by_cases c10 : t156.toList = a0.toList
       ·rw [if_pos c10] at H
        have c10b0 : (t156.toList == a0.toList) = true := beq_iff_eq.mpr c10
        have c10b1 : (t156.toList != a0.toList) = false := bne_eq_false_iff_eq.mpr c10
        clear c10
        simp only [Option.some.injEq, Prod.mk.injEq] at H
        obtain ⟨rfl, rfl⟩ := H
        have p155 : 0 ≤ (x10_1 : Int) := of_decide_eq_true (by first | (with_reducible assumption) | assumption)
        have q155 : x10_1 < (t152.length : Int) := of_decide_eq_true (by first | (with_reducible assumption) | assumption)
        obtain ⟨ad155, e155, hx155_0⟩ := Kd.at_int (Kd.R_reads' HO_8.out).2.2 x10_1 p155 q155
        cases e155
        replace p155 := eq_true p155
        replace q155 := eq_true q155
        go_wp2_with (first | ((with_reducible refine gate_callee (f := 12) rfl ?_); refine goesL_ (some 15) rfl rfl Tryd.func12 (by kernel_rfl) rfl #[.int .i64 (rd t152 x10_1)] rfl (by (try simp only [List.map_toArray, List.map_cons, List.map_nil]); first | done | rfl | (simp only [List.length_drop, List.length_take]; rfl)) ?_; (with_reducible refine (ops_Name.calls (rd t152 x10_1) t156 _ A9.out (by repeat first | exact hG | refine GG.below hG ?_ | exact HB.out | exact Below.refl _ _ | assumption | apply below_alloc | apply pw_below_drewN | apply below_drew1 | refine below_set ?_ (Aside0.out (by assumption)))).mono ?_); rintro e w11 ⟨rfl, hb⟩; refine ⟨_, rfl, ?_⟩; have n0_ := Aside0.mk (Kd.R_below (by (with_reducible repeat (first | apply Kd.R_alloc | apply Kd.R_drewN | apply Kd.R_drew)); exact HO_8.out) hb); have n1_ := Aside0.mk (below_step (by repeat (first | (with_reducible first | exact HB.out | apply below_alloc | apply pw_below_drewN | apply below_drew1) | exact HB.out)) hb); clear HO_8; clear HB; have HO_8 := n0_; have HB := n1_; clear n0_ n1_; (try clear hb); (try clear hb2); (try clear hk); (try clear hi)))
        go_ret2
        exact ⟨by first | rfl | (simp [errW_none, errW_some] <;> rfl) | (simp [*, errW_none, errW_some] <;> rfl) | (rw [Int.tdiv_eq_ediv_of_nonneg] <;> first | rfl | decide) | (simp [errW_none, errW_some] <;> exact isEmpty_bne _), by repeat (first | (with_reducible first | exact HB.out | apply below_alloc | apply pw_below_drewN | apply below_drew1) | exact HB.out)⟩
       ·rw [if_neg c10] at H
        have c10b0 : (t156.toList == a0.toList) = false := beq_eq_false_iff_ne.mpr c10
        have c10b1 : (t156.toList != a0.toList) = true := bne_iff_ne.mpr c10
        have H' := Aside0.mk H
        clear H
        have p155 : 0 ≤ (x10_1 : Int) := of_decide_eq_true (by first | (with_reducible assumption) | assumption)
        have q155 : x10_1 < (t152.length : Int) := of_decide_eq_true (by first | (with_reducible assumption) | assumption)
        obtain ⟨ad155, e155, hx155_0⟩ := Kd.at_int (Kd.R_reads' HO_8.out).2.2 x10_1 p155 q155
        cases e155
        replace p155 := eq_true p155
        replace q155 := eq_true q155
        go_wp2_with (first | ((with_reducible refine gate_callee (f := 12) rfl ?_); refine goesL_ (some 15) rfl rfl Tryd.func12 (by kernel_rfl) rfl #[.int .i64 (rd t152 x10_1)] rfl (by (try simp only [List.map_toArray, List.map_cons, List.map_nil]); first | done | rfl | (simp only [List.length_drop, List.length_take]; rfl)) ?_; (with_reducible refine (ops_Name.calls (rd t152 x10_1) t156 _ A9.out (by repeat first | exact hG | refine GG.below hG ?_ | exact HB.out | exact Below.refl _ _ | assumption | apply below_alloc | apply pw_below_drewN | apply below_drew1 | refine below_set ?_ (Aside0.out (by assumption)))).mono ?_); rintro e w12 ⟨rfl, hb⟩; refine ⟨_, rfl, ?_⟩; have n0_ := Aside0.mk (Kd.R_below (by (with_reducible repeat (first | apply Kd.R_alloc | apply Kd.R_drewN | apply Kd.R_drew)); exact HO_8.out) hb); have n1_ := Aside0.mk (below_step (by repeat (first | (with_reducible first | exact HB.out | apply below_alloc | apply pw_below_drewN | apply below_drew1) | exact HB.out)) hb); clear HO_8; clear HB; have HO_8 := n0_; have HB := n1_; clear n0_ n1_; (try clear hb); (try clear hb2); (try clear hk); (try clear hi)))
        go_roundg k1
        case measure => have := HK1.out; omega
        case rel => exact ⟨(wrap64 (x10_1 + 1)), (by first | rfl | (simp; done) | (simp [*]; done)), H', ⟨by have := HK1.out; omega⟩, ⟨by (with_reducible repeat (first | apply Kd.R_alloc | apply Kd.R_drewN | apply Kd.R_drew)); exact HO_8.out⟩, ⟨by repeat (first | (with_reducible first | exact HB.out | apply below_alloc | apply pw_below_drewN | apply below_drew1) | exact HB.out)⟩⟩
      ·rw [if_neg c8] at H
       exact absurd H (by simp)
     ·rw [if_neg c7] at H
      exact absurd H (by simp)
    ·rw [if_neg c6] at H
     have c6b0 : decide (x10_1 < (t152.length : Int)) = false := decide_eq_false c6
     clear c6
     simp only [Option.some.injEq, Prod.mk.injEq] at H
     obtain ⟨rfl, rfl⟩ := H
     go_wp2
     go_ret2
     exact ⟨by first | rfl | (simp [errW_none, errW_some] <;> rfl) | (simp [*, errW_none, errW_some] <;> rfl) | (rw [Int.tdiv_eq_ediv_of_nonneg] <;> first | rfl | decide) | (simp [errW_none, errW_some] <;> exact isEmpty_bne _), by repeat (first | (with_reducible first | exact HB.out | apply below_alloc | apply pw_below_drewN | apply below_drew1) | exact HB.out)⟩
end Go.Proofs.YtiopaclofkncaaaDoor.POps

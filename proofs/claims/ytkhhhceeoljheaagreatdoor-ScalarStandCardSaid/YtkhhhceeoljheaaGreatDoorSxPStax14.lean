import Derived.Test.YtkhhhceeoljheaaGreatDoorSxPStax13
namespace Go.Proofs.YtkhhhceeoljheaaGreatDoor.PSta
open Go.RowKit Go.Proofs.YtkhhhceeoljheaaGreatDoorW.PrintWords Go.Proofs.YtkhhhceeoljheaaGreatDoorW.PrintLast Go.Proofs.YtkhhhceeoljheaaGreatDoorW.PrintMore
attribute [local go_sem] max2_int min2_int max_two min_two max_three min_three max_four min_four   
set_option linter.unusedVariables false
set_option linter.unusedSimpArgs false
def bodkinref07_one.f (a0 : Bool) : Option (Int) := if a0 = true then (some 1) else (some 0)
set_option maxHeartbeats 8000000 in
set_option maxRecDepth 100000 in
theorem bodkinref07_one.calls (a0 : Bool) (r : Int) (w : World) (h : bodkinref07_one.f a0 = some r) (hG : GD w := by first | assumption | exact GD.below (by assumption) (by repeat (first | exact Aside0.out (by assumption) | exact Below.refl _ _ | assumption | apply below_alloc | apply pw_below_drewN | apply below_drew1 | refine below_set ?_ (Aside0.out (by assumption))))) :
  Calls Tryz.prog 57 #[.bool a0] w fun e w' => e = .returned (.int .u64 r) ∧ Drawn0 w w' := by
 have H : (if a0 = true then (some 1) else (some 0)) = some r := h
 clear h
 by_cases c2 : a0 = true
 ·subst c2
  have H1 : (some 1) = some r := by rw [if_pos rfl] at H; exact H
  clear H
  have H := H1
  clear H1
  obtain rfl := Option.some.inj H
  go_enter Tryz.func57, Tryz.ntmps57
  go_wp2
  go_ret
  exact ⟨by first | rfl | (simp; done) | (simp [*]; done), by repeat (first | exact Drawn0.refl _ | apply Drawn0.step)⟩
 ·replace c2 := Bool.eq_false_iff.mpr c2
  subst c2
  have H1 : (some 0) = some r := by rw [if_neg (show ¬ (false = true) by decide)] at H; exact H
  clear H
  have H := H1
  clear H1
  obtain rfl := Option.some.inj H
  go_enter Tryz.func57, Tryz.ntmps57
  go_wp2
  go_ret
  exact ⟨by first | rfl | (simp; done) | (simp [*]; done), by repeat (first | exact Drawn0.refl _ | apply Drawn0.step)⟩
def bodkinref07_turned.f (a0 : ByteArray) (a1 : Int) (a2 : Int) (a3 : Int) : Option (Int × Int) := none
def bodkinref07_index.l0 : Nat → ByteArray → List ByteArray → Int → Option (Int)
 | 0, _, _, _ => none
 | k + 1, x0, x1, x5 => if x5 < (x1.length : Int) then (if 0 ≤ x5 then (if (rdOf ByteArray.empty x1 x5).toList = x0.toList then (some x5) else (bodkinref07_index.l0 k x0 x1 (wrap64 (x5 + 1)))) else (none)) else (some (-1))
def bodkinref07_index.f (k : Nat) (a0 : ByteArray) (l1 : List ByteArray) : Option (Int) := bodkinref07_index.l0 k a0 l1 0
theorem bodkinref07_index.mono_l : ∀ k, (∀ y0 y1 y2, LeO (bodkinref07_index.l0 k y0 y1 y2) (bodkinref07_index.l0 (k + 1) y0 y1 y2))
 | 0 => fun _ _ _ r h => by simp [bodkinref07_index.l0] at h
 | k + 1 => by
  have ih0 := bodkinref07_index.mono_l k
  ·intro y0 y1 y2
   unfold bodkinref07_index.l0
   repeat' first
   | (with_reducible exact ih0 _ _ _)
   | (with_reducible exact LeO.refl _)
   | (with_reducible exact LeO.none _)
   | (with_reducible refine LeO.ite ?_ ?_)
   | (with_reducible refine LeO.bind ?_ (fun _ => ?_))
   | exact ih0 _ _ _
   | exact LeO.none _
   | refine LeO.ite ?_ ?_
   | refine LeO.bind ?_ (fun _ => ?_)
theorem bodkinref07_index.mono : ∀ a0 a1 k, LeO (bodkinref07_index.f k a0 a1) (bodkinref07_index.f (k + 1) a0 a1) := by
 intro a0 a1 k
 have ih0 := bodkinref07_index.mono_l k
 unfold bodkinref07_index.f
 repeat' first
   | (with_reducible exact ih0 _ _ _)
   | (with_reducible exact LeO.refl _)
   | (with_reducible exact LeO.none _)
   | (with_reducible refine LeO.ite ?_ ?_)
   | (with_reducible refine LeO.bind ?_ (fun _ => ?_))
   | exact ih0 _ _ _
   | exact LeO.none _
   | refine LeO.ite ?_ ?_
   | refine LeO.bind ?_ (fun _ => ?_)
set_option maxHeartbeats 8000000 in
set_option maxRecDepth 100000 in
theorem bodkinref07_index.calls (k : Nat) (a0 : ByteArray) (A1 : Option Addr) (c1 : Nat) (l1 : List ByteArray) (r : Int) (w : World) (hr1 : Kd.C Kd.string w A1 l1.length l1) (hc1 : l1.length ≤ c1) (h : bodkinref07_index.f k a0 l1 = some r) (hG : GD w := by first | assumption | exact GD.below (by assumption) (by repeat (first | exact Aside0.out (by assumption) | exact Below.refl _ _ | assumption | apply below_alloc | apply pw_below_drewN | apply below_drew1 | refine below_set ?_ (Aside0.out (by assumption))))) :
  Calls Tryz.prog 60 #[.string a0, .slice A1 l1.length c1] w fun e w' => e = .returned (.int .i64 r) ∧ Drawn0 w w' := by
 have HR1 := Aside0.mk hr1
 have HC1 := Aside0.mk hc1
 clear hr1 hc1
 have H : (bodkinref07_index.l0 k a0 l1 0) = some r := h
 clear h
 have H' := Aside0.mk H
 clear H
 go_enter Tryz.func60, Tryz.ntmps60
 go_wp2
 go_loopg [5] k (fun kq v5 w' => ∃ (x5_1 : Int), v5 = .int .i64 x5_1 ∧ Aside0 (bodkinref07_index.l0 kq a0 l1 x5_1 = some r) ∧ Aside0 (kq ≤ k) ∧ Drawn0 w w')
 case atStart => exact ⟨(0), rs_, H', ⟨Nat.le_refl _⟩, by repeat (first | exact Drawn0.refl _ | apply Drawn0.step)⟩
 case round =>
  clear H'
  (try clear c1); (try clear p2)
  obtain ⟨x5_1, rfl, HA, HK1, ⟨m1, rfl⟩⟩ := hrel
  cases gk with
  | zero => exact absurd HA.out (by simp [bodkinref07_index.l0])
  | succ k1 =>
   have H := HA.out
   clear HA
   simp only [bodkinref07_index.l0] at H
   by_cases c3 : x5_1 < (l1.length : Int)
   ·rw [if_pos c3] at H
    have c3b0 : decide (x5_1 < (l1.length : Int)) = true := decide_eq_true c3
    clear c3
    by_cases c4 : 0 ≤ x5_1
    ·rw [if_pos c4] at H
     have c4b0 : decide (0 ≤ x5_1) = true := decide_eq_true c4
     clear c4
     by_cases c5 : (rdOf ByteArray.empty l1 x5_1).toList = a0.toList
     ·rw [if_pos c5] at H
      have c5b0 : ((rdOf ByteArray.empty l1 x5_1).toList == a0.toList) = true := beq_iff_eq.mpr c5
      have c5b1 : ((rdOf ByteArray.empty l1 x5_1).toList != a0.toList) = false := bne_eq_false_iff_eq.mpr c5
      clear c5
      obtain rfl := Option.some.inj H
      have p312 : 0 ≤ (x5_1 : Int) := od_
      have q312 : x5_1 < (l1.length : Int) := od_
      obtain ⟨ad312, e312, hx312_0⟩ := Kd.at_string HR1.out x5_1 p312 q312
      cases e312
      replace p312 := eq_true p312
      replace q312 := eq_true q312
      go_wp2
      go_ret
      exact ⟨by first | rfl | (simp; done) | (simp [*]; done), by repeat (first | exact Drawn0.refl _ | apply Drawn0.step)⟩
     ·rw [if_neg c5] at H
      have c5b0 : ((rdOf ByteArray.empty l1 x5_1).toList == a0.toList) = false := beq_eq_false_iff_ne.mpr c5
      have c5b1 : ((rdOf ByteArray.empty l1 x5_1).toList != a0.toList) = true := bne_iff_ne.mpr c5
      have H' := Aside0.mk H
      clear H
      have p312 : 0 ≤ (x5_1 : Int) := od_
      have q312 : x5_1 < (l1.length : Int) := od_
      obtain ⟨ad312, e312, hx312_0⟩ := Kd.at_string HR1.out x5_1 p312 q312
      cases e312
      replace p312 := eq_true p312
      replace q312 := eq_true q312
      go_wp2
      go_roundg k1
      case measure => have := HK1.out; omega
      case rel => exact ⟨(wrap64 (x5_1 + 1)), rs_, H', ⟨by have := HK1.out; omega⟩, by repeat (first | exact Drawn0.refl _ | apply Drawn0.step)⟩
    ·rw [if_neg c4] at H
     exact absurd H (by simp)
   ·rw [if_neg c3] at H
    have c3b0 : decide (x5_1 < (l1.length : Int)) = false := decide_eq_false c3
    clear c3
    obtain rfl := Option.some.inj H
    go_wp2
    go_ret
    exact ⟨by first | rfl | (simp; done) | (simp [*]; done), by repeat (first | exact Drawn0.refl _ | apply Drawn0.step)⟩
def bodkinref07_worked.f (k : Nat) (a0 : ByteArray) (a1 : Int) (a2 : Int) (a3 : ByteArray) (a4 : Int) (a5 : Int) : Option (Int × Int) := if a3.toList = ([101, 113, 122] : List UInt8) then ((bodkinref07_one.f (a4 == 0)).bind fun t313 => (some (t313, 0))) else (if (a3.size : Int) > 8 then (none) else (if (a3.size : Int) > 7 then (none) else (if (a3.size : Int) > 6 then (none) else (if a0.toList = ([102] : List UInt8) then ((bodkinref07_index.f k a3 (([(⟨#[]⟩ : ByteArray), (⟨#[101, 113]⟩ : ByteArray), (⟨#[110, 101]⟩ : ByteArray), (⟨#[108, 116]⟩ : ByteArray), (⟨#[103, 116]⟩ : ByteArray), (⟨#[108, 101]⟩ : ByteArray), (⟨#[103, 101]⟩ : ByteArray)] : List ByteArray))).bind fun t317 => (if t317 > 0 then ((bodkinref03_Rel.f a1 t317 a4 a5).bind fun bt318 => ((bodkinref07_one.f bt318.1).bind fun t320 => (some (t320, bt318.2)))) else (none))) else ((bodkinref07_index.f k a3 (([(⟨#[]⟩ : ByteArray), (⟨#[101, 113]⟩ : ByteArray), (⟨#[110, 101]⟩ : ByteArray), (⟨#[108, 116, 95, 115]⟩ : ByteArray), (⟨#[108, 116, 95, 117]⟩ : ByteArray), (⟨#[103, 116, 95, 115]⟩ : ByteArray), (⟨#[103, 116, 95, 117]⟩ : ByteArray), (⟨#[108, 101, 95, 115]⟩ : ByteArray), (⟨#[108, 101, 95, 117]⟩ : ByteArray), (⟨#[103, 101, 95, 115]⟩ : ByteArray), (⟨#[103, 101, 95, 117]⟩ : ByteArray)] : List ByteArray))).bind fun t324 => (if t324 > 0 then ((bodkinref02_Rel.f k a1 t324 a4 a5).bind fun bt325 => ((bodkinref07_one.f bt325.1).bind fun t327 => (some (t327, bt325.2)))) else (none)))))))
theorem bodkinref07_worked.mono : ∀ a0 a1 a2 a3 a4 a5 k, LeO (bodkinref07_worked.f k a0 a1 a2 a3 a4 a5) (bodkinref07_worked.f (k + 1) a0 a1 a2 a3 a4 a5) := by
 intro a0 a1 a2 a3 a4 a5 k
 unfold bodkinref07_worked.f
 repeat' first
   | (with_reducible exact bodkinref02_Rel.mono _ _ _ _ _)
   | (with_reducible exact bodkinref07_index.mono _ _ _)
   | (with_reducible exact LeO.refl _)
   | (with_reducible exact LeO.none _)
   | (with_reducible refine LeO.ite ?_ ?_)
   | (with_reducible refine LeO.bind ?_ (fun _ => ?_))
   | exact bodkinref02_Rel.mono _ _ _ _ _
   | exact bodkinref07_index.mono _ _ _
   | exact LeO.none _
   | refine LeO.ite ?_ ?_
   | refine LeO.bind ?_ (fun _ => ?_)
set_option maxHeartbeats 8000000 in
set_option maxRecDepth 100000 in
theorem bodkinref07_worked.calls (k : Nat) (a0 : ByteArray) (a1 : Int) (a2 : Int) (a3 : ByteArray) (a4 : Int) (a5 : Int) (r1 : Int) (r2 : Int) (w : World) (h : bodkinref07_worked.f k a0 a1 a2 a3 a4 a5 = some (r1, r2)) (hG : GD w := by first | assumption | exact GD.below (by assumption) (by repeat (first | exact Aside0.out (by assumption) | exact Below.refl _ _ | assumption | apply below_alloc | apply pw_below_drewN | apply below_drew1 | refine below_set ?_ (Aside0.out (by assumption))))) :
  Calls Tryz.prog 35 #[.string a0, .int .i64 a1, .int .i64 a2, .string a3, .int .u64 a4, .int .u64 a5] w fun e w' => e = .returned (.tuple #[.int .u64 r1, .int .i64 r2]) ∧ Below w.heap.size w w' := by
 have HB := Aside0.mk (Below.refl w.heap.size w)
 have H : (if a3.toList = ([101, 113, 122] : List UInt8) then ((bodkinref07_one.f (a4 == 0)).bind fun t313 => (some (t313, 0))) else (if (a3.size : Int) > 8 then (none) else (if (a3.size : Int) > 7 then (none) else (if (a3.size : Int) > 6 then (none) else (if a0.toList = ([102] : List UInt8) then ((bodkinref07_index.f k a3 (([(⟨#[]⟩ : ByteArray), (⟨#[101, 113]⟩ : ByteArray), (⟨#[110, 101]⟩ : ByteArray), (⟨#[108, 116]⟩ : ByteArray), (⟨#[103, 116]⟩ : ByteArray), (⟨#[108, 101]⟩ : ByteArray), (⟨#[103, 101]⟩ : ByteArray)] : List ByteArray))).bind fun t317 => (if t317 > 0 then ((bodkinref03_Rel.f a1 t317 a4 a5).bind fun bt318 => ((bodkinref07_one.f bt318.1).bind fun t320 => (some (t320, bt318.2)))) else (none))) else ((bodkinref07_index.f k a3 (([(⟨#[]⟩ : ByteArray), (⟨#[101, 113]⟩ : ByteArray), (⟨#[110, 101]⟩ : ByteArray), (⟨#[108, 116, 95, 115]⟩ : ByteArray), (⟨#[108, 116, 95, 117]⟩ : ByteArray), (⟨#[103, 116, 95, 115]⟩ : ByteArray), (⟨#[103, 116, 95, 117]⟩ : ByteArray), (⟨#[108, 101, 95, 115]⟩ : ByteArray), (⟨#[108, 101, 95, 117]⟩ : ByteArray), (⟨#[103, 101, 95, 115]⟩ : ByteArray), (⟨#[103, 101, 95, 117]⟩ : ByteArray)] : List ByteArray))).bind fun t324 => (if t324 > 0 then ((bodkinref02_Rel.f k a1 t324 a4 a5).bind fun bt325 => ((bodkinref07_one.f bt325.1).bind fun t327 => (some (t327, bt325.2)))) else (none)))))))) = some (r1, r2) := h
 clear h
 by_cases c7 : a3.toList = ([101, 113, 122] : List UInt8)
 ·rw [if_pos c7] at H
  have c7b0 : (a3.toList == ([101, 113, 122] : List UInt8)) = true := beq_iff_eq.mpr c7
  have c7b1 : (a3.toList != ([101, 113, 122] : List UInt8)) = false := bne_eq_false_iff_eq.mpr c7
  clear c7
  replace H := Option.bind_eq_some_iff.mp H
  obtain ⟨t313, A80, H⟩ := H
  replace H : (some (t313, 0)) = some (r1, r2) := H
  have A8 := Aside0.mk A80
  clear A80
  simp only [Option.some.injEq, Prod.mk.injEq] at H
  obtain ⟨rfl, rfl⟩ := H
  go_enter Tryz.func35, Tryz.ntmps35
  go_wp2_with (first | ((with_reducible refine gate_callee (f := 57) rfl ?_); refine goesL_ (some 24) rfl rfl Tryz.func57 (by kernel_rfl) rfl #[.bool (a4 == 0)] rfl mp_ ?_; (with_reducible refine (bodkinref07_one.calls (a4 == 0) t313 _ A8.out).mono ?_); rintro e w' ⟨rfl, ⟨nd, rfl⟩⟩; refine ⟨_, rfl, ?_⟩))
  go_ret2
  exact ⟨er_, bl_⟩
 ·rw [if_neg c7] at H
  have c7b0 : (a3.toList == ([101, 113, 122] : List UInt8)) = false := beq_eq_false_iff_ne.mpr c7
  have c7b1 : (a3.toList != ([101, 113, 122] : List UInt8)) = true := bne_iff_ne.mpr c7
  by_cases c9 : (a3.size : Int) > 8
  ·rw [if_pos c9] at H
   exact absurd H (by simp)
  ·rw [if_neg c9] at H
   have c9b0 : decide (8 < (a3.size : Int)) = false := decide_eq_false c9
   have c9b1 : decide (8 < a3.size) = false := decide_eq_false (by omega)
   clear c9
   by_cases c10 : (a3.size : Int) > 7
   ·rw [if_pos c10] at H
    exact absurd H (by simp)
   ·rw [if_neg c10] at H
    have c10b0 : decide (7 < (a3.size : Int)) = false := decide_eq_false c10
    have c10b1 : decide (7 < a3.size) = false := decide_eq_false (by omega)
    clear c10
    by_cases c11 : (a3.size : Int) > 6
    ·rw [if_pos c11] at H
     exact absurd H (by simp)
    ·rw [if_neg c11] at H
     have c11b0 : decide (6 < (a3.size : Int)) = false := decide_eq_false c11
     have c11b1 : decide (6 < a3.size) = false := decide_eq_false (by omega)
     clear c11
     by_cases c12 : a0.toList = ([102] : List UInt8)
     ·rw [if_pos c12] at H
      have c12b0 : (a0.toList == ([102] : List UInt8)) = true := beq_iff_eq.mpr c12
      have c12b1 : (a0.toList != ([102] : List UInt8)) = false := bne_eq_false_iff_eq.mpr c12
      clear c12
      obtain ⟨y314, hy314⟩ : ∃ y_ : List ByteArray, y_ = (([(⟨#[]⟩ : ByteArray), (⟨#[101, 113]⟩ : ByteArray), (⟨#[110, 101]⟩ : ByteArray), (⟨#[108, 116]⟩ : ByteArray), (⟨#[103, 116]⟩ : ByteArray), (⟨#[108, 101]⟩ : ByteArray), (⟨#[103, 101]⟩ : ByteArray)] : List ByteArray)) := ⟨_, rfl⟩
      replace H : ((bodkinref07_index.f k a3 y314).bind fun t317 => (if t317 > 0 then ((bodkinref03_Rel.f a1 t317 a4 a5).bind fun bt318 => ((bodkinref07_one.f bt318.1).bind fun t320 => (some (t320, bt318.2)))) else (none))) = some (r1, r2) := by first | (rw [hy314]; with_reducible exact H) | (have H2_ := (Option.bind_some _ _).symm.trans H; rw [hy314]; with_reducible exact H2_) | (have H2_ := (Option.bind_some _ _).symm.trans H; with_reducible exact H2_) | with_reducible exact H | (rw [hy314]; exact H) | exact H
      have Ny314 := Aside0.mk hy314
      clear hy314
      replace H := Option.bind_eq_some_iff.mp H
      obtain ⟨t317, A130, H⟩ := H
      replace H : (if t317 > 0 then ((bodkinref03_Rel.f a1 t317 a4 a5).bind fun bt318 => ((bodkinref07_one.f bt318.1).bind fun t320 => (some (t320, bt318.2)))) else (none)) = some (r1, r2) := H
      have A13 := Aside0.mk A130
      clear A130
      by_cases c14 : t317 > 0
      ·rw [if_pos c14] at H
       have c14b0 : decide (0 < t317) = true := decide_eq_true c14
       clear c14
       replace H := Option.bind_eq_some_iff.mp H
       obtain ⟨⟨t318, t319⟩, A150, H⟩ := H
       replace H : ((bodkinref07_one.f t318).bind fun t320 => (some (t320, t319))) = some (r1, r2) := H
       have A15 := Aside0.mk A150
       clear A150
       replace H := Option.bind_eq_some_iff.mp H
       obtain ⟨t320, A160, H⟩ := H
       replace H : (some (t320, t319)) = some (r1, r2) := H
       have A16 := Aside0.mk A160
       clear A160
       simp only [Option.some.injEq, Prod.mk.injEq] at H
       obtain ⟨rfl, rfl⟩ := H
       go_enter Tryz.func35, Tryz.ntmps35
       go_wp2_with (first | ((with_reducible refine gate_dst (N := 88) rfl ?_); (try (refine gate_guard (by rfl) ?_; dsimp only)); refine Kd.R_lit Kd.string _ 9 ?hg (N := 88) ?hd (xs := ([(⟨#[]⟩ : ByteArray), (⟨#[101, 113]⟩ : ByteArray), (⟨#[110, 101]⟩ : ByteArray), (⟨#[108, 116]⟩ : ByteArray), (⟨#[103, 116]⟩ : ByteArray), (⟨#[108, 101]⟩ : ByteArray), (⟨#[103, 101]⟩ : ByteArray)] : List ByteArray)) (inner := [.string (⟨#[]⟩ : ByteArray), .string (⟨#[101, 113]⟩ : ByteArray), .string (⟨#[110, 101]⟩ : ByteArray), .string (⟨#[108, 116]⟩ : ByteArray), .string (⟨#[103, 116]⟩ : ByteArray), .string (⟨#[108, 101]⟩ : ByteArray), .string (⟨#[103, 101]⟩ : ByteArray)]) (ok := fun _ => True) (okp := fun _ => True) ?hr ?hp (fun _ hk => hk) trivial (Below.refl _ _) (Nat.le_refl _) (by simp) ?_; (case hd => rfl); (case hg => rfl); (case hr => first | (go_simp; done) | (go_simp; rfl)); (case hp => exact (Reps.one (show Kd.M Kd.string _ _ _ (⟨#[]⟩ : ByteArray) [.string (⟨#[]⟩ : ByteArray)] from rfl) (Reps.one (show Kd.M Kd.string _ _ _ (⟨#[101, 113]⟩ : ByteArray) [.string (⟨#[101, 113]⟩ : ByteArray)] from rfl) (Reps.one (show Kd.M Kd.string _ _ _ (⟨#[110, 101]⟩ : ByteArray) [.string (⟨#[110, 101]⟩ : ByteArray)] from rfl) (Reps.one (show Kd.M Kd.string _ _ _ (⟨#[108, 116]⟩ : ByteArray) [.string (⟨#[108, 116]⟩ : ByteArray)] from rfl) (Reps.one (show Kd.M Kd.string _ _ _ (⟨#[103, 116]⟩ : ByteArray) [.string (⟨#[103, 116]⟩ : ByteArray)] from rfl) (Reps.one (show Kd.M Kd.string _ _ _ (⟨#[108, 101]⟩ : ByteArray) [.string (⟨#[108, 101]⟩ : ByteArray)] from rfl) (Reps.one (show Kd.M Kd.string _ _ _ (⟨#[103, 101]⟩ : ByteArray) [.string (⟨#[103, 101]⟩ : ByteArray)] from rfl) (Reps.none _ _))))))))); intro v315 w17 ho18 hb hg_ hnew_; clear hg_ hnew_; (first | rw [← Ny314.out] at ho18 | (simp only [Int.reduceToNat] at ho18; rw [← Ny314.out] at ho18)); have n0_ := Aside0.mk (Kd.R_lower ho18 (below_size bl_)); have n1_ := Aside0.mk (below_step bl_ hb); clear HB; have HO316 := n0_; have HB := n1_; clear n0_ n1_; clear hb ho18; obtain ⟨Ao19, co19, eo19⟩ := Kd.R_slice HO316.out; subst eo19) | ((with_reducible refine gate_callee (f := 60) rfl ?_); refine goesL_ (some 89) rfl rfl Tryz.func60 (by kernel_rfl) rfl #[.string a3, .slice Ao19 y314.length co19] rfl mp_ ?_; (with_reducible refine (bodkinref07_index.calls k a3 _ _ y314 t317 _ ?side1 ?side2 A13.out).mono ?_); (case side1 => repeat (first | exact (Kd.R_reads' HO316.out).2.2 | (with_reducible refine Kd.C_alloc ?_ _) | (with_reducible refine Kd.C_drewN ?_ _) | (with_reducible refine Kd.C_drew ?_))); (case side2 => exact (Kd.R_reads' HO316.out).2.1); rintro e w' ⟨rfl, ⟨nd, rfl⟩⟩; refine ⟨_, rfl, ?_⟩) | ((with_reducible refine gate_callee (f := 61) rfl ?_); refine goesL_ (some 97) rfl rfl Tryz.func61 (by kernel_rfl) rfl #[.int .i64 a1, .int .i64 t317, .int .u64 a4, .int .u64 a5] rfl mp_ ?_; (with_reducible refine (bodkinref03_Rel.calls a1 t317 a4 a5 t318 t319 _ A15.out).mono ?_); rintro e w20 ⟨rfl, hb⟩; refine ⟨_, rfl, ?_⟩; have n0_ := Aside0.mk (Kd.R_below (rl_ HO316) hb); have n1_ := Aside0.mk (below_step bl_ hb); clear HO316; clear HB; have HO316 := n0_; have HB := n1_; clear n0_ n1_; (try clear hb); (try clear hb2); (try clear hk); (try clear hi)) | ((with_reducible refine gate_callee (f := 57) rfl ?_); refine goesL_ (some 101) rfl rfl Tryz.func57 (by kernel_rfl) rfl #[.bool t318] rfl mp_ ?_; (with_reducible refine (bodkinref07_one.calls t318 t320 _ A16.out).mono ?_); rintro e w' ⟨rfl, ⟨nd, rfl⟩⟩; refine ⟨_, rfl, ?_⟩))
       go_ret2
       exact ⟨er_, bl_⟩
      ·rw [if_neg c14] at H
       exact absurd H (by simp)
     ·rw [if_neg c12] at H
      have c12b0 : (a0.toList == ([102] : List UInt8)) = false := beq_eq_false_iff_ne.mpr c12
      have c12b1 : (a0.toList != ([102] : List UInt8)) = true := bne_iff_ne.mpr c12
      obtain ⟨y321, hy321⟩ : ∃ y_ : List ByteArray, y_ = (([(⟨#[]⟩ : ByteArray), (⟨#[101, 113]⟩ : ByteArray), (⟨#[110, 101]⟩ : ByteArray), (⟨#[108, 116, 95, 115]⟩ : ByteArray), (⟨#[108, 116, 95, 117]⟩ : ByteArray), (⟨#[103, 116, 95, 115]⟩ : ByteArray), (⟨#[103, 116, 95, 117]⟩ : ByteArray), (⟨#[108, 101, 95, 115]⟩ : ByteArray), (⟨#[108, 101, 95, 117]⟩ : ByteArray), (⟨#[103, 101, 95, 115]⟩ : ByteArray), (⟨#[103, 101, 95, 117]⟩ : ByteArray)] : List ByteArray)) := ⟨_, rfl⟩
      replace H : ((bodkinref07_index.f k a3 y321).bind fun t324 => (if t324 > 0 then ((bodkinref02_Rel.f k a1 t324 a4 a5).bind fun bt325 => ((bodkinref07_one.f bt325.1).bind fun t327 => (some (t327, bt325.2)))) else (none))) = some (r1, r2) := by first | (rw [hy321]; with_reducible exact H) | (have H2_ := (Option.bind_some _ _).symm.trans H; rw [hy321]; with_reducible exact H2_) | (have H2_ := (Option.bind_some _ _).symm.trans H; with_reducible exact H2_) | with_reducible exact H | (rw [hy321]; exact H) | exact H
      have Ny321 := Aside0.mk hy321
      clear hy321
      replace H := Option.bind_eq_some_iff.mp H
      obtain ⟨t324, A210, H⟩ := H
      replace H : (if t324 > 0 then ((bodkinref02_Rel.f k a1 t324 a4 a5).bind fun bt325 => ((bodkinref07_one.f bt325.1).bind fun t327 => (some (t327, bt325.2)))) else (none)) = some (r1, r2) := H
      have A21 := Aside0.mk A210
      clear A210
      by_cases c22 : t324 > 0
      ·rw [if_pos c22] at H
       have c22b0 : decide (0 < t324) = true := decide_eq_true c22
       clear c22
       replace H := Option.bind_eq_some_iff.mp H
       obtain ⟨⟨t325, t326⟩, A230, H⟩ := H
       replace H : ((bodkinref07_one.f t325).bind fun t327 => (some (t327, t326))) = some (r1, r2) := H
       have A23 := Aside0.mk A230
       clear A230
       replace H := Option.bind_eq_some_iff.mp H
       obtain ⟨t327, A240, H⟩ := H
       replace H : (some (t327, t326)) = some (r1, r2) := H
       have A24 := Aside0.mk A240
       clear A240
       simp only [Option.some.injEq, Prod.mk.injEq] at H
       obtain ⟨rfl, rfl⟩ := H
       go_enter Tryz.func35, Tryz.ntmps35
       go_wp2_with (first | ((with_reducible refine gate_dst (N := 124) rfl ?_); (try (refine gate_guard (by rfl) ?_; dsimp only)); refine Kd.R_lit Kd.string _ 9 ?hg (N := 124) ?hd (xs := ([(⟨#[]⟩ : ByteArray), (⟨#[101, 113]⟩ : ByteArray), (⟨#[110, 101]⟩ : ByteArray), (⟨#[108, 116, 95, 115]⟩ : ByteArray), (⟨#[108, 116, 95, 117]⟩ : ByteArray), (⟨#[103, 116, 95, 115]⟩ : ByteArray), (⟨#[103, 116, 95, 117]⟩ : ByteArray), (⟨#[108, 101, 95, 115]⟩ : ByteArray), (⟨#[108, 101, 95, 117]⟩ : ByteArray), (⟨#[103, 101, 95, 115]⟩ : ByteArray), (⟨#[103, 101, 95, 117]⟩ : ByteArray)] : List ByteArray)) (inner := [.string (⟨#[]⟩ : ByteArray), .string (⟨#[101, 113]⟩ : ByteArray), .string (⟨#[110, 101]⟩ : ByteArray), .string (⟨#[108, 116, 95, 115]⟩ : ByteArray), .string (⟨#[108, 116, 95, 117]⟩ : ByteArray), .string (⟨#[103, 116, 95, 115]⟩ : ByteArray), .string (⟨#[103, 116, 95, 117]⟩ : ByteArray), .string (⟨#[108, 101, 95, 115]⟩ : ByteArray), .string (⟨#[108, 101, 95, 117]⟩ : ByteArray), .string (⟨#[103, 101, 95, 115]⟩ : ByteArray), .string (⟨#[103, 101, 95, 117]⟩ : ByteArray)]) (ok := fun _ => True) (okp := fun _ => True) ?hr ?hp (fun _ hk => hk) trivial (Below.refl _ _) (Nat.le_refl _) (by simp) ?_; (case hd => rfl); (case hg => rfl); (case hr => first | (go_simp; done) | (go_simp; rfl)); (case hp => exact (Reps.one (show Kd.M Kd.string _ _ _ (⟨#[]⟩ : ByteArray) [.string (⟨#[]⟩ : ByteArray)] from rfl) (Reps.one (show Kd.M Kd.string _ _ _ (⟨#[101, 113]⟩ : ByteArray) [.string (⟨#[101, 113]⟩ : ByteArray)] from rfl) (Reps.one (show Kd.M Kd.string _ _ _ (⟨#[110, 101]⟩ : ByteArray) [.string (⟨#[110, 101]⟩ : ByteArray)] from rfl) (Reps.one (show Kd.M Kd.string _ _ _ (⟨#[108, 116, 95, 115]⟩ : ByteArray) [.string (⟨#[108, 116, 95, 115]⟩ : ByteArray)] from rfl) (Reps.one (show Kd.M Kd.string _ _ _ (⟨#[108, 116, 95, 117]⟩ : ByteArray) [.string (⟨#[108, 116, 95, 117]⟩ : ByteArray)] from rfl) (Reps.one (show Kd.M Kd.string _ _ _ (⟨#[103, 116, 95, 115]⟩ : ByteArray) [.string (⟨#[103, 116, 95, 115]⟩ : ByteArray)] from rfl) (Reps.one (show Kd.M Kd.string _ _ _ (⟨#[103, 116, 95, 117]⟩ : ByteArray) [.string (⟨#[103, 116, 95, 117]⟩ : ByteArray)] from rfl) (Reps.one (show Kd.M Kd.string _ _ _ (⟨#[108, 101, 95, 115]⟩ : ByteArray) [.string (⟨#[108, 101, 95, 115]⟩ : ByteArray)] from rfl) (Reps.one (show Kd.M Kd.string _ _ _ (⟨#[108, 101, 95, 117]⟩ : ByteArray) [.string (⟨#[108, 101, 95, 117]⟩ : ByteArray)] from rfl) (Reps.one (show Kd.M Kd.string _ _ _ (⟨#[103, 101, 95, 115]⟩ : ByteArray) [.string (⟨#[103, 101, 95, 115]⟩ : ByteArray)] from rfl) (Reps.one (show Kd.M Kd.string _ _ _ (⟨#[103, 101, 95, 117]⟩ : ByteArray) [.string (⟨#[103, 101, 95, 117]⟩ : ByteArray)] from rfl) (Reps.none _ _))))))))))))); intro v322 w25 ho26 hb hg_ hnew_; clear hg_ hnew_; (first | rw [← Ny321.out] at ho26 | (simp only [Int.reduceToNat] at ho26; rw [← Ny321.out] at ho26)); have n0_ := Aside0.mk (Kd.R_lower ho26 (below_size bl_)); have n1_ := Aside0.mk (below_step bl_ hb); clear HB; have HO323 := n0_; have HB := n1_; clear n0_ n1_; clear hb ho26; obtain ⟨Ao27, co27, eo27⟩ := Kd.R_slice HO323.out; subst eo27) | ((with_reducible refine gate_callee (f := 60) rfl ?_); refine goesL_ (some 125) rfl rfl Tryz.func60 (by kernel_rfl) rfl #[.string a3, .slice Ao27 y321.length co27] rfl mp_ ?_; (with_reducible refine (bodkinref07_index.calls k a3 _ _ y321 t324 _ ?side1 ?side2 A21.out).mono ?_); (case side1 => repeat (first | exact (Kd.R_reads' HO323.out).2.2 | (with_reducible refine Kd.C_alloc ?_ _) | (with_reducible refine Kd.C_drewN ?_ _) | (with_reducible refine Kd.C_drew ?_))); (case side2 => exact (Kd.R_reads' HO323.out).2.1); rintro e w' ⟨rfl, ⟨nd, rfl⟩⟩; refine ⟨_, rfl, ?_⟩) | ((with_reducible refine gate_callee (f := 64) rfl ?_); refine goesL_ (some 133) rfl rfl Tryz.func64 (by kernel_rfl) rfl #[.int .i64 a1, .int .i64 t324, .int .u64 a4, .int .u64 a5] rfl mp_ ?_; (with_reducible refine (bodkinref02_Rel.calls k a1 t324 a4 a5 t325 t326 _ A23.out).mono ?_); rintro e w28 ⟨rfl, hb⟩; refine ⟨_, rfl, ?_⟩; have n0_ := Aside0.mk (Kd.R_below (rl_ HO323) hb); have n1_ := Aside0.mk (below_step bl_ hb); clear HO323; clear HB; have HO323 := n0_; have HB := n1_; clear n0_ n1_; (try clear hb); (try clear hb2); (try clear hk); (try clear hi)) | ((with_reducible refine gate_callee (f := 57) rfl ?_); refine goesL_ (some 137) rfl rfl Tryz.func57 (by kernel_rfl) rfl #[.bool t325] rfl mp_ ?_; (with_reducible refine (bodkinref07_one.calls t325 t327 _ A24.out).mono ?_); rintro e w' ⟨rfl, ⟨nd, rfl⟩⟩; refine ⟨_, rfl, ?_⟩))
       go_ret2
       exact ⟨er_, bl_⟩
      ·rw [if_neg c22] at H
       exact absurd H (by simp)
end Go.Proofs.YtkhhhceeoljheaaGreatDoor.PSta

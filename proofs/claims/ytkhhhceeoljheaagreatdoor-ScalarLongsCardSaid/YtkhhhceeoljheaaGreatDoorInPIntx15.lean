import Derived.Test.YtkhhhceeoljheaaGreatDoorInPIntx13
import Derived.Test.YtkhhhceeoljheaaGreatDoorInPIntx14
namespace Go.Proofs.YtkhhhceeoljheaaGreatDoor.PInt
open Go.RowKit Go.Proofs.YtkhhhceeoljheaaGreatDoorW.PrintWords Go.Proofs.YtkhhhceeoljheaaGreatDoorW.PrintLast Go.Proofs.YtkhhhceeoljheaaGreatDoorW.PrintMore
attribute [local go_sem] max2_int min2_int max_two min_two max_three min_three max_four min_four   
set_option linter.unusedVariables false
set_option linter.unusedSimpArgs false
def bodkinref07_index.l0 : Nat → ByteArray → List ByteArray → Int → Option (Int)
 | 0, _, _, _ => none
 | k + 1, x0, x1, x5 => if x5 < (x1.length : Int) then (if 0 ≤ x5 then (if (rdOf ByteArray.empty x1 x5).toList = x0.toList then (some x5) else (bodkinref07_index.l0 k x0 x1 (wrap64 (x5 + 1)))) else (none)) else (some (-1))
def bodkinref07_index.f (k : Nat) (a0 : ByteArray) (l1 : List ByteArray) : Option (Int) := bodkinref07_index.l0 k a0 l1 0
theorem bodkinref07_index.mono_l : ∀ k, (∀ y0 y1 y2, LeO (bodkinref07_index.l0 k y0 y1 y2) (bodkinref07_index.l0 (k + 1) y0 y1 y2))
 | 0 => fun _ _ _ r h => by simp [bodkinref07_index.l0] at h
 | k + 1 => by
  have ih0 := bodkinref07_index.mono_l k
  ·intro y0 y1 y2
   unfold bodkinref07_index.l0
   repeat' first
   | (with_reducible exact ih0 _ _ _)
   | (with_reducible exact LeO.refl _)
   | (with_reducible exact LeO.none _)
   | (with_reducible refine LeO.ite ?_ ?_)
   | (with_reducible refine LeO.bind ?_ (fun _ => ?_))
   | exact ih0 _ _ _
   | exact LeO.none _
   | refine LeO.ite ?_ ?_
   | refine LeO.bind ?_ (fun _ => ?_)
theorem bodkinref07_index.mono : ∀ a0 a1 k, LeO (bodkinref07_index.f k a0 a1) (bodkinref07_index.f (k + 1) a0 a1) := by
 intro a0 a1 k
 have ih0 := bodkinref07_index.mono_l k
 unfold bodkinref07_index.f
 repeat' first
   | (with_reducible exact ih0 _ _ _)
   | (with_reducible exact LeO.refl _)
   | (with_reducible exact LeO.none _)
   | (with_reducible refine LeO.ite ?_ ?_)
   | (with_reducible refine LeO.bind ?_ (fun _ => ?_))
   | exact ih0 _ _ _
   | exact LeO.none _
   | refine LeO.ite ?_ ?_
   | refine LeO.bind ?_ (fun _ => ?_)
set_option maxHeartbeats 8000000 in
set_option maxRecDepth 100000 in
theorem bodkinref07_index.calls (k : Nat) (a0 : ByteArray) (A1 : Option Addr) (c1 : Nat) (l1 : List ByteArray) (r : Int) (w : World) (hr1 : Kd.C Kd.string w A1 l1.length l1) (hc1 : l1.length ≤ c1) (h : bodkinref07_index.f k a0 l1 = some r) (hG : GD w := by first | assumption | exact GD.below (by assumption) (by repeat (first | exact Aside0.out (by assumption) | exact Below.refl _ _ | assumption | apply below_alloc | apply pw_below_drewN | apply below_drew1 | refine below_set ?_ (Aside0.out (by assumption))))) :
  Calls Tryz.prog 60 #[.string a0, .slice A1 l1.length c1] w fun e w' => e = .returned (.int .i64 r) ∧ Drawn0 w w' := by
 have HR1 := Aside0.mk hr1
 have HC1 := Aside0.mk hc1
 clear hr1 hc1
 have H : (bodkinref07_index.l0 k a0 l1 0) = some r := h
 clear h
 have H' := Aside0.mk H
 clear H
 go_enter Tryz.func60, Tryz.ntmps60
 go_wp2
 go_loopg [5] k (fun kq v5 w' => ∃ (x5_1 : Int), v5 = .int .i64 x5_1 ∧ Aside0 (bodkinref07_index.l0 kq a0 l1 x5_1 = some r) ∧ Aside0 (kq ≤ k) ∧ Drawn0 w w')
 case atStart => exact ⟨(0), rs_, H', ⟨Nat.le_refl _⟩, by repeat (first | exact Drawn0.refl _ | apply Drawn0.step)⟩
 case round =>
  clear H'
  (try clear c1); (try clear p2)
  obtain ⟨x5_1, rfl, HA, HK1, ⟨m1, rfl⟩⟩ := hrel
  cases gk with
  | zero => exact absurd HA.out (by simp [bodkinref07_index.l0])
  | succ k1 =>
   have H := HA.out
   clear HA
   simp only [bodkinref07_index.l0] at H
   by_cases c3 : x5_1 < (l1.length : Int)
   ·rw [if_pos c3] at H
    have c3b0 : decide (x5_1 < (l1.length : Int)) = true := decide_eq_true c3
    clear c3
    by_cases c4 : 0 ≤ x5_1
    ·rw [if_pos c4] at H
     have c4b0 : decide (0 ≤ x5_1) = true := decide_eq_true c4
     clear c4
     by_cases c5 : (rdOf ByteArray.empty l1 x5_1).toList = a0.toList
     ·rw [if_pos c5] at H
      have c5b0 : ((rdOf ByteArray.empty l1 x5_1).toList == a0.toList) = true := beq_iff_eq.mpr c5
      have c5b1 : ((rdOf ByteArray.empty l1 x5_1).toList != a0.toList) = false := bne_eq_false_iff_eq.mpr c5
      clear c5
      obtain rfl := Option.some.inj H
      have p343 : 0 ≤ (x5_1 : Int) := od_
      have q343 : x5_1 < (l1.length : Int) := od_
      obtain ⟨ad343, e343, hx343_0⟩ := Kd.at_string HR1.out x5_1 p343 q343
      cases e343
      replace p343 := eq_true p343
      replace q343 := eq_true q343
      go_wp2
      go_ret
      exact ⟨by first | rfl | (simp; done) | (simp [*]; done), by repeat (first | exact Drawn0.refl _ | apply Drawn0.step)⟩
     ·rw [if_neg c5] at H
      have c5b0 : ((rdOf ByteArray.empty l1 x5_1).toList == a0.toList) = false := beq_eq_false_iff_ne.mpr c5
      have c5b1 : ((rdOf ByteArray.empty l1 x5_1).toList != a0.toList) = true := bne_iff_ne.mpr c5
      have H' := Aside0.mk H
      clear H
      have p343 : 0 ≤ (x5_1 : Int) := od_
      have q343 : x5_1 < (l1.length : Int) := od_
      obtain ⟨ad343, e343, hx343_0⟩ := Kd.at_string HR1.out x5_1 p343 q343
      cases e343
      replace p343 := eq_true p343
      replace q343 := eq_true q343
      go_wp2
      go_roundg k1
      case measure => have := HK1.out; omega
      case rel => exact ⟨(wrap64 (x5_1 + 1)), rs_, H', ⟨by have := HK1.out; omega⟩, by repeat (first | exact Drawn0.refl _ | apply Drawn0.step)⟩
    ·rw [if_neg c4] at H
     exact absurd H (by simp)
   ·rw [if_neg c3] at H
    have c3b0 : decide (x5_1 < (l1.length : Int)) = false := decide_eq_false c3
    clear c3
    obtain rfl := Option.some.inj H
    go_wp2
    go_ret
    exact ⟨by first | rfl | (simp; done) | (simp [*]; done), by repeat (first | exact Drawn0.refl _ | apply Drawn0.step)⟩
def bodkinref07_worked.f (k : Nat) (a0 : ByteArray) (a1 : Int) (a2 : Int) (a3 : ByteArray) (a4 : Int) (a5 : Int) : Option (Int × Int) := if a3.toList = ([101, 113, 122] : List UInt8) then (none) else (if (a3.size : Int) > 8 then (none) else (if (a3.size : Int) > 7 then (none) else (if (a3.size : Int) > 6 then (none) else (if a0.toList = ([102] : List UInt8) then (none) else ((bodkinref07_index.f k a3 (([(⟨#[]⟩ : ByteArray), (⟨#[101, 113]⟩ : ByteArray), (⟨#[110, 101]⟩ : ByteArray), (⟨#[108, 116, 95, 115]⟩ : ByteArray), (⟨#[108, 116, 95, 117]⟩ : ByteArray), (⟨#[103, 116, 95, 115]⟩ : ByteArray), (⟨#[103, 116, 95, 117]⟩ : ByteArray), (⟨#[108, 101, 95, 115]⟩ : ByteArray), (⟨#[108, 101, 95, 117]⟩ : ByteArray), (⟨#[103, 101, 95, 115]⟩ : ByteArray), (⟨#[103, 101, 95, 117]⟩ : ByteArray)] : List ByteArray))).bind fun t347 => (if t347 > 0 then ((bodkinref02_Rel.f a1 t347 a4 a5).bind fun bt348 => ((bodkinref07_one.f bt348.1).bind fun t350 => (some (t350, bt348.2)))) else ((bodkinref07_index.f k a3 (([(⟨#[]⟩ : ByteArray), (⟨#[99, 108, 122]⟩ : ByteArray), (⟨#[99, 116, 122]⟩ : ByteArray), (⟨#[112, 111, 112, 99, 110, 116]⟩ : ByteArray), (⟨#[101, 120, 116, 101, 110, 100, 56, 95, 115]⟩ : ByteArray), (⟨#[101, 120, 116, 101, 110, 100, 49, 54, 95, 115]⟩ : ByteArray), (⟨#[101, 120, 116, 101, 110, 100, 51, 50, 95, 115]⟩ : ByteArray)] : List ByteArray))).bind fun t354 => (if t354 > 0 then ((bodkinref02_Un.f k a1 t354 a4).bind fun bt355 => (some (bt355.1, bt355.2))) else ((bodkinref07_index.f k a3 (([(⟨#[]⟩ : ByteArray), (⟨#[97, 100, 100]⟩ : ByteArray), (⟨#[115, 117, 98]⟩ : ByteArray), (⟨#[109, 117, 108]⟩ : ByteArray), (⟨#[100, 105, 118, 95, 115]⟩ : ByteArray), (⟨#[100, 105, 118, 95, 117]⟩ : ByteArray), (⟨#[114, 101, 109, 95, 115]⟩ : ByteArray), (⟨#[114, 101, 109, 95, 117]⟩ : ByteArray), (⟨#[97, 110, 100]⟩ : ByteArray), (⟨#[111, 114]⟩ : ByteArray), (⟨#[120, 111, 114]⟩ : ByteArray), (⟨#[115, 104, 108]⟩ : ByteArray), (⟨#[115, 104, 114, 95, 115]⟩ : ByteArray), (⟨#[115, 104, 114, 95, 117]⟩ : ByteArray), (⟨#[114, 111, 116, 108]⟩ : ByteArray), (⟨#[114, 111, 116, 114]⟩ : ByteArray)] : List ByteArray))).bind fun t360 => ((bodkinref02_Bin.f k a1 t360 a4 a5).bind fun bt361 => (some (bt361.1, bt361.2))))))))))))
theorem bodkinref07_worked.mono : ∀ a0 a1 a2 a3 a4 a5 k, LeO (bodkinref07_worked.f k a0 a1 a2 a3 a4 a5) (bodkinref07_worked.f (k + 1) a0 a1 a2 a3 a4 a5) := by
 intro a0 a1 a2 a3 a4 a5 k
 unfold bodkinref07_worked.f
 repeat' first
   | (with_reducible exact bodkinref02_Bin.mono _ _ _ _ _)
   | (with_reducible exact bodkinref02_Un.mono _ _ _ _)
   | (with_reducible exact bodkinref07_index.mono _ _ _)
   | (with_reducible exact LeO.refl _)
   | (with_reducible exact LeO.none _)
   | (with_reducible refine LeO.ite ?_ ?_)
   | (with_reducible refine LeO.bind ?_ (fun _ => ?_))
   | exact bodkinref02_Bin.mono _ _ _ _ _
   | exact bodkinref02_Un.mono _ _ _ _
   | exact bodkinref07_index.mono _ _ _
   | exact LeO.none _
   | refine LeO.ite ?_ ?_
   | refine LeO.bind ?_ (fun _ => ?_)
set_option maxHeartbeats 8000000 in
set_option maxRecDepth 100000 in
theorem bodkinref07_worked.calls (k : Nat) (a0 : ByteArray) (a1 : Int) (a2 : Int) (a3 : ByteArray) (a4 : Int) (a5 : Int) (r1 : Int) (r2 : Int) (w : World) (h : bodkinref07_worked.f k a0 a1 a2 a3 a4 a5 = some (r1, r2)) (hG : GD w := by first | assumption | exact GD.below (by assumption) (by repeat (first | exact Aside0.out (by assumption) | exact Below.refl _ _ | assumption | apply below_alloc | apply pw_below_drewN | apply below_drew1 | refine below_set ?_ (Aside0.out (by assumption))))) :
  Calls Tryz.prog 35 #[.string a0, .int .i64 a1, .int .i64 a2, .string a3, .int .u64 a4, .int .u64 a5] w fun e w' => e = .returned (.tuple #[.int .u64 r1, .int .i64 r2]) ∧ Below w.heap.size w w' := by
 have HB := Aside0.mk (Below.refl w.heap.size w)
 have H : (if a3.toList = ([101, 113, 122] : List UInt8) then (none) else (if (a3.size : Int) > 8 then (none) else (if (a3.size : Int) > 7 then (none) else (if (a3.size : Int) > 6 then (none) else (if a0.toList = ([102] : List UInt8) then (none) else ((bodkinref07_index.f k a3 (([(⟨#[]⟩ : ByteArray), (⟨#[101, 113]⟩ : ByteArray), (⟨#[110, 101]⟩ : ByteArray), (⟨#[108, 116, 95, 115]⟩ : ByteArray), (⟨#[108, 116, 95, 117]⟩ : ByteArray), (⟨#[103, 116, 95, 115]⟩ : ByteArray), (⟨#[103, 116, 95, 117]⟩ : ByteArray), (⟨#[108, 101, 95, 115]⟩ : ByteArray), (⟨#[108, 101, 95, 117]⟩ : ByteArray), (⟨#[103, 101, 95, 115]⟩ : ByteArray), (⟨#[103, 101, 95, 117]⟩ : ByteArray)] : List ByteArray))).bind fun t347 => (if t347 > 0 then ((bodkinref02_Rel.f a1 t347 a4 a5).bind fun bt348 => ((bodkinref07_one.f bt348.1).bind fun t350 => (some (t350, bt348.2)))) else ((bodkinref07_index.f k a3 (([(⟨#[]⟩ : ByteArray), (⟨#[99, 108, 122]⟩ : ByteArray), (⟨#[99, 116, 122]⟩ : ByteArray), (⟨#[112, 111, 112, 99, 110, 116]⟩ : ByteArray), (⟨#[101, 120, 116, 101, 110, 100, 56, 95, 115]⟩ : ByteArray), (⟨#[101, 120, 116, 101, 110, 100, 49, 54, 95, 115]⟩ : ByteArray), (⟨#[101, 120, 116, 101, 110, 100, 51, 50, 95, 115]⟩ : ByteArray)] : List ByteArray))).bind fun t354 => (if t354 > 0 then ((bodkinref02_Un.f k a1 t354 a4).bind fun bt355 => (some (bt355.1, bt355.2))) else ((bodkinref07_index.f k a3 (([(⟨#[]⟩ : ByteArray), (⟨#[97, 100, 100]⟩ : ByteArray), (⟨#[115, 117, 98]⟩ : ByteArray), (⟨#[109, 117, 108]⟩ : ByteArray), (⟨#[100, 105, 118, 95, 115]⟩ : ByteArray), (⟨#[100, 105, 118, 95, 117]⟩ : ByteArray), (⟨#[114, 101, 109, 95, 115]⟩ : ByteArray), (⟨#[114, 101, 109, 95, 117]⟩ : ByteArray), (⟨#[97, 110, 100]⟩ : ByteArray), (⟨#[111, 114]⟩ : ByteArray), (⟨#[120, 111, 114]⟩ : ByteArray), (⟨#[115, 104, 108]⟩ : ByteArray), (⟨#[115, 104, 114, 95, 115]⟩ : ByteArray), (⟨#[115, 104, 114, 95, 117]⟩ : ByteArray), (⟨#[114, 111, 116, 108]⟩ : ByteArray), (⟨#[114, 111, 116, 114]⟩ : ByteArray)] : List ByteArray))).bind fun t360 => ((bodkinref02_Bin.f k a1 t360 a4 a5).bind fun bt361 => (some (bt361.1, bt361.2))))))))))))) = some (r1, r2) := h
 clear h
 by_cases c7 : a3.toList = ([101, 113, 122] : List UInt8)
 ·rw [if_pos c7] at H
  exact absurd H (by simp)
 ·rw [if_neg c7] at H
  have c7b0 : (a3.toList == ([101, 113, 122] : List UInt8)) = false := beq_eq_false_iff_ne.mpr c7
  have c7b1 : (a3.toList != ([101, 113, 122] : List UInt8)) = true := bne_iff_ne.mpr c7
  by_cases c8 : (a3.size : Int) > 8
  ·rw [if_pos c8] at H
   exact absurd H (by simp)
  ·rw [if_neg c8] at H
   have c8b0 : decide (8 < (a3.size : Int)) = false := decide_eq_false c8
   have c8b1 : decide (8 < a3.size) = false := decide_eq_false (by omega)
   clear c8
   by_cases c9 : (a3.size : Int) > 7
   ·rw [if_pos c9] at H
    exact absurd H (by simp)
   ·rw [if_neg c9] at H
    have c9b0 : decide (7 < (a3.size : Int)) = false := decide_eq_false c9
    have c9b1 : decide (7 < a3.size) = false := decide_eq_false (by omega)
    clear c9
    by_cases c10 : (a3.size : Int) > 6
    ·rw [if_pos c10] at H
     exact absurd H (by simp)
    ·rw [if_neg c10] at H
     have c10b0 : decide (6 < (a3.size : Int)) = false := decide_eq_false c10
     have c10b1 : decide (6 < a3.size) = false := decide_eq_false (by omega)
     clear c10
     by_cases c11 : a0.toList = ([102] : List UInt8)
     ·rw [if_pos c11] at H
      exact absurd H (by simp)
     ·rw [if_neg c11] at H
      have c11b0 : (a0.toList == ([102] : List UInt8)) = false := beq_eq_false_iff_ne.mpr c11
      have c11b1 : (a0.toList != ([102] : List UInt8)) = true := bne_iff_ne.mpr c11
      obtain ⟨y344, hy344⟩ : ∃ y_ : List ByteArray, y_ = (([(⟨#[]⟩ : ByteArray), (⟨#[101, 113]⟩ : ByteArray), (⟨#[110, 101]⟩ : ByteArray), (⟨#[108, 116, 95, 115]⟩ : ByteArray), (⟨#[108, 116, 95, 117]⟩ : ByteArray), (⟨#[103, 116, 95, 115]⟩ : ByteArray), (⟨#[103, 116, 95, 117]⟩ : ByteArray), (⟨#[108, 101, 95, 115]⟩ : ByteArray), (⟨#[108, 101, 95, 117]⟩ : ByteArray), (⟨#[103, 101, 95, 115]⟩ : ByteArray), (⟨#[103, 101, 95, 117]⟩ : ByteArray)] : List ByteArray)) := ⟨_, rfl⟩
      replace H : ((bodkinref07_index.f k a3 y344).bind fun t347 => (if t347 > 0 then ((bodkinref02_Rel.f a1 t347 a4 a5).bind fun bt348 => ((bodkinref07_one.f bt348.1).bind fun t350 => (some (t350, bt348.2)))) else ((bodkinref07_index.f k a3 (([(⟨#[]⟩ : ByteArray), (⟨#[99, 108, 122]⟩ : ByteArray), (⟨#[99, 116, 122]⟩ : ByteArray), (⟨#[112, 111, 112, 99, 110, 116]⟩ : ByteArray), (⟨#[101, 120, 116, 101, 110, 100, 56, 95, 115]⟩ : ByteArray), (⟨#[101, 120, 116, 101, 110, 100, 49, 54, 95, 115]⟩ : ByteArray), (⟨#[101, 120, 116, 101, 110, 100, 51, 50, 95, 115]⟩ : ByteArray)] : List ByteArray))).bind fun t354 => (if t354 > 0 then ((bodkinref02_Un.f k a1 t354 a4).bind fun bt355 => (some (bt355.1, bt355.2))) else ((bodkinref07_index.f k a3 (([(⟨#[]⟩ : ByteArray), (⟨#[97, 100, 100]⟩ : ByteArray), (⟨#[115, 117, 98]⟩ : ByteArray), (⟨#[109, 117, 108]⟩ : ByteArray), (⟨#[100, 105, 118, 95, 115]⟩ : ByteArray), (⟨#[100, 105, 118, 95, 117]⟩ : ByteArray), (⟨#[114, 101, 109, 95, 115]⟩ : ByteArray), (⟨#[114, 101, 109, 95, 117]⟩ : ByteArray), (⟨#[97, 110, 100]⟩ : ByteArray), (⟨#[111, 114]⟩ : ByteArray), (⟨#[120, 111, 114]⟩ : ByteArray), (⟨#[115, 104, 108]⟩ : ByteArray), (⟨#[115, 104, 114, 95, 115]⟩ : ByteArray), (⟨#[115, 104, 114, 95, 117]⟩ : ByteArray), (⟨#[114, 111, 116, 108]⟩ : ByteArray), (⟨#[114, 111, 116, 114]⟩ : ByteArray)] : List ByteArray))).bind fun t360 => ((bodkinref02_Bin.f k a1 t360 a4 a5).bind fun bt361 => (some (bt361.1, bt361.2)))))))) = some (r1, r2) := by first | (rw [hy344]; with_reducible exact H) | (have H2_ := (Option.bind_some _ _).symm.trans H; rw [hy344]; with_reducible exact H2_) | (have H2_ := (Option.bind_some _ _).symm.trans H; with_reducible exact H2_) | with_reducible exact H | (rw [hy344]; exact H) | exact H
      have Ny344 := Aside0.mk hy344
      clear hy344
      replace H := Option.bind_eq_some_iff.mp H
      obtain ⟨t347, A120, H⟩ := H
      replace H : (if t347 > 0 then ((bodkinref02_Rel.f a1 t347 a4 a5).bind fun bt348 => ((bodkinref07_one.f bt348.1).bind fun t350 => (some (t350, bt348.2)))) else ((bodkinref07_index.f k a3 (([(⟨#[]⟩ : ByteArray), (⟨#[99, 108, 122]⟩ : ByteArray), (⟨#[99, 116, 122]⟩ : ByteArray), (⟨#[112, 111, 112, 99, 110, 116]⟩ : ByteArray), (⟨#[101, 120, 116, 101, 110, 100, 56, 95, 115]⟩ : ByteArray), (⟨#[101, 120, 116, 101, 110, 100, 49, 54, 95, 115]⟩ : ByteArray), (⟨#[101, 120, 116, 101, 110, 100, 51, 50, 95, 115]⟩ : ByteArray)] : List ByteArray))).bind fun t354 => (if t354 > 0 then ((bodkinref02_Un.f k a1 t354 a4).bind fun bt355 => (some (bt355.1, bt355.2))) else ((bodkinref07_index.f k a3 (([(⟨#[]⟩ : ByteArray), (⟨#[97, 100, 100]⟩ : ByteArray), (⟨#[115, 117, 98]⟩ : ByteArray), (⟨#[109, 117, 108]⟩ : ByteArray), (⟨#[100, 105, 118, 95, 115]⟩ : ByteArray), (⟨#[100, 105, 118, 95, 117]⟩ : ByteArray), (⟨#[114, 101, 109, 95, 115]⟩ : ByteArray), (⟨#[114, 101, 109, 95, 117]⟩ : ByteArray), (⟨#[97, 110, 100]⟩ : ByteArray), (⟨#[111, 114]⟩ : ByteArray), (⟨#[120, 111, 114]⟩ : ByteArray), (⟨#[115, 104, 108]⟩ : ByteArray), (⟨#[115, 104, 114, 95, 115]⟩ : ByteArray), (⟨#[115, 104, 114, 95, 117]⟩ : ByteArray), (⟨#[114, 111, 116, 108]⟩ : ByteArray), (⟨#[114, 111, 116, 114]⟩ : ByteArray)] : List ByteArray))).bind fun t360 => ((bodkinref02_Bin.f k a1 t360 a4 a5).bind fun bt361 => (some (bt361.1, bt361.2))))))) = some (r1, r2) := H
      have A12 := Aside0.mk A120
      clear A120
      by_cases c13 : t347 > 0
      ·rw [if_pos c13] at H
       have c13b0 : decide (0 < t347) = true := decide_eq_true c13
       clear c13
       replace H := Option.bind_eq_some_iff.mp H
       obtain ⟨⟨t348, t349⟩, A140, H⟩ := H
       replace H : ((bodkinref07_one.f t348).bind fun t350 => (some (t350, t349))) = some (r1, r2) := H
       have A14 := Aside0.mk A140
       clear A140
       replace H := Option.bind_eq_some_iff.mp H
       obtain ⟨t350, A150, H⟩ := H
       replace H : (some (t350, t349)) = some (r1, r2) := H
       have A15 := Aside0.mk A150
       clear A150
       simp only [Option.some.injEq, Prod.mk.injEq] at H
       obtain ⟨rfl, rfl⟩ := H
       go_enter Tryz.func35, Tryz.ntmps35
       go_wp2_with (first | ((with_reducible refine gate_dst (N := 124) rfl ?_); (try (refine gate_guard (by rfl) ?_; dsimp only)); refine Kd.R_lit Kd.string _ 9 ?hg (N := 124) ?hd (xs := ([(⟨#[]⟩ : ByteArray), (⟨#[101, 113]⟩ : ByteArray), (⟨#[110, 101]⟩ : ByteArray), (⟨#[108, 116, 95, 115]⟩ : ByteArray), (⟨#[108, 116, 95, 117]⟩ : ByteArray), (⟨#[103, 116, 95, 115]⟩ : ByteArray), (⟨#[103, 116, 95, 117]⟩ : ByteArray), (⟨#[108, 101, 95, 115]⟩ : ByteArray), (⟨#[108, 101, 95, 117]⟩ : ByteArray), (⟨#[103, 101, 95, 115]⟩ : ByteArray), (⟨#[103, 101, 95, 117]⟩ : ByteArray)] : List ByteArray)) (inner := [.string (⟨#[]⟩ : ByteArray), .string (⟨#[101, 113]⟩ : ByteArray), .string (⟨#[110, 101]⟩ : ByteArray), .string (⟨#[108, 116, 95, 115]⟩ : ByteArray), .string (⟨#[108, 116, 95, 117]⟩ : ByteArray), .string (⟨#[103, 116, 95, 115]⟩ : ByteArray), .string (⟨#[103, 116, 95, 117]⟩ : ByteArray), .string (⟨#[108, 101, 95, 115]⟩ : ByteArray), .string (⟨#[108, 101, 95, 117]⟩ : ByteArray), .string (⟨#[103, 101, 95, 115]⟩ : ByteArray), .string (⟨#[103, 101, 95, 117]⟩ : ByteArray)]) (ok := fun _ => True) (okp := fun _ => True) ?hr ?hp (fun _ hk => hk) trivial (Below.refl _ _) (Nat.le_refl _) (by simp) ?_; (case hd => rfl); (case hg => rfl); (case hr => first | (go_simp; done) | (go_simp; rfl)); (case hp => exact (Reps.one (show Kd.M Kd.string _ _ _ (⟨#[]⟩ : ByteArray) [.string (⟨#[]⟩ : ByteArray)] from rfl) (Reps.one (show Kd.M Kd.string _ _ _ (⟨#[101, 113]⟩ : ByteArray) [.string (⟨#[101, 113]⟩ : ByteArray)] from rfl) (Reps.one (show Kd.M Kd.string _ _ _ (⟨#[110, 101]⟩ : ByteArray) [.string (⟨#[110, 101]⟩ : ByteArray)] from rfl) (Reps.one (show Kd.M Kd.string _ _ _ (⟨#[108, 116, 95, 115]⟩ : ByteArray) [.string (⟨#[108, 116, 95, 115]⟩ : ByteArray)] from rfl) (Reps.one (show Kd.M Kd.string _ _ _ (⟨#[108, 116, 95, 117]⟩ : ByteArray) [.string (⟨#[108, 116, 95, 117]⟩ : ByteArray)] from rfl) (Reps.one (show Kd.M Kd.string _ _ _ (⟨#[103, 116, 95, 115]⟩ : ByteArray) [.string (⟨#[103, 116, 95, 115]⟩ : ByteArray)] from rfl) (Reps.one (show Kd.M Kd.string _ _ _ (⟨#[103, 116, 95, 117]⟩ : ByteArray) [.string (⟨#[103, 116, 95, 117]⟩ : ByteArray)] from rfl) (Reps.one (show Kd.M Kd.string _ _ _ (⟨#[108, 101, 95, 115]⟩ : ByteArray) [.string (⟨#[108, 101, 95, 115]⟩ : ByteArray)] from rfl) (Reps.one (show Kd.M Kd.string _ _ _ (⟨#[108, 101, 95, 117]⟩ : ByteArray) [.string (⟨#[108, 101, 95, 117]⟩ : ByteArray)] from rfl) (Reps.one (show Kd.M Kd.string _ _ _ (⟨#[103, 101, 95, 115]⟩ : ByteArray) [.string (⟨#[103, 101, 95, 115]⟩ : ByteArray)] from rfl) (Reps.one (show Kd.M Kd.string _ _ _ (⟨#[103, 101, 95, 117]⟩ : ByteArray) [.string (⟨#[103, 101, 95, 117]⟩ : ByteArray)] from rfl) (Reps.none _ _))))))))))))); intro v345 w16 ho17 hb hg_ hnew_; clear hg_ hnew_; (first | rw [← Ny344.out] at ho17 | (simp only [Int.reduceToNat] at ho17; rw [← Ny344.out] at ho17)); have n0_ := Aside0.mk (Kd.R_lower ho17 (below_size bl_)); have n1_ := Aside0.mk (below_step bl_ hb); clear HB; have HO346 := n0_; have HB := n1_; clear n0_ n1_; clear hb ho17; obtain ⟨Ao18, co18, eo18⟩ := Kd.R_slice HO346.out; subst eo18) | ((with_reducible refine gate_callee (f := 60) rfl ?_); refine goesL_ (some 125) rfl rfl Tryz.func60 (by kernel_rfl) rfl #[.string a3, .slice Ao18 y344.length co18] rfl mp_ ?_; (with_reducible refine (bodkinref07_index.calls k a3 _ _ y344 t347 _ ?side1 ?side2 A12.out).mono ?_); (case side1 => repeat (first | exact (Kd.R_reads' HO346.out).2.2 | (with_reducible refine Kd.C_alloc ?_ _) | (with_reducible refine Kd.C_drewN ?_ _) | (with_reducible refine Kd.C_drew ?_))); (case side2 => exact (Kd.R_reads' HO346.out).2.1); rintro e w' ⟨rfl, ⟨nd, rfl⟩⟩; refine ⟨_, rfl, ?_⟩) | ((with_reducible refine gate_callee (f := 64) rfl ?_); refine goesL_ (some 133) rfl rfl Tryz.func64 (by kernel_rfl) rfl #[.int .i64 a1, .int .i64 t347, .int .u64 a4, .int .u64 a5] rfl mp_ ?_; (with_reducible refine (bodkinref02_Rel.calls a1 t347 a4 a5 t348 t349 _ A14.out).mono ?_); rintro e w' ⟨rfl, ⟨nd, rfl⟩⟩; refine ⟨_, rfl, ?_⟩) | ((with_reducible refine gate_callee (f := 57) rfl ?_); refine goesL_ (some 137) rfl rfl Tryz.func57 (by kernel_rfl) rfl #[.bool t348] rfl mp_ ?_; (with_reducible refine (bodkinref07_one.calls t348 t350 _ A15.out).mono ?_); rintro e w' ⟨rfl, ⟨nd, rfl⟩⟩; refine ⟨_, rfl, ?_⟩))
       go_ret2
       exact ⟨er_, bl_⟩
      ·rw [if_neg c13] at H
       have c13b0 : decide (0 < t347) = false := decide_eq_false c13
       clear c13
       obtain ⟨y351, hy351⟩ : ∃ y_ : List ByteArray, y_ = (([(⟨#[]⟩ : ByteArray), (⟨#[99, 108, 122]⟩ : ByteArray), (⟨#[99, 116, 122]⟩ : ByteArray), (⟨#[112, 111, 112, 99, 110, 116]⟩ : ByteArray), (⟨#[101, 120, 116, 101, 110, 100, 56, 95, 115]⟩ : ByteArray), (⟨#[101, 120, 116, 101, 110, 100, 49, 54, 95, 115]⟩ : ByteArray), (⟨#[101, 120, 116, 101, 110, 100, 51, 50, 95, 115]⟩ : ByteArray)] : List ByteArray)) := ⟨_, rfl⟩
       replace H : ((bodkinref07_index.f k a3 y351).bind fun t354 => (if t354 > 0 then ((bodkinref02_Un.f k a1 t354 a4).bind fun bt355 => (some (bt355.1, bt355.2))) else ((bodkinref07_index.f k a3 (([(⟨#[]⟩ : ByteArray), (⟨#[97, 100, 100]⟩ : ByteArray), (⟨#[115, 117, 98]⟩ : ByteArray), (⟨#[109, 117, 108]⟩ : ByteArray), (⟨#[100, 105, 118, 95, 115]⟩ : ByteArray), (⟨#[100, 105, 118, 95, 117]⟩ : ByteArray), (⟨#[114, 101, 109, 95, 115]⟩ : ByteArray), (⟨#[114, 101, 109, 95, 117]⟩ : ByteArray), (⟨#[97, 110, 100]⟩ : ByteArray), (⟨#[111, 114]⟩ : ByteArray), (⟨#[120, 111, 114]⟩ : ByteArray), (⟨#[115, 104, 108]⟩ : ByteArray), (⟨#[115, 104, 114, 95, 115]⟩ : ByteArray), (⟨#[115, 104, 114, 95, 117]⟩ : ByteArray), (⟨#[114, 111, 116, 108]⟩ : ByteArray), (⟨#[114, 111, 116, 114]⟩ : ByteArray)] : List ByteArray))).bind fun t360 => ((bodkinref02_Bin.f k a1 t360 a4 a5).bind fun bt361 => (some (bt361.1, bt361.2)))))) = some (r1, r2) := by first | (rw [hy351]; with_reducible exact H) | (have H2_ := (Option.bind_some _ _).symm.trans H; rw [hy351]; with_reducible exact H2_) | (have H2_ := (Option.bind_some _ _).symm.trans H; with_reducible exact H2_) | with_reducible exact H | (rw [hy351]; exact H) | exact H
       have Ny351 := Aside0.mk hy351
       clear hy351
       replace H := Option.bind_eq_some_iff.mp H
       obtain ⟨t354, A190, H⟩ := H
       replace H : (if t354 > 0 then ((bodkinref02_Un.f k a1 t354 a4).bind fun bt355 => (some (bt355.1, bt355.2))) else ((bodkinref07_index.f k a3 (([(⟨#[]⟩ : ByteArray), (⟨#[97, 100, 100]⟩ : ByteArray), (⟨#[115, 117, 98]⟩ : ByteArray), (⟨#[109, 117, 108]⟩ : ByteArray), (⟨#[100, 105, 118, 95, 115]⟩ : ByteArray), (⟨#[100, 105, 118, 95, 117]⟩ : ByteArray), (⟨#[114, 101, 109, 95, 115]⟩ : ByteArray), (⟨#[114, 101, 109, 95, 117]⟩ : ByteArray), (⟨#[97, 110, 100]⟩ : ByteArray), (⟨#[111, 114]⟩ : ByteArray), (⟨#[120, 111, 114]⟩ : ByteArray), (⟨#[115, 104, 108]⟩ : ByteArray), (⟨#[115, 104, 114, 95, 115]⟩ : ByteArray), (⟨#[115, 104, 114, 95, 117]⟩ : ByteArray), (⟨#[114, 111, 116, 108]⟩ : ByteArray), (⟨#[114, 111, 116, 114]⟩ : ByteArray)] : List ByteArray))).bind fun t360 => ((bodkinref02_Bin.f k a1 t360 a4 a5).bind fun bt361 => (some (bt361.1, bt361.2))))) = some (r1, r2) := H
       have A19 := Aside0.mk A190
       clear A190
       by_cases c20 : t354 > 0
       ·rw [if_pos c20] at H
        have c20b0 : decide (0 < t354) = true := decide_eq_true c20
        clear c20
        replace H := Option.bind_eq_some_iff.mp H
        obtain ⟨⟨t355, t356⟩, A210, H⟩ := H
        replace H : (some (t355, t356)) = some (r1, r2) := H
        have A21 := Aside0.mk A210
        clear A210
        simp only [Option.some.injEq, Prod.mk.injEq] at H
        obtain ⟨rfl, rfl⟩ := H
        go_enter Tryz.func35, Tryz.ntmps35
        go_wp2_with (first | ((with_reducible refine gate_dst (N := 124) rfl ?_); (try (refine gate_guard (by rfl) ?_; dsimp only)); refine Kd.R_lit Kd.string _ 9 ?hg (N := 124) ?hd (xs := ([(⟨#[]⟩ : ByteArray), (⟨#[101, 113]⟩ : ByteArray), (⟨#[110, 101]⟩ : ByteArray), (⟨#[108, 116, 95, 115]⟩ : ByteArray), (⟨#[108, 116, 95, 117]⟩ : ByteArray), (⟨#[103, 116, 95, 115]⟩ : ByteArray), (⟨#[103, 116, 95, 117]⟩ : ByteArray), (⟨#[108, 101, 95, 115]⟩ : ByteArray), (⟨#[108, 101, 95, 117]⟩ : ByteArray), (⟨#[103, 101, 95, 115]⟩ : ByteArray), (⟨#[103, 101, 95, 117]⟩ : ByteArray)] : List ByteArray)) (inner := [.string (⟨#[]⟩ : ByteArray), .string (⟨#[101, 113]⟩ : ByteArray), .string (⟨#[110, 101]⟩ : ByteArray), .string (⟨#[108, 116, 95, 115]⟩ : ByteArray), .string (⟨#[108, 116, 95, 117]⟩ : ByteArray), .string (⟨#[103, 116, 95, 115]⟩ : ByteArray), .string (⟨#[103, 116, 95, 117]⟩ : ByteArray), .string (⟨#[108, 101, 95, 115]⟩ : ByteArray), .string (⟨#[108, 101, 95, 117]⟩ : ByteArray), .string (⟨#[103, 101, 95, 115]⟩ : ByteArray), .string (⟨#[103, 101, 95, 117]⟩ : ByteArray)]) (ok := fun _ => True) (okp := fun _ => True) ?hr ?hp (fun _ hk => hk) trivial (Below.refl _ _) (Nat.le_refl _) (by simp) ?_; (case hd => rfl); (case hg => rfl); (case hr => first | (go_simp; done) | (go_simp; rfl)); (case hp => exact (Reps.one (show Kd.M Kd.string _ _ _ (⟨#[]⟩ : ByteArray) [.string (⟨#[]⟩ : ByteArray)] from rfl) (Reps.one (show Kd.M Kd.string _ _ _ (⟨#[101, 113]⟩ : ByteArray) [.string (⟨#[101, 113]⟩ : ByteArray)] from rfl) (Reps.one (show Kd.M Kd.string _ _ _ (⟨#[110, 101]⟩ : ByteArray) [.string (⟨#[110, 101]⟩ : ByteArray)] from rfl) (Reps.one (show Kd.M Kd.string _ _ _ (⟨#[108, 116, 95, 115]⟩ : ByteArray) [.string (⟨#[108, 116, 95, 115]⟩ : ByteArray)] from rfl) (Reps.one (show Kd.M Kd.string _ _ _ (⟨#[108, 116, 95, 117]⟩ : ByteArray) [.string (⟨#[108, 116, 95, 117]⟩ : ByteArray)] from rfl) (Reps.one (show Kd.M Kd.string _ _ _ (⟨#[103, 116, 95, 115]⟩ : ByteArray) [.string (⟨#[103, 116, 95, 115]⟩ : ByteArray)] from rfl) (Reps.one (show Kd.M Kd.string _ _ _ (⟨#[103, 116, 95, 117]⟩ : ByteArray) [.string (⟨#[103, 116, 95, 117]⟩ : ByteArray)] from rfl) (Reps.one (show Kd.M Kd.string _ _ _ (⟨#[108, 101, 95, 115]⟩ : ByteArray) [.string (⟨#[108, 101, 95, 115]⟩ : ByteArray)] from rfl) (Reps.one (show Kd.M Kd.string _ _ _ (⟨#[108, 101, 95, 117]⟩ : ByteArray) [.string (⟨#[108, 101, 95, 117]⟩ : ByteArray)] from rfl) (Reps.one (show Kd.M Kd.string _ _ _ (⟨#[103, 101, 95, 115]⟩ : ByteArray) [.string (⟨#[103, 101, 95, 115]⟩ : ByteArray)] from rfl) (Reps.one (show Kd.M Kd.string _ _ _ (⟨#[103, 101, 95, 117]⟩ : ByteArray) [.string (⟨#[103, 101, 95, 117]⟩ : ByteArray)] from rfl) (Reps.none _ _))))))))))))); intro v345 w22 ho23 hb hg_ hnew_; clear hg_ hnew_; (first | rw [← Ny344.out] at ho23 | (simp only [Int.reduceToNat] at ho23; rw [← Ny344.out] at ho23)); have n0_ := Aside0.mk (Kd.R_lower ho23 (below_size bl_)); have n1_ := Aside0.mk (below_step bl_ hb); clear HB; have HO346 := n0_; have HB := n1_; clear n0_ n1_; clear hb ho23; obtain ⟨Ao24, co24, eo24⟩ := Kd.R_slice HO346.out; subst eo24) | ((with_reducible refine gate_callee (f := 60) rfl ?_); refine goesL_ (some 125) rfl rfl Tryz.func60 (by kernel_rfl) rfl #[.string a3, .slice Ao24 y344.length co24] rfl mp_ ?_; (with_reducible refine (bodkinref07_index.calls k a3 _ _ y344 t347 _ ?side1 ?side2 A12.out).mono ?_); (case side1 => repeat (first | exact (Kd.R_reads' HO346.out).2.2 | (with_reducible refine Kd.C_alloc ?_ _) | (with_reducible refine Kd.C_drewN ?_ _) | (with_reducible refine Kd.C_drew ?_))); (case side2 => exact (Kd.R_reads' HO346.out).2.1); rintro e w' ⟨rfl, ⟨nd, rfl⟩⟩; refine ⟨_, rfl, ?_⟩) | ((with_reducible refine gate_dst (N := 140) rfl ?_); (try (refine gate_guard (by rfl) ?_; dsimp only)); refine Kd.R_lit Kd.string _ 9 ?hg (N := 140) ?hd (xs := ([(⟨#[]⟩ : ByteArray), (⟨#[99, 108, 122]⟩ : ByteArray), (⟨#[99, 116, 122]⟩ : ByteArray), (⟨#[112, 111, 112, 99, 110, 116]⟩ : ByteArray), (⟨#[101, 120, 116, 101, 110, 100, 56, 95, 115]⟩ : ByteArray), (⟨#[101, 120, 116, 101, 110, 100, 49, 54, 95, 115]⟩ : ByteArray), (⟨#[101, 120, 116, 101, 110, 100, 51, 50, 95, 115]⟩ : ByteArray)] : List ByteArray)) (inner := [.string (⟨#[]⟩ : ByteArray), .string (⟨#[99, 108, 122]⟩ : ByteArray), .string (⟨#[99, 116, 122]⟩ : ByteArray), .string (⟨#[112, 111, 112, 99, 110, 116]⟩ : ByteArray), .string (⟨#[101, 120, 116, 101, 110, 100, 56, 95, 115]⟩ : ByteArray), .string (⟨#[101, 120, 116, 101, 110, 100, 49, 54, 95, 115]⟩ : ByteArray), .string (⟨#[101, 120, 116, 101, 110, 100, 51, 50, 95, 115]⟩ : ByteArray)]) (ok := fun _ => True) (okp := fun _ => True) ?hr ?hp (fun _ hk => hk) trivial (Below.refl _ _) (Nat.le_refl _) (by simp) ?_; (case hd => rfl); (case hg => rfl); (case hr => first | (go_simp; done) | (go_simp; rfl)); (case hp => exact (Reps.one (show Kd.M Kd.string _ _ _ (⟨#[]⟩ : ByteArray) [.string (⟨#[]⟩ : ByteArray)] from rfl) (Reps.one (show Kd.M Kd.string _ _ _ (⟨#[99, 108, 122]⟩ : ByteArray) [.string (⟨#[99, 108, 122]⟩ : ByteArray)] from rfl) (Reps.one (show Kd.M Kd.string _ _ _ (⟨#[99, 116, 122]⟩ : ByteArray) [.string (⟨#[99, 116, 122]⟩ : ByteArray)] from rfl) (Reps.one (show Kd.M Kd.string _ _ _ (⟨#[112, 111, 112, 99, 110, 116]⟩ : ByteArray) [.string (⟨#[112, 111, 112, 99, 110, 116]⟩ : ByteArray)] from rfl) (Reps.one (show Kd.M Kd.string _ _ _ (⟨#[101, 120, 116, 101, 110, 100, 56, 95, 115]⟩ : ByteArray) [.string (⟨#[101, 120, 116, 101, 110, 100, 56, 95, 115]⟩ : ByteArray)] from rfl) (Reps.one (show Kd.M Kd.string _ _ _ (⟨#[101, 120, 116, 101, 110, 100, 49, 54, 95, 115]⟩ : ByteArray) [.string (⟨#[101, 120, 116, 101, 110, 100, 49, 54, 95, 115]⟩ : ByteArray)] from rfl) (Reps.one (show Kd.M Kd.string _ _ _ (⟨#[101, 120, 116, 101, 110, 100, 51, 50, 95, 115]⟩ : ByteArray) [.string (⟨#[101, 120, 116, 101, 110, 100, 51, 50, 95, 115]⟩ : ByteArray)] from rfl) (Reps.none _ _))))))))); intro v352 w25 ho26 hb hg_ hnew_; clear hg_ hnew_; (first | rw [← Ny351.out] at ho26 | (simp only [Int.reduceToNat] at ho26; rw [← Ny351.out] at ho26)); have n0_ := Aside0.mk (Kd.R_elder' (rl_ HO346) (Kd.R_base ho26) hb); have n1_ := Aside0.mk (Kd.R_lower (Kd.R_new' ho26 (Kd.R_lt (rl_ HO346))) (below_size bl_)); have n2_ := Aside0.mk (below_step bl_ hb); clear HO346; clear HB; have HO346 := n0_; have HO353 := n1_; have HB := n2_; clear n0_ n1_ n2_; clear hb ho26; obtain ⟨Ao27, co27, eo27⟩ := Kd.R_slice HO353.out; subst eo27) | ((with_reducible refine gate_callee (f := 60) rfl ?_); refine goesL_ (some 141) rfl rfl Tryz.func60 (by kernel_rfl) rfl #[.string a3, .slice Ao27 y351.length co27] rfl mp_ ?_; (with_reducible refine (bodkinref07_index.calls k a3 _ _ y351 t354 _ ?side1 ?side2 A19.out).mono ?_); (case side1 => repeat (first | exact (Kd.R_reads' HO353.out).2.2 | (with_reducible refine Kd.C_alloc ?_ _) | (with_reducible refine Kd.C_drewN ?_ _) | (with_reducible refine Kd.C_drew ?_))); (case side2 => exact (Kd.R_reads' HO353.out).2.1); rintro e w' ⟨rfl, ⟨nd, rfl⟩⟩; refine ⟨_, rfl, ?_⟩) | ((with_reducible refine gate_callee (f := 65) rfl ?_); refine goesL_ (some 147) rfl rfl Tryz.func65 (by kernel_rfl) rfl #[.int .i64 a1, .int .i64 t354, .int .u64 a4] rfl mp_ ?_; (with_reducible refine (bodkinref02_Un.calls k a1 t354 a4 t355 t356 _ A21.out).mono ?_); rintro e w28 ⟨rfl, hb⟩; refine ⟨_, rfl, ?_⟩; have n0_ := Aside0.mk (Kd.R_below (rl_ HO346) hb); have n1_ := Aside0.mk (Kd.R_below (rl_ HO353) hb); have n2_ := Aside0.mk (below_step bl_ hb); clear HO346; clear HO353; clear HB; have HO346 := n0_; have HO353 := n1_; have HB := n2_; clear n0_ n1_ n2_; (try clear hb); (try clear hb2); (try clear hk); (try clear hi)))
        go_ret2
        exact ⟨er_, bl_⟩
       ·rw [if_neg c20] at H
        have c20b0 : decide (0 < t354) = false := decide_eq_false c20
        clear c20
        obtain ⟨y357, hy357⟩ : ∃ y_ : List ByteArray, y_ = (([(⟨#[]⟩ : ByteArray), (⟨#[97, 100, 100]⟩ : ByteArray), (⟨#[115, 117, 98]⟩ : ByteArray), (⟨#[109, 117, 108]⟩ : ByteArray), (⟨#[100, 105, 118, 95, 115]⟩ : ByteArray), (⟨#[100, 105, 118, 95, 117]⟩ : ByteArray), (⟨#[114, 101, 109, 95, 115]⟩ : ByteArray), (⟨#[114, 101, 109, 95, 117]⟩ : ByteArray), (⟨#[97, 110, 100]⟩ : ByteArray), (⟨#[111, 114]⟩ : ByteArray), (⟨#[120, 111, 114]⟩ : ByteArray), (⟨#[115, 104, 108]⟩ : ByteArray), (⟨#[115, 104, 114, 95, 115]⟩ : ByteArray), (⟨#[115, 104, 114, 95, 117]⟩ : ByteArray), (⟨#[114, 111, 116, 108]⟩ : ByteArray), (⟨#[114, 111, 116, 114]⟩ : ByteArray)] : List ByteArray)) := ⟨_, rfl⟩
        replace H : ((bodkinref07_index.f k a3 y357).bind fun t360 => ((bodkinref02_Bin.f k a1 t360 a4 a5).bind fun bt361 => (some (bt361.1, bt361.2)))) = some (r1, r2) := by first | (rw [hy357]; with_reducible exact H) | (have H2_ := (Option.bind_some _ _).symm.trans H; rw [hy357]; with_reducible exact H2_) | (have H2_ := (Option.bind_some _ _).symm.trans H; with_reducible exact H2_) | with_reducible exact H | (rw [hy357]; exact H) | exact H
        have Ny357 := Aside0.mk hy357
        clear hy357
        replace H := Option.bind_eq_some_iff.mp H
        obtain ⟨t360, A290, H⟩ := H
        replace H : ((bodkinref02_Bin.f k a1 t360 a4 a5).bind fun bt361 => (some (bt361.1, bt361.2))) = some (r1, r2) := H
        have A29 := Aside0.mk A290
        clear A290
        replace H := Option.bind_eq_some_iff.mp H
        obtain ⟨⟨t361, t362⟩, A300, H⟩ := H
        replace H : (some (t361, t362)) = some (r1, r2) := H
        have A30 := Aside0.mk A300
        clear A300
        simp only [Option.some.injEq, Prod.mk.injEq] at H
        obtain ⟨rfl, rfl⟩ := H
        go_enter Tryz.func35, Tryz.ntmps35
        go_wp2_with (first | ((with_reducible refine gate_dst (N := 124) rfl ?_); (try (refine gate_guard (by rfl) ?_; dsimp only)); refine Kd.R_lit Kd.string _ 9 ?hg (N := 124) ?hd (xs := ([(⟨#[]⟩ : ByteArray), (⟨#[101, 113]⟩ : ByteArray), (⟨#[110, 101]⟩ : ByteArray), (⟨#[108, 116, 95, 115]⟩ : ByteArray), (⟨#[108, 116, 95, 117]⟩ : ByteArray), (⟨#[103, 116, 95, 115]⟩ : ByteArray), (⟨#[103, 116, 95, 117]⟩ : ByteArray), (⟨#[108, 101, 95, 115]⟩ : ByteArray), (⟨#[108, 101, 95, 117]⟩ : ByteArray), (⟨#[103, 101, 95, 115]⟩ : ByteArray), (⟨#[103, 101, 95, 117]⟩ : ByteArray)] : List ByteArray)) (inner := [.string (⟨#[]⟩ : ByteArray), .string (⟨#[101, 113]⟩ : ByteArray), .string (⟨#[110, 101]⟩ : ByteArray), .string (⟨#[108, 116, 95, 115]⟩ : ByteArray), .string (⟨#[108, 116, 95, 117]⟩ : ByteArray), .string (⟨#[103, 116, 95, 115]⟩ : ByteArray), .string (⟨#[103, 116, 95, 117]⟩ : ByteArray), .string (⟨#[108, 101, 95, 115]⟩ : ByteArray), .string (⟨#[108, 101, 95, 117]⟩ : ByteArray), .string (⟨#[103, 101, 95, 115]⟩ : ByteArray), .string (⟨#[103, 101, 95, 117]⟩ : ByteArray)]) (ok := fun _ => True) (okp := fun _ => True) ?hr ?hp (fun _ hk => hk) trivial (Below.refl _ _) (Nat.le_refl _) (by simp) ?_; (case hd => rfl); (case hg => rfl); (case hr => first | (go_simp; done) | (go_simp; rfl)); (case hp => exact (Reps.one (show Kd.M Kd.string _ _ _ (⟨#[]⟩ : ByteArray) [.string (⟨#[]⟩ : ByteArray)] from rfl) (Reps.one (show Kd.M Kd.string _ _ _ (⟨#[101, 113]⟩ : ByteArray) [.string (⟨#[101, 113]⟩ : ByteArray)] from rfl) (Reps.one (show Kd.M Kd.string _ _ _ (⟨#[110, 101]⟩ : ByteArray) [.string (⟨#[110, 101]⟩ : ByteArray)] from rfl) (Reps.one (show Kd.M Kd.string _ _ _ (⟨#[108, 116, 95, 115]⟩ : ByteArray) [.string (⟨#[108, 116, 95, 115]⟩ : ByteArray)] from rfl) (Reps.one (show Kd.M Kd.string _ _ _ (⟨#[108, 116, 95, 117]⟩ : ByteArray) [.string (⟨#[108, 116, 95, 117]⟩ : ByteArray)] from rfl) (Reps.one (show Kd.M Kd.string _ _ _ (⟨#[103, 116, 95, 115]⟩ : ByteArray) [.string (⟨#[103, 116, 95, 115]⟩ : ByteArray)] from rfl) (Reps.one (show Kd.M Kd.string _ _ _ (⟨#[103, 116, 95, 117]⟩ : ByteArray) [.string (⟨#[103, 116, 95, 117]⟩ : ByteArray)] from rfl) (Reps.one (show Kd.M Kd.string _ _ _ (⟨#[108, 101, 95, 115]⟩ : ByteArray) [.string (⟨#[108, 101, 95, 115]⟩ : ByteArray)] from rfl) (Reps.one (show Kd.M Kd.string _ _ _ (⟨#[108, 101, 95, 117]⟩ : ByteArray) [.string (⟨#[108, 101, 95, 117]⟩ : ByteArray)] from rfl) (Reps.one (show Kd.M Kd.string _ _ _ (⟨#[103, 101, 95, 115]⟩ : ByteArray) [.string (⟨#[103, 101, 95, 115]⟩ : ByteArray)] from rfl) (Reps.one (show Kd.M Kd.string _ _ _ (⟨#[103, 101, 95, 117]⟩ : ByteArray) [.string (⟨#[103, 101, 95, 117]⟩ : ByteArray)] from rfl) (Reps.none _ _))))))))))))); intro v345 w31 ho32 hb hg_ hnew_; clear hg_ hnew_; (first | rw [← Ny344.out] at ho32 | (simp only [Int.reduceToNat] at ho32; rw [← Ny344.out] at ho32)); have n0_ := Aside0.mk (Kd.R_lower ho32 (below_size bl_)); have n1_ := Aside0.mk (below_step bl_ hb); clear HB; have HO346 := n0_; have HB := n1_; clear n0_ n1_; clear hb ho32; obtain ⟨Ao33, co33, eo33⟩ := Kd.R_slice HO346.out; subst eo33) | ((with_reducible refine gate_callee (f := 60) rfl ?_); refine goesL_ (some 125) rfl rfl Tryz.func60 (by kernel_rfl) rfl #[.string a3, .slice Ao33 y344.length co33] rfl mp_ ?_; (with_reducible refine (bodkinref07_index.calls k a3 _ _ y344 t347 _ ?side1 ?side2 A12.out).mono ?_); (case side1 => repeat (first | exact (Kd.R_reads' HO346.out).2.2 | (with_reducible refine Kd.C_alloc ?_ _) | (with_reducible refine Kd.C_drewN ?_ _) | (with_reducible refine Kd.C_drew ?_))); (case side2 => exact (Kd.R_reads' HO346.out).2.1); rintro e w' ⟨rfl, ⟨nd, rfl⟩⟩; refine ⟨_, rfl, ?_⟩) | ((with_reducible refine gate_dst (N := 140) rfl ?_); (try (refine gate_guard (by rfl) ?_; dsimp only)); refine Kd.R_lit Kd.string _ 9 ?hg (N := 140) ?hd (xs := ([(⟨#[]⟩ : ByteArray), (⟨#[99, 108, 122]⟩ : ByteArray), (⟨#[99, 116, 122]⟩ : ByteArray), (⟨#[112, 111, 112, 99, 110, 116]⟩ : ByteArray), (⟨#[101, 120, 116, 101, 110, 100, 56, 95, 115]⟩ : ByteArray), (⟨#[101, 120, 116, 101, 110, 100, 49, 54, 95, 115]⟩ : ByteArray), (⟨#[101, 120, 116, 101, 110, 100, 51, 50, 95, 115]⟩ : ByteArray)] : List ByteArray)) (inner := [.string (⟨#[]⟩ : ByteArray), .string (⟨#[99, 108, 122]⟩ : ByteArray), .string (⟨#[99, 116, 122]⟩ : ByteArray), .string (⟨#[112, 111, 112, 99, 110, 116]⟩ : ByteArray), .string (⟨#[101, 120, 116, 101, 110, 100, 56, 95, 115]⟩ : ByteArray), .string (⟨#[101, 120, 116, 101, 110, 100, 49, 54, 95, 115]⟩ : ByteArray), .string (⟨#[101, 120, 116, 101, 110, 100, 51, 50, 95, 115]⟩ : ByteArray)]) (ok := fun _ => True) (okp := fun _ => True) ?hr ?hp (fun _ hk => hk) trivial (Below.refl _ _) (Nat.le_refl _) (by simp) ?_; (case hd => rfl); (case hg => rfl); (case hr => first | (go_simp; done) | (go_simp; rfl)); (case hp => exact (Reps.one (show Kd.M Kd.string _ _ _ (⟨#[]⟩ : ByteArray) [.string (⟨#[]⟩ : ByteArray)] from rfl) (Reps.one (show Kd.M Kd.string _ _ _ (⟨#[99, 108, 122]⟩ : ByteArray) [.string (⟨#[99, 108, 122]⟩ : ByteArray)] from rfl) (Reps.one (show Kd.M Kd.string _ _ _ (⟨#[99, 116, 122]⟩ : ByteArray) [.string (⟨#[99, 116, 122]⟩ : ByteArray)] from rfl) (Reps.one (show Kd.M Kd.string _ _ _ (⟨#[112, 111, 112, 99, 110, 116]⟩ : ByteArray) [.string (⟨#[112, 111, 112, 99, 110, 116]⟩ : ByteArray)] from rfl) (Reps.one (show Kd.M Kd.string _ _ _ (⟨#[101, 120, 116, 101, 110, 100, 56, 95, 115]⟩ : ByteArray) [.string (⟨#[101, 120, 116, 101, 110, 100, 56, 95, 115]⟩ : ByteArray)] from rfl) (Reps.one (show Kd.M Kd.string _ _ _ (⟨#[101, 120, 116, 101, 110, 100, 49, 54, 95, 115]⟩ : ByteArray) [.string (⟨#[101, 120, 116, 101, 110, 100, 49, 54, 95, 115]⟩ : ByteArray)] from rfl) (Reps.one (show Kd.M Kd.string _ _ _ (⟨#[101, 120, 116, 101, 110, 100, 51, 50, 95, 115]⟩ : ByteArray) [.string (⟨#[101, 120, 116, 101, 110, 100, 51, 50, 95, 115]⟩ : ByteArray)] from rfl) (Reps.none _ _))))))))); intro v352 w34 ho35 hb hg_ hnew_; clear hg_ hnew_; (first | rw [← Ny351.out] at ho35 | (simp only [Int.reduceToNat] at ho35; rw [← Ny351.out] at ho35)); have n0_ := Aside0.mk (Kd.R_elder' (rl_ HO346) (Kd.R_base ho35) hb); have n1_ := Aside0.mk (Kd.R_lower (Kd.R_new' ho35 (Kd.R_lt (rl_ HO346))) (below_size bl_)); have n2_ := Aside0.mk (below_step bl_ hb); clear HO346; clear HB; have HO346 := n0_; have HO353 := n1_; have HB := n2_; clear n0_ n1_ n2_; clear hb ho35; obtain ⟨Ao36, co36, eo36⟩ := Kd.R_slice HO353.out; subst eo36) | ((with_reducible refine gate_callee (f := 60) rfl ?_); refine goesL_ (some 141) rfl rfl Tryz.func60 (by kernel_rfl) rfl #[.string a3, .slice Ao36 y351.length co36] rfl mp_ ?_; (with_reducible refine (bodkinref07_index.calls k a3 _ _ y351 t354 _ ?side1 ?side2 A19.out).mono ?_); (case side1 => repeat (first | exact (Kd.R_reads' HO353.out).2.2 | (with_reducible refine Kd.C_alloc ?_ _) | (with_reducible refine Kd.C_drewN ?_ _) | (with_reducible refine Kd.C_drew ?_))); (case side2 => exact (Kd.R_reads' HO353.out).2.1); rintro e w' ⟨rfl, ⟨nd, rfl⟩⟩; refine ⟨_, rfl, ?_⟩) | ((with_reducible refine gate_dst (N := 152) rfl ?_); (try (refine gate_guard (by rfl) ?_; dsimp only)); refine Kd.R_lit Kd.string _ 9 ?hg (N := 152) ?hd (xs := ([(⟨#[]⟩ : ByteArray), (⟨#[97, 100, 100]⟩ : ByteArray), (⟨#[115, 117, 98]⟩ : ByteArray), (⟨#[109, 117, 108]⟩ : ByteArray), (⟨#[100, 105, 118, 95, 115]⟩ : ByteArray), (⟨#[100, 105, 118, 95, 117]⟩ : ByteArray), (⟨#[114, 101, 109, 95, 115]⟩ : ByteArray), (⟨#[114, 101, 109, 95, 117]⟩ : ByteArray), (⟨#[97, 110, 100]⟩ : ByteArray), (⟨#[111, 114]⟩ : ByteArray), (⟨#[120, 111, 114]⟩ : ByteArray), (⟨#[115, 104, 108]⟩ : ByteArray), (⟨#[115, 104, 114, 95, 115]⟩ : ByteArray), (⟨#[115, 104, 114, 95, 117]⟩ : ByteArray), (⟨#[114, 111, 116, 108]⟩ : ByteArray), (⟨#[114, 111, 116, 114]⟩ : ByteArray)] : List ByteArray)) (inner := [.string (⟨#[]⟩ : ByteArray), .string (⟨#[97, 100, 100]⟩ : ByteArray), .string (⟨#[115, 117, 98]⟩ : ByteArray), .string (⟨#[109, 117, 108]⟩ : ByteArray), .string (⟨#[100, 105, 118, 95, 115]⟩ : ByteArray), .string (⟨#[100, 105, 118, 95, 117]⟩ : ByteArray), .string (⟨#[114, 101, 109, 95, 115]⟩ : ByteArray), .string (⟨#[114, 101, 109, 95, 117]⟩ : ByteArray), .string (⟨#[97, 110, 100]⟩ : ByteArray), .string (⟨#[111, 114]⟩ : ByteArray), .string (⟨#[120, 111, 114]⟩ : ByteArray), .string (⟨#[115, 104, 108]⟩ : ByteArray), .string (⟨#[115, 104, 114, 95, 115]⟩ : ByteArray), .string (⟨#[115, 104, 114, 95, 117]⟩ : ByteArray), .string (⟨#[114, 111, 116, 108]⟩ : ByteArray), .string (⟨#[114, 111, 116, 114]⟩ : ByteArray)]) (ok := fun _ => True) (okp := fun _ => True) ?hr ?hp (fun _ hk => hk) trivial (Below.refl _ _) (Nat.le_refl _) (by simp) ?_; (case hd => rfl); (case hg => rfl); (case hr => first | (go_simp; done) | (go_simp; rfl)); (case hp => exact (Reps.one (show Kd.M Kd.string _ _ _ (⟨#[]⟩ : ByteArray) [.string (⟨#[]⟩ : ByteArray)] from rfl) (Reps.one (show Kd.M Kd.string _ _ _ (⟨#[97, 100, 100]⟩ : ByteArray) [.string (⟨#[97, 100, 100]⟩ : ByteArray)] from rfl) (Reps.one (show Kd.M Kd.string _ _ _ (⟨#[115, 117, 98]⟩ : ByteArray) [.string (⟨#[115, 117, 98]⟩ : ByteArray)] from rfl) (Reps.one (show Kd.M Kd.string _ _ _ (⟨#[109, 117, 108]⟩ : ByteArray) [.string (⟨#[109, 117, 108]⟩ : ByteArray)] from rfl) (Reps.one (show Kd.M Kd.string _ _ _ (⟨#[100, 105, 118, 95, 115]⟩ : ByteArray) [.string (⟨#[100, 105, 118, 95, 115]⟩ : ByteArray)] from rfl) (Reps.one (show Kd.M Kd.string _ _ _ (⟨#[100, 105, 118, 95, 117]⟩ : ByteArray) [.string (⟨#[100, 105, 118, 95, 117]⟩ : ByteArray)] from rfl) (Reps.one (show Kd.M Kd.string _ _ _ (⟨#[114, 101, 109, 95, 115]⟩ : ByteArray) [.string (⟨#[114, 101, 109, 95, 115]⟩ : ByteArray)] from rfl) (Reps.one (show Kd.M Kd.string _ _ _ (⟨#[114, 101, 109, 95, 117]⟩ : ByteArray) [.string (⟨#[114, 101, 109, 95, 117]⟩ : ByteArray)] from rfl) (Reps.one (show Kd.M Kd.string _ _ _ (⟨#[97, 110, 100]⟩ : ByteArray) [.string (⟨#[97, 110, 100]⟩ : ByteArray)] from rfl) (Reps.one (show Kd.M Kd.string _ _ _ (⟨#[111, 114]⟩ : ByteArray) [.string (⟨#[111, 114]⟩ : ByteArray)] from rfl) (Reps.one (show Kd.M Kd.string _ _ _ (⟨#[120, 111, 114]⟩ : ByteArray) [.string (⟨#[120, 111, 114]⟩ : ByteArray)] from rfl) (Reps.one (show Kd.M Kd.string _ _ _ (⟨#[115, 104, 108]⟩ : ByteArray) [.string (⟨#[115, 104, 108]⟩ : ByteArray)] from rfl) (Reps.one (show Kd.M Kd.string _ _ _ (⟨#[115, 104, 114, 95, 115]⟩ : ByteArray) [.string (⟨#[115, 104, 114, 95, 115]⟩ : ByteArray)] from rfl) (Reps.one (show Kd.M Kd.string _ _ _ (⟨#[115, 104, 114, 95, 117]⟩ : ByteArray) [.string (⟨#[115, 104, 114, 95, 117]⟩ : ByteArray)] from rfl) (Reps.one (show Kd.M Kd.string _ _ _ (⟨#[114, 111, 116, 108]⟩ : ByteArray) [.string (⟨#[114, 111, 116, 108]⟩ : ByteArray)] from rfl) (Reps.one (show Kd.M Kd.string _ _ _ (⟨#[114, 111, 116, 114]⟩ : ByteArray) [.string (⟨#[114, 111, 116, 114]⟩ : ByteArray)] from rfl) (Reps.none _ _)))))))))))))))))); intro v358 w37 ho38 hb hg_ hnew_; clear hg_ hnew_; (first | rw [← Ny357.out] at ho38 | (simp only [Int.reduceToNat] at ho38; rw [← Ny357.out] at ho38)); have n0_ := Aside0.mk (Kd.R_elder' (rl_ HO346) (Kd.R_base ho38) hb); have n1_ := Aside0.mk (Kd.R_elder' (rl_ HO353) (Kd.R_base ho38) hb); have n2_ := Aside0.mk (Kd.R_lower (Kd.R_new' (Kd.R_new' ho38 (Kd.R_lt (rl_ HO346))) (Kd.R_lt (rl_ HO353))) (below_size bl_)); have n3_ := Aside0.mk (below_step bl_ hb); clear HO346; clear HO353; clear HB; have HO346 := n0_; have HO353 := n1_; have HO359 := n2_; have HB := n3_; clear n0_ n1_ n2_ n3_; clear hb ho38; obtain ⟨Ao39, co39, eo39⟩ := Kd.R_slice HO359.out; subst eo39) | ((with_reducible refine gate_callee (f := 60) rfl ?_); refine goesL_ (some 153) rfl rfl Tryz.func60 (by kernel_rfl) rfl #[.string a3, .slice Ao39 y357.length co39] rfl mp_ ?_; (with_reducible refine (bodkinref07_index.calls k a3 _ _ y357 t360 _ ?side1 ?side2 A29.out).mono ?_); (case side1 => repeat (first | exact (Kd.R_reads' HO359.out).2.2 | (with_reducible refine Kd.C_alloc ?_ _) | (with_reducible refine Kd.C_drewN ?_ _) | (with_reducible refine Kd.C_drew ?_))); (case side2 => exact (Kd.R_reads' HO359.out).2.1); rintro e w' ⟨rfl, ⟨nd, rfl⟩⟩; refine ⟨_, rfl, ?_⟩) | ((with_reducible refine gate_callee (f := 66) rfl ?_); refine goesL_ (some 156) rfl rfl Tryz.func66 (by kernel_rfl) rfl #[.int .i64 a1, .int .i64 t360, .int .u64 a4, .int .u64 a5] rfl mp_ ?_; (with_reducible refine (bodkinref02_Bin.calls k a1 t360 a4 a5 t361 t362 _ A30.out).mono ?_); rintro e w40 ⟨rfl, hb⟩; refine ⟨_, rfl, ?_⟩; have n0_ := Aside0.mk (Kd.R_below (rl_ HO346) hb); have n1_ := Aside0.mk (Kd.R_below (rl_ HO353) hb); have n2_ := Aside0.mk (Kd.R_below (rl_ HO359) hb); have n3_ := Aside0.mk (below_step bl_ hb); clear HO346; clear HO353; clear HO359; clear HB; have HO346 := n0_; have HO353 := n1_; have HO359 := n2_; have HB := n3_; clear n0_ n1_ n2_ n3_; (try clear hb); (try clear hb2); (try clear hk); (try clear hi)))
        go_ret2
        exact ⟨er_, bl_⟩
end Go.Proofs.YtkhhhceeoljheaaGreatDoor.PInt

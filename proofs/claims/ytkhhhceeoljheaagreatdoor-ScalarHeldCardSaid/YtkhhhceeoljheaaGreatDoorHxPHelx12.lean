import Derived.Test.YtkhhhceeoljheaaGreatDoorHxPHelx10
import Derived.Test.YtkhhhceeoljheaaGreatDoorHxPHelx11
namespace Go.Proofs.YtkhhhceeoljheaaGreatDoor.PHel
open Go.RowKit Go.Proofs.YtkhhhceeoljheaaGreatDoorW.PrintWords Go.Proofs.YtkhhhceeoljheaaGreatDoorW.PrintLast Go.Proofs.YtkhhhceeoljheaaGreatDoorW.PrintMore
attribute [local go_sem] max2_int min2_int max_two min_two max_three min_three max_four min_four   
set_option linter.unusedVariables false
set_option linter.unusedSimpArgs false
mutual
def bodkinref05_Of.j0 : Nat → Int → ByteArray → Bool → Option (Int × ByteArray × Int × ByteArray × ByteArray × Bool)
 | 0, _, _, _ => none
 | k + 1, x0, x3, x13 => if x13 = true then ((bodkinref05_one.f x0).bind fun t253 => (bodkinref05_Of.j2 k x0 t253)) else (if x0 ≥ 64512 then (bodkinref05_Of.j1 k x0 x3 (decide (x0 < 64530))) else (bodkinref05_Of.j1 k x0 x3 false))
def bodkinref05_Of.j2 : Nat → Int → ByteArray → Option (Int × ByteArray × Int × ByteArray × ByteArray × Bool)
 | 0, _, _ => none
 | k + 1, x0, x3 => (bodkinref05_words.f k x3).bind fun t256 => (if (t256.length : Int) = 3 then (if 0 < (t256.length : Int) then (if 1 < (t256.length : Int) then ((bodkinref05_digits.f k (rdOf ByteArray.empty t256 1)).bind fun t267 => (if 2 < (t256.length : Int) then (if (rdOf ByteArray.empty t256 2).toList = ([63] : List UInt8) then (some (x0, rdOf ByteArray.empty t256 0, t267, (⟨#[]⟩ : ByteArray), (⟨#[]⟩ : ByteArray), false)) else (bodkinref05_Of.l0 k t256 false 0 x0 (rdOf ByteArray.empty t256 0) t267 (⟨#[]⟩ : ByteArray) (⟨#[]⟩ : ByteArray) true)) else (none))) else (none)) else (none)) else ((bodkinref05_none.f).bind fun bt259 => (some (bt259.1, bt259.2.1, bt259.2.2.1, bt259.2.2.2.1, bt259.2.2.2.2.1, bt259.2.2.2.2.2))))
def bodkinref05_Of.l0 : Nat → List ByteArray → Bool → Int → Int → ByteArray → Int → ByteArray → ByteArray → Bool → Option (Int × ByteArray × Int × ByteArray × ByteArray × Bool)
 | 0, _, _, _, _, _, _, _, _, _ => none
 | k + 1, x4, x6, x7, x269000, x269001, x269002, x269003, x269004, x269005 => if 2 < (x4.length : Int) then (if x7 < ((rdOf ByteArray.empty x4 2).size : Int) then (if 0 ≤ x7 then (if (bt (rdOf ByteArray.empty x4 2) x7) = 62 then (bodkinref05_Of.l0 k x4 true (wrap64 (x7 + 1)) x269000 x269001 x269002 x269003 x269004 x269005) else (if x6 = true then (if x7 ≤ (wrap64 (x7 + 1)) then (if (wrap64 (x7 + 1)) ≤ ((rdOf ByteArray.empty x4 2).size : Int) then (if x269004.size + ((rdOf ByteArray.empty x4 2).extract (x7 : Int).toNat ((wrap64 (x7 + 1)) : Int).toNat).size ≤ 9223372036854775807 then (bodkinref05_Of.l0 k x4 x6 (wrap64 (x7 + 1)) x269000 x269001 x269002 x269003 (x269004 ++ ((rdOf ByteArray.empty x4 2).extract (x7 : Int).toNat ((wrap64 (x7 + 1)) : Int).toNat)) x269005) else (none)) else (none)) else (none)) else (if x7 ≤ (wrap64 (x7 + 1)) then (if (wrap64 (x7 + 1)) ≤ ((rdOf ByteArray.empty x4 2).size : Int) then (if x269003.size + ((rdOf ByteArray.empty x4 2).extract (x7 : Int).toNat ((wrap64 (x7 + 1)) : Int).toNat).size ≤ 9223372036854775807 then (bodkinref05_Of.l0 k x4 x6 (wrap64 (x7 + 1)) x269000 x269001 x269002 (x269003 ++ ((rdOf ByteArray.empty x4 2).extract (x7 : Int).toNat ((wrap64 (x7 + 1)) : Int).toNat)) x269004 x269005) else (none)) else (none)) else (none)))) else (none)) else (some (x269000, x269001, x269002, x269003, x269004, x269005))) else (none)
def bodkinref05_Of.j1 : Nat → Int → ByteArray → Bool → Option (Int × ByteArray × Int × ByteArray × ByteArray × Bool)
 | 0, _, _, _ => none
 | k + 1, x0, x3, x21 => if x21 = true then ((bodkinref05_two.f (wrap64 (x0 - 64512))).bind fun t254 => (bodkinref05_Of.j2 k x0 t254)) else (if x0 ≥ 64768 then (if x0 < 65024 then ((bodkinref05_three.f (wrap64 (x0 - 64768))).bind fun t255 => (bodkinref05_Of.j2 k x0 t255)) else (bodkinref05_Of.j2 k x0 x3)) else (bodkinref05_Of.j2 k x0 x3))
end
def bodkinref05_Of.f (k : Nat) (a0 : Int) : Option (Int × ByteArray × Int × ByteArray × ByteArray × Bool) := if a0 ≥ 0 then (bodkinref05_Of.j0 k a0 (⟨#[]⟩ : ByteArray) (decide (a0 < 211))) else (bodkinref05_Of.j0 k a0 (⟨#[]⟩ : ByteArray) false)
theorem bodkinref05_Of.mono_l : ∀ k, (∀ y0 y1 y2, LeO (bodkinref05_Of.j0 k y0 y1 y2) (bodkinref05_Of.j0 (k + 1) y0 y1 y2)) ∧ (∀ y0 y1, LeO (bodkinref05_Of.j2 k y0 y1) (bodkinref05_Of.j2 (k + 1) y0 y1)) ∧ (∀ y0 y1 y2 y3 y4 y5 y6 y7 y8, LeO (bodkinref05_Of.l0 k y0 y1 y2 y3 y4 y5 y6 y7 y8) (bodkinref05_Of.l0 (k + 1) y0 y1 y2 y3 y4 y5 y6 y7 y8)) ∧ (∀ y0 y1 y2, LeO (bodkinref05_Of.j1 k y0 y1 y2) (bodkinref05_Of.j1 (k + 1) y0 y1 y2))
 | 0 => ⟨fun _ _ _ r h => by simp [bodkinref05_Of.j0] at h, fun _ _ r h => by simp [bodkinref05_Of.j2] at h, fun _ _ _ _ _ _ _ _ _ r h => by simp [bodkinref05_Of.l0] at h, fun _ _ _ r h => by simp [bodkinref05_Of.j1] at h⟩
 | k + 1 => by
  obtain ⟨ih0, ih1, ih2, ih3⟩ := bodkinref05_Of.mono_l k
  refine ⟨?_, ?_, ?_, ?_⟩
  ·intro y0 y1 y2
   unfold bodkinref05_Of.j0
   repeat' first
   | (with_reducible exact ih0 _ _ _)
   | (with_reducible exact ih1 _ _)
   | (with_reducible exact ih2 _ _ _ _ _ _ _ _ _)
   | (with_reducible exact ih3 _ _ _)
   | (with_reducible exact bodkinref05_digits.mono _ _)
   | (with_reducible exact bodkinref05_words.mono _ _)
   | (with_reducible exact LeO.refl _)
   | (with_reducible exact LeO.none _)
   | (with_reducible refine LeO.ite ?_ ?_)
   | (with_reducible refine LeO.bind ?_ (fun _ => ?_))
   | exact ih0 _ _ _
   | exact ih1 _ _
   | exact ih2 _ _ _ _ _ _ _ _ _
   | exact ih3 _ _ _
   | exact bodkinref05_digits.mono _ _
   | exact bodkinref05_words.mono _ _
   | exact LeO.none _
   | refine LeO.ite ?_ ?_
   | refine LeO.bind ?_ (fun _ => ?_)
  ·intro y0 y1
   unfold bodkinref05_Of.j2
   repeat' first
   | (with_reducible exact ih0 _ _ _)
   | (with_reducible exact ih1 _ _)
   | (with_reducible exact ih2 _ _ _ _ _ _ _ _ _)
   | (with_reducible exact ih3 _ _ _)
   | (with_reducible exact bodkinref05_digits.mono _ _)
   | (with_reducible exact bodkinref05_words.mono _ _)
   | (with_reducible exact LeO.refl _)
   | (with_reducible exact LeO.none _)
   | (with_reducible refine LeO.ite ?_ ?_)
   | (with_reducible refine LeO.bind ?_ (fun _ => ?_))
   | exact ih0 _ _ _
   | exact ih1 _ _
   | exact ih2 _ _ _ _ _ _ _ _ _
   | exact ih3 _ _ _
   | exact bodkinref05_digits.mono _ _
   | exact bodkinref05_words.mono _ _
   | exact LeO.none _
   | refine LeO.ite ?_ ?_
   | refine LeO.bind ?_ (fun _ => ?_)
  ·intro y0 y1 y2 y3 y4 y5 y6 y7 y8
   unfold bodkinref05_Of.l0
   repeat' first
   | (with_reducible exact ih0 _ _ _)
   | (with_reducible exact ih1 _ _)
   | (with_reducible exact ih2 _ _ _ _ _ _ _ _ _)
   | (with_reducible exact ih3 _ _ _)
   | (with_reducible exact bodkinref05_digits.mono _ _)
   | (with_reducible exact bodkinref05_words.mono _ _)
   | (with_reducible exact LeO.refl _)
   | (with_reducible exact LeO.none _)
   | (with_reducible refine LeO.ite ?_ ?_)
   | (with_reducible refine LeO.bind ?_ (fun _ => ?_))
   | exact ih0 _ _ _
   | exact ih1 _ _
   | exact ih2 _ _ _ _ _ _ _ _ _
   | exact ih3 _ _ _
   | exact bodkinref05_digits.mono _ _
   | exact bodkinref05_words.mono _ _
   | exact LeO.none _
   | refine LeO.ite ?_ ?_
   | refine LeO.bind ?_ (fun _ => ?_)
  ·intro y0 y1 y2
   unfold bodkinref05_Of.j1
   repeat' first
   | (with_reducible exact ih0 _ _ _)
   | (with_reducible exact ih1 _ _)
   | (with_reducible exact ih2 _ _ _ _ _ _ _ _ _)
   | (with_reducible exact ih3 _ _ _)
   | (with_reducible exact bodkinref05_digits.mono _ _)
   | (with_reducible exact bodkinref05_words.mono _ _)
   | (with_reducible exact LeO.refl _)
   | (with_reducible exact LeO.none _)
   | (with_reducible refine LeO.ite ?_ ?_)
   | (with_reducible refine LeO.bind ?_ (fun _ => ?_))
   | exact ih0 _ _ _
   | exact ih1 _ _
   | exact ih2 _ _ _ _ _ _ _ _ _
   | exact ih3 _ _ _
   | exact bodkinref05_digits.mono _ _
   | exact bodkinref05_words.mono _ _
   | exact LeO.none _
   | refine LeO.ite ?_ ?_
   | refine LeO.bind ?_ (fun _ => ?_)
theorem bodkinref05_Of.mono : ∀ a0 k, LeO (bodkinref05_Of.f k a0) (bodkinref05_Of.f (k + 1) a0) := by
 intro a0 k
 obtain ⟨ih0, ih1, ih2, ih3⟩ := bodkinref05_Of.mono_l k
 unfold bodkinref05_Of.f
 repeat' first
   | (with_reducible exact ih0 _ _ _)
   | (with_reducible exact ih1 _ _)
   | (with_reducible exact ih2 _ _ _ _ _ _ _ _ _)
   | (with_reducible exact ih3 _ _ _)
   | (with_reducible exact bodkinref05_digits.mono _ _)
   | (with_reducible exact bodkinref05_words.mono _ _)
   | (with_reducible exact LeO.refl _)
   | (with_reducible exact LeO.none _)
   | (with_reducible refine LeO.ite ?_ ?_)
   | (with_reducible refine LeO.bind ?_ (fun _ => ?_))
   | exact ih0 _ _ _
   | exact ih1 _ _
   | exact ih2 _ _ _ _ _ _ _ _ _
   | exact ih3 _ _ _
   | exact bodkinref05_digits.mono _ _
   | exact bodkinref05_words.mono _ _
   | exact LeO.none _
   | refine LeO.ite ?_ ?_
   | refine LeO.bind ?_ (fun _ => ?_)
def bodkinref05_Of.T11 : Bool × List (List Nat × List Nat) := (true, [([], []), ([], []), ([1], [1]), ([2], [2]), ([], []), ([4], [4]), ([5], [5]), ([6], [6]), ([0, 3, 7], [0, 3, 7]), ([], []), ([9, 8, 7, 0, 1, 2, 3, 4, 5, 6, 7, 8, 9], [8, 9])])
def bodkinref05_Of.B11 : List Nat := [0, 0, 2, 6, 0, 16, 48, 112, 255, 0, 1023]
theorem bodkinref05_Of.tab11 : rtab .any (opsOf Tryz.f13 11) = bodkinref05_Of.T11 := by kernel_rfl
theorem bodkinref05_Of.bits11 : waitsOk bodkinref05_Of.T11.2 bodkinref05_Of.B11 = true := by kernel_rfl
def bodkinref05_Of.T22 : Bool × List (List Nat × List Nat) := (true, [([], []), ([0], [0]), ([], []), ([2], [2]), ([3], [3]), ([], []), ([], []), ([6], [6]), ([4, 5, 7], [4, 5, 7]), ([1, 8], [1, 8]), ([0, 1, 2, 3, 4, 5, 6, 7, 8, 9], []), ([10, 9, 0, 1, 2, 3, 4, 5, 6, 7, 8, 9], [9, 10])])
def bodkinref05_Of.B22 : List Nat := [0, 1, 0, 4, 12, 0, 0, 64, 252, 511, 1023, 2047]
theorem bodkinref05_Of.tab22 : rtab .any (opsOf Tryz.f13 22) = bodkinref05_Of.T22 := by kernel_rfl
theorem bodkinref05_Of.bits22 : waitsOk bodkinref05_Of.T22.2 bodkinref05_Of.B22 = true := by kernel_rfl
def bodkinref05_Of.T23 : Bool × List (List Nat × List Nat) := (true, [([], []), ([0], [0]), ([], []), ([2], [2]), ([3], [3]), ([], []), ([], []), ([6], [6]), ([4, 5, 7], [4, 5, 7]), ([1, 8], [1, 8]), ([0, 1, 2, 3, 4, 5, 6, 7, 8, 9], []), ([10, 9, 0, 1, 2, 3, 4, 5, 6, 7, 8, 9], [9, 10])])
def bodkinref05_Of.B23 : List Nat := [0, 1, 0, 4, 12, 0, 0, 64, 252, 511, 1023, 2047]
theorem bodkinref05_Of.tab23 : rtab .any (opsOf Tryz.f13 23) = bodkinref05_Of.T23 := by kernel_rfl
theorem bodkinref05_Of.bits23 : waitsOk bodkinref05_Of.T23.2 bodkinref05_Of.B23 = true := by kernel_rfl
set_option maxHeartbeats 8000000 in
set_option maxRecDepth 100000 in
theorem bodkinref05_Of.calls (k : Nat) (a0 : Int) (r1 : Int) (r2 : ByteArray) (r3 : Int) (r4 : ByteArray) (r5 : ByteArray) (r6 : Bool) (w : World) (h : bodkinref05_Of.f k a0 = some (r1, r2, r3, r4, r5, r6)) (hG : GD w := by first | assumption | exact GD.below (by assumption) (by repeat (first | exact Aside0.out (by assumption) | exact Below.refl _ _ | assumption | apply below_alloc | apply pw_below_drewN | apply below_drew1 | refine below_set ?_ (Aside0.out (by assumption))))) :
  Calls Tryz.prog 13 #[.int .i64 a0] w fun e w' => e = .returned (.agg #[.int .i64 r1, .string r2, .int .i64 r3, .string r4, .string r5, .bool r6]) ∧ Below w.heap.size w w' := by
 have hu25 := Tryz.underlying25
 have HB := Aside0.mk (Below.refl w.heap.size w)
 have H : (if a0 ≥ 0 then (bodkinref05_Of.j0 k a0 (⟨#[]⟩ : ByteArray) (decide (a0 < 211))) else (bodkinref05_Of.j0 k a0 (⟨#[]⟩ : ByteArray) false)) = some (r1, r2, r3, r4, r5, r6) := h
 clear h
 have HC2 := Aside0.mk H
 clear H
 go_enter Tryz.func13, Tryz.ntmps13
 go_upto_region 2 with (first | ((with_reducible refine gate_dst (N := 2) rfl ?_); refine box_event ?hg (N := 2) ?hd (cs := #[.int .i64 0, .string (⟨#[]⟩ : ByteArray), .int .i64 0, .string (⟨#[]⟩ : ByteArray), .string (⟨#[]⟩ : ByteArray), .bool false]) (t := 25) ?hr ?_; (case hd => rfl); (case hg => rfl); (case hr => first | (go_simp; done) | (go_simp; rfl)); intro gb252 hg w3 hbox hb; have n0_ := Aside0.mk (below_step bl_ hb); have n1_ := Aside0.mk (hbox); have n2_ := Aside0.mk ((by rw [hg]; exact (below_size bl_) : w.heap.size ≤ gb252)); have n3_ := Aside0.mk ((by rw [hg]; exact (below_size bl_) : w.heap.size ≤ gb252)); clear HB; have HB := n0_; have BK252 := n1_; have GW252 := n2_; have GE252 := n3_; clear n0_ n1_ n2_ n3_; clear hb hbox hg))
 (try simp only [Act.put, List.setIfInBounds_toArray, List.set_cons_zero, List.set_cons_succ])
 go_cut [13] (fun v13 wc => ∃ (kq : Nat) (x13_1 : Bool), v13 = .bool x13_1 ∧ Aside0 (bodkinref05_Of.j0 kq a0 (⟨#[]⟩ : ByteArray) x13_1 = some (r1, r2, r3, r4, r5, r6)) ∧ Aside0 (kq ≤ k) ∧ Aside0 (wc.heap[gb252]? = some (.cells #[.int .i64 0, .string (⟨#[]⟩ : ByteArray), .int .i64 0, .string (⟨#[]⟩ : ByteArray), .string (⟨#[]⟩ : ByteArray), .bool false] 25 (0, 0))) ∧ Aside0 (Below w.heap.size w wc))
 case first =>
  have H := HC2.out
  clear HC2
  by_cases c4 : a0 ≥ 0
  ·rw [if_pos c4] at H
   have c4b0 : decide (0 ≤ a0) = true := decide_eq_true c4
   clear c4
   (first | rw [c4b0] | (simp only [i64_w, i32_w]; rw [c4b0]) | skip)
   have H' := Aside0.mk H
   clear H
   go_wp2
   go_meet
   case rel => exact ⟨_, (decide (a0 < 211)), rs_, H', ⟨by first | omega | exact Nat.le_refl _⟩, ⟨by (with_reducible repeat (first | refine blk_drewN ?_ _ | refine blk_drew ?_ | refine blk_alloc ?_ _)); exact BK252.out⟩, ⟨bs_⟩⟩
  ·rw [if_neg c4] at H
   have c4b0 : decide (0 ≤ a0) = false := decide_eq_false c4
   clear c4
   (first | rw [c4b0] | (simp only [i64_w, i32_w]; rw [c4b0]) | skip)
   have H' := Aside0.mk H
   clear H
   go_wp2
   go_meet
   case rel => exact ⟨_, (false), rs_, H', ⟨by first | omega | exact Nat.le_refl _⟩, ⟨by (with_reducible repeat (first | refine blk_drewN ?_ _ | refine blk_drew ?_ | refine blk_alloc ?_ _)); exact BK252.out⟩, ⟨bs_⟩⟩
 case rest =>
  clear HC2
  (try clear c1); (try clear p2); (try clear c4); (try clear c4b0)
  obtain ⟨kq, x13_1, rfl, HA, HJ1, BK252, HB⟩ := hcut
  cases kq with
  | zero => exact absurd HA.out (by simp [bodkinref05_Of.j0])
  | succ kj1 =>
   have H := HA.out
   clear HA
   simp only [bodkinref05_Of.j0] at H
   have HC5 := Aside0.mk H
   clear H
   go_upto_if 13 with (fail)
   go_cut [3] (fun v3 wc => ∃ (kq : Nat) (x3_4 : ByteArray), v3 = .string x3_4 ∧ Aside0 (bodkinref05_Of.j2 kq a0 x3_4 = some (r1, r2, r3, r4, r5, r6)) ∧ Aside0 (kq ≤ kj1) ∧ Aside0 (wc.heap[gb252]? = some (.cells #[.int .i64 0, .string (⟨#[]⟩ : ByteArray), .int .i64 0, .string (⟨#[]⟩ : ByteArray), .string (⟨#[]⟩ : ByteArray), .bool false] 25 (0, 0))) ∧ Aside0 (Below w.heap.size w wc))
   case first =>
    have H := HC5.out
    clear HC5
    by_cases c6 : x13_1 = true
    ·subst c6
     have H1 : ((bodkinref05_one.f a0).bind fun t253 => (bodkinref05_Of.j2 kj1 a0 t253)) = some (r1, r2, r3, r4, r5, r6) := by rw [if_pos rfl] at H; exact H
     clear H
     have H := H1
     clear H1
     replace H := Option.bind_eq_some_iff.mp H
     obtain ⟨t253, A70, H⟩ := H
     replace H : (bodkinref05_Of.j2 kj1 a0 t253) = some (r1, r2, r3, r4, r5, r6) := H
     have A7 := Aside0.mk A70
     clear A70
     have H' := Aside0.mk H
     clear H
     go_wp2_with (first | ((with_reducible refine gate_callee (f := 20) rfl ?_); refine goesL_ (some 15) rfl rfl Tryz.func20 (by kernel_rfl) rfl #[.int .i64 a0] rfl mp_ ?_; (with_reducible refine (bodkinref05_one.calls a0 t253 _ A7.out).mono ?_); rintro e w8 ⟨rfl, hb⟩; refine ⟨_, rfl, ?_⟩; have n0_ := Aside0.mk (blk_below (g := gb252) (o := .cells #[.int .i64 0, .string (⟨#[]⟩ : ByteArray), .int .i64 0, .string (⟨#[]⟩ : ByteArray), .string (⟨#[]⟩ : ByteArray), .bool false] 25 (0, 0)) (by (with_reducible repeat (first | refine blk_drewN ?_ _ | refine blk_drew ?_ | refine blk_alloc ?_ _)); exact BK252.out) hb); have n1_ := Aside0.mk (below_step bs_ hb); clear BK252; clear HB; have BK252 := n0_; have HB := n1_; clear n0_ n1_; (try clear hb); (try clear hb2); (try clear hk); (try clear hi)))
     go_meet
     case rel => exact ⟨_, (t253), rs_, H', ⟨by have := HJ1.out; first | omega | exact Nat.le_refl _⟩, ⟨by (with_reducible repeat (first | refine blk_drewN ?_ _ | refine blk_drew ?_ | refine blk_alloc ?_ _)); exact BK252.out⟩, ⟨bs_⟩⟩
    ·replace c6 := Bool.eq_false_iff.mpr c6
     subst c6
     have H1 : (if a0 ≥ 64512 then (bodkinref05_Of.j1 kj1 a0 (⟨#[]⟩ : ByteArray) (decide (a0 < 64530))) else (bodkinref05_Of.j1 kj1 a0 (⟨#[]⟩ : ByteArray) false)) = some (r1, r2, r3, r4, r5, r6) := by rw [if_neg (show ¬ (false = true) by decide)] at H; exact H
     clear H
     have H := H1
     clear H1
     have HC9 := Aside0.mk H
     clear H
     go_upto_region 4 with (fail)
     go_cut [21] (fun v21 wc => ∃ (kq : Nat) (x21_8 : Bool), v21 = .bool x21_8 ∧ Aside0 (bodkinref05_Of.j1 kq a0 (⟨#[]⟩ : ByteArray) x21_8 = some (r1, r2, r3, r4, r5, r6)) ∧ Aside0 (kq ≤ kj1) ∧ Aside0 (wc.heap[gb252]? = some (.cells #[.int .i64 0, .string (⟨#[]⟩ : ByteArray), .int .i64 0, .string (⟨#[]⟩ : ByteArray), .string (⟨#[]⟩ : ByteArray), .bool false] 25 (0, 0))) ∧ Aside0 (Below w.heap.size w wc))
     case first =>
      have H := HC9.out
      clear HC9
      by_cases c10 : a0 ≥ 64512
      ·rw [if_pos c10] at H
       have c10b0 : decide (64512 ≤ a0) = true := decide_eq_true c10
       clear c10
       (first | rw [c10b0] | (simp only [i64_w, i32_w]; rw [c10b0]) | skip)
       have H' := Aside0.mk H
       clear H
       go_wp2
       go_meet
       case rel => exact ⟨_, (decide (a0 < 64530)), rs_, H', ⟨by have := HJ1.out; first | omega | exact Nat.le_refl _⟩, ⟨by (with_reducible repeat (first | refine blk_drewN ?_ _ | refine blk_drew ?_ | refine blk_alloc ?_ _)); exact BK252.out⟩, ⟨bs_⟩⟩
      ·rw [if_neg c10] at H
       have c10b0 : decide (64512 ≤ a0) = false := decide_eq_false c10
       clear c10
       (first | rw [c10b0] | (simp only [i64_w, i32_w]; rw [c10b0]) | skip)
       have H' := Aside0.mk H
       clear H
       go_wp2
       go_meet
       case rel => exact ⟨_, (false), rs_, H', ⟨by have := HJ1.out; first | omega | exact Nat.le_refl _⟩, ⟨by (with_reducible repeat (first | refine blk_drewN ?_ _ | refine blk_drew ?_ | refine blk_alloc ?_ _)); exact BK252.out⟩, ⟨bs_⟩⟩
     case rest =>
      clear HC9
      (try clear c1); (try clear c2); (try clear p2); (try clear c4); (try clear c4b0); (try clear c6); (try clear c10); (try clear c10b0); (try clear p2)
      obtain ⟨kq, x21_8, rfl, HA, HJ8, BK252, HB⟩ := hcut
      cases kq with
      | zero => exact absurd HA.out (by simp [bodkinref05_Of.j1])
      | succ kj8 =>
       have H := HA.out
       clear HA
       simp only [bodkinref05_Of.j1] at H
       by_cases c11 : x21_8 = true
       ·subst c11
        have H1 : ((bodkinref05_two.f (wrap64 (a0 - 64512))).bind fun t254 => (bodkinref05_Of.j2 kj8 a0 t254)) = some (r1, r2, r3, r4, r5, r6) := by rw [if_pos rfl] at H; exact H
        clear H
        have H := H1
        clear H1
        replace H := Option.bind_eq_some_iff.mp H
        obtain ⟨t254, A120, H⟩ := H
        replace H : (bodkinref05_Of.j2 kj8 a0 t254) = some (r1, r2, r3, r4, r5, r6) := H
        have A12 := Aside0.mk A120
        clear A120
        have H' := Aside0.mk H
        clear H
        go_wp2_with (first | ((with_reducible refine gate_callee (f := 21) rfl ?_); refine goesL_ (some 24) rfl rfl Tryz.func21 (by kernel_rfl) rfl #[.int .i64 (wrap64 (a0 - 64512))] rfl mp_ ?_; (with_reducible refine (bodkinref05_two.calls (wrap64 (a0 - 64512)) t254 _ A12.out).mono ?_); rintro e w13 ⟨rfl, hb⟩; refine ⟨_, rfl, ?_⟩; have n0_ := Aside0.mk (blk_below (g := gb252) (o := .cells #[.int .i64 0, .string (⟨#[]⟩ : ByteArray), .int .i64 0, .string (⟨#[]⟩ : ByteArray), .string (⟨#[]⟩ : ByteArray), .bool false] 25 (0, 0)) (by (with_reducible repeat (first | refine blk_drewN ?_ _ | refine blk_drew ?_ | refine blk_alloc ?_ _)); exact BK252.out) hb); have n1_ := Aside0.mk (below_step bs_ hb); clear BK252; clear HB; have BK252 := n0_; have HB := n1_; clear n0_ n1_; (try clear hb); (try clear hb2); (try clear hk); (try clear hi)))
        go_meet
        case rel => exact ⟨_, (t254), rs_, H', ⟨by have := HJ1.out; have := HJ8.out; first | omega | exact Nat.le_refl _⟩, ⟨by (with_reducible repeat (first | refine blk_drewN ?_ _ | refine blk_drew ?_ | refine blk_alloc ?_ _)); exact BK252.out⟩, ⟨bs_⟩⟩
       ·replace c11 := Bool.eq_false_iff.mpr c11
        subst c11
        have H1 : (if a0 ≥ 64768 then (if a0 < 65024 then ((bodkinref05_three.f (wrap64 (a0 - 64768))).bind fun t255 => (bodkinref05_Of.j2 kj8 a0 t255)) else (bodkinref05_Of.j2 kj8 a0 (⟨#[]⟩ : ByteArray))) else (bodkinref05_Of.j2 kj8 a0 (⟨#[]⟩ : ByteArray))) = some (r1, r2, r3, r4, r5, r6) := by rw [if_neg (show ¬ (false = true) by decide)] at H; exact H
        clear H
        have H := H1
        clear H1
        by_cases c14 : a0 ≥ 64768
        ·rw [if_pos c14] at H
         have c14b0 : decide (64768 ≤ a0) = true := decide_eq_true c14
         clear c14
         by_cases c15 : a0 < 65024
         ·rw [if_pos c15] at H
          have c15b0 : decide (a0 < 65024) = true := decide_eq_true c15
          clear c15
          replace H := Option.bind_eq_some_iff.mp H
          obtain ⟨t255, A160, H⟩ := H
          replace H : (bodkinref05_Of.j2 kj8 a0 t255) = some (r1, r2, r3, r4, r5, r6) := H
          have A16 := Aside0.mk A160
          clear A160
          have H' := Aside0.mk H
          clear H
          go_wp2_with (first | ((with_reducible refine gate_callee (f := 22) rfl ?_); refine goesL_ (some 33) rfl rfl Tryz.func22 (by kernel_rfl) rfl #[.int .i64 (wrap64 (a0 - 64768))] rfl mp_ ?_; (with_reducible refine (bodkinref05_three.calls (wrap64 (a0 - 64768)) t255 _ A16.out).mono ?_); rintro e w17 ⟨rfl, hb⟩; refine ⟨_, rfl, ?_⟩; have n0_ := Aside0.mk (blk_below (g := gb252) (o := .cells #[.int .i64 0, .string (⟨#[]⟩ : ByteArray), .int .i64 0, .string (⟨#[]⟩ : ByteArray), .string (⟨#[]⟩ : ByteArray), .bool false] 25 (0, 0)) (by (with_reducible repeat (first | refine blk_drewN ?_ _ | refine blk_drew ?_ | refine blk_alloc ?_ _)); exact BK252.out) hb); have n1_ := Aside0.mk (below_step bs_ hb); clear BK252; clear HB; have BK252 := n0_; have HB := n1_; clear n0_ n1_; (try clear hb); (try clear hb2); (try clear hk); (try clear hi)))
          go_meet
          case rel => exact ⟨_, (t255), rs_, H', ⟨by have := HJ1.out; have := HJ8.out; first | omega | exact Nat.le_refl _⟩, ⟨by (with_reducible repeat (first | refine blk_drewN ?_ _ | refine blk_drew ?_ | refine blk_alloc ?_ _)); exact BK252.out⟩, ⟨bs_⟩⟩
         ·rw [if_neg c15] at H
          have c15b0 : decide (a0 < 65024) = false := decide_eq_false c15
          clear c15
          have H' := Aside0.mk H
          clear H
          go_wp2
          go_meet
          case rel => exact ⟨_, ((⟨#[]⟩ : ByteArray)), rs_, H', ⟨by have := HJ1.out; have := HJ8.out; first | omega | exact Nat.le_refl _⟩, ⟨by (with_reducible repeat (first | refine blk_drewN ?_ _ | refine blk_drew ?_ | refine blk_alloc ?_ _)); exact BK252.out⟩, ⟨bs_⟩⟩
        ·rw [if_neg c14] at H
         have c14b0 : decide (64768 ≤ a0) = false := decide_eq_false c14
         clear c14
         have H' := Aside0.mk H
         clear H
         go_wp2
         go_meet
         case rel => exact ⟨_, ((⟨#[]⟩ : ByteArray)), rs_, H', ⟨by have := HJ1.out; have := HJ8.out; first | omega | exact Nat.le_refl _⟩, ⟨by (with_reducible repeat (first | refine blk_drewN ?_ _ | refine blk_drew ?_ | refine blk_alloc ?_ _)); exact BK252.out⟩, ⟨bs_⟩⟩
   case rest =>
    clear HC5
    (try clear c1); (try clear c2); (try clear p2); (try clear c4); (try clear c4b0); (try clear c6); (try clear p6); (try clear c10); (try clear c10b0); (try clear c11); (try clear c13); (try clear c14); (try clear c14b0); (try clear c15); (try clear c15b0); (try clear p2)
    obtain ⟨kq, x3_4, rfl, HA, HJ4, BK252, HB⟩ := hcut
    cases kq with
    | zero => exact absurd HA.out (by simp [bodkinref05_Of.j2])
    | succ kj4 =>
     have H := HA.out
     clear HA
     simp only [bodkinref05_Of.j2] at H
     replace H := Option.bind_eq_some_iff.mp H
     obtain ⟨t256, A180, H⟩ := H
     replace H : (if (t256.length : Int) = 3 then (if 0 < (t256.length : Int) then (if 1 < (t256.length : Int) then ((bodkinref05_digits.f kj4 (rdOf ByteArray.empty t256 1)).bind fun t267 => (if 2 < (t256.length : Int) then (if (rdOf ByteArray.empty t256 2).toList = ([63] : List UInt8) then (some (a0, rdOf ByteArray.empty t256 0, t267, (⟨#[]⟩ : ByteArray), (⟨#[]⟩ : ByteArray), false)) else (bodkinref05_Of.l0 kj4 t256 false 0 a0 (rdOf ByteArray.empty t256 0) t267 (⟨#[]⟩ : ByteArray) (⟨#[]⟩ : ByteArray) true)) else (none))) else (none)) else (none)) else ((bodkinref05_none.f).bind fun bt259 => (some (bt259.1, bt259.2.1, bt259.2.2.1, bt259.2.2.2.1, bt259.2.2.2.2.1, bt259.2.2.2.2.2)))) = some (r1, r2, r3, r4, r5, r6) := H
     have A18 := Aside0.mk A180
     clear A180
     by_cases c19 : (t256.length : Int) = 3
     ·rw [if_pos c19] at H
      have c19b0 : ((t256.length : Int) == 3) = true := beq_iff_eq.mpr c19
      have c19b1 : ((t256.length : Int) != 3) = false := bne_eq_false_iff_eq.mpr c19
      clear c19
      by_cases c20 : 0 < (t256.length : Int)
      ·rw [if_pos c20] at H
       have c20b0 : decide (0 < (t256.length : Int)) = true := decide_eq_true c20
       have c20b1 : decide (0 < t256.length) = true := decide_eq_true (by omega)
       clear c20
       by_cases c21 : 1 < (t256.length : Int)
       ·rw [if_pos c21] at H
        have c21b0 : decide (1 < (t256.length : Int)) = true := decide_eq_true c21
        have c21b1 : decide (1 < t256.length) = true := decide_eq_true (by omega)
        clear c21
        replace H := Option.bind_eq_some_iff.mp H
        obtain ⟨t267, A220, H⟩ := H
        replace H : (if 2 < (t256.length : Int) then (if (rdOf ByteArray.empty t256 2).toList = ([63] : List UInt8) then (some (a0, rdOf ByteArray.empty t256 0, t267, (⟨#[]⟩ : ByteArray), (⟨#[]⟩ : ByteArray), false)) else (bodkinref05_Of.l0 kj4 t256 false 0 a0 (rdOf ByteArray.empty t256 0) t267 (⟨#[]⟩ : ByteArray) (⟨#[]⟩ : ByteArray) true)) else (none)) = some (r1, r2, r3, r4, r5, r6) := H
        have A22 := Aside0.mk A220
        clear A220
        by_cases c23 : 2 < (t256.length : Int)
        ·rw [if_pos c23] at H
         have c23b0 : decide (2 < (t256.length : Int)) = true := decide_eq_true c23
         have c23b1 : decide (2 < t256.length) = true := decide_eq_true (by omega)
         clear c23
         by_cases c24 : (rdOf ByteArray.empty t256 2).toList = ([63] : List UInt8)
         ·rw [if_pos c24] at H
          have c24b0 : ((rdOf ByteArray.empty t256 2).toList == ([63] : List UInt8)) = true := beq_iff_eq.mpr c24
          have c24b1 : ((rdOf ByteArray.empty t256 2).toList != ([63] : List UInt8)) = false := bne_eq_false_iff_eq.mpr c24
          clear c24
          simp only [Option.some.injEq, Prod.mk.injEq] at H
          obtain ⟨rfl, rfl, rfl, rfl, rfl, rfl⟩ := H
          try go_wp2_with (first | ((with_reducible refine gate_callee (f := 23) rfl ?_); refine goesL_ (some 35) rfl rfl Tryz.func23 (by kernel_rfl) rfl #[.string x3_4] rfl mp_ ?_; (with_reducible refine (bodkinref05_words.calls kj4 x3_4 t256 _ A18.out).mono ?_); rintro e w25 ⟨v257, rfl, ho0, hb⟩; refine ⟨_, rfl, ?_⟩; have n0_ := Aside0.mk (Kd.R_lower ho0 (below_size bs_)); have n1_ := Aside0.mk (blk_below (g := gb252) (o := .cells #[.int .i64 0, .string (⟨#[]⟩ : ByteArray), .int .i64 0, .string (⟨#[]⟩ : ByteArray), .string (⟨#[]⟩ : ByteArray), .bool false] 25 (0, 0)) (by (with_reducible repeat (first | refine blk_drewN ?_ _ | refine blk_drew ?_ | refine blk_alloc ?_ _)); exact BK252.out) hb); have n2_ := Aside0.mk (below_step bs_ hb); clear BK252; clear HB; have HO258 := n0_; have BK252 := n1_; have HB := n2_; clear n0_ n1_ n2_; (try clear hb); (try clear hb2); (try clear hk); (try clear hi); (try clear ho0); obtain ⟨Ao26, co26, eo26⟩ := Kd.R_slice HO258.out; subst eo26))
          have n0_ := Aside0.mk (Kd.R_drew HO258.out)
          have n1_ := Aside0.mk (blk_drew BK252.out)
          have n2_ := Aside0.mk (below_drew1 HB.out)
          clear HO258
          clear BK252
          clear HB
          have HO258 := n0_
          have BK252 := n1_
          have HB := n2_
          clear n0_ n1_ n2_
          have p265 : 0 ≤ (0 : Int) := (by omega)
          have q265 : 0 < (t256.length : Int) := od_
          try (obtain ⟨ga_, ca_, hva_, _, _⟩ := Kd.R_reads HO258.out; subst hva_)
          obtain ⟨ad265, e265, hx265_0⟩ := Kd.at_string (Kd.R_reads' HO258.out).2.2 0 p265 q265
          cases e265
          have qi265 : (0 < t256.length) = True := eq_true (by omega)
          (try rw [show ((0 : Int)).toNat = 0 from rfl] at hx265_0)
          (try rw [Addr.add_zero'] at hx265_0)
          replace p265 := eq_true p265
          replace q265 := eq_true q265
          have p266 : 0 ≤ (1 : Int) := (by omega)
          have q266 : 1 < (t256.length : Int) := od_
          try (obtain ⟨ga_, ca_, hva_, _, _⟩ := Kd.R_reads HO258.out; subst hva_)
          obtain ⟨ad266, e266, hx266_0⟩ := Kd.at_string (Kd.R_reads' HO258.out).2.2 1 p266 q266
          obtain rfl : ad265 = ad266 := (by injection e266)
          (try simp only [show (1 : Int).toNat = 1 from rfl, Nat.reduceMul, Nat.reduceEqDiff, Go.Addr.add, ↓reduceIte] at hx266_0)
          have qi266 : (1 < t256.length) = True := eq_true (by omega)
          (try rw [show ((1 : Int)).toNat = 1 from rfl] at hx266_0)
          replace p266 := eq_true p266
          replace q266 := eq_true q266
          refine start_ (n := 11) (S := fun w' => w'.cell? ad265 = some (.string (rdOf ByteArray.empty t256 0)) ∧ w'.cell? ⟨ad265.block, ad265.off + 1, none⟩ = some (.string (rdOf ByteArray.empty t256 1))) (ds := []) #[false, false, false, false, false, false, false, false, false, false, false] (by kernel_rfl) rfl rfl ⟨hx265_0, hx266_0⟩ (fun hHeld => ?_); refine with_tabW bodkinref05_Of.tab11 bodkinref05_Of.bits11 (fun HT_ HW_ => ?_)
          generalize w25.drew = w27 at HO258 BK252 HB hx265_0 hx266_0 hHeld ⊢
          refine pure_ (i := 0) (N := some 40) (v := ?_) (a' := ?_) #[true, false, false, false, false, false, false, false, false, false, false] rfl rfl (any_of HT_.out (by kernel_rfl)) (fun _ _ _ h => h) (Or.inl ⟨by rfl, ?_⟩) ?_ ?_
          rotate_left
          ·intro w'
           go_simp
           with_reducible rfl
          rotate_left
          ·simp only [Act.put, List.setIfInBounds_toArray, List.set_cons_zero, List.set_cons_succ, i64_w, i32_w]
           rfl
          refine pure_ (i := 1) (N := some 41) (v := ?_) (a' := ?_) #[true, true, false, false, false, false, false, false, false, false, false] rfl rfl (any_of HT_.out (by kernel_rfl)) (fun _ _ _ h => h) (Or.inl ⟨by rfl, ?_⟩) ?_ ?_
          rotate_left
          ·intro w'
           go_simp
           with_reducible rfl
          rotate_left
          ·simp only [Act.put, List.setIfInBounds_toArray, List.set_cons_zero, List.set_cons_succ, i64_w, i32_w]
           rfl
          refine pure_ (i := 2) (N := some 42) (v := ?_) (a' := ?_) #[true, true, true, false, false, false, false, false, false, false, false] rfl rfl (any_of HT_.out (by kernel_rfl)) (fun _ _ _ h => h) (Or.inl ⟨by rfl, ?_⟩) ?_ ?_
          rotate_left
          ·intro w'
           go_simp
           with_reducible rfl
          rotate_left
          ·simp only [Act.put, List.setIfInBounds_toArray, List.set_cons_zero, List.set_cons_succ, i64_w, i32_w]
           rfl
          refine pure_ (i := 4) (N := some 44) (v := ?_) (a' := ?_) #[true, true, true, false, true, false, false, false, false, false, false] rfl rfl (any_of HT_.out (by kernel_rfl)) (fun _ _ _ h => h) (Or.inl ⟨by rfl, ?_⟩) ?_ ?_
          rotate_left
          ·intro w'
           go_simp
           with_reducible rfl
          rotate_left
          ·simp only [Act.put, List.setIfInBounds_toArray, List.set_cons_zero, List.set_cons_succ, i64_w, i32_w]
           rfl
          refine pure_ (i := 5) (N := some 45) (v := ?_) (a' := ?_) #[true, true, true, false, true, true, false, false, false, false, false] rfl rfl (any_of HT_.out (by kernel_rfl)) (fun _ _ _ h => h) (Or.inl ⟨by rfl, ?_⟩) ?_ ?_
          rotate_left
          ·intro w'
           go_simp
           with_reducible rfl
          rotate_left
          ·simp only [Act.put, List.setIfInBounds_toArray, List.set_cons_zero, List.set_cons_succ, i64_w, i32_w]
           rfl
          refine take_ (i := 3) (N := some 43) (v := ?_) (a' := ?_) #[true, true, true, true, true, true, false, false, false, false, false] rfl rfl (take_ofW HT_.out HW_.out (by kernel_rfl)) (fun _ _ _ h => h) (Or.inl ⟨by rfl, ?_⟩) hHeld ?_ ?_
          rotate_left
          ·rintro w' ⟨s0, s1⟩
           go_simp
           with_reducible rfl
          rotate_left
          ·simp only [Act.put, List.setIfInBounds_toArray, List.set_cons_zero, List.set_cons_succ, i64_w, i32_w]
           rfl
          refine take_ (i := 6) (N := some 46) (v := ?_) (a' := ?_) #[true, true, true, true, true, true, true, false, false, false, false] rfl rfl (take_ofW HT_.out HW_.out (by kernel_rfl)) (fun _ _ _ h => h) (Or.inl ⟨by rfl, ?_⟩) hHeld ?_ ?_
          rotate_left
          ·rintro w' ⟨s0, s1⟩
           go_simp
           with_reducible rfl
          rotate_left
          ·simp only [Act.put, List.setIfInBounds_toArray, List.set_cons_zero, List.set_cons_succ, i64_w, i32_w]
           rfl
          refine join_ (σ := Nat) 1 #[true, true, true, true, true, true, true, true, true, true, false] (fun s_ => [(47, .int .i64 t267), (5, .pointer (some ⟨s_, 0, none⟩)), (48, .agg #[.int .i64 a0, .string (rdOf ByteArray.empty t256 0), .int .i64 t267, .string (⟨#[]⟩ : ByteArray), .string (⟨#[]⟩ : ByteArray), .bool false])]) (fun s_ w' => (w'.cell? ad265 = some (.string (rdOf ByteArray.empty t256 0)) ∧ w'.cell? ⟨ad265.block, ad265.off + 1, none⟩ = some (.string (rdOf ByteArray.empty t256 1))) ∧ (Kd.R Kd.string 9 w' w.heap.size (fun _ => True) (.slice (some ad265) t256.length co26) t256) ∧ (w'.heap[gb252]? = some (.cells #[.int .i64 0, .string (⟨#[]⟩ : ByteArray), .int .i64 0, .string (⟨#[]⟩ : ByteArray), .string (⟨#[]⟩ : ByteArray), .bool false] 25 (0, 0))) ∧ (w'.heap[s_]? = some (.cells #[.int .i64 0, .string (⟨#[]⟩ : ByteArray), .int .i64 0, .string (⟨#[]⟩ : ByteArray), .string (⟨#[]⟩ : ByteArray), .bool false] 25 (0, 0))) ∧ (w.heap.size ≤ s_) ∧ (w.heap.size ≤ s_) ∧ (gb252 ≠ s_) ∧ (s_ ≠ gb252) ∧ (Below w.heap.size w w')) ?_ ?_
          rotate_left
          ·intro hCont
           refine two_ (i := 7) (j := 9) (Ni := some 47) (Nj := some 5) #[true, true, true, true, true, true, true, true, false, false, false] #[true, true, true, true, true, true, true, false, false, true, false] rfl rfl rfl rfl (two_of HT_.out (by kernel_rfl)) (by decide) (by decide) (fun K hK => ?_) (fun K hK => ?_)
           ·skip
            refine goes_ Tryz.func25 (by kernel_rfl) rfl #[.string (rdOf ByteArray.empty t256 1)] (by rfl) rfl rfl mp_ ?_
            with_reducible refine (bodkinref05_digits.calls kj4 (rdOf ByteArray.empty t256 1) t267 _ A22.out).mono ?_
            rintro e w' ⟨rfl, ⟨nd, rfl⟩⟩
            refine ⟨_, rfl, ?_⟩
            refine hK.out _ _ ⟨hHeld.1, hHeld.2⟩ (fun hHeld => ?_)
            clear hK K
            refine norm_ (a' := ?_) ?_ ?_
            rotate_left
            ·show Act.put _ (some 47) _ = _
             simp only [Act.put, List.setIfInBounds_toArray, List.set_cons_zero, List.set_cons_succ, i64_w, i32_w]
             rfl
            refine pure_ (i := 8) (N := some 48) (v := ?_) (a' := ?_) #[true, true, true, true, true, true, true, true, true, false, false] rfl rfl (any_of HT_.out (by kernel_rfl)) (fun _ _ _ h => h) (Or.inl ⟨by rfl, ?_⟩) ?_ ?_
            rotate_left
            ·intro w'
             go_simp
             with_reducible rfl
            rotate_left
            ·simp only [Act.put, List.setIfInBounds_toArray, List.set_cons_zero, List.set_cons_succ, i64_w, i32_w]
             rfl
            refine one_ (i := 9) (N := some 5) #[true, true, true, true, true, true, true, true, true, true, false] rfl rfl (one_of HT_.out (by kernel_rfl)) (by decide) (fun K hK => ?_)
            refine box_step ?hg (N := 5) ?hd (cs := #[.int .i64 0, .string (⟨#[]⟩ : ByteArray), .int .i64 0, .string (⟨#[]⟩ : ByteArray), .string (⟨#[]⟩ : ByteArray), .bool false]) (t := 25) ?hr ?_; (case hd => rfl); (case hg => rfl); (case hr => first | (go_simp; done) | (go_simp; rfl))
            intro gb268 hg w28 hbox hb
            have HS0_ := (hb.cell (World.block_lt_of_cell? _ _ (hHeld.1))).trans (hHeld.1)
            have HS1_ := (hb.cell (World.block_lt_of_cell? _ _ (hHeld.2))).trans (hHeld.2)
            have n0_ := Aside0.mk (Kd.R_below (rl_ HO258) hb)
            have n1_ := Aside0.mk (blk_below (g := gb252) (o := .cells #[.int .i64 0, .string (⟨#[]⟩ : ByteArray), .int .i64 0, .string (⟨#[]⟩ : ByteArray), .string (⟨#[]⟩ : ByteArray), .bool false] 25 (0, 0)) (by (with_reducible repeat (first | refine blk_drewN ?_ _ | refine blk_drew ?_ | refine blk_alloc ?_ _)); exact BK252.out) hb)
            have n2_ := Aside0.mk (below_step bs_ hb)
            have n3_ := Aside0.mk (hbox)
            have n4_ := Aside0.mk ((by rw [hg]; exact (below_size bs_) : w.heap.size ≤ gb268))
            have n5_ := Aside0.mk ((by rw [hg]; exact (below_size bs_) : w.heap.size ≤ gb268))
            have n6_ := Aside0.mk ((by rw [hg]; exact Nat.ne_of_lt (blk_lt (g := gb252) (o := .cells #[.int .i64 0, .string (⟨#[]⟩ : ByteArray), .int .i64 0, .string (⟨#[]⟩ : ByteArray), .string (⟨#[]⟩ : ByteArray), .bool false] 25 (0, 0)) (by (with_reducible repeat (first | refine blk_drewN ?_ _ | refine blk_drew ?_ | refine blk_alloc ?_ _)); exact BK252.out)) : gb252 ≠ gb268))
            have n7_ := Aside0.mk ((by rw [hg]; exact Nat.ne_of_gt (blk_lt (g := gb252) (o := .cells #[.int .i64 0, .string (⟨#[]⟩ : ByteArray), .int .i64 0, .string (⟨#[]⟩ : ByteArray), .string (⟨#[]⟩ : ByteArray), .bool false] 25 (0, 0)) (by (with_reducible repeat (first | refine blk_drewN ?_ _ | refine blk_drew ?_ | refine blk_alloc ?_ _)); exact BK252.out)) : gb268 ≠ gb252))
            clear HO258
            clear BK252
            clear HB
            have HO258 := n0_
            have BK252 := n1_
            have HB := n2_
            have BK268 := n3_
            have GW268 := n4_
            have GE268 := n5_
            have NB252_268 := n6_
            have NB268_252 := n7_
            clear n0_ n1_ n2_ n3_ n4_ n5_ n6_ n7_
            clear hb hbox hg
            refine hK.out _ _ ⟨HS0_, HS1_⟩ (fun hHeld => ?_)
            clear hK K
            refine norm_ (a' := ?_) ?_ ?_
            rotate_left
            ·show Act.put _ (some 5) _ = _
             simp only [Act.put, List.setIfInBounds_toArray, List.set_cons_zero, List.set_cons_succ, i64_w, i32_w]
             rfl
            exact norm_ (by simp only [putAll, Act.put, List.setIfInBounds_toArray, List.set_cons_zero, List.set_cons_succ]) (hCont (gb268) _ ⟨hHeld, (rl_ HO258), (by (with_reducible repeat (first | refine blk_drewN ?_ _ | refine blk_drew ?_ | refine blk_alloc ?_ _)); exact BK252.out), (by (with_reducible repeat (first | refine blk_drewN ?_ _ | refine blk_drew ?_ | refine blk_alloc ?_ _)); exact BK268.out), GW268.out, GE268.out, NB252_268.out, NB268_252.out, bs_⟩)
           ·skip
            refine box_step ?hg (N := 5) ?hd (cs := #[.int .i64 0, .string (⟨#[]⟩ : ByteArray), .int .i64 0, .string (⟨#[]⟩ : ByteArray), .string (⟨#[]⟩ : ByteArray), .bool false]) (t := 25) ?hr ?_; (case hd => rfl); (case hg => rfl); (case hr => first | (go_simp; done) | (go_simp; rfl))
            intro gb268 hg w28 hbox hb
            have HS0_ := (hb.cell (World.block_lt_of_cell? _ _ (hHeld.1))).trans (hHeld.1)
            have HS1_ := (hb.cell (World.block_lt_of_cell? _ _ (hHeld.2))).trans (hHeld.2)
            have n0_ := Aside0.mk (Kd.R_below (rl_ HO258) hb)
            have n1_ := Aside0.mk (blk_below (g := gb252) (o := .cells #[.int .i64 0, .string (⟨#[]⟩ : ByteArray), .int .i64 0, .string (⟨#[]⟩ : ByteArray), .string (⟨#[]⟩ : ByteArray), .bool false] 25 (0, 0)) (by (with_reducible repeat (first | refine blk_drewN ?_ _ | refine blk_drew ?_ | refine blk_alloc ?_ _)); exact BK252.out) hb)
            have n2_ := Aside0.mk (below_step bs_ hb)
            have n3_ := Aside0.mk (hbox)
            have n4_ := Aside0.mk ((by rw [hg]; exact (below_size bs_) : w.heap.size ≤ gb268))
            have n5_ := Aside0.mk ((by rw [hg]; exact (below_size bs_) : w.heap.size ≤ gb268))
            have n6_ := Aside0.mk ((by rw [hg]; exact Nat.ne_of_lt (blk_lt (g := gb252) (o := .cells #[.int .i64 0, .string (⟨#[]⟩ : ByteArray), .int .i64 0, .string (⟨#[]⟩ : ByteArray), .string (⟨#[]⟩ : ByteArray), .bool false] 25 (0, 0)) (by (with_reducible repeat (first | refine blk_drewN ?_ _ | refine blk_drew ?_ | refine blk_alloc ?_ _)); exact BK252.out)) : gb252 ≠ gb268))
            have n7_ := Aside0.mk ((by rw [hg]; exact Nat.ne_of_gt (blk_lt (g := gb252) (o := .cells #[.int .i64 0, .string (⟨#[]⟩ : ByteArray), .int .i64 0, .string (⟨#[]⟩ : ByteArray), .string (⟨#[]⟩ : ByteArray), .bool false] 25 (0, 0)) (by (with_reducible repeat (first | refine blk_drewN ?_ _ | refine blk_drew ?_ | refine blk_alloc ?_ _)); exact BK252.out)) : gb268 ≠ gb252))
            clear HO258
            clear BK252
            clear HB
            have HO258 := n0_
            have BK252 := n1_
            have HB := n2_
            have BK268 := n3_
            have GW268 := n4_
            have GE268 := n5_
            have NB252_268 := n6_
            have NB268_252 := n7_
            clear n0_ n1_ n2_ n3_ n4_ n5_ n6_ n7_
            clear hb hbox hg
            refine hK.out _ _ ⟨HS0_, HS1_⟩ (fun hHeld => ?_)
            clear hK K
            refine norm_ (a' := ?_) ?_ ?_
            rotate_left
            ·show Act.put _ (some 5) _ = _
             simp only [Act.put, List.setIfInBounds_toArray, List.set_cons_zero, List.set_cons_succ, i64_w, i32_w]
             rfl
            refine one_ (i := 7) (N := some 47) #[true, true, true, true, true, true, true, true, false, true, false] rfl rfl (one_of HT_.out (by kernel_rfl)) (by decide) (fun K hK => ?_)
            refine goes_ Tryz.func25 (by kernel_rfl) rfl #[.string (rdOf ByteArray.empty t256 1)] (by rfl) rfl rfl mp_ ?_
            with_reducible refine (bodkinref05_digits.calls kj4 (rdOf ByteArray.empty t256 1) t267 _ A22.out).mono ?_
            rintro e w' ⟨rfl, ⟨nd, rfl⟩⟩
            refine ⟨_, rfl, ?_⟩
            refine hK.out _ _ ⟨hHeld.1, hHeld.2⟩ (fun hHeld => ?_)
            clear hK K
            refine norm_ (a' := ?_) ?_ ?_
            rotate_left
            ·show Act.put _ (some 47) _ = _
             simp only [Act.put, List.setIfInBounds_toArray, List.set_cons_zero, List.set_cons_succ, i64_w, i32_w]
             rfl
            refine pure_ (i := 8) (N := some 48) (v := ?_) (a' := ?_) #[true, true, true, true, true, true, true, true, true, true, false] rfl rfl (any_of HT_.out (by kernel_rfl)) (fun _ _ _ h => h) (Or.inl ⟨by rfl, ?_⟩) ?_ ?_
            rotate_left
            ·intro w'
             go_simp
             with_reducible rfl
            rotate_left
            ·simp only [Act.put, List.setIfInBounds_toArray, List.set_cons_zero, List.set_cons_succ, i64_w, i32_w]
             rfl
            exact norm_ (by simp only [putAll, Act.put, List.setIfInBounds_toArray, List.set_cons_zero, List.set_cons_succ]) (hCont (gb268) _ ⟨hHeld, (rl_ HO258), (by (with_reducible repeat (first | refine blk_drewN ?_ _ | refine blk_drew ?_ | refine blk_alloc ?_ _)); exact BK252.out), (by (with_reducible repeat (first | refine blk_drewN ?_ _ | refine blk_drew ?_ | refine blk_alloc ?_ _)); exact BK268.out), GW268.out, GE268.out, NB252_268.out, NB268_252.out, bs_⟩)
          rintro gb268 w29 ⟨hS_, h0_, h1_, h2_, h3_, h4_, h5_, h6_, h7_⟩
          have n0_ : Aside0 (Kd.R Kd.string 9 w29 w.heap.size (fun _ => True) (.slice (some ad265) t256.length co26) t256) := ⟨h0_⟩
          have n1_ : Aside0 (w29.heap[gb252]? = some (.cells #[.int .i64 0, .string (⟨#[]⟩ : ByteArray), .int .i64 0, .string (⟨#[]⟩ : ByteArray), .string (⟨#[]⟩ : ByteArray), .bool false] 25 (0, 0))) := ⟨h1_⟩
          have n2_ : Aside0 (w29.heap[gb268]? = some (.cells #[.int .i64 0, .string (⟨#[]⟩ : ByteArray), .int .i64 0, .string (⟨#[]⟩ : ByteArray), .string (⟨#[]⟩ : ByteArray), .bool false] 25 (0, 0))) := ⟨h2_⟩
          have n3_ : Aside0 (w.heap.size ≤ gb268) := ⟨h3_⟩
          have n4_ : Aside0 (w.heap.size ≤ gb268) := ⟨h4_⟩
          have n5_ : Aside0 (gb252 ≠ gb268) := ⟨h5_⟩
          have n6_ : Aside0 (gb268 ≠ gb252) := ⟨h6_⟩
          have n7_ : Aside0 (Below w.heap.size w w29) := ⟨h7_⟩
          clear HO258
          clear BK252
          clear HB
          clear h0_ h1_ h2_ h3_ h4_ h5_ h6_ h7_
          have HO258 := n0_
          have BK252 := n1_
          have BK268 := n2_
          have GW268 := n3_
          have GE268 := n4_
          have NB252_268 := n5_
          have NB268_252 := n6_
          have HB := n7_
          clear n0_ n1_ n2_ n3_ n4_ n5_ n6_ n7_
          have hHeld : w29.cell? ad265 = some (.string (rdOf ByteArray.empty t256 0)) ∧ w29.cell? ⟨ad265.block, ad265.off + 1, none⟩ = some (.string (rdOf ByteArray.empty t256 1)) := hS_
          refine norm_ (a' := ?_) ?_ ?_
          rotate_left
          ·simp only [putAll, Act.put, List.setIfInBounds_toArray, List.set_cons_zero, List.set_cons_succ]
           rfl
          refine one_ (i := 10) (N := none) #[true, true, true, true, true, true, true, true, true, true, true] rfl rfl (one_of HT_.out (by kernel_rfl)) (by decide) (fun K hK => ?_)
          have hs30 : w29.cell? ⟨gb268, 0, none⟩ = some (.int .i64 0) := (blk_cell BK268.out 0).trans rfl
          have hfs30 := blk_frozen BK268.out 0
          have hns30_0 := NB252_268.out
          have hms30_0 := NB268_252.out
          have hs31 : w29.cell? ⟨gb268, 1, none⟩ = some (.string (⟨#[]⟩ : ByteArray)) := (blk_cell BK268.out 1).trans rfl
          have hfs31 := blk_frozen BK268.out 1
          have hns31_0 := NB252_268.out
          have hms31_0 := NB268_252.out
          have hs32 : w29.cell? ⟨gb268, 2, none⟩ = some (.int .i64 0) := (blk_cell BK268.out 2).trans rfl
          have hfs32 := blk_frozen BK268.out 2
          have hns32_0 := NB252_268.out
          have hms32_0 := NB268_252.out
          have hs33 : w29.cell? ⟨gb268, 3, none⟩ = some (.string (⟨#[]⟩ : ByteArray)) := (blk_cell BK268.out 3).trans rfl
          have hfs33 := blk_frozen BK268.out 3
          have hns33_0 := NB252_268.out
          have hms33_0 := NB268_252.out
          have hs34 : w29.cell? ⟨gb268, 4, none⟩ = some (.string (⟨#[]⟩ : ByteArray)) := (blk_cell BK268.out 4).trans rfl
          have hfs34 := blk_frozen BK268.out 4
          have hns34_0 := NB252_268.out
          have hms34_0 := NB268_252.out
          have hs35 : w29.cell? ⟨gb268, 5, none⟩ = some (.bool false) := (blk_cell BK268.out 5).trans rfl
          have hfs35 := blk_frozen BK268.out 5
          have hns35_0 := NB252_268.out
          have hms35_0 := NB268_252.out
          refine skip_ (w1 := ?_) (by rfl) rfl ?_ ?_
          rotate_left
          ·go_simp
           rfl
          refine hK.out _ _ ⟨((cell_far (p := ⟨gb268, _, none⟩) (by first | exact Kd.own_blk (Kd.R_ne HO258.out BK268.out (by decide)) | (rw [add_block]; exact Kd.own_blk (Kd.R_ne HO258.out BK268.out (by decide))) | (show (Addr.add _ _).block ≠ _; rw [add_block]; exact Kd.own_blk (Kd.R_ne HO258.out BK268.out (by decide))) | (dsimp only; exact Kd.own_blk (Kd.R_ne HO258.out BK268.out (by decide)))) _).trans (((cell_far (p := ⟨gb268, _, none⟩) (by first | exact Kd.own_blk (Kd.R_ne HO258.out BK268.out (by decide)) | (rw [add_block]; exact Kd.own_blk (Kd.R_ne HO258.out BK268.out (by decide))) | (show (Addr.add _ _).block ≠ _; rw [add_block]; exact Kd.own_blk (Kd.R_ne HO258.out BK268.out (by decide))) | (dsimp only; exact Kd.own_blk (Kd.R_ne HO258.out BK268.out (by decide)))) _).trans (((cell_far (p := ⟨gb268, _, none⟩) (by first | exact Kd.own_blk (Kd.R_ne HO258.out BK268.out (by decide)) | (rw [add_block]; exact Kd.own_blk (Kd.R_ne HO258.out BK268.out (by decide))) | (show (Addr.add _ _).block ≠ _; rw [add_block]; exact Kd.own_blk (Kd.R_ne HO258.out BK268.out (by decide))) | (dsimp only; exact Kd.own_blk (Kd.R_ne HO258.out BK268.out (by decide)))) _).trans (((cell_far (p := ⟨gb268, _, none⟩) (by first | exact Kd.own_blk (Kd.R_ne HO258.out BK268.out (by decide)) | (rw [add_block]; exact Kd.own_blk (Kd.R_ne HO258.out BK268.out (by decide))) | (show (Addr.add _ _).block ≠ _; rw [add_block]; exact Kd.own_blk (Kd.R_ne HO258.out BK268.out (by decide))) | (dsimp only; exact Kd.own_blk (Kd.R_ne HO258.out BK268.out (by decide)))) _).trans (((cell_far (p := ⟨gb268, _, none⟩) (by first | exact Kd.own_blk (Kd.R_ne HO258.out BK268.out (by decide)) | (rw [add_block]; exact Kd.own_blk (Kd.R_ne HO258.out BK268.out (by decide))) | (show (Addr.add _ _).block ≠ _; rw [add_block]; exact Kd.own_blk (Kd.R_ne HO258.out BK268.out (by decide))) | (dsimp only; exact Kd.own_blk (Kd.R_ne HO258.out BK268.out (by decide)))) _).trans (((cell_far (p := ⟨gb268, _, none⟩) (by first | exact Kd.own_blk (Kd.R_ne HO258.out BK268.out (by decide)) | (rw [add_block]; exact Kd.own_blk (Kd.R_ne HO258.out BK268.out (by decide))) | (show (Addr.add _ _).block ≠ _; rw [add_block]; exact Kd.own_blk (Kd.R_ne HO258.out BK268.out (by decide))) | (dsimp only; exact Kd.own_blk (Kd.R_ne HO258.out BK268.out (by decide)))) _).trans (hHeld.1)))))))))))), ((cell_far (p := ⟨gb268, _, none⟩) (by first | exact Kd.own_blk (Kd.R_ne HO258.out BK268.out (by decide)) | (rw [add_block]; exact Kd.own_blk (Kd.R_ne HO258.out BK268.out (by decide))) | (show (Addr.add _ _).block ≠ _; rw [add_block]; exact Kd.own_blk (Kd.R_ne HO258.out BK268.out (by decide))) | (dsimp only; exact Kd.own_blk (Kd.R_ne HO258.out BK268.out (by decide)))) _).trans (((cell_far (p := ⟨gb268, _, none⟩) (by first | exact Kd.own_blk (Kd.R_ne HO258.out BK268.out (by decide)) | (rw [add_block]; exact Kd.own_blk (Kd.R_ne HO258.out BK268.out (by decide))) | (show (Addr.add _ _).block ≠ _; rw [add_block]; exact Kd.own_blk (Kd.R_ne HO258.out BK268.out (by decide))) | (dsimp only; exact Kd.own_blk (Kd.R_ne HO258.out BK268.out (by decide)))) _).trans (((cell_far (p := ⟨gb268, _, none⟩) (by first | exact Kd.own_blk (Kd.R_ne HO258.out BK268.out (by decide)) | (rw [add_block]; exact Kd.own_blk (Kd.R_ne HO258.out BK268.out (by decide))) | (show (Addr.add _ _).block ≠ _; rw [add_block]; exact Kd.own_blk (Kd.R_ne HO258.out BK268.out (by decide))) | (dsimp only; exact Kd.own_blk (Kd.R_ne HO258.out BK268.out (by decide)))) _).trans (((cell_far (p := ⟨gb268, _, none⟩) (by first | exact Kd.own_blk (Kd.R_ne HO258.out BK268.out (by decide)) | (rw [add_block]; exact Kd.own_blk (Kd.R_ne HO258.out BK268.out (by decide))) | (show (Addr.add _ _).block ≠ _; rw [add_block]; exact Kd.own_blk (Kd.R_ne HO258.out BK268.out (by decide))) | (dsimp only; exact Kd.own_blk (Kd.R_ne HO258.out BK268.out (by decide)))) _).trans (((cell_far (p := ⟨gb268, _, none⟩) (by first | exact Kd.own_blk (Kd.R_ne HO258.out BK268.out (by decide)) | (rw [add_block]; exact Kd.own_blk (Kd.R_ne HO258.out BK268.out (by decide))) | (show (Addr.add _ _).block ≠ _; rw [add_block]; exact Kd.own_blk (Kd.R_ne HO258.out BK268.out (by decide))) | (dsimp only; exact Kd.own_blk (Kd.R_ne HO258.out BK268.out (by decide)))) _).trans (((cell_far (p := ⟨gb268, _, none⟩) (by first | exact Kd.own_blk (Kd.R_ne HO258.out BK268.out (by decide)) | (rw [add_block]; exact Kd.own_blk (Kd.R_ne HO258.out BK268.out (by decide))) | (show (Addr.add _ _).block ≠ _; rw [add_block]; exact Kd.own_blk (Kd.R_ne HO258.out BK268.out (by decide))) | (dsimp only; exact Kd.own_blk (Kd.R_ne HO258.out BK268.out (by decide)))) _).trans (hHeld.2))))))))))))⟩ (fun hHeld => ?_)
          clear hK K
          refine done_ (done_of HT_.out (by kernel_rfl)) ?_
          have p269 : 0 ≤ (2 : Int) := (by omega)
          have q269 : 2 < (t256.length : Int) := od_
          try (obtain ⟨ga_, ca_, hva_, _, _⟩ := Kd.R_reads HO258.out; subst hva_)
          obtain ⟨ad269, e269, hx269_0⟩ := Kd.at_string (Kd.R_reads' HO258.out).2.2 2 p269 q269
          obtain rfl : ad265 = ad269 := (by injection e269)
          (try simp only [show (2 : Int).toNat = 2 from rfl, Nat.reduceMul, Nat.reduceEqDiff, Go.Addr.add, ↓reduceIte] at hx269_0)
          have qi269 : (2 < t256.length) = True := eq_true (by omega)
          (try rw [show ((2 : Int)).toNat = 2 from rfl] at hx269_0)
          have hn269_0 : ad265.block ≠ gb268 := Kd.own_blk (Kd.R_ne HO258.out BK268.out (by decide))
          have hn269_1 : ad265.block ≠ gb268 := Kd.own_blk (Kd.R_ne HO258.out BK268.out (by decide))
          have hn269_2 : ad265.block ≠ gb268 := Kd.own_blk (Kd.R_ne HO258.out BK268.out (by decide))
          have hn269_3 : ad265.block ≠ gb268 := Kd.own_blk (Kd.R_ne HO258.out BK268.out (by decide))
          have hn269_4 : ad265.block ≠ gb268 := Kd.own_blk (Kd.R_ne HO258.out BK268.out (by decide))
          have hn269_5 : ad265.block ≠ gb268 := Kd.own_blk (Kd.R_ne HO258.out BK268.out (by decide))
          replace hx269_0 := (cell_far (p := ⟨gb268, 0, none⟩) (by first | (rw [add_block]; exact hn269_0) | (show (Addr.add _ _).block ≠ _; rw [add_block]; exact hn269_0) | exact hn269_0) (.int .i64 a0)).trans hx269_0
          replace hx269_0 := (cell_far (p := ⟨gb268, 1, none⟩) (by first | (rw [add_block]; exact hn269_1) | (show (Addr.add _ _).block ≠ _; rw [add_block]; exact hn269_1) | exact hn269_1) (.string (rdOf ByteArray.empty t256 0))).trans hx269_0
          replace hx269_0 := (cell_far (p := ⟨gb268, 2, none⟩) (by first | (rw [add_block]; exact hn269_2) | (show (Addr.add _ _).block ≠ _; rw [add_block]; exact hn269_2) | exact hn269_2) (.int .i64 t267)).trans hx269_0
          replace hx269_0 := (cell_far (p := ⟨gb268, 3, none⟩) (by first | (rw [add_block]; exact hn269_3) | (show (Addr.add _ _).block ≠ _; rw [add_block]; exact hn269_3) | exact hn269_3) (.string (⟨#[]⟩ : ByteArray))).trans hx269_0
          replace hx269_0 := (cell_far (p := ⟨gb268, 4, none⟩) (by first | (rw [add_block]; exact hn269_4) | (show (Addr.add _ _).block ≠ _; rw [add_block]; exact hn269_4) | exact hn269_4) (.string (⟨#[]⟩ : ByteArray))).trans hx269_0
          replace hx269_0 := (cell_far (p := ⟨gb268, 5, none⟩) (by first | (rw [add_block]; exact hn269_5) | (show (Addr.add _ _).block ≠ _; rw [add_block]; exact hn269_5) | exact hn269_5) (.bool false)).trans hx269_0
          clear hn269_0
          clear hn269_1
          clear hn269_2
          clear hn269_3
          clear hn269_4
          clear hn269_5
          replace p269 := eq_true p269
          replace q269 := eq_true q269
          have hnb36 := NB268_252.out
          have hnc36 := NB252_268.out
          have hcz37_0 : w29.cell? ⟨gb268, 0, none⟩ = some (.int .i64 0) := (blk_cell BK268.out 0).trans rfl
          have hcz37_1 : w29.cell? ⟨gb268, 1, none⟩ = some (.string (⟨#[]⟩ : ByteArray)) := (blk_cell BK268.out 1).trans rfl
          have hcz37_2 : w29.cell? ⟨gb268, 2, none⟩ = some (.int .i64 0) := (blk_cell BK268.out 2).trans rfl
          have hcz37_3 : w29.cell? ⟨gb268, 3, none⟩ = some (.string (⟨#[]⟩ : ByteArray)) := (blk_cell BK268.out 3).trans rfl
          have hcz37_4 : w29.cell? ⟨gb268, 4, none⟩ = some (.string (⟨#[]⟩ : ByteArray)) := (blk_cell BK268.out 4).trans rfl
          have hcz37_5 : w29.cell? ⟨gb268, 5, none⟩ = some (.bool false) := (blk_cell BK268.out 5).trans rfl
          have hfz37_0 := blk_frozen BK268.out 0
          have hfz37_1 := blk_frozen BK268.out 1
          have hfz37_2 := blk_frozen BK268.out 2
          have hfz37_3 := blk_frozen BK268.out 3
          have hfz37_4 := blk_frozen BK268.out 4
          have hfz37_5 := blk_frozen BK268.out 5
          have hcz38_0 : w29.cell? ⟨gb252, 0, none⟩ = some (.int .i64 0) := (blk_cell BK252.out 0).trans rfl
          have hcz38_1 : w29.cell? ⟨gb252, 1, none⟩ = some (.string (⟨#[]⟩ : ByteArray)) := (blk_cell BK252.out 1).trans rfl
          have hcz38_2 : w29.cell? ⟨gb252, 2, none⟩ = some (.int .i64 0) := (blk_cell BK252.out 2).trans rfl
          have hcz38_3 : w29.cell? ⟨gb252, 3, none⟩ = some (.string (⟨#[]⟩ : ByteArray)) := (blk_cell BK252.out 3).trans rfl
          have hcz38_4 : w29.cell? ⟨gb252, 4, none⟩ = some (.string (⟨#[]⟩ : ByteArray)) := (blk_cell BK252.out 4).trans rfl
          have hcz38_5 : w29.cell? ⟨gb252, 5, none⟩ = some (.bool false) := (blk_cell BK252.out 5).trans rfl
          have hfz38_0 := blk_frozen BK252.out 0
          have hfz38_1 := blk_frozen BK252.out 1
          have hfz38_2 := blk_frozen BK252.out 2
          have hfz38_3 := blk_frozen BK252.out 3
          have hfz38_4 := blk_frozen BK252.out 4
          have hfz38_5 := blk_frozen BK252.out 5
          try go_wp2
          refine bodyPost_ret (results_cell_row rfl _ _ gb252 25 #[.int .i64 a0, .string (rdOf ByteArray.empty t256 0), .int .i64 t267, .string (⟨#[]⟩ : ByteArray), .string (⟨#[]⟩ : ByteArray), .bool false] (0, 0) _ rfl (by (with_reducible repeat (first | refine blk_drewN ?_ _ | refine blk_drew ?_ | refine blk_alloc ?_ _)); refine blk_put (cs := #[.int .i64 a0, .string (rdOf ByteArray.empty t256 0), .int .i64 t267, .string (⟨#[]⟩ : ByteArray), .string (⟨#[]⟩ : ByteArray), .bool false]) ?_ 5 _ rfl; (with_reducible repeat (first | refine blk_drewN ?_ _ | refine blk_drew ?_ | refine blk_alloc ?_ _)); refine blk_put (cs := #[.int .i64 a0, .string (rdOf ByteArray.empty t256 0), .int .i64 t267, .string (⟨#[]⟩ : ByteArray), .string (⟨#[]⟩ : ByteArray), .bool false]) ?_ 4 _ rfl; (with_reducible repeat (first | refine blk_drewN ?_ _ | refine blk_drew ?_ | refine blk_alloc ?_ _)); refine blk_put (cs := #[.int .i64 a0, .string (rdOf ByteArray.empty t256 0), .int .i64 t267, .string (⟨#[]⟩ : ByteArray), .string (⟨#[]⟩ : ByteArray), .bool false]) ?_ 3 _ rfl; (with_reducible repeat (first | refine blk_drewN ?_ _ | refine blk_drew ?_ | refine blk_alloc ?_ _)); refine blk_put (cs := #[.int .i64 a0, .string (rdOf ByteArray.empty t256 0), .int .i64 0, .string (⟨#[]⟩ : ByteArray), .string (⟨#[]⟩ : ByteArray), .bool false]) ?_ 2 _ rfl; (with_reducible repeat (first | refine blk_drewN ?_ _ | refine blk_drew ?_ | refine blk_alloc ?_ _)); refine blk_put (cs := #[.int .i64 a0, .string (⟨#[]⟩ : ByteArray), .int .i64 0, .string (⟨#[]⟩ : ByteArray), .string (⟨#[]⟩ : ByteArray), .bool false]) ?_ 1 _ rfl; (with_reducible repeat (first | refine blk_drewN ?_ _ | refine blk_drew ?_ | refine blk_alloc ?_ _)); refine blk_put (cs := #[.int .i64 0, .string (⟨#[]⟩ : ByteArray), .int .i64 0, .string (⟨#[]⟩ : ByteArray), .string (⟨#[]⟩ : ByteArray), .bool false]) ?_ 0 _ rfl; (with_reducible repeat (first | refine blk_drewN ?_ _ | refine blk_drew ?_ | refine blk_alloc ?_ _)); refine blk_far ?_ NB252_268.out _; (with_reducible repeat (first | refine blk_drewN ?_ _ | refine blk_drew ?_ | refine blk_alloc ?_ _)); refine blk_far ?_ NB252_268.out _; (with_reducible repeat (first | refine blk_drewN ?_ _ | refine blk_drew ?_ | refine blk_alloc ?_ _)); refine blk_far ?_ NB252_268.out _; (with_reducible repeat (first | refine blk_drewN ?_ _ | refine blk_drew ?_ | refine blk_alloc ?_ _)); refine blk_far ?_ NB252_268.out _; (with_reducible repeat (first | refine blk_drewN ?_ _ | refine blk_drew ?_ | refine blk_alloc ?_ _)); refine blk_far ?_ NB252_268.out _; (with_reducible repeat (first | refine blk_drewN ?_ _ | refine blk_drew ?_ | refine blk_alloc ?_ _)); refine blk_far ?_ NB252_268.out _; (with_reducible repeat (first | refine blk_drewN ?_ _ | refine blk_drew ?_ | refine blk_alloc ?_ _)); exact BK252.out) Tryz.underlying25 rfl (by kernel_rfl)) rfl ?_
          exact ⟨er_, bs_⟩
         ·rw [if_neg c24] at H
          have c24b0 : ((rdOf ByteArray.empty t256 2).toList == ([63] : List UInt8)) = false := beq_eq_false_iff_ne.mpr c24
          have c24b1 : ((rdOf ByteArray.empty t256 2).toList != ([63] : List UInt8)) = true := bne_iff_ne.mpr c24
          have H' := Aside0.mk H
          clear H
          try go_wp2_with (first | ((with_reducible refine gate_callee (f := 23) rfl ?_); refine goesL_ (some 35) rfl rfl Tryz.func23 (by kernel_rfl) rfl #[.string x3_4] rfl mp_ ?_; (with_reducible refine (bodkinref05_words.calls kj4 x3_4 t256 _ A18.out).mono ?_); rintro e w39 ⟨v257, rfl, ho0, hb⟩; refine ⟨_, rfl, ?_⟩; have n0_ := Aside0.mk (Kd.R_lower ho0 (below_size bs_)); have n1_ := Aside0.mk (blk_below (g := gb252) (o := .cells #[.int .i64 0, .string (⟨#[]⟩ : ByteArray), .int .i64 0, .string (⟨#[]⟩ : ByteArray), .string (⟨#[]⟩ : ByteArray), .bool false] 25 (0, 0)) (by (with_reducible repeat (first | refine blk_drewN ?_ _ | refine blk_drew ?_ | refine blk_alloc ?_ _)); exact BK252.out) hb); have n2_ := Aside0.mk (below_step bs_ hb); clear BK252; clear HB; have HO258 := n0_; have BK252 := n1_; have HB := n2_; clear n0_ n1_ n2_; (try clear hb); (try clear hb2); (try clear hk); (try clear hi); (try clear ho0); obtain ⟨Ao40, co40, eo40⟩ := Kd.R_slice HO258.out; subst eo40))
          have n0_ := Aside0.mk (Kd.R_drew HO258.out)
          have n1_ := Aside0.mk (blk_drew BK252.out)
          have n2_ := Aside0.mk (below_drew1 HB.out)
          clear HO258
          clear BK252
          clear HB
          have HO258 := n0_
          have BK252 := n1_
          have HB := n2_
          clear n0_ n1_ n2_
          have p265 : 0 ≤ (0 : Int) := (by omega)
          have q265 : 0 < (t256.length : Int) := od_
          try (obtain ⟨ga_, ca_, hva_, _, _⟩ := Kd.R_reads HO258.out; subst hva_)
          obtain ⟨ad265, e265, hx265_0⟩ := Kd.at_string (Kd.R_reads' HO258.out).2.2 0 p265 q265
          cases e265
          have qi265 : (0 < t256.length) = True := eq_true (by omega)
          (try rw [show ((0 : Int)).toNat = 0 from rfl] at hx265_0)
          (try rw [Addr.add_zero'] at hx265_0)
          replace p265 := eq_true p265
          replace q265 := eq_true q265
          have p266 : 0 ≤ (1 : Int) := (by omega)
          have q266 : 1 < (t256.length : Int) := od_
          try (obtain ⟨ga_, ca_, hva_, _, _⟩ := Kd.R_reads HO258.out; subst hva_)
          obtain ⟨ad266, e266, hx266_0⟩ := Kd.at_string (Kd.R_reads' HO258.out).2.2 1 p266 q266
          obtain rfl : ad265 = ad266 := (by injection e266)
          (try simp only [show (1 : Int).toNat = 1 from rfl, Nat.reduceMul, Nat.reduceEqDiff, Go.Addr.add, ↓reduceIte] at hx266_0)
          have qi266 : (1 < t256.length) = True := eq_true (by omega)
          (try rw [show ((1 : Int)).toNat = 1 from rfl] at hx266_0)
          replace p266 := eq_true p266
          replace q266 := eq_true q266
          refine start_ (n := 11) (S := fun w' => w'.cell? ad265 = some (.string (rdOf ByteArray.empty t256 0)) ∧ w'.cell? ⟨ad265.block, ad265.off + 1, none⟩ = some (.string (rdOf ByteArray.empty t256 1))) (ds := []) #[false, false, false, false, false, false, false, false, false, false, false] (by kernel_rfl) rfl rfl ⟨hx265_0, hx266_0⟩ (fun hHeld => ?_); refine with_tabW bodkinref05_Of.tab11 bodkinref05_Of.bits11 (fun HT_ HW_ => ?_)
          generalize w39.drew = w41 at HO258 BK252 HB hx265_0 hx266_0 hHeld ⊢
          refine pure_ (i := 0) (N := some 40) (v := ?_) (a' := ?_) #[true, false, false, false, false, false, false, false, false, false, false] rfl rfl (any_of HT_.out (by kernel_rfl)) (fun _ _ _ h => h) (Or.inl ⟨by rfl, ?_⟩) ?_ ?_
          rotate_left
          ·intro w'
           go_simp
           with_reducible rfl
          rotate_left
          ·simp only [Act.put, List.setIfInBounds_toArray, List.set_cons_zero, List.set_cons_succ, i64_w, i32_w]
           rfl
          refine pure_ (i := 1) (N := some 41) (v := ?_) (a' := ?_) #[true, true, false, false, false, false, false, false, false, false, false] rfl rfl (any_of HT_.out (by kernel_rfl)) (fun _ _ _ h => h) (Or.inl ⟨by rfl, ?_⟩) ?_ ?_
          rotate_left
          ·intro w'
           go_simp
           with_reducible rfl
          rotate_left
          ·simp only [Act.put, List.setIfInBounds_toArray, List.set_cons_zero, List.set_cons_succ, i64_w, i32_w]
           rfl
          refine pure_ (i := 2) (N := some 42) (v := ?_) (a' := ?_) #[true, true, true, false, false, false, false, false, false, false, false] rfl rfl (any_of HT_.out (by kernel_rfl)) (fun _ _ _ h => h) (Or.inl ⟨by rfl, ?_⟩) ?_ ?_
          rotate_left
          ·intro w'
           go_simp
           with_reducible rfl
          rotate_left
          ·simp only [Act.put, List.setIfInBounds_toArray, List.set_cons_zero, List.set_cons_succ, i64_w, i32_w]
           rfl
          refine pure_ (i := 4) (N := some 44) (v := ?_) (a' := ?_) #[true, true, true, false, true, false, false, false, false, false, false] rfl rfl (any_of HT_.out (by kernel_rfl)) (fun _ _ _ h => h) (Or.inl ⟨by rfl, ?_⟩) ?_ ?_
          rotate_left
          ·intro w'
           go_simp
           with_reducible rfl
          rotate_left
          ·simp only [Act.put, List.setIfInBounds_toArray, List.set_cons_zero, List.set_cons_succ, i64_w, i32_w]
           rfl
          refine pure_ (i := 5) (N := some 45) (v := ?_) (a' := ?_) #[true, true, true, false, true, true, false, false, false, false, false] rfl rfl (any_of HT_.out (by kernel_rfl)) (fun _ _ _ h => h) (Or.inl ⟨by rfl, ?_⟩) ?_ ?_
          rotate_left
          ·intro w'
           go_simp
           with_reducible rfl
          rotate_left
          ·simp only [Act.put, List.setIfInBounds_toArray, List.set_cons_zero, List.set_cons_succ, i64_w, i32_w]
           rfl
          refine take_ (i := 3) (N := some 43) (v := ?_) (a' := ?_) #[true, true, true, true, true, true, false, false, false, false, false] rfl rfl (take_ofW HT_.out HW_.out (by kernel_rfl)) (fun _ _ _ h => h) (Or.inl ⟨by rfl, ?_⟩) hHeld ?_ ?_
          rotate_left
          ·rintro w' ⟨s0, s1⟩
           go_simp
           with_reducible rfl
          rotate_left
          ·simp only [Act.put, List.setIfInBounds_toArray, List.set_cons_zero, List.set_cons_succ, i64_w, i32_w]
           rfl
          refine take_ (i := 6) (N := some 46) (v := ?_) (a' := ?_) #[true, true, true, true, true, true, true, false, false, false, false] rfl rfl (take_ofW HT_.out HW_.out (by kernel_rfl)) (fun _ _ _ h => h) (Or.inl ⟨by rfl, ?_⟩) hHeld ?_ ?_
          rotate_left
          ·rintro w' ⟨s0, s1⟩
           go_simp
           with_reducible rfl
          rotate_left
          ·simp only [Act.put, List.setIfInBounds_toArray, List.set_cons_zero, List.set_cons_succ, i64_w, i32_w]
           rfl
          refine join_ (σ := Nat) 1 #[true, true, true, true, true, true, true, true, true, true, false] (fun s_ => [(47, .int .i64 t267), (5, .pointer (some ⟨s_, 0, none⟩)), (48, .agg #[.int .i64 a0, .string (rdOf ByteArray.empty t256 0), .int .i64 t267, .string (⟨#[]⟩ : ByteArray), .string (⟨#[]⟩ : ByteArray), .bool false])]) (fun s_ w' => (w'.cell? ad265 = some (.string (rdOf ByteArray.empty t256 0)) ∧ w'.cell? ⟨ad265.block, ad265.off + 1, none⟩ = some (.string (rdOf ByteArray.empty t256 1))) ∧ (Kd.R Kd.string 9 w' w.heap.size (fun _ => True) (.slice (some ad265) t256.length co40) t256) ∧ (w'.heap[gb252]? = some (.cells #[.int .i64 0, .string (⟨#[]⟩ : ByteArray), .int .i64 0, .string (⟨#[]⟩ : ByteArray), .string (⟨#[]⟩ : ByteArray), .bool false] 25 (0, 0))) ∧ (w'.heap[s_]? = some (.cells #[.int .i64 0, .string (⟨#[]⟩ : ByteArray), .int .i64 0, .string (⟨#[]⟩ : ByteArray), .string (⟨#[]⟩ : ByteArray), .bool false] 25 (0, 0))) ∧ (w.heap.size ≤ s_) ∧ (w.heap.size ≤ s_) ∧ (gb252 ≠ s_) ∧ (s_ ≠ gb252) ∧ (Below w.heap.size w w')) ?_ ?_
          rotate_left
          ·intro hCont
           refine two_ (i := 7) (j := 9) (Ni := some 47) (Nj := some 5) #[true, true, true, true, true, true, true, true, false, false, false] #[true, true, true, true, true, true, true, false, false, true, false] rfl rfl rfl rfl (two_of HT_.out (by kernel_rfl)) (by decide) (by decide) (fun K hK => ?_) (fun K hK => ?_)
           ·skip
            refine goes_ Tryz.func25 (by kernel_rfl) rfl #[.string (rdOf ByteArray.empty t256 1)] (by rfl) rfl rfl mp_ ?_
            with_reducible refine (bodkinref05_digits.calls kj4 (rdOf ByteArray.empty t256 1) t267 _ A22.out).mono ?_
            rintro e w' ⟨rfl, ⟨nd, rfl⟩⟩
            refine ⟨_, rfl, ?_⟩
            refine hK.out _ _ ⟨hHeld.1, hHeld.2⟩ (fun hHeld => ?_)
            clear hK K
            refine norm_ (a' := ?_) ?_ ?_
            rotate_left
            ·show Act.put _ (some 47) _ = _
             simp only [Act.put, List.setIfInBounds_toArray, List.set_cons_zero, List.set_cons_succ, i64_w, i32_w]
             rfl
            refine pure_ (i := 8) (N := some 48) (v := ?_) (a' := ?_) #[true, true, true, true, true, true, true, true, true, false, false] rfl rfl (any_of HT_.out (by kernel_rfl)) (fun _ _ _ h => h) (Or.inl ⟨by rfl, ?_⟩) ?_ ?_
            rotate_left
            ·intro w'
             go_simp
             with_reducible rfl
            rotate_left
            ·simp only [Act.put, List.setIfInBounds_toArray, List.set_cons_zero, List.set_cons_succ, i64_w, i32_w]
             rfl
            refine one_ (i := 9) (N := some 5) #[true, true, true, true, true, true, true, true, true, true, false] rfl rfl (one_of HT_.out (by kernel_rfl)) (by decide) (fun K hK => ?_)
            refine box_step ?hg (N := 5) ?hd (cs := #[.int .i64 0, .string (⟨#[]⟩ : ByteArray), .int .i64 0, .string (⟨#[]⟩ : ByteArray), .string (⟨#[]⟩ : ByteArray), .bool false]) (t := 25) ?hr ?_; (case hd => rfl); (case hg => rfl); (case hr => first | (go_simp; done) | (go_simp; rfl))
            intro gb268 hg w42 hbox hb
            have HS0_ := (hb.cell (World.block_lt_of_cell? _ _ (hHeld.1))).trans (hHeld.1)
            have HS1_ := (hb.cell (World.block_lt_of_cell? _ _ (hHeld.2))).trans (hHeld.2)
            have n0_ := Aside0.mk (Kd.R_below (rl_ HO258) hb)
            have n1_ := Aside0.mk (blk_below (g := gb252) (o := .cells #[.int .i64 0, .string (⟨#[]⟩ : ByteArray), .int .i64 0, .string (⟨#[]⟩ : ByteArray), .string (⟨#[]⟩ : ByteArray), .bool false] 25 (0, 0)) (by (with_reducible repeat (first | refine blk_drewN ?_ _ | refine blk_drew ?_ | refine blk_alloc ?_ _)); exact BK252.out) hb)
            have n2_ := Aside0.mk (below_step bs_ hb)
            have n3_ := Aside0.mk (hbox)
            have n4_ := Aside0.mk ((by rw [hg]; exact (below_size bs_) : w.heap.size ≤ gb268))
            have n5_ := Aside0.mk ((by rw [hg]; exact (below_size bs_) : w.heap.size ≤ gb268))
            have n6_ := Aside0.mk ((by rw [hg]; exact Nat.ne_of_lt (blk_lt (g := gb252) (o := .cells #[.int .i64 0, .string (⟨#[]⟩ : ByteArray), .int .i64 0, .string (⟨#[]⟩ : ByteArray), .string (⟨#[]⟩ : ByteArray), .bool false] 25 (0, 0)) (by (with_reducible repeat (first | refine blk_drewN ?_ _ | refine blk_drew ?_ | refine blk_alloc ?_ _)); exact BK252.out)) : gb252 ≠ gb268))
            have n7_ := Aside0.mk ((by rw [hg]; exact Nat.ne_of_gt (blk_lt (g := gb252) (o := .cells #[.int .i64 0, .string (⟨#[]⟩ : ByteArray), .int .i64 0, .string (⟨#[]⟩ : ByteArray), .string (⟨#[]⟩ : ByteArray), .bool false] 25 (0, 0)) (by (with_reducible repeat (first | refine blk_drewN ?_ _ | refine blk_drew ?_ | refine blk_alloc ?_ _)); exact BK252.out)) : gb268 ≠ gb252))
            clear HO258
            clear BK252
            clear HB
            have HO258 := n0_
            have BK252 := n1_
            have HB := n2_
            have BK268 := n3_
            have GW268 := n4_
            have GE268 := n5_
            have NB252_268 := n6_
            have NB268_252 := n7_
            clear n0_ n1_ n2_ n3_ n4_ n5_ n6_ n7_
            clear hb hbox hg
            refine hK.out _ _ ⟨HS0_, HS1_⟩ (fun hHeld => ?_)
            clear hK K
            refine norm_ (a' := ?_) ?_ ?_
            rotate_left
            ·show Act.put _ (some 5) _ = _
             simp only [Act.put, List.setIfInBounds_toArray, List.set_cons_zero, List.set_cons_succ, i64_w, i32_w]
             rfl
            exact norm_ (by simp only [putAll, Act.put, List.setIfInBounds_toArray, List.set_cons_zero, List.set_cons_succ]) (hCont (gb268) _ ⟨hHeld, (rl_ HO258), (by (with_reducible repeat (first | refine blk_drewN ?_ _ | refine blk_drew ?_ | refine blk_alloc ?_ _)); exact BK252.out), (by (with_reducible repeat (first | refine blk_drewN ?_ _ | refine blk_drew ?_ | refine blk_alloc ?_ _)); exact BK268.out), GW268.out, GE268.out, NB252_268.out, NB268_252.out, bs_⟩)
           ·skip
            refine box_step ?hg (N := 5) ?hd (cs := #[.int .i64 0, .string (⟨#[]⟩ : ByteArray), .int .i64 0, .string (⟨#[]⟩ : ByteArray), .string (⟨#[]⟩ : ByteArray), .bool false]) (t := 25) ?hr ?_; (case hd => rfl); (case hg => rfl); (case hr => first | (go_simp; done) | (go_simp; rfl))
            intro gb268 hg w42 hbox hb
            have HS0_ := (hb.cell (World.block_lt_of_cell? _ _ (hHeld.1))).trans (hHeld.1)
            have HS1_ := (hb.cell (World.block_lt_of_cell? _ _ (hHeld.2))).trans (hHeld.2)
            have n0_ := Aside0.mk (Kd.R_below (rl_ HO258) hb)
            have n1_ := Aside0.mk (blk_below (g := gb252) (o := .cells #[.int .i64 0, .string (⟨#[]⟩ : ByteArray), .int .i64 0, .string (⟨#[]⟩ : ByteArray), .string (⟨#[]⟩ : ByteArray), .bool false] 25 (0, 0)) (by (with_reducible repeat (first | refine blk_drewN ?_ _ | refine blk_drew ?_ | refine blk_alloc ?_ _)); exact BK252.out) hb)
            have n2_ := Aside0.mk (below_step bs_ hb)
            have n3_ := Aside0.mk (hbox)
            have n4_ := Aside0.mk ((by rw [hg]; exact (below_size bs_) : w.heap.size ≤ gb268))
            have n5_ := Aside0.mk ((by rw [hg]; exact (below_size bs_) : w.heap.size ≤ gb268))
            have n6_ := Aside0.mk ((by rw [hg]; exact Nat.ne_of_lt (blk_lt (g := gb252) (o := .cells #[.int .i64 0, .string (⟨#[]⟩ : ByteArray), .int .i64 0, .string (⟨#[]⟩ : ByteArray), .string (⟨#[]⟩ : ByteArray), .bool false] 25 (0, 0)) (by (with_reducible repeat (first | refine blk_drewN ?_ _ | refine blk_drew ?_ | refine blk_alloc ?_ _)); exact BK252.out)) : gb252 ≠ gb268))
            have n7_ := Aside0.mk ((by rw [hg]; exact Nat.ne_of_gt (blk_lt (g := gb252) (o := .cells #[.int .i64 0, .string (⟨#[]⟩ : ByteArray), .int .i64 0, .string (⟨#[]⟩ : ByteArray), .string (⟨#[]⟩ : ByteArray), .bool false] 25 (0, 0)) (by (with_reducible repeat (first | refine blk_drewN ?_ _ | refine blk_drew ?_ | refine blk_alloc ?_ _)); exact BK252.out)) : gb268 ≠ gb252))
            clear HO258
            clear BK252
            clear HB
            have HO258 := n0_
            have BK252 := n1_
            have HB := n2_
            have BK268 := n3_
            have GW268 := n4_
            have GE268 := n5_
            have NB252_268 := n6_
            have NB268_252 := n7_
            clear n0_ n1_ n2_ n3_ n4_ n5_ n6_ n7_
            clear hb hbox hg
            refine hK.out _ _ ⟨HS0_, HS1_⟩ (fun hHeld => ?_)
            clear hK K
            refine norm_ (a' := ?_) ?_ ?_
            rotate_left
            ·show Act.put _ (some 5) _ = _
             simp only [Act.put, List.setIfInBounds_toArray, List.set_cons_zero, List.set_cons_succ, i64_w, i32_w]
             rfl
            refine one_ (i := 7) (N := some 47) #[true, true, true, true, true, true, true, true, false, true, false] rfl rfl (one_of HT_.out (by kernel_rfl)) (by decide) (fun K hK => ?_)
            refine goes_ Tryz.func25 (by kernel_rfl) rfl #[.string (rdOf ByteArray.empty t256 1)] (by rfl) rfl rfl mp_ ?_
            with_reducible refine (bodkinref05_digits.calls kj4 (rdOf ByteArray.empty t256 1) t267 _ A22.out).mono ?_
            rintro e w' ⟨rfl, ⟨nd, rfl⟩⟩
            refine ⟨_, rfl, ?_⟩
            refine hK.out _ _ ⟨hHeld.1, hHeld.2⟩ (fun hHeld => ?_)
            clear hK K
            refine norm_ (a' := ?_) ?_ ?_
            rotate_left
            ·show Act.put _ (some 47) _ = _
             simp only [Act.put, List.setIfInBounds_toArray, List.set_cons_zero, List.set_cons_succ, i64_w, i32_w]
             rfl
            refine pure_ (i := 8) (N := some 48) (v := ?_) (a' := ?_) #[true, true, true, true, true, true, true, true, true, true, false] rfl rfl (any_of HT_.out (by kernel_rfl)) (fun _ _ _ h => h) (Or.inl ⟨by rfl, ?_⟩) ?_ ?_
            rotate_left
            ·intro w'
             go_simp
             with_reducible rfl
            rotate_left
            ·simp only [Act.put, List.setIfInBounds_toArray, List.set_cons_zero, List.set_cons_succ, i64_w, i32_w]
             rfl
            exact norm_ (by simp only [putAll, Act.put, List.setIfInBounds_toArray, List.set_cons_zero, List.set_cons_succ]) (hCont (gb268) _ ⟨hHeld, (rl_ HO258), (by (with_reducible repeat (first | refine blk_drewN ?_ _ | refine blk_drew ?_ | refine blk_alloc ?_ _)); exact BK252.out), (by (with_reducible repeat (first | refine blk_drewN ?_ _ | refine blk_drew ?_ | refine blk_alloc ?_ _)); exact BK268.out), GW268.out, GE268.out, NB252_268.out, NB268_252.out, bs_⟩)
          rintro gb268 w43 ⟨hS_, h0_, h1_, h2_, h3_, h4_, h5_, h6_, h7_⟩
          have n0_ : Aside0 (Kd.R Kd.string 9 w43 w.heap.size (fun _ => True) (.slice (some ad265) t256.length co40) t256) := ⟨h0_⟩
          have n1_ : Aside0 (w43.heap[gb252]? = some (.cells #[.int .i64 0, .string (⟨#[]⟩ : ByteArray), .int .i64 0, .string (⟨#[]⟩ : ByteArray), .string (⟨#[]⟩ : ByteArray), .bool false] 25 (0, 0))) := ⟨h1_⟩
          have n2_ : Aside0 (w43.heap[gb268]? = some (.cells #[.int .i64 0, .string (⟨#[]⟩ : ByteArray), .int .i64 0, .string (⟨#[]⟩ : ByteArray), .string (⟨#[]⟩ : ByteArray), .bool false] 25 (0, 0))) := ⟨h2_⟩
          have n3_ : Aside0 (w.heap.size ≤ gb268) := ⟨h3_⟩
          have n4_ : Aside0 (w.heap.size ≤ gb268) := ⟨h4_⟩
          have n5_ : Aside0 (gb252 ≠ gb268) := ⟨h5_⟩
          have n6_ : Aside0 (gb268 ≠ gb252) := ⟨h6_⟩
          have n7_ : Aside0 (Below w.heap.size w w43) := ⟨h7_⟩
          clear HO258
          clear BK252
          clear HB
          clear h0_ h1_ h2_ h3_ h4_ h5_ h6_ h7_
          have HO258 := n0_
          have BK252 := n1_
          have BK268 := n2_
          have GW268 := n3_
          have GE268 := n4_
          have NB252_268 := n5_
          have NB268_252 := n6_
          have HB := n7_
          clear n0_ n1_ n2_ n3_ n4_ n5_ n6_ n7_
          have hHeld : w43.cell? ad265 = some (.string (rdOf ByteArray.empty t256 0)) ∧ w43.cell? ⟨ad265.block, ad265.off + 1, none⟩ = some (.string (rdOf ByteArray.empty t256 1)) := hS_
          refine norm_ (a' := ?_) ?_ ?_
          rotate_left
          ·simp only [putAll, Act.put, List.setIfInBounds_toArray, List.set_cons_zero, List.set_cons_succ]
           rfl
          refine one_ (i := 10) (N := none) #[true, true, true, true, true, true, true, true, true, true, true] rfl rfl (one_of HT_.out (by kernel_rfl)) (by decide) (fun K hK => ?_)
          have hs44 : w43.cell? ⟨gb268, 0, none⟩ = some (.int .i64 0) := (blk_cell BK268.out 0).trans rfl
          have hfs44 := blk_frozen BK268.out 0
          have hns44_0 := NB252_268.out
          have hms44_0 := NB268_252.out
          have hs45 : w43.cell? ⟨gb268, 1, none⟩ = some (.string (⟨#[]⟩ : ByteArray)) := (blk_cell BK268.out 1).trans rfl
          have hfs45 := blk_frozen BK268.out 1
          have hns45_0 := NB252_268.out
          have hms45_0 := NB268_252.out
          have hs46 : w43.cell? ⟨gb268, 2, none⟩ = some (.int .i64 0) := (blk_cell BK268.out 2).trans rfl
          have hfs46 := blk_frozen BK268.out 2
          have hns46_0 := NB252_268.out
          have hms46_0 := NB268_252.out
          have hs47 : w43.cell? ⟨gb268, 3, none⟩ = some (.string (⟨#[]⟩ : ByteArray)) := (blk_cell BK268.out 3).trans rfl
          have hfs47 := blk_frozen BK268.out 3
          have hns47_0 := NB252_268.out
          have hms47_0 := NB268_252.out
          have hs48 : w43.cell? ⟨gb268, 4, none⟩ = some (.string (⟨#[]⟩ : ByteArray)) := (blk_cell BK268.out 4).trans rfl
          have hfs48 := blk_frozen BK268.out 4
          have hns48_0 := NB252_268.out
          have hms48_0 := NB268_252.out
          have hs49 : w43.cell? ⟨gb268, 5, none⟩ = some (.bool false) := (blk_cell BK268.out 5).trans rfl
          have hfs49 := blk_frozen BK268.out 5
          have hns49_0 := NB252_268.out
          have hms49_0 := NB268_252.out
          refine skip_ (w1 := ?_) (by rfl) rfl ?_ ?_
          rotate_left
          ·go_simp
           rfl
          refine hK.out _ _ ⟨((cell_far (p := ⟨gb268, _, none⟩) (by first | exact Kd.own_blk (Kd.R_ne HO258.out BK268.out (by decide)) | (rw [add_block]; exact Kd.own_blk (Kd.R_ne HO258.out BK268.out (by decide))) | (show (Addr.add _ _).block ≠ _; rw [add_block]; exact Kd.own_blk (Kd.R_ne HO258.out BK268.out (by decide))) | (dsimp only; exact Kd.own_blk (Kd.R_ne HO258.out BK268.out (by decide)))) _).trans (((cell_far (p := ⟨gb268, _, none⟩) (by first | exact Kd.own_blk (Kd.R_ne HO258.out BK268.out (by decide)) | (rw [add_block]; exact Kd.own_blk (Kd.R_ne HO258.out BK268.out (by decide))) | (show (Addr.add _ _).block ≠ _; rw [add_block]; exact Kd.own_blk (Kd.R_ne HO258.out BK268.out (by decide))) | (dsimp only; exact Kd.own_blk (Kd.R_ne HO258.out BK268.out (by decide)))) _).trans (((cell_far (p := ⟨gb268, _, none⟩) (by first | exact Kd.own_blk (Kd.R_ne HO258.out BK268.out (by decide)) | (rw [add_block]; exact Kd.own_blk (Kd.R_ne HO258.out BK268.out (by decide))) | (show (Addr.add _ _).block ≠ _; rw [add_block]; exact Kd.own_blk (Kd.R_ne HO258.out BK268.out (by decide))) | (dsimp only; exact Kd.own_blk (Kd.R_ne HO258.out BK268.out (by decide)))) _).trans (((cell_far (p := ⟨gb268, _, none⟩) (by first | exact Kd.own_blk (Kd.R_ne HO258.out BK268.out (by decide)) | (rw [add_block]; exact Kd.own_blk (Kd.R_ne HO258.out BK268.out (by decide))) | (show (Addr.add _ _).block ≠ _; rw [add_block]; exact Kd.own_blk (Kd.R_ne HO258.out BK268.out (by decide))) | (dsimp only; exact Kd.own_blk (Kd.R_ne HO258.out BK268.out (by decide)))) _).trans (((cell_far (p := ⟨gb268, _, none⟩) (by first | exact Kd.own_blk (Kd.R_ne HO258.out BK268.out (by decide)) | (rw [add_block]; exact Kd.own_blk (Kd.R_ne HO258.out BK268.out (by decide))) | (show (Addr.add _ _).block ≠ _; rw [add_block]; exact Kd.own_blk (Kd.R_ne HO258.out BK268.out (by decide))) | (dsimp only; exact Kd.own_blk (Kd.R_ne HO258.out BK268.out (by decide)))) _).trans (((cell_far (p := ⟨gb268, _, none⟩) (by first | exact Kd.own_blk (Kd.R_ne HO258.out BK268.out (by decide)) | (rw [add_block]; exact Kd.own_blk (Kd.R_ne HO258.out BK268.out (by decide))) | (show (Addr.add _ _).block ≠ _; rw [add_block]; exact Kd.own_blk (Kd.R_ne HO258.out BK268.out (by decide))) | (dsimp only; exact Kd.own_blk (Kd.R_ne HO258.out BK268.out (by decide)))) _).trans (hHeld.1)))))))))))), ((cell_far (p := ⟨gb268, _, none⟩) (by first | exact Kd.own_blk (Kd.R_ne HO258.out BK268.out (by decide)) | (rw [add_block]; exact Kd.own_blk (Kd.R_ne HO258.out BK268.out (by decide))) | (show (Addr.add _ _).block ≠ _; rw [add_block]; exact Kd.own_blk (Kd.R_ne HO258.out BK268.out (by decide))) | (dsimp only; exact Kd.own_blk (Kd.R_ne HO258.out BK268.out (by decide)))) _).trans (((cell_far (p := ⟨gb268, _, none⟩) (by first | exact Kd.own_blk (Kd.R_ne HO258.out BK268.out (by decide)) | (rw [add_block]; exact Kd.own_blk (Kd.R_ne HO258.out BK268.out (by decide))) | (show (Addr.add _ _).block ≠ _; rw [add_block]; exact Kd.own_blk (Kd.R_ne HO258.out BK268.out (by decide))) | (dsimp only; exact Kd.own_blk (Kd.R_ne HO258.out BK268.out (by decide)))) _).trans (((cell_far (p := ⟨gb268, _, none⟩) (by first | exact Kd.own_blk (Kd.R_ne HO258.out BK268.out (by decide)) | (rw [add_block]; exact Kd.own_blk (Kd.R_ne HO258.out BK268.out (by decide))) | (show (Addr.add _ _).block ≠ _; rw [add_block]; exact Kd.own_blk (Kd.R_ne HO258.out BK268.out (by decide))) | (dsimp only; exact Kd.own_blk (Kd.R_ne HO258.out BK268.out (by decide)))) _).trans (((cell_far (p := ⟨gb268, _, none⟩) (by first | exact Kd.own_blk (Kd.R_ne HO258.out BK268.out (by decide)) | (rw [add_block]; exact Kd.own_blk (Kd.R_ne HO258.out BK268.out (by decide))) | (show (Addr.add _ _).block ≠ _; rw [add_block]; exact Kd.own_blk (Kd.R_ne HO258.out BK268.out (by decide))) | (dsimp only; exact Kd.own_blk (Kd.R_ne HO258.out BK268.out (by decide)))) _).trans (((cell_far (p := ⟨gb268, _, none⟩) (by first | exact Kd.own_blk (Kd.R_ne HO258.out BK268.out (by decide)) | (rw [add_block]; exact Kd.own_blk (Kd.R_ne HO258.out BK268.out (by decide))) | (show (Addr.add _ _).block ≠ _; rw [add_block]; exact Kd.own_blk (Kd.R_ne HO258.out BK268.out (by decide))) | (dsimp only; exact Kd.own_blk (Kd.R_ne HO258.out BK268.out (by decide)))) _).trans (((cell_far (p := ⟨gb268, _, none⟩) (by first | exact Kd.own_blk (Kd.R_ne HO258.out BK268.out (by decide)) | (rw [add_block]; exact Kd.own_blk (Kd.R_ne HO258.out BK268.out (by decide))) | (show (Addr.add _ _).block ≠ _; rw [add_block]; exact Kd.own_blk (Kd.R_ne HO258.out BK268.out (by decide))) | (dsimp only; exact Kd.own_blk (Kd.R_ne HO258.out BK268.out (by decide)))) _).trans (hHeld.2))))))))))))⟩ (fun hHeld => ?_)
          clear hK K
          refine done_ (done_of HT_.out (by kernel_rfl)) ?_
          have p269 : 0 ≤ (2 : Int) := (by omega)
          have q269 : 2 < (t256.length : Int) := od_
          try (obtain ⟨ga_, ca_, hva_, _, _⟩ := Kd.R_reads HO258.out; subst hva_)
          obtain ⟨ad269, e269, hx269_0⟩ := Kd.at_string (Kd.R_reads' HO258.out).2.2 2 p269 q269
          obtain rfl : ad265 = ad269 := (by injection e269)
          (try simp only [show (2 : Int).toNat = 2 from rfl, Nat.reduceMul, Nat.reduceEqDiff, Go.Addr.add, ↓reduceIte] at hx269_0)
          have qi269 : (2 < t256.length) = True := eq_true (by omega)
          (try rw [show ((2 : Int)).toNat = 2 from rfl] at hx269_0)
          have hn269_0 : ad265.block ≠ gb268 := Kd.own_blk (Kd.R_ne HO258.out BK268.out (by decide))
          have hn269_1 : ad265.block ≠ gb268 := Kd.own_blk (Kd.R_ne HO258.out BK268.out (by decide))
          have hn269_2 : ad265.block ≠ gb268 := Kd.own_blk (Kd.R_ne HO258.out BK268.out (by decide))
          have hn269_3 : ad265.block ≠ gb268 := Kd.own_blk (Kd.R_ne HO258.out BK268.out (by decide))
          have hn269_4 : ad265.block ≠ gb268 := Kd.own_blk (Kd.R_ne HO258.out BK268.out (by decide))
          have hn269_5 : ad265.block ≠ gb268 := Kd.own_blk (Kd.R_ne HO258.out BK268.out (by decide))
          replace hx269_0 := (cell_far (p := ⟨gb268, 0, none⟩) (by first | (rw [add_block]; exact hn269_0) | (show (Addr.add _ _).block ≠ _; rw [add_block]; exact hn269_0) | exact hn269_0) (.int .i64 a0)).trans hx269_0
          replace hx269_0 := (cell_far (p := ⟨gb268, 1, none⟩) (by first | (rw [add_block]; exact hn269_1) | (show (Addr.add _ _).block ≠ _; rw [add_block]; exact hn269_1) | exact hn269_1) (.string (rdOf ByteArray.empty t256 0))).trans hx269_0
          replace hx269_0 := (cell_far (p := ⟨gb268, 2, none⟩) (by first | (rw [add_block]; exact hn269_2) | (show (Addr.add _ _).block ≠ _; rw [add_block]; exact hn269_2) | exact hn269_2) (.int .i64 t267)).trans hx269_0
          replace hx269_0 := (cell_far (p := ⟨gb268, 3, none⟩) (by first | (rw [add_block]; exact hn269_3) | (show (Addr.add _ _).block ≠ _; rw [add_block]; exact hn269_3) | exact hn269_3) (.string (⟨#[]⟩ : ByteArray))).trans hx269_0
          replace hx269_0 := (cell_far (p := ⟨gb268, 4, none⟩) (by first | (rw [add_block]; exact hn269_4) | (show (Addr.add _ _).block ≠ _; rw [add_block]; exact hn269_4) | exact hn269_4) (.string (⟨#[]⟩ : ByteArray))).trans hx269_0
          replace hx269_0 := (cell_far (p := ⟨gb268, 5, none⟩) (by first | (rw [add_block]; exact hn269_5) | (show (Addr.add _ _).block ≠ _; rw [add_block]; exact hn269_5) | exact hn269_5) (.bool false)).trans hx269_0
          clear hn269_0
          clear hn269_1
          clear hn269_2
          clear hn269_3
          clear hn269_4
          clear hn269_5
          replace p269 := eq_true p269
          replace q269 := eq_true q269
          have hnb50 := NB268_252.out
          have hnc50 := NB252_268.out
          have hcz51_0 : w43.cell? ⟨gb268, 0, none⟩ = some (.int .i64 0) := (blk_cell BK268.out 0).trans rfl
          have hcz51_1 : w43.cell? ⟨gb268, 1, none⟩ = some (.string (⟨#[]⟩ : ByteArray)) := (blk_cell BK268.out 1).trans rfl
          have hcz51_2 : w43.cell? ⟨gb268, 2, none⟩ = some (.int .i64 0) := (blk_cell BK268.out 2).trans rfl
          have hcz51_3 : w43.cell? ⟨gb268, 3, none⟩ = some (.string (⟨#[]⟩ : ByteArray)) := (blk_cell BK268.out 3).trans rfl
          have hcz51_4 : w43.cell? ⟨gb268, 4, none⟩ = some (.string (⟨#[]⟩ : ByteArray)) := (blk_cell BK268.out 4).trans rfl
          have hcz51_5 : w43.cell? ⟨gb268, 5, none⟩ = some (.bool false) := (blk_cell BK268.out 5).trans rfl
          have hfz51_0 := blk_frozen BK268.out 0
          have hfz51_1 := blk_frozen BK268.out 1
          have hfz51_2 := blk_frozen BK268.out 2
          have hfz51_3 := blk_frozen BK268.out 3
          have hfz51_4 := blk_frozen BK268.out 4
          have hfz51_5 := blk_frozen BK268.out 5
          try go_wp2
          go_loopg [6, 7] kj4 (fun kq v6 v7 w' => ∃ (x6_3 : Bool) (x7_3 : Int) (x269003_3 : ByteArray) (x269004_3 : ByteArray), v6 = .bool x6_3 ∧ v7 = .int .i64 x7_3 ∧ Aside0 (bodkinref05_Of.l0 kq t256 x6_3 x7_3 a0 (rdOf ByteArray.empty t256 0) t267 x269003_3 x269004_3 true = some (r1, r2, r3, r4, r5, r6)) ∧ Aside0 (kq ≤ kj4) ∧ Aside0 (Kd.R Kd.string 9 w' w.heap.size (fun _ => True) (.slice (some ad265) t256.length co40) t256) ∧ Aside0 (w'.heap[gb252]? = some (.cells #[.int .i64 0, .string (⟨#[]⟩ : ByteArray), .int .i64 0, .string (⟨#[]⟩ : ByteArray), .string (⟨#[]⟩ : ByteArray), .bool false] 25 (0, 0))) ∧ Aside0 (w'.heap[gb268]? = some (.cells #[.int .i64 a0, .string (rdOf ByteArray.empty t256 0), .int .i64 t267, .string x269003_3, .string x269004_3, .bool true] 25 (0, 0))) ∧ Aside0 (Below w.heap.size w w'))
          case atStart => exact ⟨(false), (0), ((⟨#[]⟩ : ByteArray)), ((⟨#[]⟩ : ByteArray)), rs_, rs_, H', ⟨Nat.le_refl _⟩, ⟨by (with_reducible repeat (first | apply Kd.R_alloc | apply Kd.R_drewN | apply Kd.R_drew)); exact Kd.R_mono (Kd.R_far (p := ⟨gb268, 5, none⟩) (Kd.R_far (p := ⟨gb268, 5, none⟩) (Kd.R_far (p := ⟨gb268, 4, none⟩) (Kd.R_far (p := ⟨gb268, 3, none⟩) (Kd.R_far (p := ⟨gb268, 2, none⟩) (Kd.R_far (p := ⟨gb268, 1, none⟩) (Kd.R_far (p := ⟨gb268, 0, none⟩) (Kd.R_types HO258.out BK268.out (by decide)) (fun _ hk => hk.2) (.int .i64 a0)) (fun _ hk => hk.2) (.string (rdOf ByteArray.empty t256 0))) (fun _ hk => hk.2) (.int .i64 t267)) (fun _ hk => hk.2) (.string (⟨#[]⟩ : ByteArray))) (fun _ hk => hk.2) (.string (⟨#[]⟩ : ByteArray))) (fun _ hk => hk.2) (.bool false)) (fun _ hk => hk.2) (.bool true)) (fun _ hk => trivial)⟩, ⟨by (with_reducible repeat (first | refine blk_drewN ?_ _ | refine blk_drew ?_ | refine blk_alloc ?_ _)); refine blk_far ?_ NB252_268.out _; (with_reducible repeat (first | refine blk_drewN ?_ _ | refine blk_drew ?_ | refine blk_alloc ?_ _)); refine blk_far ?_ NB252_268.out _; (with_reducible repeat (first | refine blk_drewN ?_ _ | refine blk_drew ?_ | refine blk_alloc ?_ _)); refine blk_far ?_ NB252_268.out _; (with_reducible repeat (first | refine blk_drewN ?_ _ | refine blk_drew ?_ | refine blk_alloc ?_ _)); refine blk_far ?_ NB252_268.out _; (with_reducible repeat (first | refine blk_drewN ?_ _ | refine blk_drew ?_ | refine blk_alloc ?_ _)); refine blk_far ?_ NB252_268.out _; (with_reducible repeat (first | refine blk_drewN ?_ _ | refine blk_drew ?_ | refine blk_alloc ?_ _)); refine blk_far ?_ NB252_268.out _; (with_reducible repeat (first | refine blk_drewN ?_ _ | refine blk_drew ?_ | refine blk_alloc ?_ _)); refine blk_far ?_ NB252_268.out _; (with_reducible repeat (first | refine blk_drewN ?_ _ | refine blk_drew ?_ | refine blk_alloc ?_ _)); exact BK252.out⟩, ⟨by (with_reducible repeat (first | refine blk_drewN ?_ _ | refine blk_drew ?_ | refine blk_alloc ?_ _)); refine blk_put (cs := #[.int .i64 a0, .string (rdOf ByteArray.empty t256 0), .int .i64 t267, .string (⟨#[]⟩ : ByteArray), .string (⟨#[]⟩ : ByteArray), .bool false]) ?_ 5 _ rfl; (with_reducible repeat (first | refine blk_drewN ?_ _ | refine blk_drew ?_ | refine blk_alloc ?_ _)); refine blk_put (cs := #[.int .i64 a0, .string (rdOf ByteArray.empty t256 0), .int .i64 t267, .string (⟨#[]⟩ : ByteArray), .string (⟨#[]⟩ : ByteArray), .bool false]) ?_ 5 _ rfl; (with_reducible repeat (first | refine blk_drewN ?_ _ | refine blk_drew ?_ | refine blk_alloc ?_ _)); refine blk_put (cs := #[.int .i64 a0, .string (rdOf ByteArray.empty t256 0), .int .i64 t267, .string (⟨#[]⟩ : ByteArray), .string (⟨#[]⟩ : ByteArray), .bool false]) ?_ 4 _ rfl; (with_reducible repeat (first | refine blk_drewN ?_ _ | refine blk_drew ?_ | refine blk_alloc ?_ _)); refine blk_put (cs := #[.int .i64 a0, .string (rdOf ByteArray.empty t256 0), .int .i64 t267, .string (⟨#[]⟩ : ByteArray), .string (⟨#[]⟩ : ByteArray), .bool false]) ?_ 3 _ rfl; (with_reducible repeat (first | refine blk_drewN ?_ _ | refine blk_drew ?_ | refine blk_alloc ?_ _)); refine blk_put (cs := #[.int .i64 a0, .string (rdOf ByteArray.empty t256 0), .int .i64 0, .string (⟨#[]⟩ : ByteArray), .string (⟨#[]⟩ : ByteArray), .bool false]) ?_ 2 _ rfl; (with_reducible repeat (first | refine blk_drewN ?_ _ | refine blk_drew ?_ | refine blk_alloc ?_ _)); refine blk_put (cs := #[.int .i64 a0, .string (⟨#[]⟩ : ByteArray), .int .i64 0, .string (⟨#[]⟩ : ByteArray), .string (⟨#[]⟩ : ByteArray), .bool false]) ?_ 1 _ rfl; (with_reducible repeat (first | refine blk_drewN ?_ _ | refine blk_drew ?_ | refine blk_alloc ?_ _)); refine blk_put (cs := #[.int .i64 0, .string (⟨#[]⟩ : ByteArray), .int .i64 0, .string (⟨#[]⟩ : ByteArray), .string (⟨#[]⟩ : ByteArray), .bool false]) ?_ 0 _ rfl; (with_reducible repeat (first | refine blk_drewN ?_ _ | refine blk_drew ?_ | refine blk_alloc ?_ _)); exact BK268.out⟩, ⟨bs_⟩⟩
          case round =>
           clear H'
           (try clear c2); (try clear p2); (try clear q2); (try clear hx2); (try clear qi2); (try clear c3); (try clear c5); (try clear c23); (try clear c24); (try clear c24b0); (try clear c24b1); (try clear c25); (try clear p26); (try clear q26); (try clear hx26); (try clear qi26); (try clear c36); (try clear c50); (try clear hcz37_0); (try clear hcz37_1); (try clear hcz37_2); (try clear hcz37_3); (try clear hcz37_4); (try clear hcz37_5); (try clear hcz38_0); (try clear hcz38_1); (try clear hcz38_2); (try clear hcz38_3); (try clear hcz38_4); (try clear hcz38_5); (try clear hcz51_0); (try clear hcz51_1); (try clear hcz51_2); (try clear hcz51_3); (try clear hcz51_4); (try clear hcz51_5); (try clear hfz37_0); (try clear hfz37_1); (try clear hfz37_2); (try clear hfz37_3); (try clear hfz37_4); (try clear hfz37_5); (try clear hfz38_0); (try clear hfz38_1); (try clear hfz38_2); (try clear hfz38_3); (try clear hfz38_4); (try clear hfz38_5); (try clear hfz51_0); (try clear hfz51_1); (try clear hfz51_2); (try clear hfz51_3); (try clear hfz51_4); (try clear hfz51_5); (try clear hx265_0); (try clear hx266_0); (try clear hx269_0); (try clear p265); (try clear p266); (try clear p269); (try clear q265); (try clear q266); (try clear q269)
           obtain ⟨x6_3, x7_3, x269003_3, x269004_3, rfl, rfl, HA, HK3, HO_4, BK252, BK268, HB⟩ := hrel
           cases gk with
           | zero => exact absurd HA.out (by simp [bodkinref05_Of.l0])
           | succ k3 =>
            have H := HA.out
            clear HA
            simp only [bodkinref05_Of.l0] at H
            by_cases c52 : 2 < (t256.length : Int)
            ·rw [if_pos c52] at H
             have c52b0 : decide (2 < (t256.length : Int)) = true := decide_eq_true c52
             have c52b1 : decide (2 < t256.length) = true := decide_eq_true (by omega)
             clear c52
             by_cases c53 : x7_3 < ((rdOf ByteArray.empty t256 2).size : Int)
             ·rw [if_pos c53] at H
              have c53b0 : decide (x7_3 < ((rdOf ByteArray.empty t256 2).size : Int)) = true := decide_eq_true c53
              clear c53
              by_cases c54 : 0 ≤ x7_3
              ·rw [if_pos c54] at H
               have c54b0 : decide (0 ≤ x7_3) = true := decide_eq_true c54
               clear c54
               by_cases c56 : (bt (rdOf ByteArray.empty t256 2) x7_3) = 62
               ·rw [if_pos c56] at H
                have c56b0 : ((bt (rdOf ByteArray.empty t256 2) x7_3) == 62) = true := beq_iff_eq.mpr c56
                have c56b1 : ((bt (rdOf ByteArray.empty t256 2) x7_3) != 62) = false := bne_eq_false_iff_eq.mpr c56
                clear c56
                have H' := Aside0.mk H
                clear H
                have p270 : 0 ≤ (2 : Int) := (by omega)
                have q270 : 2 < (t256.length : Int) := od_
                try (obtain ⟨ga_, ca_, hva_, _, _⟩ := Kd.R_reads HO_4.out; subst hva_)
                obtain ⟨ad270, e270, hx270_0⟩ := Kd.at_string (Kd.R_reads' HO_4.out).2.2 2 p270 q270
                obtain rfl : ad265 = ad270 := (by injection e270)
                (try simp only [show (2 : Int).toNat = 2 from rfl, Nat.reduceMul, Nat.reduceEqDiff, Go.Addr.add, ↓reduceIte] at hx270_0)
                have qi270 : (2 < t256.length) = True := eq_true (by omega)
                (try rw [show ((2 : Int)).toNat = 2 from rfl] at hx270_0)
                replace p270 := eq_true p270
                replace q270 := eq_true q270
                have p271 : 0 ≤ (2 : Int) := (by omega)
                have q271 : 2 < (t256.length : Int) := od_
                try (obtain ⟨ga_, ca_, hva_, _, _⟩ := Kd.R_reads HO_4.out; subst hva_)
                obtain ⟨ad271, e271, hx271_0⟩ := Kd.at_string (Kd.R_reads' HO_4.out).2.2 2 p271 q271
                obtain rfl : ad265 = ad271 := (by injection e271)
                (try simp only [show (2 : Int).toNat = 2 from rfl, Nat.reduceMul, Nat.reduceEqDiff, Go.Addr.add, ↓reduceIte] at hx271_0)
                have qi271 : (2 < t256.length) = True := eq_true (by omega)
                (try rw [show ((2 : Int)).toNat = 2 from rfl] at hx271_0)
                replace p271 := eq_true p271
                replace q271 := eq_true q271
                have p55 : 0 ≤ (x7_3 : Int) := od_
                have q55 : x7_3 < ((rdOf ByteArray.empty t256 2).size : Int) := od_
                have hx55 := bt_at (rdOf ByteArray.empty t256 2) x7_3
                replace p55 := eq_true p55
                replace q55 := eq_true q55
                go_wp2
                go_roundg k3
                case measure => have := HJ1.out; have := HJ4.out; have := HK3.out; omega
                case rel => exact ⟨(true), (wrap64 (x7_3 + 1)), (x269003_3), (x269004_3), rs_, rs_, H', ⟨by have := HJ1.out; have := HJ4.out; have := HK3.out; omega⟩, ⟨rl_ HO_4⟩, ⟨by (with_reducible repeat (first | refine blk_drewN ?_ _ | refine blk_drew ?_ | refine blk_alloc ?_ _)); exact BK252.out⟩, ⟨by (with_reducible repeat (first | refine blk_drewN ?_ _ | refine blk_drew ?_ | refine blk_alloc ?_ _)); exact BK268.out⟩, ⟨bs_⟩⟩
               ·rw [if_neg c56] at H
                have c56b0 : ((bt (rdOf ByteArray.empty t256 2) x7_3) == 62) = false := beq_eq_false_iff_ne.mpr c56
                have c56b1 : ((bt (rdOf ByteArray.empty t256 2) x7_3) != 62) = true := bne_iff_ne.mpr c56
                by_cases c57 : x6_3 = true
                ·subst c57
                 have H1 : (if x7_3 ≤ (wrap64 (x7_3 + 1)) then (if (wrap64 (x7_3 + 1)) ≤ ((rdOf ByteArray.empty t256 2).size : Int) then (if x269004_3.size + ((rdOf ByteArray.empty t256 2).extract (x7_3 : Int).toNat ((wrap64 (x7_3 + 1)) : Int).toNat).size ≤ 9223372036854775807 then (bodkinref05_Of.l0 k3 t256 true (wrap64 (x7_3 + 1)) a0 (rdOf ByteArray.empty t256 0) t267 x269003_3 (x269004_3 ++ ((rdOf ByteArray.empty t256 2).extract (x7_3 : Int).toNat ((wrap64 (x7_3 + 1)) : Int).toNat)) true) else (none)) else (none)) else (none)) = some (r1, r2, r3, r4, r5, r6) := by rw [if_pos rfl] at H; exact H
                 clear H
                 have H := H1
                 clear H1
                 have c58b0 := eq_true (od_ : 0 ≤ x7_3)
                 by_cases c59 : x7_3 ≤ (wrap64 (x7_3 + 1))
                 ·rw [if_pos c59] at H
                  have c59b0 := eq_true c59
                  have c59b1 : decide (x7_3 ≤ (wrap64 (x7_3 + 1))) = true := decide_eq_true c59
                  by_cases c60 : (wrap64 (x7_3 + 1)) ≤ ((rdOf ByteArray.empty t256 2).size : Int)
                  ·rw [if_pos c60] at H
                   have c60b0 := eq_true c60
                   have c60b1 : decide ((wrap64 (x7_3 + 1)) ≤ ((rdOf ByteArray.empty t256 2).size : Int)) = true := decide_eq_true c60
                   by_cases c61 : x269004_3.size + ((rdOf ByteArray.empty t256 2).extract (x7_3 : Int).toNat ((wrap64 (x7_3 + 1)) : Int).toNat).size ≤ 9223372036854775807
                   ·rw [if_pos c61] at H
                    have c61b0 := eq_true c61
                    have c61b1 : decide (x269004_3.size + ((rdOf ByteArray.empty t256 2).extract (x7_3 : Int).toNat ((wrap64 (x7_3 + 1)) : Int).toNat).size ≤ 9223372036854775807) = true := decide_eq_true c61
                    try have c61b2 : (9223372036854775807 < x269004_3.size + ((rdOf ByteArray.empty t256 2).extract (x7_3 : Int).toNat ((wrap64 (x7_3 + 1)) : Int).toNat).size) = False := eq_false (Nat.not_lt.2 c61)
                    try have c61b3 : (9223372036854775807 < x269004_3.size + (((wrap64 (x7_3 + 1)) : Int).toNat - (x7_3 : Int).toNat)) = False := eq_false (by have h_ := c61; simp only [ByteArray.size_extract] at h_; omega)
                    have H' := Aside0.mk H
                    clear H
                    have p270 : 0 ≤ (2 : Int) := (by omega)
                    have q270 : 2 < (t256.length : Int) := od_
                    try (obtain ⟨ga_, ca_, hva_, _, _⟩ := Kd.R_reads HO_4.out; subst hva_)
                    obtain ⟨ad270, e270, hx270_0⟩ := Kd.at_string (Kd.R_reads' HO_4.out).2.2 2 p270 q270
                    obtain rfl : ad265 = ad270 := (by injection e270)
                    (try simp only [show (2 : Int).toNat = 2 from rfl, Nat.reduceMul, Nat.reduceEqDiff, Go.Addr.add, ↓reduceIte] at hx270_0)
                    have qi270 : (2 < t256.length) = True := eq_true (by omega)
                    (try rw [show ((2 : Int)).toNat = 2 from rfl] at hx270_0)
                    replace p270 := eq_true p270
                    replace q270 := eq_true q270
                    have p271 : 0 ≤ (2 : Int) := (by omega)
                    have q271 : 2 < (t256.length : Int) := od_
                    try (obtain ⟨ga_, ca_, hva_, _, _⟩ := Kd.R_reads HO_4.out; subst hva_)
                    obtain ⟨ad271, e271, hx271_0⟩ := Kd.at_string (Kd.R_reads' HO_4.out).2.2 2 p271 q271
                    obtain rfl : ad265 = ad271 := (by injection e271)
                    (try simp only [show (2 : Int).toNat = 2 from rfl, Nat.reduceMul, Nat.reduceEqDiff, Go.Addr.add, ↓reduceIte] at hx271_0)
                    have qi271 : (2 < t256.length) = True := eq_true (by omega)
                    (try rw [show ((2 : Int)).toNat = 2 from rfl] at hx271_0)
                    replace p271 := eq_true p271
                    replace q271 := eq_true q271
                    have p55 : 0 ≤ (x7_3 : Int) := od_
                    have q55 : x7_3 < ((rdOf ByteArray.empty t256 2).size : Int) := od_
                    have hx55 := bt_at (rdOf ByteArray.empty t256 2) x7_3
                    replace p55 := eq_true p55
                    replace q55 := eq_true q55
                    try go_wp2
                    have n0_ := Aside0.mk (Kd.R_drew HO_4.out)
                    have n1_ := Aside0.mk (blk_drew BK252.out)
                    have n2_ := Aside0.mk (blk_drew BK268.out)
                    have n3_ := Aside0.mk (below_drew1 HB.out)
                    clear HO_4
                    clear BK252
                    clear BK268
                    clear HB
                    have HO_4 := n0_
                    have BK252 := n1_
                    have BK268 := n2_
                    have HB := n3_
                    clear n0_ n1_ n2_ n3_
                    have p272 : 0 ≤ (2 : Int) := (by omega)
                    have q272 : 2 < (t256.length : Int) := od_
                    try (obtain ⟨ga_, ca_, hva_, _, _⟩ := Kd.R_reads HO_4.out; subst hva_)
                    obtain ⟨ad272, e272, hx272_0⟩ := Kd.at_string (Kd.R_reads' HO_4.out).2.2 2 p272 q272
                    obtain rfl : ad265 = ad272 := (by injection e272)
                    (try simp only [show (2 : Int).toNat = 2 from rfl, Nat.reduceMul, Nat.reduceEqDiff, Go.Addr.add, ↓reduceIte] at hx272_0)
                    have qi272 : (2 < t256.length) = True := eq_true (by omega)
                    (try rw [show ((2 : Int)).toNat = 2 from rfl] at hx272_0)
                    replace p272 := eq_true p272
                    replace q272 := eq_true q272
                    refine start_ (n := 12) (S := fun w' => w'.cell? ⟨gb268, 0, none⟩ = some (.int .i64 a0) ∧ w'.cell? ⟨gb268, 1, none⟩ = some (.string (rdOf ByteArray.empty t256 0)) ∧ w'.cell? ⟨gb268, 2, none⟩ = some (.int .i64 t267) ∧ w'.cell? ⟨gb268, 3, none⟩ = some (.string x269003_3) ∧ w'.cell? ⟨gb268, 4, none⟩ = some (.string x269004_3) ∧ w'.cell? ⟨gb268, 5, none⟩ = some (.bool true) ∧ w'.cell? ⟨ad265.block, ad265.off + 2, none⟩ = some (.string (rdOf ByteArray.empty t256 2))) (ds := [11]) #[false, false, false, false, false, false, false, false, false, false, false, false] (by kernel_rfl) rfl rfl ⟨(blk_cell BK268.out 0).trans rfl, (blk_cell BK268.out 1).trans rfl, (blk_cell BK268.out 2).trans rfl, (blk_cell BK268.out 3).trans rfl, (blk_cell BK268.out 4).trans rfl, (blk_cell BK268.out 5).trans rfl, hx272_0⟩ (fun hHeld => ?_); refine with_tabW bodkinref05_Of.tab22 bodkinref05_Of.bits22 (fun HT_ HW_ => ?_)
                    generalize wr.drew = w62 at HO_4 BK252 BK268 HB hx272_0 hHeld ⊢
                    refine pure_ (i := 0) (N := some 70) (v := ?_) (a' := ?_) #[true, false, false, false, false, false, false, false, false, false, false, false] rfl rfl (any_of HT_.out (by kernel_rfl)) (fun _ _ _ h => h) (Or.inl ⟨by rfl, ?_⟩) ?_ ?_
                    rotate_left
                    ·intro w'
                     go_simp
                     with_reducible rfl
                    rotate_left
                    ·simp only [Act.put, List.setIfInBounds_toArray, List.set_cons_zero, List.set_cons_succ, i64_w, i32_w]
                     rfl
                    refine pure_ (i := 2) (N := some 72) (v := ?_) (a' := ?_) #[true, false, true, false, false, false, false, false, false, false, false, false] rfl rfl (any_of HT_.out (by kernel_rfl)) (fun _ _ _ h => h) (Or.inl ⟨by rfl, ?_⟩) ?_ ?_
                    rotate_left
                    ·intro w'
                     go_simp
                     with_reducible rfl
                    rotate_left
                    ·simp only [Act.put, List.setIfInBounds_toArray, List.set_cons_zero, List.set_cons_succ, i64_w, i32_w]
                     rfl
                    refine pure_ (i := 3) (N := some 73) (v := ?_) (a' := ?_) #[true, false, true, true, false, false, false, false, false, false, false, false] rfl rfl (any_of HT_.out (by kernel_rfl)) (fun _ _ _ h => h) (Or.inl ⟨by rfl, ?_⟩) ?_ ?_
                    rotate_left
                    ·intro w'
                     go_simp
                     with_reducible rfl
                    rotate_left
                    ·simp only [Act.put, List.setIfInBounds_toArray, List.set_cons_zero, List.set_cons_succ, i64_w, i32_w]
                     rfl
                    refine pure_ (i := 5) (N := some 75) (v := ?_) (a' := ?_) #[true, false, true, true, false, true, false, false, false, false, false, false] rfl rfl (any_of HT_.out (by kernel_rfl)) (fun _ _ _ h => h) (Or.inl ⟨by rfl, ?_⟩) ?_ ?_
                    rotate_left
                    ·intro w'
                     go_simp
                     with_reducible rfl
                    rotate_left
                    ·simp only [Act.put, List.setIfInBounds_toArray, List.set_cons_zero, List.set_cons_succ, i64_w, i32_w]
                     rfl
                    refine pure_ (i := 6) (N := some 76) (v := ?_) (a' := ?_) #[true, false, true, true, false, true, true, false, false, false, false, false] rfl rfl (any_of HT_.out (by kernel_rfl)) (fun _ _ _ h => h) (Or.inl ⟨by rfl, ?_⟩) ?_ ?_
                    rotate_left
                    ·intro w'
                     go_simp
                     with_reducible rfl
                    rotate_left
                    ·simp only [Act.put, List.setIfInBounds_toArray, List.set_cons_zero, List.set_cons_succ, i64_w, i32_w]
                     rfl
                    refine pure_ (i := 7) (N := some 77) (v := ?_) (a' := ?_) #[true, false, true, true, false, true, true, true, false, false, false, false] rfl rfl (any_of HT_.out (by kernel_rfl)) (fun _ _ _ h => h) (Or.inl ⟨by rfl, ?_⟩) ?_ ?_
                    rotate_left
                    ·intro w'
                     go_simp
                     with_reducible rfl
                    rotate_left
                    ·simp only [Act.put, List.setIfInBounds_toArray, List.set_cons_zero, List.set_cons_succ, i64_w, i32_w]
                     rfl
                    refine take_ (i := 1) (N := some 71) (v := ?_) (a' := ?_) #[true, true, true, true, false, true, true, true, false, false, false, false] rfl rfl (take_ofW HT_.out HW_.out (by kernel_rfl)) (fun _ _ _ h => h) (Or.inl ⟨by rfl, ?_⟩) hHeld ?_ ?_
                    rotate_left
                    ·rintro w' ⟨s0, s1, s2, s3, s4, s5, s6⟩
                     go_simp
                     with_reducible rfl
                    rotate_left
                    ·simp only [Act.put, List.setIfInBounds_toArray, List.set_cons_zero, List.set_cons_succ, i64_w, i32_w]
                     rfl
                    refine take_ (i := 4) (N := some 74) (v := ?_) (a' := ?_) #[true, true, true, true, true, true, true, true, false, false, false, false] rfl rfl (take_ofW HT_.out HW_.out (by kernel_rfl)) (fun _ _ _ h => h) (Or.inl ⟨by rfl, ?_⟩) hHeld ?_ ?_
                    rotate_left
                    ·rintro w' ⟨s0, s1, s2, s3, s4, s5, s6⟩
                     go_simp
                     with_reducible rfl
                    rotate_left
                    ·simp only [Act.put, List.setIfInBounds_toArray, List.set_cons_zero, List.set_cons_succ, i64_w, i32_w]
                     rfl
                    refine pure_ (i := 8) (N := some 78) (v := ?_) (a' := ?_) #[true, true, true, true, true, true, true, true, true, false, false, false] rfl rfl (any_of HT_.out (by kernel_rfl)) (fun _ _ _ h => h) (Or.inl ⟨by rfl, ?_⟩) ?_ ?_
                    rotate_left
                    ·intro w'
                     go_simp
                     with_reducible rfl
                    rotate_left
                    ·simp only [Act.put, List.setIfInBounds_toArray, List.set_cons_zero, List.set_cons_succ, i64_w, i32_w]
                     rfl
                    refine pure_ (i := 9) (N := some 79) (v := ?_) (a' := ?_) #[true, true, true, true, true, true, true, true, true, true, false, false] rfl rfl (any_of HT_.out (by kernel_rfl)) (fun _ _ _ h => h) (Or.inl ⟨by rfl, ?_⟩) ?_ ?_
                    rotate_left
                    ·intro w'
                     go_simp
                     with_reducible rfl
                    rotate_left
                    ·simp only [Act.put, List.setIfInBounds_toArray, List.set_cons_zero, List.set_cons_succ, i64_w, i32_w]
                     rfl
                    refine pure_ (i := 10) (N := some 80) (v := ?_) (a' := ?_) #[true, true, true, true, true, true, true, true, true, true, true, false] rfl rfl (any_of HT_.out (by kernel_rfl)) (fun _ _ _ h => h) (Or.inl ⟨by rfl, ?_⟩) ?_ ?_
                    rotate_left
                    ·intro w'
                     go_simp
                     with_reducible rfl
                    rotate_left
                    ·simp only [Act.put, List.setIfInBounds_toArray, List.set_cons_zero, List.set_cons_succ, i64_w, i32_w]
                     rfl
                    refine last_ (i := 11) (N := none) #[true, true, true, true, true, true, true, true, true, true, true, true] rfl rfl (one_of HT_.out (by kernel_rfl)) (by decide) (fun K hK => ?_)
                    have hs63 : w62.cell? ⟨gb268, 4, none⟩ = some (.string x269004_3) := (blk_cell BK268.out 4).trans rfl
                    have hfs63 := blk_frozen BK268.out 4
                    have hns63_0 := NB252_268.out
                    have hms63_0 := NB268_252.out
                    refine skip_ (w1 := ?_) (by rfl) rfl ?_ ?_
                    rotate_left
                    ·go_simp
                     rfl
                    refine hK.out _ _ ?_
                    clear hK K
                    refine done_ (done_of HT_.out (by kernel_rfl)) ?_
                    try go_wp2
                    go_roundg k3
                    case measure => have := HJ1.out; have := HJ4.out; have := HK3.out; omega
                    case rel => exact ⟨(true), (wrap64 (x7_3 + 1)), (x269003_3), (x269004_3 ++ ((rdOf ByteArray.empty t256 2).extract (x7_3 : Int).toNat ((wrap64 (x7_3 + 1)) : Int).toNat)), rs_, rs_, H', ⟨by have := HJ1.out; have := HJ4.out; have := HK3.out; omega⟩, ⟨by (with_reducible repeat (first | apply Kd.R_alloc | apply Kd.R_drewN | apply Kd.R_drew)); exact Kd.R_mono (Kd.R_far (p := ⟨gb268, 4, none⟩) (Kd.R_types HO_4.out BK268.out (by decide)) (fun _ hk => hk.2) (.string (x269004_3 ++ ((rdOf ByteArray.empty t256 2).extract (x7_3 : Int).toNat ((wrap64 (x7_3 + 1)) : Int).toNat)))) (fun _ hk => trivial)⟩, ⟨by (with_reducible repeat (first | refine blk_drewN ?_ _ | refine blk_drew ?_ | refine blk_alloc ?_ _)); refine blk_far ?_ NB252_268.out _; (with_reducible repeat (first | refine blk_drewN ?_ _ | refine blk_drew ?_ | refine blk_alloc ?_ _)); exact BK252.out⟩, ⟨by (with_reducible repeat (first | refine blk_drewN ?_ _ | refine blk_drew ?_ | refine blk_alloc ?_ _)); refine blk_put (cs := #[.int .i64 a0, .string (rdOf ByteArray.empty t256 0), .int .i64 t267, .string x269003_3, .string x269004_3, .bool true]) ?_ 4 _ rfl; (with_reducible repeat (first | refine blk_drewN ?_ _ | refine blk_drew ?_ | refine blk_alloc ?_ _)); exact BK268.out⟩, ⟨bs_⟩⟩
                   ·rw [if_neg c61] at H
                    exact absurd H (by simp)
                  ·rw [if_neg c60] at H
                   exact absurd H (by simp)
                 ·rw [if_neg c59] at H
                  exact absurd H (by simp)
                ·replace c57 := Bool.eq_false_iff.mpr c57
                 subst c57
                 have H1 : (if x7_3 ≤ (wrap64 (x7_3 + 1)) then (if (wrap64 (x7_3 + 1)) ≤ ((rdOf ByteArray.empty t256 2).size : Int) then (if x269003_3.size + ((rdOf ByteArray.empty t256 2).extract (x7_3 : Int).toNat ((wrap64 (x7_3 + 1)) : Int).toNat).size ≤ 9223372036854775807 then (bodkinref05_Of.l0 k3 t256 false (wrap64 (x7_3 + 1)) a0 (rdOf ByteArray.empty t256 0) t267 (x269003_3 ++ ((rdOf ByteArray.empty t256 2).extract (x7_3 : Int).toNat ((wrap64 (x7_3 + 1)) : Int).toNat)) x269004_3 true) else (none)) else (none)) else (none)) = some (r1, r2, r3, r4, r5, r6) := by rw [if_neg (show ¬ (false = true) by decide)] at H; exact H
                 clear H
                 have H := H1
                 clear H1
                 have c64b0 := eq_true (od_ : 0 ≤ x7_3)
                 by_cases c65 : x7_3 ≤ (wrap64 (x7_3 + 1))
                 ·rw [if_pos c65] at H
                  have c65b0 := eq_true c65
                  have c65b1 : decide (x7_3 ≤ (wrap64 (x7_3 + 1))) = true := decide_eq_true c65
                  by_cases c66 : (wrap64 (x7_3 + 1)) ≤ ((rdOf ByteArray.empty t256 2).size : Int)
                  ·rw [if_pos c66] at H
                   have c66b0 := eq_true c66
                   have c66b1 : decide ((wrap64 (x7_3 + 1)) ≤ ((rdOf ByteArray.empty t256 2).size : Int)) = true := decide_eq_true c66
                   by_cases c67 : x269003_3.size + ((rdOf ByteArray.empty t256 2).extract (x7_3 : Int).toNat ((wrap64 (x7_3 + 1)) : Int).toNat).size ≤ 9223372036854775807
                   ·rw [if_pos c67] at H
                    have c67b0 := eq_true c67
                    have c67b1 : decide (x269003_3.size + ((rdOf ByteArray.empty t256 2).extract (x7_3 : Int).toNat ((wrap64 (x7_3 + 1)) : Int).toNat).size ≤ 9223372036854775807) = true := decide_eq_true c67
                    try have c67b2 : (9223372036854775807 < x269003_3.size + ((rdOf ByteArray.empty t256 2).extract (x7_3 : Int).toNat ((wrap64 (x7_3 + 1)) : Int).toNat).size) = False := eq_false (Nat.not_lt.2 c67)
                    try have c67b3 : (9223372036854775807 < x269003_3.size + (((wrap64 (x7_3 + 1)) : Int).toNat - (x7_3 : Int).toNat)) = False := eq_false (by have h_ := c67; simp only [ByteArray.size_extract] at h_; omega)
                    have H' := Aside0.mk H
                    clear H
                    have p270 : 0 ≤ (2 : Int) := (by omega)
                    have q270 : 2 < (t256.length : Int) := od_
                    try (obtain ⟨ga_, ca_, hva_, _, _⟩ := Kd.R_reads HO_4.out; subst hva_)
                    obtain ⟨ad270, e270, hx270_0⟩ := Kd.at_string (Kd.R_reads' HO_4.out).2.2 2 p270 q270
                    obtain rfl : ad265 = ad270 := (by injection e270)
                    (try simp only [show (2 : Int).toNat = 2 from rfl, Nat.reduceMul, Nat.reduceEqDiff, Go.Addr.add, ↓reduceIte] at hx270_0)
                    have qi270 : (2 < t256.length) = True := eq_true (by omega)
                    (try rw [show ((2 : Int)).toNat = 2 from rfl] at hx270_0)
                    replace p270 := eq_true p270
                    replace q270 := eq_true q270
                    have p271 : 0 ≤ (2 : Int) := (by omega)
                    have q271 : 2 < (t256.length : Int) := od_
                    try (obtain ⟨ga_, ca_, hva_, _, _⟩ := Kd.R_reads HO_4.out; subst hva_)
                    obtain ⟨ad271, e271, hx271_0⟩ := Kd.at_string (Kd.R_reads' HO_4.out).2.2 2 p271 q271
                    obtain rfl : ad265 = ad271 := (by injection e271)
                    (try simp only [show (2 : Int).toNat = 2 from rfl, Nat.reduceMul, Nat.reduceEqDiff, Go.Addr.add, ↓reduceIte] at hx271_0)
                    have qi271 : (2 < t256.length) = True := eq_true (by omega)
                    (try rw [show ((2 : Int)).toNat = 2 from rfl] at hx271_0)
                    replace p271 := eq_true p271
                    replace q271 := eq_true q271
                    have p55 : 0 ≤ (x7_3 : Int) := od_
                    have q55 : x7_3 < ((rdOf ByteArray.empty t256 2).size : Int) := od_
                    have hx55 := bt_at (rdOf ByteArray.empty t256 2) x7_3
                    replace p55 := eq_true p55
                    replace q55 := eq_true q55
                    try go_wp2
                    have n0_ := Aside0.mk (Kd.R_drew HO_4.out)
                    have n1_ := Aside0.mk (blk_drew BK252.out)
                    have n2_ := Aside0.mk (blk_drew BK268.out)
                    have n3_ := Aside0.mk (below_drew1 HB.out)
                    clear HO_4
                    clear BK252
                    clear BK268
                    clear HB
                    have HO_4 := n0_
                    have BK252 := n1_
                    have BK268 := n2_
                    have HB := n3_
                    clear n0_ n1_ n2_ n3_
                    have p273 : 0 ≤ (2 : Int) := (by omega)
                    have q273 : 2 < (t256.length : Int) := od_
                    try (obtain ⟨ga_, ca_, hva_, _, _⟩ := Kd.R_reads HO_4.out; subst hva_)
                    obtain ⟨ad273, e273, hx273_0⟩ := Kd.at_string (Kd.R_reads' HO_4.out).2.2 2 p273 q273
                    obtain rfl : ad265 = ad273 := (by injection e273)
                    (try simp only [show (2 : Int).toNat = 2 from rfl, Nat.reduceMul, Nat.reduceEqDiff, Go.Addr.add, ↓reduceIte] at hx273_0)
                    have qi273 : (2 < t256.length) = True := eq_true (by omega)
                    (try rw [show ((2 : Int)).toNat = 2 from rfl] at hx273_0)
                    replace p273 := eq_true p273
                    replace q273 := eq_true q273
                    refine start_ (n := 12) (S := fun w' => w'.cell? ⟨gb268, 0, none⟩ = some (.int .i64 a0) ∧ w'.cell? ⟨gb268, 1, none⟩ = some (.string (rdOf ByteArray.empty t256 0)) ∧ w'.cell? ⟨gb268, 2, none⟩ = some (.int .i64 t267) ∧ w'.cell? ⟨gb268, 3, none⟩ = some (.string x269003_3) ∧ w'.cell? ⟨gb268, 4, none⟩ = some (.string x269004_3) ∧ w'.cell? ⟨gb268, 5, none⟩ = some (.bool true) ∧ w'.cell? ⟨ad265.block, ad265.off + 2, none⟩ = some (.string (rdOf ByteArray.empty t256 2))) (ds := [11]) #[false, false, false, false, false, false, false, false, false, false, false, false] (by kernel_rfl) rfl rfl ⟨(blk_cell BK268.out 0).trans rfl, (blk_cell BK268.out 1).trans rfl, (blk_cell BK268.out 2).trans rfl, (blk_cell BK268.out 3).trans rfl, (blk_cell BK268.out 4).trans rfl, (blk_cell BK268.out 5).trans rfl, hx273_0⟩ (fun hHeld => ?_); refine with_tabW bodkinref05_Of.tab23 bodkinref05_Of.bits23 (fun HT_ HW_ => ?_)
                    generalize wr.drew = w68 at HO_4 BK252 BK268 HB hx273_0 hHeld ⊢
                    refine pure_ (i := 0) (N := some 81) (v := ?_) (a' := ?_) #[true, false, false, false, false, false, false, false, false, false, false, false] rfl rfl (any_of HT_.out (by kernel_rfl)) (fun _ _ _ h => h) (Or.inl ⟨by rfl, ?_⟩) ?_ ?_
                    rotate_left
                    ·intro w'
                     go_simp
                     with_reducible rfl
                    rotate_left
                    ·simp only [Act.put, List.setIfInBounds_toArray, List.set_cons_zero, List.set_cons_succ, i64_w, i32_w]
                     rfl
                    refine pure_ (i := 2) (N := some 83) (v := ?_) (a' := ?_) #[true, false, true, false, false, false, false, false, false, false, false, false] rfl rfl (any_of HT_.out (by kernel_rfl)) (fun _ _ _ h => h) (Or.inl ⟨by rfl, ?_⟩) ?_ ?_
                    rotate_left
                    ·intro w'
                     go_simp
                     with_reducible rfl
                    rotate_left
                    ·simp only [Act.put, List.setIfInBounds_toArray, List.set_cons_zero, List.set_cons_succ, i64_w, i32_w]
                     rfl
                    refine pure_ (i := 3) (N := some 84) (v := ?_) (a' := ?_) #[true, false, true, true, false, false, false, false, false, false, false, false] rfl rfl (any_of HT_.out (by kernel_rfl)) (fun _ _ _ h => h) (Or.inl ⟨by rfl, ?_⟩) ?_ ?_
                    rotate_left
                    ·intro w'
                     go_simp
                     with_reducible rfl
                    rotate_left
                    ·simp only [Act.put, List.setIfInBounds_toArray, List.set_cons_zero, List.set_cons_succ, i64_w, i32_w]
                     rfl
                    refine pure_ (i := 5) (N := some 86) (v := ?_) (a' := ?_) #[true, false, true, true, false, true, false, false, false, false, false, false] rfl rfl (any_of HT_.out (by kernel_rfl)) (fun _ _ _ h => h) (Or.inl ⟨by rfl, ?_⟩) ?_ ?_
                    rotate_left
                    ·intro w'
                     go_simp
                     with_reducible rfl
                    rotate_left
                    ·simp only [Act.put, List.setIfInBounds_toArray, List.set_cons_zero, List.set_cons_succ, i64_w, i32_w]
                     rfl
                    refine pure_ (i := 6) (N := some 87) (v := ?_) (a' := ?_) #[true, false, true, true, false, true, true, false, false, false, false, false] rfl rfl (any_of HT_.out (by kernel_rfl)) (fun _ _ _ h => h) (Or.inl ⟨by rfl, ?_⟩) ?_ ?_
                    rotate_left
                    ·intro w'
                     go_simp
                     with_reducible rfl
                    rotate_left
                    ·simp only [Act.put, List.setIfInBounds_toArray, List.set_cons_zero, List.set_cons_succ, i64_w, i32_w]
                     rfl
                    refine pure_ (i := 7) (N := some 88) (v := ?_) (a' := ?_) #[true, false, true, true, false, true, true, true, false, false, false, false] rfl rfl (any_of HT_.out (by kernel_rfl)) (fun _ _ _ h => h) (Or.inl ⟨by rfl, ?_⟩) ?_ ?_
                    rotate_left
                    ·intro w'
                     go_simp
                     with_reducible rfl
                    rotate_left
                    ·simp only [Act.put, List.setIfInBounds_toArray, List.set_cons_zero, List.set_cons_succ, i64_w, i32_w]
                     rfl
                    refine take_ (i := 1) (N := some 82) (v := ?_) (a' := ?_) #[true, true, true, true, false, true, true, true, false, false, false, false] rfl rfl (take_ofW HT_.out HW_.out (by kernel_rfl)) (fun _ _ _ h => h) (Or.inl ⟨by rfl, ?_⟩) hHeld ?_ ?_
                    rotate_left
                    ·rintro w' ⟨s0, s1, s2, s3, s4, s5, s6⟩
                     go_simp
                     with_reducible rfl
                    rotate_left
                    ·simp only [Act.put, List.setIfInBounds_toArray, List.set_cons_zero, List.set_cons_succ, i64_w, i32_w]
                     rfl
                    refine take_ (i := 4) (N := some 85) (v := ?_) (a' := ?_) #[true, true, true, true, true, true, true, true, false, false, false, false] rfl rfl (take_ofW HT_.out HW_.out (by kernel_rfl)) (fun _ _ _ h => h) (Or.inl ⟨by rfl, ?_⟩) hHeld ?_ ?_
                    rotate_left
                    ·rintro w' ⟨s0, s1, s2, s3, s4, s5, s6⟩
                     go_simp
                     with_reducible rfl
                    rotate_left
                    ·simp only [Act.put, List.setIfInBounds_toArray, List.set_cons_zero, List.set_cons_succ, i64_w, i32_w]
                     rfl
                    refine pure_ (i := 8) (N := some 89) (v := ?_) (a' := ?_) #[true, true, true, true, true, true, true, true, true, false, false, false] rfl rfl (any_of HT_.out (by kernel_rfl)) (fun _ _ _ h => h) (Or.inl ⟨by rfl, ?_⟩) ?_ ?_
                    rotate_left
                    ·intro w'
                     go_simp
                     with_reducible rfl
                    rotate_left
                    ·simp only [Act.put, List.setIfInBounds_toArray, List.set_cons_zero, List.set_cons_succ, i64_w, i32_w]
                     rfl
                    refine pure_ (i := 9) (N := some 90) (v := ?_) (a' := ?_) #[true, true, true, true, true, true, true, true, true, true, false, false] rfl rfl (any_of HT_.out (by kernel_rfl)) (fun _ _ _ h => h) (Or.inl ⟨by rfl, ?_⟩) ?_ ?_
                    rotate_left
                    ·intro w'
                     go_simp
                     with_reducible rfl
                    rotate_left
                    ·simp only [Act.put, List.setIfInBounds_toArray, List.set_cons_zero, List.set_cons_succ, i64_w, i32_w]
                     rfl
                    refine pure_ (i := 10) (N := some 91) (v := ?_) (a' := ?_) #[true, true, true, true, true, true, true, true, true, true, true, false] rfl rfl (any_of HT_.out (by kernel_rfl)) (fun _ _ _ h => h) (Or.inl ⟨by rfl, ?_⟩) ?_ ?_
                    rotate_left
                    ·intro w'
                     go_simp
                     with_reducible rfl
                    rotate_left
                    ·simp only [Act.put, List.setIfInBounds_toArray, List.set_cons_zero, List.set_cons_succ, i64_w, i32_w]
                     rfl
                    refine last_ (i := 11) (N := none) #[true, true, true, true, true, true, true, true, true, true, true, true] rfl rfl (one_of HT_.out (by kernel_rfl)) (by decide) (fun K hK => ?_)
                    have hs69 : w68.cell? ⟨gb268, 3, none⟩ = some (.string x269003_3) := (blk_cell BK268.out 3).trans rfl
                    have hfs69 := blk_frozen BK268.out 3
                    have hns69_0 := NB252_268.out
                    have hms69_0 := NB268_252.out
                    refine skip_ (w1 := ?_) (by rfl) rfl ?_ ?_
                    rotate_left
                    ·go_simp
                     rfl
                    refine hK.out _ _ ?_
                    clear hK K
                    refine done_ (done_of HT_.out (by kernel_rfl)) ?_
                    try go_wp2
                    go_roundg k3
                    case measure => have := HJ1.out; have := HJ4.out; have := HK3.out; omega
                    case rel => exact ⟨(false), (wrap64 (x7_3 + 1)), (x269003_3 ++ ((rdOf ByteArray.empty t256 2).extract (x7_3 : Int).toNat ((wrap64 (x7_3 + 1)) : Int).toNat)), (x269004_3), rs_, rs_, H', ⟨by have := HJ1.out; have := HJ4.out; have := HK3.out; omega⟩, ⟨by (with_reducible repeat (first | apply Kd.R_alloc | apply Kd.R_drewN | apply Kd.R_drew)); exact Kd.R_mono (Kd.R_far (p := ⟨gb268, 3, none⟩) (Kd.R_types HO_4.out BK268.out (by decide)) (fun _ hk => hk.2) (.string (x269003_3 ++ ((rdOf ByteArray.empty t256 2).extract (x7_3 : Int).toNat ((wrap64 (x7_3 + 1)) : Int).toNat)))) (fun _ hk => trivial)⟩, ⟨by (with_reducible repeat (first | refine blk_drewN ?_ _ | refine blk_drew ?_ | refine blk_alloc ?_ _)); refine blk_far ?_ NB252_268.out _; (with_reducible repeat (first | refine blk_drewN ?_ _ | refine blk_drew ?_ | refine blk_alloc ?_ _)); exact BK252.out⟩, ⟨by (with_reducible repeat (first | refine blk_drewN ?_ _ | refine blk_drew ?_ | refine blk_alloc ?_ _)); refine blk_put (cs := #[.int .i64 a0, .string (rdOf ByteArray.empty t256 0), .int .i64 t267, .string x269003_3, .string x269004_3, .bool true]) ?_ 3 _ rfl; (with_reducible repeat (first | refine blk_drewN ?_ _ | refine blk_drew ?_ | refine blk_alloc ?_ _)); exact BK268.out⟩, ⟨bs_⟩⟩
                   ·rw [if_neg c67] at H
                    exact absurd H (by simp)
                  ·rw [if_neg c66] at H
                   exact absurd H (by simp)
                 ·rw [if_neg c65] at H
                  exact absurd H (by simp)
              ·rw [if_neg c54] at H
               exact absurd H (by simp)
             ·rw [if_neg c53] at H
              have c53b0 : decide (x7_3 < ((rdOf ByteArray.empty t256 2).size : Int)) = false := decide_eq_false c53
              clear c53
              simp only [Option.some.injEq, Prod.mk.injEq] at H
              obtain ⟨rfl, rfl, rfl, rfl, rfl, rfl⟩ := H
              have p270 : 0 ≤ (2 : Int) := (by omega)
              have q270 : 2 < (t256.length : Int) := od_
              try (obtain ⟨ga_, ca_, hva_, _, _⟩ := Kd.R_reads HO_4.out; subst hva_)
              obtain ⟨ad270, e270, hx270_0⟩ := Kd.at_string (Kd.R_reads' HO_4.out).2.2 2 p270 q270
              obtain rfl : ad265 = ad270 := (by injection e270)
              (try simp only [show (2 : Int).toNat = 2 from rfl, Nat.reduceMul, Nat.reduceEqDiff, Go.Addr.add, ↓reduceIte] at hx270_0)
              have qi270 : (2 < t256.length) = True := eq_true (by omega)
              (try rw [show ((2 : Int)).toNat = 2 from rfl] at hx270_0)
              replace p270 := eq_true p270
              replace q270 := eq_true q270
              have hnb70 := NB268_252.out
              have hnc70 := NB252_268.out
              have hcz71_0 : wr.cell? ⟨gb268, 0, none⟩ = some (.int .i64 a0) := (blk_cell BK268.out 0).trans rfl
              have hcz71_1 : wr.cell? ⟨gb268, 1, none⟩ = some (.string (rdOf ByteArray.empty t256 0)) := (blk_cell BK268.out 1).trans rfl
              have hcz71_2 : wr.cell? ⟨gb268, 2, none⟩ = some (.int .i64 t267) := (blk_cell BK268.out 2).trans rfl
              have hcz71_3 : wr.cell? ⟨gb268, 3, none⟩ = some (.string x269003_3) := (blk_cell BK268.out 3).trans rfl
              have hcz71_4 : wr.cell? ⟨gb268, 4, none⟩ = some (.string x269004_3) := (blk_cell BK268.out 4).trans rfl
              have hcz71_5 : wr.cell? ⟨gb268, 5, none⟩ = some (.bool true) := (blk_cell BK268.out 5).trans rfl
              have hfz71_0 := blk_frozen BK268.out 0
              have hfz71_1 := blk_frozen BK268.out 1
              have hfz71_2 := blk_frozen BK268.out 2
              have hfz71_3 := blk_frozen BK268.out 3
              have hfz71_4 := blk_frozen BK268.out 4
              have hfz71_5 := blk_frozen BK268.out 5
              have hcz72_0 : wr.cell? ⟨gb252, 0, none⟩ = some (.int .i64 0) := (blk_cell BK252.out 0).trans rfl
              have hcz72_1 : wr.cell? ⟨gb252, 1, none⟩ = some (.string (⟨#[]⟩ : ByteArray)) := (blk_cell BK252.out 1).trans rfl
              have hcz72_2 : wr.cell? ⟨gb252, 2, none⟩ = some (.int .i64 0) := (blk_cell BK252.out 2).trans rfl
              have hcz72_3 : wr.cell? ⟨gb252, 3, none⟩ = some (.string (⟨#[]⟩ : ByteArray)) := (blk_cell BK252.out 3).trans rfl
              have hcz72_4 : wr.cell? ⟨gb252, 4, none⟩ = some (.string (⟨#[]⟩ : ByteArray)) := (blk_cell BK252.out 4).trans rfl
              have hcz72_5 : wr.cell? ⟨gb252, 5, none⟩ = some (.bool false) := (blk_cell BK252.out 5).trans rfl
              have hfz72_0 := blk_frozen BK252.out 0
              have hfz72_1 := blk_frozen BK252.out 1
              have hfz72_2 := blk_frozen BK252.out 2
              have hfz72_3 := blk_frozen BK252.out 3
              have hfz72_4 := blk_frozen BK252.out 4
              have hfz72_5 := blk_frozen BK252.out 5
              go_wp2
              refine bodyPost_ret (results_cell_row rfl _ _ gb252 25 #[.int .i64 a0, .string (rdOf ByteArray.empty t256 0), .int .i64 t267, .string x269003_3, .string x269004_3, .bool true] (0, 0) _ rfl (by (with_reducible repeat (first | refine blk_drewN ?_ _ | refine blk_drew ?_ | refine blk_alloc ?_ _)); refine blk_put (cs := #[.int .i64 a0, .string (rdOf ByteArray.empty t256 0), .int .i64 t267, .string x269003_3, .string x269004_3, .bool false]) ?_ 5 _ rfl; (with_reducible repeat (first | refine blk_drewN ?_ _ | refine blk_drew ?_ | refine blk_alloc ?_ _)); refine blk_put (cs := #[.int .i64 a0, .string (rdOf ByteArray.empty t256 0), .int .i64 t267, .string x269003_3, .string (⟨#[]⟩ : ByteArray), .bool false]) ?_ 4 _ rfl; (with_reducible repeat (first | refine blk_drewN ?_ _ | refine blk_drew ?_ | refine blk_alloc ?_ _)); refine blk_put (cs := #[.int .i64 a0, .string (rdOf ByteArray.empty t256 0), .int .i64 t267, .string (⟨#[]⟩ : ByteArray), .string (⟨#[]⟩ : ByteArray), .bool false]) ?_ 3 _ rfl; (with_reducible repeat (first | refine blk_drewN ?_ _ | refine blk_drew ?_ | refine blk_alloc ?_ _)); refine blk_put (cs := #[.int .i64 a0, .string (rdOf ByteArray.empty t256 0), .int .i64 0, .string (⟨#[]⟩ : ByteArray), .string (⟨#[]⟩ : ByteArray), .bool false]) ?_ 2 _ rfl; (with_reducible repeat (first | refine blk_drewN ?_ _ | refine blk_drew ?_ | refine blk_alloc ?_ _)); refine blk_put (cs := #[.int .i64 a0, .string (⟨#[]⟩ : ByteArray), .int .i64 0, .string (⟨#[]⟩ : ByteArray), .string (⟨#[]⟩ : ByteArray), .bool false]) ?_ 1 _ rfl; (with_reducible repeat (first | refine blk_drewN ?_ _ | refine blk_drew ?_ | refine blk_alloc ?_ _)); refine blk_put (cs := #[.int .i64 0, .string (⟨#[]⟩ : ByteArray), .int .i64 0, .string (⟨#[]⟩ : ByteArray), .string (⟨#[]⟩ : ByteArray), .bool false]) ?_ 0 _ rfl; (with_reducible repeat (first | refine blk_drewN ?_ _ | refine blk_drew ?_ | refine blk_alloc ?_ _)); exact BK252.out) Tryz.underlying25 rfl (by kernel_rfl)) rfl ?_
              exact ⟨er_, bs_⟩
            ·rw [if_neg c52] at H
             exact absurd H (by simp)
        ·rw [if_neg c23] at H
         exact absurd H (by simp)
       ·rw [if_neg c21] at H
        exact absurd H (by simp)
      ·rw [if_neg c20] at H
       exact absurd H (by simp)
     ·rw [if_neg c19] at H
      have c19b0 : ((t256.length : Int) == 3) = false := beq_eq_false_iff_ne.mpr c19
      have c19b1 : ((t256.length : Int) != 3) = true := bne_iff_ne.mpr c19
      replace H := Option.bind_eq_some_iff.mp H
      obtain ⟨⟨t259, t260, t261, t262, t263, t264⟩, A730, H⟩ := H
      replace H : (some (t259, t260, t261, t262, t263, t264)) = some (r1, r2, r3, r4, r5, r6) := H
      have A73 := Aside0.mk A730
      clear A730
      simp only [Option.some.injEq, Prod.mk.injEq] at H
      obtain ⟨rfl, rfl, rfl, rfl, rfl, rfl⟩ := H
      go_wp2_with (first | ((with_reducible refine gate_callee (f := 23) rfl ?_); refine goesL_ (some 35) rfl rfl Tryz.func23 (by kernel_rfl) rfl #[.string x3_4] rfl mp_ ?_; (with_reducible refine (bodkinref05_words.calls kj4 x3_4 t256 _ A18.out).mono ?_); rintro e w74 ⟨v257, rfl, ho0, hb⟩; refine ⟨_, rfl, ?_⟩; have n0_ := Aside0.mk (Kd.R_lower ho0 (below_size bs_)); have n1_ := Aside0.mk (blk_below (g := gb252) (o := .cells #[.int .i64 0, .string (⟨#[]⟩ : ByteArray), .int .i64 0, .string (⟨#[]⟩ : ByteArray), .string (⟨#[]⟩ : ByteArray), .bool false] 25 (0, 0)) (by (with_reducible repeat (first | refine blk_drewN ?_ _ | refine blk_drew ?_ | refine blk_alloc ?_ _)); exact BK252.out) hb); have n2_ := Aside0.mk (below_step bs_ hb); clear BK252; clear HB; have HO258 := n0_; have BK252 := n1_; have HB := n2_; clear n0_ n1_ n2_; (try clear hb); (try clear hb2); (try clear hk); (try clear hi); (try clear ho0); obtain ⟨Ao75, co75, eo75⟩ := Kd.R_slice HO258.out; subst eo75) | ((with_reducible refine gate_callee (f := 24) rfl ?_); refine goesL_ (some 39) rfl rfl Tryz.func24 (by kernel_rfl) rfl #[] rfl mp_ ?_; (with_reducible refine (bodkinref05_none.calls  t259 t260 t261 t262 t263 t264 _ A73.out).mono ?_); rintro e w76 ⟨rfl, hb⟩; refine ⟨_, rfl, ?_⟩; have n0_ := Aside0.mk (Kd.R_below (rl_ HO258) hb); have n1_ := Aside0.mk (blk_below (g := gb252) (o := .cells #[.int .i64 0, .string (⟨#[]⟩ : ByteArray), .int .i64 0, .string (⟨#[]⟩ : ByteArray), .string (⟨#[]⟩ : ByteArray), .bool false] 25 (0, 0)) (by (with_reducible repeat (first | refine blk_drewN ?_ _ | refine blk_drew ?_ | refine blk_alloc ?_ _)); exact BK252.out) hb); have n2_ := Aside0.mk (below_step bs_ hb); clear HO258; clear BK252; clear HB; have HO258 := n0_; have BK252 := n1_; have HB := n2_; clear n0_ n1_ n2_; (try clear hb); (try clear hb2); (try clear hk); (try clear hi); have hcz77_0 : w76.cell? ⟨gb252, 0, none⟩ = some (.int .i64 0) := (blk_cell BK252.out 0).trans rfl; have hcz77_1 : w76.cell? ⟨gb252, 1, none⟩ = some (.string (⟨#[]⟩ : ByteArray)) := (blk_cell BK252.out 1).trans rfl; have hcz77_2 : w76.cell? ⟨gb252, 2, none⟩ = some (.int .i64 0) := (blk_cell BK252.out 2).trans rfl; have hcz77_3 : w76.cell? ⟨gb252, 3, none⟩ = some (.string (⟨#[]⟩ : ByteArray)) := (blk_cell BK252.out 3).trans rfl; have hcz77_4 : w76.cell? ⟨gb252, 4, none⟩ = some (.string (⟨#[]⟩ : ByteArray)) := (blk_cell BK252.out 4).trans rfl; have hcz77_5 : w76.cell? ⟨gb252, 5, none⟩ = some (.bool false) := (blk_cell BK252.out 5).trans rfl; have hfz77_0 := blk_frozen BK252.out 0; have hfz77_1 := blk_frozen BK252.out 1; have hfz77_2 := blk_frozen BK252.out 2; have hfz77_3 := blk_frozen BK252.out 3; have hfz77_4 := blk_frozen BK252.out 4; have hfz77_5 := blk_frozen BK252.out 5))
      refine bodyPost_ret (results_cell_row rfl _ _ gb252 25 #[.int .i64 t259, .string t260, .int .i64 t261, .string t262, .string t263, .bool t264] (0, 0) _ rfl (by (with_reducible repeat (first | refine blk_drewN ?_ _ | refine blk_drew ?_ | refine blk_alloc ?_ _)); refine blk_put (cs := #[.int .i64 t259, .string t260, .int .i64 t261, .string t262, .string t263, .bool false]) ?_ 5 _ rfl; (with_reducible repeat (first | refine blk_drewN ?_ _ | refine blk_drew ?_ | refine blk_alloc ?_ _)); refine blk_put (cs := #[.int .i64 t259, .string t260, .int .i64 t261, .string t262, .string (⟨#[]⟩ : ByteArray), .bool false]) ?_ 4 _ rfl; (with_reducible repeat (first | refine blk_drewN ?_ _ | refine blk_drew ?_ | refine blk_alloc ?_ _)); refine blk_put (cs := #[.int .i64 t259, .string t260, .int .i64 t261, .string (⟨#[]⟩ : ByteArray), .string (⟨#[]⟩ : ByteArray), .bool false]) ?_ 3 _ rfl; (with_reducible repeat (first | refine blk_drewN ?_ _ | refine blk_drew ?_ | refine blk_alloc ?_ _)); refine blk_put (cs := #[.int .i64 t259, .string t260, .int .i64 0, .string (⟨#[]⟩ : ByteArray), .string (⟨#[]⟩ : ByteArray), .bool false]) ?_ 2 _ rfl; (with_reducible repeat (first | refine blk_drewN ?_ _ | refine blk_drew ?_ | refine blk_alloc ?_ _)); refine blk_put (cs := #[.int .i64 t259, .string (⟨#[]⟩ : ByteArray), .int .i64 0, .string (⟨#[]⟩ : ByteArray), .string (⟨#[]⟩ : ByteArray), .bool false]) ?_ 1 _ rfl; (with_reducible repeat (first | refine blk_drewN ?_ _ | refine blk_drew ?_ | refine blk_alloc ?_ _)); refine blk_put (cs := #[.int .i64 0, .string (⟨#[]⟩ : ByteArray), .int .i64 0, .string (⟨#[]⟩ : ByteArray), .string (⟨#[]⟩ : ByteArray), .bool false]) ?_ 0 _ rfl; (with_reducible repeat (first | refine blk_drewN ?_ _ | refine blk_drew ?_ | refine blk_alloc ?_ _)); exact BK252.out) Tryz.underlying25 rfl (by kernel_rfl)) rfl ?_
      exact ⟨er_, bs_⟩
end Go.Proofs.YtkhhhceeoljheaaGreatDoor.PHel

import Derived.Test.YtkhhhceeoljheaaGreatDoorInPIntx11
import Derived.Test.YtkhhhceeoljheaaGreatDoorInPIntx12
import Derived.Outline
namespace Go.Proofs.YtkhhhceeoljheaaGreatDoor.PInt
open Go.RowKit Go.Proofs.YtkhhhceeoljheaaGreatDoorW.PrintWords Go.Proofs.YtkhhhceeoljheaaGreatDoorW.PrintLast Go.Proofs.YtkhhhceeoljheaaGreatDoorW.PrintMore
attribute [local go_sem] max2_int min2_int max_two min_two max_three min_three max_four min_four   
set_option linter.unusedVariables false
set_option linter.unusedSimpArgs false
mutual
def bodkinref02_Bin.j0 : Nat → Int → Int → Int → Int → Bool → Option (Int × Int)
 | 0, _, _, _, _, _ => none
 | k + 1, x0, x1, x2, x3, x39 => if x39 = true then (some (0, 1)) else ((bodkinref02_Cut.f k x0 x2).bind fun t305 => ((bodkinref02_Cut.f k x0 x3).bind fun t306 => ((bodkinref02_Signed.f k x0 t305).bind fun t307 => ((bodkinref02_Signed.f k x0 t306).bind fun t308 => (if (IntKind.u64.wrap (x0)) = 0 then (none) else (if x1 = 1 then ((bodkinref02_Cut.f k x0 (IntKind.u64.wrap (t305 + t306))).bind fun t309 => (some (t309, 0))) else (if x1 = 2 then ((bodkinref02_Cut.f k x0 (IntKind.u64.wrap (t305 - t306))).bind fun t310 => (some (t310, 0))) else (if x1 = 3 then (bodkinref02_Bin.l0 k x0 t305 t306 0 0) else (if x1 = 4 then (bodkinref02_Bin.j2 k x0 x1 t305 t306 t307 t308 (wrap64 (Int.tmod t306 (IntKind.u64.wrap (x0)))) x1 (x1 == 4)) else (if x1 = 5 then (bodkinref02_Bin.j2 k x0 x1 t305 t306 t307 t308 (wrap64 (Int.tmod t306 (IntKind.u64.wrap (x0)))) x1 (x1 == 5)) else (if x1 = 6 then (bodkinref02_Bin.j2 k x0 x1 t305 t306 t307 t308 (wrap64 (Int.tmod t306 (IntKind.u64.wrap (x0)))) x1 (x1 == 6)) else (bodkinref02_Bin.j2 k x0 x1 t305 t306 t307 t308 (wrap64 (Int.tmod t306 (IntKind.u64.wrap (x0)))) x1 (x1 == 7)))))))))))))
def bodkinref02_Bin.l0 : Nat → Int → Int → Int → Int → Int → Option (Int × Int)
 | 0, _, _, _, _, _ => none
 | k + 1, x0, x2, x3, x14, x15 => if x15 < x0 then ((bodkinref02_bit.f k x3 x15).bind fun t311 => (if t311 = 1 then (bodkinref02_Bin.l0 k x0 (IntKind.u64.wrap (x2 * 2)) x3 (IntKind.u64.wrap (x14 + x2)) (wrap64 (x15 + 1))) else (bodkinref02_Bin.l0 k x0 (IntKind.u64.wrap (x2 * 2)) x3 x14 (wrap64 (x15 + 1))))) else ((bodkinref02_Cut.f k x0 x14).bind fun t312 => (some (t312, 0)))
def bodkinref02_Bin.j2 : Nat → Int → Int → Int → Int → Int → Int → Int → Int → Bool → Option (Int × Int)
 | 0, _, _, _, _, _, _, _, _, _ => none
 | k + 1, x0, x1, x2, x3, x11, x12, x13, x57, x91 => if x91 = true then ((bodkinref02_divided.f k x0 x1 x2 x3 x11 x12).bind fun bt313 => (some (bt313.1, bt313.2))) else (if x57 = 8 then (bodkinref02_Bin.j3 k x0 x1 x2 x3 x11 x12 x13 x57 (x57 == 8)) else (if x57 = 9 then (bodkinref02_Bin.j3 k x0 x1 x2 x3 x11 x12 x13 x57 (x57 == 9)) else (bodkinref02_Bin.j3 k x0 x1 x2 x3 x11 x12 x13 x57 (x57 == 10))))
def bodkinref02_Bin.j3 : Nat → Int → Int → Int → Int → Int → Int → Int → Int → Bool → Option (Int × Int)
 | 0, _, _, _, _, _, _, _, _, _ => none
 | k + 1, x0, x1, x2, x3, x11, x12, x13, x57, x105 => if x105 = true then ((bodkinref02_list.f k x0 x2).bind fun t315 => ((bodkinref02_list.f k x0 x3).bind fun t318 => (bodkinref02_Bin.l1 k x0 x1 t315 t318 0))) else (if x57 = 11 then (bodkinref02_Bin.j5 k x0 x1 x2 x3 x11 x12 x13 (x57 == 11)) else (if x57 = 12 then (bodkinref02_Bin.j5 k x0 x1 x2 x3 x11 x12 x13 (x57 == 12)) else (if x57 = 13 then (bodkinref02_Bin.j5 k x0 x1 x2 x3 x11 x12 x13 (x57 == 13)) else (if x57 = 14 then (bodkinref02_Bin.j5 k x0 x1 x2 x3 x11 x12 x13 (x57 == 14)) else (bodkinref02_Bin.j5 k x0 x1 x2 x3 x11 x12 x13 (x57 == 15))))))
def bodkinref02_Bin.l1 : Nat → Int → Int → List Int → List Int → Int → Option (Int × Int)
 | 0, _, _, _, _, _ => none
 | k + 1, x0, x1, x16, x17, x18 => if x18 < x0 then (if 0 ≤ x18 then (if x18 < (x16.length : Int) then (if x18 < (x17.length : Int) then ((some (x16.set (x18 : Int).toNat 0 : List Int)).bind fun y323 => (if x1 = 8 then (if (IntKind.u64.wrap ((rd x16 x18) + (rd x17 x18))) = 2 then (bodkinref02_Bin.l1 k x0 x1 (y323.set (x18 : Int).toNat 1) x17 (wrap64 (x18 + 1))) else (if x1 = 9 then (if (IntKind.u64.wrap ((rd x16 x18) + (rd x17 x18))) > 0 then (bodkinref02_Bin.l1 k x0 x1 (y323.set (x18 : Int).toNat 1) x17 (wrap64 (x18 + 1))) else (if x1 = 10 then (if (IntKind.u64.wrap ((rd x16 x18) + (rd x17 x18))) = 1 then (bodkinref02_Bin.l1 k x0 x1 (y323.set (x18 : Int).toNat 1) x17 (wrap64 (x18 + 1))) else (bodkinref02_Bin.l1 k x0 x1 y323 x17 (wrap64 (x18 + 1)))) else (bodkinref02_Bin.l1 k x0 x1 y323 x17 (wrap64 (x18 + 1))))) else (if x1 = 10 then (if (IntKind.u64.wrap ((rd x16 x18) + (rd x17 x18))) = 1 then (bodkinref02_Bin.l1 k x0 x1 (y323.set (x18 : Int).toNat 1) x17 (wrap64 (x18 + 1))) else (bodkinref02_Bin.l1 k x0 x1 y323 x17 (wrap64 (x18 + 1)))) else (bodkinref02_Bin.l1 k x0 x1 y323 x17 (wrap64 (x18 + 1)))))) else (if x1 = 9 then (if (IntKind.u64.wrap ((rd x16 x18) + (rd x17 x18))) > 0 then (bodkinref02_Bin.l1 k x0 x1 (y323.set (x18 : Int).toNat 1) x17 (wrap64 (x18 + 1))) else (if x1 = 10 then (if (IntKind.u64.wrap ((rd x16 x18) + (rd x17 x18))) = 1 then (bodkinref02_Bin.l1 k x0 x1 (y323.set (x18 : Int).toNat 1) x17 (wrap64 (x18 + 1))) else (bodkinref02_Bin.l1 k x0 x1 y323 x17 (wrap64 (x18 + 1)))) else (bodkinref02_Bin.l1 k x0 x1 y323 x17 (wrap64 (x18 + 1))))) else (if x1 = 10 then (if (IntKind.u64.wrap ((rd x16 x18) + (rd x17 x18))) = 1 then (bodkinref02_Bin.l1 k x0 x1 (y323.set (x18 : Int).toNat 1) x17 (wrap64 (x18 + 1))) else (bodkinref02_Bin.l1 k x0 x1 y323 x17 (wrap64 (x18 + 1)))) else (bodkinref02_Bin.l1 k x0 x1 y323 x17 (wrap64 (x18 + 1))))))) else (none)) else (none)) else (none)) else ((bodkinref02_of.f k x16).bind fun t331 => (some (t331, 0)))
def bodkinref02_Bin.j5 : Nat → Int → Int → Int → Int → Int → Int → Int → Bool → Option (Int × Int)
 | 0, _, _, _, _, _, _, _, _ => none
 | k + 1, x0, x1, x2, x3, x11, x12, x13, x159 => if x159 = true then ((bodkinref02_moved.f k x0 x1 x2 x13).bind fun t332 => (some (t332, 0))) else ((bodkinref02_held.f x0 x1 x2 x3 x11 x12).bind fun t333 => (some (t333, 0)))
end
def bodkinref02_Bin.g (k : Nat) (a0 : Int) (a1 : Int) (a2 : Int) (a3 : Int) : Option (Int × Int) := (bodkinref02_Right.f a0).bind fun t304 => (if t304 = true then (if a1 < 1 then (bodkinref02_Bin.j0 k a0 a1 a2 a3 true) else (if a1 > 25 then (bodkinref02_Bin.j0 k a0 a1 a2 a3 true) else (if a1 = 25 then (bodkinref02_Bin.j0 k a0 a1 a2 a3 (a0 != 16)) else (bodkinref02_Bin.j0 k a0 a1 a2 a3 false)))) else (bodkinref02_Bin.j0 k a0 a1 a2 a3 true))
theorem bodkinref02_Bin.mono_l : ∀ k, (∀ y0 y1 y2 y3 y4, LeO (bodkinref02_Bin.j0 k y0 y1 y2 y3 y4) (bodkinref02_Bin.j0 (k + 1) y0 y1 y2 y3 y4)) ∧ (∀ y0 y1 y2 y3 y4, LeO (bodkinref02_Bin.l0 k y0 y1 y2 y3 y4) (bodkinref02_Bin.l0 (k + 1) y0 y1 y2 y3 y4)) ∧ (∀ y0 y1 y2 y3 y4 y5 y6 y7 y8, LeO (bodkinref02_Bin.j2 k y0 y1 y2 y3 y4 y5 y6 y7 y8) (bodkinref02_Bin.j2 (k + 1) y0 y1 y2 y3 y4 y5 y6 y7 y8)) ∧ (∀ y0 y1 y2 y3 y4 y5 y6 y7 y8, LeO (bodkinref02_Bin.j3 k y0 y1 y2 y3 y4 y5 y6 y7 y8) (bodkinref02_Bin.j3 (k + 1) y0 y1 y2 y3 y4 y5 y6 y7 y8)) ∧ (∀ y0 y1 y2 y3 y4, LeO (bodkinref02_Bin.l1 k y0 y1 y2 y3 y4) (bodkinref02_Bin.l1 (k + 1) y0 y1 y2 y3 y4)) ∧ (∀ y0 y1 y2 y3 y4 y5 y6 y7, LeO (bodkinref02_Bin.j5 k y0 y1 y2 y3 y4 y5 y6 y7) (bodkinref02_Bin.j5 (k + 1) y0 y1 y2 y3 y4 y5 y6 y7))
 | 0 => ⟨fun _ _ _ _ _ r h => by simp [bodkinref02_Bin.j0] at h, fun _ _ _ _ _ r h => by simp [bodkinref02_Bin.l0] at h, fun _ _ _ _ _ _ _ _ _ r h => by simp [bodkinref02_Bin.j2] at h, fun _ _ _ _ _ _ _ _ _ r h => by simp [bodkinref02_Bin.j3] at h, fun _ _ _ _ _ r h => by simp [bodkinref02_Bin.l1] at h, fun _ _ _ _ _ _ _ _ r h => by simp [bodkinref02_Bin.j5] at h⟩
 | k + 1 => by
  obtain ⟨ih0, ih1, ih2, ih3, ih4, ih5⟩ := bodkinref02_Bin.mono_l k
  refine ⟨?_, ?_, ?_, ?_, ?_, ?_⟩
  ·intro y0 y1 y2 y3 y4
   unfold bodkinref02_Bin.j0
   repeat' first
   | (with_reducible exact ih0 _ _ _ _ _)
   | (with_reducible exact ih1 _ _ _ _ _)
   | (with_reducible exact ih2 _ _ _ _ _ _ _ _ _)
   | (with_reducible exact ih3 _ _ _ _ _ _ _ _ _)
   | (with_reducible exact ih4 _ _ _ _ _)
   | (with_reducible exact ih5 _ _ _ _ _ _ _ _)
   | (with_reducible exact bodkinref02_Cut.mono _ _ _)
   | (with_reducible exact bodkinref02_Signed.mono _ _ _)
   | (with_reducible exact bodkinref02_bit.mono _ _ _)
   | (with_reducible exact bodkinref02_divided.mono _ _ _ _ _ _ _)
   | (with_reducible exact bodkinref02_list.mono _ _ _)
   | (with_reducible exact bodkinref02_moved.mono _ _ _ _ _)
   | (with_reducible exact bodkinref02_of.mono _ _)
   | (with_reducible exact LeO.refl _)
   | (with_reducible exact LeO.none _)
   | (with_reducible refine LeO.ite ?_ ?_)
   | (with_reducible refine LeO.bind ?_ (fun _ => ?_))
   | exact ih0 _ _ _ _ _
   | exact ih1 _ _ _ _ _
   | exact ih2 _ _ _ _ _ _ _ _ _
   | exact ih3 _ _ _ _ _ _ _ _ _
   | exact ih4 _ _ _ _ _
   | exact ih5 _ _ _ _ _ _ _ _
   | exact bodkinref02_Cut.mono _ _ _
   | exact bodkinref02_Signed.mono _ _ _
   | exact bodkinref02_bit.mono _ _ _
   | exact bodkinref02_divided.mono _ _ _ _ _ _ _
   | exact bodkinref02_list.mono _ _ _
   | exact bodkinref02_moved.mono _ _ _ _ _
   | exact bodkinref02_of.mono _ _
   | exact LeO.none _
   | refine LeO.ite ?_ ?_
   | refine LeO.bind ?_ (fun _ => ?_)
  ·intro y0 y1 y2 y3 y4
   unfold bodkinref02_Bin.l0
   repeat' first
   | (with_reducible exact ih0 _ _ _ _ _)
   | (with_reducible exact ih1 _ _ _ _ _)
   | (with_reducible exact ih2 _ _ _ _ _ _ _ _ _)
   | (with_reducible exact ih3 _ _ _ _ _ _ _ _ _)
   | (with_reducible exact ih4 _ _ _ _ _)
   | (with_reducible exact ih5 _ _ _ _ _ _ _ _)
   | (with_reducible exact bodkinref02_Cut.mono _ _ _)
   | (with_reducible exact bodkinref02_Signed.mono _ _ _)
   | (with_reducible exact bodkinref02_bit.mono _ _ _)
   | (with_reducible exact bodkinref02_divided.mono _ _ _ _ _ _ _)
   | (with_reducible exact bodkinref02_list.mono _ _ _)
   | (with_reducible exact bodkinref02_moved.mono _ _ _ _ _)
   | (with_reducible exact bodkinref02_of.mono _ _)
   | (with_reducible exact LeO.refl _)
   | (with_reducible exact LeO.none _)
   | (with_reducible refine LeO.ite ?_ ?_)
   | (with_reducible refine LeO.bind ?_ (fun _ => ?_))
   | exact ih0 _ _ _ _ _
   | exact ih1 _ _ _ _ _
   | exact ih2 _ _ _ _ _ _ _ _ _
   | exact ih3 _ _ _ _ _ _ _ _ _
   | exact ih4 _ _ _ _ _
   | exact ih5 _ _ _ _ _ _ _ _
   | exact bodkinref02_Cut.mono _ _ _
   | exact bodkinref02_Signed.mono _ _ _
   | exact bodkinref02_bit.mono _ _ _
   | exact bodkinref02_divided.mono _ _ _ _ _ _ _
   | exact bodkinref02_list.mono _ _ _
   | exact bodkinref02_moved.mono _ _ _ _ _
   | exact bodkinref02_of.mono _ _
   | exact LeO.none _
   | refine LeO.ite ?_ ?_
   | refine LeO.bind ?_ (fun _ => ?_)
  ·intro y0 y1 y2 y3 y4 y5 y6 y7 y8
   unfold bodkinref02_Bin.j2
   repeat' first
   | (with_reducible exact ih0 _ _ _ _ _)
   | (with_reducible exact ih1 _ _ _ _ _)
   | (with_reducible exact ih2 _ _ _ _ _ _ _ _ _)
   | (with_reducible exact ih3 _ _ _ _ _ _ _ _ _)
   | (with_reducible exact ih4 _ _ _ _ _)
   | (with_reducible exact ih5 _ _ _ _ _ _ _ _)
   | (with_reducible exact bodkinref02_Cut.mono _ _ _)
   | (with_reducible exact bodkinref02_Signed.mono _ _ _)
   | (with_reducible exact bodkinref02_bit.mono _ _ _)
   | (with_reducible exact bodkinref02_divided.mono _ _ _ _ _ _ _)
   | (with_reducible exact bodkinref02_list.mono _ _ _)
   | (with_reducible exact bodkinref02_moved.mono _ _ _ _ _)
   | (with_reducible exact bodkinref02_of.mono _ _)
   | (with_reducible exact LeO.refl _)
   | (with_reducible exact LeO.none _)
   | (with_reducible refine LeO.ite ?_ ?_)
   | (with_reducible refine LeO.bind ?_ (fun _ => ?_))
   | exact ih0 _ _ _ _ _
   | exact ih1 _ _ _ _ _
   | exact ih2 _ _ _ _ _ _ _ _ _
   | exact ih3 _ _ _ _ _ _ _ _ _
   | exact ih4 _ _ _ _ _
   | exact ih5 _ _ _ _ _ _ _ _
   | exact bodkinref02_Cut.mono _ _ _
   | exact bodkinref02_Signed.mono _ _ _
   | exact bodkinref02_bit.mono _ _ _
   | exact bodkinref02_divided.mono _ _ _ _ _ _ _
   | exact bodkinref02_list.mono _ _ _
   | exact bodkinref02_moved.mono _ _ _ _ _
   | exact bodkinref02_of.mono _ _
   | exact LeO.none _
   | refine LeO.ite ?_ ?_
   | refine LeO.bind ?_ (fun _ => ?_)
  ·intro y0 y1 y2 y3 y4 y5 y6 y7 y8
   unfold bodkinref02_Bin.j3
   repeat' first
   | (with_reducible exact ih0 _ _ _ _ _)
   | (with_reducible exact ih1 _ _ _ _ _)
   | (with_reducible exact ih2 _ _ _ _ _ _ _ _ _)
   | (with_reducible exact ih3 _ _ _ _ _ _ _ _ _)
   | (with_reducible exact ih4 _ _ _ _ _)
   | (with_reducible exact ih5 _ _ _ _ _ _ _ _)
   | (with_reducible exact bodkinref02_Cut.mono _ _ _)
   | (with_reducible exact bodkinref02_Signed.mono _ _ _)
   | (with_reducible exact bodkinref02_bit.mono _ _ _)
   | (with_reducible exact bodkinref02_divided.mono _ _ _ _ _ _ _)
   | (with_reducible exact bodkinref02_list.mono _ _ _)
   | (with_reducible exact bodkinref02_moved.mono _ _ _ _ _)
   | (with_reducible exact bodkinref02_of.mono _ _)
   | (with_reducible exact LeO.refl _)
   | (with_reducible exact LeO.none _)
   | (with_reducible refine LeO.ite ?_ ?_)
   | (with_reducible refine LeO.bind ?_ (fun _ => ?_))
   | exact ih0 _ _ _ _ _
   | exact ih1 _ _ _ _ _
   | exact ih2 _ _ _ _ _ _ _ _ _
   | exact ih3 _ _ _ _ _ _ _ _ _
   | exact ih4 _ _ _ _ _
   | exact ih5 _ _ _ _ _ _ _ _
   | exact bodkinref02_Cut.mono _ _ _
   | exact bodkinref02_Signed.mono _ _ _
   | exact bodkinref02_bit.mono _ _ _
   | exact bodkinref02_divided.mono _ _ _ _ _ _ _
   | exact bodkinref02_list.mono _ _ _
   | exact bodkinref02_moved.mono _ _ _ _ _
   | exact bodkinref02_of.mono _ _
   | exact LeO.none _
   | refine LeO.ite ?_ ?_
   | refine LeO.bind ?_ (fun _ => ?_)
  ·intro y0 y1 y2 y3 y4
   unfold bodkinref02_Bin.l1
   repeat' first
   | (with_reducible exact ih0 _ _ _ _ _)
   | (with_reducible exact ih1 _ _ _ _ _)
   | (with_reducible exact ih2 _ _ _ _ _ _ _ _ _)
   | (with_reducible exact ih3 _ _ _ _ _ _ _ _ _)
   | (with_reducible exact ih4 _ _ _ _ _)
   | (with_reducible exact ih5 _ _ _ _ _ _ _ _)
   | (with_reducible exact bodkinref02_Cut.mono _ _ _)
   | (with_reducible exact bodkinref02_Signed.mono _ _ _)
   | (with_reducible exact bodkinref02_bit.mono _ _ _)
   | (with_reducible exact bodkinref02_divided.mono _ _ _ _ _ _ _)
   | (with_reducible exact bodkinref02_list.mono _ _ _)
   | (with_reducible exact bodkinref02_moved.mono _ _ _ _ _)
   | (with_reducible exact bodkinref02_of.mono _ _)
   | (with_reducible exact LeO.refl _)
   | (with_reducible exact LeO.none _)
   | (with_reducible refine LeO.ite ?_ ?_)
   | (with_reducible refine LeO.bind ?_ (fun _ => ?_))
   | exact ih0 _ _ _ _ _
   | exact ih1 _ _ _ _ _
   | exact ih2 _ _ _ _ _ _ _ _ _
   | exact ih3 _ _ _ _ _ _ _ _ _
   | exact ih4 _ _ _ _ _
   | exact ih5 _ _ _ _ _ _ _ _
   | exact bodkinref02_Cut.mono _ _ _
   | exact bodkinref02_Signed.mono _ _ _
   | exact bodkinref02_bit.mono _ _ _
   | exact bodkinref02_divided.mono _ _ _ _ _ _ _
   | exact bodkinref02_list.mono _ _ _
   | exact bodkinref02_moved.mono _ _ _ _ _
   | exact bodkinref02_of.mono _ _
   | exact LeO.none _
   | refine LeO.ite ?_ ?_
   | refine LeO.bind ?_ (fun _ => ?_)
  ·intro y0 y1 y2 y3 y4 y5 y6 y7
   unfold bodkinref02_Bin.j5
   repeat' first
   | (with_reducible exact ih0 _ _ _ _ _)
   | (with_reducible exact ih1 _ _ _ _ _)
   | (with_reducible exact ih2 _ _ _ _ _ _ _ _ _)
   | (with_reducible exact ih3 _ _ _ _ _ _ _ _ _)
   | (with_reducible exact ih4 _ _ _ _ _)
   | (with_reducible exact ih5 _ _ _ _ _ _ _ _)
   | (with_reducible exact bodkinref02_Cut.mono _ _ _)
   | (with_reducible exact bodkinref02_Signed.mono _ _ _)
   | (with_reducible exact bodkinref02_bit.mono _ _ _)
   | (with_reducible exact bodkinref02_divided.mono _ _ _ _ _ _ _)
   | (with_reducible exact bodkinref02_list.mono _ _ _)
   | (with_reducible exact bodkinref02_moved.mono _ _ _ _ _)
   | (with_reducible exact bodkinref02_of.mono _ _)
   | (with_reducible exact LeO.refl _)
   | (with_reducible exact LeO.none _)
   | (with_reducible refine LeO.ite ?_ ?_)
   | (with_reducible refine LeO.bind ?_ (fun _ => ?_))
   | exact ih0 _ _ _ _ _
   | exact ih1 _ _ _ _ _
   | exact ih2 _ _ _ _ _ _ _ _ _
   | exact ih3 _ _ _ _ _ _ _ _ _
   | exact ih4 _ _ _ _ _
   | exact ih5 _ _ _ _ _ _ _ _
   | exact bodkinref02_Cut.mono _ _ _
   | exact bodkinref02_Signed.mono _ _ _
   | exact bodkinref02_bit.mono _ _ _
   | exact bodkinref02_divided.mono _ _ _ _ _ _ _
   | exact bodkinref02_list.mono _ _ _
   | exact bodkinref02_moved.mono _ _ _ _ _
   | exact bodkinref02_of.mono _ _
   | exact LeO.none _
   | refine LeO.ite ?_ ?_
   | refine LeO.bind ?_ (fun _ => ?_)
theorem bodkinref02_Bin.monog : ∀ a0 a1 a2 a3 k, LeO (bodkinref02_Bin.g k a0 a1 a2 a3) (bodkinref02_Bin.g (k + 1) a0 a1 a2 a3) := by
 intro a0 a1 a2 a3 k
 obtain ⟨ih0, ih1, ih2, ih3, ih4, ih5⟩ := bodkinref02_Bin.mono_l k
 unfold bodkinref02_Bin.g
 repeat' first
   | (with_reducible exact ih0 _ _ _ _ _)
   | (with_reducible exact ih1 _ _ _ _ _)
   | (with_reducible exact ih2 _ _ _ _ _ _ _ _ _)
   | (with_reducible exact ih3 _ _ _ _ _ _ _ _ _)
   | (with_reducible exact ih4 _ _ _ _ _)
   | (with_reducible exact ih5 _ _ _ _ _ _ _ _)
   | (with_reducible exact bodkinref02_Cut.mono _ _ _)
   | (with_reducible exact bodkinref02_Signed.mono _ _ _)
   | (with_reducible exact bodkinref02_bit.mono _ _ _)
   | (with_reducible exact bodkinref02_divided.mono _ _ _ _ _ _ _)
   | (with_reducible exact bodkinref02_list.mono _ _ _)
   | (with_reducible exact bodkinref02_moved.mono _ _ _ _ _)
   | (with_reducible exact bodkinref02_of.mono _ _)
   | (with_reducible exact LeO.refl _)
   | (with_reducible exact LeO.none _)
   | (with_reducible refine LeO.ite ?_ ?_)
   | (with_reducible refine LeO.bind ?_ (fun _ => ?_))
   | exact ih0 _ _ _ _ _
   | exact ih1 _ _ _ _ _
   | exact ih2 _ _ _ _ _ _ _ _ _
   | exact ih3 _ _ _ _ _ _ _ _ _
   | exact ih4 _ _ _ _ _
   | exact ih5 _ _ _ _ _ _ _ _
   | exact bodkinref02_Cut.mono _ _ _
   | exact bodkinref02_Signed.mono _ _ _
   | exact bodkinref02_bit.mono _ _ _
   | exact bodkinref02_divided.mono _ _ _ _ _ _ _
   | exact bodkinref02_list.mono _ _ _
   | exact bodkinref02_moved.mono _ _ _ _ _
   | exact bodkinref02_of.mono _ _
   | exact LeO.none _
   | refine LeO.ite ?_ ?_
   | refine LeO.bind ?_ (fun _ => ?_)
def bodkinref02_Bin.f (k : Nat) (a0 : Int) (a1 : Int) (a2 : Int) (a3 : Int) : Option (Int × Int) := if (a0 = 32 ∨ a0 = 64) ∧ 1 ≤ a1 ∧ a1 ≤ 15 then bodkinref02_Bin.g k a0 a1 a2 a3 else none
theorem bodkinref02_Bin.mono : ∀ a0 a1 a2 a3 k, LeO (bodkinref02_Bin.f k a0 a1 a2 a3) (bodkinref02_Bin.f (k + 1) a0 a1 a2 a3) := by
  intro a0 a1 a2 a3 k
  unfold bodkinref02_Bin.f
  exact LeO.ite (bodkinref02_Bin.monog _ _ _ _ _) (LeO.none _)
set_option maxHeartbeats 8000000 in
set_option maxRecDepth 100000 in
theorem bodkinref02_Bin.bin_32_1 (k : Nat) (a2 : Int) (a3 : Int) (r1 : Int) (r2 : Int) (w : World) (h : bodkinref02_Bin.g k 32 1 a2 a3 = some (r1, r2)) (hG : GD w) :
  Calls Tryz.prog 66 #[.int .i64 32, .int .i64 1, .int .u64 a2, .int .u64 a3] w fun e w' => e = .returned (.tuple #[.int .u64 r1, .int .i64 r2]) ∧ Below w.heap.size w w' := by
 have HB := Aside0.mk (Below.refl w.heap.size w)
 have hR : bodkinref02_Right.f 32 = some true := rfl
 unfold bodkinref02_Bin.g at h
 rw [hR, Option.bind_some, if_pos rfl, if_neg (by decide), if_neg (by decide), if_neg (by decide)] at h
 have A5 := Aside0.mk hR
 clear hR
 cases k with
 | zero => cases h
 | succ k =>
 simp only [bodkinref02_Bin.j0] at h
 rw [if_neg (by decide)] at h
 replace h := Option.bind_eq_some_iff.mp h
 obtain ⟨t1, h1, h⟩ := h
 replace h := Option.bind_eq_some_iff.mp h
 obtain ⟨t2, h2, h⟩ := h
 replace h := Option.bind_eq_some_iff.mp h
 obtain ⟨t3, h3, h⟩ := h
 replace h := Option.bind_eq_some_iff.mp h
 obtain ⟨t4, h4, h⟩ := h
 rw [if_neg (by decide)] at h
 simp only [Int.reduceEq, Int.reduceBEq, ↓reduceIte] at h
 have A1 := Aside0.mk h1
 have A2 := Aside0.mk h2
 have A3 := Aside0.mk h3
 have A4 := Aside0.mk h4
 clear h1 h2 h3 h4
 obtain ⟨t5, h5, h⟩ := Option.bind_eq_some_iff.mp h
 simp only [Option.some.injEq, Prod.mk.injEq] at h
 obtain ⟨rfl, rfl⟩ := h
 have A6 := Aside0.mk h5
 clear h5
 go_enter Tryz.func66, Tryz.ntmps66
 go_wp2_with (first | (go_at_call 131; (with_reducible refine (bodkinref02_Right.calls 32 true _ A5.out ).mono ?_); rintro e w' ⟨rfl, ⟨nd, rfl⟩⟩; (try first | exact qd1_ | exact qd2_)) | (go_at_call 54; (with_reducible refine (bodkinref02_Cut.calls k 32 a2 t1 _ A1.out ).mono ?_); rintro e w' ⟨rfl, ⟨nd, rfl⟩⟩; (try first | exact qd1_ | exact qd2_)) | (go_at_call 54; (with_reducible refine (bodkinref02_Cut.calls k 32 a3 t2 _ A2.out ).mono ?_); rintro e w' ⟨rfl, ⟨nd, rfl⟩⟩; (try first | exact qd1_ | exact qd2_)) | (go_at_call 58; (with_reducible refine (bodkinref02_Signed.calls k 32 t1 t3 _ A3.out ).mono ?_); rintro e w' ⟨rfl, ⟨nd, rfl⟩⟩; (try first | exact qd1_ | exact qd2_)) | (go_at_call 58; (with_reducible refine (bodkinref02_Signed.calls k 32 t2 t4 _ A4.out ).mono ?_); rintro e w' ⟨rfl, ⟨nd, rfl⟩⟩; (try first | exact qd1_ | exact qd2_)) | (go_at_call 54; (with_reducible refine (bodkinref02_Cut.calls k 32 _ t5 _ A6.out ).mono ?_); rintro e w' ⟨rfl, ⟨nd, rfl⟩⟩; (try first | exact qd1_ | exact qd2_)))
 go_ret2
 exact ⟨rs_, bl_⟩
set_option maxHeartbeats 8000000 in
set_option maxRecDepth 100000 in
theorem bodkinref02_Bin.bin_32_2 (k : Nat) (a2 : Int) (a3 : Int) (r1 : Int) (r2 : Int) (w : World) (h : bodkinref02_Bin.g k 32 2 a2 a3 = some (r1, r2)) (hG : GD w) :
  Calls Tryz.prog 66 #[.int .i64 32, .int .i64 2, .int .u64 a2, .int .u64 a3] w fun e w' => e = .returned (.tuple #[.int .u64 r1, .int .i64 r2]) ∧ Below w.heap.size w w' := by
 have HB := Aside0.mk (Below.refl w.heap.size w)
 have hR : bodkinref02_Right.f 32 = some true := rfl
 unfold bodkinref02_Bin.g at h
 rw [hR, Option.bind_some, if_pos rfl, if_neg (by decide), if_neg (by decide), if_neg (by decide)] at h
 have A5 := Aside0.mk hR
 clear hR
 cases k with
 | zero => cases h
 | succ k =>
 simp only [bodkinref02_Bin.j0] at h
 rw [if_neg (by decide)] at h
 replace h := Option.bind_eq_some_iff.mp h
 obtain ⟨t1, h1, h⟩ := h
 replace h := Option.bind_eq_some_iff.mp h
 obtain ⟨t2, h2, h⟩ := h
 replace h := Option.bind_eq_some_iff.mp h
 obtain ⟨t3, h3, h⟩ := h
 replace h := Option.bind_eq_some_iff.mp h
 obtain ⟨t4, h4, h⟩ := h
 rw [if_neg (by decide)] at h
 simp only [Int.reduceEq, Int.reduceBEq, ↓reduceIte] at h
 have A1 := Aside0.mk h1
 have A2 := Aside0.mk h2
 have A3 := Aside0.mk h3
 have A4 := Aside0.mk h4
 clear h1 h2 h3 h4
 obtain ⟨t5, h5, h⟩ := Option.bind_eq_some_iff.mp h
 simp only [Option.some.injEq, Prod.mk.injEq] at h
 obtain ⟨rfl, rfl⟩ := h
 have A6 := Aside0.mk h5
 clear h5
 go_enter Tryz.func66, Tryz.ntmps66
 go_wp2_with (first | (go_at_call 131; (with_reducible refine (bodkinref02_Right.calls 32 true _ A5.out ).mono ?_); rintro e w' ⟨rfl, ⟨nd, rfl⟩⟩; (try first | exact qd1_ | exact qd2_)) | (go_at_call 54; (with_reducible refine (bodkinref02_Cut.calls k 32 a2 t1 _ A1.out ).mono ?_); rintro e w' ⟨rfl, ⟨nd, rfl⟩⟩; (try first | exact qd1_ | exact qd2_)) | (go_at_call 54; (with_reducible refine (bodkinref02_Cut.calls k 32 a3 t2 _ A2.out ).mono ?_); rintro e w' ⟨rfl, ⟨nd, rfl⟩⟩; (try first | exact qd1_ | exact qd2_)) | (go_at_call 58; (with_reducible refine (bodkinref02_Signed.calls k 32 t1 t3 _ A3.out ).mono ?_); rintro e w' ⟨rfl, ⟨nd, rfl⟩⟩; (try first | exact qd1_ | exact qd2_)) | (go_at_call 58; (with_reducible refine (bodkinref02_Signed.calls k 32 t2 t4 _ A4.out ).mono ?_); rintro e w' ⟨rfl, ⟨nd, rfl⟩⟩; (try first | exact qd1_ | exact qd2_)) | (go_at_call 54; (with_reducible refine (bodkinref02_Cut.calls k 32 _ t5 _ A6.out ).mono ?_); rintro e w' ⟨rfl, ⟨nd, rfl⟩⟩; (try first | exact qd1_ | exact qd2_)))
 go_ret2
 exact ⟨rs_, bl_⟩
set_option maxHeartbeats 8000000 in
set_option maxRecDepth 100000 in
theorem bodkinref02_Bin.bin_32_3 (k : Nat) (a2 : Int) (a3 : Int) (r1 : Int) (r2 : Int) (w : World) (h : bodkinref02_Bin.g k 32 3 a2 a3 = some (r1, r2)) (hG : GD w) :
  Calls Tryz.prog 66 #[.int .i64 32, .int .i64 3, .int .u64 a2, .int .u64 a3] w fun e w' => e = .returned (.tuple #[.int .u64 r1, .int .i64 r2]) ∧ Below w.heap.size w w' := by
 have HB := Aside0.mk (Below.refl w.heap.size w)
 have hR : bodkinref02_Right.f 32 = some true := rfl
 unfold bodkinref02_Bin.g at h
 rw [hR, Option.bind_some, if_pos rfl, if_neg (by decide), if_neg (by decide), if_neg (by decide)] at h
 have A5 := Aside0.mk hR
 clear hR
 cases k with
 | zero => cases h
 | succ k =>
 simp only [bodkinref02_Bin.j0] at h
 rw [if_neg (by decide)] at h
 replace h := Option.bind_eq_some_iff.mp h
 obtain ⟨t1, h1, h⟩ := h
 replace h := Option.bind_eq_some_iff.mp h
 obtain ⟨t2, h2, h⟩ := h
 replace h := Option.bind_eq_some_iff.mp h
 obtain ⟨t3, h3, h⟩ := h
 replace h := Option.bind_eq_some_iff.mp h
 obtain ⟨t4, h4, h⟩ := h
 rw [if_neg (by decide)] at h
 simp only [Int.reduceEq, Int.reduceBEq, ↓reduceIte] at h
 have A1 := Aside0.mk h1
 have A2 := Aside0.mk h2
 have A3 := Aside0.mk h3
 have A4 := Aside0.mk h4
 clear h1 h2 h3 h4
 have H' := Aside0.mk h
 clear h
 go_enter Tryz.func66, Tryz.ntmps66
 go_wp2_with (first | (go_at_call 131; (with_reducible refine (bodkinref02_Right.calls 32 true _ A5.out ).mono ?_); rintro e w' ⟨rfl, ⟨nd, rfl⟩⟩; (try first | exact qd1_ | exact qd2_)) | (go_at_call 54; (with_reducible refine (bodkinref02_Cut.calls k 32 a2 t1 _ A1.out ).mono ?_); rintro e w' ⟨rfl, ⟨nd, rfl⟩⟩; (try first | exact qd1_ | exact qd2_)) | (go_at_call 54; (with_reducible refine (bodkinref02_Cut.calls k 32 a3 t2 _ A2.out ).mono ?_); rintro e w' ⟨rfl, ⟨nd, rfl⟩⟩; (try first | exact qd1_ | exact qd2_)) | (go_at_call 58; (with_reducible refine (bodkinref02_Signed.calls k 32 t1 t3 _ A3.out ).mono ?_); rintro e w' ⟨rfl, ⟨nd, rfl⟩⟩; (try first | exact qd1_ | exact qd2_)) | (go_at_call 58; (with_reducible refine (bodkinref02_Signed.calls k 32 t2 t4 _ A4.out ).mono ?_); rintro e w' ⟨rfl, ⟨nd, rfl⟩⟩; (try first | exact qd1_ | exact qd2_)))
 go_loopg [2, 14, 15] k (fun kq v2 v14 v15 w' => ∃ (x2 : Int) (x14 : Int) (x15 : Int), v2 = .int .u64 x2 ∧ v14 = .int .u64 x14 ∧ v15 = .int .i64 x15 ∧ Aside0 (bodkinref02_Bin.l0 kq 32 x2 t2 x14 x15 = some (r1, r2)) ∧ Aside0 (Below w.heap.size w w'))
 case atStart => exact ⟨t1, 0, 0, rfl, rfl, rfl, H', ⟨bl_⟩⟩
 case round =>
  clear H'
  clear HB
  obtain ⟨x2, x14, x15, rfl, rfl, rfl, HA, HB⟩ := hrel
  cases gk with
  | zero => exact absurd HA.out (by simp [bodkinref02_Bin.l0])
  | succ k4 =>
   have h := HA.out
   clear HA
   simp only [bodkinref02_Bin.l0] at h
   by_cases c : x15 < 32
   ·rw [if_pos c] at h
    replace h := Option.bind_eq_some_iff.mp h
    obtain ⟨t5, h5, h⟩ := h
    have A6 := Aside0.mk h5
    clear h5
    by_cases d : t5 = 1
    ·rw [if_pos d] at h
     subst d
     have H2 := Aside0.mk h
     clear h
     go_wp2_with (first | (go_at_call 132; (with_reducible refine (bodkinref02_bit.calls k4 t2 x15 _ _ A6.out ).mono ?_); rintro e w' ⟨rfl, ⟨nd, rfl⟩⟩; (try first | exact qd1_ | exact qd2_)))
     go_roundg k4
     case measure => omega
     case rel => exact ⟨_, _, _, rfl, rfl, rfl, H2, ⟨bl_⟩⟩
    ·rw [if_neg d] at h
     have d1 : (t5 == 1) = false := beq_eq_false_iff_ne.mpr d
     clear d
     have H2 := Aside0.mk h
     clear h
     go_wp2_with (first | (go_at_call 132; (with_reducible refine (bodkinref02_bit.calls k4 t2 x15 _ _ A6.out ).mono ?_); rintro e w' ⟨rfl, ⟨nd, rfl⟩⟩; (try first | exact qd1_ | exact qd2_)))
     go_roundg k4
     case measure => omega
     case rel => exact ⟨_, _, _, rfl, rfl, rfl, H2, ⟨bl_⟩⟩
   ·rw [if_neg c] at h
    replace h := Option.bind_eq_some_iff.mp h
    obtain ⟨t5, h5, h⟩ := h
    simp only [Option.some.injEq, Prod.mk.injEq] at h
    obtain ⟨rfl, rfl⟩ := h
    have A6 := Aside0.mk h5
    clear h5
    go_wp2_with (first | (go_at_call 54; (with_reducible refine (bodkinref02_Cut.calls k4 32 x14 t5 _ A6.out ).mono ?_); rintro e w' ⟨rfl, ⟨nd, rfl⟩⟩; (try first | exact qd1_ | exact qd2_)))
    go_ret2
    exact ⟨rfl, bl_⟩
set_option maxHeartbeats 8000000 in
set_option maxRecDepth 100000 in
theorem bodkinref02_Bin.bin_32_4 (k : Nat) (a2 : Int) (a3 : Int) (r1 : Int) (r2 : Int) (w : World) (h : bodkinref02_Bin.g k 32 4 a2 a3 = some (r1, r2)) (hG : GD w) :
  Calls Tryz.prog 66 #[.int .i64 32, .int .i64 4, .int .u64 a2, .int .u64 a3] w fun e w' => e = .returned (.tuple #[.int .u64 r1, .int .i64 r2]) ∧ Below w.heap.size w w' := by
 have HB := Aside0.mk (Below.refl w.heap.size w)
 have hR : bodkinref02_Right.f 32 = some true := rfl
 unfold bodkinref02_Bin.g at h
 rw [hR, Option.bind_some, if_pos rfl, if_neg (by decide), if_neg (by decide), if_neg (by decide)] at h
 have A5 := Aside0.mk hR
 clear hR
 cases k with
 | zero => cases h
 | succ k =>
 simp only [bodkinref02_Bin.j0] at h
 rw [if_neg (by decide)] at h
 replace h := Option.bind_eq_some_iff.mp h
 obtain ⟨t1, h1, h⟩ := h
 replace h := Option.bind_eq_some_iff.mp h
 obtain ⟨t2, h2, h⟩ := h
 replace h := Option.bind_eq_some_iff.mp h
 obtain ⟨t3, h3, h⟩ := h
 replace h := Option.bind_eq_some_iff.mp h
 obtain ⟨t4, h4, h⟩ := h
 rw [if_neg (by decide)] at h
 simp only [Int.reduceEq, Int.reduceBEq, ↓reduceIte] at h
 have A1 := Aside0.mk h1
 have A2 := Aside0.mk h2
 have A3 := Aside0.mk h3
 have A4 := Aside0.mk h4
 clear h1 h2 h3 h4
 obtain ⟨k0, hk0⟩ : ∃ k0, k = k0 := ⟨_, rfl⟩
 rw [hk0] at A1 A2 A3 A4
 cases k with
 | zero => cases h
 | succ k =>
 simp only [bodkinref02_Bin.j2, ↓reduceIte] at h
 replace h := Option.bind_eq_some_iff.mp h
 obtain ⟨t5, h5, h⟩ := h
 obtain ⟨s1, s2⟩ := t5
 simp only [Option.some.injEq, Prod.mk.injEq] at h
 obtain ⟨rfl, rfl⟩ := h
 have A6 := Aside0.mk h5
 clear h5 hk0
 go_enter Tryz.func66, Tryz.ntmps66
 go_wp2_with (first | (go_at_call 131; (with_reducible refine (bodkinref02_Right.calls 32 true _ A5.out ).mono ?_); rintro e w' ⟨rfl, ⟨nd, rfl⟩⟩; (try first | exact qd1_ | exact qd2_)) | (go_at_call 54; (with_reducible refine (bodkinref02_Cut.calls k0 32 a2 t1 _ A1.out ).mono ?_); rintro e w' ⟨rfl, ⟨nd, rfl⟩⟩; (try first | exact qd1_ | exact qd2_)) | (go_at_call 54; (with_reducible refine (bodkinref02_Cut.calls k0 32 a3 t2 _ A2.out ).mono ?_); rintro e w' ⟨rfl, ⟨nd, rfl⟩⟩; (try first | exact qd1_ | exact qd2_)) | (go_at_call 58; (with_reducible refine (bodkinref02_Signed.calls k0 32 t1 t3 _ A3.out ).mono ?_); rintro e w' ⟨rfl, ⟨nd, rfl⟩⟩; (try first | exact qd1_ | exact qd2_)) | (go_at_call 58; (with_reducible refine (bodkinref02_Signed.calls k0 32 t2 t4 _ A4.out ).mono ?_); rintro e w' ⟨rfl, ⟨nd, rfl⟩⟩; (try first | exact qd1_ | exact qd2_)) | (go_at_call 152; (with_reducible refine (bodkinref02_divided.calls k 32 4 t1 t2 t3 t4 s1 s2 _ A6.out ).mono ?_); rintro e w1 ⟨rfl, hb⟩; have n1_ := Aside0.mk (below_step bl_ hb); clear HB; have HB := n1_; clear n1_; (try clear hb)))
 go_ret2
 exact ⟨rs_, bl_⟩
set_option maxHeartbeats 8000000 in
set_option maxRecDepth 100000 in
theorem bodkinref02_Bin.bin_32_5 (k : Nat) (a2 : Int) (a3 : Int) (r1 : Int) (r2 : Int) (w : World) (h : bodkinref02_Bin.g k 32 5 a2 a3 = some (r1, r2)) (hG : GD w) :
  Calls Tryz.prog 66 #[.int .i64 32, .int .i64 5, .int .u64 a2, .int .u64 a3] w fun e w' => e = .returned (.tuple #[.int .u64 r1, .int .i64 r2]) ∧ Below w.heap.size w w' := by
 have HB := Aside0.mk (Below.refl w.heap.size w)
 have hR : bodkinref02_Right.f 32 = some true := rfl
 unfold bodkinref02_Bin.g at h
 rw [hR, Option.bind_some, if_pos rfl, if_neg (by decide), if_neg (by decide), if_neg (by decide)] at h
 have A5 := Aside0.mk hR
 clear hR
 cases k with
 | zero => cases h
 | succ k =>
 simp only [bodkinref02_Bin.j0] at h
 rw [if_neg (by decide)] at h
 replace h := Option.bind_eq_some_iff.mp h
 obtain ⟨t1, h1, h⟩ := h
 replace h := Option.bind_eq_some_iff.mp h
 obtain ⟨t2, h2, h⟩ := h
 replace h := Option.bind_eq_some_iff.mp h
 obtain ⟨t3, h3, h⟩ := h
 replace h := Option.bind_eq_some_iff.mp h
 obtain ⟨t4, h4, h⟩ := h
 rw [if_neg (by decide)] at h
 simp only [Int.reduceEq, Int.reduceBEq, ↓reduceIte] at h
 have A1 := Aside0.mk h1
 have A2 := Aside0.mk h2
 have A3 := Aside0.mk h3
 have A4 := Aside0.mk h4
 clear h1 h2 h3 h4
 obtain ⟨k0, hk0⟩ : ∃ k0, k = k0 := ⟨_, rfl⟩
 rw [hk0] at A1 A2 A3 A4
 cases k with
 | zero => cases h
 | succ k =>
 simp only [bodkinref02_Bin.j2, ↓reduceIte] at h
 replace h := Option.bind_eq_some_iff.mp h
 obtain ⟨t5, h5, h⟩ := h
 obtain ⟨s1, s2⟩ := t5
 simp only [Option.some.injEq, Prod.mk.injEq] at h
 obtain ⟨rfl, rfl⟩ := h
 have A6 := Aside0.mk h5
 clear h5 hk0
 go_enter Tryz.func66, Tryz.ntmps66
 go_wp2_with (first | (go_at_call 131; (with_reducible refine (bodkinref02_Right.calls 32 true _ A5.out ).mono ?_); rintro e w' ⟨rfl, ⟨nd, rfl⟩⟩; (try first | exact qd1_ | exact qd2_)) | (go_at_call 54; (with_reducible refine (bodkinref02_Cut.calls k0 32 a2 t1 _ A1.out ).mono ?_); rintro e w' ⟨rfl, ⟨nd, rfl⟩⟩; (try first | exact qd1_ | exact qd2_)) | (go_at_call 54; (with_reducible refine (bodkinref02_Cut.calls k0 32 a3 t2 _ A2.out ).mono ?_); rintro e w' ⟨rfl, ⟨nd, rfl⟩⟩; (try first | exact qd1_ | exact qd2_)) | (go_at_call 58; (with_reducible refine (bodkinref02_Signed.calls k0 32 t1 t3 _ A3.out ).mono ?_); rintro e w' ⟨rfl, ⟨nd, rfl⟩⟩; (try first | exact qd1_ | exact qd2_)) | (go_at_call 58; (with_reducible refine (bodkinref02_Signed.calls k0 32 t2 t4 _ A4.out ).mono ?_); rintro e w' ⟨rfl, ⟨nd, rfl⟩⟩; (try first | exact qd1_ | exact qd2_)) | (go_at_call 152; (with_reducible refine (bodkinref02_divided.calls k 32 5 t1 t2 t3 t4 s1 s2 _ A6.out ).mono ?_); rintro e w1 ⟨rfl, hb⟩; have n1_ := Aside0.mk (below_step bl_ hb); clear HB; have HB := n1_; clear n1_; (try clear hb)))
 go_ret2
 exact ⟨rs_, bl_⟩
set_option maxHeartbeats 8000000 in
set_option maxRecDepth 100000 in
theorem bodkinref02_Bin.bin_32_6 (k : Nat) (a2 : Int) (a3 : Int) (r1 : Int) (r2 : Int) (w : World) (h : bodkinref02_Bin.g k 32 6 a2 a3 = some (r1, r2)) (hG : GD w) :
  Calls Tryz.prog 66 #[.int .i64 32, .int .i64 6, .int .u64 a2, .int .u64 a3] w fun e w' => e = .returned (.tuple #[.int .u64 r1, .int .i64 r2]) ∧ Below w.heap.size w w' := by
 have HB := Aside0.mk (Below.refl w.heap.size w)
 have hR : bodkinref02_Right.f 32 = some true := rfl
 unfold bodkinref02_Bin.g at h
 rw [hR, Option.bind_some, if_pos rfl, if_neg (by decide), if_neg (by decide), if_neg (by decide)] at h
 have A5 := Aside0.mk hR
 clear hR
 cases k with
 | zero => cases h
 | succ k =>
 simp only [bodkinref02_Bin.j0] at h
 rw [if_neg (by decide)] at h
 replace h := Option.bind_eq_some_iff.mp h
 obtain ⟨t1, h1, h⟩ := h
 replace h := Option.bind_eq_some_iff.mp h
 obtain ⟨t2, h2, h⟩ := h
 replace h := Option.bind_eq_some_iff.mp h
 obtain ⟨t3, h3, h⟩ := h
 replace h := Option.bind_eq_some_iff.mp h
 obtain ⟨t4, h4, h⟩ := h
 rw [if_neg (by decide)] at h
 simp only [Int.reduceEq, Int.reduceBEq, ↓reduceIte] at h
 have A1 := Aside0.mk h1
 have A2 := Aside0.mk h2
 have A3 := Aside0.mk h3
 have A4 := Aside0.mk h4
 clear h1 h2 h3 h4
 obtain ⟨k0, hk0⟩ : ∃ k0, k = k0 := ⟨_, rfl⟩
 rw [hk0] at A1 A2 A3 A4
 cases k with
 | zero => cases h
 | succ k =>
 simp only [bodkinref02_Bin.j2, ↓reduceIte] at h
 replace h := Option.bind_eq_some_iff.mp h
 obtain ⟨t5, h5, h⟩ := h
 obtain ⟨s1, s2⟩ := t5
 simp only [Option.some.injEq, Prod.mk.injEq] at h
 obtain ⟨rfl, rfl⟩ := h
 have A6 := Aside0.mk h5
 clear h5 hk0
 go_enter Tryz.func66, Tryz.ntmps66
 go_wp2_with (first | (go_at_call 131; (with_reducible refine (bodkinref02_Right.calls 32 true _ A5.out ).mono ?_); rintro e w' ⟨rfl, ⟨nd, rfl⟩⟩; (try first | exact qd1_ | exact qd2_)) | (go_at_call 54; (with_reducible refine (bodkinref02_Cut.calls k0 32 a2 t1 _ A1.out ).mono ?_); rintro e w' ⟨rfl, ⟨nd, rfl⟩⟩; (try first | exact qd1_ | exact qd2_)) | (go_at_call 54; (with_reducible refine (bodkinref02_Cut.calls k0 32 a3 t2 _ A2.out ).mono ?_); rintro e w' ⟨rfl, ⟨nd, rfl⟩⟩; (try first | exact qd1_ | exact qd2_)) | (go_at_call 58; (with_reducible refine (bodkinref02_Signed.calls k0 32 t1 t3 _ A3.out ).mono ?_); rintro e w' ⟨rfl, ⟨nd, rfl⟩⟩; (try first | exact qd1_ | exact qd2_)) | (go_at_call 58; (with_reducible refine (bodkinref02_Signed.calls k0 32 t2 t4 _ A4.out ).mono ?_); rintro e w' ⟨rfl, ⟨nd, rfl⟩⟩; (try first | exact qd1_ | exact qd2_)) | (go_at_call 152; (with_reducible refine (bodkinref02_divided.calls k 32 6 t1 t2 t3 t4 s1 s2 _ A6.out ).mono ?_); rintro e w1 ⟨rfl, hb⟩; have n1_ := Aside0.mk (below_step bl_ hb); clear HB; have HB := n1_; clear n1_; (try clear hb)))
 go_ret2
 exact ⟨rs_, bl_⟩
set_option maxHeartbeats 8000000 in
set_option maxRecDepth 100000 in
theorem bodkinref02_Bin.bin_32_7 (k : Nat) (a2 : Int) (a3 : Int) (r1 : Int) (r2 : Int) (w : World) (h : bodkinref02_Bin.g k 32 7 a2 a3 = some (r1, r2)) (hG : GD w) :
  Calls Tryz.prog 66 #[.int .i64 32, .int .i64 7, .int .u64 a2, .int .u64 a3] w fun e w' => e = .returned (.tuple #[.int .u64 r1, .int .i64 r2]) ∧ Below w.heap.size w w' := by
 have HB := Aside0.mk (Below.refl w.heap.size w)
 have hR : bodkinref02_Right.f 32 = some true := rfl
 unfold bodkinref02_Bin.g at h
 rw [hR, Option.bind_some, if_pos rfl, if_neg (by decide), if_neg (by decide), if_neg (by decide)] at h
 have A5 := Aside0.mk hR
 clear hR
 cases k with
 | zero => cases h
 | succ k =>
 simp only [bodkinref02_Bin.j0] at h
 rw [if_neg (by decide)] at h
 replace h := Option.bind_eq_some_iff.mp h
 obtain ⟨t1, h1, h⟩ := h
 replace h := Option.bind_eq_some_iff.mp h
 obtain ⟨t2, h2, h⟩ := h
 replace h := Option.bind_eq_some_iff.mp h
 obtain ⟨t3, h3, h⟩ := h
 replace h := Option.bind_eq_some_iff.mp h
 obtain ⟨t4, h4, h⟩ := h
 rw [if_neg (by decide)] at h
 simp only [Int.reduceEq, Int.reduceBEq, ↓reduceIte] at h
 have A1 := Aside0.mk h1
 have A2 := Aside0.mk h2
 have A3 := Aside0.mk h3
 have A4 := Aside0.mk h4
 clear h1 h2 h3 h4
 obtain ⟨k0, hk0⟩ : ∃ k0, k = k0 := ⟨_, rfl⟩
 rw [hk0] at A1 A2 A3 A4
 cases k with
 | zero => cases h
 | succ k =>
 simp only [bodkinref02_Bin.j2, ↓reduceIte] at h
 replace h := Option.bind_eq_some_iff.mp h
 obtain ⟨t5, h5, h⟩ := h
 obtain ⟨s1, s2⟩ := t5
 simp only [Option.some.injEq, Prod.mk.injEq] at h
 obtain ⟨rfl, rfl⟩ := h
 have A6 := Aside0.mk h5
 clear h5 hk0
 go_enter Tryz.func66, Tryz.ntmps66
 go_wp2_with (first | (go_at_call 131; (with_reducible refine (bodkinref02_Right.calls 32 true _ A5.out ).mono ?_); rintro e w' ⟨rfl, ⟨nd, rfl⟩⟩; (try first | exact qd1_ | exact qd2_)) | (go_at_call 54; (with_reducible refine (bodkinref02_Cut.calls k0 32 a2 t1 _ A1.out ).mono ?_); rintro e w' ⟨rfl, ⟨nd, rfl⟩⟩; (try first | exact qd1_ | exact qd2_)) | (go_at_call 54; (with_reducible refine (bodkinref02_Cut.calls k0 32 a3 t2 _ A2.out ).mono ?_); rintro e w' ⟨rfl, ⟨nd, rfl⟩⟩; (try first | exact qd1_ | exact qd2_)) | (go_at_call 58; (with_reducible refine (bodkinref02_Signed.calls k0 32 t1 t3 _ A3.out ).mono ?_); rintro e w' ⟨rfl, ⟨nd, rfl⟩⟩; (try first | exact qd1_ | exact qd2_)) | (go_at_call 58; (with_reducible refine (bodkinref02_Signed.calls k0 32 t2 t4 _ A4.out ).mono ?_); rintro e w' ⟨rfl, ⟨nd, rfl⟩⟩; (try first | exact qd1_ | exact qd2_)) | (go_at_call 152; (with_reducible refine (bodkinref02_divided.calls k 32 7 t1 t2 t3 t4 s1 s2 _ A6.out ).mono ?_); rintro e w1 ⟨rfl, hb⟩; have n1_ := Aside0.mk (below_step bl_ hb); clear HB; have HB := n1_; clear n1_; (try clear hb)))
 go_ret2
 exact ⟨rs_, bl_⟩
set_option maxHeartbeats 8000000 in
set_option maxRecDepth 100000 in
theorem bodkinref02_Bin.bin_32_8 (k : Nat) (a2 : Int) (a3 : Int) (r1 : Int) (r2 : Int) (w : World) (h : bodkinref02_Bin.g k 32 8 a2 a3 = some (r1, r2)) (hG : GD w) :
  Calls Tryz.prog 66 #[.int .i64 32, .int .i64 8, .int .u64 a2, .int .u64 a3] w fun e w' => e = .returned (.tuple #[.int .u64 r1, .int .i64 r2]) ∧ Below w.heap.size w w' := by
 have HB := Aside0.mk (Below.refl w.heap.size w)
 have hR : bodkinref02_Right.f 32 = some true := rfl
 unfold bodkinref02_Bin.g at h
 rw [hR, Option.bind_some, if_pos rfl, if_neg (by decide), if_neg (by decide), if_neg (by decide)] at h
 have A5 := Aside0.mk hR
 clear hR
 cases k with
 | zero => cases h
 | succ k =>
 simp only [bodkinref02_Bin.j0] at h
 rw [if_neg (by decide)] at h
 replace h := Option.bind_eq_some_iff.mp h
 obtain ⟨t1, h1, h⟩ := h
 replace h := Option.bind_eq_some_iff.mp h
 obtain ⟨t2, h2, h⟩ := h
 replace h := Option.bind_eq_some_iff.mp h
 obtain ⟨t3, h3, h⟩ := h
 replace h := Option.bind_eq_some_iff.mp h
 obtain ⟨t4, h4, h⟩ := h
 rw [if_neg (by decide)] at h
 simp only [Int.reduceEq, Int.reduceBEq, ↓reduceIte] at h
 have A1 := Aside0.mk h1
 have A2 := Aside0.mk h2
 have A3 := Aside0.mk h3
 have A4 := Aside0.mk h4
 clear h1 h2 h3 h4
 obtain ⟨k0, hk0⟩ : ∃ k0, k = k0 := ⟨_, rfl⟩
 rw [hk0] at A1 A2 A3 A4
 cases k with
 | zero => cases h
 | succ k =>
 simp only [bodkinref02_Bin.j2, Int.reduceEq, Int.reduceBEq, ↓reduceIte, Bool.false_eq_true] at h
 cases k with
 | zero => cases h
 | succ k =>
 simp only [bodkinref02_Bin.j3, ↓reduceIte] at h
 replace h := Option.bind_eq_some_iff.mp h
 obtain ⟨la, h5, h⟩ := h
 replace h := Option.bind_eq_some_iff.mp h
 obtain ⟨lb, h6, h⟩ := h
 have A6 := Aside0.mk h5
 have A7 := Aside0.mk h6
 have H' := Aside0.mk h
 clear h5 h6 hk0 h
 go_enter Tryz.func66, Tryz.ntmps66
 go_wp2_with (first | (go_at_call 131; (with_reducible refine (bodkinref02_Right.calls 32 true _ A5.out ).mono ?_); rintro e w' ⟨rfl, ⟨nd, rfl⟩⟩; (try first | exact qd1_ | exact qd2_)) | (go_at_call 54; (with_reducible refine (bodkinref02_Cut.calls k0 32 a2 t1 _ A1.out ).mono ?_); rintro e w' ⟨rfl, ⟨nd, rfl⟩⟩; (try first | exact qd1_ | exact qd2_)) | (go_at_call 54; (with_reducible refine (bodkinref02_Cut.calls k0 32 a3 t2 _ A2.out ).mono ?_); rintro e w' ⟨rfl, ⟨nd, rfl⟩⟩; (try first | exact qd1_ | exact qd2_)) | (go_at_call 58; (with_reducible refine (bodkinref02_Signed.calls k0 32 t1 t3 _ A3.out ).mono ?_); rintro e w' ⟨rfl, ⟨nd, rfl⟩⟩; (try first | exact qd1_ | exact qd2_)) | (go_at_call 58; (with_reducible refine (bodkinref02_Signed.calls k0 32 t2 t4 _ A4.out ).mono ?_); rintro e w' ⟨rfl, ⟨nd, rfl⟩⟩; (try first | exact qd1_ | exact qd2_)) | (go_at_call 150; (with_reducible refine (bodkinref02_list.calls k 32 t1 la _ A6.out ).mono ?_); rintro e w39 ⟨v375, rfl, ho0, hb⟩; have n0_ := Aside0.mk (Kd.R_lower ho0 (below_size bl_)); have n1_ := Aside0.mk (below_step bl_ hb); clear HB; have HO376 := n0_; have HB := n1_; clear n0_ n1_; (try clear hb); (try clear ho0)) | (go_at_call 150; (with_reducible refine (bodkinref02_list.calls k 32 t2 lb _ A7.out ).mono ?_); rintro e w40 ⟨v378, rfl, ho0, hb⟩; have n0_ := Aside0.mk (Kd.R_elder' (by (with_reducible repeat (first | apply Kd.R_alloc | apply Kd.R_drewN | apply Kd.R_drew)); exact HO376.out) (Kd.R_base ho0) hb); have n1_ := Aside0.mk (Kd.R_lower (Kd.R_new' ho0 (Kd.R_lt (by (with_reducible repeat (first | apply Kd.R_alloc | apply Kd.R_drewN | apply Kd.R_drew)); exact HO376.out))) (below_size bl_)); have n2_ := Aside0.mk (below_step bl_ hb); clear HO376; clear HB; have HO376 := n0_; have HO379 := n1_; have HB := n2_; clear n0_ n1_ n2_; (try clear hb); (try clear ho0)))
 go_loopg [18] k (fun kq v18 w' => ∃ (xl : List Int) (xi : Int), v18 = .int .i64 xi ∧ Aside0 (bodkinref02_Bin.l1 kq 32 8 xl lb xi = some (r1, r2)) ∧ Aside0 (Kd.R (Kd.int .u64) 22 w' w.heap.size (fun k_ => some k_ ≠ (v378 : Value).ownBlock) v375 xl) ∧ Aside0 (Kd.R (Kd.int .u64) 22 w' w.heap.size (fun k_ => some k_ ≠ (v375 : Value).ownBlock) v378 lb) ∧ Aside0 (Below w.heap.size w w'))
 case atStart => exact ⟨la, 0, rfl, H', ⟨by (with_reducible repeat (first | apply Kd.R_alloc | apply Kd.R_drewN | apply Kd.R_drew)); exact Kd.R_mono HO376.out (fun _ hk => hk.2)⟩, ⟨by (with_reducible repeat (first | apply Kd.R_alloc | apply Kd.R_drewN | apply Kd.R_drew)); exact Kd.R_mono HO379.out (fun _ hk => hk.2)⟩, ⟨bl_⟩⟩
 case round =>
  clear H' HB HO376 HO379
  obtain ⟨xl, xi, rfl, HA, HO, HP, HB⟩ := hrel
  cases gk with
  | zero => exact absurd HA.out (by simp [bodkinref02_Bin.l1])
  | succ k4 =>
   have h := HA.out
   clear HA
   simp only [bodkinref02_Bin.l1] at h
   by_cases c : xi < 32
   ·rw [if_pos c] at h
    have c1 : 0 ≤ xi := Classical.byContradiction fun hc => by rw [if_neg hc] at h; cases h
    rw [if_pos c1] at h
    have c2 : xi < (xl.length : Int) := Classical.byContradiction fun hc => by rw [if_neg hc] at h; cases h
    rw [if_pos c2] at h
    have c3 : xi < (lb.length : Int) := Classical.byContradiction fun hc => by rw [if_neg hc] at h; cases h
    rw [if_pos c3, Option.bind_some] at h
    simp only [Int.reduceEq, ↓reduceIte] at h
    obtain ⟨s, hs⟩ : ∃ s, IntKind.u64.wrap (rd xl xi + rd lb xi) = s := ⟨_, rfl⟩
    rw [hs] at h
    obtain ⟨go, co, eo, gb, gl, cl, HGo⟩ := Kd.R_form HO.out (by omega)
    subst eo
    obtain ⟨A2_, c2_, e2_⟩ := Kd.R_slice HP.out
    subst e2_
    obtain ⟨ad, e380, hx0⟩ := Kd.at_int (Kd.R_reads' HO.out).2.2 xi c1 c2
    cases e380
    obtain ⟨ad2, e381, hx1⟩ := Kd.at_int (Kd.R_reads' HP.out).2.2 xi c1 c3
    cases e381
    obtain ⟨hx2, hf2⟩ := Kd.R_celln 0 HO.out xi c1 c2
    have GB := Aside0.mk gb
    clear gb gl cl HGo
    simp only [add_plain] at hx0
    replace c1 := eq_true c1
    replace c2 := eq_true c2
    replace c3 := eq_true c3
    clear hx2
    have VL : (Value.slice (some ⟨go, 0, none⟩) xl.length co).ownBlock = some go := rfl
    by_cases d : s = 2
    ·rw [if_pos d] at h
     have d1 : (s == 2) = true := beq_iff_eq.mpr d
     clear d
     have H2 := Aside0.mk h
     clear h VL
     go_wp2
     go_quiet (fail)
     go_wp2
     go_roundg k4
     case measure => omega
     case rel =>
      have p1 := Kd.R_putg (Kd.R_drewN HO.out nq) xi 0
      have p2 := Kd.R_putg p1.1 xi 1
      have q1 := Kd.R_after (v := .slice (some ⟨go, 0, none⟩) xl.length co) (v1 := .slice (some ⟨go, 0, none⟩) xl.length co) (ok := fun _ => True) (Kd.R_mono (Kd.R_drewN HP.out nq) (fun _ hk => ⟨trivial, hk⟩)) p1.2 (.inl rfl)
      have q2 := Kd.R_after (v := .slice (some ⟨go, 0, none⟩) xl.length co) (v1 := .slice (some ⟨go, 0, none⟩) xl.length co) (ok := fun _ => True) (Kd.R_mono q1 (fun _ hk => ⟨trivial, hk.2⟩)) p2.2 (.inl rfl)
      exact ⟨_, _, rfl, H2, ⟨p2.1⟩, ⟨Kd.R_mono q2 (fun _ hk => hk.2)⟩, ⟨below_set (below_set (pw_below_drewN HB.out nq) GB.out) GB.out⟩⟩
    ·rw [if_neg d] at h
     have d1 : (s == 2) = false := beq_eq_false_iff_ne.mpr d
     clear d
     have H2 := Aside0.mk h
     clear h VL
     go_wp2
     go_quiet (fail)
     go_wp2
     go_roundg k4
     case measure => omega
     case rel =>
      have p1 := Kd.R_putg (Kd.R_drewN HO.out nq) xi 0
      have q1 := Kd.R_after (v := .slice (some ⟨go, 0, none⟩) xl.length co) (v1 := .slice (some ⟨go, 0, none⟩) xl.length co) (ok := fun _ => True) (Kd.R_mono (Kd.R_drewN HP.out nq) (fun _ hk => ⟨trivial, hk⟩)) p1.2 (.inl rfl)
      exact ⟨_, _, rfl, H2, ⟨p1.1⟩, ⟨Kd.R_mono q1 (fun _ hk => hk.2)⟩, ⟨below_set (pw_below_drewN HB.out nq) GB.out⟩⟩
   ·rw [if_neg c] at h
    replace h := Option.bind_eq_some_iff.mp h
    obtain ⟨t5, h5, h⟩ := h
    simp only [Option.some.injEq, Prod.mk.injEq] at h
    obtain ⟨rfl, rfl⟩ := h
    have A8 := Aside0.mk h5
    clear h5
    obtain ⟨A3_, c3_, e3_, hl3, hr3⟩ := Kd.R_reads HO.out
    subst e3_
    go_wp2_with (first | (go_at_call 151; (with_reducible refine (bodkinref02_of.calls k4 A3_ c3_ xl t5 _ hr3 hl3 A8.out ).mono ?_); rintro e w' ⟨rfl, ⟨nd, rfl⟩⟩))
    go_ret2
    exact ⟨rfl, bl_⟩
set_option maxHeartbeats 8000000 in
set_option maxRecDepth 100000 in
theorem bodkinref02_Bin.bin_32_9 (k : Nat) (a2 : Int) (a3 : Int) (r1 : Int) (r2 : Int) (w : World) (h : bodkinref02_Bin.g k 32 9 a2 a3 = some (r1, r2)) (hG : GD w) :
  Calls Tryz.prog 66 #[.int .i64 32, .int .i64 9, .int .u64 a2, .int .u64 a3] w fun e w' => e = .returned (.tuple #[.int .u64 r1, .int .i64 r2]) ∧ Below w.heap.size w w' := by
 have HB := Aside0.mk (Below.refl w.heap.size w)
 have hR : bodkinref02_Right.f 32 = some true := rfl
 unfold bodkinref02_Bin.g at h
 rw [hR, Option.bind_some, if_pos rfl, if_neg (by decide), if_neg (by decide), if_neg (by decide)] at h
 have A5 := Aside0.mk hR
 clear hR
 cases k with
 | zero => cases h
 | succ k =>
 simp only [bodkinref02_Bin.j0] at h
 rw [if_neg (by decide)] at h
 replace h := Option.bind_eq_some_iff.mp h
 obtain ⟨t1, h1, h⟩ := h
 replace h := Option.bind_eq_some_iff.mp h
 obtain ⟨t2, h2, h⟩ := h
 replace h := Option.bind_eq_some_iff.mp h
 obtain ⟨t3, h3, h⟩ := h
 replace h := Option.bind_eq_some_iff.mp h
 obtain ⟨t4, h4, h⟩ := h
 rw [if_neg (by decide)] at h
 simp only [Int.reduceEq, Int.reduceBEq, ↓reduceIte] at h
 have A1 := Aside0.mk h1
 have A2 := Aside0.mk h2
 have A3 := Aside0.mk h3
 have A4 := Aside0.mk h4
 clear h1 h2 h3 h4
 obtain ⟨k0, hk0⟩ : ∃ k0, k = k0 := ⟨_, rfl⟩
 rw [hk0] at A1 A2 A3 A4
 cases k with
 | zero => cases h
 | succ k =>
 simp only [bodkinref02_Bin.j2, Int.reduceEq, Int.reduceBEq, ↓reduceIte, Bool.false_eq_true] at h
 cases k with
 | zero => cases h
 | succ k =>
 simp only [bodkinref02_Bin.j3, ↓reduceIte] at h
 replace h := Option.bind_eq_some_iff.mp h
 obtain ⟨la, h5, h⟩ := h
 replace h := Option.bind_eq_some_iff.mp h
 obtain ⟨lb, h6, h⟩ := h
 have A6 := Aside0.mk h5
 have A7 := Aside0.mk h6
 have H' := Aside0.mk h
 clear h5 h6 hk0 h
 go_enter Tryz.func66, Tryz.ntmps66
 go_wp2_with (first | (go_at_call 131; (with_reducible refine (bodkinref02_Right.calls 32 true _ A5.out ).mono ?_); rintro e w' ⟨rfl, ⟨nd, rfl⟩⟩; (try first | exact qd1_ | exact qd2_)) | (go_at_call 54; (with_reducible refine (bodkinref02_Cut.calls k0 32 a2 t1 _ A1.out ).mono ?_); rintro e w' ⟨rfl, ⟨nd, rfl⟩⟩; (try first | exact qd1_ | exact qd2_)) | (go_at_call 54; (with_reducible refine (bodkinref02_Cut.calls k0 32 a3 t2 _ A2.out ).mono ?_); rintro e w' ⟨rfl, ⟨nd, rfl⟩⟩; (try first | exact qd1_ | exact qd2_)) | (go_at_call 58; (with_reducible refine (bodkinref02_Signed.calls k0 32 t1 t3 _ A3.out ).mono ?_); rintro e w' ⟨rfl, ⟨nd, rfl⟩⟩; (try first | exact qd1_ | exact qd2_)) | (go_at_call 58; (with_reducible refine (bodkinref02_Signed.calls k0 32 t2 t4 _ A4.out ).mono ?_); rintro e w' ⟨rfl, ⟨nd, rfl⟩⟩; (try first | exact qd1_ | exact qd2_)) | (go_at_call 150; (with_reducible refine (bodkinref02_list.calls k 32 t1 la _ A6.out ).mono ?_); rintro e w39 ⟨v375, rfl, ho0, hb⟩; have n0_ := Aside0.mk (Kd.R_lower ho0 (below_size bl_)); have n1_ := Aside0.mk (below_step bl_ hb); clear HB; have HO376 := n0_; have HB := n1_; clear n0_ n1_; (try clear hb); (try clear ho0)) | (go_at_call 150; (with_reducible refine (bodkinref02_list.calls k 32 t2 lb _ A7.out ).mono ?_); rintro e w40 ⟨v378, rfl, ho0, hb⟩; have n0_ := Aside0.mk (Kd.R_elder' (by (with_reducible repeat (first | apply Kd.R_alloc | apply Kd.R_drewN | apply Kd.R_drew)); exact HO376.out) (Kd.R_base ho0) hb); have n1_ := Aside0.mk (Kd.R_lower (Kd.R_new' ho0 (Kd.R_lt (by (with_reducible repeat (first | apply Kd.R_alloc | apply Kd.R_drewN | apply Kd.R_drew)); exact HO376.out))) (below_size bl_)); have n2_ := Aside0.mk (below_step bl_ hb); clear HO376; clear HB; have HO376 := n0_; have HO379 := n1_; have HB := n2_; clear n0_ n1_ n2_; (try clear hb); (try clear ho0)))
 go_loopg [18] k (fun kq v18 w' => ∃ (xl : List Int) (xi : Int), v18 = .int .i64 xi ∧ Aside0 (bodkinref02_Bin.l1 kq 32 9 xl lb xi = some (r1, r2)) ∧ Aside0 (Kd.R (Kd.int .u64) 22 w' w.heap.size (fun k_ => some k_ ≠ (v378 : Value).ownBlock) v375 xl) ∧ Aside0 (Kd.R (Kd.int .u64) 22 w' w.heap.size (fun k_ => some k_ ≠ (v375 : Value).ownBlock) v378 lb) ∧ Aside0 (Below w.heap.size w w'))
 case atStart => exact ⟨la, 0, rfl, H', ⟨by (with_reducible repeat (first | apply Kd.R_alloc | apply Kd.R_drewN | apply Kd.R_drew)); exact Kd.R_mono HO376.out (fun _ hk => hk.2)⟩, ⟨by (with_reducible repeat (first | apply Kd.R_alloc | apply Kd.R_drewN | apply Kd.R_drew)); exact Kd.R_mono HO379.out (fun _ hk => hk.2)⟩, ⟨bl_⟩⟩
 case round =>
  clear H' HB HO376 HO379
  obtain ⟨xl, xi, rfl, HA, HO, HP, HB⟩ := hrel
  cases gk with
  | zero => exact absurd HA.out (by simp [bodkinref02_Bin.l1])
  | succ k4 =>
   have h := HA.out
   clear HA
   simp only [bodkinref02_Bin.l1] at h
   by_cases c : xi < 32
   ·rw [if_pos c] at h
    have c1 : 0 ≤ xi := Classical.byContradiction fun hc => by rw [if_neg hc] at h; cases h
    rw [if_pos c1] at h
    have c2 : xi < (xl.length : Int) := Classical.byContradiction fun hc => by rw [if_neg hc] at h; cases h
    rw [if_pos c2] at h
    have c3 : xi < (lb.length : Int) := Classical.byContradiction fun hc => by rw [if_neg hc] at h; cases h
    rw [if_pos c3, Option.bind_some] at h
    simp only [Int.reduceEq, ↓reduceIte] at h
    obtain ⟨s, hs⟩ : ∃ s, IntKind.u64.wrap (rd xl xi + rd lb xi) = s := ⟨_, rfl⟩
    rw [hs] at h
    obtain ⟨go, co, eo, gb, gl, cl, HGo⟩ := Kd.R_form HO.out (by omega)
    subst eo
    obtain ⟨A2_, c2_, e2_⟩ := Kd.R_slice HP.out
    subst e2_
    obtain ⟨ad, e380, hx0⟩ := Kd.at_int (Kd.R_reads' HO.out).2.2 xi c1 c2
    cases e380
    obtain ⟨ad2, e381, hx1⟩ := Kd.at_int (Kd.R_reads' HP.out).2.2 xi c1 c3
    cases e381
    obtain ⟨hx2, hf2⟩ := Kd.R_celln 0 HO.out xi c1 c2
    have GB := Aside0.mk gb
    clear gb gl cl HGo
    simp only [add_plain] at hx0
    replace c1 := eq_true c1
    replace c2 := eq_true c2
    replace c3 := eq_true c3
    clear hx2
    have VL : (Value.slice (some ⟨go, 0, none⟩) xl.length co).ownBlock = some go := rfl
    by_cases d : s > 0
    ·rw [if_pos d] at h
     have d1 : decide (0 < s) = true := decide_eq_true d
     clear d
     have H2 := Aside0.mk h
     clear h VL
     go_wp2
     go_quiet (fail)
     go_wp2
     go_roundg k4
     case measure => omega
     case rel =>
      have p1 := Kd.R_putg (Kd.R_drewN HO.out nq) xi 0
      have p2 := Kd.R_putg p1.1 xi 1
      have q1 := Kd.R_after (v := .slice (some ⟨go, 0, none⟩) xl.length co) (v1 := .slice (some ⟨go, 0, none⟩) xl.length co) (ok := fun _ => True) (Kd.R_mono (Kd.R_drewN HP.out nq) (fun _ hk => ⟨trivial, hk⟩)) p1.2 (.inl rfl)
      have q2 := Kd.R_after (v := .slice (some ⟨go, 0, none⟩) xl.length co) (v1 := .slice (some ⟨go, 0, none⟩) xl.length co) (ok := fun _ => True) (Kd.R_mono q1 (fun _ hk => ⟨trivial, hk.2⟩)) p2.2 (.inl rfl)
      exact ⟨_, _, rfl, H2, ⟨p2.1⟩, ⟨Kd.R_mono q2 (fun _ hk => hk.2)⟩, ⟨below_set (below_set (pw_below_drewN HB.out nq) GB.out) GB.out⟩⟩
    ·rw [if_neg d] at h
     have d1 : decide (0 < s) = false := decide_eq_false d
     clear d
     have H2 := Aside0.mk h
     clear h VL
     go_wp2
     go_quiet (fail)
     go_wp2
     go_roundg k4
     case measure => omega
     case rel =>
      have p1 := Kd.R_putg (Kd.R_drewN HO.out nq) xi 0
      have q1 := Kd.R_after (v := .slice (some ⟨go, 0, none⟩) xl.length co) (v1 := .slice (some ⟨go, 0, none⟩) xl.length co) (ok := fun _ => True) (Kd.R_mono (Kd.R_drewN HP.out nq) (fun _ hk => ⟨trivial, hk⟩)) p1.2 (.inl rfl)
      exact ⟨_, _, rfl, H2, ⟨p1.1⟩, ⟨Kd.R_mono q1 (fun _ hk => hk.2)⟩, ⟨below_set (pw_below_drewN HB.out nq) GB.out⟩⟩
   ·rw [if_neg c] at h
    replace h := Option.bind_eq_some_iff.mp h
    obtain ⟨t5, h5, h⟩ := h
    simp only [Option.some.injEq, Prod.mk.injEq] at h
    obtain ⟨rfl, rfl⟩ := h
    have A8 := Aside0.mk h5
    clear h5
    obtain ⟨A3_, c3_, e3_, hl3, hr3⟩ := Kd.R_reads HO.out
    subst e3_
    go_wp2_with (first | (go_at_call 151; (with_reducible refine (bodkinref02_of.calls k4 A3_ c3_ xl t5 _ hr3 hl3 A8.out ).mono ?_); rintro e w' ⟨rfl, ⟨nd, rfl⟩⟩))
    go_ret2
    exact ⟨rfl, bl_⟩
set_option maxHeartbeats 8000000 in
set_option maxRecDepth 100000 in
theorem bodkinref02_Bin.bin_32_10 (k : Nat) (a2 : Int) (a3 : Int) (r1 : Int) (r2 : Int) (w : World) (h : bodkinref02_Bin.g k 32 10 a2 a3 = some (r1, r2)) (hG : GD w) :
  Calls Tryz.prog 66 #[.int .i64 32, .int .i64 10, .int .u64 a2, .int .u64 a3] w fun e w' => e = .returned (.tuple #[.int .u64 r1, .int .i64 r2]) ∧ Below w.heap.size w w' := by
 have HB := Aside0.mk (Below.refl w.heap.size w)
 have hR : bodkinref02_Right.f 32 = some true := rfl
 unfold bodkinref02_Bin.g at h
 rw [hR, Option.bind_some, if_pos rfl, if_neg (by decide), if_neg (by decide), if_neg (by decide)] at h
 have A5 := Aside0.mk hR
 clear hR
 cases k with
 | zero => cases h
 | succ k =>
 simp only [bodkinref02_Bin.j0] at h
 rw [if_neg (by decide)] at h
 replace h := Option.bind_eq_some_iff.mp h
 obtain ⟨t1, h1, h⟩ := h
 replace h := Option.bind_eq_some_iff.mp h
 obtain ⟨t2, h2, h⟩ := h
 replace h := Option.bind_eq_some_iff.mp h
 obtain ⟨t3, h3, h⟩ := h
 replace h := Option.bind_eq_some_iff.mp h
 obtain ⟨t4, h4, h⟩ := h
 rw [if_neg (by decide)] at h
 simp only [Int.reduceEq, Int.reduceBEq, ↓reduceIte] at h
 have A1 := Aside0.mk h1
 have A2 := Aside0.mk h2
 have A3 := Aside0.mk h3
 have A4 := Aside0.mk h4
 clear h1 h2 h3 h4
 obtain ⟨k0, hk0⟩ : ∃ k0, k = k0 := ⟨_, rfl⟩
 rw [hk0] at A1 A2 A3 A4
 cases k with
 | zero => cases h
 | succ k =>
 simp only [bodkinref02_Bin.j2, Int.reduceEq, Int.reduceBEq, ↓reduceIte, Bool.false_eq_true] at h
 cases k with
 | zero => cases h
 | succ k =>
 simp only [bodkinref02_Bin.j3, ↓reduceIte] at h
 replace h := Option.bind_eq_some_iff.mp h
 obtain ⟨la, h5, h⟩ := h
 replace h := Option.bind_eq_some_iff.mp h
 obtain ⟨lb, h6, h⟩ := h
 have A6 := Aside0.mk h5
 have A7 := Aside0.mk h6
 have H' := Aside0.mk h
 clear h5 h6 hk0 h
 go_enter Tryz.func66, Tryz.ntmps66
 go_wp2_with (first | (go_at_call 131; (with_reducible refine (bodkinref02_Right.calls 32 true _ A5.out ).mono ?_); rintro e w' ⟨rfl, ⟨nd, rfl⟩⟩; (try first | exact qd1_ | exact qd2_)) | (go_at_call 54; (with_reducible refine (bodkinref02_Cut.calls k0 32 a2 t1 _ A1.out ).mono ?_); rintro e w' ⟨rfl, ⟨nd, rfl⟩⟩; (try first | exact qd1_ | exact qd2_)) | (go_at_call 54; (with_reducible refine (bodkinref02_Cut.calls k0 32 a3 t2 _ A2.out ).mono ?_); rintro e w' ⟨rfl, ⟨nd, rfl⟩⟩; (try first | exact qd1_ | exact qd2_)) | (go_at_call 58; (with_reducible refine (bodkinref02_Signed.calls k0 32 t1 t3 _ A3.out ).mono ?_); rintro e w' ⟨rfl, ⟨nd, rfl⟩⟩; (try first | exact qd1_ | exact qd2_)) | (go_at_call 58; (with_reducible refine (bodkinref02_Signed.calls k0 32 t2 t4 _ A4.out ).mono ?_); rintro e w' ⟨rfl, ⟨nd, rfl⟩⟩; (try first | exact qd1_ | exact qd2_)) | (go_at_call 150; (with_reducible refine (bodkinref02_list.calls k 32 t1 la _ A6.out ).mono ?_); rintro e w39 ⟨v375, rfl, ho0, hb⟩; have n0_ := Aside0.mk (Kd.R_lower ho0 (below_size bl_)); have n1_ := Aside0.mk (below_step bl_ hb); clear HB; have HO376 := n0_; have HB := n1_; clear n0_ n1_; (try clear hb); (try clear ho0)) | (go_at_call 150; (with_reducible refine (bodkinref02_list.calls k 32 t2 lb _ A7.out ).mono ?_); rintro e w40 ⟨v378, rfl, ho0, hb⟩; have n0_ := Aside0.mk (Kd.R_elder' (by (with_reducible repeat (first | apply Kd.R_alloc | apply Kd.R_drewN | apply Kd.R_drew)); exact HO376.out) (Kd.R_base ho0) hb); have n1_ := Aside0.mk (Kd.R_lower (Kd.R_new' ho0 (Kd.R_lt (by (with_reducible repeat (first | apply Kd.R_alloc | apply Kd.R_drewN | apply Kd.R_drew)); exact HO376.out))) (below_size bl_)); have n2_ := Aside0.mk (below_step bl_ hb); clear HO376; clear HB; have HO376 := n0_; have HO379 := n1_; have HB := n2_; clear n0_ n1_ n2_; (try clear hb); (try clear ho0)))
 go_loopg [18] k (fun kq v18 w' => ∃ (xl : List Int) (xi : Int), v18 = .int .i64 xi ∧ Aside0 (bodkinref02_Bin.l1 kq 32 10 xl lb xi = some (r1, r2)) ∧ Aside0 (Kd.R (Kd.int .u64) 22 w' w.heap.size (fun k_ => some k_ ≠ (v378 : Value).ownBlock) v375 xl) ∧ Aside0 (Kd.R (Kd.int .u64) 22 w' w.heap.size (fun k_ => some k_ ≠ (v375 : Value).ownBlock) v378 lb) ∧ Aside0 (Below w.heap.size w w'))
 case atStart => exact ⟨la, 0, rfl, H', ⟨by (with_reducible repeat (first | apply Kd.R_alloc | apply Kd.R_drewN | apply Kd.R_drew)); exact Kd.R_mono HO376.out (fun _ hk => hk.2)⟩, ⟨by (with_reducible repeat (first | apply Kd.R_alloc | apply Kd.R_drewN | apply Kd.R_drew)); exact Kd.R_mono HO379.out (fun _ hk => hk.2)⟩, ⟨bl_⟩⟩
 case round =>
  clear H' HB HO376 HO379
  obtain ⟨xl, xi, rfl, HA, HO, HP, HB⟩ := hrel
  cases gk with
  | zero => exact absurd HA.out (by simp [bodkinref02_Bin.l1])
  | succ k4 =>
   have h := HA.out
   clear HA
   simp only [bodkinref02_Bin.l1] at h
   by_cases c : xi < 32
   ·rw [if_pos c] at h
    have c1 : 0 ≤ xi := Classical.byContradiction fun hc => by rw [if_neg hc] at h; cases h
    rw [if_pos c1] at h
    have c2 : xi < (xl.length : Int) := Classical.byContradiction fun hc => by rw [if_neg hc] at h; cases h
    rw [if_pos c2] at h
    have c3 : xi < (lb.length : Int) := Classical.byContradiction fun hc => by rw [if_neg hc] at h; cases h
    rw [if_pos c3, Option.bind_some] at h
    simp only [Int.reduceEq, ↓reduceIte] at h
    obtain ⟨s, hs⟩ : ∃ s, IntKind.u64.wrap (rd xl xi + rd lb xi) = s := ⟨_, rfl⟩
    rw [hs] at h
    obtain ⟨go, co, eo, gb, gl, cl, HGo⟩ := Kd.R_form HO.out (by omega)
    subst eo
    obtain ⟨A2_, c2_, e2_⟩ := Kd.R_slice HP.out
    subst e2_
    obtain ⟨ad, e380, hx0⟩ := Kd.at_int (Kd.R_reads' HO.out).2.2 xi c1 c2
    cases e380
    obtain ⟨ad2, e381, hx1⟩ := Kd.at_int (Kd.R_reads' HP.out).2.2 xi c1 c3
    cases e381
    obtain ⟨hx2, hf2⟩ := Kd.R_celln 0 HO.out xi c1 c2
    have GB := Aside0.mk gb
    clear gb gl cl HGo
    simp only [add_plain] at hx0
    replace c1 := eq_true c1
    replace c2 := eq_true c2
    replace c3 := eq_true c3
    clear hx2
    have VL : (Value.slice (some ⟨go, 0, none⟩) xl.length co).ownBlock = some go := rfl
    by_cases d : s = 1
    ·rw [if_pos d] at h
     have d1 : (s == 1) = true := beq_iff_eq.mpr d
     clear d
     have H2 := Aside0.mk h
     clear h VL
     go_wp2
     go_quiet (fail)
     go_wp2
     go_roundg k4
     case measure => omega
     case rel =>
      have p1 := Kd.R_putg (Kd.R_drewN HO.out nq) xi 0
      have p2 := Kd.R_putg p1.1 xi 1
      have q1 := Kd.R_after (v := .slice (some ⟨go, 0, none⟩) xl.length co) (v1 := .slice (some ⟨go, 0, none⟩) xl.length co) (ok := fun _ => True) (Kd.R_mono (Kd.R_drewN HP.out nq) (fun _ hk => ⟨trivial, hk⟩)) p1.2 (.inl rfl)
      have q2 := Kd.R_after (v := .slice (some ⟨go, 0, none⟩) xl.length co) (v1 := .slice (some ⟨go, 0, none⟩) xl.length co) (ok := fun _ => True) (Kd.R_mono q1 (fun _ hk => ⟨trivial, hk.2⟩)) p2.2 (.inl rfl)
      exact ⟨_, _, rfl, H2, ⟨p2.1⟩, ⟨Kd.R_mono q2 (fun _ hk => hk.2)⟩, ⟨below_set (below_set (pw_below_drewN HB.out nq) GB.out) GB.out⟩⟩
    ·rw [if_neg d] at h
     have d1 : (s == 1) = false := beq_eq_false_iff_ne.mpr d
     clear d
     have H2 := Aside0.mk h
     clear h VL
     go_wp2
     go_quiet (fail)
     go_wp2
     go_roundg k4
     case measure => omega
     case rel =>
      have p1 := Kd.R_putg (Kd.R_drewN HO.out nq) xi 0
      have q1 := Kd.R_after (v := .slice (some ⟨go, 0, none⟩) xl.length co) (v1 := .slice (some ⟨go, 0, none⟩) xl.length co) (ok := fun _ => True) (Kd.R_mono (Kd.R_drewN HP.out nq) (fun _ hk => ⟨trivial, hk⟩)) p1.2 (.inl rfl)
      exact ⟨_, _, rfl, H2, ⟨p1.1⟩, ⟨Kd.R_mono q1 (fun _ hk => hk.2)⟩, ⟨below_set (pw_below_drewN HB.out nq) GB.out⟩⟩
   ·rw [if_neg c] at h
    replace h := Option.bind_eq_some_iff.mp h
    obtain ⟨t5, h5, h⟩ := h
    simp only [Option.some.injEq, Prod.mk.injEq] at h
    obtain ⟨rfl, rfl⟩ := h
    have A8 := Aside0.mk h5
    clear h5
    obtain ⟨A3_, c3_, e3_, hl3, hr3⟩ := Kd.R_reads HO.out
    subst e3_
    go_wp2_with (first | (go_at_call 151; (with_reducible refine (bodkinref02_of.calls k4 A3_ c3_ xl t5 _ hr3 hl3 A8.out ).mono ?_); rintro e w' ⟨rfl, ⟨nd, rfl⟩⟩))
    go_ret2
    exact ⟨rfl, bl_⟩
set_option maxHeartbeats 8000000 in
set_option maxRecDepth 100000 in
theorem bodkinref02_Bin.bin_32_11 (k : Nat) (a2 : Int) (a3 : Int) (r1 : Int) (r2 : Int) (w : World) (h : bodkinref02_Bin.g k 32 11 a2 a3 = some (r1, r2)) (hG : GD w) :
  Calls Tryz.prog 66 #[.int .i64 32, .int .i64 11, .int .u64 a2, .int .u64 a3] w fun e w' => e = .returned (.tuple #[.int .u64 r1, .int .i64 r2]) ∧ Below w.heap.size w w' := by
 have HB := Aside0.mk (Below.refl w.heap.size w)
 have hR : bodkinref02_Right.f 32 = some true := rfl
 unfold bodkinref02_Bin.g at h
 rw [hR, Option.bind_some, if_pos rfl, if_neg (by decide), if_neg (by decide), if_neg (by decide)] at h
 have A5 := Aside0.mk hR
 clear hR
 cases k with
 | zero => cases h
 | succ k =>
 simp only [bodkinref02_Bin.j0] at h
 rw [if_neg (by decide)] at h
 replace h := Option.bind_eq_some_iff.mp h
 obtain ⟨t1, h1, h⟩ := h
 replace h := Option.bind_eq_some_iff.mp h
 obtain ⟨t2, h2, h⟩ := h
 replace h := Option.bind_eq_some_iff.mp h
 obtain ⟨t3, h3, h⟩ := h
 replace h := Option.bind_eq_some_iff.mp h
 obtain ⟨t4, h4, h⟩ := h
 rw [if_neg (by decide)] at h
 simp only [Int.reduceEq, Int.reduceBEq, ↓reduceIte] at h
 have A1 := Aside0.mk h1
 have A2 := Aside0.mk h2
 have A3 := Aside0.mk h3
 have A4 := Aside0.mk h4
 clear h1 h2 h3 h4
 obtain ⟨k0, hk0⟩ : ∃ k0, k = k0 := ⟨_, rfl⟩
 rw [hk0] at A1 A2 A3 A4
 cases k with
 | zero => cases h
 | succ k =>
 simp only [bodkinref02_Bin.j2, Int.reduceEq, Int.reduceBEq, ↓reduceIte, Bool.false_eq_true] at h
 cases k with
 | zero => cases h
 | succ k =>
 simp only [bodkinref02_Bin.j3, Int.reduceEq, Int.reduceBEq, ↓reduceIte, Bool.false_eq_true] at h
 cases k with
 | zero => cases h
 | succ k =>
 simp only [bodkinref02_Bin.j5, ↓reduceIte] at h
 rw [show IntKind.u64.wrap 32 = 32 from by decide] at h
 replace h := Option.bind_eq_some_iff.mp h
 obtain ⟨t5, h5, h⟩ := h
 simp only [Option.some.injEq, Prod.mk.injEq] at h
 obtain ⟨rfl, rfl⟩ := h
 have A6 := Aside0.mk h5
 clear h5 hk0
 go_enter Tryz.func66, Tryz.ntmps66
 go_wp2_with (first | (go_at_call 131; (with_reducible refine (bodkinref02_Right.calls 32 true _ A5.out ).mono ?_); rintro e w' ⟨rfl, ⟨nd, rfl⟩⟩; (try first | exact qd1_ | exact qd2_)) | (go_at_call 54; (with_reducible refine (bodkinref02_Cut.calls k0 32 a2 t1 _ A1.out ).mono ?_); rintro e w' ⟨rfl, ⟨nd, rfl⟩⟩; (try first | exact qd1_ | exact qd2_)) | (go_at_call 54; (with_reducible refine (bodkinref02_Cut.calls k0 32 a3 t2 _ A2.out ).mono ?_); rintro e w' ⟨rfl, ⟨nd, rfl⟩⟩; (try first | exact qd1_ | exact qd2_)) | (go_at_call 58; (with_reducible refine (bodkinref02_Signed.calls k0 32 t1 t3 _ A3.out ).mono ?_); rintro e w' ⟨rfl, ⟨nd, rfl⟩⟩; (try first | exact qd1_ | exact qd2_)) | (go_at_call 58; (with_reducible refine (bodkinref02_Signed.calls k0 32 t2 t4 _ A4.out ).mono ?_); rintro e w' ⟨rfl, ⟨nd, rfl⟩⟩; (try first | exact qd1_ | exact qd2_)) | (go_at_call 153; (with_reducible refine (bodkinref02_moved.calls k 32 11 t1 _ t5 _ A6.out ).mono ?_); rintro e w1 ⟨rfl, hb⟩; have n1_ := Aside0.mk (below_step bl_ hb); clear HB; have HB := n1_; clear n1_; (try clear hb)))
 go_ret2
 exact ⟨rs_, bl_⟩
set_option maxHeartbeats 8000000 in
set_option maxRecDepth 100000 in
theorem bodkinref02_Bin.bin_32_12 (k : Nat) (a2 : Int) (a3 : Int) (r1 : Int) (r2 : Int) (w : World) (h : bodkinref02_Bin.g k 32 12 a2 a3 = some (r1, r2)) (hG : GD w) :
  Calls Tryz.prog 66 #[.int .i64 32, .int .i64 12, .int .u64 a2, .int .u64 a3] w fun e w' => e = .returned (.tuple #[.int .u64 r1, .int .i64 r2]) ∧ Below w.heap.size w w' := by
 have HB := Aside0.mk (Below.refl w.heap.size w)
 have hR : bodkinref02_Right.f 32 = some true := rfl
 unfold bodkinref02_Bin.g at h
 rw [hR, Option.bind_some, if_pos rfl, if_neg (by decide), if_neg (by decide), if_neg (by decide)] at h
 have A5 := Aside0.mk hR
 clear hR
 cases k with
 | zero => cases h
 | succ k =>
 simp only [bodkinref02_Bin.j0] at h
 rw [if_neg (by decide)] at h
 replace h := Option.bind_eq_some_iff.mp h
 obtain ⟨t1, h1, h⟩ := h
 replace h := Option.bind_eq_some_iff.mp h
 obtain ⟨t2, h2, h⟩ := h
 replace h := Option.bind_eq_some_iff.mp h
 obtain ⟨t3, h3, h⟩ := h
 replace h := Option.bind_eq_some_iff.mp h
 obtain ⟨t4, h4, h⟩ := h
 rw [if_neg (by decide)] at h
 simp only [Int.reduceEq, Int.reduceBEq, ↓reduceIte] at h
 have A1 := Aside0.mk h1
 have A2 := Aside0.mk h2
 have A3 := Aside0.mk h3
 have A4 := Aside0.mk h4
 clear h1 h2 h3 h4
 obtain ⟨k0, hk0⟩ : ∃ k0, k = k0 := ⟨_, rfl⟩
 rw [hk0] at A1 A2 A3 A4
 cases k with
 | zero => cases h
 | succ k =>
 simp only [bodkinref02_Bin.j2, Int.reduceEq, Int.reduceBEq, ↓reduceIte, Bool.false_eq_true] at h
 cases k with
 | zero => cases h
 | succ k =>
 simp only [bodkinref02_Bin.j3, Int.reduceEq, Int.reduceBEq, ↓reduceIte, Bool.false_eq_true] at h
 cases k with
 | zero => cases h
 | succ k =>
 simp only [bodkinref02_Bin.j5, ↓reduceIte] at h
 rw [show IntKind.u64.wrap 32 = 32 from by decide] at h
 replace h := Option.bind_eq_some_iff.mp h
 obtain ⟨t5, h5, h⟩ := h
 simp only [Option.some.injEq, Prod.mk.injEq] at h
 obtain ⟨rfl, rfl⟩ := h
 have A6 := Aside0.mk h5
 clear h5 hk0
 go_enter Tryz.func66, Tryz.ntmps66
 go_wp2_with (first | (go_at_call 131; (with_reducible refine (bodkinref02_Right.calls 32 true _ A5.out ).mono ?_); rintro e w' ⟨rfl, ⟨nd, rfl⟩⟩; (try first | exact qd1_ | exact qd2_)) | (go_at_call 54; (with_reducible refine (bodkinref02_Cut.calls k0 32 a2 t1 _ A1.out ).mono ?_); rintro e w' ⟨rfl, ⟨nd, rfl⟩⟩; (try first | exact qd1_ | exact qd2_)) | (go_at_call 54; (with_reducible refine (bodkinref02_Cut.calls k0 32 a3 t2 _ A2.out ).mono ?_); rintro e w' ⟨rfl, ⟨nd, rfl⟩⟩; (try first | exact qd1_ | exact qd2_)) | (go_at_call 58; (with_reducible refine (bodkinref02_Signed.calls k0 32 t1 t3 _ A3.out ).mono ?_); rintro e w' ⟨rfl, ⟨nd, rfl⟩⟩; (try first | exact qd1_ | exact qd2_)) | (go_at_call 58; (with_reducible refine (bodkinref02_Signed.calls k0 32 t2 t4 _ A4.out ).mono ?_); rintro e w' ⟨rfl, ⟨nd, rfl⟩⟩; (try first | exact qd1_ | exact qd2_)) | (go_at_call 153; (with_reducible refine (bodkinref02_moved.calls k 32 12 t1 _ t5 _ A6.out ).mono ?_); rintro e w1 ⟨rfl, hb⟩; have n1_ := Aside0.mk (below_step bl_ hb); clear HB; have HB := n1_; clear n1_; (try clear hb)))
 go_ret2
 exact ⟨rs_, bl_⟩
set_option maxHeartbeats 8000000 in
set_option maxRecDepth 100000 in
theorem bodkinref02_Bin.bin_32_13 (k : Nat) (a2 : Int) (a3 : Int) (r1 : Int) (r2 : Int) (w : World) (h : bodkinref02_Bin.g k 32 13 a2 a3 = some (r1, r2)) (hG : GD w) :
  Calls Tryz.prog 66 #[.int .i64 32, .int .i64 13, .int .u64 a2, .int .u64 a3] w fun e w' => e = .returned (.tuple #[.int .u64 r1, .int .i64 r2]) ∧ Below w.heap.size w w' := by
 have HB := Aside0.mk (Below.refl w.heap.size w)
 have hR : bodkinref02_Right.f 32 = some true := rfl
 unfold bodkinref02_Bin.g at h
 rw [hR, Option.bind_some, if_pos rfl, if_neg (by decide), if_neg (by decide), if_neg (by decide)] at h
 have A5 := Aside0.mk hR
 clear hR
 cases k with
 | zero => cases h
 | succ k =>
 simp only [bodkinref02_Bin.j0] at h
 rw [if_neg (by decide)] at h
 replace h := Option.bind_eq_some_iff.mp h
 obtain ⟨t1, h1, h⟩ := h
 replace h := Option.bind_eq_some_iff.mp h
 obtain ⟨t2, h2, h⟩ := h
 replace h := Option.bind_eq_some_iff.mp h
 obtain ⟨t3, h3, h⟩ := h
 replace h := Option.bind_eq_some_iff.mp h
 obtain ⟨t4, h4, h⟩ := h
 rw [if_neg (by decide)] at h
 simp only [Int.reduceEq, Int.reduceBEq, ↓reduceIte] at h
 have A1 := Aside0.mk h1
 have A2 := Aside0.mk h2
 have A3 := Aside0.mk h3
 have A4 := Aside0.mk h4
 clear h1 h2 h3 h4
 obtain ⟨k0, hk0⟩ : ∃ k0, k = k0 := ⟨_, rfl⟩
 rw [hk0] at A1 A2 A3 A4
 cases k with
 | zero => cases h
 | succ k =>
 simp only [bodkinref02_Bin.j2, Int.reduceEq, Int.reduceBEq, ↓reduceIte, Bool.false_eq_true] at h
 cases k with
 | zero => cases h
 | succ k =>
 simp only [bodkinref02_Bin.j3, Int.reduceEq, Int.reduceBEq, ↓reduceIte, Bool.false_eq_true] at h
 cases k with
 | zero => cases h
 | succ k =>
 simp only [bodkinref02_Bin.j5, ↓reduceIte] at h
 rw [show IntKind.u64.wrap 32 = 32 from by decide] at h
 replace h := Option.bind_eq_some_iff.mp h
 obtain ⟨t5, h5, h⟩ := h
 simp only [Option.some.injEq, Prod.mk.injEq] at h
 obtain ⟨rfl, rfl⟩ := h
 have A6 := Aside0.mk h5
 clear h5 hk0
 go_enter Tryz.func66, Tryz.ntmps66
 go_wp2_with (first | (go_at_call 131; (with_reducible refine (bodkinref02_Right.calls 32 true _ A5.out ).mono ?_); rintro e w' ⟨rfl, ⟨nd, rfl⟩⟩; (try first | exact qd1_ | exact qd2_)) | (go_at_call 54; (with_reducible refine (bodkinref02_Cut.calls k0 32 a2 t1 _ A1.out ).mono ?_); rintro e w' ⟨rfl, ⟨nd, rfl⟩⟩; (try first | exact qd1_ | exact qd2_)) | (go_at_call 54; (with_reducible refine (bodkinref02_Cut.calls k0 32 a3 t2 _ A2.out ).mono ?_); rintro e w' ⟨rfl, ⟨nd, rfl⟩⟩; (try first | exact qd1_ | exact qd2_)) | (go_at_call 58; (with_reducible refine (bodkinref02_Signed.calls k0 32 t1 t3 _ A3.out ).mono ?_); rintro e w' ⟨rfl, ⟨nd, rfl⟩⟩; (try first | exact qd1_ | exact qd2_)) | (go_at_call 58; (with_reducible refine (bodkinref02_Signed.calls k0 32 t2 t4 _ A4.out ).mono ?_); rintro e w' ⟨rfl, ⟨nd, rfl⟩⟩; (try first | exact qd1_ | exact qd2_)) | (go_at_call 153; (with_reducible refine (bodkinref02_moved.calls k 32 13 t1 _ t5 _ A6.out ).mono ?_); rintro e w1 ⟨rfl, hb⟩; have n1_ := Aside0.mk (below_step bl_ hb); clear HB; have HB := n1_; clear n1_; (try clear hb)))
 go_ret2
 exact ⟨rs_, bl_⟩
set_option maxHeartbeats 8000000 in
set_option maxRecDepth 100000 in
theorem bodkinref02_Bin.bin_32_14 (k : Nat) (a2 : Int) (a3 : Int) (r1 : Int) (r2 : Int) (w : World) (h : bodkinref02_Bin.g k 32 14 a2 a3 = some (r1, r2)) (hG : GD w) :
  Calls Tryz.prog 66 #[.int .i64 32, .int .i64 14, .int .u64 a2, .int .u64 a3] w fun e w' => e = .returned (.tuple #[.int .u64 r1, .int .i64 r2]) ∧ Below w.heap.size w w' := by
 have HB := Aside0.mk (Below.refl w.heap.size w)
 have hR : bodkinref02_Right.f 32 = some true := rfl
 unfold bodkinref02_Bin.g at h
 rw [hR, Option.bind_some, if_pos rfl, if_neg (by decide), if_neg (by decide), if_neg (by decide)] at h
 have A5 := Aside0.mk hR
 clear hR
 cases k with
 | zero => cases h
 | succ k =>
 simp only [bodkinref02_Bin.j0] at h
 rw [if_neg (by decide)] at h
 replace h := Option.bind_eq_some_iff.mp h
 obtain ⟨t1, h1, h⟩ := h
 replace h := Option.bind_eq_some_iff.mp h
 obtain ⟨t2, h2, h⟩ := h
 replace h := Option.bind_eq_some_iff.mp h
 obtain ⟨t3, h3, h⟩ := h
 replace h := Option.bind_eq_some_iff.mp h
 obtain ⟨t4, h4, h⟩ := h
 rw [if_neg (by decide)] at h
 simp only [Int.reduceEq, Int.reduceBEq, ↓reduceIte] at h
 have A1 := Aside0.mk h1
 have A2 := Aside0.mk h2
 have A3 := Aside0.mk h3
 have A4 := Aside0.mk h4
 clear h1 h2 h3 h4
 obtain ⟨k0, hk0⟩ : ∃ k0, k = k0 := ⟨_, rfl⟩
 rw [hk0] at A1 A2 A3 A4
 cases k with
 | zero => cases h
 | succ k =>
 simp only [bodkinref02_Bin.j2, Int.reduceEq, Int.reduceBEq, ↓reduceIte, Bool.false_eq_true] at h
 cases k with
 | zero => cases h
 | succ k =>
 simp only [bodkinref02_Bin.j3, Int.reduceEq, Int.reduceBEq, ↓reduceIte, Bool.false_eq_true] at h
 cases k with
 | zero => cases h
 | succ k =>
 simp only [bodkinref02_Bin.j5, ↓reduceIte] at h
 rw [show IntKind.u64.wrap 32 = 32 from by decide] at h
 replace h := Option.bind_eq_some_iff.mp h
 obtain ⟨t5, h5, h⟩ := h
 simp only [Option.some.injEq, Prod.mk.injEq] at h
 obtain ⟨rfl, rfl⟩ := h
 have A6 := Aside0.mk h5
 clear h5 hk0
 go_enter Tryz.func66, Tryz.ntmps66
 go_wp2_with (first | (go_at_call 131; (with_reducible refine (bodkinref02_Right.calls 32 true _ A5.out ).mono ?_); rintro e w' ⟨rfl, ⟨nd, rfl⟩⟩; (try first | exact qd1_ | exact qd2_)) | (go_at_call 54; (with_reducible refine (bodkinref02_Cut.calls k0 32 a2 t1 _ A1.out ).mono ?_); rintro e w' ⟨rfl, ⟨nd, rfl⟩⟩; (try first | exact qd1_ | exact qd2_)) | (go_at_call 54; (with_reducible refine (bodkinref02_Cut.calls k0 32 a3 t2 _ A2.out ).mono ?_); rintro e w' ⟨rfl, ⟨nd, rfl⟩⟩; (try first | exact qd1_ | exact qd2_)) | (go_at_call 58; (with_reducible refine (bodkinref02_Signed.calls k0 32 t1 t3 _ A3.out ).mono ?_); rintro e w' ⟨rfl, ⟨nd, rfl⟩⟩; (try first | exact qd1_ | exact qd2_)) | (go_at_call 58; (with_reducible refine (bodkinref02_Signed.calls k0 32 t2 t4 _ A4.out ).mono ?_); rintro e w' ⟨rfl, ⟨nd, rfl⟩⟩; (try first | exact qd1_ | exact qd2_)) | (go_at_call 153; (with_reducible refine (bodkinref02_moved.calls k 32 14 t1 _ t5 _ A6.out ).mono ?_); rintro e w1 ⟨rfl, hb⟩; have n1_ := Aside0.mk (below_step bl_ hb); clear HB; have HB := n1_; clear n1_; (try clear hb)))
 go_ret2
 exact ⟨rs_, bl_⟩
set_option maxHeartbeats 8000000 in
set_option maxRecDepth 100000 in
theorem bodkinref02_Bin.bin_32_15 (k : Nat) (a2 : Int) (a3 : Int) (r1 : Int) (r2 : Int) (w : World) (h : bodkinref02_Bin.g k 32 15 a2 a3 = some (r1, r2)) (hG : GD w) :
  Calls Tryz.prog 66 #[.int .i64 32, .int .i64 15, .int .u64 a2, .int .u64 a3] w fun e w' => e = .returned (.tuple #[.int .u64 r1, .int .i64 r2]) ∧ Below w.heap.size w w' := by
 have HB := Aside0.mk (Below.refl w.heap.size w)
 have hR : bodkinref02_Right.f 32 = some true := rfl
 unfold bodkinref02_Bin.g at h
 rw [hR, Option.bind_some, if_pos rfl, if_neg (by decide), if_neg (by decide), if_neg (by decide)] at h
 have A5 := Aside0.mk hR
 clear hR
 cases k with
 | zero => cases h
 | succ k =>
 simp only [bodkinref02_Bin.j0] at h
 rw [if_neg (by decide)] at h
 replace h := Option.bind_eq_some_iff.mp h
 obtain ⟨t1, h1, h⟩ := h
 replace h := Option.bind_eq_some_iff.mp h
 obtain ⟨t2, h2, h⟩ := h
 replace h := Option.bind_eq_some_iff.mp h
 obtain ⟨t3, h3, h⟩ := h
 replace h := Option.bind_eq_some_iff.mp h
 obtain ⟨t4, h4, h⟩ := h
 rw [if_neg (by decide)] at h
 simp only [Int.reduceEq, Int.reduceBEq, ↓reduceIte] at h
 have A1 := Aside0.mk h1
 have A2 := Aside0.mk h2
 have A3 := Aside0.mk h3
 have A4 := Aside0.mk h4
 clear h1 h2 h3 h4
 obtain ⟨k0, hk0⟩ : ∃ k0, k = k0 := ⟨_, rfl⟩
 rw [hk0] at A1 A2 A3 A4
 cases k with
 | zero => cases h
 | succ k =>
 simp only [bodkinref02_Bin.j2, Int.reduceEq, Int.reduceBEq, ↓reduceIte, Bool.false_eq_true] at h
 cases k with
 | zero => cases h
 | succ k =>
 simp only [bodkinref02_Bin.j3, Int.reduceEq, Int.reduceBEq, ↓reduceIte, Bool.false_eq_true] at h
 cases k with
 | zero => cases h
 | succ k =>
 simp only [bodkinref02_Bin.j5, ↓reduceIte] at h
 rw [show IntKind.u64.wrap 32 = 32 from by decide] at h
 replace h := Option.bind_eq_some_iff.mp h
 obtain ⟨t5, h5, h⟩ := h
 simp only [Option.some.injEq, Prod.mk.injEq] at h
 obtain ⟨rfl, rfl⟩ := h
 have A6 := Aside0.mk h5
 clear h5 hk0
 go_enter Tryz.func66, Tryz.ntmps66
 go_wp2_with (first | (go_at_call 131; (with_reducible refine (bodkinref02_Right.calls 32 true _ A5.out ).mono ?_); rintro e w' ⟨rfl, ⟨nd, rfl⟩⟩; (try first | exact qd1_ | exact qd2_)) | (go_at_call 54; (with_reducible refine (bodkinref02_Cut.calls k0 32 a2 t1 _ A1.out ).mono ?_); rintro e w' ⟨rfl, ⟨nd, rfl⟩⟩; (try first | exact qd1_ | exact qd2_)) | (go_at_call 54; (with_reducible refine (bodkinref02_Cut.calls k0 32 a3 t2 _ A2.out ).mono ?_); rintro e w' ⟨rfl, ⟨nd, rfl⟩⟩; (try first | exact qd1_ | exact qd2_)) | (go_at_call 58; (with_reducible refine (bodkinref02_Signed.calls k0 32 t1 t3 _ A3.out ).mono ?_); rintro e w' ⟨rfl, ⟨nd, rfl⟩⟩; (try first | exact qd1_ | exact qd2_)) | (go_at_call 58; (with_reducible refine (bodkinref02_Signed.calls k0 32 t2 t4 _ A4.out ).mono ?_); rintro e w' ⟨rfl, ⟨nd, rfl⟩⟩; (try first | exact qd1_ | exact qd2_)) | (go_at_call 153; (with_reducible refine (bodkinref02_moved.calls k 32 15 t1 _ t5 _ A6.out ).mono ?_); rintro e w1 ⟨rfl, hb⟩; have n1_ := Aside0.mk (below_step bl_ hb); clear HB; have HB := n1_; clear n1_; (try clear hb)))
 go_ret2
 exact ⟨rs_, bl_⟩
end Go.Proofs.YtkhhhceeoljheaaGreatDoor.PInt

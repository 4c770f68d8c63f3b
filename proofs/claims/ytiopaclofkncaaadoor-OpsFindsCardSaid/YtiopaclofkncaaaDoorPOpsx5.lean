import Derived.Test.YtiopaclofkncaaaDoorPOpsx0
namespace Go.Proofs.YtiopaclofkncaaaDoor.POps
open Go.RowKit Go.Proofs.YtiopaclofkncaaaDoorW.PrintWords Go.Proofs.YtiopaclofkncaaaDoorW.PrintLast Go.Proofs.YtiopaclofkncaaaDoorW.PrintMore
attribute [local go_sem] max2_int min2_int max_two min_two max_three min_three max_four min_four   
set_option linter.unusedVariables false
set_option linter.unusedSimpArgs false
def bodkinref05_Same.l0 : Nat → List Int → List Int → Int → Option (Bool)
 | 0, _, _, _ => none
 | k + 1, x0, x1, x5 => if x5 < (x0.length : Int) then (if 0 ≤ x5 then (if x5 < (x1.length : Int) then (if (rd x0 x5) = (rd x1 x5) then (bodkinref05_Same.l0 k x0 x1 (wrap64 (x5 + 1))) else (some false)) else (none)) else (none)) else (some true)
def bodkinref05_Same.f (k : Nat) (l0 : List Int) (l1 : List Int) : Option (Bool) := if (l0.length : Int) = (l1.length : Int) then (bodkinref05_Same.l0 k l0 l1 0) else (some false)
theorem bodkinref05_Same.mono_l : ∀ k, (∀ y0 y1 y2, LeO (bodkinref05_Same.l0 k y0 y1 y2) (bodkinref05_Same.l0 (k + 1) y0 y1 y2))
 | 0 => fun _ _ _ r h => by simp [bodkinref05_Same.l0] at h
 | k + 1 => by
  have ih0 := bodkinref05_Same.mono_l k
  ·intro y0 y1 y2
   unfold bodkinref05_Same.l0
   repeat' first
   | (with_reducible exact ih0 _ _ _)
   | (with_reducible exact LeO.refl _)
   | (with_reducible exact LeO.none _)
   | (with_reducible refine LeO.ite ?_ ?_)
   | (with_reducible refine LeO.bind ?_ (fun _ => ?_))
   | exact ih0 _ _ _
   | exact LeO.none _
   | refine LeO.ite ?_ ?_
   | refine LeO.bind ?_ (fun _ => ?_)
theorem bodkinref05_Same.mono : ∀ a0 a1 k, LeO (bodkinref05_Same.f k a0 a1) (bodkinref05_Same.f (k + 1) a0 a1) := by
 intro a0 a1 k
 have ih0 := bodkinref05_Same.mono_l k
 unfold bodkinref05_Same.f
 repeat' first
   | (with_reducible exact ih0 _ _ _)
   | (with_reducible exact LeO.refl _)
   | (with_reducible exact LeO.none _)
   | (with_reducible refine LeO.ite ?_ ?_)
   | (with_reducible refine LeO.bind ?_ (fun _ => ?_))
   | exact ih0 _ _ _
   | exact LeO.none _
   | refine LeO.ite ?_ ?_
   | refine LeO.bind ?_ (fun _ => ?_)
def bodkinref05_Types.l0 : Nat → ByteArray → List Int → Int → Option (List Int)
 | 0, _, _, _ => none
 | k + 1, x0, x3, x4 => if x4 < (x0.size : Int) then (if 0 ≤ x4 then (if (bt x0 x4) = 105 then (if x3.length < 17592186044416 then (bodkinref05_Types.l0 k x0 (x3 ++ [127]) (wrap64 (x4 + 1))) else (none)) else (if (bt x0 x4) = 108 then (if x3.length < 17592186044416 then (bodkinref05_Types.l0 k x0 (x3 ++ [126]) (wrap64 (x4 + 1))) else (none)) else (if (bt x0 x4) = 102 then (if x3.length < 17592186044416 then (bodkinref05_Types.l0 k x0 (x3 ++ [125]) (wrap64 (x4 + 1))) else (none)) else (if (bt x0 x4) = 100 then (if x3.length < 17592186044416 then (bodkinref05_Types.l0 k x0 (x3 ++ [124]) (wrap64 (x4 + 1))) else (none)) else (if (bt x0 x4) = 118 then (if x3.length < 17592186044416 then (bodkinref05_Types.l0 k x0 (x3 ++ [123]) (wrap64 (x4 + 1))) else (none)) else (if (bt x0 x4) = 110 then (if x3.length < 17592186044416 then (bodkinref05_Types.l0 k x0 (x3 ++ [112]) (wrap64 (x4 + 1))) else (none)) else (bodkinref05_Types.l0 k x0 x3 (wrap64 (x4 + 1))))))))) else (none)) else (some x3)
def bodkinref05_Types.f (k : Nat) (a0 : ByteArray) : Option (List Int) := bodkinref05_Types.l0 k a0 ([] : List Int) 0
theorem bodkinref05_Types.mono_l : ∀ k, (∀ y0 y1 y2, LeO (bodkinref05_Types.l0 k y0 y1 y2) (bodkinref05_Types.l0 (k + 1) y0 y1 y2))
 | 0 => fun _ _ _ r h => by simp [bodkinref05_Types.l0] at h
 | k + 1 => by
  have ih0 := bodkinref05_Types.mono_l k
  ·intro y0 y1 y2
   unfold bodkinref05_Types.l0
   repeat' first
   | (with_reducible exact ih0 _ _ _)
   | (with_reducible exact LeO.refl _)
   | (with_reducible exact LeO.none _)
   | (with_reducible refine LeO.ite ?_ ?_)
   | (with_reducible refine LeO.bind ?_ (fun _ => ?_))
   | exact ih0 _ _ _
   | exact LeO.none _
   | refine LeO.ite ?_ ?_
   | refine LeO.bind ?_ (fun _ => ?_)
theorem bodkinref05_Types.mono : ∀ a0 k, LeO (bodkinref05_Types.f k a0) (bodkinref05_Types.f (k + 1) a0) := by
 intro a0 k
 have ih0 := bodkinref05_Types.mono_l k
 unfold bodkinref05_Types.f
 repeat' first
   | (with_reducible exact ih0 _ _ _)
   | (with_reducible exact LeO.refl _)
   | (with_reducible exact LeO.none _)
   | (with_reducible refine LeO.ite ?_ ?_)
   | (with_reducible refine LeO.bind ?_ (fun _ => ?_))
   | exact ih0 _ _ _
   | exact LeO.none _
   | refine LeO.ite ?_ ?_
   | refine LeO.bind ?_ (fun _ => ?_)
def bodkinref05_has.l0 : Nat → ByteArray → ByteArray → Int → Option (Bool)
 | 0, _, _, _ => none
 | k + 1, x0, x1, x5 => if (wrap64 (x5 + (x1.size : Int))) ≤ (x0.size : Int) then (if 0 ≤ x5 then (if x5 ≤ (wrap64 (x5 + (x1.size : Int))) then (if (x0.extract (x5 : Int).toNat ((wrap64 (x5 + (x1.size : Int))) : Int).toNat).toList = x1.toList then (some true) else (bodkinref05_has.l0 k x0 x1 (wrap64 (x5 + 1)))) else (none)) else (none)) else (some false)
def bodkinref05_has.f (k : Nat) (a0 : ByteArray) (a1 : ByteArray) : Option (Bool) := bodkinref05_has.l0 k a0 a1 0
theorem bodkinref05_has.mono_l : ∀ k, (∀ y0 y1 y2, LeO (bodkinref05_has.l0 k y0 y1 y2) (bodkinref05_has.l0 (k + 1) y0 y1 y2))
 | 0 => fun _ _ _ r h => by simp [bodkinref05_has.l0] at h
 | k + 1 => by
  have ih0 := bodkinref05_has.mono_l k
  ·intro y0 y1 y2
   unfold bodkinref05_has.l0
   repeat' first
   | (with_reducible exact ih0 _ _ _)
   | (with_reducible exact LeO.refl _)
   | (with_reducible exact LeO.none _)
   | (with_reducible refine LeO.ite ?_ ?_)
   | (with_reducible refine LeO.bind ?_ (fun _ => ?_))
   | exact ih0 _ _ _
   | exact LeO.none _
   | refine LeO.ite ?_ ?_
   | refine LeO.bind ?_ (fun _ => ?_)
theorem bodkinref05_has.mono : ∀ a0 a1 k, LeO (bodkinref05_has.f k a0 a1) (bodkinref05_has.f (k + 1) a0 a1) := by
 intro a0 a1 k
 have ih0 := bodkinref05_has.mono_l k
 unfold bodkinref05_has.f
 repeat' first
   | (with_reducible exact ih0 _ _ _)
   | (with_reducible exact LeO.refl _)
   | (with_reducible exact LeO.none _)
   | (with_reducible refine LeO.ite ?_ ?_)
   | (with_reducible refine LeO.bind ?_ (fun _ => ?_))
   | exact ih0 _ _ _
   | exact LeO.none _
   | refine LeO.ite ?_ ?_
   | refine LeO.bind ?_ (fun _ => ?_)
end Go.Proofs.YtiopaclofkncaaaDoor.POps

import Derived.Test.YtiopaclofkncaaaDoorPOpsx0
import Derived.Test.YtiopaclofkncaaaDoorPOpsx4
import Derived.Test.YtiopaclofkncaaaDoorPOpsx5
import Derived.Test.YtiopaclofkncaaaDoorPOpsx6
namespace Go.Proofs.YtiopaclofkncaaaDoor.POps
open Go.RowKit Go.Proofs.YtiopaclofkncaaaDoorW.PrintWords Go.Proofs.YtiopaclofkncaaaDoorW.PrintLast Go.Proofs.YtiopaclofkncaaaDoorW.PrintMore
attribute [local go_sem] max2_int min2_int max_two min_two max_three min_three max_four min_four   
set_option linter.unusedVariables false
set_option linter.unusedSimpArgs false
def bodkinref05_Align.f (k : Nat) (a0 : Int) : Option (Int) := (bodkinref05_Bytes.f k a0).bind fun t238 => (if t238 = 1 then (some 0) else (if t238 = 2 then (some 1) else (if t238 = 4 then (some 2) else (if t238 = 8 then (some 3) else (if t238 = 16 then (some 4) else (some (-1)))))))
theorem bodkinref05_Align.mono : ∀ a0 k, LeO (bodkinref05_Align.f k a0) (bodkinref05_Align.f (k + 1) a0) := by
 intro a0 k
 unfold bodkinref05_Align.f
 repeat' first
   | (with_reducible exact bodkinref05_Bytes.mono _ _)
   | (with_reducible exact LeO.refl _)
   | (with_reducible exact LeO.none _)
   | (with_reducible refine LeO.ite ?_ ?_)
   | (with_reducible refine LeO.bind ?_ (fun _ => ?_))
   | exact bodkinref05_Bytes.mono _ _
   | exact LeO.none _
   | refine LeO.ite ?_ ?_
   | refine LeO.bind ?_ (fun _ => ?_)
def bodkinref05_Lanes.l0 : Nat → List ByteArray → Int → Int → ByteArray → Int → ByteArray → ByteArray → Bool → Option (Int)
 | 0, _, _, _, _, _, _, _, _ => none
 | k + 1, x4, x5, x246000, x246001, x246002, x246003, x246004, x246005 => if x5 < (x4.length : Int) then (if 0 ≤ x5 then ((bodkinref05_has.f k x246001 (rdOf ByteArray.empty x4 x5)).bind fun t251 => (if t251 = true then ((some (([16, 8, 4, 2, 4, 2] : List Int) : List Int)).bind fun y252 => (if x5 < (y252.length : Int) then (some (rd y252 x5)) else (none))) else (bodkinref05_Lanes.l0 k x4 (wrap64 (x5 + 1)) x246000 x246001 x246002 x246003 x246004 x246005))) else (none)) else (some 0)
def bodkinref05_Lanes.f (k : Nat) (a0 : Int) : Option (Int) := (bodkinref05_Of.f k a0).bind fun bt239 => (if bt239.1 < 0 then (some 0) else (if bt239.2.2.1 = 24 then (some 32) else (if bt239.2.2.1 = 26 then ((bodkinref05_Bytes.f k a0).bind fun t246 => (if t246 = 0 then (none) else (some (wrap64 ((16 : Int) / t246))))) else (if bt239.2.2.1 = 25 then (bodkinref05_Lanes.l0 k (([(⟨#[105, 56, 120, 49, 54]⟩ : ByteArray), (⟨#[105, 49, 54, 120, 56]⟩ : ByteArray), (⟨#[105, 51, 50, 120, 52]⟩ : ByteArray), (⟨#[105, 54, 52, 120, 50]⟩ : ByteArray), (⟨#[102, 51, 50, 120, 52]⟩ : ByteArray), (⟨#[102, 54, 52, 120, 50]⟩ : ByteArray)] : List ByteArray)) 0 bt239.1 bt239.2.1 bt239.2.2.1 bt239.2.2.2.1 bt239.2.2.2.2.1 bt239.2.2.2.2.2) else (some 0)))))
theorem bodkinref05_Lanes.mono_l : ∀ k, (∀ y0 y1 y2 y3 y4 y5 y6 y7, LeO (bodkinref05_Lanes.l0 k y0 y1 y2 y3 y4 y5 y6 y7) (bodkinref05_Lanes.l0 (k + 1) y0 y1 y2 y3 y4 y5 y6 y7))
 | 0 => fun _ _ _ _ _ _ _ _ r h => by simp [bodkinref05_Lanes.l0] at h
 | k + 1 => by
  have ih0 := bodkinref05_Lanes.mono_l k
  ·intro y0 y1 y2 y3 y4 y5 y6 y7
   unfold bodkinref05_Lanes.l0
   repeat' first
   | (with_reducible exact ih0 _ _ _ _ _ _ _ _)
   | (with_reducible exact bodkinref05_Bytes.mono _ _)
   | (with_reducible exact bodkinref05_Of.mono _ _)
   | (with_reducible exact bodkinref05_has.mono _ _ _)
   | (with_reducible exact LeO.refl _)
   | (with_reducible exact LeO.none _)
   | (with_reducible refine LeO.ite ?_ ?_)
   | (with_reducible refine LeO.bind ?_ (fun _ => ?_))
   | exact ih0 _ _ _ _ _ _ _ _
   | exact bodkinref05_Bytes.mono _ _
   | exact bodkinref05_Of.mono _ _
   | exact bodkinref05_has.mono _ _ _
   | exact LeO.none _
   | refine LeO.ite ?_ ?_
   | refine LeO.bind ?_ (fun _ => ?_)
theorem bodkinref05_Lanes.mono : ∀ a0 k, LeO (bodkinref05_Lanes.f k a0) (bodkinref05_Lanes.f (k + 1) a0) := by
 intro a0 k
 have ih0 := bodkinref05_Lanes.mono_l k
 unfold bodkinref05_Lanes.f
 repeat' first
   | (with_reducible exact ih0 _ _ _ _ _ _ _ _)
   | (with_reducible exact bodkinref05_Bytes.mono _ _)
   | (with_reducible exact bodkinref05_Of.mono _ _)
   | (with_reducible exact bodkinref05_has.mono _ _ _)
   | (with_reducible exact LeO.refl _)
   | (with_reducible exact LeO.none _)
   | (with_reducible refine LeO.ite ?_ ?_)
   | (with_reducible refine LeO.bind ?_ (fun _ => ?_))
   | exact ih0 _ _ _ _ _ _ _ _
   | exact bodkinref05_Bytes.mono _ _
   | exact bodkinref05_Of.mono _ _
   | exact bodkinref05_has.mono _ _ _
   | exact LeO.none _
   | refine LeO.ite ?_ ?_
   | refine LeO.bind ?_ (fun _ => ?_)
end Go.Proofs.YtiopaclofkncaaaDoor.POps

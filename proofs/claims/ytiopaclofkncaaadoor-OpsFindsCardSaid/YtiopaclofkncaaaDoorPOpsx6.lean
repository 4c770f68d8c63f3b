import Derived.Test.YtiopaclofkncaaaDoorPOpsx0
import Derived.Test.YtiopaclofkncaaaDoorPOpsx4
import Derived.Test.YtiopaclofkncaaaDoorPOpsx5
namespace Go.Proofs.YtiopaclofkncaaaDoor.POps
open Go.RowKit Go.Proofs.YtiopaclofkncaaaDoorW.PrintWords Go.Proofs.YtiopaclofkncaaaDoorW.PrintLast Go.Proofs.YtiopaclofkncaaaDoorW.PrintMore
attribute [local go_sem] max2_int min2_int max_two min_two max_three min_three max_four min_four   
set_option linter.unusedVariables false
set_option linter.unusedSimpArgs false
mutual
def bodkinref05_Bytes.j0 : Nat → Bool → Int → ByteArray → Int → ByteArray → ByteArray → Bool → Option (Int)
 | 0, _, _, _, _, _, _, _ => none
 | k + 1, x20, x226000, x226001, x226002, x226003, x226004, x226005 => if x20 = true then (some 0) else ((bodkinref05_has.f k x226001 (⟨#[56, 120, 56]⟩ : ByteArray)).bind fun t226 => (if t226 = true then (bodkinref05_Bytes.j1 k true x226000 x226001 x226002 x226003 x226004 x226005) else ((bodkinref05_has.f k x226001 (⟨#[49, 54, 120, 52]⟩ : ByteArray)).bind fun t227 => (if t227 = true then (bodkinref05_Bytes.j1 k true x226000 x226001 x226002 x226003 x226004 x226005) else ((bodkinref05_has.f k x226001 (⟨#[51, 50, 120, 50]⟩ : ByteArray)).bind fun t228 => (bodkinref05_Bytes.j1 k t228 x226000 x226001 x226002 x226003 x226004 x226005))))))
def bodkinref05_Bytes.j1 : Nat → Bool → Int → ByteArray → Int → ByteArray → ByteArray → Bool → Option (Int)
 | 0, _, _, _, _, _, _, _ => none
 | k + 1, x33, x226000, x226001, x226002, x226003, x226004, x226005 => if x33 = true then (some 8) else (bodkinref05_Bytes.l0 k (([(⟨#[108, 111, 97, 100, 56]⟩ : ByteArray), (⟨#[115, 116, 111, 114, 101, 56]⟩ : ByteArray), (⟨#[108, 111, 97, 100, 49, 54]⟩ : ByteArray), (⟨#[115, 116, 111, 114, 101, 49, 54]⟩ : ByteArray), (⟨#[108, 111, 97, 100, 51, 50]⟩ : ByteArray), (⟨#[115, 116, 111, 114, 101, 51, 50]⟩ : ByteArray), (⟨#[108, 111, 97, 100, 54, 52]⟩ : ByteArray), (⟨#[115, 116, 111, 114, 101, 54, 52]⟩ : ByteArray)] : List ByteArray)) 0 x226000 x226001 x226002 x226003 x226004 x226005)
def bodkinref05_Bytes.l0 : Nat → List ByteArray → Int → Int → ByteArray → Int → ByteArray → ByteArray → Bool → Option (Int)
 | 0, _, _, _, _, _, _, _, _ => none
 | k + 1, x4, x5, x226000, x226001, x226002, x226003, x226004, x226005 => if x5 < (x4.length : Int) then (if 0 ≤ x5 then ((bodkinref05_has.f k x226001 (rdOf ByteArray.empty x4 x5)).bind fun t233 => (if t233 = true then ((some (([1, 1, 2, 2, 4, 4, 8, 8] : List Int) : List Int)).bind fun y234 => (if x5 < (y234.length : Int) then (some (rd y234 x5)) else (none))) else (bodkinref05_Bytes.l0 k x4 (wrap64 (x5 + 1)) x226000 x226001 x226002 x226003 x226004 x226005))) else (none)) else (if 0 ≤ 3 then (if 3 ≤ (x226001.size : Int) then (if (x226001.extract 0 3).toList = ([105, 54, 52] : List UInt8) then (bodkinref05_Bytes.j3 k (x226001.extract 0 3) ((x226001.extract 0 3).toList == ([105, 54, 52] : List UInt8))) else (bodkinref05_Bytes.j3 k (x226001.extract 0 3) ((x226001.extract 0 3).toList == ([102, 54, 52] : List UInt8)))) else (none)) else (none))
def bodkinref05_Bytes.j3 : Nat → ByteArray → Bool → Option (Int)
 | 0, _, _ => none
 | k + 1, x54, x55 => if x55 = true then (some 8) else (if x54.toList = ([118, 49, 50] : List UInt8) then (some 16) else (some 4))
end
def bodkinref05_Bytes.f (k : Nat) (a0 : Int) : Option (Int) := (bodkinref05_Of.f k a0).bind fun bt219 => (if bt219.1 < 0 then (bodkinref05_Bytes.j0 k true bt219.1 bt219.2.1 bt219.2.2.1 bt219.2.2.2.1 bt219.2.2.2.2.1 bt219.2.2.2.2.2) else (if bt219.2.2.1 = 10 then (bodkinref05_Bytes.j0 k false bt219.1 bt219.2.1 bt219.2.2.1 bt219.2.2.2.1 bt219.2.2.2.2.1 bt219.2.2.2.2.2) else (bodkinref05_Bytes.j0 k (bt219.2.2.1 != 26) bt219.1 bt219.2.1 bt219.2.2.1 bt219.2.2.2.1 bt219.2.2.2.2.1 bt219.2.2.2.2.2)))
theorem bodkinref05_Bytes.mono_l : ∀ k, (∀ y0 y1 y2 y3 y4 y5 y6, LeO (bodkinref05_Bytes.j0 k y0 y1 y2 y3 y4 y5 y6) (bodkinref05_Bytes.j0 (k + 1) y0 y1 y2 y3 y4 y5 y6)) ∧ (∀ y0 y1 y2 y3 y4 y5 y6, LeO (bodkinref05_Bytes.j1 k y0 y1 y2 y3 y4 y5 y6) (bodkinref05_Bytes.j1 (k + 1) y0 y1 y2 y3 y4 y5 y6)) ∧ (∀ y0 y1 y2 y3 y4 y5 y6 y7, LeO (bodkinref05_Bytes.l0 k y0 y1 y2 y3 y4 y5 y6 y7) (bodkinref05_Bytes.l0 (k + 1) y0 y1 y2 y3 y4 y5 y6 y7)) ∧ (∀ y0 y1, LeO (bodkinref05_Bytes.j3 k y0 y1) (bodkinref05_Bytes.j3 (k + 1) y0 y1))
 | 0 => ⟨fun _ _ _ _ _ _ _ r h => by simp [bodkinref05_Bytes.j0] at h, fun _ _ _ _ _ _ _ r h => by simp [bodkinref05_Bytes.j1] at h, fun _ _ _ _ _ _ _ _ r h => by simp [bodkinref05_Bytes.l0] at h, fun _ _ r h => by simp [bodkinref05_Bytes.j3] at h⟩
 | k + 1 => by
  obtain ⟨ih0, ih1, ih2, ih3⟩ := bodkinref05_Bytes.mono_l k
  refine ⟨?_, ?_, ?_, ?_⟩
  ·intro y0 y1 y2 y3 y4 y5 y6
   unfold bodkinref05_Bytes.j0
   repeat' first
   | (with_reducible exact ih0 _ _ _ _ _ _ _)
   | (with_reducible exact ih1 _ _ _ _ _ _ _)
   | (with_reducible exact ih2 _ _ _ _ _ _ _ _)
   | (with_reducible exact ih3 _ _)
   | (with_reducible exact bodkinref05_Of.mono _ _)
   | (with_reducible exact bodkinref05_has.mono _ _ _)
   | (with_reducible exact LeO.refl _)
   | (with_reducible exact LeO.none _)
   | (with_reducible refine LeO.ite ?_ ?_)
   | (with_reducible refine LeO.bind ?_ (fun _ => ?_))
   | exact ih0 _ _ _ _ _ _ _
   | exact ih1 _ _ _ _ _ _ _
   | exact ih2 _ _ _ _ _ _ _ _
   | exact ih3 _ _
   | exact bodkinref05_Of.mono _ _
   | exact bodkinref05_has.mono _ _ _
   | exact LeO.none _
   | refine LeO.ite ?_ ?_
   | refine LeO.bind ?_ (fun _ => ?_)
  ·intro y0 y1 y2 y3 y4 y5 y6
   unfold bodkinref05_Bytes.j1
   repeat' first
   | (with_reducible exact ih0 _ _ _ _ _ _ _)
   | (with_reducible exact ih1 _ _ _ _ _ _ _)
   | (with_reducible exact ih2 _ _ _ _ _ _ _ _)
   | (with_reducible exact ih3 _ _)
   | (with_reducible exact bodkinref05_Of.mono _ _)
   | (with_reducible exact bodkinref05_has.mono _ _ _)
   | (with_reducible exact LeO.refl _)
   | (with_reducible exact LeO.none _)
   | (with_reducible refine LeO.ite ?_ ?_)
   | (with_reducible refine LeO.bind ?_ (fun _ => ?_))
   | exact ih0 _ _ _ _ _ _ _
   | exact ih1 _ _ _ _ _ _ _
   | exact ih2 _ _ _ _ _ _ _ _
   | exact ih3 _ _
   | exact bodkinref05_Of.mono _ _
   | exact bodkinref05_has.mono _ _ _
   | exact LeO.none _
   | refine LeO.ite ?_ ?_
   | refine LeO.bind ?_ (fun _ => ?_)
  ·intro y0 y1 y2 y3 y4 y5 y6 y7
   unfold bodkinref05_Bytes.l0
   repeat' first
   | (with_reducible exact ih0 _ _ _ _ _ _ _)
   | (with_reducible exact ih1 _ _ _ _ _ _ _)
   | (with_reducible exact ih2 _ _ _ _ _ _ _ _)
   | (with_reducible exact ih3 _ _)
   | (with_reducible exact bodkinref05_Of.mono _ _)
   | (with_reducible exact bodkinref05_has.mono _ _ _)
   | (with_reducible exact LeO.refl _)
   | (with_reducible exact LeO.none _)
   | (with_reducible refine LeO.ite ?_ ?_)
   | (with_reducible refine LeO.bind ?_ (fun _ => ?_))
   | exact ih0 _ _ _ _ _ _ _
   | exact ih1 _ _ _ _ _ _ _
   | exact ih2 _ _ _ _ _ _ _ _
   | exact ih3 _ _
   | exact bodkinref05_Of.mono _ _
   | exact bodkinref05_has.mono _ _ _
   | exact LeO.none _
   | refine LeO.ite ?_ ?_
   | refine LeO.bind ?_ (fun _ => ?_)
  ·intro y0 y1
   unfold bodkinref05_Bytes.j3
   repeat' first
   | (with_reducible exact ih0 _ _ _ _ _ _ _)
   | (with_reducible exact ih1 _ _ _ _ _ _ _)
   | (with_reducible exact ih2 _ _ _ _ _ _ _ _)
   | (with_reducible exact ih3 _ _)
   | (with_reducible exact bodkinref05_Of.mono _ _)
   | (with_reducible exact bodkinref05_has.mono _ _ _)
   | (with_reducible exact LeO.refl _)
   | (with_reducible exact LeO.none _)
   | (with_reducible refine LeO.ite ?_ ?_)
   | (with_reducible refine LeO.bind ?_ (fun _ => ?_))
   | exact ih0 _ _ _ _ _ _ _
   | exact ih1 _ _ _ _ _ _ _
   | exact ih2 _ _ _ _ _ _ _ _
   | exact ih3 _ _
   | exact bodkinref05_Of.mono _ _
   | exact bodkinref05_has.mono _ _ _
   | exact LeO.none _
   | refine LeO.ite ?_ ?_
   | refine LeO.bind ?_ (fun _ => ?_)
theorem bodkinref05_Bytes.mono : ∀ a0 k, LeO (bodkinref05_Bytes.f k a0) (bodkinref05_Bytes.f (k + 1) a0) := by
 intro a0 k
 obtain ⟨ih0, ih1, ih2, ih3⟩ := bodkinref05_Bytes.mono_l k
 unfold bodkinref05_Bytes.f
 repeat' first
   | (with_reducible exact ih0 _ _ _ _ _ _ _)
   | (with_reducible exact ih1 _ _ _ _ _ _ _)
   | (with_reducible exact ih2 _ _ _ _ _ _ _ _)
   | (with_reducible exact ih3 _ _)
   | (with_reducible exact bodkinref05_Of.mono _ _)
   | (with_reducible exact bodkinref05_has.mono _ _ _)
   | (with_reducible exact LeO.refl _)
   | (with_reducible exact LeO.none _)
   | (with_reducible refine LeO.ite ?_ ?_)
   | (with_reducible refine LeO.bind ?_ (fun _ => ?_))
   | exact ih0 _ _ _ _ _ _ _
   | exact ih1 _ _ _ _ _ _ _
   | exact ih2 _ _ _ _ _ _ _ _
   | exact ih3 _ _
   | exact bodkinref05_Of.mono _ _
   | exact bodkinref05_has.mono _ _ _
   | exact LeO.none _
   | refine LeO.ite ?_ ?_
   | refine LeO.bind ?_ (fun _ => ?_)
end Go.Proofs.YtiopaclofkncaaaDoor.POps

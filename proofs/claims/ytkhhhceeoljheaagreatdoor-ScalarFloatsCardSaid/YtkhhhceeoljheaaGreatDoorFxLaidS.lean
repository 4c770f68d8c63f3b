import Derived.Test.YtkhhhceeoljheaaGreatDoorRows
import Derived.Test.YtkhhhceeoljheaaGreatDoorFxScalW
import Derived.ProofKit
import Derived.OpenShut
import Derived.Stop.LaidErr
import Derived.LaidMore
import Derived.Lay
import Derived.Stop.Joined
set_option linter.unusedVariables false
set_option linter.unusedSimpArgs false
namespace Go.Proofs.YtkhhhceeoljheaaGreatDoor
open Go.ChangeShapes Go.WideShapes Go.ChangeAt Go.RowKit
def laidL : List (String × DataW Unit) := [("math/bits.deBruijn64tab", Rows.laid_math_bits_deBruijn64tab), ("unicode/utf8.acceptRanges", Rows.laid_unicode_utf8_acceptRanges), ("unicode.White_Space", Rows.laid_unicode_White_Space), ("strings.asciiSpace", Rows.laid_strings_asciiSpace), ("bodkin/ops.more", Rows.laid_bodkin_ops_more), ("unicode/utf8.first", Rows.laid_unicode_utf8_first)]
theorem gBruijn : Tryz.prog.globalNamed "math/bits.deBruijn64tab" = some 2 := by kernel_rfl
theorem gMore : Tryz.prog.globalNamed "bodkin/ops.more" = some 0 := by kernel_rfl
theorem tBruijn : (Tryz.prog.globals[2]?).map (·.type) = some 153 := by kernel_rfl
theorem tMore : (Tryz.prog.globals[0]?).map (·.type) = some 55 := by kernel_rfl
theorem tSpace : (Tryz.prog.globals[1]?).map (·.type) = some 137 := by kernel_rfl
def bruijnZ : List Int := Lib.deBruijn64tab.map Int.ofNat
theorem bruijn_datum : (Rows.laid_math_bits_deBruijn64tab : DataW Unit) = Lib.tabData .u8 bruijnZ := by kernel_rfl
theorem space_datum : (Rows.laid_strings_asciiSpace : DataW Unit) = Lib.tabData .u8 Lib.asciiSpaceTab := by kernel_rfl
def moreDs : List (DataW Unit) := moreL.map fun s => DataW.lit (.string s.data.toList)
theorem more_datum : Rows.laid_bodkin_ops_more = (DataW.agg moreDs : DataW Unit) := by kernel_rfl
theorem bytes_inj {s t : ByteArray} (h : s.data.toList = t.data.toList) : s = t := by
  cases s; cases t; simp at h; subst h; rfl
theorem gd_of_laid {W : World} (h : laidMetH Tryz.prog laidL W) : GD W := by
  rw [MakeChecks.laidMetH_plain _ _ _ (by kernel_rfl)] at h; have h1 := laidMet.tail (laidMet.tail (laidMet.tail h)); have h2 := laidMet.tail h1; refine ⟨⟨?_, ?_⟩, ?_⟩
  · obtain ⟨ps, ⟨g, t, cs, f, p, q, hg, ht, hv, hd, _, _⟩, _⟩ := h2
    obtain rfl := Option.some.inj (gMore.symm.trans hg); obtain rfl := Option.some.inj (tMore.symm.trans ht); rw [more_datum] at hd; obtain ⟨xs, m, rfl, hx, hlen, hn, hel⟩ := DataW.trod_array Tryz.underlying55 hd; have c9 : Tryz.prog.cellsOf 9 = 1 := by kernel_rfl
    have hx1 := (Prod.mk.inj hx).1; have hx2 : moreDs = xs.map (fun x => x.1) := by injection hx1
    intro i hi; have he := hel i hi; rw [c9, Nat.mul_one] at he; have hi2 : i < xs.length := by omega
    rw [List.getElem?_eq_getElem hi2] at he; obtain ⟨s, e1, e2, _⟩ := DataW.trod_string Tryz.underlying9 he
    have hcell : cs[i]? = some (.string s) := by
      have : cs.toList[i]? = some (.string s) := by
        have h3 : (List.take 1 (List.drop i cs.toList))[0]? = some (.string s) := by rw [e1]; rfl
        simpa using h3
      simpa using this
    rw [World.var?_cell gMore hv i, hcell]; have h4 : moreDs[i]? = some (xs[i]).1 := by rw [hx2]; simp [hi2]
    have h5 : moreDs[i]? = some (DataW.lit (.string (moreL.getD i ⟨#[]⟩).data.toList)) := by
      have : i < moreL.length := by rw [moreL_length]; exact hi
      simp [moreDs, this]
    rw [h5, e2] at h4; simp only [Option.some.injEq, DataW.lit.injEq, Lit.string.injEq] at h4; rw [bytes_inj h4]
  · have h3 : laidMet Tryz.prog (("strings.asciiSpace", Lib.tabData .u8 Lib.asciiSpaceTab) :: [("bodkin/ops.more", Rows.laid_bodkin_ops_more), ("unicode/utf8.first", Rows.laid_unicode_utf8_first)]) W := by
      rw [← space_datum]; exact h1
    exact Lib.tabIs_of_head gSpace tSpace Tryz.underlying137 Tryz.underlying5 (by kernel_rfl) (by kernel_rfl) h3
  · have h3 : laidMet Tryz.prog (("math/bits.deBruijn64tab", Lib.tabData .u8 bruijnZ) :: laidL.tail) W := by
      rw [← bruijn_datum]; exact h
    have ht := Lib.tabIs_of_head gBruijn tBruijn Tryz.underlying153 Tryz.underlying5 (by kernel_rfl) (by kernel_rfl) h3; intro j hj; have hc := ht.cell gBruijn j (by unfold bruijnZ; rw [List.length_map]; exact hj); rw [hc]
    have : bruijnZ.getD j 0 = ((Lib.deBruijn64tab.getD j 0 : Nat) : Int) := by
      unfold bruijnZ; simp [List.getD_eq_getElem?_getD, List.getElem?_map, List.getElem?_eq_getElem hj]
    rw [this]
theorem own : ownKnob Tryz.prog.godebug = none := by kernel_rfl
theorem lay_met (os : Os) (args : Array Value) : laidMetH Tryz.prog laidL ((World.laidAll Tryz.prog os laidL).forCall (fun _ _ => 0) ⟨#[], args, []⟩).memory := by
  rw [MakeChecks.laidMetH_plain _ _ _ (by kernel_rfl)]; exact laidMet_laidAll _ (by kernel_rfl) (by kernel_rfl)
end Go.Proofs.YtkhhhceeoljheaaGreatDoor

import Derived.Test.YtkhhhceeoljheaaGreatDoorFxOpsW1
import Derived.Test.YtkhhhceeoljheaaGreatDoorFxArr
import Derived.Lib.LaidTab
import Derived.Lib.Space
import Derived.WalkSmall
import Derived.Shelf.Strings.Fields
namespace Go.Proofs.YtkhhhceeoljheaaGreatDoor
open Go.RowKit Go.Great
def GG (w : World) : Prop := (∀ i, i < 18 → w.cell? ⟨0, i, none⟩ = some (.string (moreL.getD i ⟨#[]⟩))) ∧ Lib.TabIs Tryz.prog w "strings.asciiSpace" .u8 Lib.asciiSpaceTab
theorem gSpace : Tryz.prog.globalNamed "strings.asciiSpace" = some 1 := by kernel_rfl
theorem GG.below {w W : World} (h : GG w) (hb : Below w.heap.size w W) : GG W := by
  refine ⟨fun i hi => ?_, ?_⟩
  · have := h.1 i hi
    exact (hb.cell (World.block_lt_of_cell? w _ this)).trans this
  · exact var?_below hb gSpace (World.block_lt_of_cell? w _ (h.2.cell gSpace 0 (by rw [Lib.asciiSpaceTab_length]; omega))) h.2
def rowOf (a0 : Int) : ByteArray :=
  if 0 ≤ a0 ∧ a0 < 211 then plainL.getD a0.toNat ⟨#[]⟩
  else if 64512 ≤ a0 ∧ a0 < 64530 then moreL.getD (a0 - 64512).toNat ⟨#[]⟩
  else if 64768 ≤ a0 ∧ a0 < 65024 then lanesL.getD (a0 - 64768).toNat ⟨#[]⟩
  else ⟨#[]⟩
theorem plainV_at (i : Int) (h0 : 0 ≤ i) (h1 : i < 211) : plainV[i.toNat]? = some (.string (plainL.getD i.toNat ⟨#[]⟩)) := by
  have : i.toNat < plainL.length := by rw [plainL_length]; omega
  simp [plainV, this]
set_option maxRecDepth 100000 in
set_option maxHeartbeats 1000000 in
theorem row_plain (a0 : Int) (w : World) (h0 : 0 ≤ a0) (h1 : a0 < 211) :
    Calls Tryz.prog 38 #[.int .i64 a0] w fun e w' => e = .returned (.string (plainL.getD a0.toNat ⟨#[]⟩)) ∧ Below w.heap.size w w' := by
  have hv := plainV_at a0 h0 h1; have HV := Lib.hid hv; clear hv; go_enter Tryz.func38, Tryz.ntmps38
  go_wp2_with (first | (go_at_call 68; refine (plain_calls _).mono ?_; rintro e w' ⟨rfl, hb1⟩) | (refine wpList_indexAgg rfl 54 _ _ rfl (.string (plainL.getD a0.toNat ⟨#[]⟩)) (run_index_agg _ Tryz.underlying54 Tryz.underlying9 rfl (by kernel_rfl) plainV a0 h0 (by omega) _ HV.out) ?_) | fail)
  go_ret; exact ⟨rfl, by assumption⟩
theorem lanesV_at (i : Int) (h0 : 0 ≤ i) (h1 : i < 256) : lanesV[i.toNat]? = some (.string (lanesL.getD i.toNat ⟨#[]⟩)) := by
  have : i.toNat < lanesL.length := by rw [lanesL_length]; omega
  simp [lanesV, this]
set_option maxRecDepth 100000 in
set_option maxHeartbeats 1000000 in
theorem row_lanes (a0 : Int) (w : World) (h0 : 64768 ≤ a0) (h1 : a0 < 65024) :
    Calls Tryz.prog 38 #[.int .i64 a0] w fun e w' => e = .returned (.string (lanesL.getD (a0 - 64768).toNat ⟨#[]⟩)) ∧ Below w.heap.size w w' := by
  have hv := lanesV_at (a0 - 64768) (by omega) (by omega); have HV := Lib.hid hv; clear hv; go_enter Tryz.func38, Tryz.ntmps38
  go_wp2_with (first | (go_at_call 69; refine (lanes_calls _).mono ?_; rintro e w' ⟨rfl, hb1⟩) | (refine wpList_indexAgg rfl 56 _ _ rfl (.string (lanesL.getD (a0 - 64768).toNat ⟨#[]⟩)) (run_index_agg _ Tryz.underlying56 Tryz.underlying9 rfl (by kernel_rfl) lanesV (a0 - 64768) (by omega) (by omega) _ HV.out) ?_) | fail)
  go_ret; exact ⟨rfl, by assumption⟩
set_option maxRecDepth 100000 in
set_option maxHeartbeats 1000000 in
theorem row_more (a0 : Int) (w : World) (h0 : 64512 ≤ a0) (h1 : a0 < 64530) (hG : GG w) :
    Calls Tryz.prog 38 #[.int .i64 a0] w fun e w' => e = .returned (.string (moreL.getD (a0 - 64512).toNat ⟨#[]⟩)) ∧ Below w.heap.size w w' := by
  have hc := hG.1 (a0 - 64512).toNat (by omega); clear hG; go_enter Tryz.func38, Tryz.ntmps38
  go_wp2
  go_ret; exact ⟨rfl, Below.refl _ _⟩
set_option maxRecDepth 100000 in
set_option maxHeartbeats 1000000 in
theorem row_none (a0 : Int) (w : World) (h1 : ¬ (0 ≤ a0 ∧ a0 < 211)) (h2 : ¬ (64512 ≤ a0 ∧ a0 < 64530)) (h3 : ¬ (64768 ≤ a0 ∧ a0 < 65024)) :
    Calls Tryz.prog 38 #[.int .i64 a0] w fun e w' => e = .returned (.string ⟨#[]⟩) ∧ Below w.heap.size w w' := by
  have c : a0 < 0 ∨ (211 ≤ a0 ∧ a0 < 64512) ∨ (64530 ≤ a0 ∧ a0 < 64768) ∨ 65024 ≤ a0 := by omega
  clear h1 h2 h3; rcases c with c | ⟨c, c'⟩ | ⟨c, c'⟩ | c
  all_goals
    go_enter Tryz.func38, Tryz.ntmps38
    go_wp2
    go_ret; exact ⟨rfl, Below.refl _ _⟩
theorem row_calls (a0 : Int) (w : World) (hG : GG w) :
    Calls Tryz.prog 38 #[.int .i64 a0] w fun e w' => e = .returned (.string (rowOf a0)) ∧ Below w.heap.size w w' := by
  unfold rowOf; split
  · exact row_plain a0 w (by omega) (by omega)
  · split
    · exact row_more a0 w (by omega) (by omega) hG
    · split
      · exact row_lanes a0 w (by omega) (by omega)
      · exact row_none a0 w (by assumption) (by assumption) (by assumption)
end Go.Proofs.YtkhhhceeoljheaaGreatDoor

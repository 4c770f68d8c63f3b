import Derived.Test.YtkhhhceeoljheaaGreatDoorFxOpsTab
import Derived.Test.YtkhhhceeoljheaaGreatDoorProg
import Derived.WalkSpells
import Derived.WalkLawsBesides
import Derived.Below
import Derived.Lib.Hide
import Derived.Great.Walk
import Derived.Great.BuildSlice
import Derived.Laws.CopyOwn
import Derived.Laws.Rows
namespace Go.Proofs.YtkhhhceeoljheaaGreatDoor
open Go.RowKit Go.Great
def zeroRow (n : Nat) : Array Value := (List.replicate n (Value.string ⟨#[]⟩)).toArray
def plainV : Array Value := (plainL.map Value.string).toArray
set_option maxRecDepth 100000 in
set_option maxHeartbeats 1000000 in
theorem plain_calls (w : World) :
    Calls Tryz.prog 68 #[] w fun e w' => e = .returned (.agg plainV) ∧ Below w.heap.size w w' := by
  go_enter Tryz.func68, Tryz.ntmps68
  go_wp2_with (first | (refine wpList_runTo rfl (some 0) rfl (.pointer (some ⟨w.heap.size, 0, none⟩)) (w.alloc (.cells (zeroRow 211) 54)) (by as_aux_lemma => kernel_rfl) ?_) | (refine wpList_buildTo rfl 54 _ rfl (some 1) rfl plainV (by as_aux_lemma => kernel_rfl) ?_) | (refine wpList_store_rowTo rfl 54 _ _ rfl rfl w.heap.size plainV rfl rfl 54 (zeroRow 211) (heap_alloc_new _ _) (by as_aux_lemma => kernel_rfl) (by as_aux_lemma => kernel_rfl) (by as_aux_lemma => kernel_rfl) ?_) | fail)
  have hnew : ((w.alloc (.cells (zeroRow 211) 54)).setRow w.heap.size plainV).heap[w.heap.size]? = some (.cells plainV 54 (0, 0)) := setRow_heap _ _ _ _ _ _ (heap_alloc_new _ _); refine bodyPost_ret (v := .agg plainV) ?_ rfl ⟨rfl, ?_⟩
  · exact results_cell_row (p := 0) (ty := 54) rfl _ _ w.heap.size 54 plainV (0, 0) _ rfl hnew Tryz.underlying54 rfl (by kernel_rfl)
  · exact below_setRow ((Below.refl _ _).alloc (Nat.le_refl _) _) (Nat.le_refl _) _
def lanesV : Array Value := (lanesL.map Value.string).toArray
def moreV : Array Value := (moreL.map Value.string).toArray
set_option maxRecDepth 100000 in
set_option maxHeartbeats 1000000 in
theorem lanes_calls (w : World) :
    Calls Tryz.prog 69 #[] w fun e w' => e = .returned (.agg lanesV) ∧ Below w.heap.size w w' := by
  go_enter Tryz.func69, Tryz.ntmps69
  go_wp2_with (first | (refine wpList_runTo rfl (some 0) rfl (.pointer (some ⟨w.heap.size, 0, none⟩)) (w.alloc (.cells (zeroRow 256) 56)) (by as_aux_lemma => kernel_rfl) ?_) | (refine wpList_buildTo rfl 56 _ rfl (some 1) rfl lanesV (by as_aux_lemma => kernel_rfl) ?_) | (refine wpList_store_rowTo rfl 56 _ _ rfl rfl w.heap.size lanesV rfl rfl 56 (zeroRow 256) (heap_alloc_new _ _) (by as_aux_lemma => kernel_rfl) (by as_aux_lemma => kernel_rfl) (by as_aux_lemma => kernel_rfl) ?_) | fail)
  have hnew : ((w.alloc (.cells (zeroRow 256) 56)).setRow w.heap.size lanesV).heap[w.heap.size]? = some (.cells lanesV 56 (0, 0)) := setRow_heap _ _ _ _ _ _ (heap_alloc_new _ _); refine bodyPost_ret (v := .agg lanesV) ?_ rfl ⟨rfl, ?_⟩
  · exact results_cell_row (p := 0) (ty := 56) rfl _ _ w.heap.size 56 lanesV (0, 0) _ rfl hnew Tryz.underlying56 rfl (by kernel_rfl)
  · exact below_setRow ((Below.refl _ _).alloc (Nat.le_refl _) _) (Nat.le_refl _) _
set_option maxRecDepth 100000 in
set_option maxHeartbeats 1000000 in
theorem one_calls (i : Int) (w : World) (h0 : 0 ≤ i) (h1 : i < 211) :
    Calls Tryz.prog 20 #[.int .i64 i] w fun e w' => e = .returned (.string (plainL.getD i.toNat ⟨#[]⟩)) ∧ Below w.heap.size w w' := by
  have hnew : ((w.alloc (.cells (zeroRow 211) 54)).setRow w.heap.size plainV).heap[w.heap.size]? = some (.cells plainV 54 (0, 0)) := setRow_heap _ _ _ _ _ _ (heap_alloc_new _ _)
  have hc : ((w.alloc (.cells (zeroRow 211) 54)).setRow w.heap.size plainV).cell? ⟨w.heap.size, i.toNat, none⟩ = some (.string (plainL.getD i.toNat ⟨#[]⟩)) := by
    have hl : i.toNat < plainL.length := by rw [plainL_length]; omega
    rw [cell_of_row _ _ _ _ _ _ hnew]; simp [plainV, hl]
  have hb : Below w.heap.size w ((w.alloc (.cells (zeroRow 211) 54)).setRow w.heap.size plainV) := below_setRow ((Below.refl _ _).alloc (Nat.le_refl _) _) (Nat.le_refl _) _; have HN := Lib.hid hnew; have HB := Lib.hid hb; clear hnew hb; have HC := Lib.hid hc; clear hc; go_enter Tryz.func20, Tryz.ntmps20
  go_wp2_with (first | (refine wpList_runTo rfl (some 3) rfl (.pointer (some ⟨w.heap.size, 0, none⟩)) (w.alloc (.cells (zeroRow 211) 54)) (by as_aux_lemma => kernel_rfl) ?_) | (refine wpList_buildTo rfl 54 _ rfl (some 4) rfl plainV (by as_aux_lemma => kernel_rfl) ?_) | (refine wpList_store_rowTo rfl 54 _ _ rfl rfl w.heap.size plainV rfl rfl 54 (zeroRow 211) (heap_alloc_new _ _) (by as_aux_lemma => kernel_rfl) (by as_aux_lemma => kernel_rfl) (by as_aux_lemma => kernel_rfl) ?_; (generalize hW : (w.alloc (.cells (zeroRow 211) 54)).setRow w.heap.size plainV = W at *; have hc := HC.out)) | fail)
  go_ret; exact ⟨rfl, HB.out⟩
set_option maxRecDepth 100000 in
set_option maxHeartbeats 1000000 in
theorem two_calls (i : Int) (w : World) (h0 : 0 ≤ i) (h1 : i < 18) :
    Calls Tryz.prog 21 #[.int .i64 i] w fun e w' => e = .returned (.string (moreL.getD i.toNat ⟨#[]⟩)) ∧ Below w.heap.size w w' := by
  have hnew : ((w.alloc (.cells (zeroRow 18) 55)).setRow w.heap.size moreV).heap[w.heap.size]? = some (.cells moreV 55 (0, 0)) := setRow_heap _ _ _ _ _ _ (heap_alloc_new _ _)
  have hc : ((w.alloc (.cells (zeroRow 18) 55)).setRow w.heap.size moreV).cell? ⟨w.heap.size, i.toNat, none⟩ = some (.string (moreL.getD i.toNat ⟨#[]⟩)) := by
    have hl : i.toNat < moreL.length := by rw [moreL_length]; omega
    rw [cell_of_row _ _ _ _ _ _ hnew]; simp [moreV, hl]
  have hb : Below w.heap.size w ((w.alloc (.cells (zeroRow 18) 55)).setRow w.heap.size moreV) := below_setRow ((Below.refl _ _).alloc (Nat.le_refl _) _) (Nat.le_refl _) _; have HN := Lib.hid hnew; have HB := Lib.hid hb; clear hnew hb; have HC := Lib.hid hc; clear hc; go_enter Tryz.func21, Tryz.ntmps21
  go_wp2_with (first | (refine wpList_runTo rfl (some 3) rfl (.pointer (some ⟨w.heap.size, 0, none⟩)) (w.alloc (.cells (zeroRow 18) 55)) (by as_aux_lemma => kernel_rfl) ?_) | (refine wpList_buildTo rfl 55 _ rfl (some 4) rfl moreV (by as_aux_lemma => kernel_rfl) ?_) | (refine wpList_store_rowTo rfl 55 _ _ rfl rfl w.heap.size moreV rfl rfl 55 (zeroRow 18) (heap_alloc_new _ _) (by as_aux_lemma => kernel_rfl) (by as_aux_lemma => kernel_rfl) (by as_aux_lemma => kernel_rfl) ?_; (generalize hW : (w.alloc (.cells (zeroRow 18) 55)).setRow w.heap.size moreV = W at *; have hc := HC.out)) | fail)
  go_ret; exact ⟨rfl, HB.out⟩
set_option maxRecDepth 100000 in
set_option maxHeartbeats 1000000 in
theorem three_calls (i : Int) (w : World) (h0 : 0 ≤ i) (h1 : i < 256) :
    Calls Tryz.prog 22 #[.int .i64 i] w fun e w' => e = .returned (.string (lanesL.getD i.toNat ⟨#[]⟩)) ∧ Below w.heap.size w w' := by
  have hnew : ((w.alloc (.cells (zeroRow 256) 56)).setRow w.heap.size lanesV).heap[w.heap.size]? = some (.cells lanesV 56 (0, 0)) := setRow_heap _ _ _ _ _ _ (heap_alloc_new _ _)
  have hc : ((w.alloc (.cells (zeroRow 256) 56)).setRow w.heap.size lanesV).cell? ⟨w.heap.size, i.toNat, none⟩ = some (.string (lanesL.getD i.toNat ⟨#[]⟩)) := by
    have hl : i.toNat < lanesL.length := by rw [lanesL_length]; omega
    rw [cell_of_row _ _ _ _ _ _ hnew]; simp [lanesV, hl]
  have hb : Below w.heap.size w ((w.alloc (.cells (zeroRow 256) 56)).setRow w.heap.size lanesV) := below_setRow ((Below.refl _ _).alloc (Nat.le_refl _) _) (Nat.le_refl _) _; have HN := Lib.hid hnew; have HB := Lib.hid hb; clear hnew hb; have HC := Lib.hid hc; clear hc; go_enter Tryz.func22, Tryz.ntmps22
  go_wp2_with (first | (refine wpList_runTo rfl (some 3) rfl (.pointer (some ⟨w.heap.size, 0, none⟩)) (w.alloc (.cells (zeroRow 256) 56)) (by as_aux_lemma => kernel_rfl) ?_) | (refine wpList_buildTo rfl 56 _ rfl (some 4) rfl lanesV (by as_aux_lemma => kernel_rfl) ?_) | (refine wpList_store_rowTo rfl 56 _ _ rfl rfl w.heap.size lanesV rfl rfl 56 (zeroRow 256) (heap_alloc_new _ _) (by as_aux_lemma => kernel_rfl) (by as_aux_lemma => kernel_rfl) (by as_aux_lemma => kernel_rfl) ?_; (generalize hW : (w.alloc (.cells (zeroRow 256) 56)).setRow w.heap.size lanesV = W at *; have hc := HC.out)) | fail)
  go_ret; exact ⟨rfl, HB.out⟩
end Go.Proofs.YtkhhhceeoljheaaGreatDoor

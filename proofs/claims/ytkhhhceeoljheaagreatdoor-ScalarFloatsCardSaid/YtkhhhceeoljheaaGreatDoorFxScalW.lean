import Derived.Test.YtkhhhceeoljheaaGreatDoorFxOpsW3
import Derived.Shelf.Spec.TrailingZeros
namespace Go.Proofs.YtkhhhceeoljheaaGreatDoor
open Go.RowKit
def GD (w : World) : Prop := GG w ∧ TabAt 2 Lib.deBruijn64tab w
theorem GD.below {w W : World} (h : GD w) (hb : Below w.heap.size w W) : GD W :=
  ⟨h.1.below hb, fun j hj => (hb.cell (World.block_lt_of_cell? w _ (h.2 j hj))).trans (h.2 j hj)⟩
end Go.Proofs.YtkhhhceeoljheaaGreatDoor

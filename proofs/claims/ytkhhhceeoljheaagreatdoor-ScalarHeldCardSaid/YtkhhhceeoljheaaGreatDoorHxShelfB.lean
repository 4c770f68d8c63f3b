import Derived.Shelf.Spec.TrailingZeros
import Derived.Test.YtkhhhceeoljheaaGreatDoorProg
namespace Go.Proofs
end Go.Proofs

import Derived.Test.YtkhhhceeoljheaaGreatDoorFxWTab
namespace Go.Proofs.YtkhhhceeoljheaaGreatDoorW.PrintLast
def up (b : Nat → Bool) (i : Nat) : Nat → Bool := fun j => if j = i then true else b j
end Go.Proofs.YtkhhhceeoljheaaGreatDoorW.PrintLast

import Derived.Test.YtiopaclofkncaaaDoorProg
import Derived.Below
import Derived.Deep.Draws
import Derived.Deep.AppendLies
import Derived.Maps.AppendAt
import Derived.OwnWalk
import Derived.Laws.BytesArg
import Derived.Laws.MakeOwn
import Derived.Laws.OwnMore
import Derived.Deep.OwnRows
import Derived.Tactics
import Derived.Lib.ConvBytes
import Derived.Laws.Slices
import Derived.WalkKit
import Derived.KernelRfl
import Derived.RowKit3
import Derived.Deep.LoopGhost
import Derived.Deep.QuietTactic
import Derived.BigQuiet
import Derived.WideLaws
import Derived.Deep.DeepCutAuto
import Derived.Deep.CutBlock
import Derived.Deep.RegionHeld3
import Derived.Laws.Rows
import Derived.Lib.AppendStr
import Derived.ArgAppend
import Derived.Laws.IdiomCopy
import Derived.OrdersHeld
import Derived.Laws.BitsLemmas
import Derived.RowKit
import Derived.Test.YtiopaclofkncaaaDoorOpsW3
import Derived.Test.YtiopaclofkncaaaDoorShelf
import Derived.Test.YtiopaclofkncaaaDoorWWords
import Derived.Test.YtiopaclofkncaaaDoorWLast
import Derived.Test.YtiopaclofkncaaaDoorWTab
import Derived.Test.YtiopaclofkncaaaDoorWFour
import Derived.Test.YtiopaclofkncaaaDoorWQPut
import Derived.Test.YtiopaclofkncaaaDoorWApart
import Derived.Test.YtiopaclofkncaaaDoorWArr
import Derived.Test.YtiopaclofkncaaaDoorWZeros
import Derived.Test.YtiopaclofkncaaaDoorWFoot
import Derived.Test.YtiopaclofkncaaaDoorWKept
import Derived.Test.YtiopaclofkncaaaDoorWShare
import Derived.Test.YtiopaclofkncaaaDoorWN
import Derived.Test.YtiopaclofkncaaaDoorWFootNe
import Derived.Test.YtiopaclofkncaaaDoorWAt
import Derived.Test.YtiopaclofkncaaaDoorWEqStruct
import Derived.Test.YtiopaclofkncaaaDoorWRepsOne
import Derived.Test.YtiopaclofkncaaaDoorWInv
import Derived.Test.YtiopaclofkncaaaDoorWInvWords
import Derived.Test.YtiopaclofkncaaaDoorWGuard
import Derived.Test.YtiopaclofkncaaaDoorWNEv
import Derived.Test.YtiopaclofkncaaaDoorWMore
namespace Go.Proofs.YtiopaclofkncaaaDoor.POps
open Go.RowKit Go.Proofs.YtiopaclofkncaaaDoorW.PrintWords Go.Proofs.YtiopaclofkncaaaDoorW.PrintLast Go.Proofs.YtiopaclofkncaaaDoorW.PrintMore
attribute [local go_sem] max2_int min2_int max_two min_two max_three min_three max_four min_four   
set_option linter.unusedVariables false
set_option linter.unusedSimpArgs false
def errW : Option Int → Value
  | none => .nilIface
  | some c => .iface 0 (.int .i64 c)
theorem errW_none : errW none = .nilIface := rfl
theorem errW_some (c : Int) : errW (some c) = .iface 0 (.int .i64 c) := rfl
theorem info3 : (Tryd.prog.info? 3).map (fun i => (i.zero, i.size, i.bytes)) = some (some (.int .i64 0), 1, 8) := by kernel_rfl
theorem info9 : (Tryd.prog.info? 9).map (fun i => (i.zero, i.size, i.bytes)) = some (some (.string ⟨#[]⟩), 1, 16) := by kernel_rfl
theorem isEmpty_bne (l : List UInt8) : l.isEmpty = !(l != []) := by cases l <;> rfl
end Go.Proofs.YtiopaclofkncaaaDoor.POps

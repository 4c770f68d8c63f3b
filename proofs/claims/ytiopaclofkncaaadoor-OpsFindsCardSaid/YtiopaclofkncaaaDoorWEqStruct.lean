import Derived.Test.YtiopaclofkncaaaDoorWWords
import Derived.Laws.StructEq
namespace Go.Proofs.YtiopaclofkncaaaDoorW.PrintWords
end Go.Proofs.YtiopaclofkncaaaDoorW.PrintWords

-- began as printed words of the kit's print; cut by this session (wip/tools/prune.py) to what the claim names
import Derived.Test.YtkbjhblffbcleaaDoorWInv
import Derived.Test.YtkbjhblffbcleaaDoorWFootNe
namespace Go.Proofs.YtkbjhblffbcleaaDoorW.PrintWords
open Go.RowKit
end Go.Proofs.YtkbjhblffbcleaaDoorW.PrintWords
namespace Go.Proofs.YtkbjhblffbcleaaDoorW.PrintLast
section
variable {ops : Array Oper} {a : Act} {o og : Oper} {g : Nat} {t : Tmp} {u : Bool}
end
end Go.Proofs.YtkbjhblffbcleaaDoorW.PrintLast

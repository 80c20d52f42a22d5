-- began as printed words of the kit's print; cut by this session (wip/tools/prune.py) to what the claim names
import Derived.Test.YtmpicpenbhdbhaaDoorWInv
import Derived.Test.YtmpicpenbhdbhaaDoorWFootNe
namespace Go.Proofs.YtmpicpenbhdbhaaDoorW.PrintWords
open Go.RowKit
end Go.Proofs.YtmpicpenbhdbhaaDoorW.PrintWords
namespace Go.Proofs.YtmpicpenbhdbhaaDoorW.PrintLast
section
variable {ops : Array Oper} {a : Act} {o og : Oper} {g : Nat} {t : Tmp} {u : Bool}
end
end Go.Proofs.YtmpicpenbhdbhaaDoorW.PrintLast

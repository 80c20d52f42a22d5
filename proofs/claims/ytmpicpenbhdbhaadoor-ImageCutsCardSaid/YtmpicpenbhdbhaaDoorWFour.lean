-- began as printed words of the kit's print; cut by this session (wip/tools/prune.py) to what the claim names
import Derived.Test.YtmpicpenbhdbhaaDoorWTab
/-! ### 56. Four, five, six operations that may come up next, in any order -/
namespace Go.Proofs.YtmpicpenbhdbhaaDoorW.PrintLast
section
variable {P : Program} {ops : Array Oper} {Q : Exit → Act → World → Prop} {md : Region.Mode} {S : World → Prop} {ds : List Nat} {T : Bool × List (List Nat × List Nat)}
end
end Go.Proofs.YtmpicpenbhdbhaaDoorW.PrintLast

-- began as printed words of the kit's print; cut by this session (wip/tools/prune.py) to what the claim names
import Derived.Test.YtmpicpenbhdbhaaDoorWWords
import Derived.Laws.StructEq
/-! ### 53. '==' of structs as_ one Bool -/
namespace Go.Proofs.YtmpicpenbhdbhaaDoorW.PrintWords
open Go.RowKit
section
variable {P : Program} {d : Nat} {xs ys : Array Value} {f : Field} {fs : List Field} {a b : Value} {r s : Bool} {w : World}
end
end Go.Proofs.YtmpicpenbhdbhaaDoorW.PrintWords

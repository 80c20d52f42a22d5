/- For walks by hand: a function's body taken apart, the world named anew, a block's cells behind stores. -/
import Derived.Test.YtmpicpenbhdbhaaDoorWMore
import Derived.Test.YtmpicpenbhdbhaaDoorWTab
import Derived.WalkKit
import Derived.RegionTactic
import Derived.Deep.QuietTactic
import Derived.BigQuiet
namespace Go.Proofs.YtmpicpenbhdbhaaDoor.P.Hand
open Go.RowKit Go.Proofs.YtmpicpenbhdbhaaDoorW.PrintWords Go.Proofs.YtmpicpenbhdbhaaDoorW.PrintLast Go.Proofs.YtmpicpenbhdbhaaDoorW.PrintMore
/-- What comes behind the first n pieces of a body; and the piece of that number. -/
def dropSeq : Nat → Code → Code
  | 0, c => c
  | n + 1, .seq _ b => dropSeq n b
  | _ + 1, _ => .skip
def pieceSeq (n : Nat) (c : Code) : Code := match dropSeq n c with
  | .seq x _ => x
  | c => c
theorem at_world {P : Program} {c : Code} {Q : Exit → Act → World → Prop} {a : Act} {w : World} (S : World → Prop) (hS : S w) (h : ∀ w', S w' → Code.wp P c Q a w') : Code.wp P c Q a w := h w hS
/-- One piece of a body; what comes behind it stands by its number. -/
theorem wp_part {P : Program} {c : Code} {Q : Exit → Act → World → Prop} {a : Act} {w : World} (n : Nat) (hc : dropSeq n c = .seq (pieceSeq n c) (dropSeq (n + 1) c))
    (hA : ∀ K : Act → World → Prop, (∀ a' w', Code.wp P (dropSeq (n + 1) c) Q a' w' → K a' w') → Code.wp P (pieceSeq n c) (Exit.then K Q) a w) : Code.wp P (dropSeq n c) Q a w := by
  rw [hc]
  exact wp_seq (hA _ (fun _ _ h => h))
theorem wp_whole {P : Program} {c : Code} {Q : Exit → Act → World → Prop} {a : Act} {w : World} (h : Code.wp P (dropSeq 0 c) Q a w) : Code.wp P c Q a w := h
theorem blk_as {w : World} {g t : Nat} {fr : Nat × Nat} {cs cs' : Array Value} (h : w.heap[g]? = some (.cells cs t fr)) (e : cs = cs') : w.heap[g]? = some (.cells cs' t fr) := e ▸ h
end Go.Proofs.YtmpicpenbhdbhaaDoor.P.Hand

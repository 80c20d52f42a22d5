/-
  No cell of these rows narrows 'for every input' (looked for: loops, veiled, ifaces, maps, wideKeys, modest, calm, conditions, laid).
  DERIVED. THE GIVEN ROWS OF THIS SEAT. 3 by the template 'for every input the law returns true; each argument reads behind the call as it read before'; 0 by the template 'total and deterministic' (their statements: YtmfbmioooafelaaTotals.lean).
  GIVEN WITH THE SEED: the statements are not yours to turn. If you find one false, say at which input.
  Laid BY PROGRAM, IN A SANDBOX (cutbox-rows.mjs): the forced cells as the released guide's own fill.sh prints them over the translation ccd99ee7c6cea83c… (all of the seat's roots in one cut). By AI agents, Wed Nov 11 2026. No macro, syntax, notation, axiom, sorry.
-/
import Derived.Test.YtmfbmioooafelaaChecked
import GoSem.Claim
import GoSem.ClaimJoined
import GoSem.ClaimMapViews
import Derived.JoinedTies
import Derived.KernelRfl
namespace Go.Proofs.Ytmfbmioooafelaa
/- THE CELL 'sum', in the pinned program and in every row, IS THE sha256 OF THE DUMP (.gsa) THAT YtmfbmioooafelaaProg.lean LOADS. Nothing in Lean hashes anything: it is a label: what it is worth is what the hold of that sum in a sandbox is worth. -/
noncomputable def Try.pinned : Pinned := { name := "ytmfbmioooafelaa", sum := "ccd99ee7c6cea83c335a5f49285f64f3ed091e73d79b26b2896f3cc40a3df060", checked := Try.checked }
namespace Rows
def none {H : Type} : Left H := { results := [], args := [] }

/-- 'headgatelaw26.IdentifyLists': WHATEVER THE INPUT: true; the input reads as it did. -/
def identifyListsSpec : ChangeSpec := { name := "identifyLists", fn := fun _ => fun
  | [d1, d2] => { results := [.lit (.bool true)], args := [d1, d2] }
  | _ => none }
def identifyListsRow : OpenClaim := { program := "ytmfbmioooafelaa", sum := "ccd99ee7c6cea83c335a5f49285f64f3ed091e73d79b26b2896f3cc40a3df060", func := "headgate/headgatelaw26.IdentifyLists", spec := "identifyLists", apart := false }
def IdentifyListsSaid : Prop := identifyListsRow.holds Try.pinned (OpenSpec.ofChange identifyListsSpec)

/-- ITS FALSE NEIGHBOUR: 'it returns false'. Refute it at one input. -/
def identifyListsWrong : ChangeSpec := { name := "identifyLists", fn := fun _ => fun
  | [d1, d2] => { results := [.lit (.bool false)], args := [d1, d2] }
  | _ => none }
def IdentifyListsWrongFalsely : Prop := identifyListsRow.holds Try.pinned (OpenSpec.ofChange identifyListsWrong)

/-- 'headgatelaw26.IdentifyReads': WHATEVER THE INPUT: true; the input reads as it did. -/
def identifyReadsSpec : ChangeSpec := { name := "identifyReads", fn := fun _ => fun
  | [d1, d2, d3] => { results := [.lit (.bool true)], args := [d1, d2, d3] }
  | _ => none }
def identifyReadsRow : OpenClaim := { program := "ytmfbmioooafelaa", sum := "ccd99ee7c6cea83c335a5f49285f64f3ed091e73d79b26b2896f3cc40a3df060", func := "headgate/headgatelaw26.IdentifyReads", spec := "identifyReads", apart := false }
def IdentifyReadsSaid : Prop := identifyReadsRow.holds Try.pinned (OpenSpec.ofChange identifyReadsSpec)

/-- ITS FALSE NEIGHBOUR: 'it returns false'. Refute it at one input. -/
def identifyReadsWrong : ChangeSpec := { name := "identifyReads", fn := fun _ => fun
  | [d1, d2, d3] => { results := [.lit (.bool false)], args := [d1, d2, d3] }
  | _ => none }
def IdentifyReadsWrongFalsely : Prop := identifyReadsRow.holds Try.pinned (OpenSpec.ofChange identifyReadsWrong)

/-- 'headgatelaw26.IdentifyPages': WHATEVER THE INPUT: true; the input reads as it did. -/
def identifyPagesSpec : ChangeSpec := { name := "identifyPages", fn := fun _ => fun
  | [d1, d2] => { results := [.lit (.bool true)], args := [d1, d2] }
  | _ => none }
def identifyPagesRow : OpenClaim := { program := "ytmfbmioooafelaa", sum := "ccd99ee7c6cea83c335a5f49285f64f3ed091e73d79b26b2896f3cc40a3df060", func := "headgate/headgatelaw26.IdentifyPages", spec := "identifyPages", apart := false }
def IdentifyPagesSaid : Prop := identifyPagesRow.holds Try.pinned (OpenSpec.ofChange identifyPagesSpec)

/-- ITS FALSE NEIGHBOUR: 'it returns false'. Refute it at one input. -/
def identifyPagesWrong : ChangeSpec := { name := "identifyPages", fn := fun _ => fun
  | [d1, d2] => { results := [.lit (.bool false)], args := [d1, d2] }
  | _ => none }
def IdentifyPagesWrongFalsely : Prop := identifyPagesRow.holds Try.pinned (OpenSpec.ofChange identifyPagesWrong)

/- THE SECOND FORM. 'bulk': how many values and letters a reading holds, each counted each time it is reached (what is shared counts as often as it is met; a slice's spare places count too). A statement '..UptoSaid' is the law's where the arguments, and the package variables that the reading takes, are together of bulk at most 1048576: NARROWER than '..Said'. Prove '..Said' where nothing that the law and all that it calls make is longer than what came in: it says more and counts as full. Else prove '..UptoSaid'. A law counts once. -/
mutual
def uptoBulk {H : Type} : DataW H → Nat
  | .lit (.string bytes) => bytes.length + 1
  | .lit _ => 1
  | .nil => 1
  | .ptr d => uptoBulk d + 1
  | .slice elems spare => uptoBulkAll elems + uptoBulkAll spare + 1
  | .agg parts => uptoBulkAll parts + 1
  | .iface _ d => uptoBulk d + 1
  | .map entries => uptoBulkEntries entries + 1
  | .held _ => 1
def uptoBulkAll {H : Type} : List (DataW H) → Nat
  | [] => 0
  | d :: r => uptoBulk d + uptoBulkAll r
def uptoBulkEntries {H : Type} : List (Lit × DataW H) → Nat
  | [] => 0
  | x :: r => uptoBulkEntry x + uptoBulkEntries r
def uptoBulkEntry {H : Type} : Lit × DataW H → Nat
  | (.string bytes, d) => bytes.length + uptoBulk d + 1
  | (_, d) => uptoBulk d + 1
 end
def uptoSmall : (H : Type) → List (DataW H) → Bool := fun _ ds => decide (uptoBulkAll ds ≤ 1048576)
def OpenSpec.upto (s : _root_.Go.ChangeSpec) : _root_.Go.OpenSpec := { _root_.Go.OpenSpec.ofChange s with cond := some uptoSmall }

/-- 'headgatelaw26.IdentifyLists', WHERE WHAT IT READS IS OF BULK AT MOST 1048576: true; the input reads as it did. -/
def identifyListsUptoRow : OpenClaim := { program := "ytmfbmioooafelaa", sum := "ccd99ee7c6cea83c335a5f49285f64f3ed091e73d79b26b2896f3cc40a3df060", func := "headgate/headgatelaw26.IdentifyLists", spec := "identifyLists", apart := false, narrowed := true }
def IdentifyListsUptoSaid : Prop := identifyListsUptoRow.holds Try.pinned (OpenSpec.upto identifyListsSpec)

/-- 'headgatelaw26.IdentifyReads', WHERE WHAT IT READS IS OF BULK AT MOST 1048576: true; the input reads as it did. -/
def identifyReadsUptoRow : OpenClaim := { program := "ytmfbmioooafelaa", sum := "ccd99ee7c6cea83c335a5f49285f64f3ed091e73d79b26b2896f3cc40a3df060", func := "headgate/headgatelaw26.IdentifyReads", spec := "identifyReads", apart := false, narrowed := true }
def IdentifyReadsUptoSaid : Prop := identifyReadsUptoRow.holds Try.pinned (OpenSpec.upto identifyReadsSpec)

/-- 'headgatelaw26.IdentifyPages', WHERE WHAT IT READS IS OF BULK AT MOST 1048576: true; the input reads as it did. -/
def identifyPagesUptoRow : OpenClaim := { program := "ytmfbmioooafelaa", sum := "ccd99ee7c6cea83c335a5f49285f64f3ed091e73d79b26b2896f3cc40a3df060", func := "headgate/headgatelaw26.IdentifyPages", spec := "identifyPages", apart := false, narrowed := true }
def IdentifyPagesUptoSaid : Prop := identifyPagesUptoRow.holds Try.pinned (OpenSpec.upto identifyPagesSpec)

end Rows
end Go.Proofs.Ytmfbmioooafelaa

/-
  NARROWER THAN 'FOR EVERY INPUT', by the rows' own cells (each row's printed sentence says how): AccessTells: laid · AccessKinds: laid · AccessOrder: laid · AccessStranger: laid · AccessGrows: laid.
  DERIVED. THE GIVEN ROWS OF THIS SEAT. 5 by the template 'for every input the law returns true; each argument reads behind the call as it read before'; 0 by the template 'total and deterministic' (their statements: YtflbeoejkbnhmaaDoorTotals.lean).
  GIVEN WITH THE SEED: the statements are not yours to turn. If you find one false, say at which input.
  Laid BY PROGRAM, IN A SANDBOX (cutbox-rows.mjs): the forced cells as the released guide's own fill.sh prints them over the translation c7b694f277c9205f… (all of the seat's roots in one cut). By AI agents, Wed Nov 11 2026. No macro, syntax, notation, axiom, sorry.
-/
import Derived.Test.YtflbeoejkbnhmaaDoorChecked
import GoSem.Claim
import GoSem.ClaimJoined
import GoSem.ClaimMapViews
import Derived.JoinedTies
import Derived.KernelRfl
namespace Go.Proofs.YtflbeoejkbnhmaaDoor
/- THE CELL 'sum', in the pinned program and in every row, IS THE sha256 OF THE DUMP (.gsa) THAT YtflbeoejkbnhmaaDoorProg.lean LOADS. Nothing in Lean hashes anything: it is a label: what it is worth is what the hold of that sum in a sandbox is worth. -/
noncomputable def Tryd.pinned : Pinned := { name := "ytflbeoejkbnhmaadoor", sum := "c7b694f277c9205f4bf283e8e9ac30bde7b14c37cc3e603accd11e275701df5f", checked := Tryd.checked }
namespace Rows
def none {H : Type} : Left H := { results := [], args := [] }

/- WHAT THE LISTED PACKAGE-LEVEL VARIABLES READ AS WHEN THE CALL BEGINS. Each datum BY PROGRAM (the guide's laid-datum.mjs) off the statement by which the dump's own 'gosem.cut.vars' lays the variable. In a bare row this is a premise. The card (YtflbeoejkbnhmaaDoorCards.lean) ties it to the program's text. -/
def laid_headgate_access_lets {H : Type} : DataW H := .agg [.lit (.int .i64 0), .lit (.int .i64 1), .lit (.int .i64 0), .lit (.int .i64 5), .lit (.int .i64 6), .lit (.int .i64 13), .lit (.int .i64 14)]

/-- 'headgatelaw10.AccessTells': WHATEVER THE INPUT: true; the input reads as it did. -/
def accessTellsSpec : ChangeSpec := { name := "accessTells", fn := fun _ => fun
  | [d1, d2, d3] => { results := [.lit (.bool true)], args := [d1, d2, d3] }
  | _ => none }
def accessTellsRow : OpenClaim := { program := "ytflbeoejkbnhmaadoor", sum := "c7b694f277c9205f4bf283e8e9ac30bde7b14c37cc3e603accd11e275701df5f", func := "headgate/headgatelaw10.AccessTells", spec := "accessTells", named := ["headgate/access.lets"], apart := false, laid := [("headgate/access.lets", laid_headgate_access_lets)] }
def AccessTellsSaid : Prop := accessTellsRow.holds Tryd.pinned (OpenSpec.ofChange accessTellsSpec)

/-- ITS FALSE NEIGHBOUR: 'it returns false'. Refute it at one input. -/
def accessTellsWrong : ChangeSpec := { name := "accessTells", fn := fun _ => fun
  | [d1, d2, d3] => { results := [.lit (.bool false)], args := [d1, d2, d3] }
  | _ => none }
def AccessTellsWrongFalsely : Prop := accessTellsRow.holds Tryd.pinned (OpenSpec.ofChange accessTellsWrong)

/-- 'headgatelaw10.AccessKinds': WHATEVER THE INPUT: true; the input reads as it did. -/
def accessKindsSpec : ChangeSpec := { name := "accessKinds", fn := fun _ => fun
  | [d] => { results := [.lit (.bool true)], args := [d] }
  | _ => none }
def accessKindsRow : OpenClaim := { program := "ytflbeoejkbnhmaadoor", sum := "c7b694f277c9205f4bf283e8e9ac30bde7b14c37cc3e603accd11e275701df5f", func := "headgate/headgatelaw10.AccessKinds", spec := "accessKinds", named := ["headgate/access.lets"], apart := false, laid := [("headgate/access.lets", laid_headgate_access_lets)] }
def AccessKindsSaid : Prop := accessKindsRow.holds Tryd.pinned (OpenSpec.ofChange accessKindsSpec)

/-- ITS FALSE NEIGHBOUR: 'it returns false'. Refute it at one input. -/
def accessKindsWrong : ChangeSpec := { name := "accessKinds", fn := fun _ => fun
  | [d] => { results := [.lit (.bool false)], args := [d] }
  | _ => none }
def AccessKindsWrongFalsely : Prop := accessKindsRow.holds Tryd.pinned (OpenSpec.ofChange accessKindsWrong)

/-- 'headgatelaw10.AccessOrder': WHATEVER THE INPUT: true; the input reads as it did. -/
def accessOrderSpec : ChangeSpec := { name := "accessOrder", fn := fun _ => fun
  | [d1, d2] => { results := [.lit (.bool true)], args := [d1, d2] }
  | _ => none }
def accessOrderRow : OpenClaim := { program := "ytflbeoejkbnhmaadoor", sum := "c7b694f277c9205f4bf283e8e9ac30bde7b14c37cc3e603accd11e275701df5f", func := "headgate/headgatelaw10.AccessOrder", spec := "accessOrder", named := ["headgate/access.lets"], apart := false, laid := [("headgate/access.lets", laid_headgate_access_lets)] }
def AccessOrderSaid : Prop := accessOrderRow.holds Tryd.pinned (OpenSpec.ofChange accessOrderSpec)

/-- ITS FALSE NEIGHBOUR: 'it returns false'. Refute it at one input. -/
def accessOrderWrong : ChangeSpec := { name := "accessOrder", fn := fun _ => fun
  | [d1, d2] => { results := [.lit (.bool false)], args := [d1, d2] }
  | _ => none }
def AccessOrderWrongFalsely : Prop := accessOrderRow.holds Tryd.pinned (OpenSpec.ofChange accessOrderWrong)

/-- 'headgatelaw10.AccessStranger': WHATEVER THE INPUT: true; the input reads as it did. -/
def accessStrangerSpec : ChangeSpec := { name := "accessStranger", fn := fun _ => fun
  | [d1, d2] => { results := [.lit (.bool true)], args := [d1, d2] }
  | _ => none }
def accessStrangerRow : OpenClaim := { program := "ytflbeoejkbnhmaadoor", sum := "c7b694f277c9205f4bf283e8e9ac30bde7b14c37cc3e603accd11e275701df5f", func := "headgate/headgatelaw10.AccessStranger", spec := "accessStranger", named := ["headgate/access.lets"], apart := false, laid := [("headgate/access.lets", laid_headgate_access_lets)] }
def AccessStrangerSaid : Prop := accessStrangerRow.holds Tryd.pinned (OpenSpec.ofChange accessStrangerSpec)

/-- ITS FALSE NEIGHBOUR: 'it returns false'. Refute it at one input. -/
def accessStrangerWrong : ChangeSpec := { name := "accessStranger", fn := fun _ => fun
  | [d1, d2] => { results := [.lit (.bool false)], args := [d1, d2] }
  | _ => none }
def AccessStrangerWrongFalsely : Prop := accessStrangerRow.holds Tryd.pinned (OpenSpec.ofChange accessStrangerWrong)

/-- 'headgatelaw10.AccessGrows': WHATEVER THE INPUT: true; the input reads as it did. -/
def accessGrowsSpec : ChangeSpec := { name := "accessGrows", fn := fun _ => fun
  | [d1, d2, d3] => { results := [.lit (.bool true)], args := [d1, d2, d3] }
  | _ => none }
def accessGrowsRow : OpenClaim := { program := "ytflbeoejkbnhmaadoor", sum := "c7b694f277c9205f4bf283e8e9ac30bde7b14c37cc3e603accd11e275701df5f", func := "headgate/headgatelaw10.AccessGrows", spec := "accessGrows", named := ["headgate/access.lets"], apart := false, laid := [("headgate/access.lets", laid_headgate_access_lets)] }
def AccessGrowsSaid : Prop := accessGrowsRow.holds Tryd.pinned (OpenSpec.ofChange accessGrowsSpec)

/-- ITS FALSE NEIGHBOUR: 'it returns false'. Refute it at one input. -/
def accessGrowsWrong : ChangeSpec := { name := "accessGrows", fn := fun _ => fun
  | [d1, d2, d3] => { results := [.lit (.bool false)], args := [d1, d2, d3] }
  | _ => none }
def AccessGrowsWrongFalsely : Prop := accessGrowsRow.holds Tryd.pinned (OpenSpec.ofChange accessGrowsWrong)

/- THE SECOND FORM. 'bulk': how many values and letters a reading holds, each counted each time it is reached (what is shared counts as often as it is met; a slice's spare places count too). A statement '..UptoSaid' is the law's where the arguments, and the package variables that the reading takes, are together of bulk at most 1048576: NARROWER than '..Said'. Prove '..Said' where nothing that the law and all that it calls make is longer than what came in: it says more and counts as full. Else prove '..UptoSaid'. A law counts once. -/
mutual
def uptoBulk {H : Type} : DataW H → Nat
  | .lit (.string bytes) => bytes.length + 1
  | .lit _ => 1
  | .nil => 1
  | .ptr d => uptoBulk d + 1
  | .slice elems spare => uptoBulkAll elems + uptoBulkAll spare + 1
  | .agg parts => uptoBulkAll parts + 1
  | .iface _ d => uptoBulk d + 1
  | .map entries => uptoBulkEntries entries + 1
  | .held _ => 1
def uptoBulkAll {H : Type} : List (DataW H) → Nat
  | [] => 0
  | d :: r => uptoBulk d + uptoBulkAll r
def uptoBulkEntries {H : Type} : List (Lit × DataW H) → Nat
  | [] => 0
  | x :: r => uptoBulkEntry x + uptoBulkEntries r
def uptoBulkEntry {H : Type} : Lit × DataW H → Nat
  | (.string bytes, d) => bytes.length + uptoBulk d + 1
  | (_, d) => uptoBulk d + 1
 end
def uptoSmall : (H : Type) → List (DataW H) → Bool := fun _ ds => decide (uptoBulkAll ds ≤ 1048576)
def OpenSpec.upto (s : _root_.Go.ChangeSpec) : _root_.Go.OpenSpec := { _root_.Go.OpenSpec.ofChange s with cond := some uptoSmall }

/-- 'headgatelaw10.AccessTells', WHERE WHAT IT READS IS OF BULK AT MOST 1048576: true; the input reads as it did. -/
def accessTellsUptoRow : OpenClaim := { program := "ytflbeoejkbnhmaadoor", sum := "c7b694f277c9205f4bf283e8e9ac30bde7b14c37cc3e603accd11e275701df5f", func := "headgate/headgatelaw10.AccessTells", spec := "accessTells", named := ["headgate/access.lets"], apart := false, laid := [("headgate/access.lets", laid_headgate_access_lets)], narrowed := true }
def AccessTellsUptoSaid : Prop := accessTellsUptoRow.holds Tryd.pinned (OpenSpec.upto accessTellsSpec)

/-- 'headgatelaw10.AccessKinds', WHERE WHAT IT READS IS OF BULK AT MOST 1048576: true; the input reads as it did. -/
def accessKindsUptoRow : OpenClaim := { program := "ytflbeoejkbnhmaadoor", sum := "c7b694f277c9205f4bf283e8e9ac30bde7b14c37cc3e603accd11e275701df5f", func := "headgate/headgatelaw10.AccessKinds", spec := "accessKinds", named := ["headgate/access.lets"], apart := false, laid := [("headgate/access.lets", laid_headgate_access_lets)], narrowed := true }
def AccessKindsUptoSaid : Prop := accessKindsUptoRow.holds Tryd.pinned (OpenSpec.upto accessKindsSpec)

/-- 'headgatelaw10.AccessOrder', WHERE WHAT IT READS IS OF BULK AT MOST 1048576: true; the input reads as it did. -/
def accessOrderUptoRow : OpenClaim := { program := "ytflbeoejkbnhmaadoor", sum := "c7b694f277c9205f4bf283e8e9ac30bde7b14c37cc3e603accd11e275701df5f", func := "headgate/headgatelaw10.AccessOrder", spec := "accessOrder", named := ["headgate/access.lets"], apart := false, laid := [("headgate/access.lets", laid_headgate_access_lets)], narrowed := true }
def AccessOrderUptoSaid : Prop := accessOrderUptoRow.holds Tryd.pinned (OpenSpec.upto accessOrderSpec)

/-- 'headgatelaw10.AccessStranger', WHERE WHAT IT READS IS OF BULK AT MOST 1048576: true; the input reads as it did. -/
def accessStrangerUptoRow : OpenClaim := { program := "ytflbeoejkbnhmaadoor", sum := "c7b694f277c9205f4bf283e8e9ac30bde7b14c37cc3e603accd11e275701df5f", func := "headgate/headgatelaw10.AccessStranger", spec := "accessStranger", named := ["headgate/access.lets"], apart := false, laid := [("headgate/access.lets", laid_headgate_access_lets)], narrowed := true }
def AccessStrangerUptoSaid : Prop := accessStrangerUptoRow.holds Tryd.pinned (OpenSpec.upto accessStrangerSpec)

/-- 'headgatelaw10.AccessGrows', WHERE WHAT IT READS IS OF BULK AT MOST 1048576: true; the input reads as it did. -/
def accessGrowsUptoRow : OpenClaim := { program := "ytflbeoejkbnhmaadoor", sum := "c7b694f277c9205f4bf283e8e9ac30bde7b14c37cc3e603accd11e275701df5f", func := "headgate/headgatelaw10.AccessGrows", spec := "accessGrows", named := ["headgate/access.lets"], apart := false, laid := [("headgate/access.lets", laid_headgate_access_lets)], narrowed := true }
def AccessGrowsUptoSaid : Prop := accessGrowsUptoRow.holds Tryd.pinned (OpenSpec.upto accessGrowsSpec)

end Rows
end Go.Proofs.YtflbeoejkbnhmaaDoor

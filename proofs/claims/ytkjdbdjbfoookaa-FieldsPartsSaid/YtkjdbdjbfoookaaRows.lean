/-
  No cell of these rows narrows 'for every input' (looked for: loops, veiled, ifaces, maps, wideKeys, modest, calm, conditions, laid).
  DERIVED. THE GIVEN ROWS OF THIS SEAT. 7 by the template 'for every input the law returns true; each argument reads behind the call as it read before'; 0 by the template 'total and deterministic' (their statements: YtkjdbdjbfoookaaTotals.lean).
  GIVEN WITH THE SEED: the statements are not yours to turn. If you find one false, say at which input.
  Laid BY PROGRAM, IN A SANDBOX (cutbox-rows.mjs): the forced cells as the released guide's own fill.sh prints them over the translation d7f6aacdf68b59c8… (all of the seat's roots in one cut). By AI agents, Wed Nov 11 2026. No macro, syntax, notation, axiom, sorry.
-/
import Derived.Test.YtkjdbdjbfoookaaChecked
import GoSem.Claim
import GoSem.ClaimJoined
import GoSem.ClaimMapViews
import Derived.JoinedTies
import Derived.KernelRfl
namespace Go.Proofs.Ytkjdbdjbfoookaa
/- THE CELL 'sum', in the pinned program and in every row, IS THE sha256 OF THE DUMP (.gsa) THAT YtkjdbdjbfoookaaProg.lean LOADS. Nothing in Lean hashes anything: it is a label: what it is worth is what the hold of that sum in a sandbox is worth. -/
noncomputable def Try.pinned : Pinned := { name := "ytkjdbdjbfoookaa", sum := "d7f6aacdf68b59c841c2159d46f9f55e2d1899e92530fd41803198bcdbcec869", checked := Try.checked }
namespace Rows
def none {H : Type} : Left H := { results := [], args := [] }

/-- 'headgatelaw01.FieldsReads': WHATEVER THE INPUT: true; the input reads as it did. -/
def fieldsReadsSpec : ChangeSpec := { name := "fieldsReads", fn := fun _ => fun
  | [d1, d2, d3] => { results := [.lit (.bool true)], args := [d1, d2, d3] }
  | _ => none }
def fieldsReadsRow : OpenClaim := { program := "ytkjdbdjbfoookaa", sum := "d7f6aacdf68b59c841c2159d46f9f55e2d1899e92530fd41803198bcdbcec869", func := "headgate/headgatelaw01.FieldsReads", spec := "fieldsReads", apart := false }
def FieldsReadsSaid : Prop := fieldsReadsRow.holds Try.pinned (OpenSpec.ofChange fieldsReadsSpec)

/-- ITS FALSE NEIGHBOUR: 'it returns false'. Refute it at one input. -/
def fieldsReadsWrong : ChangeSpec := { name := "fieldsReads", fn := fun _ => fun
  | [d1, d2, d3] => { results := [.lit (.bool false)], args := [d1, d2, d3] }
  | _ => none }
def FieldsReadsWrongFalsely : Prop := fieldsReadsRow.holds Try.pinned (OpenSpec.ofChange fieldsReadsWrong)

/-- 'headgatelaw01.FieldsWrites': WHATEVER THE INPUT: true; the input reads as it did. -/
def fieldsWritesSpec : ChangeSpec := { name := "fieldsWrites", fn := fun _ => fun
  | [d1, d2] => { results := [.lit (.bool true)], args := [d1, d2] }
  | _ => none }
def fieldsWritesRow : OpenClaim := { program := "ytkjdbdjbfoookaa", sum := "d7f6aacdf68b59c841c2159d46f9f55e2d1899e92530fd41803198bcdbcec869", func := "headgate/headgatelaw01.FieldsWrites", spec := "fieldsWrites", apart := false }
def FieldsWritesSaid : Prop := fieldsWritesRow.holds Try.pinned (OpenSpec.ofChange fieldsWritesSpec)

/-- ITS FALSE NEIGHBOUR: 'it returns false'. Refute it at one input. -/
def fieldsWritesWrong : ChangeSpec := { name := "fieldsWrites", fn := fun _ => fun
  | [d1, d2] => { results := [.lit (.bool false)], args := [d1, d2] }
  | _ => none }
def FieldsWritesWrongFalsely : Prop := fieldsWritesRow.holds Try.pinned (OpenSpec.ofChange fieldsWritesWrong)

/-- 'headgatelaw01.FieldsBack': WHATEVER THE INPUT: true; the input reads as it did. -/
def fieldsBackSpec : ChangeSpec := { name := "fieldsBack", fn := fun _ => fun
  | [d1, d2, d3] => { results := [.lit (.bool true)], args := [d1, d2, d3] }
  | _ => none }
def fieldsBackRow : OpenClaim := { program := "ytkjdbdjbfoookaa", sum := "d7f6aacdf68b59c841c2159d46f9f55e2d1899e92530fd41803198bcdbcec869", func := "headgate/headgatelaw01.FieldsBack", spec := "fieldsBack", apart := false }
def FieldsBackSaid : Prop := fieldsBackRow.holds Try.pinned (OpenSpec.ofChange fieldsBackSpec)

/-- ITS FALSE NEIGHBOUR: 'it returns false'. Refute it at one input. -/
def fieldsBackWrong : ChangeSpec := { name := "fieldsBack", fn := fun _ => fun
  | [d1, d2, d3] => { results := [.lit (.bool false)], args := [d1, d2, d3] }
  | _ => none }
def FieldsBackWrongFalsely : Prop := fieldsBackRow.holds Try.pinned (OpenSpec.ofChange fieldsBackWrong)

/-- 'headgatelaw01.FieldsTexts': WHATEVER THE INPUT: true; the input reads as it did. -/
def fieldsTextsSpec : ChangeSpec := { name := "fieldsTexts", fn := fun _ => fun
  | [d1, d2, d3] => { results := [.lit (.bool true)], args := [d1, d2, d3] }
  | _ => none }
def fieldsTextsRow : OpenClaim := { program := "ytkjdbdjbfoookaa", sum := "d7f6aacdf68b59c841c2159d46f9f55e2d1899e92530fd41803198bcdbcec869", func := "headgate/headgatelaw01.FieldsTexts", spec := "fieldsTexts", apart := false }
def FieldsTextsSaid : Prop := fieldsTextsRow.holds Try.pinned (OpenSpec.ofChange fieldsTextsSpec)

/-- ITS FALSE NEIGHBOUR: 'it returns false'. Refute it at one input. -/
def fieldsTextsWrong : ChangeSpec := { name := "fieldsTexts", fn := fun _ => fun
  | [d1, d2, d3] => { results := [.lit (.bool false)], args := [d1, d2, d3] }
  | _ => none }
def FieldsTextsWrongFalsely : Prop := fieldsTextsRow.holds Try.pinned (OpenSpec.ofChange fieldsTextsWrong)

/-- 'headgatelaw01.FieldsSets': WHATEVER THE INPUT: true; the input reads as it did. -/
def fieldsSetsSpec : ChangeSpec := { name := "fieldsSets", fn := fun _ => fun
  | [d1, d2, d3] => { results := [.lit (.bool true)], args := [d1, d2, d3] }
  | _ => none }
def fieldsSetsRow : OpenClaim := { program := "ytkjdbdjbfoookaa", sum := "d7f6aacdf68b59c841c2159d46f9f55e2d1899e92530fd41803198bcdbcec869", func := "headgate/headgatelaw01.FieldsSets", spec := "fieldsSets", apart := false }
def FieldsSetsSaid : Prop := fieldsSetsRow.holds Try.pinned (OpenSpec.ofChange fieldsSetsSpec)

/-- ITS FALSE NEIGHBOUR: 'it returns false'. Refute it at one input. -/
def fieldsSetsWrong : ChangeSpec := { name := "fieldsSets", fn := fun _ => fun
  | [d1, d2, d3] => { results := [.lit (.bool false)], args := [d1, d2, d3] }
  | _ => none }
def FieldsSetsWrongFalsely : Prop := fieldsSetsRow.holds Try.pinned (OpenSpec.ofChange fieldsSetsWrong)

/-- 'headgatelaw01.FieldsParts': WHATEVER THE INPUT: true; the input reads as it did. -/
def fieldsPartsSpec : ChangeSpec := { name := "fieldsParts", fn := fun _ => fun
  | [d1, d2, d3] => { results := [.lit (.bool true)], args := [d1, d2, d3] }
  | _ => none }
def fieldsPartsRow : OpenClaim := { program := "ytkjdbdjbfoookaa", sum := "d7f6aacdf68b59c841c2159d46f9f55e2d1899e92530fd41803198bcdbcec869", func := "headgate/headgatelaw01.FieldsParts", spec := "fieldsParts", apart := false }
def FieldsPartsSaid : Prop := fieldsPartsRow.holds Try.pinned (OpenSpec.ofChange fieldsPartsSpec)

/-- ITS FALSE NEIGHBOUR: 'it returns false'. Refute it at one input. -/
def fieldsPartsWrong : ChangeSpec := { name := "fieldsParts", fn := fun _ => fun
  | [d1, d2, d3] => { results := [.lit (.bool false)], args := [d1, d2, d3] }
  | _ => none }
def FieldsPartsWrongFalsely : Prop := fieldsPartsRow.holds Try.pinned (OpenSpec.ofChange fieldsPartsWrong)

/-- 'headgatelaw01.FieldsBits': WHATEVER THE INPUT: true; the input reads as it did. -/
def fieldsBitsSpec : ChangeSpec := { name := "fieldsBits", fn := fun _ => fun
  | [d1, d2, d3] => { results := [.lit (.bool true)], args := [d1, d2, d3] }
  | _ => none }
def fieldsBitsRow : OpenClaim := { program := "ytkjdbdjbfoookaa", sum := "d7f6aacdf68b59c841c2159d46f9f55e2d1899e92530fd41803198bcdbcec869", func := "headgate/headgatelaw01.FieldsBits", spec := "fieldsBits", apart := false }
def FieldsBitsSaid : Prop := fieldsBitsRow.holds Try.pinned (OpenSpec.ofChange fieldsBitsSpec)

/-- ITS FALSE NEIGHBOUR: 'it returns false'. Refute it at one input. -/
def fieldsBitsWrong : ChangeSpec := { name := "fieldsBits", fn := fun _ => fun
  | [d1, d2, d3] => { results := [.lit (.bool false)], args := [d1, d2, d3] }
  | _ => none }
def FieldsBitsWrongFalsely : Prop := fieldsBitsRow.holds Try.pinned (OpenSpec.ofChange fieldsBitsWrong)

/- THE SECOND FORM. 'bulk': how many values and letters a reading holds, each counted each time it is reached (what is shared counts as often as it is met; a slice's spare places count too). A statement '..UptoSaid' is the law's where the arguments, and the package variables that the reading takes, are together of bulk at most 1048576: NARROWER than '..Said'. Prove '..Said' where nothing that the law and all that it calls make is longer than what came in: it says more and counts as full. Else prove '..UptoSaid'. A law counts once. -/
mutual
def uptoBulk {H : Type} : DataW H → Nat
  | .lit (.string bytes) => bytes.length + 1
  | .lit _ => 1
  | .nil => 1
  | .ptr d => uptoBulk d + 1
  | .slice elems spare => uptoBulkAll elems + uptoBulkAll spare + 1
  | .agg parts => uptoBulkAll parts + 1
  | .iface _ d => uptoBulk d + 1
  | .map entries => uptoBulkEntries entries + 1
  | .held _ => 1
def uptoBulkAll {H : Type} : List (DataW H) → Nat
  | [] => 0
  | d :: r => uptoBulk d + uptoBulkAll r
def uptoBulkEntries {H : Type} : List (Lit × DataW H) → Nat
  | [] => 0
  | x :: r => uptoBulkEntry x + uptoBulkEntries r
def uptoBulkEntry {H : Type} : Lit × DataW H → Nat
  | (.string bytes, d) => bytes.length + uptoBulk d + 1
  | (_, d) => uptoBulk d + 1
 end
def uptoSmall : (H : Type) → List (DataW H) → Bool := fun _ ds => decide (uptoBulkAll ds ≤ 1048576)
def OpenSpec.upto (s : _root_.Go.ChangeSpec) : _root_.Go.OpenSpec := { _root_.Go.OpenSpec.ofChange s with cond := some uptoSmall }

/-- 'headgatelaw01.FieldsReads', WHERE WHAT IT READS IS OF BULK AT MOST 1048576: true; the input reads as it did. -/
def fieldsReadsUptoRow : OpenClaim := { program := "ytkjdbdjbfoookaa", sum := "d7f6aacdf68b59c841c2159d46f9f55e2d1899e92530fd41803198bcdbcec869", func := "headgate/headgatelaw01.FieldsReads", spec := "fieldsReads", apart := false, narrowed := true }
def FieldsReadsUptoSaid : Prop := fieldsReadsUptoRow.holds Try.pinned (OpenSpec.upto fieldsReadsSpec)

/-- 'headgatelaw01.FieldsWrites', WHERE WHAT IT READS IS OF BULK AT MOST 1048576: true; the input reads as it did. -/
def fieldsWritesUptoRow : OpenClaim := { program := "ytkjdbdjbfoookaa", sum := "d7f6aacdf68b59c841c2159d46f9f55e2d1899e92530fd41803198bcdbcec869", func := "headgate/headgatelaw01.FieldsWrites", spec := "fieldsWrites", apart := false, narrowed := true }
def FieldsWritesUptoSaid : Prop := fieldsWritesUptoRow.holds Try.pinned (OpenSpec.upto fieldsWritesSpec)

/-- 'headgatelaw01.FieldsBack', WHERE WHAT IT READS IS OF BULK AT MOST 1048576: true; the input reads as it did. -/
def fieldsBackUptoRow : OpenClaim := { program := "ytkjdbdjbfoookaa", sum := "d7f6aacdf68b59c841c2159d46f9f55e2d1899e92530fd41803198bcdbcec869", func := "headgate/headgatelaw01.FieldsBack", spec := "fieldsBack", apart := false, narrowed := true }
def FieldsBackUptoSaid : Prop := fieldsBackUptoRow.holds Try.pinned (OpenSpec.upto fieldsBackSpec)

/-- 'headgatelaw01.FieldsTexts', WHERE WHAT IT READS IS OF BULK AT MOST 1048576: true; the input reads as it did. -/
def fieldsTextsUptoRow : OpenClaim := { program := "ytkjdbdjbfoookaa", sum := "d7f6aacdf68b59c841c2159d46f9f55e2d1899e92530fd41803198bcdbcec869", func := "headgate/headgatelaw01.FieldsTexts", spec := "fieldsTexts", apart := false, narrowed := true }
def FieldsTextsUptoSaid : Prop := fieldsTextsUptoRow.holds Try.pinned (OpenSpec.upto fieldsTextsSpec)

/-- 'headgatelaw01.FieldsSets', WHERE WHAT IT READS IS OF BULK AT MOST 1048576: true; the input reads as it did. -/
def fieldsSetsUptoRow : OpenClaim := { program := "ytkjdbdjbfoookaa", sum := "d7f6aacdf68b59c841c2159d46f9f55e2d1899e92530fd41803198bcdbcec869", func := "headgate/headgatelaw01.FieldsSets", spec := "fieldsSets", apart := false, narrowed := true }
def FieldsSetsUptoSaid : Prop := fieldsSetsUptoRow.holds Try.pinned (OpenSpec.upto fieldsSetsSpec)

/-- 'headgatelaw01.FieldsParts', WHERE WHAT IT READS IS OF BULK AT MOST 1048576: true; the input reads as it did. -/
def fieldsPartsUptoRow : OpenClaim := { program := "ytkjdbdjbfoookaa", sum := "d7f6aacdf68b59c841c2159d46f9f55e2d1899e92530fd41803198bcdbcec869", func := "headgate/headgatelaw01.FieldsParts", spec := "fieldsParts", apart := false, narrowed := true }
def FieldsPartsUptoSaid : Prop := fieldsPartsUptoRow.holds Try.pinned (OpenSpec.upto fieldsPartsSpec)

/-- 'headgatelaw01.FieldsBits', WHERE WHAT IT READS IS OF BULK AT MOST 1048576: true; the input reads as it did. -/
def fieldsBitsUptoRow : OpenClaim := { program := "ytkjdbdjbfoookaa", sum := "d7f6aacdf68b59c841c2159d46f9f55e2d1899e92530fd41803198bcdbcec869", func := "headgate/headgatelaw01.FieldsBits", spec := "fieldsBits", apart := false, narrowed := true }
def FieldsBitsUptoSaid : Prop := fieldsBitsUptoRow.holds Try.pinned (OpenSpec.upto fieldsBitsSpec)

end Rows
end Go.Proofs.Ytkjdbdjbfoookaa

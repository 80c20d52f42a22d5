/-
  NARROWER THAN 'FOR EVERY INPUT', by the rows' own cells (each row's printed sentence says how): TpduGets: laid · TpduBack: laid · TpduStream: laid · TpduPuts: laid · TpduTurned: laid.
  DERIVED. THE GIVEN ROWS OF THIS SEAT. 5 by the template 'for every input the law returns true; each argument reads behind the call as it read before'; 0 by the template 'total and deterministic' (their statements: YtkbjhblffbcleaaDoorTotals.lean).
  GIVEN WITH THE SEED: the statements are not yours to turn. If you find one false, say at which input.
  Laid BY PROGRAM, IN A SANDBOX (cutbox-rows.mjs): the forced cells as the released guide's own fill.sh prints them over the translation 5191b0d3337c8084… (all of the seat's roots in one cut). By AI agents, Wed Nov 11 2026. No macro, syntax, notation, axiom, sorry.
-/
import Derived.Test.YtkbjhblffbcleaaDoorChecked
import GoSem.Claim
import GoSem.ClaimJoined
import GoSem.ClaimMapViews
import Derived.JoinedTies
import Derived.KernelRfl
namespace Go.Proofs.YtkbjhblffbcleaaDoor
/- THE CELL 'sum', in the pinned program and in every row, IS THE sha256 OF THE DUMP (.gsa) THAT YtkbjhblffbcleaaDoorProg.lean LOADS. Nothing in Lean hashes anything: it is a label: what it is worth is what the hold of that sum in a sandbox is worth. -/
noncomputable def Tryd.pinned : Pinned := { name := "ytkbjhblffbcleaadoor", sum := "5191b0d3337c80847168cfc861b21344e5d508499b21ba08ebfb2a442776e864", checked := Tryd.checked }
namespace Rows
def none {H : Type} : Left H := { results := [], args := [] }

/- WHAT THE LISTED PACKAGE-LEVEL VARIABLES READ AS WHEN THE CALL BEGINS. Each datum BY PROGRAM (the guide's laid-datum.mjs) off the statement by which the dump's own 'gosem.cut.vars' lays the variable. In a bare row this is a premise. The card (YtkbjhblffbcleaaDoorCards.lean) ties it to the program's text. -/
def laid_headgate_crc_steps {H : Type} : DataW H := .agg [.lit (.int .u32 0), .lit (.int .u32 274646895), .lit (.int .u32 549293790), .lit (.int .u32 820201905), .lit (.int .u32 1098587580), .lit (.int .u32 1361435347), .lit (.int .u32 1640403810), .lit (.int .u32 1905808397), .lit (.int .u32 2197175160), .lit (.int .u32 2460548119), .lit (.int .u32 2722870694), .lit (.int .u32 2987750089), .lit (.int .u32 3280807620), .lit (.int .u32 3553878443), .lit (.int .u32 3811616794), .lit (.int .u32 4084100981)]
def laid_headgate_tpdu_forms {H : Type} : DataW H := .agg [.agg [.lit (.int .i64 120), .lit (.int .i64 0), .lit (.bool false)], .agg [.lit (.int .i64 120), .lit (.int .i64 0), .lit (.bool false)], .agg [.lit (.int .i64 16), .lit (.int .i64 128), .lit (.bool false)], .agg [.lit (.int .i64 16), .lit (.int .i64 128), .lit (.bool false)], .agg [.lit (.int .i64 64), .lit (.int .i64 16384), .lit (.bool true)], .agg [.lit (.int .i64 16), .lit (.int .i64 0), .lit (.bool true)], .agg [.lit (.int .i64 16), .lit (.int .i64 16384), .lit (.bool true)], .agg [.lit (.int .i64 16), .lit (.int .i64 16384), .lit (.bool true)], .agg [.lit (.int .i64 0), .lit (.int .i64 0), .lit (.bool false)], .agg [.lit (.int .i64 16), .lit (.int .i64 0), .lit (.bool true)]]

/-- 'headgatelaw29.TpduGets': WHATEVER THE INPUT: true; the input reads as it did. -/
def tpduGetsSpec : ChangeSpec := { name := "tpduGets", fn := fun _ => fun
  | [d1, d2, d3] => { results := [.lit (.bool true)], args := [d1, d2, d3] }
  | _ => none }
def tpduGetsRow : OpenClaim := { program := "ytkbjhblffbcleaadoor", sum := "5191b0d3337c80847168cfc861b21344e5d508499b21ba08ebfb2a442776e864", func := "headgate/headgatelaw29.TpduGets", spec := "tpduGets", named := ["headgate/tpdu.forms", "headgate/crc.steps"], apart := false, laid := [("headgate/crc.steps", laid_headgate_crc_steps), ("headgate/tpdu.forms", laid_headgate_tpdu_forms)] }
def TpduGetsSaid : Prop := tpduGetsRow.holds Tryd.pinned (OpenSpec.ofChange tpduGetsSpec)

/-- ITS FALSE NEIGHBOUR: 'it returns false'. Refute it at one input. -/
def tpduGetsWrong : ChangeSpec := { name := "tpduGets", fn := fun _ => fun
  | [d1, d2, d3] => { results := [.lit (.bool false)], args := [d1, d2, d3] }
  | _ => none }
def TpduGetsWrongFalsely : Prop := tpduGetsRow.holds Tryd.pinned (OpenSpec.ofChange tpduGetsWrong)

/-- 'headgatelaw29.TpduBack': WHATEVER THE INPUT: true; the input reads as it did. -/
def tpduBackSpec : ChangeSpec := { name := "tpduBack", fn := fun _ => fun
  | [d1, d2, d3] => { results := [.lit (.bool true)], args := [d1, d2, d3] }
  | _ => none }
def tpduBackRow : OpenClaim := { program := "ytkbjhblffbcleaadoor", sum := "5191b0d3337c80847168cfc861b21344e5d508499b21ba08ebfb2a442776e864", func := "headgate/headgatelaw29.TpduBack", spec := "tpduBack", named := ["headgate/tpdu.forms", "headgate/crc.steps"], apart := false, laid := [("headgate/crc.steps", laid_headgate_crc_steps), ("headgate/tpdu.forms", laid_headgate_tpdu_forms)] }
def TpduBackSaid : Prop := tpduBackRow.holds Tryd.pinned (OpenSpec.ofChange tpduBackSpec)

/-- ITS FALSE NEIGHBOUR: 'it returns false'. Refute it at one input. -/
def tpduBackWrong : ChangeSpec := { name := "tpduBack", fn := fun _ => fun
  | [d1, d2, d3] => { results := [.lit (.bool false)], args := [d1, d2, d3] }
  | _ => none }
def TpduBackWrongFalsely : Prop := tpduBackRow.holds Tryd.pinned (OpenSpec.ofChange tpduBackWrong)

/-- 'headgatelaw29.TpduStream': WHATEVER THE INPUT: true; the input reads as it did. -/
def tpduStreamSpec : ChangeSpec := { name := "tpduStream", fn := fun _ => fun
  | [d1, d2, d3] => { results := [.lit (.bool true)], args := [d1, d2, d3] }
  | _ => none }
def tpduStreamRow : OpenClaim := { program := "ytkbjhblffbcleaadoor", sum := "5191b0d3337c80847168cfc861b21344e5d508499b21ba08ebfb2a442776e864", func := "headgate/headgatelaw29.TpduStream", spec := "tpduStream", named := ["headgate/tpdu.forms", "headgate/crc.steps"], apart := false, laid := [("headgate/crc.steps", laid_headgate_crc_steps), ("headgate/tpdu.forms", laid_headgate_tpdu_forms)] }
def TpduStreamSaid : Prop := tpduStreamRow.holds Tryd.pinned (OpenSpec.ofChange tpduStreamSpec)

/-- ITS FALSE NEIGHBOUR: 'it returns false'. Refute it at one input. -/
def tpduStreamWrong : ChangeSpec := { name := "tpduStream", fn := fun _ => fun
  | [d1, d2, d3] => { results := [.lit (.bool false)], args := [d1, d2, d3] }
  | _ => none }
def TpduStreamWrongFalsely : Prop := tpduStreamRow.holds Tryd.pinned (OpenSpec.ofChange tpduStreamWrong)

/-- 'headgatelaw29.TpduPuts': WHATEVER THE INPUT: true; the input reads as it did. -/
def tpduPutsSpec : ChangeSpec := { name := "tpduPuts", fn := fun _ => fun
  | [d1, d2, d3] => { results := [.lit (.bool true)], args := [d1, d2, d3] }
  | _ => none }
def tpduPutsRow : OpenClaim := { program := "ytkbjhblffbcleaadoor", sum := "5191b0d3337c80847168cfc861b21344e5d508499b21ba08ebfb2a442776e864", func := "headgate/headgatelaw29.TpduPuts", spec := "tpduPuts", named := ["headgate/tpdu.forms", "headgate/crc.steps"], apart := false, laid := [("headgate/crc.steps", laid_headgate_crc_steps), ("headgate/tpdu.forms", laid_headgate_tpdu_forms)] }
def TpduPutsSaid : Prop := tpduPutsRow.holds Tryd.pinned (OpenSpec.ofChange tpduPutsSpec)

/-- ITS FALSE NEIGHBOUR: 'it returns false'. Refute it at one input. -/
def tpduPutsWrong : ChangeSpec := { name := "tpduPuts", fn := fun _ => fun
  | [d1, d2, d3] => { results := [.lit (.bool false)], args := [d1, d2, d3] }
  | _ => none }
def TpduPutsWrongFalsely : Prop := tpduPutsRow.holds Tryd.pinned (OpenSpec.ofChange tpduPutsWrong)

/-- 'headgatelaw29.TpduTurned': WHATEVER THE INPUT: true; the input reads as it did. -/
def tpduTurnedSpec : ChangeSpec := { name := "tpduTurned", fn := fun _ => fun
  | [d1, d2, d3] => { results := [.lit (.bool true)], args := [d1, d2, d3] }
  | _ => none }
def tpduTurnedRow : OpenClaim := { program := "ytkbjhblffbcleaadoor", sum := "5191b0d3337c80847168cfc861b21344e5d508499b21ba08ebfb2a442776e864", func := "headgate/headgatelaw29.TpduTurned", spec := "tpduTurned", named := ["headgate/tpdu.forms", "headgate/crc.steps"], apart := false, laid := [("headgate/crc.steps", laid_headgate_crc_steps), ("headgate/tpdu.forms", laid_headgate_tpdu_forms)] }
def TpduTurnedSaid : Prop := tpduTurnedRow.holds Tryd.pinned (OpenSpec.ofChange tpduTurnedSpec)

/-- ITS FALSE NEIGHBOUR: 'it returns false'. Refute it at one input. -/
def tpduTurnedWrong : ChangeSpec := { name := "tpduTurned", fn := fun _ => fun
  | [d1, d2, d3] => { results := [.lit (.bool false)], args := [d1, d2, d3] }
  | _ => none }
def TpduTurnedWrongFalsely : Prop := tpduTurnedRow.holds Tryd.pinned (OpenSpec.ofChange tpduTurnedWrong)

/- THE SECOND FORM. 'bulk': how many values and letters a reading holds, each counted each time it is reached (what is shared counts as often as it is met; a slice's spare places count too). A statement '..UptoSaid' is the law's where the arguments, and the package variables that the reading takes, are together of bulk at most 1048576: NARROWER than '..Said'. Prove '..Said' where nothing that the law and all that it calls make is longer than what came in: it says more and counts as full. Else prove '..UptoSaid'. A law counts once. -/
mutual
def uptoBulk {H : Type} : DataW H → Nat
  | .lit (.string bytes) => bytes.length + 1
  | .lit _ => 1
  | .nil => 1
  | .ptr d => uptoBulk d + 1
  | .slice elems spare => uptoBulkAll elems + uptoBulkAll spare + 1
  | .agg parts => uptoBulkAll parts + 1
  | .iface _ d => uptoBulk d + 1
  | .map entries => uptoBulkEntries entries + 1
  | .held _ => 1
def uptoBulkAll {H : Type} : List (DataW H) → Nat
  | [] => 0
  | d :: r => uptoBulk d + uptoBulkAll r
def uptoBulkEntries {H : Type} : List (Lit × DataW H) → Nat
  | [] => 0
  | x :: r => uptoBulkEntry x + uptoBulkEntries r
def uptoBulkEntry {H : Type} : Lit × DataW H → Nat
  | (.string bytes, d) => bytes.length + uptoBulk d + 1
  | (_, d) => uptoBulk d + 1
 end
def uptoSmall : (H : Type) → List (DataW H) → Bool := fun _ ds => decide (uptoBulkAll ds ≤ 1048576)
def OpenSpec.upto (s : _root_.Go.ChangeSpec) : _root_.Go.OpenSpec := { _root_.Go.OpenSpec.ofChange s with cond := some uptoSmall }

/-- 'headgatelaw29.TpduGets', WHERE WHAT IT READS IS OF BULK AT MOST 1048576: true; the input reads as it did. -/
def tpduGetsUptoRow : OpenClaim := { program := "ytkbjhblffbcleaadoor", sum := "5191b0d3337c80847168cfc861b21344e5d508499b21ba08ebfb2a442776e864", func := "headgate/headgatelaw29.TpduGets", spec := "tpduGets", named := ["headgate/tpdu.forms", "headgate/crc.steps"], apart := false, laid := [("headgate/crc.steps", laid_headgate_crc_steps), ("headgate/tpdu.forms", laid_headgate_tpdu_forms)], narrowed := true }
def TpduGetsUptoSaid : Prop := tpduGetsUptoRow.holds Tryd.pinned (OpenSpec.upto tpduGetsSpec)

/-- 'headgatelaw29.TpduBack', WHERE WHAT IT READS IS OF BULK AT MOST 1048576: true; the input reads as it did. -/
def tpduBackUptoRow : OpenClaim := { program := "ytkbjhblffbcleaadoor", sum := "5191b0d3337c80847168cfc861b21344e5d508499b21ba08ebfb2a442776e864", func := "headgate/headgatelaw29.TpduBack", spec := "tpduBack", named := ["headgate/tpdu.forms", "headgate/crc.steps"], apart := false, laid := [("headgate/crc.steps", laid_headgate_crc_steps), ("headgate/tpdu.forms", laid_headgate_tpdu_forms)], narrowed := true }
def TpduBackUptoSaid : Prop := tpduBackUptoRow.holds Tryd.pinned (OpenSpec.upto tpduBackSpec)

/-- 'headgatelaw29.TpduStream', WHERE WHAT IT READS IS OF BULK AT MOST 1048576: true; the input reads as it did. -/
def tpduStreamUptoRow : OpenClaim := { program := "ytkbjhblffbcleaadoor", sum := "5191b0d3337c80847168cfc861b21344e5d508499b21ba08ebfb2a442776e864", func := "headgate/headgatelaw29.TpduStream", spec := "tpduStream", named := ["headgate/tpdu.forms", "headgate/crc.steps"], apart := false, laid := [("headgate/crc.steps", laid_headgate_crc_steps), ("headgate/tpdu.forms", laid_headgate_tpdu_forms)], narrowed := true }
def TpduStreamUptoSaid : Prop := tpduStreamUptoRow.holds Tryd.pinned (OpenSpec.upto tpduStreamSpec)

/-- 'headgatelaw29.TpduPuts', WHERE WHAT IT READS IS OF BULK AT MOST 1048576: true; the input reads as it did. -/
def tpduPutsUptoRow : OpenClaim := { program := "ytkbjhblffbcleaadoor", sum := "5191b0d3337c80847168cfc861b21344e5d508499b21ba08ebfb2a442776e864", func := "headgate/headgatelaw29.TpduPuts", spec := "tpduPuts", named := ["headgate/tpdu.forms", "headgate/crc.steps"], apart := false, laid := [("headgate/crc.steps", laid_headgate_crc_steps), ("headgate/tpdu.forms", laid_headgate_tpdu_forms)], narrowed := true }
def TpduPutsUptoSaid : Prop := tpduPutsUptoRow.holds Tryd.pinned (OpenSpec.upto tpduPutsSpec)

/-- 'headgatelaw29.TpduTurned', WHERE WHAT IT READS IS OF BULK AT MOST 1048576: true; the input reads as it did. -/
def tpduTurnedUptoRow : OpenClaim := { program := "ytkbjhblffbcleaadoor", sum := "5191b0d3337c80847168cfc861b21344e5d508499b21ba08ebfb2a442776e864", func := "headgate/headgatelaw29.TpduTurned", spec := "tpduTurned", named := ["headgate/tpdu.forms", "headgate/crc.steps"], apart := false, laid := [("headgate/crc.steps", laid_headgate_crc_steps), ("headgate/tpdu.forms", laid_headgate_tpdu_forms)], narrowed := true }
def TpduTurnedUptoSaid : Prop := tpduTurnedUptoRow.holds Tryd.pinned (OpenSpec.upto tpduTurnedSpec)

end Rows
end Go.Proofs.YtkbjhblffbcleaaDoor

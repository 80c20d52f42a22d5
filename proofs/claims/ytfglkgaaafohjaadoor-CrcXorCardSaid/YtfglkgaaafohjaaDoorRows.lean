/-
  NARROWER THAN 'FOR EVERY INPUT', by the rows' own cells (each row's printed sentence says how): CrcSums: laid · CrcRight: laid · CrcJoins: laid · CrcTurned: laid · CrcXor: laid.
  DERIVED. THE GIVEN ROWS OF THIS SEAT. 5 by the template 'for every input the law returns true; each argument reads behind the call as it read before'; 0 by the template 'total and deterministic' (their statements: YtfglkgaaafohjaaDoorTotals.lean).
  GIVEN WITH THE SEED: the statements are not yours to turn. If you find one false, say at which input.
  Laid BY PROGRAM, IN A SANDBOX (cutbox-rows.mjs): the forced cells as the released guide's own fill.sh prints them over the translation aed8a792eaf65c9a… (all of the seat's roots in one cut). By AI agents, Wed Nov 11 2026. No macro, syntax, notation, axiom, sorry.
-/
import Derived.Test.YtfglkgaaafohjaaDoorChecked
import GoSem.Claim
import GoSem.ClaimJoined
import GoSem.ClaimMapViews
import Derived.JoinedTies
import Derived.KernelRfl
namespace Go.Proofs.YtfglkgaaafohjaaDoor
/- THE CELL 'sum', in the pinned program and in every row, IS THE sha256 OF THE DUMP (.gsa) THAT YtfglkgaaafohjaaDoorProg.lean LOADS. Nothing in Lean hashes anything: it is a label: what it is worth is what the hold of that sum in a sandbox is worth. -/
noncomputable def Tryd.pinned : Pinned := { name := "ytfglkgaaafohjaadoor", sum := "aed8a792eaf65c9a9b5b827aa7f0d8070d5213c2c1718135e035f8c09ab7081c", checked := Tryd.checked }
namespace Rows
def none {H : Type} : Left H := { results := [], args := [] }

/- WHAT THE LISTED PACKAGE-LEVEL VARIABLES READ AS WHEN THE CALL BEGINS. Each datum BY PROGRAM (the guide's laid-datum.mjs) off the statement by which the dump's own 'gosem.cut.vars' lays the variable. In a bare row this is a premise. The card (YtfglkgaaafohjaaDoorCards.lean) ties it to the program's text. -/
def laid_headgate_crc_steps {H : Type} : DataW H := .agg [.lit (.int .u32 0), .lit (.int .u32 274646895), .lit (.int .u32 549293790), .lit (.int .u32 820201905), .lit (.int .u32 1098587580), .lit (.int .u32 1361435347), .lit (.int .u32 1640403810), .lit (.int .u32 1905808397), .lit (.int .u32 2197175160), .lit (.int .u32 2460548119), .lit (.int .u32 2722870694), .lit (.int .u32 2987750089), .lit (.int .u32 3280807620), .lit (.int .u32 3553878443), .lit (.int .u32 3811616794), .lit (.int .u32 4084100981)]

/-- 'headgatelaw02.CrcSums': WHATEVER THE INPUT: true; the input reads as it did. -/
def crcSumsSpec : ChangeSpec := { name := "crcSums", fn := fun _ => fun
  | [d1, d2] => { results := [.lit (.bool true)], args := [d1, d2] }
  | _ => none }
def crcSumsRow : OpenClaim := { program := "ytfglkgaaafohjaadoor", sum := "aed8a792eaf65c9a9b5b827aa7f0d8070d5213c2c1718135e035f8c09ab7081c", func := "headgate/headgatelaw02.CrcSums", spec := "crcSums", named := ["headgate/crc.steps"], apart := false, laid := [("headgate/crc.steps", laid_headgate_crc_steps)] }
def CrcSumsSaid : Prop := crcSumsRow.holds Tryd.pinned (OpenSpec.ofChange crcSumsSpec)

/-- ITS FALSE NEIGHBOUR: 'it returns false'. Refute it at one input. -/
def crcSumsWrong : ChangeSpec := { name := "crcSums", fn := fun _ => fun
  | [d1, d2] => { results := [.lit (.bool false)], args := [d1, d2] }
  | _ => none }
def CrcSumsWrongFalsely : Prop := crcSumsRow.holds Tryd.pinned (OpenSpec.ofChange crcSumsWrong)

/-- 'headgatelaw02.CrcRight': WHATEVER THE INPUT: true; the input reads as it did. -/
def crcRightSpec : ChangeSpec := { name := "crcRight", fn := fun _ => fun
  | [d1, d2] => { results := [.lit (.bool true)], args := [d1, d2] }
  | _ => none }
def crcRightRow : OpenClaim := { program := "ytfglkgaaafohjaadoor", sum := "aed8a792eaf65c9a9b5b827aa7f0d8070d5213c2c1718135e035f8c09ab7081c", func := "headgate/headgatelaw02.CrcRight", spec := "crcRight", named := ["headgate/crc.steps"], apart := false, laid := [("headgate/crc.steps", laid_headgate_crc_steps)] }
def CrcRightSaid : Prop := crcRightRow.holds Tryd.pinned (OpenSpec.ofChange crcRightSpec)

/-- ITS FALSE NEIGHBOUR: 'it returns false'. Refute it at one input. -/
def crcRightWrong : ChangeSpec := { name := "crcRight", fn := fun _ => fun
  | [d1, d2] => { results := [.lit (.bool false)], args := [d1, d2] }
  | _ => none }
def CrcRightWrongFalsely : Prop := crcRightRow.holds Tryd.pinned (OpenSpec.ofChange crcRightWrong)

/-- 'headgatelaw02.CrcJoins': WHATEVER THE INPUT: true; the input reads as it did. -/
def crcJoinsSpec : ChangeSpec := { name := "crcJoins", fn := fun _ => fun
  | [d1, d2, d3] => { results := [.lit (.bool true)], args := [d1, d2, d3] }
  | _ => none }
def crcJoinsRow : OpenClaim := { program := "ytfglkgaaafohjaadoor", sum := "aed8a792eaf65c9a9b5b827aa7f0d8070d5213c2c1718135e035f8c09ab7081c", func := "headgate/headgatelaw02.CrcJoins", spec := "crcJoins", named := ["headgate/crc.steps"], apart := false, laid := [("headgate/crc.steps", laid_headgate_crc_steps)] }
def CrcJoinsSaid : Prop := crcJoinsRow.holds Tryd.pinned (OpenSpec.ofChange crcJoinsSpec)

/-- ITS FALSE NEIGHBOUR: 'it returns false'. Refute it at one input. -/
def crcJoinsWrong : ChangeSpec := { name := "crcJoins", fn := fun _ => fun
  | [d1, d2, d3] => { results := [.lit (.bool false)], args := [d1, d2, d3] }
  | _ => none }
def CrcJoinsWrongFalsely : Prop := crcJoinsRow.holds Tryd.pinned (OpenSpec.ofChange crcJoinsWrong)

/-- 'headgatelaw02.CrcTurned': WHATEVER THE INPUT: true; the input reads as it did. -/
def crcTurnedSpec : ChangeSpec := { name := "crcTurned", fn := fun _ => fun
  | [d1, d2, d3] => { results := [.lit (.bool true)], args := [d1, d2, d3] }
  | _ => none }
def crcTurnedRow : OpenClaim := { program := "ytfglkgaaafohjaadoor", sum := "aed8a792eaf65c9a9b5b827aa7f0d8070d5213c2c1718135e035f8c09ab7081c", func := "headgate/headgatelaw02.CrcTurned", spec := "crcTurned", named := ["headgate/crc.steps"], apart := false, laid := [("headgate/crc.steps", laid_headgate_crc_steps)] }
def CrcTurnedSaid : Prop := crcTurnedRow.holds Tryd.pinned (OpenSpec.ofChange crcTurnedSpec)

/-- ITS FALSE NEIGHBOUR: 'it returns false'. Refute it at one input. -/
def crcTurnedWrong : ChangeSpec := { name := "crcTurned", fn := fun _ => fun
  | [d1, d2, d3] => { results := [.lit (.bool false)], args := [d1, d2, d3] }
  | _ => none }
def CrcTurnedWrongFalsely : Prop := crcTurnedRow.holds Tryd.pinned (OpenSpec.ofChange crcTurnedWrong)

/-- 'headgatelaw02.CrcXor': WHATEVER THE INPUT: true; the input reads as it did. -/
def crcXorSpec : ChangeSpec := { name := "crcXor", fn := fun _ => fun
  | [d1, d2, d3] => { results := [.lit (.bool true)], args := [d1, d2, d3] }
  | _ => none }
def crcXorRow : OpenClaim := { program := "ytfglkgaaafohjaadoor", sum := "aed8a792eaf65c9a9b5b827aa7f0d8070d5213c2c1718135e035f8c09ab7081c", func := "headgate/headgatelaw02.CrcXor", spec := "crcXor", named := ["headgate/crc.steps"], apart := false, laid := [("headgate/crc.steps", laid_headgate_crc_steps)] }
def CrcXorSaid : Prop := crcXorRow.holds Tryd.pinned (OpenSpec.ofChange crcXorSpec)

/-- ITS FALSE NEIGHBOUR: 'it returns false'. Refute it at one input. -/
def crcXorWrong : ChangeSpec := { name := "crcXor", fn := fun _ => fun
  | [d1, d2, d3] => { results := [.lit (.bool false)], args := [d1, d2, d3] }
  | _ => none }
def CrcXorWrongFalsely : Prop := crcXorRow.holds Tryd.pinned (OpenSpec.ofChange crcXorWrong)

/- THE SECOND FORM. 'bulk': how many values and letters a reading holds, each counted each time it is reached (what is shared counts as often as it is met; a slice's spare places count too). A statement '..UptoSaid' is the law's where the arguments, and the package variables that the reading takes, are together of bulk at most 1048576: NARROWER than '..Said'. Prove '..Said' where nothing that the law and all that it calls make is longer than what came in: it says more and counts as full. Else prove '..UptoSaid'. A law counts once. -/
mutual
def uptoBulk {H : Type} : DataW H → Nat
  | .lit (.string bytes) => bytes.length + 1
  | .lit _ => 1
  | .nil => 1
  | .ptr d => uptoBulk d + 1
  | .slice elems spare => uptoBulkAll elems + uptoBulkAll spare + 1
  | .agg parts => uptoBulkAll parts + 1
  | .iface _ d => uptoBulk d + 1
  | .map entries => uptoBulkEntries entries + 1
  | .held _ => 1
def uptoBulkAll {H : Type} : List (DataW H) → Nat
  | [] => 0
  | d :: r => uptoBulk d + uptoBulkAll r
def uptoBulkEntries {H : Type} : List (Lit × DataW H) → Nat
  | [] => 0
  | x :: r => uptoBulkEntry x + uptoBulkEntries r
def uptoBulkEntry {H : Type} : Lit × DataW H → Nat
  | (.string bytes, d) => bytes.length + uptoBulk d + 1
  | (_, d) => uptoBulk d + 1
 end
def uptoSmall : (H : Type) → List (DataW H) → Bool := fun _ ds => decide (uptoBulkAll ds ≤ 1048576)
def OpenSpec.upto (s : _root_.Go.ChangeSpec) : _root_.Go.OpenSpec := { _root_.Go.OpenSpec.ofChange s with cond := some uptoSmall }

/-- 'headgatelaw02.CrcSums', WHERE WHAT IT READS IS OF BULK AT MOST 1048576: true; the input reads as it did. -/
def crcSumsUptoRow : OpenClaim := { program := "ytfglkgaaafohjaadoor", sum := "aed8a792eaf65c9a9b5b827aa7f0d8070d5213c2c1718135e035f8c09ab7081c", func := "headgate/headgatelaw02.CrcSums", spec := "crcSums", named := ["headgate/crc.steps"], apart := false, laid := [("headgate/crc.steps", laid_headgate_crc_steps)], narrowed := true }
def CrcSumsUptoSaid : Prop := crcSumsUptoRow.holds Tryd.pinned (OpenSpec.upto crcSumsSpec)

/-- 'headgatelaw02.CrcRight', WHERE WHAT IT READS IS OF BULK AT MOST 1048576: true; the input reads as it did. -/
def crcRightUptoRow : OpenClaim := { program := "ytfglkgaaafohjaadoor", sum := "aed8a792eaf65c9a9b5b827aa7f0d8070d5213c2c1718135e035f8c09ab7081c", func := "headgate/headgatelaw02.CrcRight", spec := "crcRight", named := ["headgate/crc.steps"], apart := false, laid := [("headgate/crc.steps", laid_headgate_crc_steps)], narrowed := true }
def CrcRightUptoSaid : Prop := crcRightUptoRow.holds Tryd.pinned (OpenSpec.upto crcRightSpec)

/-- 'headgatelaw02.CrcJoins', WHERE WHAT IT READS IS OF BULK AT MOST 1048576: true; the input reads as it did. -/
def crcJoinsUptoRow : OpenClaim := { program := "ytfglkgaaafohjaadoor", sum := "aed8a792eaf65c9a9b5b827aa7f0d8070d5213c2c1718135e035f8c09ab7081c", func := "headgate/headgatelaw02.CrcJoins", spec := "crcJoins", named := ["headgate/crc.steps"], apart := false, laid := [("headgate/crc.steps", laid_headgate_crc_steps)], narrowed := true }
def CrcJoinsUptoSaid : Prop := crcJoinsUptoRow.holds Tryd.pinned (OpenSpec.upto crcJoinsSpec)

/-- 'headgatelaw02.CrcTurned', WHERE WHAT IT READS IS OF BULK AT MOST 1048576: true; the input reads as it did. -/
def crcTurnedUptoRow : OpenClaim := { program := "ytfglkgaaafohjaadoor", sum := "aed8a792eaf65c9a9b5b827aa7f0d8070d5213c2c1718135e035f8c09ab7081c", func := "headgate/headgatelaw02.CrcTurned", spec := "crcTurned", named := ["headgate/crc.steps"], apart := false, laid := [("headgate/crc.steps", laid_headgate_crc_steps)], narrowed := true }
def CrcTurnedUptoSaid : Prop := crcTurnedUptoRow.holds Tryd.pinned (OpenSpec.upto crcTurnedSpec)

/-- 'headgatelaw02.CrcXor', WHERE WHAT IT READS IS OF BULK AT MOST 1048576: true; the input reads as it did. -/
def crcXorUptoRow : OpenClaim := { program := "ytfglkgaaafohjaadoor", sum := "aed8a792eaf65c9a9b5b827aa7f0d8070d5213c2c1718135e035f8c09ab7081c", func := "headgate/headgatelaw02.CrcXor", spec := "crcXor", named := ["headgate/crc.steps"], apart := false, laid := [("headgate/crc.steps", laid_headgate_crc_steps)], narrowed := true }
def CrcXorUptoSaid : Prop := crcXorUptoRow.holds Tryd.pinned (OpenSpec.upto crcXorSpec)

end Rows
end Go.Proofs.YtfglkgaaafohjaaDoor

/-
  NARROWER THAN 'FOR EVERY INPUT', by the rows' own cells (each row's printed sentence says how): IpduPuts: laid · IpduGets: laid · IpduBack: laid · IpduTurned: laid · IpduStream: laid · IpduHeads: laid.
  DERIVED. THE GIVEN ROWS OF THIS SEAT. 6 by the template 'for every input the law returns true; each argument reads behind the call as it read before'; 0 by the template 'total and deterministic' (their statements: YtcghbicjhngedaaDoorTotals.lean).
  GIVEN WITH THE SEED: the statements are not yours to turn. If you find one false, say at which input.
  Laid BY PROGRAM, IN A SANDBOX (cutbox-rows.mjs): the forced cells as the released guide's own fill.sh prints them over the translation 646f8ed7c316e960… (all of the seat's roots in one cut). By AI agents, Wed Nov 11 2026. No macro, syntax, notation, axiom, sorry.
-/
import Derived.Test.YtcghbicjhngedaaDoorChecked
import GoSem.Claim
import GoSem.ClaimJoined
import GoSem.ClaimMapViews
import Derived.JoinedTies
import Derived.KernelRfl
namespace Go.Proofs.YtcghbicjhngedaaDoor
/- THE CELL 'sum', in the pinned program and in every row, IS THE sha256 OF THE DUMP (.gsa) THAT YtcghbicjhngedaaDoorProg.lean LOADS. Nothing in Lean hashes anything: it is a label: what it is worth is what the hold of that sum in a sandbox is worth. -/
noncomputable def Tryd.pinned : Pinned := { name := "ytcghbicjhngedaadoor", sum := "646f8ed7c316e960af67f1a130eb5ce0677f486e87ef8c6ce15e1f32ba8f1e4c", checked := Tryd.checked }
namespace Rows
def none {H : Type} : Left H := { results := [], args := [] }

/- WHAT THE LISTED PACKAGE-LEVEL VARIABLES READ AS WHEN THE CALL BEGINS. Each datum BY PROGRAM (the guide's laid-datum.mjs) off the statement by which the dump's own 'gosem.cut.vars' lays the variable. In a bare row this is a premise. The card (YtcghbicjhngedaaDoorCards.lean) ties it to the program's text. -/
def laid_headgate_crc_steps {H : Type} : DataW H := .agg [.lit (.int .u32 0), .lit (.int .u32 274646895), .lit (.int .u32 549293790), .lit (.int .u32 820201905), .lit (.int .u32 1098587580), .lit (.int .u32 1361435347), .lit (.int .u32 1640403810), .lit (.int .u32 1905808397), .lit (.int .u32 2197175160), .lit (.int .u32 2460548119), .lit (.int .u32 2722870694), .lit (.int .u32 2987750089), .lit (.int .u32 3280807620), .lit (.int .u32 3553878443), .lit (.int .u32 3811616794), .lit (.int .u32 4084100981)]

/-- 'headgatelaw20.IpduPuts': WHATEVER THE INPUT: true; the input reads as it did. -/
def ipduPutsSpec : ChangeSpec := { name := "ipduPuts", fn := fun _ => fun
  | [d1, d2, d3] => { results := [.lit (.bool true)], args := [d1, d2, d3] }
  | _ => none }
def ipduPutsRow : OpenClaim := { program := "ytcghbicjhngedaadoor", sum := "646f8ed7c316e960af67f1a130eb5ce0677f486e87ef8c6ce15e1f32ba8f1e4c", func := "headgate/headgatelaw20.IpduPuts", spec := "ipduPuts", unfollowed := true, recurses := true, named := ["headgate/crc.steps"], apart := false, laid := [("headgate/crc.steps", laid_headgate_crc_steps)] }
def IpduPutsSaid : Prop := ipduPutsRow.holds Tryd.pinned (OpenSpec.ofChange ipduPutsSpec)

/-- ITS FALSE NEIGHBOUR: 'it returns false'. Refute it at one input. -/
def ipduPutsWrong : ChangeSpec := { name := "ipduPuts", fn := fun _ => fun
  | [d1, d2, d3] => { results := [.lit (.bool false)], args := [d1, d2, d3] }
  | _ => none }
def IpduPutsWrongFalsely : Prop := ipduPutsRow.holds Tryd.pinned (OpenSpec.ofChange ipduPutsWrong)

/-- 'headgatelaw20.IpduGets': WHATEVER THE INPUT: true; the input reads as it did. -/
def ipduGetsSpec : ChangeSpec := { name := "ipduGets", fn := fun _ => fun
  | [d1, d2, d3] => { results := [.lit (.bool true)], args := [d1, d2, d3] }
  | _ => none }
def ipduGetsRow : OpenClaim := { program := "ytcghbicjhngedaadoor", sum := "646f8ed7c316e960af67f1a130eb5ce0677f486e87ef8c6ce15e1f32ba8f1e4c", func := "headgate/headgatelaw20.IpduGets", spec := "ipduGets", unfollowed := true, recurses := true, named := ["headgate/crc.steps"], apart := false, laid := [("headgate/crc.steps", laid_headgate_crc_steps)] }
def IpduGetsSaid : Prop := ipduGetsRow.holds Tryd.pinned (OpenSpec.ofChange ipduGetsSpec)

/-- ITS FALSE NEIGHBOUR: 'it returns false'. Refute it at one input. -/
def ipduGetsWrong : ChangeSpec := { name := "ipduGets", fn := fun _ => fun
  | [d1, d2, d3] => { results := [.lit (.bool false)], args := [d1, d2, d3] }
  | _ => none }
def IpduGetsWrongFalsely : Prop := ipduGetsRow.holds Tryd.pinned (OpenSpec.ofChange ipduGetsWrong)

/-- 'headgatelaw20.IpduBack': WHATEVER THE INPUT: true; the input reads as it did. -/
def ipduBackSpec : ChangeSpec := { name := "ipduBack", fn := fun _ => fun
  | [d1, d2, d3] => { results := [.lit (.bool true)], args := [d1, d2, d3] }
  | _ => none }
def ipduBackRow : OpenClaim := { program := "ytcghbicjhngedaadoor", sum := "646f8ed7c316e960af67f1a130eb5ce0677f486e87ef8c6ce15e1f32ba8f1e4c", func := "headgate/headgatelaw20.IpduBack", spec := "ipduBack", unfollowed := true, recurses := true, named := ["headgate/crc.steps"], apart := false, laid := [("headgate/crc.steps", laid_headgate_crc_steps)] }
def IpduBackSaid : Prop := ipduBackRow.holds Tryd.pinned (OpenSpec.ofChange ipduBackSpec)

/-- ITS FALSE NEIGHBOUR: 'it returns false'. Refute it at one input. -/
def ipduBackWrong : ChangeSpec := { name := "ipduBack", fn := fun _ => fun
  | [d1, d2, d3] => { results := [.lit (.bool false)], args := [d1, d2, d3] }
  | _ => none }
def IpduBackWrongFalsely : Prop := ipduBackRow.holds Tryd.pinned (OpenSpec.ofChange ipduBackWrong)

/-- 'headgatelaw20.IpduTurned': WHATEVER THE INPUT: true; the input reads as it did. -/
def ipduTurnedSpec : ChangeSpec := { name := "ipduTurned", fn := fun _ => fun
  | [d1, d2, d3] => { results := [.lit (.bool true)], args := [d1, d2, d3] }
  | _ => none }
def ipduTurnedRow : OpenClaim := { program := "ytcghbicjhngedaadoor", sum := "646f8ed7c316e960af67f1a130eb5ce0677f486e87ef8c6ce15e1f32ba8f1e4c", func := "headgate/headgatelaw20.IpduTurned", spec := "ipduTurned", unfollowed := true, recurses := true, named := ["headgate/crc.steps"], apart := false, laid := [("headgate/crc.steps", laid_headgate_crc_steps)] }
def IpduTurnedSaid : Prop := ipduTurnedRow.holds Tryd.pinned (OpenSpec.ofChange ipduTurnedSpec)

/-- ITS FALSE NEIGHBOUR: 'it returns false'. Refute it at one input. -/
def ipduTurnedWrong : ChangeSpec := { name := "ipduTurned", fn := fun _ => fun
  | [d1, d2, d3] => { results := [.lit (.bool false)], args := [d1, d2, d3] }
  | _ => none }
def IpduTurnedWrongFalsely : Prop := ipduTurnedRow.holds Tryd.pinned (OpenSpec.ofChange ipduTurnedWrong)

/-- 'headgatelaw20.IpduStream': WHATEVER THE INPUT: true; the input reads as it did. -/
def ipduStreamSpec : ChangeSpec := { name := "ipduStream", fn := fun _ => fun
  | [d1, d2, d3] => { results := [.lit (.bool true)], args := [d1, d2, d3] }
  | _ => none }
def ipduStreamRow : OpenClaim := { program := "ytcghbicjhngedaadoor", sum := "646f8ed7c316e960af67f1a130eb5ce0677f486e87ef8c6ce15e1f32ba8f1e4c", func := "headgate/headgatelaw20.IpduStream", spec := "ipduStream", unfollowed := true, recurses := true, named := ["headgate/crc.steps"], apart := false, laid := [("headgate/crc.steps", laid_headgate_crc_steps)] }
def IpduStreamSaid : Prop := ipduStreamRow.holds Tryd.pinned (OpenSpec.ofChange ipduStreamSpec)

/-- ITS FALSE NEIGHBOUR: 'it returns false'. Refute it at one input. -/
def ipduStreamWrong : ChangeSpec := { name := "ipduStream", fn := fun _ => fun
  | [d1, d2, d3] => { results := [.lit (.bool false)], args := [d1, d2, d3] }
  | _ => none }
def IpduStreamWrongFalsely : Prop := ipduStreamRow.holds Tryd.pinned (OpenSpec.ofChange ipduStreamWrong)

/-- 'headgatelaw20.IpduHeads': WHATEVER THE INPUT: true; the input reads as it did. -/
def ipduHeadsSpec : ChangeSpec := { name := "ipduHeads", fn := fun _ => fun
  | [d1, d2, d3] => { results := [.lit (.bool true)], args := [d1, d2, d3] }
  | _ => none }
def ipduHeadsRow : OpenClaim := { program := "ytcghbicjhngedaadoor", sum := "646f8ed7c316e960af67f1a130eb5ce0677f486e87ef8c6ce15e1f32ba8f1e4c", func := "headgate/headgatelaw20.IpduHeads", spec := "ipduHeads", unfollowed := true, recurses := true, named := ["headgate/crc.steps"], apart := false, laid := [("headgate/crc.steps", laid_headgate_crc_steps)] }
def IpduHeadsSaid : Prop := ipduHeadsRow.holds Tryd.pinned (OpenSpec.ofChange ipduHeadsSpec)

/-- ITS FALSE NEIGHBOUR: 'it returns false'. Refute it at one input. -/
def ipduHeadsWrong : ChangeSpec := { name := "ipduHeads", fn := fun _ => fun
  | [d1, d2, d3] => { results := [.lit (.bool false)], args := [d1, d2, d3] }
  | _ => none }
def IpduHeadsWrongFalsely : Prop := ipduHeadsRow.holds Tryd.pinned (OpenSpec.ofChange ipduHeadsWrong)

/- THE SECOND FORM. 'bulk': how many values and letters a reading holds, each counted each time it is reached (what is shared counts as often as it is met; a slice's spare places count too). A statement '..UptoSaid' is the law's where the arguments, and the package variables that the reading takes, are together of bulk at most 1048576: NARROWER than '..Said'. Prove '..Said' where nothing that the law and all that it calls make is longer than what came in: it says more and counts as full. Else prove '..UptoSaid'. A law counts once. -/
mutual
def uptoBulk {H : Type} : DataW H → Nat
  | .lit (.string bytes) => bytes.length + 1
  | .lit _ => 1
  | .nil => 1
  | .ptr d => uptoBulk d + 1
  | .slice elems spare => uptoBulkAll elems + uptoBulkAll spare + 1
  | .agg parts => uptoBulkAll parts + 1
  | .iface _ d => uptoBulk d + 1
  | .map entries => uptoBulkEntries entries + 1
  | .held _ => 1
def uptoBulkAll {H : Type} : List (DataW H) → Nat
  | [] => 0
  | d :: r => uptoBulk d + uptoBulkAll r
def uptoBulkEntries {H : Type} : List (Lit × DataW H) → Nat
  | [] => 0
  | x :: r => uptoBulkEntry x + uptoBulkEntries r
def uptoBulkEntry {H : Type} : Lit × DataW H → Nat
  | (.string bytes, d) => bytes.length + uptoBulk d + 1
  | (_, d) => uptoBulk d + 1
 end
def uptoSmall : (H : Type) → List (DataW H) → Bool := fun _ ds => decide (uptoBulkAll ds ≤ 1048576)
def OpenSpec.upto (s : _root_.Go.ChangeSpec) : _root_.Go.OpenSpec := { _root_.Go.OpenSpec.ofChange s with cond := some uptoSmall }

/-- 'headgatelaw20.IpduPuts', WHERE WHAT IT READS IS OF BULK AT MOST 1048576: true; the input reads as it did. -/
def ipduPutsUptoRow : OpenClaim := { program := "ytcghbicjhngedaadoor", sum := "646f8ed7c316e960af67f1a130eb5ce0677f486e87ef8c6ce15e1f32ba8f1e4c", func := "headgate/headgatelaw20.IpduPuts", spec := "ipduPuts", unfollowed := true, recurses := true, named := ["headgate/crc.steps"], apart := false, laid := [("headgate/crc.steps", laid_headgate_crc_steps)], narrowed := true }
def IpduPutsUptoSaid : Prop := ipduPutsUptoRow.holds Tryd.pinned (OpenSpec.upto ipduPutsSpec)

/-- 'headgatelaw20.IpduGets', WHERE WHAT IT READS IS OF BULK AT MOST 1048576: true; the input reads as it did. -/
def ipduGetsUptoRow : OpenClaim := { program := "ytcghbicjhngedaadoor", sum := "646f8ed7c316e960af67f1a130eb5ce0677f486e87ef8c6ce15e1f32ba8f1e4c", func := "headgate/headgatelaw20.IpduGets", spec := "ipduGets", unfollowed := true, recurses := true, named := ["headgate/crc.steps"], apart := false, laid := [("headgate/crc.steps", laid_headgate_crc_steps)], narrowed := true }
def IpduGetsUptoSaid : Prop := ipduGetsUptoRow.holds Tryd.pinned (OpenSpec.upto ipduGetsSpec)

/-- 'headgatelaw20.IpduBack', WHERE WHAT IT READS IS OF BULK AT MOST 1048576: true; the input reads as it did. -/
def ipduBackUptoRow : OpenClaim := { program := "ytcghbicjhngedaadoor", sum := "646f8ed7c316e960af67f1a130eb5ce0677f486e87ef8c6ce15e1f32ba8f1e4c", func := "headgate/headgatelaw20.IpduBack", spec := "ipduBack", unfollowed := true, recurses := true, named := ["headgate/crc.steps"], apart := false, laid := [("headgate/crc.steps", laid_headgate_crc_steps)], narrowed := true }
def IpduBackUptoSaid : Prop := ipduBackUptoRow.holds Tryd.pinned (OpenSpec.upto ipduBackSpec)

/-- 'headgatelaw20.IpduTurned', WHERE WHAT IT READS IS OF BULK AT MOST 1048576: true; the input reads as it did. -/
def ipduTurnedUptoRow : OpenClaim := { program := "ytcghbicjhngedaadoor", sum := "646f8ed7c316e960af67f1a130eb5ce0677f486e87ef8c6ce15e1f32ba8f1e4c", func := "headgate/headgatelaw20.IpduTurned", spec := "ipduTurned", unfollowed := true, recurses := true, named := ["headgate/crc.steps"], apart := false, laid := [("headgate/crc.steps", laid_headgate_crc_steps)], narrowed := true }
def IpduTurnedUptoSaid : Prop := ipduTurnedUptoRow.holds Tryd.pinned (OpenSpec.upto ipduTurnedSpec)

/-- 'headgatelaw20.IpduStream', WHERE WHAT IT READS IS OF BULK AT MOST 1048576: true; the input reads as it did. -/
def ipduStreamUptoRow : OpenClaim := { program := "ytcghbicjhngedaadoor", sum := "646f8ed7c316e960af67f1a130eb5ce0677f486e87ef8c6ce15e1f32ba8f1e4c", func := "headgate/headgatelaw20.IpduStream", spec := "ipduStream", unfollowed := true, recurses := true, named := ["headgate/crc.steps"], apart := false, laid := [("headgate/crc.steps", laid_headgate_crc_steps)], narrowed := true }
def IpduStreamUptoSaid : Prop := ipduStreamUptoRow.holds Tryd.pinned (OpenSpec.upto ipduStreamSpec)

/-- 'headgatelaw20.IpduHeads', WHERE WHAT IT READS IS OF BULK AT MOST 1048576: true; the input reads as it did. -/
def ipduHeadsUptoRow : OpenClaim := { program := "ytcghbicjhngedaadoor", sum := "646f8ed7c316e960af67f1a130eb5ce0677f486e87ef8c6ce15e1f32ba8f1e4c", func := "headgate/headgatelaw20.IpduHeads", spec := "ipduHeads", unfollowed := true, recurses := true, named := ["headgate/crc.steps"], apart := false, laid := [("headgate/crc.steps", laid_headgate_crc_steps)], narrowed := true }
def IpduHeadsUptoSaid : Prop := ipduHeadsUptoRow.holds Tryd.pinned (OpenSpec.upto ipduHeadsSpec)

end Rows
end Go.Proofs.YtcghbicjhngedaaDoor

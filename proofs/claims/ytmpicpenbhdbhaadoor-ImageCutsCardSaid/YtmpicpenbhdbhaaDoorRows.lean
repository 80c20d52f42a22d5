/-
  NARROWER THAN 'FOR EVERY INPUT', by the rows' own cells (each row's printed sentence says how): ImageEncodes: laid · ImageDecodes: laid · ImageBack: laid · ImageCuts: laid · ImageApart: laid.
  DERIVED. THE GIVEN ROWS OF THIS SEAT. 5 by the template 'for every input the law returns true; each argument reads behind the call as it read before'; 0 by the template 'total and deterministic' (their statements: YtmpicpenbhdbhaaDoorTotals.lean).
  GIVEN WITH THE SEED: the statements are not yours to turn. If you find one false, say at which input.
  Laid BY PROGRAM, IN A SANDBOX (cutbox-rows.mjs): the forced cells as the released guide's own fill.sh prints them over the translation 94f340ac4c441b36… (all of the seat's roots in one cut). By AI agents, Wed Nov 11 2026. No macro, syntax, notation, axiom, sorry.
-/
import Derived.Test.YtmpicpenbhdbhaaDoorChecked
import GoSem.Claim
import GoSem.ClaimJoined
import GoSem.ClaimMapViews
import Derived.JoinedTies
import Derived.KernelRfl
namespace Go.Proofs.YtmpicpenbhdbhaaDoor
/- THE CELL 'sum', in the pinned program and in every row, IS THE sha256 OF THE DUMP (.gsa) THAT YtmpicpenbhdbhaaDoorProg.lean LOADS. Nothing in Lean hashes anything: it is a label: what it is worth is what the hold of that sum in a sandbox is worth. -/
noncomputable def Tryd.pinned : Pinned := { name := "ytmpicpenbhdbhaadoor", sum := "94f340ac4c441b361ecefc83fe1d6f1b1310945fd741f09e3878da1addf4a432", checked := Tryd.checked }
namespace Rows
def none {H : Type} : Left H := { results := [], args := [] }

/- WHAT THE LISTED PACKAGE-LEVEL VARIABLES READ AS WHEN THE CALL BEGINS. Each datum BY PROGRAM (the guide's laid-datum.mjs) off the statement by which the dump's own 'gosem.cut.vars' lays the variable. In a bare row this is a premise. The card (YtmpicpenbhdbhaaDoorCards.lean) ties it to the program's text. -/
def laid_headgate_crc_steps {H : Type} : DataW H := .agg [.lit (.int .u32 0), .lit (.int .u32 274646895), .lit (.int .u32 549293790), .lit (.int .u32 820201905), .lit (.int .u32 1098587580), .lit (.int .u32 1361435347), .lit (.int .u32 1640403810), .lit (.int .u32 1905808397), .lit (.int .u32 2197175160), .lit (.int .u32 2460548119), .lit (.int .u32 2722870694), .lit (.int .u32 2987750089), .lit (.int .u32 3280807620), .lit (.int .u32 3553878443), .lit (.int .u32 3811616794), .lit (.int .u32 4084100981)]

/-- 'headgatelaw12.ImageEncodes': WHATEVER THE INPUT: true; the input reads as it did. -/
def imageEncodesSpec : ChangeSpec := { name := "imageEncodes", fn := fun _ => fun
  | [d] => { results := [.lit (.bool true)], args := [d] }
  | _ => none }
def imageEncodesRow : OpenClaim := { program := "ytmpicpenbhdbhaadoor", sum := "94f340ac4c441b361ecefc83fe1d6f1b1310945fd741f09e3878da1addf4a432", func := "headgate/headgatelaw12.ImageEncodes", spec := "imageEncodes", unfollowed := true, recurses := true, named := ["headgate/crc.steps"], apart := false, laid := [("headgate/crc.steps", laid_headgate_crc_steps)] }
def ImageEncodesSaid : Prop := imageEncodesRow.holds Tryd.pinned (OpenSpec.ofChange imageEncodesSpec)

/-- ITS FALSE NEIGHBOUR: 'it returns false'. Refute it at one input. -/
def imageEncodesWrong : ChangeSpec := { name := "imageEncodes", fn := fun _ => fun
  | [d] => { results := [.lit (.bool false)], args := [d] }
  | _ => none }
def ImageEncodesWrongFalsely : Prop := imageEncodesRow.holds Tryd.pinned (OpenSpec.ofChange imageEncodesWrong)

/-- 'headgatelaw12.ImageDecodes': WHATEVER THE INPUT: true; the input reads as it did. -/
def imageDecodesSpec : ChangeSpec := { name := "imageDecodes", fn := fun _ => fun
  | [d] => { results := [.lit (.bool true)], args := [d] }
  | _ => none }
def imageDecodesRow : OpenClaim := { program := "ytmpicpenbhdbhaadoor", sum := "94f340ac4c441b361ecefc83fe1d6f1b1310945fd741f09e3878da1addf4a432", func := "headgate/headgatelaw12.ImageDecodes", spec := "imageDecodes", unfollowed := true, recurses := true, named := ["headgate/crc.steps"], apart := false, laid := [("headgate/crc.steps", laid_headgate_crc_steps)] }
def ImageDecodesSaid : Prop := imageDecodesRow.holds Tryd.pinned (OpenSpec.ofChange imageDecodesSpec)

/-- ITS FALSE NEIGHBOUR: 'it returns false'. Refute it at one input. -/
def imageDecodesWrong : ChangeSpec := { name := "imageDecodes", fn := fun _ => fun
  | [d] => { results := [.lit (.bool false)], args := [d] }
  | _ => none }
def ImageDecodesWrongFalsely : Prop := imageDecodesRow.holds Tryd.pinned (OpenSpec.ofChange imageDecodesWrong)

/-- 'headgatelaw12.ImageBack': WHATEVER THE INPUT: true; the input reads as it did. -/
def imageBackSpec : ChangeSpec := { name := "imageBack", fn := fun _ => fun
  | [d1, d2] => { results := [.lit (.bool true)], args := [d1, d2] }
  | _ => none }
def imageBackRow : OpenClaim := { program := "ytmpicpenbhdbhaadoor", sum := "94f340ac4c441b361ecefc83fe1d6f1b1310945fd741f09e3878da1addf4a432", func := "headgate/headgatelaw12.ImageBack", spec := "imageBack", unfollowed := true, recurses := true, named := ["headgate/crc.steps"], apart := false, laid := [("headgate/crc.steps", laid_headgate_crc_steps)] }
def ImageBackSaid : Prop := imageBackRow.holds Tryd.pinned (OpenSpec.ofChange imageBackSpec)

/-- ITS FALSE NEIGHBOUR: 'it returns false'. Refute it at one input. -/
def imageBackWrong : ChangeSpec := { name := "imageBack", fn := fun _ => fun
  | [d1, d2] => { results := [.lit (.bool false)], args := [d1, d2] }
  | _ => none }
def ImageBackWrongFalsely : Prop := imageBackRow.holds Tryd.pinned (OpenSpec.ofChange imageBackWrong)

/-- 'headgatelaw12.ImageCuts': WHATEVER THE INPUT: true; the input reads as it did. -/
def imageCutsSpec : ChangeSpec := { name := "imageCuts", fn := fun _ => fun
  | [d1, d2, d3] => { results := [.lit (.bool true)], args := [d1, d2, d3] }
  | _ => none }
def imageCutsRow : OpenClaim := { program := "ytmpicpenbhdbhaadoor", sum := "94f340ac4c441b361ecefc83fe1d6f1b1310945fd741f09e3878da1addf4a432", func := "headgate/headgatelaw12.ImageCuts", spec := "imageCuts", unfollowed := true, recurses := true, named := ["headgate/crc.steps"], apart := false, laid := [("headgate/crc.steps", laid_headgate_crc_steps)] }
def ImageCutsSaid : Prop := imageCutsRow.holds Tryd.pinned (OpenSpec.ofChange imageCutsSpec)

/-- ITS FALSE NEIGHBOUR: 'it returns false'. Refute it at one input. -/
def imageCutsWrong : ChangeSpec := { name := "imageCuts", fn := fun _ => fun
  | [d1, d2, d3] => { results := [.lit (.bool false)], args := [d1, d2, d3] }
  | _ => none }
def ImageCutsWrongFalsely : Prop := imageCutsRow.holds Tryd.pinned (OpenSpec.ofChange imageCutsWrong)

/-- 'headgatelaw12.ImageApart': WHATEVER THE INPUT: true; the input reads as it did. -/
def imageApartSpec : ChangeSpec := { name := "imageApart", fn := fun _ => fun
  | [d1, d2] => { results := [.lit (.bool true)], args := [d1, d2] }
  | _ => none }
def imageApartRow : OpenClaim := { program := "ytmpicpenbhdbhaadoor", sum := "94f340ac4c441b361ecefc83fe1d6f1b1310945fd741f09e3878da1addf4a432", func := "headgate/headgatelaw12.ImageApart", spec := "imageApart", unfollowed := true, recurses := true, named := ["headgate/crc.steps"], apart := false, laid := [("headgate/crc.steps", laid_headgate_crc_steps)] }
def ImageApartSaid : Prop := imageApartRow.holds Tryd.pinned (OpenSpec.ofChange imageApartSpec)

/-- ITS FALSE NEIGHBOUR: 'it returns false'. Refute it at one input. -/
def imageApartWrong : ChangeSpec := { name := "imageApart", fn := fun _ => fun
  | [d1, d2] => { results := [.lit (.bool false)], args := [d1, d2] }
  | _ => none }
def ImageApartWrongFalsely : Prop := imageApartRow.holds Tryd.pinned (OpenSpec.ofChange imageApartWrong)

/- THE SECOND FORM. 'bulk': how many values and letters a reading holds, each counted each time it is reached (what is shared counts as often as it is met; a slice's spare places count too). A statement '..UptoSaid' is the law's where the arguments, and the package variables that the reading takes, are together of bulk at most 1048576: NARROWER than '..Said'. Prove '..Said' where nothing that the law and all that it calls make is longer than what came in: it says more and counts as full. Else prove '..UptoSaid'. A law counts once. -/
mutual
def uptoBulk {H : Type} : DataW H → Nat
  | .lit (.string bytes) => bytes.length + 1
  | .lit _ => 1
  | .nil => 1
  | .ptr d => uptoBulk d + 1
  | .slice elems spare => uptoBulkAll elems + uptoBulkAll spare + 1
  | .agg parts => uptoBulkAll parts + 1
  | .iface _ d => uptoBulk d + 1
  | .map entries => uptoBulkEntries entries + 1
  | .held _ => 1
def uptoBulkAll {H : Type} : List (DataW H) → Nat
  | [] => 0
  | d :: r => uptoBulk d + uptoBulkAll r
def uptoBulkEntries {H : Type} : List (Lit × DataW H) → Nat
  | [] => 0
  | x :: r => uptoBulkEntry x + uptoBulkEntries r
def uptoBulkEntry {H : Type} : Lit × DataW H → Nat
  | (.string bytes, d) => bytes.length + uptoBulk d + 1
  | (_, d) => uptoBulk d + 1
 end
def uptoSmall : (H : Type) → List (DataW H) → Bool := fun _ ds => decide (uptoBulkAll ds ≤ 1048576)
def OpenSpec.upto (s : _root_.Go.ChangeSpec) : _root_.Go.OpenSpec := { _root_.Go.OpenSpec.ofChange s with cond := some uptoSmall }

/-- 'headgatelaw12.ImageEncodes', WHERE WHAT IT READS IS OF BULK AT MOST 1048576: true; the input reads as it did. -/
def imageEncodesUptoRow : OpenClaim := { program := "ytmpicpenbhdbhaadoor", sum := "94f340ac4c441b361ecefc83fe1d6f1b1310945fd741f09e3878da1addf4a432", func := "headgate/headgatelaw12.ImageEncodes", spec := "imageEncodes", unfollowed := true, recurses := true, named := ["headgate/crc.steps"], apart := false, laid := [("headgate/crc.steps", laid_headgate_crc_steps)], narrowed := true }
def ImageEncodesUptoSaid : Prop := imageEncodesUptoRow.holds Tryd.pinned (OpenSpec.upto imageEncodesSpec)

/-- 'headgatelaw12.ImageDecodes', WHERE WHAT IT READS IS OF BULK AT MOST 1048576: true; the input reads as it did. -/
def imageDecodesUptoRow : OpenClaim := { program := "ytmpicpenbhdbhaadoor", sum := "94f340ac4c441b361ecefc83fe1d6f1b1310945fd741f09e3878da1addf4a432", func := "headgate/headgatelaw12.ImageDecodes", spec := "imageDecodes", unfollowed := true, recurses := true, named := ["headgate/crc.steps"], apart := false, laid := [("headgate/crc.steps", laid_headgate_crc_steps)], narrowed := true }
def ImageDecodesUptoSaid : Prop := imageDecodesUptoRow.holds Tryd.pinned (OpenSpec.upto imageDecodesSpec)

/-- 'headgatelaw12.ImageBack', WHERE WHAT IT READS IS OF BULK AT MOST 1048576: true; the input reads as it did. -/
def imageBackUptoRow : OpenClaim := { program := "ytmpicpenbhdbhaadoor", sum := "94f340ac4c441b361ecefc83fe1d6f1b1310945fd741f09e3878da1addf4a432", func := "headgate/headgatelaw12.ImageBack", spec := "imageBack", unfollowed := true, recurses := true, named := ["headgate/crc.steps"], apart := false, laid := [("headgate/crc.steps", laid_headgate_crc_steps)], narrowed := true }
def ImageBackUptoSaid : Prop := imageBackUptoRow.holds Tryd.pinned (OpenSpec.upto imageBackSpec)

/-- 'headgatelaw12.ImageCuts', WHERE WHAT IT READS IS OF BULK AT MOST 1048576: true; the input reads as it did. -/
def imageCutsUptoRow : OpenClaim := { program := "ytmpicpenbhdbhaadoor", sum := "94f340ac4c441b361ecefc83fe1d6f1b1310945fd741f09e3878da1addf4a432", func := "headgate/headgatelaw12.ImageCuts", spec := "imageCuts", unfollowed := true, recurses := true, named := ["headgate/crc.steps"], apart := false, laid := [("headgate/crc.steps", laid_headgate_crc_steps)], narrowed := true }
def ImageCutsUptoSaid : Prop := imageCutsUptoRow.holds Tryd.pinned (OpenSpec.upto imageCutsSpec)

/-- 'headgatelaw12.ImageApart', WHERE WHAT IT READS IS OF BULK AT MOST 1048576: true; the input reads as it did. -/
def imageApartUptoRow : OpenClaim := { program := "ytmpicpenbhdbhaadoor", sum := "94f340ac4c441b361ecefc83fe1d6f1b1310945fd741f09e3878da1addf4a432", func := "headgate/headgatelaw12.ImageApart", spec := "imageApart", unfollowed := true, recurses := true, named := ["headgate/crc.steps"], apart := false, laid := [("headgate/crc.steps", laid_headgate_crc_steps)], narrowed := true }
def ImageApartUptoSaid : Prop := imageApartUptoRow.holds Tryd.pinned (OpenSpec.upto imageApartSpec)

end Rows
end Go.Proofs.YtmpicpenbhdbhaaDoor

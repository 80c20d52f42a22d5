/-
  NARROWER THAN 'FOR EVERY INPUT', by the rows' own cells (each row's printed sentence says how): ResvDoes: laid · ResvKeeps: laid · ResvPlays: laid · ResvStruck: laid · ResvTwice: laid · ResvGoods: laid · ResvFences: laid · ResvClears: laid.
  DERIVED. THE GIVEN ROWS OF THIS SEAT. 8 by the template 'for every input the law returns true; each argument reads behind the call as it read before'; 0 by the template 'total and deterministic' (their statements: YtjogkfcjlljjcaaDoorTotals.lean).
  GIVEN WITH THE SEED: the statements are not yours to turn. If you find one false, say at which input.
  Laid BY PROGRAM, IN A SANDBOX (cutbox-rows.mjs): the forced cells as the released guide's own fill.sh prints them over the translation 674a2813b27a4dee… (all of the seat's roots in one cut). By AI agents, Wed Nov 11 2026. No macro, syntax, notation, axiom, sorry.
-/
import Derived.Test.YtjogkfcjlljjcaaDoorChecked
import GoSem.Claim
import GoSem.ClaimJoined
import GoSem.ClaimMapViews
import Derived.JoinedTies
import Derived.KernelRfl
namespace Go.Proofs.YtjogkfcjlljjcaaDoor
/- THE CELL 'sum', in the pinned program and in every row, IS THE sha256 OF THE DUMP (.gsa) THAT YtjogkfcjlljjcaaDoorProg.lean LOADS. Nothing in Lean hashes anything: it is a label: what it is worth is what the hold of that sum in a sandbox is worth. -/
noncomputable def Tryd.pinned : Pinned := { name := "ytjogkfcjlljjcaadoor", sum := "674a2813b27a4deeaee6690b1330c774edb9e80141ec5843c839ddad72a9039b", checked := Tryd.checked }
namespace Rows
def none {H : Type} : Left H := { results := [], args := [] }

/- WHAT THE LISTED PACKAGE-LEVEL VARIABLES READ AS WHEN THE CALL BEGINS. Each datum BY PROGRAM (the guide's laid-datum.mjs) off the statement by which the dump's own 'gosem.cut.vars' lays the variable. In a bare row this is a premise. The card (YtjogkfcjlljjcaaDoorCards.lean) ties it to the program's text. -/
def laid_headgate_access_lets {H : Type} : DataW H := .agg [.lit (.int .i64 0), .lit (.int .i64 1), .lit (.int .i64 0), .lit (.int .i64 5), .lit (.int .i64 6), .lit (.int .i64 13), .lit (.int .i64 14)]

/-- 'headgatelaw11.ResvDoes': WHATEVER THE INPUT: true; the input reads as it did. -/
def resvDoesSpec : ChangeSpec := { name := "resvDoes", fn := fun _ => fun
  | [d1, d2] => { results := [.lit (.bool true)], args := [d1, d2] }
  | _ => none }
def resvDoesRow : OpenClaim := { program := "ytjogkfcjlljjcaadoor", sum := "674a2813b27a4deeaee6690b1330c774edb9e80141ec5843c839ddad72a9039b", func := "headgate/headgatelaw11.ResvDoes", spec := "resvDoes", unfollowed := true, recurses := true, named := ["headgate/access.lets"], apart := false, laid := [("headgate/access.lets", laid_headgate_access_lets)] }
def ResvDoesSaid : Prop := resvDoesRow.holds Tryd.pinned (OpenSpec.ofChange resvDoesSpec)

/-- ITS FALSE NEIGHBOUR: 'it returns false'. Refute it at one input. -/
def resvDoesWrong : ChangeSpec := { name := "resvDoes", fn := fun _ => fun
  | [d1, d2] => { results := [.lit (.bool false)], args := [d1, d2] }
  | _ => none }
def ResvDoesWrongFalsely : Prop := resvDoesRow.holds Tryd.pinned (OpenSpec.ofChange resvDoesWrong)

/-- 'headgatelaw11.ResvKeeps': WHATEVER THE INPUT: true; the input reads as it did. -/
def resvKeepsSpec : ChangeSpec := { name := "resvKeeps", fn := fun _ => fun
  | [d1, d2] => { results := [.lit (.bool true)], args := [d1, d2] }
  | _ => none }
def resvKeepsRow : OpenClaim := { program := "ytjogkfcjlljjcaadoor", sum := "674a2813b27a4deeaee6690b1330c774edb9e80141ec5843c839ddad72a9039b", func := "headgate/headgatelaw11.ResvKeeps", spec := "resvKeeps", unfollowed := true, recurses := true, named := ["headgate/access.lets"], apart := false, laid := [("headgate/access.lets", laid_headgate_access_lets)] }
def ResvKeepsSaid : Prop := resvKeepsRow.holds Tryd.pinned (OpenSpec.ofChange resvKeepsSpec)

/-- ITS FALSE NEIGHBOUR: 'it returns false'. Refute it at one input. -/
def resvKeepsWrong : ChangeSpec := { name := "resvKeeps", fn := fun _ => fun
  | [d1, d2] => { results := [.lit (.bool false)], args := [d1, d2] }
  | _ => none }
def ResvKeepsWrongFalsely : Prop := resvKeepsRow.holds Tryd.pinned (OpenSpec.ofChange resvKeepsWrong)

/-- 'headgatelaw11.ResvPlays': WHATEVER THE INPUT: true; the input reads as it did. -/
def resvPlaysSpec : ChangeSpec := { name := "resvPlays", fn := fun _ => fun
  | [d] => { results := [.lit (.bool true)], args := [d] }
  | _ => none }
def resvPlaysRow : OpenClaim := { program := "ytjogkfcjlljjcaadoor", sum := "674a2813b27a4deeaee6690b1330c774edb9e80141ec5843c839ddad72a9039b", func := "headgate/headgatelaw11.ResvPlays", spec := "resvPlays", unfollowed := true, recurses := true, named := ["headgate/access.lets"], apart := false, laid := [("headgate/access.lets", laid_headgate_access_lets)] }
def ResvPlaysSaid : Prop := resvPlaysRow.holds Tryd.pinned (OpenSpec.ofChange resvPlaysSpec)

/-- ITS FALSE NEIGHBOUR: 'it returns false'. Refute it at one input. -/
def resvPlaysWrong : ChangeSpec := { name := "resvPlays", fn := fun _ => fun
  | [d] => { results := [.lit (.bool false)], args := [d] }
  | _ => none }
def ResvPlaysWrongFalsely : Prop := resvPlaysRow.holds Tryd.pinned (OpenSpec.ofChange resvPlaysWrong)

/-- 'headgatelaw11.ResvStruck': WHATEVER THE INPUT: true; the input reads as it did. -/
def resvStruckSpec : ChangeSpec := { name := "resvStruck", fn := fun _ => fun
  | [d1, d2, d3] => { results := [.lit (.bool true)], args := [d1, d2, d3] }
  | _ => none }
def resvStruckRow : OpenClaim := { program := "ytjogkfcjlljjcaadoor", sum := "674a2813b27a4deeaee6690b1330c774edb9e80141ec5843c839ddad72a9039b", func := "headgate/headgatelaw11.ResvStruck", spec := "resvStruck", unfollowed := true, recurses := true, named := ["headgate/access.lets"], apart := false, laid := [("headgate/access.lets", laid_headgate_access_lets)] }
def ResvStruckSaid : Prop := resvStruckRow.holds Tryd.pinned (OpenSpec.ofChange resvStruckSpec)

/-- ITS FALSE NEIGHBOUR: 'it returns false'. Refute it at one input. -/
def resvStruckWrong : ChangeSpec := { name := "resvStruck", fn := fun _ => fun
  | [d1, d2, d3] => { results := [.lit (.bool false)], args := [d1, d2, d3] }
  | _ => none }
def ResvStruckWrongFalsely : Prop := resvStruckRow.holds Tryd.pinned (OpenSpec.ofChange resvStruckWrong)

/-- 'headgatelaw11.ResvTwice': WHATEVER THE INPUT: true; the input reads as it did. -/
def resvTwiceSpec : ChangeSpec := { name := "resvTwice", fn := fun _ => fun
  | [d1, d2, d3] => { results := [.lit (.bool true)], args := [d1, d2, d3] }
  | _ => none }
def resvTwiceRow : OpenClaim := { program := "ytjogkfcjlljjcaadoor", sum := "674a2813b27a4deeaee6690b1330c774edb9e80141ec5843c839ddad72a9039b", func := "headgate/headgatelaw11.ResvTwice", spec := "resvTwice", unfollowed := true, recurses := true, named := ["headgate/access.lets"], apart := false, laid := [("headgate/access.lets", laid_headgate_access_lets)] }
def ResvTwiceSaid : Prop := resvTwiceRow.holds Tryd.pinned (OpenSpec.ofChange resvTwiceSpec)

/-- ITS FALSE NEIGHBOUR: 'it returns false'. Refute it at one input. -/
def resvTwiceWrong : ChangeSpec := { name := "resvTwice", fn := fun _ => fun
  | [d1, d2, d3] => { results := [.lit (.bool false)], args := [d1, d2, d3] }
  | _ => none }
def ResvTwiceWrongFalsely : Prop := resvTwiceRow.holds Tryd.pinned (OpenSpec.ofChange resvTwiceWrong)

/-- 'headgatelaw11.ResvGoods': WHATEVER THE INPUT: true; the input reads as it did. -/
def resvGoodsSpec : ChangeSpec := { name := "resvGoods", fn := fun _ => fun
  | [d1, d2] => { results := [.lit (.bool true)], args := [d1, d2] }
  | _ => none }
def resvGoodsRow : OpenClaim := { program := "ytjogkfcjlljjcaadoor", sum := "674a2813b27a4deeaee6690b1330c774edb9e80141ec5843c839ddad72a9039b", func := "headgate/headgatelaw11.ResvGoods", spec := "resvGoods", unfollowed := true, recurses := true, named := ["headgate/access.lets"], apart := false, laid := [("headgate/access.lets", laid_headgate_access_lets)] }
def ResvGoodsSaid : Prop := resvGoodsRow.holds Tryd.pinned (OpenSpec.ofChange resvGoodsSpec)

/-- ITS FALSE NEIGHBOUR: 'it returns false'. Refute it at one input. -/
def resvGoodsWrong : ChangeSpec := { name := "resvGoods", fn := fun _ => fun
  | [d1, d2] => { results := [.lit (.bool false)], args := [d1, d2] }
  | _ => none }
def ResvGoodsWrongFalsely : Prop := resvGoodsRow.holds Tryd.pinned (OpenSpec.ofChange resvGoodsWrong)

/-- 'headgatelaw11.ResvFences': WHATEVER THE INPUT: true; the input reads as it did. -/
def resvFencesSpec : ChangeSpec := { name := "resvFences", fn := fun _ => fun
  | [d1, d2, d3] => { results := [.lit (.bool true)], args := [d1, d2, d3] }
  | _ => none }
def resvFencesRow : OpenClaim := { program := "ytjogkfcjlljjcaadoor", sum := "674a2813b27a4deeaee6690b1330c774edb9e80141ec5843c839ddad72a9039b", func := "headgate/headgatelaw11.ResvFences", spec := "resvFences", unfollowed := true, recurses := true, named := ["headgate/access.lets"], apart := false, laid := [("headgate/access.lets", laid_headgate_access_lets)] }
def ResvFencesSaid : Prop := resvFencesRow.holds Tryd.pinned (OpenSpec.ofChange resvFencesSpec)

/-- ITS FALSE NEIGHBOUR: 'it returns false'. Refute it at one input. -/
def resvFencesWrong : ChangeSpec := { name := "resvFences", fn := fun _ => fun
  | [d1, d2, d3] => { results := [.lit (.bool false)], args := [d1, d2, d3] }
  | _ => none }
def ResvFencesWrongFalsely : Prop := resvFencesRow.holds Tryd.pinned (OpenSpec.ofChange resvFencesWrong)

/-- 'headgatelaw11.ResvClears': WHATEVER THE INPUT: true; the input reads as it did. -/
def resvClearsSpec : ChangeSpec := { name := "resvClears", fn := fun _ => fun
  | [d1, d2, d3] => { results := [.lit (.bool true)], args := [d1, d2, d3] }
  | _ => none }
def resvClearsRow : OpenClaim := { program := "ytjogkfcjlljjcaadoor", sum := "674a2813b27a4deeaee6690b1330c774edb9e80141ec5843c839ddad72a9039b", func := "headgate/headgatelaw11.ResvClears", spec := "resvClears", unfollowed := true, recurses := true, named := ["headgate/access.lets"], apart := false, laid := [("headgate/access.lets", laid_headgate_access_lets)] }
def ResvClearsSaid : Prop := resvClearsRow.holds Tryd.pinned (OpenSpec.ofChange resvClearsSpec)

/-- ITS FALSE NEIGHBOUR: 'it returns false'. Refute it at one input. -/
def resvClearsWrong : ChangeSpec := { name := "resvClears", fn := fun _ => fun
  | [d1, d2, d3] => { results := [.lit (.bool false)], args := [d1, d2, d3] }
  | _ => none }
def ResvClearsWrongFalsely : Prop := resvClearsRow.holds Tryd.pinned (OpenSpec.ofChange resvClearsWrong)

/- THE SECOND FORM. 'bulk': how many values and letters a reading holds, each counted each time it is reached (what is shared counts as often as it is met; a slice's spare places count too). A statement '..UptoSaid' is the law's where the arguments, and the package variables that the reading takes, are together of bulk at most 1048576: NARROWER than '..Said'. Prove '..Said' where nothing that the law and all that it calls make is longer than what came in: it says more and counts as full. Else prove '..UptoSaid'. A law counts once. -/
mutual
def uptoBulk {H : Type} : DataW H → Nat
  | .lit (.string bytes) => bytes.length + 1
  | .lit _ => 1
  | .nil => 1
  | .ptr d => uptoBulk d + 1
  | .slice elems spare => uptoBulkAll elems + uptoBulkAll spare + 1
  | .agg parts => uptoBulkAll parts + 1
  | .iface _ d => uptoBulk d + 1
  | .map entries => uptoBulkEntries entries + 1
  | .held _ => 1
def uptoBulkAll {H : Type} : List (DataW H) → Nat
  | [] => 0
  | d :: r => uptoBulk d + uptoBulkAll r
def uptoBulkEntries {H : Type} : List (Lit × DataW H) → Nat
  | [] => 0
  | x :: r => uptoBulkEntry x + uptoBulkEntries r
def uptoBulkEntry {H : Type} : Lit × DataW H → Nat
  | (.string bytes, d) => bytes.length + uptoBulk d + 1
  | (_, d) => uptoBulk d + 1
 end
def uptoSmall : (H : Type) → List (DataW H) → Bool := fun _ ds => decide (uptoBulkAll ds ≤ 1048576)
def OpenSpec.upto (s : _root_.Go.ChangeSpec) : _root_.Go.OpenSpec := { _root_.Go.OpenSpec.ofChange s with cond := some uptoSmall }

/-- 'headgatelaw11.ResvDoes', WHERE WHAT IT READS IS OF BULK AT MOST 1048576: true; the input reads as it did. -/
def resvDoesUptoRow : OpenClaim := { program := "ytjogkfcjlljjcaadoor", sum := "674a2813b27a4deeaee6690b1330c774edb9e80141ec5843c839ddad72a9039b", func := "headgate/headgatelaw11.ResvDoes", spec := "resvDoes", unfollowed := true, recurses := true, named := ["headgate/access.lets"], apart := false, laid := [("headgate/access.lets", laid_headgate_access_lets)], narrowed := true }
def ResvDoesUptoSaid : Prop := resvDoesUptoRow.holds Tryd.pinned (OpenSpec.upto resvDoesSpec)

/-- 'headgatelaw11.ResvKeeps', WHERE WHAT IT READS IS OF BULK AT MOST 1048576: true; the input reads as it did. -/
def resvKeepsUptoRow : OpenClaim := { program := "ytjogkfcjlljjcaadoor", sum := "674a2813b27a4deeaee6690b1330c774edb9e80141ec5843c839ddad72a9039b", func := "headgate/headgatelaw11.ResvKeeps", spec := "resvKeeps", unfollowed := true, recurses := true, named := ["headgate/access.lets"], apart := false, laid := [("headgate/access.lets", laid_headgate_access_lets)], narrowed := true }
def ResvKeepsUptoSaid : Prop := resvKeepsUptoRow.holds Tryd.pinned (OpenSpec.upto resvKeepsSpec)

/-- 'headgatelaw11.ResvPlays', WHERE WHAT IT READS IS OF BULK AT MOST 1048576: true; the input reads as it did. -/
def resvPlaysUptoRow : OpenClaim := { program := "ytjogkfcjlljjcaadoor", sum := "674a2813b27a4deeaee6690b1330c774edb9e80141ec5843c839ddad72a9039b", func := "headgate/headgatelaw11.ResvPlays", spec := "resvPlays", unfollowed := true, recurses := true, named := ["headgate/access.lets"], apart := false, laid := [("headgate/access.lets", laid_headgate_access_lets)], narrowed := true }
def ResvPlaysUptoSaid : Prop := resvPlaysUptoRow.holds Tryd.pinned (OpenSpec.upto resvPlaysSpec)

/-- 'headgatelaw11.ResvStruck', WHERE WHAT IT READS IS OF BULK AT MOST 1048576: true; the input reads as it did. -/
def resvStruckUptoRow : OpenClaim := { program := "ytjogkfcjlljjcaadoor", sum := "674a2813b27a4deeaee6690b1330c774edb9e80141ec5843c839ddad72a9039b", func := "headgate/headgatelaw11.ResvStruck", spec := "resvStruck", unfollowed := true, recurses := true, named := ["headgate/access.lets"], apart := false, laid := [("headgate/access.lets", laid_headgate_access_lets)], narrowed := true }
def ResvStruckUptoSaid : Prop := resvStruckUptoRow.holds Tryd.pinned (OpenSpec.upto resvStruckSpec)

/-- 'headgatelaw11.ResvTwice', WHERE WHAT IT READS IS OF BULK AT MOST 1048576: true; the input reads as it did. -/
def resvTwiceUptoRow : OpenClaim := { program := "ytjogkfcjlljjcaadoor", sum := "674a2813b27a4deeaee6690b1330c774edb9e80141ec5843c839ddad72a9039b", func := "headgate/headgatelaw11.ResvTwice", spec := "resvTwice", unfollowed := true, recurses := true, named := ["headgate/access.lets"], apart := false, laid := [("headgate/access.lets", laid_headgate_access_lets)], narrowed := true }
def ResvTwiceUptoSaid : Prop := resvTwiceUptoRow.holds Tryd.pinned (OpenSpec.upto resvTwiceSpec)

/-- 'headgatelaw11.ResvGoods', WHERE WHAT IT READS IS OF BULK AT MOST 1048576: true; the input reads as it did. -/
def resvGoodsUptoRow : OpenClaim := { program := "ytjogkfcjlljjcaadoor", sum := "674a2813b27a4deeaee6690b1330c774edb9e80141ec5843c839ddad72a9039b", func := "headgate/headgatelaw11.ResvGoods", spec := "resvGoods", unfollowed := true, recurses := true, named := ["headgate/access.lets"], apart := false, laid := [("headgate/access.lets", laid_headgate_access_lets)], narrowed := true }
def ResvGoodsUptoSaid : Prop := resvGoodsUptoRow.holds Tryd.pinned (OpenSpec.upto resvGoodsSpec)

/-- 'headgatelaw11.ResvFences', WHERE WHAT IT READS IS OF BULK AT MOST 1048576: true; the input reads as it did. -/
def resvFencesUptoRow : OpenClaim := { program := "ytjogkfcjlljjcaadoor", sum := "674a2813b27a4deeaee6690b1330c774edb9e80141ec5843c839ddad72a9039b", func := "headgate/headgatelaw11.ResvFences", spec := "resvFences", unfollowed := true, recurses := true, named := ["headgate/access.lets"], apart := false, laid := [("headgate/access.lets", laid_headgate_access_lets)], narrowed := true }
def ResvFencesUptoSaid : Prop := resvFencesUptoRow.holds Tryd.pinned (OpenSpec.upto resvFencesSpec)

/-- 'headgatelaw11.ResvClears', WHERE WHAT IT READS IS OF BULK AT MOST 1048576: true; the input reads as it did. -/
def resvClearsUptoRow : OpenClaim := { program := "ytjogkfcjlljjcaadoor", sum := "674a2813b27a4deeaee6690b1330c774edb9e80141ec5843c839ddad72a9039b", func := "headgate/headgatelaw11.ResvClears", spec := "resvClears", unfollowed := true, recurses := true, named := ["headgate/access.lets"], apart := false, laid := [("headgate/access.lets", laid_headgate_access_lets)], narrowed := true }
def ResvClearsUptoSaid : Prop := resvClearsUptoRow.holds Tryd.pinned (OpenSpec.upto resvClearsSpec)

end Rows
end Go.Proofs.YtjogkfcjlljjcaaDoor

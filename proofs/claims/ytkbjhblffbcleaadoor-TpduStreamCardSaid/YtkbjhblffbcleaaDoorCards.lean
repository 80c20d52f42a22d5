/-
  DERIVED. GIVEN WITH THE SEED: THE CARDS: each row of YtkbjhblffbcleaaDoorRows.lean that lists a variable, with what it lists TIED to the program's text (the seventh form; the later family's looks); each row that meets fmt, with fmt's text TOLD by the authors' own Lean function (tested against real Go, not proved from fmt's source: count such statements apart). THE CARD IS WHAT COUNTS. Prove the row's statement (the work); the ties are given (YtkbjhblffbcleaaDoorTie.lean); close each card by the builder's one call (the guide's Derived/Test/ToyasCard.lean, 'card_holds'). Laid BY PROGRAM, IN A SANDBOX (cutbox-door.mjs). By AI agents, Wed Nov 11 2026. No macro, syntax, notation, axiom, sorry.
-/
import Derived.Test.YtkbjhblffbcleaaDoorRows
import GoSem.ClaimSeven
namespace Go.Proofs.YtkbjhblffbcleaaDoor
namespace Rows

/-- THE TIED CARD OF 'headgatelaw29.TpduGets'. -/
def tpduGetsCard : Claim7 := { stood := { row := tpduGetsRow, standIns := [], harness := (true, "eb35876e2ec2ef4051caaf8fe67bce2d9b9b2a01d14ffa54142baa60b8ef802c"), looks := false }, kinds := [], alts := [], laidByText := true, laidKinds := [.data, .data], laidTests := true, laidLooks := .later }
def TpduGetsCardSaid : Prop := Claim7.holds Tryd.pinned (.plain (OpenSpec.ofChange tpduGetsSpec)) tpduGetsCard

/-- THE TIED CARD OF 'headgatelaw29.TpduBack'. -/
def tpduBackCard : Claim7 := { stood := { row := tpduBackRow, standIns := [], harness := (true, "eb35876e2ec2ef4051caaf8fe67bce2d9b9b2a01d14ffa54142baa60b8ef802c"), looks := false }, kinds := [], alts := [], laidByText := true, laidKinds := [.data, .data], laidTests := true, laidLooks := .later }
def TpduBackCardSaid : Prop := Claim7.holds Tryd.pinned (.plain (OpenSpec.ofChange tpduBackSpec)) tpduBackCard

/-- THE TIED CARD OF 'headgatelaw29.TpduStream'. -/
def tpduStreamCard : Claim7 := { stood := { row := tpduStreamRow, standIns := [], harness := (true, "eb35876e2ec2ef4051caaf8fe67bce2d9b9b2a01d14ffa54142baa60b8ef802c"), looks := false }, kinds := [], alts := [], laidByText := true, laidKinds := [.data, .data], laidTests := true, laidLooks := .later }
def TpduStreamCardSaid : Prop := Claim7.holds Tryd.pinned (.plain (OpenSpec.ofChange tpduStreamSpec)) tpduStreamCard

/-- THE TIED CARD OF 'headgatelaw29.TpduPuts'. -/
def tpduPutsCard : Claim7 := { stood := { row := tpduPutsRow, standIns := [], harness := (true, "eb35876e2ec2ef4051caaf8fe67bce2d9b9b2a01d14ffa54142baa60b8ef802c"), looks := false }, kinds := [], alts := [], laidByText := true, laidKinds := [.data, .data], laidTests := true, laidLooks := .later }
def TpduPutsCardSaid : Prop := Claim7.holds Tryd.pinned (.plain (OpenSpec.ofChange tpduPutsSpec)) tpduPutsCard

/-- THE TIED CARD OF 'headgatelaw29.TpduTurned'. -/
def tpduTurnedCard : Claim7 := { stood := { row := tpduTurnedRow, standIns := [], harness := (true, "eb35876e2ec2ef4051caaf8fe67bce2d9b9b2a01d14ffa54142baa60b8ef802c"), looks := false }, kinds := [], alts := [], laidByText := true, laidKinds := [.data, .data], laidTests := true, laidLooks := .later }
def TpduTurnedCardSaid : Prop := Claim7.holds Tryd.pinned (.plain (OpenSpec.ofChange tpduTurnedSpec)) tpduTurnedCard

/-- THE SECOND FORM's CARD OF 'headgatelaw29.TpduGets'. -/
def tpduGetsUptoCard : Claim7 := { stood := { row := tpduGetsUptoRow, standIns := [], harness := (true, "eb35876e2ec2ef4051caaf8fe67bce2d9b9b2a01d14ffa54142baa60b8ef802c"), looks := false }, kinds := [], alts := [], laidByText := true, laidKinds := [.data, .data], laidTests := true, laidLooks := .later }
def TpduGetsUptoCardSaid : Prop := Claim7.holds Tryd.pinned (.plain (OpenSpec.upto tpduGetsSpec)) tpduGetsUptoCard

/-- THE SECOND FORM's CARD OF 'headgatelaw29.TpduBack'. -/
def tpduBackUptoCard : Claim7 := { stood := { row := tpduBackUptoRow, standIns := [], harness := (true, "eb35876e2ec2ef4051caaf8fe67bce2d9b9b2a01d14ffa54142baa60b8ef802c"), looks := false }, kinds := [], alts := [], laidByText := true, laidKinds := [.data, .data], laidTests := true, laidLooks := .later }
def TpduBackUptoCardSaid : Prop := Claim7.holds Tryd.pinned (.plain (OpenSpec.upto tpduBackSpec)) tpduBackUptoCard

/-- THE SECOND FORM's CARD OF 'headgatelaw29.TpduStream'. -/
def tpduStreamUptoCard : Claim7 := { stood := { row := tpduStreamUptoRow, standIns := [], harness := (true, "eb35876e2ec2ef4051caaf8fe67bce2d9b9b2a01d14ffa54142baa60b8ef802c"), looks := false }, kinds := [], alts := [], laidByText := true, laidKinds := [.data, .data], laidTests := true, laidLooks := .later }
def TpduStreamUptoCardSaid : Prop := Claim7.holds Tryd.pinned (.plain (OpenSpec.upto tpduStreamSpec)) tpduStreamUptoCard

/-- THE SECOND FORM's CARD OF 'headgatelaw29.TpduPuts'. -/
def tpduPutsUptoCard : Claim7 := { stood := { row := tpduPutsUptoRow, standIns := [], harness := (true, "eb35876e2ec2ef4051caaf8fe67bce2d9b9b2a01d14ffa54142baa60b8ef802c"), looks := false }, kinds := [], alts := [], laidByText := true, laidKinds := [.data, .data], laidTests := true, laidLooks := .later }
def TpduPutsUptoCardSaid : Prop := Claim7.holds Tryd.pinned (.plain (OpenSpec.upto tpduPutsSpec)) tpduPutsUptoCard

/-- THE SECOND FORM's CARD OF 'headgatelaw29.TpduTurned'. -/
def tpduTurnedUptoCard : Claim7 := { stood := { row := tpduTurnedUptoRow, standIns := [], harness := (true, "eb35876e2ec2ef4051caaf8fe67bce2d9b9b2a01d14ffa54142baa60b8ef802c"), looks := false }, kinds := [], alts := [], laidByText := true, laidKinds := [.data, .data], laidTests := true, laidLooks := .later }
def TpduTurnedUptoCardSaid : Prop := Claim7.holds Tryd.pinned (.plain (OpenSpec.upto tpduTurnedSpec)) tpduTurnedUptoCard
end Rows
end Go.Proofs.YtkbjhblffbcleaaDoor

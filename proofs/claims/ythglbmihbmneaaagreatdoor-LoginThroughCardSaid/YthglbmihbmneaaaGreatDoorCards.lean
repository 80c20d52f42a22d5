/-
  DERIVED. GIVEN WITH THE SEED: THE CARDS: each row of YthglbmihbmneaaaGreatDoorRows.lean that lists a variable, with what it lists TIED to the program's text (the seventh form; the later family's looks); each row that meets fmt, with fmt's text TOLD by the authors' own Lean function (tested against real Go, not proved from fmt's source: count such statements apart). THE CARD IS WHAT COUNTS. Prove the row's statement (the work); the ties are given (YthglbmihbmneaaaGreatDoorTie.lean); close each card by the builder's one call (the guide's Derived/Test/ToyasCard.lean, 'card_holds'). Laid BY PROGRAM, IN A SANDBOX (cutbox-door.mjs). By AI agents, Wed Nov 11 2026. No macro, syntax, notation, axiom, sorry.
-/
import Derived.Test.YthglbmihbmneaaaGreatDoorRows
import GoSem.ClaimSeven
namespace Go.Proofs.YthglbmihbmneaaaGreatDoor
namespace Rows

/-- THE TIED CARD OF 'headgatelaw22.LoginPlays'. -/
def loginPlaysCard : Claim7 := { stood := { row := loginPlaysRow, standIns := [], harness := (true, "96f63428c8e2a2378f24f1ee551d1e2575465210b2880d90bd9db16791091d4a"), looks := true }, kinds := [], alts := [], laidByText := true, laidKinds := [.data, .data, .data, .data, .handle, .sentinel, .sentinel, .pinned], laidTests := true, laidLooks := .later }
def LoginPlaysCardSaid : Prop := Claim7.holds Tryz.pinned (.plain (OpenSpec.ofChange loginPlaysSpec)) loginPlaysCard

/-- THE TIED CARD OF 'headgatelaw22.LoginThrough'. -/
def loginThroughCard : Claim7 := { stood := { row := loginThroughRow, standIns := [], harness := (true, "96f63428c8e2a2378f24f1ee551d1e2575465210b2880d90bd9db16791091d4a"), looks := true }, kinds := [], alts := [], laidByText := true, laidKinds := [.data, .data, .data, .data, .handle, .sentinel, .sentinel, .pinned], laidTests := true, laidLooks := .later }
def LoginThroughCardSaid : Prop := Claim7.holds Tryz.pinned (.plain (OpenSpec.ofChange loginThroughSpec)) loginThroughCard

/-- THE SECOND FORM's CARD OF 'headgatelaw22.LoginPlays'. -/
def loginPlaysUptoCard : Claim7 := { stood := { row := loginPlaysUptoRow, standIns := [], harness := (true, "96f63428c8e2a2378f24f1ee551d1e2575465210b2880d90bd9db16791091d4a"), looks := true }, kinds := [], alts := [], laidByText := true, laidKinds := [.data, .data, .data, .data, .handle, .sentinel, .sentinel, .pinned], laidTests := true, laidLooks := .later }
def LoginPlaysUptoCardSaid : Prop := Claim7.holds Tryz.pinned (.plain (OpenSpec.upto loginPlaysSpec)) loginPlaysUptoCard

/-- THE SECOND FORM's CARD OF 'headgatelaw22.LoginThrough'. -/
def loginThroughUptoCard : Claim7 := { stood := { row := loginThroughUptoRow, standIns := [], harness := (true, "96f63428c8e2a2378f24f1ee551d1e2575465210b2880d90bd9db16791091d4a"), looks := true }, kinds := [], alts := [], laidByText := true, laidKinds := [.data, .data, .data, .data, .handle, .sentinel, .sentinel, .pinned], laidTests := true, laidLooks := .later }
def LoginThroughUptoCardSaid : Prop := Claim7.holds Tryz.pinned (.plain (OpenSpec.upto loginThroughSpec)) loginThroughUptoCard
end Rows
end Go.Proofs.YthglbmihbmneaaaGreatDoor

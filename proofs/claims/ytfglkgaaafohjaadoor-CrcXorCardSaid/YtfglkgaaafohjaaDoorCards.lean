/-
  DERIVED. GIVEN WITH THE SEED: THE CARDS: each row of YtfglkgaaafohjaaDoorRows.lean that lists a variable, with what it lists TIED to the program's text (the seventh form; the later family's looks); each row that meets fmt, with fmt's text TOLD by the authors' own Lean function (tested against real Go, not proved from fmt's source: count such statements apart). THE CARD IS WHAT COUNTS. Prove the row's statement (the work); the ties are given (YtfglkgaaafohjaaDoorTie.lean); close each card by the builder's one call (the guide's Derived/Test/ToyasCard.lean, 'card_holds'). Laid BY PROGRAM, IN A SANDBOX (cutbox-door.mjs). By AI agents, Wed Nov 11 2026. No macro, syntax, notation, axiom, sorry.
-/
import Derived.Test.YtfglkgaaafohjaaDoorRows
import GoSem.ClaimSeven
namespace Go.Proofs.YtfglkgaaafohjaaDoor
namespace Rows

/-- THE TIED CARD OF 'headgatelaw02.CrcSums'. -/
def crcSumsCard : Claim7 := { stood := { row := crcSumsRow, standIns := [], harness := (true, "7bf56c08be330659a1fa11066a7c11eaecb0f874a6c9ef87c1b3ccfdab9a87d5"), looks := false }, kinds := [], alts := [], laidByText := true, laidKinds := [.data], laidTests := true, laidLooks := .later }
def CrcSumsCardSaid : Prop := Claim7.holds Tryd.pinned (.plain (OpenSpec.ofChange crcSumsSpec)) crcSumsCard

/-- THE TIED CARD OF 'headgatelaw02.CrcRight'. -/
def crcRightCard : Claim7 := { stood := { row := crcRightRow, standIns := [], harness := (true, "7bf56c08be330659a1fa11066a7c11eaecb0f874a6c9ef87c1b3ccfdab9a87d5"), looks := false }, kinds := [], alts := [], laidByText := true, laidKinds := [.data], laidTests := true, laidLooks := .later }
def CrcRightCardSaid : Prop := Claim7.holds Tryd.pinned (.plain (OpenSpec.ofChange crcRightSpec)) crcRightCard

/-- THE TIED CARD OF 'headgatelaw02.CrcJoins'. -/
def crcJoinsCard : Claim7 := { stood := { row := crcJoinsRow, standIns := [], harness := (true, "7bf56c08be330659a1fa11066a7c11eaecb0f874a6c9ef87c1b3ccfdab9a87d5"), looks := false }, kinds := [], alts := [], laidByText := true, laidKinds := [.data], laidTests := true, laidLooks := .later }
def CrcJoinsCardSaid : Prop := Claim7.holds Tryd.pinned (.plain (OpenSpec.ofChange crcJoinsSpec)) crcJoinsCard

/-- THE TIED CARD OF 'headgatelaw02.CrcTurned'. -/
def crcTurnedCard : Claim7 := { stood := { row := crcTurnedRow, standIns := [], harness := (true, "7bf56c08be330659a1fa11066a7c11eaecb0f874a6c9ef87c1b3ccfdab9a87d5"), looks := false }, kinds := [], alts := [], laidByText := true, laidKinds := [.data], laidTests := true, laidLooks := .later }
def CrcTurnedCardSaid : Prop := Claim7.holds Tryd.pinned (.plain (OpenSpec.ofChange crcTurnedSpec)) crcTurnedCard

/-- THE TIED CARD OF 'headgatelaw02.CrcXor'. -/
def crcXorCard : Claim7 := { stood := { row := crcXorRow, standIns := [], harness := (true, "7bf56c08be330659a1fa11066a7c11eaecb0f874a6c9ef87c1b3ccfdab9a87d5"), looks := false }, kinds := [], alts := [], laidByText := true, laidKinds := [.data], laidTests := true, laidLooks := .later }
def CrcXorCardSaid : Prop := Claim7.holds Tryd.pinned (.plain (OpenSpec.ofChange crcXorSpec)) crcXorCard

/-- THE SECOND FORM's CARD OF 'headgatelaw02.CrcSums'. -/
def crcSumsUptoCard : Claim7 := { stood := { row := crcSumsUptoRow, standIns := [], harness := (true, "7bf56c08be330659a1fa11066a7c11eaecb0f874a6c9ef87c1b3ccfdab9a87d5"), looks := false }, kinds := [], alts := [], laidByText := true, laidKinds := [.data], laidTests := true, laidLooks := .later }
def CrcSumsUptoCardSaid : Prop := Claim7.holds Tryd.pinned (.plain (OpenSpec.upto crcSumsSpec)) crcSumsUptoCard

/-- THE SECOND FORM's CARD OF 'headgatelaw02.CrcRight'. -/
def crcRightUptoCard : Claim7 := { stood := { row := crcRightUptoRow, standIns := [], harness := (true, "7bf56c08be330659a1fa11066a7c11eaecb0f874a6c9ef87c1b3ccfdab9a87d5"), looks := false }, kinds := [], alts := [], laidByText := true, laidKinds := [.data], laidTests := true, laidLooks := .later }
def CrcRightUptoCardSaid : Prop := Claim7.holds Tryd.pinned (.plain (OpenSpec.upto crcRightSpec)) crcRightUptoCard

/-- THE SECOND FORM's CARD OF 'headgatelaw02.CrcJoins'. -/
def crcJoinsUptoCard : Claim7 := { stood := { row := crcJoinsUptoRow, standIns := [], harness := (true, "7bf56c08be330659a1fa11066a7c11eaecb0f874a6c9ef87c1b3ccfdab9a87d5"), looks := false }, kinds := [], alts := [], laidByText := true, laidKinds := [.data], laidTests := true, laidLooks := .later }
def CrcJoinsUptoCardSaid : Prop := Claim7.holds Tryd.pinned (.plain (OpenSpec.upto crcJoinsSpec)) crcJoinsUptoCard

/-- THE SECOND FORM's CARD OF 'headgatelaw02.CrcTurned'. -/
def crcTurnedUptoCard : Claim7 := { stood := { row := crcTurnedUptoRow, standIns := [], harness := (true, "7bf56c08be330659a1fa11066a7c11eaecb0f874a6c9ef87c1b3ccfdab9a87d5"), looks := false }, kinds := [], alts := [], laidByText := true, laidKinds := [.data], laidTests := true, laidLooks := .later }
def CrcTurnedUptoCardSaid : Prop := Claim7.holds Tryd.pinned (.plain (OpenSpec.upto crcTurnedSpec)) crcTurnedUptoCard

/-- THE SECOND FORM's CARD OF 'headgatelaw02.CrcXor'. -/
def crcXorUptoCard : Claim7 := { stood := { row := crcXorUptoRow, standIns := [], harness := (true, "7bf56c08be330659a1fa11066a7c11eaecb0f874a6c9ef87c1b3ccfdab9a87d5"), looks := false }, kinds := [], alts := [], laidByText := true, laidKinds := [.data], laidTests := true, laidLooks := .later }
def CrcXorUptoCardSaid : Prop := Claim7.holds Tryd.pinned (.plain (OpenSpec.upto crcXorSpec)) crcXorUptoCard
end Rows
end Go.Proofs.YtfglkgaaafohjaaDoor

/-
  DERIVED. GIVEN WITH THE SEED: THE CARDS: each row of YtcghbicjhngedaaDoorRows.lean that lists a variable, with what it lists TIED to the program's text (the seventh form; the later family's looks); each row that meets fmt, with fmt's text TOLD by the authors' own Lean function (tested against real Go, not proved from fmt's source: count such statements apart). THE CARD IS WHAT COUNTS. Prove the row's statement (the work); the ties are given (YtcghbicjhngedaaDoorTie.lean); close each card by the builder's one call (the guide's Derived/Test/ToyasCard.lean, 'card_holds'). Laid BY PROGRAM, IN A SANDBOX (cutbox-door.mjs). By AI agents, Wed Nov 11 2026. No macro, syntax, notation, axiom, sorry.
-/
import Derived.Test.YtcghbicjhngedaaDoorRows
import GoSem.ClaimSeven
namespace Go.Proofs.YtcghbicjhngedaaDoor
namespace Rows

/-- THE TIED CARD OF 'headgatelaw20.IpduPuts'. -/
def ipduPutsCard : Claim7 := { stood := { row := ipduPutsRow, standIns := [], harness := (true, "a2cf5f15ad55c0d4081988915283a40c506248c9d44453bc2b86f32867b968dd"), looks := false }, kinds := [], alts := [], laidByText := true, laidKinds := [.data], laidTests := true, laidLooks := .later }
def IpduPutsCardSaid : Prop := Claim7.holds Tryd.pinned (.plain (OpenSpec.ofChange ipduPutsSpec)) ipduPutsCard

/-- THE TIED CARD OF 'headgatelaw20.IpduGets'. -/
def ipduGetsCard : Claim7 := { stood := { row := ipduGetsRow, standIns := [], harness := (true, "a2cf5f15ad55c0d4081988915283a40c506248c9d44453bc2b86f32867b968dd"), looks := false }, kinds := [], alts := [], laidByText := true, laidKinds := [.data], laidTests := true, laidLooks := .later }
def IpduGetsCardSaid : Prop := Claim7.holds Tryd.pinned (.plain (OpenSpec.ofChange ipduGetsSpec)) ipduGetsCard

/-- THE TIED CARD OF 'headgatelaw20.IpduBack'. -/
def ipduBackCard : Claim7 := { stood := { row := ipduBackRow, standIns := [], harness := (true, "a2cf5f15ad55c0d4081988915283a40c506248c9d44453bc2b86f32867b968dd"), looks := false }, kinds := [], alts := [], laidByText := true, laidKinds := [.data], laidTests := true, laidLooks := .later }
def IpduBackCardSaid : Prop := Claim7.holds Tryd.pinned (.plain (OpenSpec.ofChange ipduBackSpec)) ipduBackCard

/-- THE TIED CARD OF 'headgatelaw20.IpduTurned'. -/
def ipduTurnedCard : Claim7 := { stood := { row := ipduTurnedRow, standIns := [], harness := (true, "a2cf5f15ad55c0d4081988915283a40c506248c9d44453bc2b86f32867b968dd"), looks := false }, kinds := [], alts := [], laidByText := true, laidKinds := [.data], laidTests := true, laidLooks := .later }
def IpduTurnedCardSaid : Prop := Claim7.holds Tryd.pinned (.plain (OpenSpec.ofChange ipduTurnedSpec)) ipduTurnedCard

/-- THE TIED CARD OF 'headgatelaw20.IpduStream'. -/
def ipduStreamCard : Claim7 := { stood := { row := ipduStreamRow, standIns := [], harness := (true, "a2cf5f15ad55c0d4081988915283a40c506248c9d44453bc2b86f32867b968dd"), looks := false }, kinds := [], alts := [], laidByText := true, laidKinds := [.data], laidTests := true, laidLooks := .later }
def IpduStreamCardSaid : Prop := Claim7.holds Tryd.pinned (.plain (OpenSpec.ofChange ipduStreamSpec)) ipduStreamCard

/-- THE TIED CARD OF 'headgatelaw20.IpduHeads'. -/
def ipduHeadsCard : Claim7 := { stood := { row := ipduHeadsRow, standIns := [], harness := (true, "a2cf5f15ad55c0d4081988915283a40c506248c9d44453bc2b86f32867b968dd"), looks := false }, kinds := [], alts := [], laidByText := true, laidKinds := [.data], laidTests := true, laidLooks := .later }
def IpduHeadsCardSaid : Prop := Claim7.holds Tryd.pinned (.plain (OpenSpec.ofChange ipduHeadsSpec)) ipduHeadsCard

/-- THE SECOND FORM's CARD OF 'headgatelaw20.IpduPuts'. -/
def ipduPutsUptoCard : Claim7 := { stood := { row := ipduPutsUptoRow, standIns := [], harness := (true, "a2cf5f15ad55c0d4081988915283a40c506248c9d44453bc2b86f32867b968dd"), looks := false }, kinds := [], alts := [], laidByText := true, laidKinds := [.data], laidTests := true, laidLooks := .later }
def IpduPutsUptoCardSaid : Prop := Claim7.holds Tryd.pinned (.plain (OpenSpec.upto ipduPutsSpec)) ipduPutsUptoCard

/-- THE SECOND FORM's CARD OF 'headgatelaw20.IpduGets'. -/
def ipduGetsUptoCard : Claim7 := { stood := { row := ipduGetsUptoRow, standIns := [], harness := (true, "a2cf5f15ad55c0d4081988915283a40c506248c9d44453bc2b86f32867b968dd"), looks := false }, kinds := [], alts := [], laidByText := true, laidKinds := [.data], laidTests := true, laidLooks := .later }
def IpduGetsUptoCardSaid : Prop := Claim7.holds Tryd.pinned (.plain (OpenSpec.upto ipduGetsSpec)) ipduGetsUptoCard

/-- THE SECOND FORM's CARD OF 'headgatelaw20.IpduBack'. -/
def ipduBackUptoCard : Claim7 := { stood := { row := ipduBackUptoRow, standIns := [], harness := (true, "a2cf5f15ad55c0d4081988915283a40c506248c9d44453bc2b86f32867b968dd"), looks := false }, kinds := [], alts := [], laidByText := true, laidKinds := [.data], laidTests := true, laidLooks := .later }
def IpduBackUptoCardSaid : Prop := Claim7.holds Tryd.pinned (.plain (OpenSpec.upto ipduBackSpec)) ipduBackUptoCard

/-- THE SECOND FORM's CARD OF 'headgatelaw20.IpduTurned'. -/
def ipduTurnedUptoCard : Claim7 := { stood := { row := ipduTurnedUptoRow, standIns := [], harness := (true, "a2cf5f15ad55c0d4081988915283a40c506248c9d44453bc2b86f32867b968dd"), looks := false }, kinds := [], alts := [], laidByText := true, laidKinds := [.data], laidTests := true, laidLooks := .later }
def IpduTurnedUptoCardSaid : Prop := Claim7.holds Tryd.pinned (.plain (OpenSpec.upto ipduTurnedSpec)) ipduTurnedUptoCard

/-- THE SECOND FORM's CARD OF 'headgatelaw20.IpduStream'. -/
def ipduStreamUptoCard : Claim7 := { stood := { row := ipduStreamUptoRow, standIns := [], harness := (true, "a2cf5f15ad55c0d4081988915283a40c506248c9d44453bc2b86f32867b968dd"), looks := false }, kinds := [], alts := [], laidByText := true, laidKinds := [.data], laidTests := true, laidLooks := .later }
def IpduStreamUptoCardSaid : Prop := Claim7.holds Tryd.pinned (.plain (OpenSpec.upto ipduStreamSpec)) ipduStreamUptoCard

/-- THE SECOND FORM's CARD OF 'headgatelaw20.IpduHeads'. -/
def ipduHeadsUptoCard : Claim7 := { stood := { row := ipduHeadsUptoRow, standIns := [], harness := (true, "a2cf5f15ad55c0d4081988915283a40c506248c9d44453bc2b86f32867b968dd"), looks := false }, kinds := [], alts := [], laidByText := true, laidKinds := [.data], laidTests := true, laidLooks := .later }
def IpduHeadsUptoCardSaid : Prop := Claim7.holds Tryd.pinned (.plain (OpenSpec.upto ipduHeadsSpec)) ipduHeadsUptoCard
end Rows
end Go.Proofs.YtcghbicjhngedaaDoor

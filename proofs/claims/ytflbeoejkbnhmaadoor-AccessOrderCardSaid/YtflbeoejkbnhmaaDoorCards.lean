/-
  DERIVED. GIVEN WITH THE SEED: THE CARDS: each row of YtflbeoejkbnhmaaDoorRows.lean that lists a variable, with what it lists TIED to the program's text (the seventh form; the later family's looks); each row that meets fmt, with fmt's text TOLD by the authors' own Lean function (tested against real Go, not proved from fmt's source: count such statements apart). THE CARD IS WHAT COUNTS. Prove the row's statement (the work); the ties are given (YtflbeoejkbnhmaaDoorTie.lean); close each card by the builder's one call (the guide's Derived/Test/ToyasCard.lean, 'card_holds'). Laid BY PROGRAM, IN A SANDBOX (cutbox-door.mjs). By AI agents, Wed Nov 11 2026. No macro, syntax, notation, axiom, sorry.
-/
import Derived.Test.YtflbeoejkbnhmaaDoorRows
import GoSem.ClaimSeven
namespace Go.Proofs.YtflbeoejkbnhmaaDoor
namespace Rows

/-- THE TIED CARD OF 'headgatelaw10.AccessTells'. -/
def accessTellsCard : Claim7 := { stood := { row := accessTellsRow, standIns := [], harness := (true, "03587005fc782a8c8b089ed5ecb6c58efba7dda628ea176dbb24a6b82022a9da"), looks := false }, kinds := [], alts := [], laidByText := true, laidKinds := [.data], laidTests := true, laidLooks := .later }
def AccessTellsCardSaid : Prop := Claim7.holds Tryd.pinned (.plain (OpenSpec.ofChange accessTellsSpec)) accessTellsCard

/-- THE TIED CARD OF 'headgatelaw10.AccessKinds'. -/
def accessKindsCard : Claim7 := { stood := { row := accessKindsRow, standIns := [], harness := (true, "03587005fc782a8c8b089ed5ecb6c58efba7dda628ea176dbb24a6b82022a9da"), looks := false }, kinds := [], alts := [], laidByText := true, laidKinds := [.data], laidTests := true, laidLooks := .later }
def AccessKindsCardSaid : Prop := Claim7.holds Tryd.pinned (.plain (OpenSpec.ofChange accessKindsSpec)) accessKindsCard

/-- THE TIED CARD OF 'headgatelaw10.AccessOrder'. -/
def accessOrderCard : Claim7 := { stood := { row := accessOrderRow, standIns := [], harness := (true, "03587005fc782a8c8b089ed5ecb6c58efba7dda628ea176dbb24a6b82022a9da"), looks := false }, kinds := [], alts := [], laidByText := true, laidKinds := [.data], laidTests := true, laidLooks := .later }
def AccessOrderCardSaid : Prop := Claim7.holds Tryd.pinned (.plain (OpenSpec.ofChange accessOrderSpec)) accessOrderCard

/-- THE TIED CARD OF 'headgatelaw10.AccessStranger'. -/
def accessStrangerCard : Claim7 := { stood := { row := accessStrangerRow, standIns := [], harness := (true, "03587005fc782a8c8b089ed5ecb6c58efba7dda628ea176dbb24a6b82022a9da"), looks := false }, kinds := [], alts := [], laidByText := true, laidKinds := [.data], laidTests := true, laidLooks := .later }
def AccessStrangerCardSaid : Prop := Claim7.holds Tryd.pinned (.plain (OpenSpec.ofChange accessStrangerSpec)) accessStrangerCard

/-- THE TIED CARD OF 'headgatelaw10.AccessGrows'. -/
def accessGrowsCard : Claim7 := { stood := { row := accessGrowsRow, standIns := [], harness := (true, "03587005fc782a8c8b089ed5ecb6c58efba7dda628ea176dbb24a6b82022a9da"), looks := false }, kinds := [], alts := [], laidByText := true, laidKinds := [.data], laidTests := true, laidLooks := .later }
def AccessGrowsCardSaid : Prop := Claim7.holds Tryd.pinned (.plain (OpenSpec.ofChange accessGrowsSpec)) accessGrowsCard

/-- THE SECOND FORM's CARD OF 'headgatelaw10.AccessTells'. -/
def accessTellsUptoCard : Claim7 := { stood := { row := accessTellsUptoRow, standIns := [], harness := (true, "03587005fc782a8c8b089ed5ecb6c58efba7dda628ea176dbb24a6b82022a9da"), looks := false }, kinds := [], alts := [], laidByText := true, laidKinds := [.data], laidTests := true, laidLooks := .later }
def AccessTellsUptoCardSaid : Prop := Claim7.holds Tryd.pinned (.plain (OpenSpec.upto accessTellsSpec)) accessTellsUptoCard

/-- THE SECOND FORM's CARD OF 'headgatelaw10.AccessKinds'. -/
def accessKindsUptoCard : Claim7 := { stood := { row := accessKindsUptoRow, standIns := [], harness := (true, "03587005fc782a8c8b089ed5ecb6c58efba7dda628ea176dbb24a6b82022a9da"), looks := false }, kinds := [], alts := [], laidByText := true, laidKinds := [.data], laidTests := true, laidLooks := .later }
def AccessKindsUptoCardSaid : Prop := Claim7.holds Tryd.pinned (.plain (OpenSpec.upto accessKindsSpec)) accessKindsUptoCard

/-- THE SECOND FORM's CARD OF 'headgatelaw10.AccessOrder'. -/
def accessOrderUptoCard : Claim7 := { stood := { row := accessOrderUptoRow, standIns := [], harness := (true, "03587005fc782a8c8b089ed5ecb6c58efba7dda628ea176dbb24a6b82022a9da"), looks := false }, kinds := [], alts := [], laidByText := true, laidKinds := [.data], laidTests := true, laidLooks := .later }
def AccessOrderUptoCardSaid : Prop := Claim7.holds Tryd.pinned (.plain (OpenSpec.upto accessOrderSpec)) accessOrderUptoCard

/-- THE SECOND FORM's CARD OF 'headgatelaw10.AccessStranger'. -/
def accessStrangerUptoCard : Claim7 := { stood := { row := accessStrangerUptoRow, standIns := [], harness := (true, "03587005fc782a8c8b089ed5ecb6c58efba7dda628ea176dbb24a6b82022a9da"), looks := false }, kinds := [], alts := [], laidByText := true, laidKinds := [.data], laidTests := true, laidLooks := .later }
def AccessStrangerUptoCardSaid : Prop := Claim7.holds Tryd.pinned (.plain (OpenSpec.upto accessStrangerSpec)) accessStrangerUptoCard

/-- THE SECOND FORM's CARD OF 'headgatelaw10.AccessGrows'. -/
def accessGrowsUptoCard : Claim7 := { stood := { row := accessGrowsUptoRow, standIns := [], harness := (true, "03587005fc782a8c8b089ed5ecb6c58efba7dda628ea176dbb24a6b82022a9da"), looks := false }, kinds := [], alts := [], laidByText := true, laidKinds := [.data], laidTests := true, laidLooks := .later }
def AccessGrowsUptoCardSaid : Prop := Claim7.holds Tryd.pinned (.plain (OpenSpec.upto accessGrowsSpec)) accessGrowsUptoCard
end Rows
end Go.Proofs.YtflbeoejkbnhmaaDoor

/-
  DERIVED. GIVEN WITH THE SEED: THE CARDS: each row of YtclcnkmefldpiaaDoorRows.lean that lists a variable, with what it lists TIED to the program's text (the seventh form; the later family's looks); each row that meets fmt, with fmt's text TOLD by the authors' own Lean function (tested against real Go, not proved from fmt's source: count such statements apart). THE CARD IS WHAT COUNTS. Prove the row's statement (the work); the ties are given (YtclcnkmefldpiaaDoorTie.lean); close each card by the builder's one call (the guide's Derived/Test/ToyasCard.lean, 'card_holds'). Laid BY PROGRAM, IN A SANDBOX (cutbox-door.mjs). By AI agents, Wed Nov 11 2026. No macro, syntax, notation, axiom, sorry.
-/
import Derived.Test.YtclcnkmefldpiaaDoorRows
import GoSem.ClaimSeven
namespace Go.Proofs.YtclcnkmefldpiaaDoor
namespace Rows

/-- THE TIED CARD OF 'headgatelaw21.KeysAnswers'. -/
def keysAnswersCard : Claim7 := { stood := { row := keysAnswersRow, standIns := [], harness := (true, "4c6e48db46520c63fd8479f0b451d514eb4c146eb37ad9adf134303a98199a9f"), looks := true }, kinds := [], alts := [], laidByText := true, laidKinds := [.data, .data, .data, .data, .sentinel, .sentinel, .pinned], laidTests := true, laidLooks := .later }
def KeysAnswersCardSaid : Prop := Claim7.holds Tryd.pinned (.plain (OpenSpec.ofChange keysAnswersSpec)) keysAnswersCard

/-- THE TIED CARD OF 'headgatelaw21.KeysSteps'. -/
def keysStepsCard : Claim7 := { stood := { row := keysStepsRow, standIns := [], harness := (true, "4c6e48db46520c63fd8479f0b451d514eb4c146eb37ad9adf134303a98199a9f"), looks := true }, kinds := [], alts := [], laidByText := true, laidKinds := [.data, .data, .data, .data, .sentinel, .sentinel, .pinned], laidTests := true, laidLooks := .later }
def KeysStepsCardSaid : Prop := Claim7.holds Tryd.pinned (.plain (OpenSpec.ofChange keysStepsSpec)) keysStepsCard

/-- THE TIED CARD OF 'headgatelaw21.KeysOffers'. -/
def keysOffersCard : Claim7 := { stood := { row := keysOffersRow, standIns := [], harness := (true, "4c6e48db46520c63fd8479f0b451d514eb4c146eb37ad9adf134303a98199a9f"), looks := true }, kinds := [], alts := [], laidByText := true, laidKinds := [.data, .data, .data, .data, .sentinel, .sentinel, .pinned], laidTests := true, laidLooks := .later }
def KeysOffersCardSaid : Prop := Claim7.holds Tryd.pinned (.plain (OpenSpec.ofChange keysOffersSpec)) keysOffersCard

/-- THE TIED CARD OF 'headgatelaw21.KeysTexts'. -/
def keysTextsCard : Claim7 := { stood := { row := keysTextsRow, standIns := [], harness := (true, "4c6e48db46520c63fd8479f0b451d514eb4c146eb37ad9adf134303a98199a9f"), looks := true }, kinds := [], alts := [], laidByText := true, laidKinds := [.data, .data, .data, .data, .sentinel, .sentinel, .pinned], laidTests := true, laidLooks := .later }
def KeysTextsCardSaid : Prop := Claim7.holds Tryd.pinned (.plain (OpenSpec.ofChange keysTextsSpec)) keysTextsCard

/-- THE TIED CARD OF 'headgatelaw21.KeysBack'. -/
def keysBackCard : Claim7 := { stood := { row := keysBackRow, standIns := [], harness := (true, "4c6e48db46520c63fd8479f0b451d514eb4c146eb37ad9adf134303a98199a9f"), looks := true }, kinds := [], alts := [], laidByText := true, laidKinds := [.data, .data, .data, .data, .sentinel, .sentinel, .pinned], laidTests := true, laidLooks := .later }
def KeysBackCardSaid : Prop := Claim7.holds Tryd.pinned (.plain (OpenSpec.ofChange keysBackSpec)) keysBackCard

/-- THE SECOND FORM's CARD OF 'headgatelaw21.KeysAnswers'. -/
def keysAnswersUptoCard : Claim7 := { stood := { row := keysAnswersUptoRow, standIns := [], harness := (true, "4c6e48db46520c63fd8479f0b451d514eb4c146eb37ad9adf134303a98199a9f"), looks := true }, kinds := [], alts := [], laidByText := true, laidKinds := [.data, .data, .data, .data, .sentinel, .sentinel, .pinned], laidTests := true, laidLooks := .later }
def KeysAnswersUptoCardSaid : Prop := Claim7.holds Tryd.pinned (.plain (OpenSpec.upto keysAnswersSpec)) keysAnswersUptoCard

/-- THE SECOND FORM's CARD OF 'headgatelaw21.KeysSteps'. -/
def keysStepsUptoCard : Claim7 := { stood := { row := keysStepsUptoRow, standIns := [], harness := (true, "4c6e48db46520c63fd8479f0b451d514eb4c146eb37ad9adf134303a98199a9f"), looks := true }, kinds := [], alts := [], laidByText := true, laidKinds := [.data, .data, .data, .data, .sentinel, .sentinel, .pinned], laidTests := true, laidLooks := .later }
def KeysStepsUptoCardSaid : Prop := Claim7.holds Tryd.pinned (.plain (OpenSpec.upto keysStepsSpec)) keysStepsUptoCard

/-- THE SECOND FORM's CARD OF 'headgatelaw21.KeysOffers'. -/
def keysOffersUptoCard : Claim7 := { stood := { row := keysOffersUptoRow, standIns := [], harness := (true, "4c6e48db46520c63fd8479f0b451d514eb4c146eb37ad9adf134303a98199a9f"), looks := true }, kinds := [], alts := [], laidByText := true, laidKinds := [.data, .data, .data, .data, .sentinel, .sentinel, .pinned], laidTests := true, laidLooks := .later }
def KeysOffersUptoCardSaid : Prop := Claim7.holds Tryd.pinned (.plain (OpenSpec.upto keysOffersSpec)) keysOffersUptoCard

/-- THE SECOND FORM's CARD OF 'headgatelaw21.KeysTexts'. -/
def keysTextsUptoCard : Claim7 := { stood := { row := keysTextsUptoRow, standIns := [], harness := (true, "4c6e48db46520c63fd8479f0b451d514eb4c146eb37ad9adf134303a98199a9f"), looks := true }, kinds := [], alts := [], laidByText := true, laidKinds := [.data, .data, .data, .data, .sentinel, .sentinel, .pinned], laidTests := true, laidLooks := .later }
def KeysTextsUptoCardSaid : Prop := Claim7.holds Tryd.pinned (.plain (OpenSpec.upto keysTextsSpec)) keysTextsUptoCard

/-- THE SECOND FORM's CARD OF 'headgatelaw21.KeysBack'. -/
def keysBackUptoCard : Claim7 := { stood := { row := keysBackUptoRow, standIns := [], harness := (true, "4c6e48db46520c63fd8479f0b451d514eb4c146eb37ad9adf134303a98199a9f"), looks := true }, kinds := [], alts := [], laidByText := true, laidKinds := [.data, .data, .data, .data, .sentinel, .sentinel, .pinned], laidTests := true, laidLooks := .later }
def KeysBackUptoCardSaid : Prop := Claim7.holds Tryd.pinned (.plain (OpenSpec.upto keysBackSpec)) keysBackUptoCard
end Rows
end Go.Proofs.YtclcnkmefldpiaaDoor

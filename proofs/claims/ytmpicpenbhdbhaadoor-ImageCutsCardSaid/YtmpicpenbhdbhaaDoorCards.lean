/-
  DERIVED. GIVEN WITH THE SEED: THE CARDS: each row of YtmpicpenbhdbhaaDoorRows.lean that lists a variable, with what it lists TIED to the program's text (the seventh form; the later family's looks); each row that meets fmt, with fmt's text TOLD by the authors' own Lean function (tested against real Go, not proved from fmt's source: count such statements apart). THE CARD IS WHAT COUNTS. Prove the row's statement (the work); the ties are given (YtmpicpenbhdbhaaDoorTie.lean); close each card by the builder's one call (the guide's Derived/Test/ToyasCard.lean, 'card_holds'). Laid BY PROGRAM, IN A SANDBOX (cutbox-door.mjs). By AI agents, Wed Nov 11 2026. No macro, syntax, notation, axiom, sorry.
-/
import Derived.Test.YtmpicpenbhdbhaaDoorRows
import GoSem.ClaimSeven
namespace Go.Proofs.YtmpicpenbhdbhaaDoor
namespace Rows

/-- THE TIED CARD OF 'headgatelaw12.ImageEncodes'. -/
def imageEncodesCard : Claim7 := { stood := { row := imageEncodesRow, standIns := [], harness := (true, "f198a0338d4a7bc6b9e0505fd6bbb27e468a4739cd522cd00feb7162881b1d7f"), looks := false }, kinds := [], alts := [], laidByText := true, laidKinds := [.data], laidTests := true, laidLooks := .later }
def ImageEncodesCardSaid : Prop := Claim7.holds Tryd.pinned (.plain (OpenSpec.ofChange imageEncodesSpec)) imageEncodesCard

/-- THE TIED CARD OF 'headgatelaw12.ImageDecodes'. -/
def imageDecodesCard : Claim7 := { stood := { row := imageDecodesRow, standIns := [], harness := (true, "f198a0338d4a7bc6b9e0505fd6bbb27e468a4739cd522cd00feb7162881b1d7f"), looks := false }, kinds := [], alts := [], laidByText := true, laidKinds := [.data], laidTests := true, laidLooks := .later }
def ImageDecodesCardSaid : Prop := Claim7.holds Tryd.pinned (.plain (OpenSpec.ofChange imageDecodesSpec)) imageDecodesCard

/-- THE TIED CARD OF 'headgatelaw12.ImageBack'. -/
def imageBackCard : Claim7 := { stood := { row := imageBackRow, standIns := [], harness := (true, "f198a0338d4a7bc6b9e0505fd6bbb27e468a4739cd522cd00feb7162881b1d7f"), looks := false }, kinds := [], alts := [], laidByText := true, laidKinds := [.data], laidTests := true, laidLooks := .later }
def ImageBackCardSaid : Prop := Claim7.holds Tryd.pinned (.plain (OpenSpec.ofChange imageBackSpec)) imageBackCard

/-- THE TIED CARD OF 'headgatelaw12.ImageCuts'. -/
def imageCutsCard : Claim7 := { stood := { row := imageCutsRow, standIns := [], harness := (true, "f198a0338d4a7bc6b9e0505fd6bbb27e468a4739cd522cd00feb7162881b1d7f"), looks := false }, kinds := [], alts := [], laidByText := true, laidKinds := [.data], laidTests := true, laidLooks := .later }
def ImageCutsCardSaid : Prop := Claim7.holds Tryd.pinned (.plain (OpenSpec.ofChange imageCutsSpec)) imageCutsCard

/-- THE TIED CARD OF 'headgatelaw12.ImageApart'. -/
def imageApartCard : Claim7 := { stood := { row := imageApartRow, standIns := [], harness := (true, "f198a0338d4a7bc6b9e0505fd6bbb27e468a4739cd522cd00feb7162881b1d7f"), looks := false }, kinds := [], alts := [], laidByText := true, laidKinds := [.data], laidTests := true, laidLooks := .later }
def ImageApartCardSaid : Prop := Claim7.holds Tryd.pinned (.plain (OpenSpec.ofChange imageApartSpec)) imageApartCard

/-- THE SECOND FORM's CARD OF 'headgatelaw12.ImageEncodes'. -/
def imageEncodesUptoCard : Claim7 := { stood := { row := imageEncodesUptoRow, standIns := [], harness := (true, "f198a0338d4a7bc6b9e0505fd6bbb27e468a4739cd522cd00feb7162881b1d7f"), looks := false }, kinds := [], alts := [], laidByText := true, laidKinds := [.data], laidTests := true, laidLooks := .later }
def ImageEncodesUptoCardSaid : Prop := Claim7.holds Tryd.pinned (.plain (OpenSpec.upto imageEncodesSpec)) imageEncodesUptoCard

/-- THE SECOND FORM's CARD OF 'headgatelaw12.ImageDecodes'. -/
def imageDecodesUptoCard : Claim7 := { stood := { row := imageDecodesUptoRow, standIns := [], harness := (true, "f198a0338d4a7bc6b9e0505fd6bbb27e468a4739cd522cd00feb7162881b1d7f"), looks := false }, kinds := [], alts := [], laidByText := true, laidKinds := [.data], laidTests := true, laidLooks := .later }
def ImageDecodesUptoCardSaid : Prop := Claim7.holds Tryd.pinned (.plain (OpenSpec.upto imageDecodesSpec)) imageDecodesUptoCard

/-- THE SECOND FORM's CARD OF 'headgatelaw12.ImageBack'. -/
def imageBackUptoCard : Claim7 := { stood := { row := imageBackUptoRow, standIns := [], harness := (true, "f198a0338d4a7bc6b9e0505fd6bbb27e468a4739cd522cd00feb7162881b1d7f"), looks := false }, kinds := [], alts := [], laidByText := true, laidKinds := [.data], laidTests := true, laidLooks := .later }
def ImageBackUptoCardSaid : Prop := Claim7.holds Tryd.pinned (.plain (OpenSpec.upto imageBackSpec)) imageBackUptoCard

/-- THE SECOND FORM's CARD OF 'headgatelaw12.ImageCuts'. -/
def imageCutsUptoCard : Claim7 := { stood := { row := imageCutsUptoRow, standIns := [], harness := (true, "f198a0338d4a7bc6b9e0505fd6bbb27e468a4739cd522cd00feb7162881b1d7f"), looks := false }, kinds := [], alts := [], laidByText := true, laidKinds := [.data], laidTests := true, laidLooks := .later }
def ImageCutsUptoCardSaid : Prop := Claim7.holds Tryd.pinned (.plain (OpenSpec.upto imageCutsSpec)) imageCutsUptoCard

/-- THE SECOND FORM's CARD OF 'headgatelaw12.ImageApart'. -/
def imageApartUptoCard : Claim7 := { stood := { row := imageApartUptoRow, standIns := [], harness := (true, "f198a0338d4a7bc6b9e0505fd6bbb27e468a4739cd522cd00feb7162881b1d7f"), looks := false }, kinds := [], alts := [], laidByText := true, laidKinds := [.data], laidTests := true, laidLooks := .later }
def ImageApartUptoCardSaid : Prop := Claim7.holds Tryd.pinned (.plain (OpenSpec.upto imageApartSpec)) imageApartUptoCard
end Rows
end Go.Proofs.YtmpicpenbhdbhaaDoor

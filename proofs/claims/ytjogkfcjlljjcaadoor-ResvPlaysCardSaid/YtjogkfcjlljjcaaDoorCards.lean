/-
  DERIVED. GIVEN WITH THE SEED: THE CARDS: each row of YtjogkfcjlljjcaaDoorRows.lean that lists a variable, with what it lists TIED to the program's text (the seventh form; the later family's looks); each row that meets fmt, with fmt's text TOLD by the authors' own Lean function (tested against real Go, not proved from fmt's source: count such statements apart). THE CARD IS WHAT COUNTS. Prove the row's statement (the work); the ties are given (YtjogkfcjlljjcaaDoorTie.lean); close each card by the builder's one call (the guide's Derived/Test/ToyasCard.lean, 'card_holds'). Laid BY PROGRAM, IN A SANDBOX (cutbox-door.mjs). By AI agents, Wed Nov 11 2026. No macro, syntax, notation, axiom, sorry.
-/
import Derived.Test.YtjogkfcjlljjcaaDoorRows
import GoSem.ClaimSeven
namespace Go.Proofs.YtjogkfcjlljjcaaDoor
namespace Rows

/-- THE TIED CARD OF 'headgatelaw11.ResvDoes'. -/
def resvDoesCard : Claim7 := { stood := { row := resvDoesRow, standIns := [], harness := (true, "3474a8e06d1e67d752e29cef1ddcb9b7be2815abca3b76a8ada9f6f08053dade"), looks := false }, kinds := [], alts := [], laidByText := true, laidKinds := [.data], laidTests := true, laidLooks := .later }
def ResvDoesCardSaid : Prop := Claim7.holds Tryd.pinned (.plain (OpenSpec.ofChange resvDoesSpec)) resvDoesCard

/-- THE TIED CARD OF 'headgatelaw11.ResvKeeps'. -/
def resvKeepsCard : Claim7 := { stood := { row := resvKeepsRow, standIns := [], harness := (true, "3474a8e06d1e67d752e29cef1ddcb9b7be2815abca3b76a8ada9f6f08053dade"), looks := false }, kinds := [], alts := [], laidByText := true, laidKinds := [.data], laidTests := true, laidLooks := .later }
def ResvKeepsCardSaid : Prop := Claim7.holds Tryd.pinned (.plain (OpenSpec.ofChange resvKeepsSpec)) resvKeepsCard

/-- THE TIED CARD OF 'headgatelaw11.ResvPlays'. -/
def resvPlaysCard : Claim7 := { stood := { row := resvPlaysRow, standIns := [], harness := (true, "3474a8e06d1e67d752e29cef1ddcb9b7be2815abca3b76a8ada9f6f08053dade"), looks := false }, kinds := [], alts := [], laidByText := true, laidKinds := [.data], laidTests := true, laidLooks := .later }
def ResvPlaysCardSaid : Prop := Claim7.holds Tryd.pinned (.plain (OpenSpec.ofChange resvPlaysSpec)) resvPlaysCard

/-- THE TIED CARD OF 'headgatelaw11.ResvStruck'. -/
def resvStruckCard : Claim7 := { stood := { row := resvStruckRow, standIns := [], harness := (true, "3474a8e06d1e67d752e29cef1ddcb9b7be2815abca3b76a8ada9f6f08053dade"), looks := false }, kinds := [], alts := [], laidByText := true, laidKinds := [.data], laidTests := true, laidLooks := .later }
def ResvStruckCardSaid : Prop := Claim7.holds Tryd.pinned (.plain (OpenSpec.ofChange resvStruckSpec)) resvStruckCard

/-- THE TIED CARD OF 'headgatelaw11.ResvTwice'. -/
def resvTwiceCard : Claim7 := { stood := { row := resvTwiceRow, standIns := [], harness := (true, "3474a8e06d1e67d752e29cef1ddcb9b7be2815abca3b76a8ada9f6f08053dade"), looks := false }, kinds := [], alts := [], laidByText := true, laidKinds := [.data], laidTests := true, laidLooks := .later }
def ResvTwiceCardSaid : Prop := Claim7.holds Tryd.pinned (.plain (OpenSpec.ofChange resvTwiceSpec)) resvTwiceCard

/-- THE TIED CARD OF 'headgatelaw11.ResvGoods'. -/
def resvGoodsCard : Claim7 := { stood := { row := resvGoodsRow, standIns := [], harness := (true, "3474a8e06d1e67d752e29cef1ddcb9b7be2815abca3b76a8ada9f6f08053dade"), looks := false }, kinds := [], alts := [], laidByText := true, laidKinds := [.data], laidTests := true, laidLooks := .later }
def ResvGoodsCardSaid : Prop := Claim7.holds Tryd.pinned (.plain (OpenSpec.ofChange resvGoodsSpec)) resvGoodsCard

/-- THE TIED CARD OF 'headgatelaw11.ResvFences'. -/
def resvFencesCard : Claim7 := { stood := { row := resvFencesRow, standIns := [], harness := (true, "3474a8e06d1e67d752e29cef1ddcb9b7be2815abca3b76a8ada9f6f08053dade"), looks := false }, kinds := [], alts := [], laidByText := true, laidKinds := [.data], laidTests := true, laidLooks := .later }
def ResvFencesCardSaid : Prop := Claim7.holds Tryd.pinned (.plain (OpenSpec.ofChange resvFencesSpec)) resvFencesCard

/-- THE TIED CARD OF 'headgatelaw11.ResvClears'. -/
def resvClearsCard : Claim7 := { stood := { row := resvClearsRow, standIns := [], harness := (true, "3474a8e06d1e67d752e29cef1ddcb9b7be2815abca3b76a8ada9f6f08053dade"), looks := false }, kinds := [], alts := [], laidByText := true, laidKinds := [.data], laidTests := true, laidLooks := .later }
def ResvClearsCardSaid : Prop := Claim7.holds Tryd.pinned (.plain (OpenSpec.ofChange resvClearsSpec)) resvClearsCard

/-- THE SECOND FORM's CARD OF 'headgatelaw11.ResvDoes'. -/
def resvDoesUptoCard : Claim7 := { stood := { row := resvDoesUptoRow, standIns := [], harness := (true, "3474a8e06d1e67d752e29cef1ddcb9b7be2815abca3b76a8ada9f6f08053dade"), looks := false }, kinds := [], alts := [], laidByText := true, laidKinds := [.data], laidTests := true, laidLooks := .later }
def ResvDoesUptoCardSaid : Prop := Claim7.holds Tryd.pinned (.plain (OpenSpec.upto resvDoesSpec)) resvDoesUptoCard

/-- THE SECOND FORM's CARD OF 'headgatelaw11.ResvKeeps'. -/
def resvKeepsUptoCard : Claim7 := { stood := { row := resvKeepsUptoRow, standIns := [], harness := (true, "3474a8e06d1e67d752e29cef1ddcb9b7be2815abca3b76a8ada9f6f08053dade"), looks := false }, kinds := [], alts := [], laidByText := true, laidKinds := [.data], laidTests := true, laidLooks := .later }
def ResvKeepsUptoCardSaid : Prop := Claim7.holds Tryd.pinned (.plain (OpenSpec.upto resvKeepsSpec)) resvKeepsUptoCard

/-- THE SECOND FORM's CARD OF 'headgatelaw11.ResvPlays'. -/
def resvPlaysUptoCard : Claim7 := { stood := { row := resvPlaysUptoRow, standIns := [], harness := (true, "3474a8e06d1e67d752e29cef1ddcb9b7be2815abca3b76a8ada9f6f08053dade"), looks := false }, kinds := [], alts := [], laidByText := true, laidKinds := [.data], laidTests := true, laidLooks := .later }
def ResvPlaysUptoCardSaid : Prop := Claim7.holds Tryd.pinned (.plain (OpenSpec.upto resvPlaysSpec)) resvPlaysUptoCard

/-- THE SECOND FORM's CARD OF 'headgatelaw11.ResvStruck'. -/
def resvStruckUptoCard : Claim7 := { stood := { row := resvStruckUptoRow, standIns := [], harness := (true, "3474a8e06d1e67d752e29cef1ddcb9b7be2815abca3b76a8ada9f6f08053dade"), looks := false }, kinds := [], alts := [], laidByText := true, laidKinds := [.data], laidTests := true, laidLooks := .later }
def ResvStruckUptoCardSaid : Prop := Claim7.holds Tryd.pinned (.plain (OpenSpec.upto resvStruckSpec)) resvStruckUptoCard

/-- THE SECOND FORM's CARD OF 'headgatelaw11.ResvTwice'. -/
def resvTwiceUptoCard : Claim7 := { stood := { row := resvTwiceUptoRow, standIns := [], harness := (true, "3474a8e06d1e67d752e29cef1ddcb9b7be2815abca3b76a8ada9f6f08053dade"), looks := false }, kinds := [], alts := [], laidByText := true, laidKinds := [.data], laidTests := true, laidLooks := .later }
def ResvTwiceUptoCardSaid : Prop := Claim7.holds Tryd.pinned (.plain (OpenSpec.upto resvTwiceSpec)) resvTwiceUptoCard

/-- THE SECOND FORM's CARD OF 'headgatelaw11.ResvGoods'. -/
def resvGoodsUptoCard : Claim7 := { stood := { row := resvGoodsUptoRow, standIns := [], harness := (true, "3474a8e06d1e67d752e29cef1ddcb9b7be2815abca3b76a8ada9f6f08053dade"), looks := false }, kinds := [], alts := [], laidByText := true, laidKinds := [.data], laidTests := true, laidLooks := .later }
def ResvGoodsUptoCardSaid : Prop := Claim7.holds Tryd.pinned (.plain (OpenSpec.upto resvGoodsSpec)) resvGoodsUptoCard

/-- THE SECOND FORM's CARD OF 'headgatelaw11.ResvFences'. -/
def resvFencesUptoCard : Claim7 := { stood := { row := resvFencesUptoRow, standIns := [], harness := (true, "3474a8e06d1e67d752e29cef1ddcb9b7be2815abca3b76a8ada9f6f08053dade"), looks := false }, kinds := [], alts := [], laidByText := true, laidKinds := [.data], laidTests := true, laidLooks := .later }
def ResvFencesUptoCardSaid : Prop := Claim7.holds Tryd.pinned (.plain (OpenSpec.upto resvFencesSpec)) resvFencesUptoCard

/-- THE SECOND FORM's CARD OF 'headgatelaw11.ResvClears'. -/
def resvClearsUptoCard : Claim7 := { stood := { row := resvClearsUptoRow, standIns := [], harness := (true, "3474a8e06d1e67d752e29cef1ddcb9b7be2815abca3b76a8ada9f6f08053dade"), looks := false }, kinds := [], alts := [], laidByText := true, laidKinds := [.data], laidTests := true, laidLooks := .later }
def ResvClearsUptoCardSaid : Prop := Claim7.holds Tryd.pinned (.plain (OpenSpec.upto resvClearsSpec)) resvClearsUptoCard
end Rows
end Go.Proofs.YtjogkfcjlljjcaaDoor

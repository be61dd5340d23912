/-
  DERIVED. GIVEN WITH THE SEED: THE CARDS: each row of YtkbimiimgcklaaaDoorRows.lean that lists a variable, with what it lists TIED to the program's text (the seventh form; the later family's looks); each row that meets fmt, with fmt's text TOLD by the authors' own Lean function (tested against real Go, not proved from fmt's source: count such statements apart). THE CARD IS WHAT COUNTS. Prove the row's statement (the work); the ties are given (YtkbimiimgcklaaaDoorTie.lean); close each card by the builder's one call (the guide's Derived/Test/ToyasCard.lean, 'card_holds'). Laid BY PROGRAM, IN A SANDBOX (cutbox-door.mjs). By AI agents, Wed Nov 11 2026. No macro, syntax, notation, axiom, sorry.
-/
import Derived.Test.YtkbimiimgcklaaaDoorRows
import GoSem.ClaimSeven
namespace Go.Proofs.YtkbimiimgcklaaaDoor
namespace Rows

/-- THE TIED CARD OF 'riverbanklaw01.BitsMix'. -/
def bitsMixCard : Claim7 := { stood := { row := bitsMixRow, standIns := [], harness := (true, "d485a3c20bb517b6c85b095eb4961d443513c9e6e27a0d45b3e18e2222c32954"), looks := false }, kinds := [], alts := [], laidByText := true, laidKinds := [.data], laidTests := true, laidLooks := .later }
def BitsMixCardSaid : Prop := Claim7.holds Tryd.pinned (.plain (OpenSpec.ofChange bitsMixSpec)) bitsMixCard

/-- THE TIED CARD OF 'riverbanklaw01.BitsOne'. -/
def bitsOneCard : Claim7 := { stood := { row := bitsOneRow, standIns := [], harness := (true, "d485a3c20bb517b6c85b095eb4961d443513c9e6e27a0d45b3e18e2222c32954"), looks := false }, kinds := [], alts := [], laidByText := true, laidKinds := [.data], laidTests := true, laidLooks := .later }
def BitsOneCardSaid : Prop := Claim7.holds Tryd.pinned (.plain (OpenSpec.ofChange bitsOneSpec)) bitsOneCard

/-- THE TIED CARD OF 'riverbanklaw01.BitsShift'. -/
def bitsShiftCard : Claim7 := { stood := { row := bitsShiftRow, standIns := [], harness := (true, "d485a3c20bb517b6c85b095eb4961d443513c9e6e27a0d45b3e18e2222c32954"), looks := false }, kinds := [], alts := [], laidByText := true, laidKinds := [.data], laidTests := true, laidLooks := .later }
def BitsShiftCardSaid : Prop := Claim7.holds Tryd.pinned (.plain (OpenSpec.ofChange bitsShiftSpec)) bitsShiftCard

/-- THE TIED CARD OF 'riverbanklaw01.BitsBack'. -/
def bitsBackCard : Claim7 := { stood := { row := bitsBackRow, standIns := [], harness := (true, "d485a3c20bb517b6c85b095eb4961d443513c9e6e27a0d45b3e18e2222c32954"), looks := false }, kinds := [], alts := [], laidByText := true, laidKinds := [.data], laidTests := true, laidLooks := .later }
def BitsBackCardSaid : Prop := Claim7.holds Tryd.pinned (.plain (OpenSpec.ofChange bitsBackSpec)) bitsBackCard

/-- THE TIED CARD OF 'riverbanklaw01.BitsLaws'. -/
def bitsLawsCard : Claim7 := { stood := { row := bitsLawsRow, standIns := [], harness := (true, "d485a3c20bb517b6c85b095eb4961d443513c9e6e27a0d45b3e18e2222c32954"), looks := false }, kinds := [], alts := [], laidByText := true, laidKinds := [.data], laidTests := true, laidLooks := .later }
def BitsLawsCardSaid : Prop := Claim7.holds Tryd.pinned (.plain (OpenSpec.ofChange bitsLawsSpec)) bitsLawsCard

/-- THE TIED CARD OF 'riverbanklaw01.BitsSteps'. -/
def bitsStepsCard : Claim7 := { stood := { row := bitsStepsRow, standIns := [], harness := (true, "d485a3c20bb517b6c85b095eb4961d443513c9e6e27a0d45b3e18e2222c32954"), looks := false }, kinds := [], alts := [], laidByText := true, laidKinds := [.data], laidTests := true, laidLooks := .later }
def BitsStepsCardSaid : Prop := Claim7.holds Tryd.pinned (.plain (OpenSpec.ofChange bitsStepsSpec)) bitsStepsCard

/-- THE TIED CARD OF 'riverbanklaw01.BitsEnds'. -/
def bitsEndsCard : Claim7 := { stood := { row := bitsEndsRow, standIns := [], harness := (true, "d485a3c20bb517b6c85b095eb4961d443513c9e6e27a0d45b3e18e2222c32954"), looks := false }, kinds := [], alts := [], laidByText := true, laidKinds := [.data], laidTests := true, laidLooks := .later }
def BitsEndsCardSaid : Prop := Claim7.holds Tryd.pinned (.plain (OpenSpec.ofChange bitsEndsSpec)) bitsEndsCard

/-- THE TIED CARD OF 'riverbanklaw02.BoardTells'. -/
def boardTellsCard : Claim7 := { stood := { row := boardTellsRow, standIns := [], harness := (true, "d485a3c20bb517b6c85b095eb4961d443513c9e6e27a0d45b3e18e2222c32954"), looks := false }, kinds := [], alts := [], laidByText := true, laidKinds := [.data], laidTests := true, laidLooks := .later }
def BoardTellsCardSaid : Prop := Claim7.holds Tryd.pinned (.plain (OpenSpec.ofChange boardTellsSpec)) boardTellsCard

/-- THE TIED CARD OF 'riverbanklaw02.BoardWords'. -/
def boardWordsCard : Claim7 := { stood := { row := boardWordsRow, standIns := [], harness := (true, "d485a3c20bb517b6c85b095eb4961d443513c9e6e27a0d45b3e18e2222c32954"), looks := false }, kinds := [], alts := [], laidByText := true, laidKinds := [.data], laidTests := true, laidLooks := .later }
def BoardWordsCardSaid : Prop := Claim7.holds Tryd.pinned (.plain (OpenSpec.ofChange boardWordsSpec)) boardWordsCard

/-- THE TIED CARD OF 'riverbanklaw02.BoardTurn'. -/
def boardTurnCard : Claim7 := { stood := { row := boardTurnRow, standIns := [], harness := (true, "d485a3c20bb517b6c85b095eb4961d443513c9e6e27a0d45b3e18e2222c32954"), looks := false }, kinds := [], alts := [], laidByText := true, laidKinds := [.data], laidTests := true, laidLooks := .later }
def BoardTurnCardSaid : Prop := Claim7.holds Tryd.pinned (.plain (OpenSpec.ofChange boardTurnSpec)) boardTurnCard

/-- THE TIED CARD OF 'riverbanklaw02.BoardPut'. -/
def boardPutCard : Claim7 := { stood := { row := boardPutRow, standIns := [], harness := (true, "d485a3c20bb517b6c85b095eb4961d443513c9e6e27a0d45b3e18e2222c32954"), looks := false }, kinds := [], alts := [], laidByText := true, laidKinds := [.data], laidTests := true, laidLooks := .later }
def BoardPutCardSaid : Prop := Claim7.holds Tryd.pinned (.plain (OpenSpec.ofChange boardPutSpec)) boardPutCard

/-- THE TIED CARD OF 'riverbanklaw02.BoardCounts'. -/
def boardCountsCard : Claim7 := { stood := { row := boardCountsRow, standIns := [], harness := (true, "d485a3c20bb517b6c85b095eb4961d443513c9e6e27a0d45b3e18e2222c32954"), looks := false }, kinds := [], alts := [], laidByText := true, laidKinds := [.data], laidTests := true, laidLooks := .later }
def BoardCountsCardSaid : Prop := Claim7.holds Tryd.pinned (.plain (OpenSpec.ofChange boardCountsSpec)) boardCountsCard

/-- THE TIED CARD OF 'riverbanklaw02.BoardSquares'. -/
def boardSquaresCard : Claim7 := { stood := { row := boardSquaresRow, standIns := [], harness := (true, "d485a3c20bb517b6c85b095eb4961d443513c9e6e27a0d45b3e18e2222c32954"), looks := false }, kinds := [], alts := [], laidByText := true, laidKinds := [.data], laidTests := true, laidLooks := .later }
def BoardSquaresCardSaid : Prop := Claim7.holds Tryd.pinned (.plain (OpenSpec.ofChange boardSquaresSpec)) boardSquaresCard

/-- THE TIED CARD OF 'riverbanklaw03.PlaceMays'. -/
def placeMaysCard : Claim7 := { stood := { row := placeMaysRow, standIns := [], harness := (true, "d485a3c20bb517b6c85b095eb4961d443513c9e6e27a0d45b3e18e2222c32954"), looks := false }, kinds := [], alts := [], laidByText := true, laidKinds := [.data], laidTests := true, laidLooks := .later }
def PlaceMaysCardSaid : Prop := Claim7.holds Tryd.pinned (.plain (OpenSpec.ofChange placeMaysSpec)) placeMaysCard

/-- THE TIED CARD OF 'riverbanklaw03.PlaceChecks'. -/
def placeChecksCard : Claim7 := { stood := { row := placeChecksRow, standIns := [], harness := (true, "d485a3c20bb517b6c85b095eb4961d443513c9e6e27a0d45b3e18e2222c32954"), looks := false }, kinds := [], alts := [], laidByText := true, laidKinds := [.data], laidTests := true, laidLooks := .later }
def PlaceChecksCardSaid : Prop := Claim7.holds Tryd.pinned (.plain (OpenSpec.ofChange placeChecksSpec)) placeChecksCard

/-- THE TIED CARD OF 'riverbanklaw03.PlaceTurn'. -/
def placeTurnCard : Claim7 := { stood := { row := placeTurnRow, standIns := [], harness := (true, "d485a3c20bb517b6c85b095eb4961d443513c9e6e27a0d45b3e18e2222c32954"), looks := false }, kinds := [], alts := [], laidByText := true, laidKinds := [.data], laidTests := true, laidLooks := .later }
def PlaceTurnCardSaid : Prop := Claim7.holds Tryd.pinned (.plain (OpenSpec.ofChange placeTurnSpec)) placeTurnCard

/-- THE TIED CARD OF 'riverbanklaw03.PlaceInside'. -/
def placeInsideCard : Claim7 := { stood := { row := placeInsideRow, standIns := [], harness := (true, "d485a3c20bb517b6c85b095eb4961d443513c9e6e27a0d45b3e18e2222c32954"), looks := false }, kinds := [], alts := [], laidByText := true, laidKinds := [.data], laidTests := true, laidLooks := .later }
def PlaceInsideCardSaid : Prop := Claim7.holds Tryd.pinned (.plain (OpenSpec.ofChange placeInsideSpec)) placeInsideCard

/-- THE TIED CARD OF 'riverbanklaw03.PlaceFewer'. -/
def placeFewerCard : Claim7 := { stood := { row := placeFewerRow, standIns := [], harness := (true, "d485a3c20bb517b6c85b095eb4961d443513c9e6e27a0d45b3e18e2222c32954"), looks := false }, kinds := [], alts := [], laidByText := true, laidKinds := [.data], laidTests := true, laidLooks := .later }
def PlaceFewerCardSaid : Prop := Claim7.holds Tryd.pinned (.plain (OpenSpec.ofChange placeFewerSpec)) placeFewerCard

/-- THE TIED CARD OF 'riverbanklaw03.PlaceMore'. -/
def placeMoreCard : Claim7 := { stood := { row := placeMoreRow, standIns := [], harness := (true, "d485a3c20bb517b6c85b095eb4961d443513c9e6e27a0d45b3e18e2222c32954"), looks := false }, kinds := [], alts := [], laidByText := true, laidKinds := [.data], laidTests := true, laidLooks := .later }
def PlaceMoreCardSaid : Prop := Claim7.holds Tryd.pinned (.plain (OpenSpec.ofChange placeMoreSpec)) placeMoreCard

/-- THE SECOND FORM's CARD OF 'riverbanklaw01.BitsMix'. -/
def bitsMixUptoCard : Claim7 := { stood := { row := bitsMixUptoRow, standIns := [], harness := (true, "d485a3c20bb517b6c85b095eb4961d443513c9e6e27a0d45b3e18e2222c32954"), looks := false }, kinds := [], alts := [], laidByText := true, laidKinds := [.data], laidTests := true, laidLooks := .later }
def BitsMixUptoCardSaid : Prop := Claim7.holds Tryd.pinned (.plain (OpenSpec.upto bitsMixSpec)) bitsMixUptoCard

/-- THE SECOND FORM's CARD OF 'riverbanklaw01.BitsOne'. -/
def bitsOneUptoCard : Claim7 := { stood := { row := bitsOneUptoRow, standIns := [], harness := (true, "d485a3c20bb517b6c85b095eb4961d443513c9e6e27a0d45b3e18e2222c32954"), looks := false }, kinds := [], alts := [], laidByText := true, laidKinds := [.data], laidTests := true, laidLooks := .later }
def BitsOneUptoCardSaid : Prop := Claim7.holds Tryd.pinned (.plain (OpenSpec.upto bitsOneSpec)) bitsOneUptoCard

/-- THE SECOND FORM's CARD OF 'riverbanklaw01.BitsShift'. -/
def bitsShiftUptoCard : Claim7 := { stood := { row := bitsShiftUptoRow, standIns := [], harness := (true, "d485a3c20bb517b6c85b095eb4961d443513c9e6e27a0d45b3e18e2222c32954"), looks := false }, kinds := [], alts := [], laidByText := true, laidKinds := [.data], laidTests := true, laidLooks := .later }
def BitsShiftUptoCardSaid : Prop := Claim7.holds Tryd.pinned (.plain (OpenSpec.upto bitsShiftSpec)) bitsShiftUptoCard

/-- THE SECOND FORM's CARD OF 'riverbanklaw01.BitsBack'. -/
def bitsBackUptoCard : Claim7 := { stood := { row := bitsBackUptoRow, standIns := [], harness := (true, "d485a3c20bb517b6c85b095eb4961d443513c9e6e27a0d45b3e18e2222c32954"), looks := false }, kinds := [], alts := [], laidByText := true, laidKinds := [.data], laidTests := true, laidLooks := .later }
def BitsBackUptoCardSaid : Prop := Claim7.holds Tryd.pinned (.plain (OpenSpec.upto bitsBackSpec)) bitsBackUptoCard

/-- THE SECOND FORM's CARD OF 'riverbanklaw01.BitsLaws'. -/
def bitsLawsUptoCard : Claim7 := { stood := { row := bitsLawsUptoRow, standIns := [], harness := (true, "d485a3c20bb517b6c85b095eb4961d443513c9e6e27a0d45b3e18e2222c32954"), looks := false }, kinds := [], alts := [], laidByText := true, laidKinds := [.data], laidTests := true, laidLooks := .later }
def BitsLawsUptoCardSaid : Prop := Claim7.holds Tryd.pinned (.plain (OpenSpec.upto bitsLawsSpec)) bitsLawsUptoCard

/-- THE SECOND FORM's CARD OF 'riverbanklaw01.BitsSteps'. -/
def bitsStepsUptoCard : Claim7 := { stood := { row := bitsStepsUptoRow, standIns := [], harness := (true, "d485a3c20bb517b6c85b095eb4961d443513c9e6e27a0d45b3e18e2222c32954"), looks := false }, kinds := [], alts := [], laidByText := true, laidKinds := [.data], laidTests := true, laidLooks := .later }
def BitsStepsUptoCardSaid : Prop := Claim7.holds Tryd.pinned (.plain (OpenSpec.upto bitsStepsSpec)) bitsStepsUptoCard

/-- THE SECOND FORM's CARD OF 'riverbanklaw01.BitsEnds'. -/
def bitsEndsUptoCard : Claim7 := { stood := { row := bitsEndsUptoRow, standIns := [], harness := (true, "d485a3c20bb517b6c85b095eb4961d443513c9e6e27a0d45b3e18e2222c32954"), looks := false }, kinds := [], alts := [], laidByText := true, laidKinds := [.data], laidTests := true, laidLooks := .later }
def BitsEndsUptoCardSaid : Prop := Claim7.holds Tryd.pinned (.plain (OpenSpec.upto bitsEndsSpec)) bitsEndsUptoCard

/-- THE SECOND FORM's CARD OF 'riverbanklaw02.BoardTells'. -/
def boardTellsUptoCard : Claim7 := { stood := { row := boardTellsUptoRow, standIns := [], harness := (true, "d485a3c20bb517b6c85b095eb4961d443513c9e6e27a0d45b3e18e2222c32954"), looks := false }, kinds := [], alts := [], laidByText := true, laidKinds := [.data], laidTests := true, laidLooks := .later }
def BoardTellsUptoCardSaid : Prop := Claim7.holds Tryd.pinned (.plain (OpenSpec.upto boardTellsSpec)) boardTellsUptoCard

/-- THE SECOND FORM's CARD OF 'riverbanklaw02.BoardWords'. -/
def boardWordsUptoCard : Claim7 := { stood := { row := boardWordsUptoRow, standIns := [], harness := (true, "d485a3c20bb517b6c85b095eb4961d443513c9e6e27a0d45b3e18e2222c32954"), looks := false }, kinds := [], alts := [], laidByText := true, laidKinds := [.data], laidTests := true, laidLooks := .later }
def BoardWordsUptoCardSaid : Prop := Claim7.holds Tryd.pinned (.plain (OpenSpec.upto boardWordsSpec)) boardWordsUptoCard

/-- THE SECOND FORM's CARD OF 'riverbanklaw02.BoardTurn'. -/
def boardTurnUptoCard : Claim7 := { stood := { row := boardTurnUptoRow, standIns := [], harness := (true, "d485a3c20bb517b6c85b095eb4961d443513c9e6e27a0d45b3e18e2222c32954"), looks := false }, kinds := [], alts := [], laidByText := true, laidKinds := [.data], laidTests := true, laidLooks := .later }
def BoardTurnUptoCardSaid : Prop := Claim7.holds Tryd.pinned (.plain (OpenSpec.upto boardTurnSpec)) boardTurnUptoCard

/-- THE SECOND FORM's CARD OF 'riverbanklaw02.BoardPut'. -/
def boardPutUptoCard : Claim7 := { stood := { row := boardPutUptoRow, standIns := [], harness := (true, "d485a3c20bb517b6c85b095eb4961d443513c9e6e27a0d45b3e18e2222c32954"), looks := false }, kinds := [], alts := [], laidByText := true, laidKinds := [.data], laidTests := true, laidLooks := .later }
def BoardPutUptoCardSaid : Prop := Claim7.holds Tryd.pinned (.plain (OpenSpec.upto boardPutSpec)) boardPutUptoCard

/-- THE SECOND FORM's CARD OF 'riverbanklaw02.BoardCounts'. -/
def boardCountsUptoCard : Claim7 := { stood := { row := boardCountsUptoRow, standIns := [], harness := (true, "d485a3c20bb517b6c85b095eb4961d443513c9e6e27a0d45b3e18e2222c32954"), looks := false }, kinds := [], alts := [], laidByText := true, laidKinds := [.data], laidTests := true, laidLooks := .later }
def BoardCountsUptoCardSaid : Prop := Claim7.holds Tryd.pinned (.plain (OpenSpec.upto boardCountsSpec)) boardCountsUptoCard

/-- THE SECOND FORM's CARD OF 'riverbanklaw02.BoardSquares'. -/
def boardSquaresUptoCard : Claim7 := { stood := { row := boardSquaresUptoRow, standIns := [], harness := (true, "d485a3c20bb517b6c85b095eb4961d443513c9e6e27a0d45b3e18e2222c32954"), looks := false }, kinds := [], alts := [], laidByText := true, laidKinds := [.data], laidTests := true, laidLooks := .later }
def BoardSquaresUptoCardSaid : Prop := Claim7.holds Tryd.pinned (.plain (OpenSpec.upto boardSquaresSpec)) boardSquaresUptoCard

/-- THE SECOND FORM's CARD OF 'riverbanklaw03.PlaceMays'. -/
def placeMaysUptoCard : Claim7 := { stood := { row := placeMaysUptoRow, standIns := [], harness := (true, "d485a3c20bb517b6c85b095eb4961d443513c9e6e27a0d45b3e18e2222c32954"), looks := false }, kinds := [], alts := [], laidByText := true, laidKinds := [.data], laidTests := true, laidLooks := .later }
def PlaceMaysUptoCardSaid : Prop := Claim7.holds Tryd.pinned (.plain (OpenSpec.upto placeMaysSpec)) placeMaysUptoCard

/-- THE SECOND FORM's CARD OF 'riverbanklaw03.PlaceChecks'. -/
def placeChecksUptoCard : Claim7 := { stood := { row := placeChecksUptoRow, standIns := [], harness := (true, "d485a3c20bb517b6c85b095eb4961d443513c9e6e27a0d45b3e18e2222c32954"), looks := false }, kinds := [], alts := [], laidByText := true, laidKinds := [.data], laidTests := true, laidLooks := .later }
def PlaceChecksUptoCardSaid : Prop := Claim7.holds Tryd.pinned (.plain (OpenSpec.upto placeChecksSpec)) placeChecksUptoCard

/-- THE SECOND FORM's CARD OF 'riverbanklaw03.PlaceTurn'. -/
def placeTurnUptoCard : Claim7 := { stood := { row := placeTurnUptoRow, standIns := [], harness := (true, "d485a3c20bb517b6c85b095eb4961d443513c9e6e27a0d45b3e18e2222c32954"), looks := false }, kinds := [], alts := [], laidByText := true, laidKinds := [.data], laidTests := true, laidLooks := .later }
def PlaceTurnUptoCardSaid : Prop := Claim7.holds Tryd.pinned (.plain (OpenSpec.upto placeTurnSpec)) placeTurnUptoCard

/-- THE SECOND FORM's CARD OF 'riverbanklaw03.PlaceInside'. -/
def placeInsideUptoCard : Claim7 := { stood := { row := placeInsideUptoRow, standIns := [], harness := (true, "d485a3c20bb517b6c85b095eb4961d443513c9e6e27a0d45b3e18e2222c32954"), looks := false }, kinds := [], alts := [], laidByText := true, laidKinds := [.data], laidTests := true, laidLooks := .later }
def PlaceInsideUptoCardSaid : Prop := Claim7.holds Tryd.pinned (.plain (OpenSpec.upto placeInsideSpec)) placeInsideUptoCard

/-- THE SECOND FORM's CARD OF 'riverbanklaw03.PlaceFewer'. -/
def placeFewerUptoCard : Claim7 := { stood := { row := placeFewerUptoRow, standIns := [], harness := (true, "d485a3c20bb517b6c85b095eb4961d443513c9e6e27a0d45b3e18e2222c32954"), looks := false }, kinds := [], alts := [], laidByText := true, laidKinds := [.data], laidTests := true, laidLooks := .later }
def PlaceFewerUptoCardSaid : Prop := Claim7.holds Tryd.pinned (.plain (OpenSpec.upto placeFewerSpec)) placeFewerUptoCard

/-- THE SECOND FORM's CARD OF 'riverbanklaw03.PlaceMore'. -/
def placeMoreUptoCard : Claim7 := { stood := { row := placeMoreUptoRow, standIns := [], harness := (true, "d485a3c20bb517b6c85b095eb4961d443513c9e6e27a0d45b3e18e2222c32954"), looks := false }, kinds := [], alts := [], laidByText := true, laidKinds := [.data], laidTests := true, laidLooks := .later }
def PlaceMoreUptoCardSaid : Prop := Claim7.holds Tryd.pinned (.plain (OpenSpec.upto placeMoreSpec)) placeMoreUptoCard
end Rows
end Go.Proofs.YtkbimiimgcklaaaDoor

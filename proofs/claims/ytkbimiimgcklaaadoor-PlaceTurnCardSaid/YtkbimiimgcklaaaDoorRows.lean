/-
  NARROWER THAN 'FOR EVERY INPUT', by the rows' own cells (each row's printed sentence says how): BitsMix: laid · BitsOne: laid · BitsShift: laid · BitsBack: laid · BitsLaws: laid · BitsSteps: laid · BitsEnds: laid · BoardTells: laid · BoardWords: laid · BoardTurn: laid · BoardPut: laid · BoardCounts: laid · BoardSquares: laid · PlaceMays: laid · PlaceChecks: laid · PlaceTurn: laid · PlaceInside: laid · PlaceFewer: laid · PlaceMore: laid.
  DERIVED. THE GIVEN ROWS OF THIS SEAT. 19 by the template 'for every input the law returns true; each argument reads behind the call as it read before'; 0 by the template 'total and deterministic' (their statements: YtkbimiimgcklaaaDoorTotals.lean).
  GIVEN WITH THE SEED: the statements are not yours to turn. If you find one false, say at which input.
  Laid BY PROGRAM, IN A SANDBOX (cutbox-rows.mjs): the forced cells as the released guide's own fill.sh prints them over the translation 8b868f1654150224… (all of the seat's roots in one cut). By AI agents, Wed Nov 11 2026. No macro, syntax, notation, axiom, sorry.
-/
import Derived.Test.YtkbimiimgcklaaaDoorChecked
import GoSem.Claim
import GoSem.ClaimJoined
import GoSem.ClaimMapViews
import Derived.JoinedTies
import Derived.KernelRfl
namespace Go.Proofs.YtkbimiimgcklaaaDoor
/- THE CELL 'sum', in the pinned program and in every row, IS THE sha256 OF THE DUMP (.gsa) THAT YtkbimiimgcklaaaDoorProg.lean LOADS. Nothing in Lean hashes anything: it is a label: what it is worth is what the hold of that sum in a sandbox is worth. -/
noncomputable def Tryd.pinned : Pinned := { name := "ytkbimiimgcklaaadoor", sum := "8b868f1654150224f2a40b52060c45c18b994c948fafc0481d39450dcd009abd", checked := Tryd.checked }
namespace Rows
def none {H : Type} : Left H := { results := [], args := [] }

/- WHAT THE LISTED PACKAGE-LEVEL VARIABLES READ AS WHEN THE CALL BEGINS. Each datum BY PROGRAM (the guide's laid-datum.mjs) off the statement by which the dump's own 'gosem.cut.vars' lays the variable. In a bare row this is a premise. The card (YtkbimiimgcklaaaDoorCards.lean) ties it to the program's text. -/
def laid_math_bits_deBruijn64tab {H : Type} : DataW H := .agg [.lit (.int .u8 0), .lit (.int .u8 1), .lit (.int .u8 56), .lit (.int .u8 2), .lit (.int .u8 57), .lit (.int .u8 49), .lit (.int .u8 28), .lit (.int .u8 3), .lit (.int .u8 61), .lit (.int .u8 58), .lit (.int .u8 42), .lit (.int .u8 50), .lit (.int .u8 38), .lit (.int .u8 29), .lit (.int .u8 17), .lit (.int .u8 4), .lit (.int .u8 62), .lit (.int .u8 47), .lit (.int .u8 59), .lit (.int .u8 36), .lit (.int .u8 45), .lit (.int .u8 43), .lit (.int .u8 51), .lit (.int .u8 22), .lit (.int .u8 53), .lit (.int .u8 39), .lit (.int .u8 33), .lit (.int .u8 30), .lit (.int .u8 24), .lit (.int .u8 18), .lit (.int .u8 12), .lit (.int .u8 5), .lit (.int .u8 63), .lit (.int .u8 55), .lit (.int .u8 48), .lit (.int .u8 27), .lit (.int .u8 60), .lit (.int .u8 41), .lit (.int .u8 37), .lit (.int .u8 16), .lit (.int .u8 46), .lit (.int .u8 35), .lit (.int .u8 44), .lit (.int .u8 21), .lit (.int .u8 52), .lit (.int .u8 32), .lit (.int .u8 23), .lit (.int .u8 11), .lit (.int .u8 54), .lit (.int .u8 26), .lit (.int .u8 40), .lit (.int .u8 15), .lit (.int .u8 34), .lit (.int .u8 20), .lit (.int .u8 31), .lit (.int .u8 10), .lit (.int .u8 25), .lit (.int .u8 14), .lit (.int .u8 19), .lit (.int .u8 9), .lit (.int .u8 13), .lit (.int .u8 8), .lit (.int .u8 7), .lit (.int .u8 6)]

/-- 'riverbanklaw01.BitsMix': WHATEVER THE INPUT: true; the input reads as it did. -/
def bitsMixSpec : ChangeSpec := { name := "bitsMix", fn := fun _ => fun
  | [d1, d2] => { results := [.lit (.bool true)], args := [d1, d2] }
  | _ => none }
def bitsMixRow : OpenClaim := { program := "ytkbimiimgcklaaadoor", sum := "8b868f1654150224f2a40b52060c45c18b994c948fafc0481d39450dcd009abd", func := "riverbank/riverbanklaw01.BitsMix", spec := "bitsMix", unfollowed := true, recurses := true, named := ["math/bits.deBruijn64tab"], apart := false, laid := [("math/bits.deBruijn64tab", laid_math_bits_deBruijn64tab)] }
def BitsMixSaid : Prop := bitsMixRow.holds Tryd.pinned (OpenSpec.ofChange bitsMixSpec)

/-- ITS FALSE NEIGHBOUR: 'it returns false'. Refute it at one input. -/
def bitsMixWrong : ChangeSpec := { name := "bitsMix", fn := fun _ => fun
  | [d1, d2] => { results := [.lit (.bool false)], args := [d1, d2] }
  | _ => none }
def BitsMixWrongFalsely : Prop := bitsMixRow.holds Tryd.pinned (OpenSpec.ofChange bitsMixWrong)

/-- 'riverbanklaw01.BitsOne': WHATEVER THE INPUT: true; the input reads as it did. -/
def bitsOneSpec : ChangeSpec := { name := "bitsOne", fn := fun _ => fun
  | [d1, d2] => { results := [.lit (.bool true)], args := [d1, d2] }
  | _ => none }
def bitsOneRow : OpenClaim := { program := "ytkbimiimgcklaaadoor", sum := "8b868f1654150224f2a40b52060c45c18b994c948fafc0481d39450dcd009abd", func := "riverbank/riverbanklaw01.BitsOne", spec := "bitsOne", unfollowed := true, recurses := true, named := ["math/bits.deBruijn64tab"], apart := false, laid := [("math/bits.deBruijn64tab", laid_math_bits_deBruijn64tab)] }
def BitsOneSaid : Prop := bitsOneRow.holds Tryd.pinned (OpenSpec.ofChange bitsOneSpec)

/-- ITS FALSE NEIGHBOUR: 'it returns false'. Refute it at one input. -/
def bitsOneWrong : ChangeSpec := { name := "bitsOne", fn := fun _ => fun
  | [d1, d2] => { results := [.lit (.bool false)], args := [d1, d2] }
  | _ => none }
def BitsOneWrongFalsely : Prop := bitsOneRow.holds Tryd.pinned (OpenSpec.ofChange bitsOneWrong)

/-- 'riverbanklaw01.BitsShift': WHATEVER THE INPUT: true; the input reads as it did. -/
def bitsShiftSpec : ChangeSpec := { name := "bitsShift", fn := fun _ => fun
  | [d1, d2, d3] => { results := [.lit (.bool true)], args := [d1, d2, d3] }
  | _ => none }
def bitsShiftRow : OpenClaim := { program := "ytkbimiimgcklaaadoor", sum := "8b868f1654150224f2a40b52060c45c18b994c948fafc0481d39450dcd009abd", func := "riverbank/riverbanklaw01.BitsShift", spec := "bitsShift", unfollowed := true, recurses := true, named := ["math/bits.deBruijn64tab"], apart := false, laid := [("math/bits.deBruijn64tab", laid_math_bits_deBruijn64tab)] }
def BitsShiftSaid : Prop := bitsShiftRow.holds Tryd.pinned (OpenSpec.ofChange bitsShiftSpec)

/-- ITS FALSE NEIGHBOUR: 'it returns false'. Refute it at one input. -/
def bitsShiftWrong : ChangeSpec := { name := "bitsShift", fn := fun _ => fun
  | [d1, d2, d3] => { results := [.lit (.bool false)], args := [d1, d2, d3] }
  | _ => none }
def BitsShiftWrongFalsely : Prop := bitsShiftRow.holds Tryd.pinned (OpenSpec.ofChange bitsShiftWrong)

/-- 'riverbanklaw01.BitsBack': WHATEVER THE INPUT: true; the input reads as it did. -/
def bitsBackSpec : ChangeSpec := { name := "bitsBack", fn := fun _ => fun
  | [d] => { results := [.lit (.bool true)], args := [d] }
  | _ => none }
def bitsBackRow : OpenClaim := { program := "ytkbimiimgcklaaadoor", sum := "8b868f1654150224f2a40b52060c45c18b994c948fafc0481d39450dcd009abd", func := "riverbank/riverbanklaw01.BitsBack", spec := "bitsBack", unfollowed := true, recurses := true, named := ["math/bits.deBruijn64tab"], apart := false, laid := [("math/bits.deBruijn64tab", laid_math_bits_deBruijn64tab)] }
def BitsBackSaid : Prop := bitsBackRow.holds Tryd.pinned (OpenSpec.ofChange bitsBackSpec)

/-- ITS FALSE NEIGHBOUR: 'it returns false'. Refute it at one input. -/
def bitsBackWrong : ChangeSpec := { name := "bitsBack", fn := fun _ => fun
  | [d] => { results := [.lit (.bool false)], args := [d] }
  | _ => none }
def BitsBackWrongFalsely : Prop := bitsBackRow.holds Tryd.pinned (OpenSpec.ofChange bitsBackWrong)

/-- 'riverbanklaw01.BitsLaws': WHATEVER THE INPUT: true; the input reads as it did. -/
def bitsLawsSpec : ChangeSpec := { name := "bitsLaws", fn := fun _ => fun
  | [d1, d2] => { results := [.lit (.bool true)], args := [d1, d2] }
  | _ => none }
def bitsLawsRow : OpenClaim := { program := "ytkbimiimgcklaaadoor", sum := "8b868f1654150224f2a40b52060c45c18b994c948fafc0481d39450dcd009abd", func := "riverbank/riverbanklaw01.BitsLaws", spec := "bitsLaws", unfollowed := true, recurses := true, named := ["math/bits.deBruijn64tab"], apart := false, laid := [("math/bits.deBruijn64tab", laid_math_bits_deBruijn64tab)] }
def BitsLawsSaid : Prop := bitsLawsRow.holds Tryd.pinned (OpenSpec.ofChange bitsLawsSpec)

/-- ITS FALSE NEIGHBOUR: 'it returns false'. Refute it at one input. -/
def bitsLawsWrong : ChangeSpec := { name := "bitsLaws", fn := fun _ => fun
  | [d1, d2] => { results := [.lit (.bool false)], args := [d1, d2] }
  | _ => none }
def BitsLawsWrongFalsely : Prop := bitsLawsRow.holds Tryd.pinned (OpenSpec.ofChange bitsLawsWrong)

/-- 'riverbanklaw01.BitsSteps': WHATEVER THE INPUT: true; the input reads as it did. -/
def bitsStepsSpec : ChangeSpec := { name := "bitsSteps", fn := fun _ => fun
  | [d1, d2, d3] => { results := [.lit (.bool true)], args := [d1, d2, d3] }
  | _ => none }
def bitsStepsRow : OpenClaim := { program := "ytkbimiimgcklaaadoor", sum := "8b868f1654150224f2a40b52060c45c18b994c948fafc0481d39450dcd009abd", func := "riverbank/riverbanklaw01.BitsSteps", spec := "bitsSteps", unfollowed := true, recurses := true, named := ["math/bits.deBruijn64tab"], apart := false, laid := [("math/bits.deBruijn64tab", laid_math_bits_deBruijn64tab)] }
def BitsStepsSaid : Prop := bitsStepsRow.holds Tryd.pinned (OpenSpec.ofChange bitsStepsSpec)

/-- ITS FALSE NEIGHBOUR: 'it returns false'. Refute it at one input. -/
def bitsStepsWrong : ChangeSpec := { name := "bitsSteps", fn := fun _ => fun
  | [d1, d2, d3] => { results := [.lit (.bool false)], args := [d1, d2, d3] }
  | _ => none }
def BitsStepsWrongFalsely : Prop := bitsStepsRow.holds Tryd.pinned (OpenSpec.ofChange bitsStepsWrong)

/-- 'riverbanklaw01.BitsEnds': WHATEVER THE INPUT: true; the input reads as it did. -/
def bitsEndsSpec : ChangeSpec := { name := "bitsEnds", fn := fun _ => fun
  | [d] => { results := [.lit (.bool true)], args := [d] }
  | _ => none }
def bitsEndsRow : OpenClaim := { program := "ytkbimiimgcklaaadoor", sum := "8b868f1654150224f2a40b52060c45c18b994c948fafc0481d39450dcd009abd", func := "riverbank/riverbanklaw01.BitsEnds", spec := "bitsEnds", unfollowed := true, recurses := true, named := ["math/bits.deBruijn64tab"], apart := false, laid := [("math/bits.deBruijn64tab", laid_math_bits_deBruijn64tab)] }
def BitsEndsSaid : Prop := bitsEndsRow.holds Tryd.pinned (OpenSpec.ofChange bitsEndsSpec)

/-- ITS FALSE NEIGHBOUR: 'it returns false'. Refute it at one input. -/
def bitsEndsWrong : ChangeSpec := { name := "bitsEnds", fn := fun _ => fun
  | [d] => { results := [.lit (.bool false)], args := [d] }
  | _ => none }
def BitsEndsWrongFalsely : Prop := bitsEndsRow.holds Tryd.pinned (OpenSpec.ofChange bitsEndsWrong)

/-- 'riverbanklaw02.BoardTells': WHATEVER THE INPUT: true; the input reads as it did. -/
def boardTellsSpec : ChangeSpec := { name := "boardTells", fn := fun _ => fun
  | [d1, d2, d3] => { results := [.lit (.bool true)], args := [d1, d2, d3] }
  | _ => none }
def boardTellsRow : OpenClaim := { program := "ytkbimiimgcklaaadoor", sum := "8b868f1654150224f2a40b52060c45c18b994c948fafc0481d39450dcd009abd", func := "riverbank/riverbanklaw02.BoardTells", spec := "boardTells", inPlace := ["internal/bytealg.IndexByteString"], unfollowed := true, recurses := true, named := ["math/bits.deBruijn64tab"], apart := false, laid := [("math/bits.deBruijn64tab", laid_math_bits_deBruijn64tab)] }
def BoardTellsSaid : Prop := boardTellsRow.holds Tryd.pinned (OpenSpec.ofChange boardTellsSpec)

/-- ITS FALSE NEIGHBOUR: 'it returns false'. Refute it at one input. -/
def boardTellsWrong : ChangeSpec := { name := "boardTells", fn := fun _ => fun
  | [d1, d2, d3] => { results := [.lit (.bool false)], args := [d1, d2, d3] }
  | _ => none }
def BoardTellsWrongFalsely : Prop := boardTellsRow.holds Tryd.pinned (OpenSpec.ofChange boardTellsWrong)

/-- 'riverbanklaw02.BoardWords': WHATEVER THE INPUT: true; the input reads as it did. -/
def boardWordsSpec : ChangeSpec := { name := "boardWords", fn := fun _ => fun
  | [d] => { results := [.lit (.bool true)], args := [d] }
  | _ => none }
def boardWordsRow : OpenClaim := { program := "ytkbimiimgcklaaadoor", sum := "8b868f1654150224f2a40b52060c45c18b994c948fafc0481d39450dcd009abd", func := "riverbank/riverbanklaw02.BoardWords", spec := "boardWords", inPlace := ["internal/bytealg.IndexByteString"], unfollowed := true, recurses := true, named := ["math/bits.deBruijn64tab"], apart := false, laid := [("math/bits.deBruijn64tab", laid_math_bits_deBruijn64tab)] }
def BoardWordsSaid : Prop := boardWordsRow.holds Tryd.pinned (OpenSpec.ofChange boardWordsSpec)

/-- ITS FALSE NEIGHBOUR: 'it returns false'. Refute it at one input. -/
def boardWordsWrong : ChangeSpec := { name := "boardWords", fn := fun _ => fun
  | [d] => { results := [.lit (.bool false)], args := [d] }
  | _ => none }
def BoardWordsWrongFalsely : Prop := boardWordsRow.holds Tryd.pinned (OpenSpec.ofChange boardWordsWrong)

/-- 'riverbanklaw02.BoardTurn': WHATEVER THE INPUT: true; the input reads as it did. -/
def boardTurnSpec : ChangeSpec := { name := "boardTurn", fn := fun _ => fun
  | [d1, d2] => { results := [.lit (.bool true)], args := [d1, d2] }
  | _ => none }
def boardTurnRow : OpenClaim := { program := "ytkbimiimgcklaaadoor", sum := "8b868f1654150224f2a40b52060c45c18b994c948fafc0481d39450dcd009abd", func := "riverbank/riverbanklaw02.BoardTurn", spec := "boardTurn", inPlace := ["internal/bytealg.IndexByteString"], unfollowed := true, recurses := true, named := ["math/bits.deBruijn64tab"], apart := false, laid := [("math/bits.deBruijn64tab", laid_math_bits_deBruijn64tab)] }
def BoardTurnSaid : Prop := boardTurnRow.holds Tryd.pinned (OpenSpec.ofChange boardTurnSpec)

/-- ITS FALSE NEIGHBOUR: 'it returns false'. Refute it at one input. -/
def boardTurnWrong : ChangeSpec := { name := "boardTurn", fn := fun _ => fun
  | [d1, d2] => { results := [.lit (.bool false)], args := [d1, d2] }
  | _ => none }
def BoardTurnWrongFalsely : Prop := boardTurnRow.holds Tryd.pinned (OpenSpec.ofChange boardTurnWrong)

/-- 'riverbanklaw02.BoardPut': WHATEVER THE INPUT: true; the input reads as it did. -/
def boardPutSpec : ChangeSpec := { name := "boardPut", fn := fun _ => fun
  | [d] => { results := [.lit (.bool true)], args := [d] }
  | _ => none }
def boardPutRow : OpenClaim := { program := "ytkbimiimgcklaaadoor", sum := "8b868f1654150224f2a40b52060c45c18b994c948fafc0481d39450dcd009abd", func := "riverbank/riverbanklaw02.BoardPut", spec := "boardPut", inPlace := ["internal/bytealg.IndexByteString"], unfollowed := true, recurses := true, named := ["math/bits.deBruijn64tab"], apart := false, laid := [("math/bits.deBruijn64tab", laid_math_bits_deBruijn64tab)] }
def BoardPutSaid : Prop := boardPutRow.holds Tryd.pinned (OpenSpec.ofChange boardPutSpec)

/-- ITS FALSE NEIGHBOUR: 'it returns false'. Refute it at one input. -/
def boardPutWrong : ChangeSpec := { name := "boardPut", fn := fun _ => fun
  | [d] => { results := [.lit (.bool false)], args := [d] }
  | _ => none }
def BoardPutWrongFalsely : Prop := boardPutRow.holds Tryd.pinned (OpenSpec.ofChange boardPutWrong)

/-- 'riverbanklaw02.BoardCounts': WHATEVER THE INPUT: true; the input reads as it did. -/
def boardCountsSpec : ChangeSpec := { name := "boardCounts", fn := fun _ => fun
  | [d1, d2] => { results := [.lit (.bool true)], args := [d1, d2] }
  | _ => none }
def boardCountsRow : OpenClaim := { program := "ytkbimiimgcklaaadoor", sum := "8b868f1654150224f2a40b52060c45c18b994c948fafc0481d39450dcd009abd", func := "riverbank/riverbanklaw02.BoardCounts", spec := "boardCounts", inPlace := ["internal/bytealg.IndexByteString"], unfollowed := true, recurses := true, named := ["math/bits.deBruijn64tab"], apart := false, laid := [("math/bits.deBruijn64tab", laid_math_bits_deBruijn64tab)] }
def BoardCountsSaid : Prop := boardCountsRow.holds Tryd.pinned (OpenSpec.ofChange boardCountsSpec)

/-- ITS FALSE NEIGHBOUR: 'it returns false'. Refute it at one input. -/
def boardCountsWrong : ChangeSpec := { name := "boardCounts", fn := fun _ => fun
  | [d1, d2] => { results := [.lit (.bool false)], args := [d1, d2] }
  | _ => none }
def BoardCountsWrongFalsely : Prop := boardCountsRow.holds Tryd.pinned (OpenSpec.ofChange boardCountsWrong)

/-- 'riverbanklaw02.BoardSquares': WHATEVER THE INPUT: true; the input reads as it did. -/
def boardSquaresSpec : ChangeSpec := { name := "boardSquares", fn := fun _ => fun
  | [d1, d2] => { results := [.lit (.bool true)], args := [d1, d2] }
  | _ => none }
def boardSquaresRow : OpenClaim := { program := "ytkbimiimgcklaaadoor", sum := "8b868f1654150224f2a40b52060c45c18b994c948fafc0481d39450dcd009abd", func := "riverbank/riverbanklaw02.BoardSquares", spec := "boardSquares", inPlace := ["internal/bytealg.IndexByteString"], unfollowed := true, recurses := true, named := ["math/bits.deBruijn64tab"], apart := false, laid := [("math/bits.deBruijn64tab", laid_math_bits_deBruijn64tab)] }
def BoardSquaresSaid : Prop := boardSquaresRow.holds Tryd.pinned (OpenSpec.ofChange boardSquaresSpec)

/-- ITS FALSE NEIGHBOUR: 'it returns false'. Refute it at one input. -/
def boardSquaresWrong : ChangeSpec := { name := "boardSquares", fn := fun _ => fun
  | [d1, d2] => { results := [.lit (.bool false)], args := [d1, d2] }
  | _ => none }
def BoardSquaresWrongFalsely : Prop := boardSquaresRow.holds Tryd.pinned (OpenSpec.ofChange boardSquaresWrong)

/-- 'riverbanklaw03.PlaceMays': WHATEVER THE INPUT: true; the input reads as it did. -/
def placeMaysSpec : ChangeSpec := { name := "placeMays", fn := fun _ => fun
  | [d1, d2, d3] => { results := [.lit (.bool true)], args := [d1, d2, d3] }
  | _ => none }
def placeMaysRow : OpenClaim := { program := "ytkbimiimgcklaaadoor", sum := "8b868f1654150224f2a40b52060c45c18b994c948fafc0481d39450dcd009abd", func := "riverbank/riverbanklaw03.PlaceMays", spec := "placeMays", inPlace := ["internal/bytealg.IndexByteString"], unfollowed := true, recurses := true, named := ["math/bits.deBruijn64tab"], apart := false, laid := [("math/bits.deBruijn64tab", laid_math_bits_deBruijn64tab)] }
def PlaceMaysSaid : Prop := placeMaysRow.holds Tryd.pinned (OpenSpec.ofChange placeMaysSpec)

/-- ITS FALSE NEIGHBOUR: 'it returns false'. Refute it at one input. -/
def placeMaysWrong : ChangeSpec := { name := "placeMays", fn := fun _ => fun
  | [d1, d2, d3] => { results := [.lit (.bool false)], args := [d1, d2, d3] }
  | _ => none }
def PlaceMaysWrongFalsely : Prop := placeMaysRow.holds Tryd.pinned (OpenSpec.ofChange placeMaysWrong)

/-- 'riverbanklaw03.PlaceChecks': WHATEVER THE INPUT: true; the input reads as it did. -/
def placeChecksSpec : ChangeSpec := { name := "placeChecks", fn := fun _ => fun
  | [d] => { results := [.lit (.bool true)], args := [d] }
  | _ => none }
def placeChecksRow : OpenClaim := { program := "ytkbimiimgcklaaadoor", sum := "8b868f1654150224f2a40b52060c45c18b994c948fafc0481d39450dcd009abd", func := "riverbank/riverbanklaw03.PlaceChecks", spec := "placeChecks", inPlace := ["internal/bytealg.IndexByteString"], unfollowed := true, recurses := true, named := ["math/bits.deBruijn64tab"], apart := false, laid := [("math/bits.deBruijn64tab", laid_math_bits_deBruijn64tab)] }
def PlaceChecksSaid : Prop := placeChecksRow.holds Tryd.pinned (OpenSpec.ofChange placeChecksSpec)

/-- ITS FALSE NEIGHBOUR: 'it returns false'. Refute it at one input. -/
def placeChecksWrong : ChangeSpec := { name := "placeChecks", fn := fun _ => fun
  | [d] => { results := [.lit (.bool false)], args := [d] }
  | _ => none }
def PlaceChecksWrongFalsely : Prop := placeChecksRow.holds Tryd.pinned (OpenSpec.ofChange placeChecksWrong)

/-- 'riverbanklaw03.PlaceTurn': WHATEVER THE INPUT: true; the input reads as it did. -/
def placeTurnSpec : ChangeSpec := { name := "placeTurn", fn := fun _ => fun
  | [d1, d2] => { results := [.lit (.bool true)], args := [d1, d2] }
  | _ => none }
def placeTurnRow : OpenClaim := { program := "ytkbimiimgcklaaadoor", sum := "8b868f1654150224f2a40b52060c45c18b994c948fafc0481d39450dcd009abd", func := "riverbank/riverbanklaw03.PlaceTurn", spec := "placeTurn", inPlace := ["internal/bytealg.IndexByteString"], unfollowed := true, recurses := true, named := ["math/bits.deBruijn64tab"], apart := false, laid := [("math/bits.deBruijn64tab", laid_math_bits_deBruijn64tab)] }
def PlaceTurnSaid : Prop := placeTurnRow.holds Tryd.pinned (OpenSpec.ofChange placeTurnSpec)

/-- ITS FALSE NEIGHBOUR: 'it returns false'. Refute it at one input. -/
def placeTurnWrong : ChangeSpec := { name := "placeTurn", fn := fun _ => fun
  | [d1, d2] => { results := [.lit (.bool false)], args := [d1, d2] }
  | _ => none }
def PlaceTurnWrongFalsely : Prop := placeTurnRow.holds Tryd.pinned (OpenSpec.ofChange placeTurnWrong)

/-- 'riverbanklaw03.PlaceInside': WHATEVER THE INPUT: true; the input reads as it did. -/
def placeInsideSpec : ChangeSpec := { name := "placeInside", fn := fun _ => fun
  | [d1, d2] => { results := [.lit (.bool true)], args := [d1, d2] }
  | _ => none }
def placeInsideRow : OpenClaim := { program := "ytkbimiimgcklaaadoor", sum := "8b868f1654150224f2a40b52060c45c18b994c948fafc0481d39450dcd009abd", func := "riverbank/riverbanklaw03.PlaceInside", spec := "placeInside", inPlace := ["internal/bytealg.IndexByteString"], unfollowed := true, recurses := true, named := ["math/bits.deBruijn64tab"], apart := false, laid := [("math/bits.deBruijn64tab", laid_math_bits_deBruijn64tab)] }
def PlaceInsideSaid : Prop := placeInsideRow.holds Tryd.pinned (OpenSpec.ofChange placeInsideSpec)

/-- ITS FALSE NEIGHBOUR: 'it returns false'. Refute it at one input. -/
def placeInsideWrong : ChangeSpec := { name := "placeInside", fn := fun _ => fun
  | [d1, d2] => { results := [.lit (.bool false)], args := [d1, d2] }
  | _ => none }
def PlaceInsideWrongFalsely : Prop := placeInsideRow.holds Tryd.pinned (OpenSpec.ofChange placeInsideWrong)

/-- 'riverbanklaw03.PlaceFewer': WHATEVER THE INPUT: true; the input reads as it did. -/
def placeFewerSpec : ChangeSpec := { name := "placeFewer", fn := fun _ => fun
  | [d1, d2] => { results := [.lit (.bool true)], args := [d1, d2] }
  | _ => none }
def placeFewerRow : OpenClaim := { program := "ytkbimiimgcklaaadoor", sum := "8b868f1654150224f2a40b52060c45c18b994c948fafc0481d39450dcd009abd", func := "riverbank/riverbanklaw03.PlaceFewer", spec := "placeFewer", inPlace := ["internal/bytealg.IndexByteString"], unfollowed := true, recurses := true, named := ["math/bits.deBruijn64tab"], apart := false, laid := [("math/bits.deBruijn64tab", laid_math_bits_deBruijn64tab)] }
def PlaceFewerSaid : Prop := placeFewerRow.holds Tryd.pinned (OpenSpec.ofChange placeFewerSpec)

/-- ITS FALSE NEIGHBOUR: 'it returns false'. Refute it at one input. -/
def placeFewerWrong : ChangeSpec := { name := "placeFewer", fn := fun _ => fun
  | [d1, d2] => { results := [.lit (.bool false)], args := [d1, d2] }
  | _ => none }
def PlaceFewerWrongFalsely : Prop := placeFewerRow.holds Tryd.pinned (OpenSpec.ofChange placeFewerWrong)

/-- 'riverbanklaw03.PlaceMore': WHATEVER THE INPUT: true; the input reads as it did. -/
def placeMoreSpec : ChangeSpec := { name := "placeMore", fn := fun _ => fun
  | [d1, d2, d3] => { results := [.lit (.bool true)], args := [d1, d2, d3] }
  | _ => none }
def placeMoreRow : OpenClaim := { program := "ytkbimiimgcklaaadoor", sum := "8b868f1654150224f2a40b52060c45c18b994c948fafc0481d39450dcd009abd", func := "riverbank/riverbanklaw03.PlaceMore", spec := "placeMore", inPlace := ["internal/bytealg.IndexByteString"], unfollowed := true, recurses := true, named := ["math/bits.deBruijn64tab"], apart := false, laid := [("math/bits.deBruijn64tab", laid_math_bits_deBruijn64tab)] }
def PlaceMoreSaid : Prop := placeMoreRow.holds Tryd.pinned (OpenSpec.ofChange placeMoreSpec)

/-- ITS FALSE NEIGHBOUR: 'it returns false'. Refute it at one input. -/
def placeMoreWrong : ChangeSpec := { name := "placeMore", fn := fun _ => fun
  | [d1, d2, d3] => { results := [.lit (.bool false)], args := [d1, d2, d3] }
  | _ => none }
def PlaceMoreWrongFalsely : Prop := placeMoreRow.holds Tryd.pinned (OpenSpec.ofChange placeMoreWrong)

/- THE SECOND FORM. 'bulk': how many values and letters a reading holds, each counted each time it is reached (what is shared counts as often as it is met; a slice's spare places count too). A statement '..UptoSaid' is the law's where the arguments, and the package variables that the reading takes, are together of bulk at most 1048576: NARROWER than '..Said'. Prove '..Said' where nothing that the law and all that it calls make is longer than what came in: it says more and counts as full. Else prove '..UptoSaid'. A law counts once. -/
mutual
def uptoBulk {H : Type} : DataW H → Nat
  | .lit (.string bytes) => bytes.length + 1
  | .lit _ => 1
  | .nil => 1
  | .ptr d => uptoBulk d + 1
  | .slice elems spare => uptoBulkAll elems + uptoBulkAll spare + 1
  | .agg parts => uptoBulkAll parts + 1
  | .iface _ d => uptoBulk d + 1
  | .map entries => uptoBulkEntries entries + 1
  | .held _ => 1
def uptoBulkAll {H : Type} : List (DataW H) → Nat
  | [] => 0
  | d :: r => uptoBulk d + uptoBulkAll r
def uptoBulkEntries {H : Type} : List (Lit × DataW H) → Nat
  | [] => 0
  | x :: r => uptoBulkEntry x + uptoBulkEntries r
def uptoBulkEntry {H : Type} : Lit × DataW H → Nat
  | (.string bytes, d) => bytes.length + uptoBulk d + 1
  | (_, d) => uptoBulk d + 1
 end
def uptoSmall : (H : Type) → List (DataW H) → Bool := fun _ ds => decide (uptoBulkAll ds ≤ 1048576)
def OpenSpec.upto (s : _root_.Go.ChangeSpec) : _root_.Go.OpenSpec := { _root_.Go.OpenSpec.ofChange s with cond := some uptoSmall }

/-- 'riverbanklaw01.BitsMix', WHERE WHAT IT READS IS OF BULK AT MOST 1048576: true; the input reads as it did. -/
def bitsMixUptoRow : OpenClaim := { program := "ytkbimiimgcklaaadoor", sum := "8b868f1654150224f2a40b52060c45c18b994c948fafc0481d39450dcd009abd", func := "riverbank/riverbanklaw01.BitsMix", spec := "bitsMix", unfollowed := true, recurses := true, named := ["math/bits.deBruijn64tab"], apart := false, laid := [("math/bits.deBruijn64tab", laid_math_bits_deBruijn64tab)], narrowed := true }
def BitsMixUptoSaid : Prop := bitsMixUptoRow.holds Tryd.pinned (OpenSpec.upto bitsMixSpec)

/-- 'riverbanklaw01.BitsOne', WHERE WHAT IT READS IS OF BULK AT MOST 1048576: true; the input reads as it did. -/
def bitsOneUptoRow : OpenClaim := { program := "ytkbimiimgcklaaadoor", sum := "8b868f1654150224f2a40b52060c45c18b994c948fafc0481d39450dcd009abd", func := "riverbank/riverbanklaw01.BitsOne", spec := "bitsOne", unfollowed := true, recurses := true, named := ["math/bits.deBruijn64tab"], apart := false, laid := [("math/bits.deBruijn64tab", laid_math_bits_deBruijn64tab)], narrowed := true }
def BitsOneUptoSaid : Prop := bitsOneUptoRow.holds Tryd.pinned (OpenSpec.upto bitsOneSpec)

/-- 'riverbanklaw01.BitsShift', WHERE WHAT IT READS IS OF BULK AT MOST 1048576: true; the input reads as it did. -/
def bitsShiftUptoRow : OpenClaim := { program := "ytkbimiimgcklaaadoor", sum := "8b868f1654150224f2a40b52060c45c18b994c948fafc0481d39450dcd009abd", func := "riverbank/riverbanklaw01.BitsShift", spec := "bitsShift", unfollowed := true, recurses := true, named := ["math/bits.deBruijn64tab"], apart := false, laid := [("math/bits.deBruijn64tab", laid_math_bits_deBruijn64tab)], narrowed := true }
def BitsShiftUptoSaid : Prop := bitsShiftUptoRow.holds Tryd.pinned (OpenSpec.upto bitsShiftSpec)

/-- 'riverbanklaw01.BitsBack', WHERE WHAT IT READS IS OF BULK AT MOST 1048576: true; the input reads as it did. -/
def bitsBackUptoRow : OpenClaim := { program := "ytkbimiimgcklaaadoor", sum := "8b868f1654150224f2a40b52060c45c18b994c948fafc0481d39450dcd009abd", func := "riverbank/riverbanklaw01.BitsBack", spec := "bitsBack", unfollowed := true, recurses := true, named := ["math/bits.deBruijn64tab"], apart := false, laid := [("math/bits.deBruijn64tab", laid_math_bits_deBruijn64tab)], narrowed := true }
def BitsBackUptoSaid : Prop := bitsBackUptoRow.holds Tryd.pinned (OpenSpec.upto bitsBackSpec)

/-- 'riverbanklaw01.BitsLaws', WHERE WHAT IT READS IS OF BULK AT MOST 1048576: true; the input reads as it did. -/
def bitsLawsUptoRow : OpenClaim := { program := "ytkbimiimgcklaaadoor", sum := "8b868f1654150224f2a40b52060c45c18b994c948fafc0481d39450dcd009abd", func := "riverbank/riverbanklaw01.BitsLaws", spec := "bitsLaws", unfollowed := true, recurses := true, named := ["math/bits.deBruijn64tab"], apart := false, laid := [("math/bits.deBruijn64tab", laid_math_bits_deBruijn64tab)], narrowed := true }
def BitsLawsUptoSaid : Prop := bitsLawsUptoRow.holds Tryd.pinned (OpenSpec.upto bitsLawsSpec)

/-- 'riverbanklaw01.BitsSteps', WHERE WHAT IT READS IS OF BULK AT MOST 1048576: true; the input reads as it did. -/
def bitsStepsUptoRow : OpenClaim := { program := "ytkbimiimgcklaaadoor", sum := "8b868f1654150224f2a40b52060c45c18b994c948fafc0481d39450dcd009abd", func := "riverbank/riverbanklaw01.BitsSteps", spec := "bitsSteps", unfollowed := true, recurses := true, named := ["math/bits.deBruijn64tab"], apart := false, laid := [("math/bits.deBruijn64tab", laid_math_bits_deBruijn64tab)], narrowed := true }
def BitsStepsUptoSaid : Prop := bitsStepsUptoRow.holds Tryd.pinned (OpenSpec.upto bitsStepsSpec)

/-- 'riverbanklaw01.BitsEnds', WHERE WHAT IT READS IS OF BULK AT MOST 1048576: true; the input reads as it did. -/
def bitsEndsUptoRow : OpenClaim := { program := "ytkbimiimgcklaaadoor", sum := "8b868f1654150224f2a40b52060c45c18b994c948fafc0481d39450dcd009abd", func := "riverbank/riverbanklaw01.BitsEnds", spec := "bitsEnds", unfollowed := true, recurses := true, named := ["math/bits.deBruijn64tab"], apart := false, laid := [("math/bits.deBruijn64tab", laid_math_bits_deBruijn64tab)], narrowed := true }
def BitsEndsUptoSaid : Prop := bitsEndsUptoRow.holds Tryd.pinned (OpenSpec.upto bitsEndsSpec)

/-- 'riverbanklaw02.BoardTells', WHERE WHAT IT READS IS OF BULK AT MOST 1048576: true; the input reads as it did. -/
def boardTellsUptoRow : OpenClaim := { program := "ytkbimiimgcklaaadoor", sum := "8b868f1654150224f2a40b52060c45c18b994c948fafc0481d39450dcd009abd", func := "riverbank/riverbanklaw02.BoardTells", spec := "boardTells", inPlace := ["internal/bytealg.IndexByteString"], unfollowed := true, recurses := true, named := ["math/bits.deBruijn64tab"], apart := false, laid := [("math/bits.deBruijn64tab", laid_math_bits_deBruijn64tab)], narrowed := true }
def BoardTellsUptoSaid : Prop := boardTellsUptoRow.holds Tryd.pinned (OpenSpec.upto boardTellsSpec)

/-- 'riverbanklaw02.BoardWords', WHERE WHAT IT READS IS OF BULK AT MOST 1048576: true; the input reads as it did. -/
def boardWordsUptoRow : OpenClaim := { program := "ytkbimiimgcklaaadoor", sum := "8b868f1654150224f2a40b52060c45c18b994c948fafc0481d39450dcd009abd", func := "riverbank/riverbanklaw02.BoardWords", spec := "boardWords", inPlace := ["internal/bytealg.IndexByteString"], unfollowed := true, recurses := true, named := ["math/bits.deBruijn64tab"], apart := false, laid := [("math/bits.deBruijn64tab", laid_math_bits_deBruijn64tab)], narrowed := true }
def BoardWordsUptoSaid : Prop := boardWordsUptoRow.holds Tryd.pinned (OpenSpec.upto boardWordsSpec)

/-- 'riverbanklaw02.BoardTurn', WHERE WHAT IT READS IS OF BULK AT MOST 1048576: true; the input reads as it did. -/
def boardTurnUptoRow : OpenClaim := { program := "ytkbimiimgcklaaadoor", sum := "8b868f1654150224f2a40b52060c45c18b994c948fafc0481d39450dcd009abd", func := "riverbank/riverbanklaw02.BoardTurn", spec := "boardTurn", inPlace := ["internal/bytealg.IndexByteString"], unfollowed := true, recurses := true, named := ["math/bits.deBruijn64tab"], apart := false, laid := [("math/bits.deBruijn64tab", laid_math_bits_deBruijn64tab)], narrowed := true }
def BoardTurnUptoSaid : Prop := boardTurnUptoRow.holds Tryd.pinned (OpenSpec.upto boardTurnSpec)

/-- 'riverbanklaw02.BoardPut', WHERE WHAT IT READS IS OF BULK AT MOST 1048576: true; the input reads as it did. -/
def boardPutUptoRow : OpenClaim := { program := "ytkbimiimgcklaaadoor", sum := "8b868f1654150224f2a40b52060c45c18b994c948fafc0481d39450dcd009abd", func := "riverbank/riverbanklaw02.BoardPut", spec := "boardPut", inPlace := ["internal/bytealg.IndexByteString"], unfollowed := true, recurses := true, named := ["math/bits.deBruijn64tab"], apart := false, laid := [("math/bits.deBruijn64tab", laid_math_bits_deBruijn64tab)], narrowed := true }
def BoardPutUptoSaid : Prop := boardPutUptoRow.holds Tryd.pinned (OpenSpec.upto boardPutSpec)

/-- 'riverbanklaw02.BoardCounts', WHERE WHAT IT READS IS OF BULK AT MOST 1048576: true; the input reads as it did. -/
def boardCountsUptoRow : OpenClaim := { program := "ytkbimiimgcklaaadoor", sum := "8b868f1654150224f2a40b52060c45c18b994c948fafc0481d39450dcd009abd", func := "riverbank/riverbanklaw02.BoardCounts", spec := "boardCounts", inPlace := ["internal/bytealg.IndexByteString"], unfollowed := true, recurses := true, named := ["math/bits.deBruijn64tab"], apart := false, laid := [("math/bits.deBruijn64tab", laid_math_bits_deBruijn64tab)], narrowed := true }
def BoardCountsUptoSaid : Prop := boardCountsUptoRow.holds Tryd.pinned (OpenSpec.upto boardCountsSpec)

/-- 'riverbanklaw02.BoardSquares', WHERE WHAT IT READS IS OF BULK AT MOST 1048576: true; the input reads as it did. -/
def boardSquaresUptoRow : OpenClaim := { program := "ytkbimiimgcklaaadoor", sum := "8b868f1654150224f2a40b52060c45c18b994c948fafc0481d39450dcd009abd", func := "riverbank/riverbanklaw02.BoardSquares", spec := "boardSquares", inPlace := ["internal/bytealg.IndexByteString"], unfollowed := true, recurses := true, named := ["math/bits.deBruijn64tab"], apart := false, laid := [("math/bits.deBruijn64tab", laid_math_bits_deBruijn64tab)], narrowed := true }
def BoardSquaresUptoSaid : Prop := boardSquaresUptoRow.holds Tryd.pinned (OpenSpec.upto boardSquaresSpec)

/-- 'riverbanklaw03.PlaceMays', WHERE WHAT IT READS IS OF BULK AT MOST 1048576: true; the input reads as it did. -/
def placeMaysUptoRow : OpenClaim := { program := "ytkbimiimgcklaaadoor", sum := "8b868f1654150224f2a40b52060c45c18b994c948fafc0481d39450dcd009abd", func := "riverbank/riverbanklaw03.PlaceMays", spec := "placeMays", inPlace := ["internal/bytealg.IndexByteString"], unfollowed := true, recurses := true, named := ["math/bits.deBruijn64tab"], apart := false, laid := [("math/bits.deBruijn64tab", laid_math_bits_deBruijn64tab)], narrowed := true }
def PlaceMaysUptoSaid : Prop := placeMaysUptoRow.holds Tryd.pinned (OpenSpec.upto placeMaysSpec)

/-- 'riverbanklaw03.PlaceChecks', WHERE WHAT IT READS IS OF BULK AT MOST 1048576: true; the input reads as it did. -/
def placeChecksUptoRow : OpenClaim := { program := "ytkbimiimgcklaaadoor", sum := "8b868f1654150224f2a40b52060c45c18b994c948fafc0481d39450dcd009abd", func := "riverbank/riverbanklaw03.PlaceChecks", spec := "placeChecks", inPlace := ["internal/bytealg.IndexByteString"], unfollowed := true, recurses := true, named := ["math/bits.deBruijn64tab"], apart := false, laid := [("math/bits.deBruijn64tab", laid_math_bits_deBruijn64tab)], narrowed := true }
def PlaceChecksUptoSaid : Prop := placeChecksUptoRow.holds Tryd.pinned (OpenSpec.upto placeChecksSpec)

/-- 'riverbanklaw03.PlaceTurn', WHERE WHAT IT READS IS OF BULK AT MOST 1048576: true; the input reads as it did. -/
def placeTurnUptoRow : OpenClaim := { program := "ytkbimiimgcklaaadoor", sum := "8b868f1654150224f2a40b52060c45c18b994c948fafc0481d39450dcd009abd", func := "riverbank/riverbanklaw03.PlaceTurn", spec := "placeTurn", inPlace := ["internal/bytealg.IndexByteString"], unfollowed := true, recurses := true, named := ["math/bits.deBruijn64tab"], apart := false, laid := [("math/bits.deBruijn64tab", laid_math_bits_deBruijn64tab)], narrowed := true }
def PlaceTurnUptoSaid : Prop := placeTurnUptoRow.holds Tryd.pinned (OpenSpec.upto placeTurnSpec)

/-- 'riverbanklaw03.PlaceInside', WHERE WHAT IT READS IS OF BULK AT MOST 1048576: true; the input reads as it did. -/
def placeInsideUptoRow : OpenClaim := { program := "ytkbimiimgcklaaadoor", sum := "8b868f1654150224f2a40b52060c45c18b994c948fafc0481d39450dcd009abd", func := "riverbank/riverbanklaw03.PlaceInside", spec := "placeInside", inPlace := ["internal/bytealg.IndexByteString"], unfollowed := true, recurses := true, named := ["math/bits.deBruijn64tab"], apart := false, laid := [("math/bits.deBruijn64tab", laid_math_bits_deBruijn64tab)], narrowed := true }
def PlaceInsideUptoSaid : Prop := placeInsideUptoRow.holds Tryd.pinned (OpenSpec.upto placeInsideSpec)

/-- 'riverbanklaw03.PlaceFewer', WHERE WHAT IT READS IS OF BULK AT MOST 1048576: true; the input reads as it did. -/
def placeFewerUptoRow : OpenClaim := { program := "ytkbimiimgcklaaadoor", sum := "8b868f1654150224f2a40b52060c45c18b994c948fafc0481d39450dcd009abd", func := "riverbank/riverbanklaw03.PlaceFewer", spec := "placeFewer", inPlace := ["internal/bytealg.IndexByteString"], unfollowed := true, recurses := true, named := ["math/bits.deBruijn64tab"], apart := false, laid := [("math/bits.deBruijn64tab", laid_math_bits_deBruijn64tab)], narrowed := true }
def PlaceFewerUptoSaid : Prop := placeFewerUptoRow.holds Tryd.pinned (OpenSpec.upto placeFewerSpec)

/-- 'riverbanklaw03.PlaceMore', WHERE WHAT IT READS IS OF BULK AT MOST 1048576: true; the input reads as it did. -/
def placeMoreUptoRow : OpenClaim := { program := "ytkbimiimgcklaaadoor", sum := "8b868f1654150224f2a40b52060c45c18b994c948fafc0481d39450dcd009abd", func := "riverbank/riverbanklaw03.PlaceMore", spec := "placeMore", inPlace := ["internal/bytealg.IndexByteString"], unfollowed := true, recurses := true, named := ["math/bits.deBruijn64tab"], apart := false, laid := [("math/bits.deBruijn64tab", laid_math_bits_deBruijn64tab)], narrowed := true }
def PlaceMoreUptoSaid : Prop := placeMoreUptoRow.holds Tryd.pinned (OpenSpec.upto placeMoreSpec)

end Rows
end Go.Proofs.YtkbimiimgcklaaaDoor

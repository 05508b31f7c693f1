/-
  DERIVED. GIVEN WITH THE SEED: THE CARDS: each row of YthhnlbfiilofjaaGreatDoorRows.lean that lists a variable, with what it lists TIED to the program's text (the seventh form; the later family's looks); each row that meets fmt, with fmt's text TOLD by the authors' own Lean function (tested against real Go, not proved from fmt's source: count such statements apart). THE CARD IS WHAT COUNTS. Prove the row's statement (the work); the ties are given (YthhnlbfiilofjaaGreatDoorTie.lean); close each card by the builder's one call (the guide's Derived/Test/ToyasCard.lean, 'card_holds'). Laid BY PROGRAM, IN A SANDBOX (cutbox-door.mjs). By AI agents, Wed Nov 11 2026. No macro, syntax, notation, axiom, sorry.
-/
import Derived.Test.YthhnlbfiilofjaaGreatDoorRows
import GoSem.ClaimSeven
namespace Go.Proofs.YthhnlbfiilofjaaGreatDoor
namespace Rows

/-- THE TIED CARD OF 'weightedlaw23.EqualFindsTheFirstDifference'. -/
def equalFindsTheFirstDifferenceCard : Claim7 := { stood := { row := equalFindsTheFirstDifferenceRow, standIns := [], harness := (true, "6a70053fcea31d3263a45d617a4c04f335a51c4783327c18b5afa7b1fe8ae4c9"), looks := true }, kinds := [], alts := [], laidByText := true, laidKinds := [.data, .data, .data, .data, .sentinel, .sentinel, .pinned], laidTests := true, laidLooks := .later }
def EqualFindsTheFirstDifferenceCardSaid : Prop := Claim7.holds Tryz.pinned (.plain (OpenSpec.ofChange equalFindsTheFirstDifferenceSpec)) equalFindsTheFirstDifferenceCard

/-- THE TIED CARD OF 'weightedlaw23.EqualRankBoundsSums'. -/
def equalRankBoundsSumsCard : Claim7 := { stood := { row := equalRankBoundsSumsRow, standIns := [], harness := (true, "6a70053fcea31d3263a45d617a4c04f335a51c4783327c18b5afa7b1fe8ae4c9"), looks := true }, kinds := [], alts := [], laidByText := true, laidKinds := [.data, .data, .data, .data, .sentinel, .sentinel, .pinned], laidTests := true, laidLooks := .later }
def EqualRankBoundsSumsCardSaid : Prop := Claim7.holds Tryz.pinned (.plain (OpenSpec.ofChange equalRankBoundsSumsSpec)) equalRankBoundsSumsCard

/-- THE TIED CARD OF 'weightedlaw23.EqualZeroIsADifference'. -/
def equalZeroIsADifferenceCard : Claim7 := { stood := { row := equalZeroIsADifferenceRow, standIns := [], harness := (true, "6a70053fcea31d3263a45d617a4c04f335a51c4783327c18b5afa7b1fe8ae4c9"), looks := true }, kinds := [], alts := [], laidByText := true, laidKinds := [.data, .data, .data, .data, .sentinel, .sentinel, .pinned], laidTests := true, laidLooks := .later }
def EqualZeroIsADifferenceCardSaid : Prop := Claim7.holds Tryz.pinned (.plain (OpenSpec.ofChange equalZeroIsADifferenceSpec)) equalZeroIsADifferenceCard

/-- THE SECOND FORM's CARD OF 'weightedlaw23.EqualFindsTheFirstDifference'. -/
def equalFindsTheFirstDifferenceUptoCard : Claim7 := { stood := { row := equalFindsTheFirstDifferenceUptoRow, standIns := [], harness := (true, "6a70053fcea31d3263a45d617a4c04f335a51c4783327c18b5afa7b1fe8ae4c9"), looks := true }, kinds := [], alts := [], laidByText := true, laidKinds := [.data, .data, .data, .data, .sentinel, .sentinel, .pinned], laidTests := true, laidLooks := .later }
def EqualFindsTheFirstDifferenceUptoCardSaid : Prop := Claim7.holds Tryz.pinned (.plain (OpenSpec.upto equalFindsTheFirstDifferenceSpec)) equalFindsTheFirstDifferenceUptoCard

/-- THE SECOND FORM's CARD OF 'weightedlaw23.EqualRankBoundsSums'. -/
def equalRankBoundsSumsUptoCard : Claim7 := { stood := { row := equalRankBoundsSumsUptoRow, standIns := [], harness := (true, "6a70053fcea31d3263a45d617a4c04f335a51c4783327c18b5afa7b1fe8ae4c9"), looks := true }, kinds := [], alts := [], laidByText := true, laidKinds := [.data, .data, .data, .data, .sentinel, .sentinel, .pinned], laidTests := true, laidLooks := .later }
def EqualRankBoundsSumsUptoCardSaid : Prop := Claim7.holds Tryz.pinned (.plain (OpenSpec.upto equalRankBoundsSumsSpec)) equalRankBoundsSumsUptoCard

/-- THE SECOND FORM's CARD OF 'weightedlaw23.EqualZeroIsADifference'. -/
def equalZeroIsADifferenceUptoCard : Claim7 := { stood := { row := equalZeroIsADifferenceUptoRow, standIns := [], harness := (true, "6a70053fcea31d3263a45d617a4c04f335a51c4783327c18b5afa7b1fe8ae4c9"), looks := true }, kinds := [], alts := [], laidByText := true, laidKinds := [.data, .data, .data, .data, .sentinel, .sentinel, .pinned], laidTests := true, laidLooks := .later }
def EqualZeroIsADifferenceUptoCardSaid : Prop := Claim7.holds Tryz.pinned (.plain (OpenSpec.upto equalZeroIsADifferenceSpec)) equalZeroIsADifferenceUptoCard
end Rows
end Go.Proofs.YthhnlbfiilofjaaGreatDoor

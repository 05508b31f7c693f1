/-
  DERIVED. GIVEN WITH THE SEED: THE CARDS: each row of YtfbblpngcmjooaaGreatDoorRows.lean that lists a variable, with what it lists TIED to the program's text (the seventh form; the later family's looks); each row that meets fmt, with fmt's text TOLD by the authors' own Lean function (tested against real Go, not proved from fmt's source: count such statements apart). THE CARD IS WHAT COUNTS. Prove the row's statement (the work); the ties are given (YtfbblpngcmjooaaGreatDoorTie.lean); close each card by the builder's one call (the guide's Derived/Test/ToyasCard.lean, 'card_holds'). Laid BY PROGRAM, IN A SANDBOX (cutbox-door.mjs). By AI agents, Wed Nov 11 2026. No macro, syntax, notation, axiom, sorry.
-/
import Derived.Test.YtfbblpngcmjooaaGreatDoorRows
import GoSem.ClaimSeven
namespace Go.Proofs.YtfbblpngcmjooaaGreatDoor
namespace Rows

/-- THE TIED CARD OF 'weightedlaw24.MinimalWordsAreClosed'. -/
def minimalWordsAreClosedCard : Claim7 := { stood := { row := minimalWordsAreClosedRow, standIns := [], harness := (true, "157362ae33293ae848c8a0b68c1b1f28aa7ddf90c820f5420de54535651ce431"), looks := true }, kinds := [], alts := [], laidByText := true, laidKinds := [.data, .data, .data, .data, .sentinel, .sentinel, .pinned], laidTests := true, laidLooks := .later }
def MinimalWordsAreClosedCardSaid : Prop := Claim7.holds Tryz.pinned (.plain (OpenSpec.ofChange minimalWordsAreClosedSpec)) minimalWordsAreClosedCard

/-- THE TIED CARD OF 'weightedlaw24.MinimalBlockIsRegular'. -/
def minimalBlockIsRegularCard : Claim7 := { stood := { row := minimalBlockIsRegularRow, standIns := [], harness := (true, "157362ae33293ae848c8a0b68c1b1f28aa7ddf90c820f5420de54535651ce431"), looks := true }, kinds := [], alts := [], laidByText := true, laidKinds := [.data, .data, .data, .data, .sentinel, .sentinel, .pinned], laidTests := true, laidLooks := .later }
def MinimalBlockIsRegularCardSaid : Prop := Claim7.holds Tryz.pinned (.plain (OpenSpec.ofChange minimalBlockIsRegularSpec)) minimalBlockIsRegularCard

/-- THE SECOND FORM's CARD OF 'weightedlaw24.MinimalWordsAreClosed'. -/
def minimalWordsAreClosedUptoCard : Claim7 := { stood := { row := minimalWordsAreClosedUptoRow, standIns := [], harness := (true, "157362ae33293ae848c8a0b68c1b1f28aa7ddf90c820f5420de54535651ce431"), looks := true }, kinds := [], alts := [], laidByText := true, laidKinds := [.data, .data, .data, .data, .sentinel, .sentinel, .pinned], laidTests := true, laidLooks := .later }
def MinimalWordsAreClosedUptoCardSaid : Prop := Claim7.holds Tryz.pinned (.plain (OpenSpec.upto minimalWordsAreClosedSpec)) minimalWordsAreClosedUptoCard

/-- THE SECOND FORM's CARD OF 'weightedlaw24.MinimalBlockIsRegular'. -/
def minimalBlockIsRegularUptoCard : Claim7 := { stood := { row := minimalBlockIsRegularUptoRow, standIns := [], harness := (true, "157362ae33293ae848c8a0b68c1b1f28aa7ddf90c820f5420de54535651ce431"), looks := true }, kinds := [], alts := [], laidByText := true, laidKinds := [.data, .data, .data, .data, .sentinel, .sentinel, .pinned], laidTests := true, laidLooks := .later }
def MinimalBlockIsRegularUptoCardSaid : Prop := Claim7.holds Tryz.pinned (.plain (OpenSpec.upto minimalBlockIsRegularSpec)) minimalBlockIsRegularUptoCard
end Rows
end Go.Proofs.YtfbblpngcmjooaaGreatDoor

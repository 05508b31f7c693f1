/-
  DERIVED. GIVEN WITH THE SEED: THE CARDS: each row of YtifcpafkcjdfhaaGreatDoorRows.lean that lists a variable, with what it lists TIED to the program's text (the seventh form; the later family's looks); each row that meets fmt, with fmt's text TOLD by the authors' own Lean function (tested against real Go, not proved from fmt's source: count such statements apart). THE CARD IS WHAT COUNTS. Prove the row's statement (the work); the ties are given (YtifcpafkcjdfhaaGreatDoorTie.lean); close each card by the builder's one call (the guide's Derived/Test/ToyasCard.lean, 'card_holds'). Laid BY PROGRAM, IN A SANDBOX (cutbox-door.mjs). By AI agents, Wed Nov 11 2026. No macro, syntax, notation, axiom, sorry.
-/
import Derived.Test.YtifcpafkcjdfhaaGreatDoorRows
import GoSem.ClaimSeven
namespace Go.Proofs.YtifcpafkcjdfhaaGreatDoor
namespace Rows

/-- THE TIED CARD OF 'weightedlaw23.EqualIsAnEquivalence'. -/
def equalIsAnEquivalenceCard : Claim7 := { stood := { row := equalIsAnEquivalenceRow, standIns := [], harness := (true, "f283a26a5839cfc4fd02c45ad8c4bb8286b440f1b308404c7dd63cfbe62035a0"), looks := true }, kinds := [], alts := [], laidByText := true, laidKinds := [.data, .data, .data, .data, .sentinel, .sentinel, .pinned], laidTests := true, laidLooks := .later }
def EqualIsAnEquivalenceCardSaid : Prop := Claim7.holds Tryz.pinned (.plain (OpenSpec.ofChange equalIsAnEquivalenceSpec)) equalIsAnEquivalenceCard

/-- THE SECOND FORM's CARD OF 'weightedlaw23.EqualIsAnEquivalence'. -/
def equalIsAnEquivalenceUptoCard : Claim7 := { stood := { row := equalIsAnEquivalenceUptoRow, standIns := [], harness := (true, "f283a26a5839cfc4fd02c45ad8c4bb8286b440f1b308404c7dd63cfbe62035a0"), looks := true }, kinds := [], alts := [], laidByText := true, laidKinds := [.data, .data, .data, .data, .sentinel, .sentinel, .pinned], laidTests := true, laidLooks := .later }
def EqualIsAnEquivalenceUptoCardSaid : Prop := Claim7.holds Tryz.pinned (.plain (OpenSpec.upto equalIsAnEquivalenceSpec)) equalIsAnEquivalenceUptoCard
end Rows
end Go.Proofs.YtifcpafkcjdfhaaGreatDoor

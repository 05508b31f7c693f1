/-
  DERIVED. GIVEN WITH THE SEED: THE CARDS: each row of YtocehciipjhlkaaGreatDoorRows.lean that lists a variable, with what it lists TIED to the program's text (the seventh form; the later family's looks); each row that meets fmt, with fmt's text TOLD by the authors' own Lean function (tested against real Go, not proved from fmt's source: count such statements apart). THE CARD IS WHAT COUNTS. Prove the row's statement (the work); the ties are given (YtocehciipjhlkaaGreatDoorTie.lean); close each card by the builder's one call (the guide's Derived/Test/ToyasCard.lean, 'card_holds'). Laid BY PROGRAM, IN A SANDBOX (cutbox-door.mjs). By AI agents, Wed Nov 11 2026. No macro, syntax, notation, axiom, sorry.
-/
import Derived.Test.YtocehciipjhlkaaGreatDoorRows
import GoSem.ClaimSeven
namespace Go.Proofs.YtocehciipjhlkaaGreatDoor
namespace Rows

/-- THE TIED CARD OF 'weightedlaw34.ForwardMeetsBackward'. -/
def forwardMeetsBackwardCard : Claim7 := { stood := { row := forwardMeetsBackwardRow, standIns := [], harness := (true, "44d0779323610be5dc9636a1e5f24faf135875d889bf390f484c06cb17fa9587"), looks := true }, kinds := [], alts := [], laidByText := true, laidKinds := [.data, .data, .data, .data, .sentinel, .sentinel, .pinned], laidTests := true, laidLooks := .later }
def ForwardMeetsBackwardCardSaid : Prop := Claim7.holds Tryz.pinned (.plain (OpenSpec.ofChange forwardMeetsBackwardSpec)) forwardMeetsBackwardCard

/-- THE SECOND FORM's CARD OF 'weightedlaw34.ForwardMeetsBackward'. -/
def forwardMeetsBackwardUptoCard : Claim7 := { stood := { row := forwardMeetsBackwardUptoRow, standIns := [], harness := (true, "44d0779323610be5dc9636a1e5f24faf135875d889bf390f484c06cb17fa9587"), looks := true }, kinds := [], alts := [], laidByText := true, laidKinds := [.data, .data, .data, .data, .sentinel, .sentinel, .pinned], laidTests := true, laidLooks := .later }
def ForwardMeetsBackwardUptoCardSaid : Prop := Claim7.holds Tryz.pinned (.plain (OpenSpec.upto forwardMeetsBackwardSpec)) forwardMeetsBackwardUptoCard
end Rows
end Go.Proofs.YtocehciipjhlkaaGreatDoor

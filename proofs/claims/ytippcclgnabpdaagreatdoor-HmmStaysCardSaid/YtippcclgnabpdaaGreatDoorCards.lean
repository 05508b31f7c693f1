/-
  DERIVED. GIVEN WITH THE SEED: THE CARDS: each row of YtippcclgnabpdaaGreatDoorRows.lean that lists a variable, with what it lists TIED to the program's text (the seventh form; the later family's looks); each row that meets fmt, with fmt's text TOLD by the authors' own Lean function (tested against real Go, not proved from fmt's source: count such statements apart). THE CARD IS WHAT COUNTS. Prove the row's statement (the work); the ties are given (YtippcclgnabpdaaGreatDoorTie.lean); close each card by the builder's one call (the guide's Derived/Test/ToyasCard.lean, 'card_holds'). Laid BY PROGRAM, IN A SANDBOX (cutbox-door.mjs). By AI agents, Wed Nov 11 2026. No macro, syntax, notation, axiom, sorry.
-/
import Derived.Test.YtippcclgnabpdaaGreatDoorRows
import GoSem.ClaimSeven
namespace Go.Proofs.YtippcclgnabpdaaGreatDoor
namespace Rows

/-- THE TIED CARD OF 'weightedlaw33.HmmStays'. -/
def hmmStaysCard : Claim7 := { stood := { row := hmmStaysRow, standIns := [], harness := (true, "ea720ef97764f6aebc23e955fdd940d9dcd5151befa7b64a24607be685e11eaf"), looks := true }, kinds := [], alts := [], laidByText := true, laidKinds := [.data, .data, .data, .data, .sentinel, .sentinel, .pinned], laidTests := true, laidLooks := .later }
def HmmStaysCardSaid : Prop := Claim7.holds Tryz.pinned (.plain (OpenSpec.ofChange hmmStaysSpec)) hmmStaysCard

/-- THE TIED CARD OF 'weightedlaw33.HmmStaysOnce'. -/
def hmmStaysOnceCard : Claim7 := { stood := { row := hmmStaysOnceRow, standIns := [], harness := (true, "ea720ef97764f6aebc23e955fdd940d9dcd5151befa7b64a24607be685e11eaf"), looks := true }, kinds := [], alts := [], laidByText := true, laidKinds := [.data, .data, .data, .data, .sentinel, .sentinel, .pinned], laidTests := true, laidLooks := .later }
def HmmStaysOnceCardSaid : Prop := Claim7.holds Tryz.pinned (.plain (OpenSpec.ofChange hmmStaysOnceSpec)) hmmStaysOnceCard

/-- THE SECOND FORM's CARD OF 'weightedlaw33.HmmStays'. -/
def hmmStaysUptoCard : Claim7 := { stood := { row := hmmStaysUptoRow, standIns := [], harness := (true, "ea720ef97764f6aebc23e955fdd940d9dcd5151befa7b64a24607be685e11eaf"), looks := true }, kinds := [], alts := [], laidByText := true, laidKinds := [.data, .data, .data, .data, .sentinel, .sentinel, .pinned], laidTests := true, laidLooks := .later }
def HmmStaysUptoCardSaid : Prop := Claim7.holds Tryz.pinned (.plain (OpenSpec.upto hmmStaysSpec)) hmmStaysUptoCard

/-- THE SECOND FORM's CARD OF 'weightedlaw33.HmmStaysOnce'. -/
def hmmStaysOnceUptoCard : Claim7 := { stood := { row := hmmStaysOnceUptoRow, standIns := [], harness := (true, "ea720ef97764f6aebc23e955fdd940d9dcd5151befa7b64a24607be685e11eaf"), looks := true }, kinds := [], alts := [], laidByText := true, laidKinds := [.data, .data, .data, .data, .sentinel, .sentinel, .pinned], laidTests := true, laidLooks := .later }
def HmmStaysOnceUptoCardSaid : Prop := Claim7.holds Tryz.pinned (.plain (OpenSpec.upto hmmStaysOnceSpec)) hmmStaysOnceUptoCard
end Rows
end Go.Proofs.YtippcclgnabpdaaGreatDoor

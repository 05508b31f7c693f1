/-
  DERIVED. GIVEN WITH THE SEED: THE CARDS: each row of YtfebfmplcjdomaaGreatDoorRows.lean that lists a variable, with what it lists TIED to the program's text (the seventh form; the later family's looks); each row that meets fmt, with fmt's text TOLD by the authors' own Lean function (tested against real Go, not proved from fmt's source: count such statements apart). THE CARD IS WHAT COUNTS. Prove the row's statement (the work); the ties are given (YtfebfmplcjdomaaGreatDoorTie.lean); close each card by the builder's one call (the guide's Derived/Test/ToyasCard.lean, 'card_holds'). Laid BY PROGRAM, IN A SANDBOX (cutbox-door.mjs). By AI agents, Wed Nov 11 2026. No macro, syntax, notation, axiom, sorry.
-/
import Derived.Test.YtfebfmplcjdomaaGreatDoorRows
import GoSem.ClaimSeven
namespace Go.Proofs.YtfebfmplcjdomaaGreatDoor
namespace Rows

/-- THE TIED CARD OF 'weightedlaw23.EqualDecidesForMadeModels'. -/
def equalDecidesForMadeModelsCard : Claim7 := { stood := { row := equalDecidesForMadeModelsRow, standIns := [], harness := (true, "2c8093259c35f5c79ef2a4132dffbfbbab020308963cab43371e8f0f27e62e64"), looks := true }, kinds := [], alts := [], laidByText := true, laidKinds := [.data, .data, .data, .data, .sentinel, .sentinel, .pinned], laidTests := true, laidLooks := .later }
def EqualDecidesForMadeModelsCardSaid : Prop := Claim7.holds Tryz.pinned (.plain (OpenSpec.ofChange equalDecidesForMadeModelsSpec)) equalDecidesForMadeModelsCard

/-- THE SECOND FORM's CARD OF 'weightedlaw23.EqualDecidesForMadeModels'. -/
def equalDecidesForMadeModelsUptoCard : Claim7 := { stood := { row := equalDecidesForMadeModelsUptoRow, standIns := [], harness := (true, "2c8093259c35f5c79ef2a4132dffbfbbab020308963cab43371e8f0f27e62e64"), looks := true }, kinds := [], alts := [], laidByText := true, laidKinds := [.data, .data, .data, .data, .sentinel, .sentinel, .pinned], laidTests := true, laidLooks := .later }
def EqualDecidesForMadeModelsUptoCardSaid : Prop := Claim7.holds Tryz.pinned (.plain (OpenSpec.upto equalDecidesForMadeModelsSpec)) equalDecidesForMadeModelsUptoCard
end Rows
end Go.Proofs.YtfebfmplcjdomaaGreatDoor

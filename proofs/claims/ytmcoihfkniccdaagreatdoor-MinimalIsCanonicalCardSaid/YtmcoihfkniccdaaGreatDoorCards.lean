/-
  DERIVED. GIVEN WITH THE SEED: THE CARDS: each row of YtmcoihfkniccdaaGreatDoorRows.lean that lists a variable, with what it lists TIED to the program's text (the seventh form; the later family's looks); each row that meets fmt, with fmt's text TOLD by the authors' own Lean function (tested against real Go, not proved from fmt's source: count such statements apart). THE CARD IS WHAT COUNTS. Prove the row's statement (the work); the ties are given (YtmcoihfkniccdaaGreatDoorTie.lean); close each card by the builder's one call (the guide's Derived/Test/ToyasCard.lean, 'card_holds'). Laid BY PROGRAM, IN A SANDBOX (cutbox-door.mjs). By AI agents, Wed Nov 11 2026. No macro, syntax, notation, axiom, sorry.
-/
import Derived.Test.YtmcoihfkniccdaaGreatDoorRows
import GoSem.ClaimSeven
namespace Go.Proofs.YtmcoihfkniccdaaGreatDoor
namespace Rows

/-- THE TIED CARD OF 'weightedlaw24.MinimalIsCanonical'. -/
def minimalIsCanonicalCard : Claim7 := { stood := { row := minimalIsCanonicalRow, standIns := [], harness := (true, "b89df80ddfcfa84b0cbfe34d1add945c5cc5f135915ffd4ba8352d938dc7ba35"), looks := true }, kinds := [], alts := [], laidByText := true, laidKinds := [.data, .data, .data, .data, .sentinel, .sentinel, .pinned], laidTests := true, laidLooks := .later }
def MinimalIsCanonicalCardSaid : Prop := Claim7.holds Tryz.pinned (.plain (OpenSpec.ofChange minimalIsCanonicalSpec)) minimalIsCanonicalCard

/-- THE TIED CARD OF 'weightedlaw24.MinimalBuildsMadeModels'. -/
def minimalBuildsMadeModelsCard : Claim7 := { stood := { row := minimalBuildsMadeModelsRow, standIns := [], harness := (true, "b89df80ddfcfa84b0cbfe34d1add945c5cc5f135915ffd4ba8352d938dc7ba35"), looks := true }, kinds := [], alts := [], laidByText := true, laidKinds := [.data, .data, .data, .data, .sentinel, .sentinel, .pinned], laidTests := true, laidLooks := .later }
def MinimalBuildsMadeModelsCardSaid : Prop := Claim7.holds Tryz.pinned (.plain (OpenSpec.ofChange minimalBuildsMadeModelsSpec)) minimalBuildsMadeModelsCard

/-- THE SECOND FORM's CARD OF 'weightedlaw24.MinimalIsCanonical'. -/
def minimalIsCanonicalUptoCard : Claim7 := { stood := { row := minimalIsCanonicalUptoRow, standIns := [], harness := (true, "b89df80ddfcfa84b0cbfe34d1add945c5cc5f135915ffd4ba8352d938dc7ba35"), looks := true }, kinds := [], alts := [], laidByText := true, laidKinds := [.data, .data, .data, .data, .sentinel, .sentinel, .pinned], laidTests := true, laidLooks := .later }
def MinimalIsCanonicalUptoCardSaid : Prop := Claim7.holds Tryz.pinned (.plain (OpenSpec.upto minimalIsCanonicalSpec)) minimalIsCanonicalUptoCard

/-- THE SECOND FORM's CARD OF 'weightedlaw24.MinimalBuildsMadeModels'. -/
def minimalBuildsMadeModelsUptoCard : Claim7 := { stood := { row := minimalBuildsMadeModelsUptoRow, standIns := [], harness := (true, "b89df80ddfcfa84b0cbfe34d1add945c5cc5f135915ffd4ba8352d938dc7ba35"), looks := true }, kinds := [], alts := [], laidByText := true, laidKinds := [.data, .data, .data, .data, .sentinel, .sentinel, .pinned], laidTests := true, laidLooks := .later }
def MinimalBuildsMadeModelsUptoCardSaid : Prop := Claim7.holds Tryz.pinned (.plain (OpenSpec.upto minimalBuildsMadeModelsSpec)) minimalBuildsMadeModelsUptoCard
end Rows
end Go.Proofs.YtmcoihfkniccdaaGreatDoor

/-
  DERIVED. GIVEN WITH THE SEED: THE CARDS: each row of YtanlenlmihoiiaaGreatDoorRows.lean that lists a variable, with what it lists TIED to the program's text (the seventh form; the later family's looks); each row that meets fmt, with fmt's text TOLD by the authors' own Lean function (tested against real Go, not proved from fmt's source: count such statements apart). THE CARD IS WHAT COUNTS. Prove the row's statement (the work); the ties are given (YtanlenlmihoiiaaGreatDoorTie.lean); close each card by the builder's one call (the guide's Derived/Test/ToyasCard.lean, 'card_holds'). Laid BY PROGRAM, IN A SANDBOX (cutbox-door.mjs). By AI agents, Wed Nov 11 2026. No macro, syntax, notation, axiom, sorry.
-/
import Derived.Test.YtanlenlmihoiiaaGreatDoorRows
import GoSem.ClaimSeven
namespace Go.Proofs.YtanlenlmihoiiaaGreatDoor
namespace Rows

/-- THE TIED CARD OF 'weightedlaw24.MinimalBuildsMadeModels'. -/
def minimalBuildsMadeModelsCard : Claim7 := { stood := { row := minimalBuildsMadeModelsRow, standIns := [], harness := (true, "9e2446142ad15c6f3c862711096d5b8604142c71639a95166beaae6399b55c4b"), looks := true }, kinds := [], alts := [], laidByText := true, laidKinds := [.data, .data, .data, .data, .sentinel, .sentinel, .pinned], laidTests := true, laidLooks := .later }
def MinimalBuildsMadeModelsCardSaid : Prop := Claim7.holds Tryz.pinned (.plain (OpenSpec.ofChange minimalBuildsMadeModelsSpec)) minimalBuildsMadeModelsCard

/-- THE TIED CARD OF 'weightedlaw24.MinimalHasTheSeries'. -/
def minimalHasTheSeriesCard : Claim7 := { stood := { row := minimalHasTheSeriesRow, standIns := [], harness := (true, "9e2446142ad15c6f3c862711096d5b8604142c71639a95166beaae6399b55c4b"), looks := true }, kinds := [], alts := [], laidByText := true, laidKinds := [.data, .data, .data, .data, .sentinel, .sentinel, .pinned], laidTests := true, laidLooks := .later }
def MinimalHasTheSeriesCardSaid : Prop := Claim7.holds Tryz.pinned (.plain (OpenSpec.ofChange minimalHasTheSeriesSpec)) minimalHasTheSeriesCard

/-- THE TIED CARD OF 'weightedlaw24.MinimalBuilds'. -/
def minimalBuildsCard : Claim7 := { stood := { row := minimalBuildsRow, standIns := [], harness := (true, "9e2446142ad15c6f3c862711096d5b8604142c71639a95166beaae6399b55c4b"), looks := true }, kinds := [], alts := [], laidByText := true, laidKinds := [.data, .data, .data, .data, .sentinel, .sentinel, .pinned], laidTests := true, laidLooks := .later }
def MinimalBuildsCardSaid : Prop := Claim7.holds Tryz.pinned (.plain (OpenSpec.ofChange minimalBuildsSpec)) minimalBuildsCard

/-- THE SECOND FORM's CARD OF 'weightedlaw24.MinimalBuildsMadeModels'. -/
def minimalBuildsMadeModelsUptoCard : Claim7 := { stood := { row := minimalBuildsMadeModelsUptoRow, standIns := [], harness := (true, "9e2446142ad15c6f3c862711096d5b8604142c71639a95166beaae6399b55c4b"), looks := true }, kinds := [], alts := [], laidByText := true, laidKinds := [.data, .data, .data, .data, .sentinel, .sentinel, .pinned], laidTests := true, laidLooks := .later }
def MinimalBuildsMadeModelsUptoCardSaid : Prop := Claim7.holds Tryz.pinned (.plain (OpenSpec.upto minimalBuildsMadeModelsSpec)) minimalBuildsMadeModelsUptoCard

/-- THE SECOND FORM's CARD OF 'weightedlaw24.MinimalHasTheSeries'. -/
def minimalHasTheSeriesUptoCard : Claim7 := { stood := { row := minimalHasTheSeriesUptoRow, standIns := [], harness := (true, "9e2446142ad15c6f3c862711096d5b8604142c71639a95166beaae6399b55c4b"), looks := true }, kinds := [], alts := [], laidByText := true, laidKinds := [.data, .data, .data, .data, .sentinel, .sentinel, .pinned], laidTests := true, laidLooks := .later }
def MinimalHasTheSeriesUptoCardSaid : Prop := Claim7.holds Tryz.pinned (.plain (OpenSpec.upto minimalHasTheSeriesSpec)) minimalHasTheSeriesUptoCard

/-- THE SECOND FORM's CARD OF 'weightedlaw24.MinimalBuilds'. -/
def minimalBuildsUptoCard : Claim7 := { stood := { row := minimalBuildsUptoRow, standIns := [], harness := (true, "9e2446142ad15c6f3c862711096d5b8604142c71639a95166beaae6399b55c4b"), looks := true }, kinds := [], alts := [], laidByText := true, laidKinds := [.data, .data, .data, .data, .sentinel, .sentinel, .pinned], laidTests := true, laidLooks := .later }
def MinimalBuildsUptoCardSaid : Prop := Claim7.holds Tryz.pinned (.plain (OpenSpec.upto minimalBuildsSpec)) minimalBuildsUptoCard
end Rows
end Go.Proofs.YtanlenlmihoiiaaGreatDoor

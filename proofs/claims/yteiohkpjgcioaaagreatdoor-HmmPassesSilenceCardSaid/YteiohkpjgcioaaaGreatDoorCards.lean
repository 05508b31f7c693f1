/-
  DERIVED. GIVEN WITH THE SEED: THE CARDS: each row of YteiohkpjgcioaaaGreatDoorRows.lean that lists a variable, with what it lists TIED to the program's text (the seventh form; the later family's looks); each row that meets fmt, with fmt's text TOLD by the authors' own Lean function (tested against real Go, not proved from fmt's source: count such statements apart). THE CARD IS WHAT COUNTS. Prove the row's statement (the work); the ties are given (YteiohkpjgcioaaaGreatDoorTie.lean); close each card by the builder's one call (the guide's Derived/Test/ToyasCard.lean, 'card_holds'). Laid BY PROGRAM, IN A SANDBOX (cutbox-door.mjs). By AI agents, Wed Nov 11 2026. No macro, syntax, notation, axiom, sorry.
-/
import Derived.Test.YteiohkpjgcioaaaGreatDoorRows
import GoSem.ClaimSeven
namespace Go.Proofs.YteiohkpjgcioaaaGreatDoor
namespace Rows

/-- THE TIED CARD OF 'weightedlaw33.HmmPassesSilence'. -/
def hmmPassesSilenceCard : Claim7 := { stood := { row := hmmPassesSilenceRow, standIns := [], harness := (true, "884cbbf3a2505556114066e7279069ffdd46609d683b15b2aa80d36b5f7f05de"), looks := true }, kinds := [], alts := [], laidByText := true, laidKinds := [.data, .data, .data, .data, .sentinel, .sentinel, .pinned], laidTests := true, laidLooks := .later }
def HmmPassesSilenceCardSaid : Prop := Claim7.holds Tryz.pinned (.plain (OpenSpec.ofChange hmmPassesSilenceSpec)) hmmPassesSilenceCard

/-- THE TIED CARD OF 'weightedlaw33.HmmSums'. -/
def hmmSumsCard : Claim7 := { stood := { row := hmmSumsRow, standIns := [], harness := (true, "884cbbf3a2505556114066e7279069ffdd46609d683b15b2aa80d36b5f7f05de"), looks := true }, kinds := [], alts := [], laidByText := true, laidKinds := [.data, .data, .data, .data, .sentinel, .sentinel, .pinned], laidTests := true, laidLooks := .later }
def HmmSumsCardSaid : Prop := Claim7.holds Tryz.pinned (.plain (OpenSpec.ofChange hmmSumsSpec)) hmmSumsCard

/-- THE SECOND FORM's CARD OF 'weightedlaw33.HmmPassesSilence'. -/
def hmmPassesSilenceUptoCard : Claim7 := { stood := { row := hmmPassesSilenceUptoRow, standIns := [], harness := (true, "884cbbf3a2505556114066e7279069ffdd46609d683b15b2aa80d36b5f7f05de"), looks := true }, kinds := [], alts := [], laidByText := true, laidKinds := [.data, .data, .data, .data, .sentinel, .sentinel, .pinned], laidTests := true, laidLooks := .later }
def HmmPassesSilenceUptoCardSaid : Prop := Claim7.holds Tryz.pinned (.plain (OpenSpec.upto hmmPassesSilenceSpec)) hmmPassesSilenceUptoCard

/-- THE SECOND FORM's CARD OF 'weightedlaw33.HmmSums'. -/
def hmmSumsUptoCard : Claim7 := { stood := { row := hmmSumsUptoRow, standIns := [], harness := (true, "884cbbf3a2505556114066e7279069ffdd46609d683b15b2aa80d36b5f7f05de"), looks := true }, kinds := [], alts := [], laidByText := true, laidKinds := [.data, .data, .data, .data, .sentinel, .sentinel, .pinned], laidTests := true, laidLooks := .later }
def HmmSumsUptoCardSaid : Prop := Claim7.holds Tryz.pinned (.plain (OpenSpec.upto hmmSumsSpec)) hmmSumsUptoCard
end Rows
end Go.Proofs.YteiohkpjgcioaaaGreatDoor

/-
  DERIVED. GIVEN WITH THE SEED: THE CARDS: each row of YtnjoncgnjdkaoaaGreatDoorRows.lean that lists a variable, with what it lists TIED to the program's text (the seventh form; the later family's looks); each row that meets fmt, with fmt's text TOLD by the authors' own Lean function (tested against real Go, not proved from fmt's source: count such statements apart). THE CARD IS WHAT COUNTS. Prove the row's statement (the work); the ties are given (YtnjoncgnjdkaoaaGreatDoorTie.lean); close each card by the builder's one call (the guide's Derived/Test/ToyasCard.lean, 'card_holds'). Laid BY PROGRAM, IN A SANDBOX (cutbox-door.mjs). By AI agents, Wed Nov 11 2026. No macro, syntax, notation, axiom, sorry.
-/
import Derived.Test.YtnjoncgnjdkaoaaGreatDoorRows
import GoSem.ClaimSeven
namespace Go.Proofs.YtnjoncgnjdkaoaaGreatDoor
namespace Rows

/-- THE TIED CARD OF 'weightedlaw30.PassiveRanks'. -/
def passiveRanksCard : Claim7 := { stood := { row := passiveRanksRow, standIns := [], harness := (true, "dec7c1de2daed098d9af28938d65665e8733ffeac94dfe08f9eb2f3ec5f567ff"), looks := true }, kinds := [], alts := [], laidByText := true, laidKinds := [.data, .data, .data, .data, .sentinel, .sentinel, .pinned], laidTests := true, laidLooks := .later }
def PassiveRanksCardSaid : Prop := Claim7.holds Tryz.pinned (.plain (OpenSpec.ofChange passiveRanksSpec)) passiveRanksCard

/-- THE TIED CARD OF 'weightedlaw30.PassiveAgrees'. -/
def passiveAgreesCard : Claim7 := { stood := { row := passiveAgreesRow, standIns := [], harness := (true, "dec7c1de2daed098d9af28938d65665e8733ffeac94dfe08f9eb2f3ec5f567ff"), looks := true }, kinds := [], alts := [], laidByText := true, laidKinds := [.data, .data, .data, .data, .sentinel, .sentinel, .pinned], laidTests := true, laidLooks := .later }
def PassiveAgreesCardSaid : Prop := Claim7.holds Tryz.pinned (.plain (OpenSpec.ofChange passiveAgreesSpec)) passiveAgreesCard

/-- THE SECOND FORM's CARD OF 'weightedlaw30.PassiveRanks'. -/
def passiveRanksUptoCard : Claim7 := { stood := { row := passiveRanksUptoRow, standIns := [], harness := (true, "dec7c1de2daed098d9af28938d65665e8733ffeac94dfe08f9eb2f3ec5f567ff"), looks := true }, kinds := [], alts := [], laidByText := true, laidKinds := [.data, .data, .data, .data, .sentinel, .sentinel, .pinned], laidTests := true, laidLooks := .later }
def PassiveRanksUptoCardSaid : Prop := Claim7.holds Tryz.pinned (.plain (OpenSpec.upto passiveRanksSpec)) passiveRanksUptoCard

/-- THE SECOND FORM's CARD OF 'weightedlaw30.PassiveAgrees'. -/
def passiveAgreesUptoCard : Claim7 := { stood := { row := passiveAgreesUptoRow, standIns := [], harness := (true, "dec7c1de2daed098d9af28938d65665e8733ffeac94dfe08f9eb2f3ec5f567ff"), looks := true }, kinds := [], alts := [], laidByText := true, laidKinds := [.data, .data, .data, .data, .sentinel, .sentinel, .pinned], laidTests := true, laidLooks := .later }
def PassiveAgreesUptoCardSaid : Prop := Claim7.holds Tryz.pinned (.plain (OpenSpec.upto passiveAgreesSpec)) passiveAgreesUptoCard
end Rows
end Go.Proofs.YtnjoncgnjdkaoaaGreatDoor

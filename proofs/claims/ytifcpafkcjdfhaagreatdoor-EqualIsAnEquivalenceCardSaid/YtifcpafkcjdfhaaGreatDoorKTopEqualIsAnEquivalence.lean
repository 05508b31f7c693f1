/-
  The tied card of weighted/weightedlaw23.EqualIsAnEquivalence, by the builder's one call.
-/
import Derived.Test.YtifcpafkcjdfhaaGreatDoorKRowEqualIsAnEquivalence
import Derived.Test.YtifcpafkcjdfhaaGreatDoorCards
import Derived.Test.YtifcpafkcjdfhaaGreatDoorTie
import Derived.SevenTiedAt
set_option linter.unusedVariables false
set_option linter.unusedSimpArgs false
namespace Go.Proofs.YtifcpafkcjdfhaaGreatDoor.equalIsAnEquivalenceTop
open Go
theorem cWf : Rows.equalIsAnEquivalenceRow.wfByText (OpenSpec.ofChange Rows.equalIsAnEquivalenceSpec) = true := by kernel_rfl
theorem cMain : Tryz.pinned.checked.prog.mainIs = some (true, "f283a26a5839cfc4fd02c45ad8c4bb8286b440f1b308404c7dd63cfbe62035a0".toList) := by kernel_rfl
theorem cName : Tryz.pinned.checked.prog.funcNamed "weighted/weightedlaw23.EqualIsAnEquivalence" = some 3 := by kernel_rfl
theorem cLooks : true = Tryz.pinned.checked.prog.looks [] := by kernel_rfl
theorem cStand : ([24, 24, 24].all fun u => !Tryz.pinned.checked.prog.wantsStandIn u) = true := by kernel_rfl
theorem cGoes : false = Rows.equalIsAnEquivalenceRow.goesBy Tryz.pinned.checked.prog := by kernel_rfl
theorem proved : Rows.EqualIsAnEquivalenceCardSaid :=
 Claim7.holds_tied_plain_at .later [] [.data, .data, .data, .data, .sentinel, .sentinel, .pinned] true (true, "f283a26a5839cfc4fd02c45ad8c4bb8286b440f1b308404c7dd63cfbe62035a0") true over (fun _ h => by cases h) cWf (fun _ h => by cases h) equalIsAnEquivalence_row_tie rfl ⟨rfl, rfl⟩ cMain rfl
  (fun f fn hf hfn => by
   obtain rfl : f = 3 := Option.some.inj (cName.symm.trans hf) |>.symm
   obtain rfl : fn = Tryz.f3 := (Option.some.inj (Tryz.func3.symm.trans hfn)).symm
   exact ⟨cLooks, fun j t ht => by
    rw [Tryz.params3] at ht
    have hm : t ∈ [24, 24, 24] := by simpa using Array.mem_of_getElem? ht
    exact (show Tryz.pinned.checked.prog.wantsStandIn t = false by simpa using List.all_eq_true.1 cStand t hm)⟩)
  cGoes
#print axioms proved
end Go.Proofs.YtifcpafkcjdfhaaGreatDoor.equalIsAnEquivalenceTop

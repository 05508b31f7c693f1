/-
  The tied card of weighted/weightedlaw23.EqualDecidesForMadeModels, by the builder's one call.
-/
import Derived.Test.YtfebfmplcjdomaaGreatDoorKRowEqualDecidesForMadeModels
import Derived.Test.YtfebfmplcjdomaaGreatDoorCards
import Derived.Test.YtfebfmplcjdomaaGreatDoorTie
import Derived.SevenTiedAt
set_option linter.unusedVariables false
set_option linter.unusedSimpArgs false
namespace Go.Proofs.YtfebfmplcjdomaaGreatDoor.equalDecidesForMadeModelsTop
open Go
theorem cWf:Rows.equalDecidesForMadeModelsRow.wfByText (OpenSpec.ofChange Rows.equalDecidesForMadeModelsSpec)=true:=by kernel_rfl
theorem cMain:Tryz.pinned.checked.prog.mainIs=some (true,"2c8093259c35f5c79ef2a4132dffbfbbab020308963cab43371e8f0f27e62e64".toList):=by kernel_rfl
theorem cName:Tryz.pinned.checked.prog.funcNamed "weighted/weightedlaw23.EqualDecidesForMadeModels" = some 3:=by kernel_rfl
theorem cLooks:true=Tryz.pinned.checked.prog.looks []:=by kernel_rfl
theorem cStand:([24,24].all fun u=>!Tryz.pinned.checked.prog.wantsStandIn u)=true:=by kernel_rfl
theorem cGoes:false=Rows.equalDecidesForMadeModelsRow.goesBy Tryz.pinned.checked.prog:=by kernel_rfl
theorem proved:Rows.EqualDecidesForMadeModelsCardSaid :=
 Claim7.holds_tied_plain_at .later [] [.data,.data,.data,.data,.sentinel,.sentinel,.pinned] true (true,"2c8093259c35f5c79ef2a4132dffbfbbab020308963cab43371e8f0f27e62e64") true over (fun _ h=>by cases h) cWf (fun _ h=>by cases h) equalDecidesForMadeModels_row_tie rfl ⟨rfl,rfl⟩ cMain rfl
  (fun f fn hf hfn=>by
   obtain rfl:f=3:=Option.some.inj (cName.symm.trans hf) |>.symm
   obtain rfl:fn=Tryz.f3:=(Option.some.inj (Tryz.func3.symm.trans hfn)).symm
   exact ⟨cLooks,fun j t ht=>by
    rw [Tryz.params3] at ht
    have hm:t ∈ [24,24]:=by simpa using Array.mem_of_getElem? ht
    exact (show Tryz.pinned.checked.prog.wantsStandIn t=false by simpa using List.all_eq_true.1 cStand t hm)⟩)
  cGoes
#print axioms proved
end Go.Proofs.YtfebfmplcjdomaaGreatDoor.equalDecidesForMadeModelsTop

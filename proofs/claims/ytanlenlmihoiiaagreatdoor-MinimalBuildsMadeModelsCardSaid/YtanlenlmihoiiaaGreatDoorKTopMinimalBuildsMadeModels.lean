/-
  The tied card of weighted/weightedlaw24.MinimalBuildsMadeModels, by the builder's one call.
-/
import Derived.Test.YtanlenlmihoiiaaGreatDoorKRowMinimalBuildsMadeModels
import Derived.Test.YtanlenlmihoiiaaGreatDoorCards
import Derived.Test.YtanlenlmihoiiaaGreatDoorTie
set_option linter.unusedVariables false
set_option linter.unusedSimpArgs false
namespace Go.Proofs.YtanlenlmihoiiaaGreatDoor.minimalBuildsMadeModelsTop
open Go
theorem cWf:Rows.minimalBuildsMadeModelsRow.wfByText (OpenSpec.ofChange Rows.minimalBuildsMadeModelsSpec)=true:=by kernel_rfl
theorem cMain:Tryz.pinned.checked.prog.mainIs=some (true,"9e2446142ad15c6f3c862711096d5b8604142c71639a95166beaae6399b55c4b".toList):=by kernel_rfl
theorem cName:Tryz.pinned.checked.prog.funcNamed "weighted/weightedlaw24.MinimalBuildsMadeModels" = some 3:=by kernel_rfl
theorem cLooks:true=Tryz.pinned.checked.prog.looks []:=by kernel_rfl
theorem cStand:([24].all λu=>!Tryz.pinned.checked.prog.wantsStandIn u)=true:=by kernel_rfl
theorem cGoes:false=Rows.minimalBuildsMadeModelsRow.goesBy Tryz.pinned.checked.prog:=by kernel_rfl
theorem proved:Rows.MinimalBuildsMadeModelsCardSaid :=
 Claim7.holds_tied_plain_at .later [] [.data,.data,.data,.data,.sentinel,.sentinel,.pinned] true (true,"9e2446142ad15c6f3c862711096d5b8604142c71639a95166beaae6399b55c4b") true over (λ_ h=>by cases h) cWf (λ_ h=>by cases h) minimalBuildsMadeModels_row_tie rfl ⟨rfl,rfl⟩ cMain rfl
  (λf fn hf hfn=>by
   obtain rfl:f=3:=Option.some.inj (cName.symm.trans hf) |>.symm
   obtain rfl:fn=Tryz.f3:=(Option.some.inj (Tryz.func3.symm.trans hfn)).symm
   exact⟨cLooks,λj t ht=>by
    rw[Tryz.params3] at ht
    have hm:t ∈ [24]:=by simpa using Array.mem_of_getElem? ht
    exact (show Tryz.pinned.checked.prog.wantsStandIn t=false by simpa using List.all_eq_true.1 cStand t hm)⟩)
  cGoes
#print axioms proved
end Go.Proofs.YtanlenlmihoiiaaGreatDoor.minimalBuildsMadeModelsTop

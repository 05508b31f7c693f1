/-
  The tied card of weighted/weightedlaw24.MinimalIsCanonical, by the builder's one call.
-/
import Derived.Test.YtmcoihfkniccdaaGreatDoorKRowMinimalIsCanonical
import Derived.Test.YtmcoihfkniccdaaGreatDoorCards
import Derived.Test.YtmcoihfkniccdaaGreatDoorTie
import Derived.SevenTiedAt
set_option linter.unusedVariables false
set_option linter.unusedSimpArgs false
namespace Go.Proofs.YtmcoihfkniccdaaGreatDoor.minimalIsCanonicalTop
open Go
theorem cWf:Rows.minimalIsCanonicalRow.wfByText (OpenSpec.ofChange Rows.minimalIsCanonicalSpec)=true:=by kernel_rfl
theorem cMain:Tryz.pinned.checked.prog.mainIs=some (true,"b89df80ddfcfa84b0cbfe34d1add945c5cc5f135915ffd4ba8352d938dc7ba35".toList):=by kernel_rfl
theorem cName:Tryz.pinned.checked.prog.funcNamed "weighted/weightedlaw24.MinimalIsCanonical" = some 3:=by kernel_rfl
theorem cLooks:true=Tryz.pinned.checked.prog.looks []:=by kernel_rfl
theorem cStand:([24,24,3,3,3].all fun u=>!Tryz.pinned.checked.prog.wantsStandIn u)=true:=by kernel_rfl
theorem cGoes:false=Rows.minimalIsCanonicalRow.goesBy Tryz.pinned.checked.prog:=by kernel_rfl
theorem proved:Rows.MinimalIsCanonicalCardSaid :=
 Claim7.holds_tied_plain_at .later [] [.data,.data,.data,.data,.sentinel,.sentinel,.pinned] true (true,"b89df80ddfcfa84b0cbfe34d1add945c5cc5f135915ffd4ba8352d938dc7ba35") true over (fun _ h=>by cases h) cWf (fun _ h=>by cases h) minimalIsCanonical_row_tie rfl ⟨rfl,rfl⟩ cMain rfl
  (fun f fn hf hfn=>by
   obtain rfl:f=3:=Option.some.inj (cName.symm.trans hf) |>.symm
   obtain rfl:fn=Tryz.f3:=(Option.some.inj (Tryz.func3.symm.trans hfn)).symm
   exact ⟨cLooks,fun j t ht=>by
    rw [Tryz.params3] at ht
    have hm:t ∈ [24,24,3,3,3]:=by simpa using Array.mem_of_getElem? ht
    exact (show Tryz.pinned.checked.prog.wantsStandIn t=false by simpa using List.all_eq_true.1 cStand t hm)⟩)
  cGoes
#print axioms proved
end Go.Proofs.YtmcoihfkniccdaaGreatDoor.minimalIsCanonicalTop

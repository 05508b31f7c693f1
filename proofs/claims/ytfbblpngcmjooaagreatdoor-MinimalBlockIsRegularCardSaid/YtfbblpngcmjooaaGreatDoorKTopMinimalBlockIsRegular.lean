/-
  The tied card of weighted/weightedlaw24.MinimalBlockIsRegular, by the builder's one call.
-/
import Derived.Test.YtfbblpngcmjooaaGreatDoorKRowMinimalBlockIsRegular
import Derived.Test.YtfbblpngcmjooaaGreatDoorCards
import Derived.Test.YtfbblpngcmjooaaGreatDoorTie
import Derived.SevenTiedAt
set_option linter.unusedVariables false
set_option linter.unusedSimpArgs false
namespace Go.Proofs.YtfbblpngcmjooaaGreatDoor.minimalBlockIsRegularTop
open Go
theorem cWf:Rows.minimalBlockIsRegularRow.wfByText (OpenSpec.ofChange Rows.minimalBlockIsRegularSpec)=true:=by kernel_rfl
theorem cMain:Tryz.pinned.checked.prog.mainIs=some (true,"157362ae33293ae848c8a0b68c1b1f28aa7ddf90c820f5420de54535651ce431".toList):=by kernel_rfl
theorem cName:Tryz.pinned.checked.prog.funcNamed "weighted/weightedlaw24.MinimalBlockIsRegular" = some 4:=by kernel_rfl
theorem cLooks:true=Tryz.pinned.checked.prog.looks []:=by kernel_rfl
theorem cStand:([24].all fun u=>!Tryz.pinned.checked.prog.wantsStandIn u)=true:=by kernel_rfl
theorem cGoes:false=Rows.minimalBlockIsRegularRow.goesBy Tryz.pinned.checked.prog:=by kernel_rfl
theorem proved:Rows.MinimalBlockIsRegularCardSaid :=
 Claim7.holds_tied_plain_at .later [] [.data,.data,.data,.data,.sentinel,.sentinel,.pinned] true (true,"157362ae33293ae848c8a0b68c1b1f28aa7ddf90c820f5420de54535651ce431") true over (fun _ h=>by cases h) cWf (fun _ h=>by cases h) minimalBlockIsRegular_row_tie rfl ⟨rfl,rfl⟩ cMain rfl
  (fun f fn hf hfn=>by
   obtain rfl:f=4:=Option.some.inj (cName.symm.trans hf) |>.symm
   obtain rfl:fn=Tryz.f4:=(Option.some.inj (Tryz.func4.symm.trans hfn)).symm
   exact ⟨cLooks,fun j t ht=>by
    rw [Tryz.params4] at ht
    have hm:t ∈ [24]:=by simpa using Array.mem_of_getElem? ht
    exact (show Tryz.pinned.checked.prog.wantsStandIn t=false by simpa using List.all_eq_true.1 cStand t hm)⟩)
  cGoes
#print axioms proved
end Go.Proofs.YtfbblpngcmjooaaGreatDoor.minimalBlockIsRegularTop

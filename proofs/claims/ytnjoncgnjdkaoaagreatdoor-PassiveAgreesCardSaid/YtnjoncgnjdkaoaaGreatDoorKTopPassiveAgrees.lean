/-
  The tied card of weighted/weightedlaw30.PassiveAgrees, by the builder's one call.
-/
import Derived.Test.YtnjoncgnjdkaoaaGreatDoorKRowPassiveAgrees
import Derived.Test.YtnjoncgnjdkaoaaGreatDoorCards
import Derived.Test.YtnjoncgnjdkaoaaGreatDoorTie
set_option linter.unusedVariables false
set_option linter.unusedSimpArgs false
namespace Go.Proofs.YtnjoncgnjdkaoaaGreatDoor.passiveAgreesTop
open Go
theorem cWf:Rows.passiveAgreesRow.wfByText (OpenSpec.ofChange Rows.passiveAgreesSpec)=true:=by kernel_rfl
theorem cMain:Tryz.pinned.checked.prog.mainIs=some (true,"dec7c1de2daed098d9af28938d65665e8733ffeac94dfe08f9eb2f3ec5f567ff".toList):=by kernel_rfl
theorem cName:Tryz.pinned.checked.prog.funcNamed "weighted/weightedlaw30.PassiveAgrees" = some 4:=by kernel_rfl
theorem cLooks:true=Tryz.pinned.checked.prog.looks []:=by kernel_rfl
theorem cStand:([24,3,3].all λu=>!Tryz.pinned.checked.prog.wantsStandIn u)=true:=by kernel_rfl
theorem goes_none {P:Program}(h:(P.funcs.toList.all λf=>!f.goes)=true)(f:FuncId):P.goes f=false:=by
 have hm:∀ (g:Nat) fn,P.funcs[g]? = some fn->fn.goes=false:=λg fn hg=>by
  have:=List.all_eq_true.1 h fn (Array.mem_toList_iff.2 (Array.mem_of_getElem? hg))
  simpa using this
 have h1:((P.closure f).any λg=>(P.funcs[g]?).any Func.goes)=false:=by
  rw[<- Bool.not_eq_true]
  intro e
  simp only[List.any_eq_true] at e
  obtain⟨g,_,e⟩:=e
  cases hg:P.funcs[g]? with
  | none=>rw[hg] at e;cases e
  | some fn=>rw[hg] at e;rw[show (some fn:Option Func).any Func.goes=fn.goes from rfl,hm g fn hg] at e;cases e
 have h2:P.funcs.any Func.goes=false:=by
  rw[<- Bool.not_eq_true]
  intro e
  rw[Array.any_eq_true'] at e
  obtain⟨fn,hf,e⟩:=e
  have:=List.all_eq_true.1 h fn (Array.mem_toList_iff.2 hf)
  rw[e] at this;cases this
 unfold Program.goes
 rw[h1,h2,Bool.and_false];rfl
theorem goesBy_none {P:Program}(h:(P.funcs.toList.all λf=>!f.goes)=true)(c:OpenClaim):false=c.goesBy P:=by
 have g:=goes_none h
 unfold OpenClaim.goesBy Program.goesAt Program.goesFrom
 have e:P.goes=λ_=>false:=funext g
 rw[e]
 cases P.funcNamed c.func <;> cases c.start <;> simp
theorem cNoGo:(Tryz.pinned.checked.prog.funcs.toList.all λf=>!f.goes)=true:=by kernel_rfl
theorem cGoes:false=Rows.passiveAgreesRow.goesBy Tryz.pinned.checked.prog:=goesBy_none cNoGo _
theorem proved:Rows.PassiveAgreesCardSaid :=
 Claim7.holds_tied_plain_at .later [] [.data,.data,.data,.data,.sentinel,.sentinel,.pinned] true (true,"dec7c1de2daed098d9af28938d65665e8733ffeac94dfe08f9eb2f3ec5f567ff") true over (λ_ h=>by cases h) cWf (λ_ h=>by cases h) passiveAgrees_row_tie rfl ⟨rfl,rfl⟩ cMain rfl
  (λf fn hf hfn=>by
   obtain rfl:f=4:=Option.some.inj (cName.symm.trans hf) |>.symm
   obtain rfl:fn=Tryz.f4:=(Option.some.inj (Tryz.func4.symm.trans hfn)).symm
   exact⟨cLooks,λj t ht=>by
    rw[Tryz.params4] at ht
    have hm:t ∈ [24,3,3]:=by simpa using Array.mem_of_getElem? ht
    exact (show Tryz.pinned.checked.prog.wantsStandIn t=false by simpa using List.all_eq_true.1 cStand t hm)⟩)
  cGoes
#print axioms proved
end Go.Proofs.YtnjoncgnjdkaoaaGreatDoor.passiveAgreesTop

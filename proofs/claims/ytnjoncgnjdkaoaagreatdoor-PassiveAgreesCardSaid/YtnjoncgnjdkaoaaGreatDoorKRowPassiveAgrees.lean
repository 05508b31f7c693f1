/-
  weighted/weightedlaw30.PassiveAgrees returns true whatever the input, and every argument reads behind the call as it read before; no condition on the input.
-/
import Derived.Test.YtnjoncgnjdkaoaaGreatDoorKAlg40
import Derived.Test.YtnjoncgnjdkaoaaGreatDoorKFacts
import Derived.ProofKit
import Derived.OpenShut
import Derived.LaidMore
import Derived.Lay
import Derived.SevenTiedAt
import Derived.Stop.Joined
set_option linter.unusedVariables false
set_option linter.unusedSimpArgs false
namespace Go.Proofs.YtnjoncgnjdkaoaaGreatDoor.passiveAgreesTop
open Go.ChangeShapes Go.WideShapes Go.ChangeAt Go.RowKit
theorem own:ownKnob Tryz.prog.godebug=none:=by kernel_rfl
theorem laidOut:laidOutB Tryz.prog=true:=fact.laidOut
set_option maxRecDepth 100000 in
theorem lifted (os:Os)(started:os.Started)(H:Type)(enc:TypeId × Value->H) :
  ReturnsInHanded {} Tryz.checked os 4 .any (λw args=>(Rows.passiveAgreesSpec.pre enc Tryz.prog Tryz.f4 Rows.passiveAgreesRow.domain false w args/\laidMetH Tryz.prog Rows.passiveAgreesRow.laid w)/\sizedMet enc Tryz.prog Tryz.f4 (OpenSpec.ofChange Rows.passiveAgreesSpec) false w args)
   (Rows.passiveAgreesSpec.post enc Tryz.prog Tryz.f4 false true false false):=by
 refine returnsInHanded_of_change_and (C:=Tryz.checked) (X:=λw _=>laidMetH Tryz.prog Rows.passiveAgreesRow.laid w) (λ_ _ _ hh h=>h.of_heap hh) own started (by kernel_rfl) Tryz.func4
  (ChangeSpec.witness_shaped (enc:=enc) (C:=Tryz.checked) (os:=os) (X:=λw _=>laidMetH Tryz.prog Rows.passiveAgreesRow.laid w) false (World.laidAll Tryz.prog os Rows.passiveAgreesRow.laid) #[.agg #[.int .i64 0,.int .i64 0,.bool false,.bool false,.slice none 0 0],.int .i64 0,.int .i64 0] 8 (World.laidAll_os _ _ _)
   (World.shaped_of_ZipB (by kernel_rfl) (by kernel_rfl)) (by kernel_rfl) (by kernel_rfl) (by kernel_rfl)
   (by rw[MakeChecks.laidMetH_plain _ _ _ (by kernel_rfl)];exact laidMet_laidAll _ (by kernel_rfl) (by kernel_rfl))) ?_
 intro W base args ds gs before hval0 hW hcnd _ _ _;have hval:∀ (j:Nat) t v,Tryz.f4.params[j]? = some t->args[j]? = some v->Value.okWide Tryz.prog W .any base t v:=hval0;have hW':=hW;obtain⟨p,q,hA0,hV,rfl,hfz,hnd⟩:=hW;have hA:DataW.TrodAll enc Tryz.prog W 0 (λ_=>true) true Tryz.f4.params.toList args.toList ds p:=hA0;rw[Tryz.params4] at hA hval;obtain⟨v0,vs0,d0,ds0,p0,q0,hargs,rfl,rfl,h0,r0⟩:=trodAll_cons hA;obtain⟨v1,vs1,d1,ds1,p1,q1,rfl,rfl,rfl,h1,r1⟩:=trodAll_cons r0;obtain⟨v2,vs2,d2,ds2,p2,q2,rfl,rfl,rfl,h2,r2⟩:=trodAll_cons r1;obtain⟨rfl,rfl,rfl⟩:=trodAll_nil r2;obtain rfl:args = #[v0,v1,v2]:=by cases args;simp_all
 obtain⟨rfl,rfl⟩:=trodVars_none hV;have k0:=h0;have lt0:∀ x ∈ p0,x.block<W.heap.size:=by obtain⟨m,hm⟩:=k0;exact DataW.trod_lt m _ _ _ hm
 obtain⟨x00,x01,x02,x03,x04,y00,y01,y02,y03,y04,n0,rfl,e00,e01,e02,e03,e04⟩:=AL.aa2 Tryz.underlying24 (by kernel_rfl) (by kernel_rfl) (hval 0 24 v0 rfl rfl) h0
 obtain⟨ps0,rfl⟩:=AL.Tm Tryz.underlying3 e00;obtain⟨py0,rfl⟩:=AL.Tm Tryz.underlying3 e01;obtain⟨pf0,rfl⟩:=AL.QA Tryz.underlying4 e02;obtain⟨pi0,rfl⟩:=AL.QA Tryz.underlying4 e03;obtain⟨L0,iL0⟩:=AL.Za Tryz.underlying22 Tryz.underlying3 (by kernel_rfl) e04
 obtain⟨n1,rfl,rfl,rfl,w1⟩:=open_int Tryz.underlying3 (hval 1 3 v1 rfl rfl) h1;obtain⟨n2,rfl,rfl,rfl,w2⟩:=open_int Tryz.underlying3 (hval 2 3 v2 rfl rfl) h2;simp only[List.append_nil,List.nil_append] at hW';clear hA0 hval0;refine (AL.af9 (IJ (L:=L0) (st:=ps0) (sy:=py0) (fw:=pf0) (si:=pi0) (av:=n1) (bv:=n2) iL0.len) (AL.rq (AL.aa3 (AL.Hg _ _) (AL.Hg _ _) (AL.O3 _) (AL.O3 _) iL0.gU) (AL.rq (AL.Hg _ _) (AL.rq (AL.Hg _ _) (AL.O1))))).mono λe W' ⟨he,bel⟩=>?_;subst he;exact⟨_,rfl,_,_,_,[],_,[],hW',trodAll_mk1 (shut_bool Tryz.underlying4 _),
  (trodAll_cons_mk (Below.trod laidOut (by kernel_rfl) (of_decide_eq_true (by kernel_rfl)) k0 bel lt0) (trodAll_cons_mk (shut_int Tryz.underlying3 w1) (trodAll_cons_mk (shut_int Tryz.underlying3 w2) (trodAll_mk0)))),rfl,bel.frame _,λh=>by cases h⟩
theorem fInPlace:(Rows.passiveAgreesRow.inPlace == Tryz.prog.inPlace 4)=true:=by kernel_rfl
theorem fUnfollowed:(Rows.passiveAgreesRow.unfollowed == Tryz.prog.unfollowed 4)=true:=by kernel_rfl
theorem fRecurses:(Rows.passiveAgreesRow.recurses == Tryz.prog.recurses 4)=true:=by kernel_rfl
theorem fNamed:(Rows.passiveAgreesRow.named == Tryz.prog.varsNamed 4)=true:=by kernel_rfl
theorem closed:joinedFacts Tryz.prog 4 Tryz.f4 Rows.passiveAgreesSpec Rows.passiveAgreesRow=true:=by
 simp only[joinedFacts,Bool.and_eq_true];exact⟨⟨⟨⟨⟨⟨⟨⟨⟨⟨⟨⟨⟨⟨⟨⟨⟨⟨⟨⟨⟨⟨⟨⟨⟨⟨⟨⟨⟨⟨⟨(by as_aux_lemma=>kernel_rfl),fact.laidOut⟩,fact.mapsRowed⟩,(by as_aux_lemma=>kernel_rfl)⟩,(by as_aux_lemma=>kernel_rfl)⟩,(by as_aux_lemma=>kernel_rfl)⟩,(by as_aux_lemma=>kernel_rfl)⟩,(by as_aux_lemma=>kernel_rfl)⟩,(by as_aux_lemma=>kernel_rfl)⟩,fInPlace⟩,fUnfollowed⟩,fRecurses⟩,fNamed⟩,(by as_aux_lemma=>kernel_rfl)⟩,(by as_aux_lemma=>kernel_rfl)⟩,(by as_aux_lemma=>kernel_rfl)⟩,(by as_aux_lemma=>kernel_rfl)⟩,(by as_aux_lemma=>kernel_rfl)⟩,(by as_aux_lemma=>kernel_rfl)⟩,(by as_aux_lemma=>kernel_rfl)⟩,(by as_aux_lemma=>kernel_rfl)⟩,(by as_aux_lemma=>kernel_rfl)⟩,fact.keys⟩,(by as_aux_lemma=>kernel_rfl)⟩,fact.heard⟩,fact.enter⟩,fact.lifts⟩,(by as_aux_lemma=>kernel_rfl)⟩,(by as_aux_lemma=>kernel_rfl)⟩,(by as_aux_lemma=>kernel_rfl)⟩,(by as_aux_lemma=>kernel_rfl)⟩,(by as_aux_lemma=>kernel_rfl)⟩
theorem over:Rows.passiveAgreesRow.holds Tryz.pinned (OpenSpec.ofChange Rows.passiveAgreesSpec) :=
 OpenClaim.holds_of_wide 4 Tryz.f4 rfl rfl rfl rfl rfl rfl rfl ⟨rfl,rfl,rfl,rfl,rfl⟩ rfl rfl rfl rfl rfl (by kernel_rfl) Tryz.func4 closed
  (of_decide_eq_true (by kernel_rfl)) (by unfold Func.isWrapper;first|(rw[if_pos (by decide +kernel)];kernel_rfl)|(rw[if_neg (by decide +kernel)];exact⟨rfl,rfl⟩))
  (λos started H enc _=>lifted os started H enc)
end Go.Proofs.YtnjoncgnjdkaoaaGreatDoor.passiveAgreesTop

/-
  weighted/weightedlaw24.MinimalHasTheSeries returns true whatever the input, and every argument reads behind the call as it read before; no condition on the input.
-/
import Derived.Test.YtanlenlmihoiiaaGreatDoorKAlg40
import Derived.Test.YtanlenlmihoiiaaGreatDoorKFacts
import Derived.ProofKit
import Derived.OpenShut
import Derived.LaidMore
import Derived.Lay
import Derived.SevenTiedAt
import Derived.Stop.Joined
set_option linter.unusedVariables false
set_option linter.unusedSimpArgs false
namespace Go.Proofs.YtanlenlmihoiiaaGreatDoor.minimalHasTheSeriesTop
open Go.ChangeShapes Go.WideShapes Go.ChangeAt Go.RowKit
theorem own:ownKnob Tryz.prog.godebug=none:=by kernel_rfl
theorem laidOut:laidOutB Tryz.prog=true:=fact.laidOut
set_option maxRecDepth 100000 in
theorem lifted (os:Os)(started:os.Started)(H:Type)(enc:TypeId × Value->H) :
  ReturnsInHanded {} Tryz.checked os 4 .any (λw args=>(Rows.minimalHasTheSeriesSpec.pre enc Tryz.prog Tryz.f4 Rows.minimalHasTheSeriesRow.domain false w args/\laidMetH Tryz.prog Rows.minimalHasTheSeriesRow.laid w)/\sizedMet enc Tryz.prog Tryz.f4 (OpenSpec.ofChange Rows.minimalHasTheSeriesSpec) false w args)
   (Rows.minimalHasTheSeriesSpec.post enc Tryz.prog Tryz.f4 false true false false):=by
 refine returnsInHanded_of_change_and (C:=Tryz.checked) (X:=λw _=>laidMetH Tryz.prog Rows.minimalHasTheSeriesRow.laid w) (λ_ _ _ hh h=>h.of_heap hh) own started (by kernel_rfl) Tryz.func4
  (ChangeSpec.witness_shaped (enc:=enc) (C:=Tryz.checked) (os:=os) (X:=λw _=>laidMetH Tryz.prog Rows.minimalHasTheSeriesRow.laid w) false (World.laidAll Tryz.prog os Rows.minimalHasTheSeriesRow.laid) #[.agg #[.int .i64 0,.slice none 0 0,.slice none 0 0,.slice none 0 0,.bool false],.slice none 0 0] 8 (World.laidAll_os _ _ _)
   (World.shaped_of_ZipB (by kernel_rfl) (by kernel_rfl)) (by kernel_rfl) (by kernel_rfl) (by kernel_rfl)
   (by rw[MakeChecks.laidMetH_plain _ _ _ (by kernel_rfl)];exact laidMet_laidAll _ (by kernel_rfl) (by kernel_rfl))) ?_
 intro W base args ds gs before hval0 hW hcnd _ _ _;have hval:∀ (j:Nat) t v,Tryz.f4.params[j]? = some t->args[j]? = some v->Value.okWide Tryz.prog W .any base t v:=hval0;have hW':=hW;obtain⟨p,q,hA0,hV,rfl,hfz,hnd⟩:=hW;have hA:DataW.TrodAll enc Tryz.prog W 0 (λ_=>true) true Tryz.f4.params.toList args.toList ds p:=hA0;rw[Tryz.params4] at hA hval;obtain⟨v0,vs0,d0,ds0,p0,q0,hargs,rfl,rfl,h0,r0⟩:=trodAll_cons hA;obtain⟨v1,vs1,d1,ds1,p1,q1,rfl,rfl,rfl,h1,r1⟩:=trodAll_cons r0;obtain⟨rfl,rfl,rfl⟩:=trodAll_nil r1;obtain rfl:args = #[v0,v1]:=by cases args;simp_all
 obtain⟨rfl,rfl⟩:=trodVars_none hV;have k0:=h0;have lt0:∀ x ∈ p0,x.block<W.heap.size:=by obtain⟨m,hm⟩:=k0;exact DataW.trod_lt m _ _ _ hm
 have k1:=h1;have xG:∀ x ∈ p1,x.block<W.heap.size:=by obtain⟨m,hm⟩:=k1;exact DataW.trod_lt m _ _ _ hm
 obtain⟨x00,x01,x02,x03,x04,y00,y01,y02,y03,y04,n0,rfl,e00,e01,e02,e03,e04⟩:=AL.an0 Tryz.underlying24 (by kernel_rfl) (by kernel_rfl) (hval 0 24 v0 rfl rfl) h0
 obtain⟨s0,rfl⟩:=AL.as8 Tryz.underlying3 e00;obtain⟨a0,ia0⟩:=AL.F9 Tryz.underlying22 Tryz.underlying3 (by kernel_rfl) e01
 obtain⟨b0,ib0⟩:=AL.F9 Tryz.underlying22 Tryz.underlying3 (by kernel_rfl) e02
 obtain⟨c0,ic0⟩:=AL.F9 Tryz.underlying22 Tryz.underlying3 (by kernel_rfl) e03
 obtain⟨e0,rfl⟩:=AL.an1 Tryz.underlying4 e04;obtain⟨a1,len1,cap1,rfl⟩:=okWide_slice Tryz.underlying22 (hval 1 22 v1 rfl rfl);obtain⟨f1,g1⟩:=h1;obtain⟨l1,il1⟩:=AL.F9 Tryz.underlying22 Tryz.underlying3 (by kernel_rfl) g1
 clear hA0 hval0;refine (AL.as6 (Dn (m:=⟨s0,a0,b0,c0⟩) (l:=l1) ia0.len ib0.len ic0.len il1.len) (AL.uS (AL.an2 (AL.as7 _ _) ia0.gU ib0.gU ic0.gU (AL.af7 _)) (AL.uS (il1.gU) (AL.QG)))).mono λe W' ⟨he,bel⟩=>?_;subst he;exact⟨_,rfl,_,_,_,[],_,[],hW',trodAll_mk1 (shut_bool Tryz.underlying4 _),
  (trodAll_cons_mk (Below.trod laidOut (by kernel_rfl) (of_decide_eq_true (by kernel_rfl)) k0 bel lt0) (trodAll_cons_mk (Below.trod laidOut (by kernel_rfl) (of_decide_eq_true (by kernel_rfl)) k1 bel xG) (trodAll_mk0))),rfl,bel.frame _,λh=>by cases h⟩
theorem fInPlace:(Rows.minimalHasTheSeriesRow.inPlace == Tryz.prog.inPlace 4)=true:=by kernel_rfl
theorem fUnfollowed:(Rows.minimalHasTheSeriesRow.unfollowed == Tryz.prog.unfollowed 4)=true:=by kernel_rfl
theorem fRecurses:(Rows.minimalHasTheSeriesRow.recurses == Tryz.prog.recurses 4)=true:=by kernel_rfl
theorem fNamed:(Rows.minimalHasTheSeriesRow.named == Tryz.prog.varsNamed 4)=true:=by kernel_rfl
theorem closed:joinedFacts Tryz.prog 4 Tryz.f4 Rows.minimalHasTheSeriesSpec Rows.minimalHasTheSeriesRow=true:=by
 simp only[joinedFacts,Bool.and_eq_true];exact⟨⟨⟨⟨⟨⟨⟨⟨⟨⟨⟨⟨⟨⟨⟨⟨⟨⟨⟨⟨⟨⟨⟨⟨⟨⟨⟨⟨⟨⟨⟨(by as_aux_lemma=>kernel_rfl),fact.laidOut⟩,fact.mapsRowed⟩,(by as_aux_lemma=>kernel_rfl)⟩,(by as_aux_lemma=>kernel_rfl)⟩,(by as_aux_lemma=>kernel_rfl)⟩,(by as_aux_lemma=>kernel_rfl)⟩,(by as_aux_lemma=>kernel_rfl)⟩,(by as_aux_lemma=>kernel_rfl)⟩,fInPlace⟩,fUnfollowed⟩,fRecurses⟩,fNamed⟩,(by as_aux_lemma=>kernel_rfl)⟩,(by as_aux_lemma=>kernel_rfl)⟩,(by as_aux_lemma=>kernel_rfl)⟩,(by as_aux_lemma=>kernel_rfl)⟩,(by as_aux_lemma=>kernel_rfl)⟩,(by as_aux_lemma=>kernel_rfl)⟩,(by as_aux_lemma=>kernel_rfl)⟩,(by as_aux_lemma=>kernel_rfl)⟩,(by as_aux_lemma=>kernel_rfl)⟩,fact.keys⟩,(by as_aux_lemma=>kernel_rfl)⟩,fact.heard⟩,fact.enter⟩,fact.lifts⟩,(by as_aux_lemma=>kernel_rfl)⟩,(by as_aux_lemma=>kernel_rfl)⟩,(by as_aux_lemma=>kernel_rfl)⟩,(by as_aux_lemma=>kernel_rfl)⟩,(by as_aux_lemma=>kernel_rfl)⟩
theorem over:Rows.minimalHasTheSeriesRow.holds Tryz.pinned (OpenSpec.ofChange Rows.minimalHasTheSeriesSpec) :=
 OpenClaim.holds_of_wide 4 Tryz.f4 rfl rfl rfl rfl rfl rfl rfl ⟨rfl,rfl,rfl,rfl,rfl⟩ rfl rfl rfl rfl rfl (by kernel_rfl) Tryz.func4 closed
  (of_decide_eq_true (by kernel_rfl)) (by unfold Func.isWrapper;first|(rw[if_pos (by decide +kernel)];kernel_rfl)|(rw[if_neg (by decide +kernel)];exact⟨rfl,rfl⟩))
  (λos started H enc _=>lifted os started H enc)
end Go.Proofs.YtanlenlmihoiiaaGreatDoor.minimalHasTheSeriesTop

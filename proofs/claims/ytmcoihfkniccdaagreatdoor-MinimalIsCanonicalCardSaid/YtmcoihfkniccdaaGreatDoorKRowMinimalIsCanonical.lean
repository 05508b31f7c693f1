/-
  weighted/weightedlaw24.MinimalIsCanonical returns true whatever the input, and every argument reads behind the call as it read before; no condition on the input.
-/
import Derived.Test.YtmcoihfkniccdaaGreatDoorRows
import Derived.Test.YtmcoihfkniccdaaGreatDoorKAlg40
import Derived.Test.YtmcoihfkniccdaaGreatDoorKFacts
import Derived.WalkKit
import Derived.ProofKit
import Derived.OpenShut
import Derived.Below
import Derived.Carry
import Derived.Lib.SmallJoins
import Derived.LaidMore
import Derived.Lay
import Derived.SevenTiedAt
import Derived.Stop.Joined
set_option linter.unusedVariables false
set_option linter.unusedSimpArgs false
namespace Go.Proofs.YtmcoihfkniccdaaGreatDoor.minimalIsCanonicalTop
open Go.ChangeShapes Go.WideShapes Go.ChangeAt Go.RowKit
theorem own:ownKnob Tryz.prog.godebug=none:=by kernel_rfl
theorem laidOut:laidOutB Tryz.prog=true:=fact.laidOut
set_option maxRecDepth 100000 in
theorem lifted (os:Os)(started:os.Started)(H:Type)(enc:TypeId × Value→H) :
  ReturnsInHanded {} Tryz.checked os 3 .any (fun w args=>(Rows.minimalIsCanonicalSpec.pre enc Tryz.prog Tryz.f3 Rows.minimalIsCanonicalRow.domain false w args∧laidMetH Tryz.prog Rows.minimalIsCanonicalRow.laid w)∧sizedMet enc Tryz.prog Tryz.f3 (OpenSpec.ofChange Rows.minimalIsCanonicalSpec) false w args)
   (Rows.minimalIsCanonicalSpec.post enc Tryz.prog Tryz.f3 false true false false):=by
 refine returnsInHanded_of_change_and (C:=Tryz.checked) (X:=fun w _=>laidMetH Tryz.prog Rows.minimalIsCanonicalRow.laid w) (fun _ _ _ hh h=>h.of_heap hh) own started (by kernel_rfl) Tryz.func3
  (ChangeSpec.witness_shaped (enc:=enc) (C:=Tryz.checked) (os:=os) (X:=fun w _=>laidMetH Tryz.prog Rows.minimalIsCanonicalRow.laid w) false (World.laidAll Tryz.prog os Rows.minimalIsCanonicalRow.laid) #[.agg #[.int .i64 0,.slice none 0 0,.slice none 0 0,.slice none 0 0,.bool false],.agg #[.int .i64 0,.slice none 0 0,.slice none 0 0,.slice none 0 0,.bool false],.int .i64 0,.int .i64 0,.int .i64 0] 8 (World.laidAll_os _ _ _)
   (World.shaped_of_ZipB (by kernel_rfl) (by kernel_rfl)) (by kernel_rfl) (by kernel_rfl) (by kernel_rfl)
   (by rw [MakeChecks.laidMetH_plain _ _ _ (by kernel_rfl)];exact laidMet_laidAll _ (by kernel_rfl) (by kernel_rfl))) ?_
 intro W base args ds gs before hval0 hW hcnd _ _ _
 have hval:∀ (j:Nat) t v,Tryz.f3.params[j]? = some t→args[j]? = some v→Value.okWide Tryz.prog W .any base t v:=hval0
 have hW':=hW
 obtain ⟨p,q,hA0,hV,rfl,hfz,hnd⟩:=hW
 have hA:DataW.TrodAll enc Tryz.prog W 0 (fun _=>true) true Tryz.f3.params.toList args.toList ds p:=hA0
 rw [Tryz.params3] at hA hval
 obtain ⟨v0,vs0,d0,ds0,p0,q0,hargs,rfl,rfl,h0,r0⟩:=trodAll_cons hA
 obtain ⟨v1,vs1,d1,ds1,p1,q1,rfl,rfl,rfl,h1,r1⟩:=trodAll_cons r0
 obtain ⟨v2,vs2,d2,ds2,p2,q2,rfl,rfl,rfl,h2,r2⟩:=trodAll_cons r1
 obtain ⟨v3,vs3,d3,ds3,p3,q3,rfl,rfl,rfl,h3,r3⟩:=trodAll_cons r2
 obtain ⟨v4,vs4,d4,ds4,p4,q4,rfl,rfl,rfl,h4,r4⟩:=trodAll_cons r3
 obtain ⟨rfl,rfl,rfl⟩:=trodAll_nil r4
 obtain rfl:args = #[v0,v1,v2,v3,v4]:=by cases args;simp_all
 obtain ⟨rfl,rfl⟩:=trodVars_none hV
 have k0:=h0
 have lt0:∀ x ∈ p0,x.block<W.heap.size:=by obtain ⟨m,hm⟩:=k0;exact DataW.trod_lt m _ _ _ hm
 have k1:=h1
 have lt1:∀ x ∈ p1,x.block<W.heap.size:=by obtain ⟨m,hm⟩:=k1;exact DataW.trod_lt m _ _ _ hm
 obtain ⟨x00,x01,x02,x03,x04,y00,y01,y02,y03,y04,n0,rfl,e00,e01,e02,e03,e04⟩:=AL.open_agg5 Tryz.underlying24 (by kernel_rfl) (by kernel_rfl) (hval 0 24 v0 rfl rfl) h0
 obtain ⟨s0,rfl⟩:=AL.int_open Tryz.underlying3 e00
 obtain ⟨a0,ia0⟩:=AL.ints_open Tryz.underlying22 Tryz.underlying3 (by kernel_rfl) e01
 obtain ⟨b0,ib0⟩:=AL.ints_open Tryz.underlying22 Tryz.underlying3 (by kernel_rfl) e02
 obtain ⟨c0,ic0⟩:=AL.ints_open Tryz.underlying22 Tryz.underlying3 (by kernel_rfl) e03
 obtain ⟨e0,rfl⟩:=AL.bool_open Tryz.underlying4 e04
 obtain ⟨x10,x11,x12,x13,x14,y10,y11,y12,y13,y14,n1,rfl,e10,e11,e12,e13,e14⟩:=AL.open_agg5 Tryz.underlying24 (by kernel_rfl) (by kernel_rfl) (hval 1 24 v1 rfl rfl) h1
 obtain ⟨s1,rfl⟩:=AL.int_open Tryz.underlying3 e10
 obtain ⟨a1,ia1⟩:=AL.ints_open Tryz.underlying22 Tryz.underlying3 (by kernel_rfl) e11
 obtain ⟨b1,ib1⟩:=AL.ints_open Tryz.underlying22 Tryz.underlying3 (by kernel_rfl) e12
 obtain ⟨c1,ic1⟩:=AL.ints_open Tryz.underlying22 Tryz.underlying3 (by kernel_rfl) e13
 obtain ⟨e1,rfl⟩:=AL.bool_open Tryz.underlying4 e14
 obtain ⟨n2,rfl,rfl,rfl,w2⟩:=open_int Tryz.underlying3 (hval 2 3 v2 rfl rfl) h2
 obtain ⟨n3,rfl,rfl,rfl,w3⟩:=open_int Tryz.underlying3 (hval 3 3 v3 rfl rfl) h3
 obtain ⟨n4,rfl,rfl,rfl,w4⟩:=open_int Tryz.underlying3 (hval 4 3 v4 rfl rfl) h4
 simp only [List.append_nil,List.nil_append] at hW'
 clear hA0 hval0
 refine (AL.top_call (law_MinimalIsCanonical (m:=⟨s0,a0,b0,c0⟩) (n:=⟨s1,a1,b1,c1⟩) (fr:=n2) (la:=n3) (v:=n4) ia0.len ib0.len ic0.len ia1.len ib1.len ic1.len) (AL.simvs_cons (AL.simv_agg5 (AL.simv_int _ _) ia0.sim ib0.sim ic0.sim (AL.simv_bool _)) (AL.simvs_cons (AL.simv_agg5 (AL.simv_int _ _) ia1.sim ib1.sim ic1.sim (AL.simv_bool _)) (AL.simvs_cons (AL.simv_int _ _) (AL.simvs_cons (AL.simv_int _ _) (AL.simvs_cons (AL.simv_int _ _) (AL.simvs_nil))))))).mono fun e W' ⟨he,bel⟩=>?_
 subst he
 exact ⟨_,rfl,_,_,_,[],_,[],hW',trodAll_mk1 (shut_bool Tryz.underlying4 _),
  (trodAll_cons_mk (Below.trod laidOut (by kernel_rfl) (of_decide_eq_true (by kernel_rfl)) k0 bel lt0) (trodAll_cons_mk (Below.trod laidOut (by kernel_rfl) (of_decide_eq_true (by kernel_rfl)) k1 bel lt1) (trodAll_cons_mk (shut_int Tryz.underlying3 w2) (trodAll_cons_mk (shut_int Tryz.underlying3 w3) (trodAll_cons_mk (shut_int Tryz.underlying3 w4) (trodAll_mk0)))))),rfl,bel.frame _,fun h=>by cases h⟩
theorem fInPlace:(Rows.minimalIsCanonicalRow.inPlace == Tryz.prog.inPlace 3)=true:=by kernel_rfl
theorem fUnfollowed:(Rows.minimalIsCanonicalRow.unfollowed == Tryz.prog.unfollowed 3)=true:=by kernel_rfl
theorem fRecurses:(Rows.minimalIsCanonicalRow.recurses == Tryz.prog.recurses 3)=true:=by kernel_rfl
theorem fNamed:(Rows.minimalIsCanonicalRow.named == Tryz.prog.varsNamed 3)=true:=by kernel_rfl
theorem closed:joinedFacts Tryz.prog 3 Tryz.f3 Rows.minimalIsCanonicalSpec Rows.minimalIsCanonicalRow=true:=by
 simp only [joinedFacts,Bool.and_eq_true]
 exact ⟨⟨⟨⟨⟨⟨⟨⟨⟨⟨⟨⟨⟨⟨⟨⟨⟨⟨⟨⟨⟨⟨⟨⟨⟨⟨⟨⟨⟨⟨⟨(by as_aux_lemma=>kernel_rfl),fact.laidOut⟩,fact.mapsRowed⟩,(by as_aux_lemma=>kernel_rfl)⟩,(by as_aux_lemma=>kernel_rfl)⟩,(by as_aux_lemma=>kernel_rfl)⟩,(by as_aux_lemma=>kernel_rfl)⟩,(by as_aux_lemma=>kernel_rfl)⟩,(by as_aux_lemma=>kernel_rfl)⟩,fInPlace⟩,fUnfollowed⟩,fRecurses⟩,fNamed⟩,(by as_aux_lemma=>kernel_rfl)⟩,(by as_aux_lemma=>kernel_rfl)⟩,(by as_aux_lemma=>kernel_rfl)⟩,(by as_aux_lemma=>kernel_rfl)⟩,(by as_aux_lemma=>kernel_rfl)⟩,(by as_aux_lemma=>kernel_rfl)⟩,(by as_aux_lemma=>kernel_rfl)⟩,(by as_aux_lemma=>kernel_rfl)⟩,(by as_aux_lemma=>kernel_rfl)⟩,fact.keys⟩,(by as_aux_lemma=>kernel_rfl)⟩,fact.heard⟩,fact.enter⟩,fact.lifts⟩,(by as_aux_lemma=>kernel_rfl)⟩,(by as_aux_lemma=>kernel_rfl)⟩,(by as_aux_lemma=>kernel_rfl)⟩,(by as_aux_lemma=>kernel_rfl)⟩,(by as_aux_lemma=>kernel_rfl)⟩
theorem over:Rows.minimalIsCanonicalRow.holds Tryz.pinned (OpenSpec.ofChange Rows.minimalIsCanonicalSpec) :=
 OpenClaim.holds_of_wide 3 Tryz.f3 rfl rfl rfl rfl rfl rfl rfl ⟨rfl,rfl,rfl,rfl,rfl⟩ rfl rfl rfl rfl rfl (by kernel_rfl) Tryz.func3 closed
  (of_decide_eq_true (by kernel_rfl)) (by unfold Func.isWrapper;first|(rw [if_pos (by decide +kernel)];kernel_rfl)|(rw [if_neg (by decide +kernel)];exact ⟨rfl,rfl⟩))
  (fun os started H enc _=>lifted os started H enc)
end Go.Proofs.YtmcoihfkniccdaaGreatDoor.minimalIsCanonicalTop

/-
  weighted/weightedlaw33.HmmSums returns true whatever the input, and every argument reads behind the call as it read before; no condition on the input.
-/
import Derived.Test.YteiohkpjgcioaaaGreatDoorRows
import Derived.Test.YteiohkpjgcioaaaGreatDoorKHoL
import Derived.Test.YteiohkpjgcioaaaGreatDoorKAlgd
import Derived.Lib.SmallJoins
import Derived.Test.YteiohkpjgcioaaaGreatDoorKFacts
import Derived.WalkKit
import Derived.ProofKit
import Derived.OpenShut
import Derived.Below
import Derived.Carry
import Derived.LaidMore
import Derived.Lay
import Derived.SevenTiedAt
import Derived.Stop.Joined
set_option linter.unusedVariables false
set_option linter.unusedSimpArgs false
namespace Go.Proofs.YteiohkpjgcioaaaGreatDoor.hmmSumsTop
open Go.ChangeShapes Go.WideShapes Go.ChangeAt Go.RowKit
theorem own:ownKnob Tryz.prog.godebug=none:=by kernel_rfl
theorem laidOut:laidOutB Tryz.prog=true:=fact.laidOut
set_option maxRecDepth 100000 in
theorem lifted (os:Os)(started:os.Started)(H:Type)(enc:TypeId × Value→H) :
  ReturnsInHanded {} Tryz.checked os 4 .any (fun w args=>(Rows.hmmSumsSpec.pre enc Tryz.prog Tryz.f4 Rows.hmmSumsRow.domain false w args∧laidMetH Tryz.prog Rows.hmmSumsRow.laid w)∧sizedMet enc Tryz.prog Tryz.f4 (OpenSpec.ofChange Rows.hmmSumsSpec) false w args)
   (Rows.hmmSumsSpec.post enc Tryz.prog Tryz.f4 false true false false):=by
 refine returnsInHanded_of_change_and (C:=Tryz.checked) (X:=fun w _=>laidMetH Tryz.prog Rows.hmmSumsRow.laid w) (fun _ _ _ hh h=>h.of_heap hh) own started (by kernel_rfl) Tryz.func4
  (ChangeSpec.witness_shaped (enc:=enc) (C:=Tryz.checked) (os:=os) (X:=fun w _=>laidMetH Tryz.prog Rows.hmmSumsRow.laid w) false (World.laidAll Tryz.prog os Rows.hmmSumsRow.laid) #[.agg #[.int .i64 0,.int .i64 0,.slice none 0 0],.int .i64 0] 8 (World.laidAll_os _ _ _)
   (World.shaped_of_ZipB (by kernel_rfl) (by kernel_rfl)) (by kernel_rfl) (by kernel_rfl) (by kernel_rfl)
   (by rw [MakeChecks.laidMetH_plain _ _ _ (by kernel_rfl)];exact laidMet_laidAll _ (by kernel_rfl) (by kernel_rfl))) ?_
 intro W base args ds gs before hval0 hW hcnd _ _ _
 have hval:∀ (j:Nat) t v,Tryz.f4.params[j]? = some t→args[j]? = some v→Value.okWide Tryz.prog W .any base t v:=hval0
 have hW':=hW
 obtain ⟨p,q,hA0,hV,rfl,hfz,hnd⟩:=hW
 have hA:DataW.TrodAll enc Tryz.prog W 0 (fun _=>true) true Tryz.f4.params.toList args.toList ds p:=hA0
 rw [Tryz.params4] at hA hval
 obtain ⟨v0,vs0,d0,ds0,p0,q0,hargs,rfl,rfl,h0,r0⟩:=trodAll_cons hA
 obtain ⟨v1,vs1,d1,ds1,p1,q1,rfl,rfl,rfl,h1,r1⟩:=trodAll_cons r0
 obtain ⟨rfl,rfl,rfl⟩:=trodAll_nil r1
 obtain rfl:args = #[v0,v1]:=by cases args;simp_all
 obtain ⟨rfl,rfl⟩:=trodVars_none hV
 have k0:=h0
 have lt0:∀ x ∈ p0,x.block<W.heap.size:=by obtain ⟨m,hm⟩:=k0;exact DataW.trod_lt m _ _ _ hm
 obtain ⟨x00,x01,x02,y00,y01,y02,n0,rfl,rfl,rfl,e00,e01,e02⟩:=Joins.open_agg3 Tryz.underlying24 (by kernel_rfl) (by kernel_rfl) (hval 0 24 v0 rfl rfl) h0
 obtain ⟨cs0,rfl⟩:=AL.int_open Tryz.underlying3 e00
 obtain ⟨cy0,rfl⟩:=AL.int_open Tryz.underlying3 e01
 obtain ⟨L0,iL0⟩:=AL.ints_open Tryz.underlying22 Tryz.underlying3 (by kernel_rfl) e02
 obtain ⟨n1,rfl,rfl,rfl,w1⟩:=open_int Tryz.underlying3 (hval 1 3 v1 rfl rfl) h1
 simp only [List.append_nil,List.nil_append] at hW'
 clear hA0 hval0
 refine (AL.top_call (law_HmmSums (L:=L0) (cs:=cs0) (cy:=cy0) (lv:=n1) iL0.len) (AL.simvs_cons (AL.simv_agg3 (AL.simv_int _ _) (AL.simv_int _ _) iL0.sim) (AL.simvs_cons (AL.simv_int _ _) (AL.simvs_nil)))).mono fun e W' ⟨he,bel⟩=>?_
 subst he
 exact ⟨_,rfl,_,_,_,[],_,[],hW',trodAll_mk1 (shut_bool Tryz.underlying4 _),
  (trodAll_cons_mk (Below.trod laidOut (by kernel_rfl) (of_decide_eq_true (by kernel_rfl)) k0 bel lt0) (trodAll_cons_mk (shut_int Tryz.underlying3 w1) (trodAll_mk0))),rfl,bel.frame _,fun h=>by cases h⟩
theorem fInPlace:(Rows.hmmSumsRow.inPlace == Tryz.prog.inPlace 4)=true:=by kernel_rfl
theorem fUnfollowed:(Rows.hmmSumsRow.unfollowed == Tryz.prog.unfollowed 4)=true:=by kernel_rfl
theorem fRecurses:(Rows.hmmSumsRow.recurses == Tryz.prog.recurses 4)=true:=by kernel_rfl
theorem fNamed:(Rows.hmmSumsRow.named == Tryz.prog.varsNamed 4)=true:=by kernel_rfl
theorem closed:joinedFacts Tryz.prog 4 Tryz.f4 Rows.hmmSumsSpec Rows.hmmSumsRow=true:=by
 simp only [joinedFacts,Bool.and_eq_true]
 exact ⟨⟨⟨⟨⟨⟨⟨⟨⟨⟨⟨⟨⟨⟨⟨⟨⟨⟨⟨⟨⟨⟨⟨⟨⟨⟨⟨⟨⟨⟨⟨(by as_aux_lemma=>kernel_rfl),fact.laidOut⟩,fact.mapsRowed⟩,(by as_aux_lemma=>kernel_rfl)⟩,(by as_aux_lemma=>kernel_rfl)⟩,(by as_aux_lemma=>kernel_rfl)⟩,(by as_aux_lemma=>kernel_rfl)⟩,(by as_aux_lemma=>kernel_rfl)⟩,(by as_aux_lemma=>kernel_rfl)⟩,fInPlace⟩,fUnfollowed⟩,fRecurses⟩,fNamed⟩,(by as_aux_lemma=>kernel_rfl)⟩,(by as_aux_lemma=>kernel_rfl)⟩,(by as_aux_lemma=>kernel_rfl)⟩,(by as_aux_lemma=>kernel_rfl)⟩,(by as_aux_lemma=>kernel_rfl)⟩,(by as_aux_lemma=>kernel_rfl)⟩,(by as_aux_lemma=>kernel_rfl)⟩,(by as_aux_lemma=>kernel_rfl)⟩,(by as_aux_lemma=>kernel_rfl)⟩,fact.keys⟩,(by as_aux_lemma=>kernel_rfl)⟩,fact.heard⟩,fact.enter⟩,fact.lifts⟩,(by as_aux_lemma=>kernel_rfl)⟩,(by as_aux_lemma=>kernel_rfl)⟩,(by as_aux_lemma=>kernel_rfl)⟩,(by as_aux_lemma=>kernel_rfl)⟩,(by as_aux_lemma=>kernel_rfl)⟩
theorem over:Rows.hmmSumsRow.holds Tryz.pinned (OpenSpec.ofChange Rows.hmmSumsSpec) :=
 OpenClaim.holds_of_wide 4 Tryz.f4 rfl rfl rfl rfl rfl rfl rfl ⟨rfl,rfl,rfl,rfl,rfl⟩ rfl rfl rfl rfl rfl (by kernel_rfl) Tryz.func4 closed
  (of_decide_eq_true (by kernel_rfl)) (by unfold Func.isWrapper;first|(rw [if_pos (by decide +kernel)];kernel_rfl)|(rw [if_neg (by decide +kernel)];exact ⟨rfl,rfl⟩))
  (fun os started H enc _=>lifted os started H enc)
end Go.Proofs.YteiohkpjgcioaaaGreatDoor.hmmSumsTop

/-
  AL, part 45: a call that takes owned blocks and hands back further ones.
-/
import Derived.Test.YteiohkpjgcioaaaGreatDoorKHmmB
import Derived.Test.YteiohkpjgcioaaaGreatDoorKNumb
import Derived.Test.YteiohkpjgcioaaaGreatDoorKHxA
set_option linter.unusedVariables false
set_option linter.unusedSimpArgs false
namespace Go.Proofs.YteiohkpjgcioaaaGreatDoor
open Go Go.AL
abbrev tapeB (b:Nat)(L:List Int)(a:Nat):Blk:=.box b T.Tape [.d (ints L),.d (dI a)]
theorem world_Within {v m:Int}(hm:1≤m∧m≤4611686018427387904):FSpec P F.world_Within [.d (dI v),.d (dI m)] (.d (dI (within v m))):=by
 refine FSpec.intro fn.world_Within (by rfl) (by rfl) (nb9 (by rfl)) fun E hE=>(AW.sg hE rfl (asD rfl (OL.nil (AW.seq (AW.sg hE rfl (mvD rfl (c_lss rfl rfl rfl ?_)))))))
 refine OL.nil (AW.cond rfl (fun hno=>absurd hno (by simp;omega)) (fun _=>?_))
 refine AW.skip (AW.sg hE rfl (mvD rfl (mvD rfl (bo rfl rfl (rem_t (by omega)) ?_))))
 have ht:=tmod_lt (v:=v) hm.1
 refine asD rfl (OL.nil (AW.seq (AW.sg hE rfl (mvD rfl (c_lss rfl rfl rfl (OL.nil (AW.cond rfl (fun h=>?_) (fun h=>?_))))))))
 ·try simp only [dx9] at h
  refine AW.rg hE rfl (mvD rfl (mvD rfl (add_i64 rfl rfl (by omega) (asD rfl (OL.nil (AW.sg hE rfl (mvD rfl ?_)))))))
  exact asD rfl (OL.nil (AW.ret (RetQ.r ⟨_,.tmp rfl .nil,.le (VLe.int (within_neg hm.1 h))⟩)))
 ·try simp only [dx9] at h
  exact AW.skip (AW.sg hE rfl (mvD rfl (asD rfl (OL.nil (AW.ret (RetQ.r ⟨_,.tmp rfl .nil,.le (VLe.int (within_pos hm.1 h))⟩))))))
theorem tape_Next {L:List Int}{a b:Nat}{m:Int}(hm:1≤m∧m≤4611686018427387904)(nL:L.length≤9223372036854775807):FSpecM P F.world_Tape_Next [.ptr 1000 b 0,.d (dI m)] (mem1 1000 (tapeB b L a)) (.d (dI (tnext L a m))) (mem1 1000 (tapeB b L (tat L a))):=by
 refine FSpecM.intro fn.world_Tape_Next (by rfl) (by rfl) (nb9 (by rfl)) fun E hE=>(AW.sg hE rfl (asD rfl (OL.nil (AW.seq (AW.seq (AW.dg 1 [0,1,2,3,4,5,6,7,8,9] order_free hE rfl (by kernel_rfl) (OI.of_OL (os:=[_,_,_,_,_,_,_,_,_,_]) rfl ?_)))))))
 refine mvP rfl (ncP rfl (faP fd.Tape_1 rfl rfl (ldPC ce.int rfl rfl rfl (mvP rfl (ncP rfl (faP fd.Tape_0 rfl rfl (ldPC ce.ints rfl rfl rfl ?_)))))))
 refine lnL sl.ints rfl rfl (c_geq rfl rfl rfl (OL.nil (AW.cond rfl (fun h=>?_) (fun h=>?_))))
 ·have h:=dt9 h
  rw [show tnext L a m=0 from if_pos (by omega),show tat L a=a from if_pos (by omega)]
  exact AW.sg hE rfl (asD rfl (OL.nil (AW.ret ⟨⟨_,.tmp rfl .nil,.le vR⟩,mem1_keep rfl⟩)))
 ·have h:=df9 h
  rw [show tnext L a m=within (L.getD a 0) m from if_neg (by omega),show tat L a=a+1 from if_neg (by omega)]
  refine AW.skip (AW.sg hE rfl (mvP rfl (ncP rfl (faP fd.Tape_1 rfl rfl (ldPC ce.int rfl rfl rfl (add_i64 rfl rfl (by omega) (ncP rfl ?_)))))))
  refine faP fd.Tape_1 rfl rfl (sto sz.int rfl rfl rfl rfl rfl (nb9 rfl) rfl (OL.nil (AW.seq (AW.dg 1 [0,1,2,3,4,5,6,7,8,9,10,11,12,13] order_free hE rfl (by kernel_rfl) (OI.of_OL (os:=[_,_,_,_,_,_,_,_,_,_,_,_,_,_]) rfl ?_)))))
  refine mvP rfl (ncP rfl (faP fd.Tape_0 rfl rfl (ldPC ce.ints rfl rfl rfl (mvP rfl (ncP rfl (faP fd.Tape_1 rfl rfl (ldPC ce.int rfl rfl rfl ?_)))))))
  exact sub_i64 rfl rfl (by omega) (ixLe a sl.ints 0 rfl rfl (by omega) (by omega) rfl rfl (ldRC ce.int rfl (mvD rfl (clv rfl .rq2 (world_Within (by assumption)) (asD rfl (OL.nil (AW.ret ⟨⟨_,.tmp rfl .nil,.le vR⟩,mem1_keep rfl⟩)))))))
theorem world_Shares {L:List Int}{n a b:Nat}(hn:1≤n∧n≤1000000)(nL:L.length≤9223372036854775807):FSpecM P F.world_Shares [.ptr 1000 b 0,.d (dI n)] (mem1 1000 (tapeB b L a)) (.d (dQs (shares L n a))) (mem1 1000 (tapeB b L (shA L n a))):=by
 refine FSpecM.intro fn.world_Shares (by rfl) (by rfl) (nb9 (by rfl)) fun E hE=>(AW.sg hE rfl (asM rfl (OL.nil (AW.sg hE rfl (asM rfl (OL.nil (AW.sg hE rfl ?_)))))))
 refine asD rfl (OL.nil (AW.seq (AW.sg hE rfl (asD rfl (OL.nil (AW.own 5 25 T.int 1 rfl rfl (AW.block ?_)))))))
 refine AW.whileK (α:=Nat × Nat × Nat) [(0,_),(1,_),(4,_)] [] (fun (i,b25,c)=>[(5,.osl 25 b25 i c),(6,.d (dI (partsF L i a).1.sum)),(7,.d (dI i))]) (fun (i,b25,c)=>[(25,.row b25 c T.int 1 ((partsF L i a).1.map dI)),(1000,tapeB b L (partsF L i a).2)]) (fun (i,b25,c)=>i≤n) (fun (i,b25,c)=>n-i) (0,0,0) (.cons (knP rfl) (.cons (knD rfl) (.cons (knM rfl) .nil))) .nil ⟨Nat.zero_le _,.rq3,.cons rfl (.cons rfl .nil)⟩ ?_
 rintro ⟨i,b25,c⟩ h1
 have h1:i≤n:=h1
 have hpl:=partsF_len L i a
 have hps:=partsF_sum L i a
 refine AW.seq (AW.sg hE rfl (mvD rfl (mvD rfl (c_lss rfl rfl rfl (OL.nil (AW.cond rfl (fun h15=>?_) (fun h15=>?_)))))))
 ·try simp only [dx9] at h15
  refine AW.skip (AW.seq (AW.block (AW.sg hE rfl (mvP rfl (OL.callM (v:=.d (dI (tnext L (partsF L i a).2 4))) (.mk (args':=[.ptr 1000 b 0,.d (dI 4)]) rfl (.cons vR (.cons vR (.nil))) (mem1_keep (id:=1000) (blk:=tapeB b L (partsF L i a).2) rfl) mem1_sub (tape_Next (by decide) nL)) ?_)))))
  have hv:=tnext_range (L:=L) (a:=(partsF L i a).2) (m:=4) (by decide)
  refine asD rfl (OL.nil ?_)
  refine AW.midK (α:=Unit) [(0,_),(1,_),(4,_),(5,_),(6,_),(7,_)] [(25,_),(1000,_)] (fun _u=>[(8,.d (dI (if tnext L (partsF L i a).2 4=3 then 0 else tnext L (partsF L i a).2 4)))]) (fun _u=>[]) (fun _u=>True) (.cons (knP rfl) (.cons (knD rfl) (.cons (knM rfl) (.cons (knO rfl) (.cons (knD rfl) (.cons (knD rfl) .nil)))))) (.cons (owR rfl) (.cons (owB rfl) .nil)) ?_ ?_
  ·refine AW.sg hE rfl (mvD rfl (c_eql rfl rfl rfl (OL.nil (AW.cond rfl (fun h21=>?_) (fun h21=>?_)))))
   ·try simp only [dx9] at h21
    exact AW.rg hE rfl (asD rfl (OL.nil (AW.reach () ⟨trivial,Knows.app .rq6 (.cons (VLe.int (by rw [if_pos h21])) .nil),Owns.app (.cons rfl (.cons rfl .nil)) (.nil)⟩)))
   ·try simp only [dx9] at h21
    exact AW.skip (AW.reach () ⟨trivial,Knows.app .rq6 (.cons (VLe.int (by rw [if_neg h21])) .nil),Owns.app (.cons rfl (.cons rfl .nil)) (.nil)⟩)
  rintro ⟨⟩ hφ
  have hv2:0≤(if tnext L (partsF L i a).2 4=3 then 0 else tnext L (partsF L i a).2 4)∧(if tnext L (partsF L i a).2 4=3 then 0 else tnext L (partsF L i a).2 4)≤2:=by split <;> omega
  refine AW.sg hE rfl (mvO rfl (mvD rfl (lt1 sl.ints (VC.d _).vd rfl (by decide) (apO sl.ints rfl rfl rfl (by rw [lm9,hpl]) (VC.d _) (by simp [D.cells]) (by simp;omega) (by simp;omega) (.inr rfl) (ys:=(partsF L (i+1) a).1.map dI) (by simp [partsF]) (n2:=i+1) (by simp) fun b2 c2=>(asO rfl (OL.nil (AW.rg hE rfl ?_)))))))
  refine mvD rfl (mvD rfl (add_i64 rfl rfl (by omega) (asD rfl (OL.nil (AW.rg hE rfl (mvD rfl (add_i64 rfl rfl (by omega) ?_)))))))
  refine asD rfl (OL.nil ?_)
  exact AW.again (x:=(i,b25,c)) (i+1,b2,c2) (by (simp only [];omega)) ⟨by omega,Knows.app .rq3 (.cons vR (.cons (VLe.int (by simp only [partsF,List.sum_append,List.sum_cons,List.sum_nil];omega)) .rq1)),.cons rfl (.cons rfl .nil)⟩
 ·try simp only [dx9] at h15
  refine AW.exit ?_
  obtain rfl:i=n:=by omega
  refine AW.midK (α:=Unit) [(1,_),(4,_),(5,_)] [] (fun _u=>[(6,.d (dI (shS L i a)))]) (fun _u=>[(25,.row b25 c T.int 1 ((shP L i a).map dI)),(1000,tapeB b L (shA L i a))]) (fun _u=>True) (.cons (knD rfl) (.cons (knM rfl) (.cons (knO rfl) .nil))) .nil ?_ ?_
  ·refine AW.sg hE rfl (mvD rfl (c_eql rfl rfl rfl (OL.nil (AW.cond rfl (fun h30=>?_) (fun h30=>?_)))))
   ·try simp only [dx9] at h30
    refine AW.sg hE rfl (mvO rfl (mvP rfl (OL.callM (v:=.d (dI (tnext L (partsF L i a).2 100))) (.mk (args':=[.ptr 1000 b 0,.d (dI 100)]) rfl (.cons vR (.cons vR (.nil))) (mem1_keep (id:=1000) (blk:=tapeB b L (partsF L i a).2) rfl) mem1_sub (tape_Next (by decide) nL)) ?_)))
    have hwr:=within_range (v:=tnext L (partsF L i a).2 100) (m:=i) (by omega)
    refine mvD rfl (clv rfl .rq2 (world_Within (by omega)) (ixO sl.ints rfl rfl (by omega) (by omega) rfl (stE sz.int rfl (VC.d _).vd rfl rfl (by rw [lm9];omega) rfl (OL.nil (AW.rg hE rfl (asD rfl (OL.nil ?_)))))))
    have e1:shP L i a=(partsF L i a).1.set (within (tnext L (partsF L i a).2 100) i).toNat 1:=if_pos h30
    have e2:shS L i a=1:=if_pos h30
    have e3:shA L i a=tat L (partsF L i a).2:=if_pos h30
    exact AW.reach () ⟨trivial,Knows.app .rq3 (.cons (VLe.int (by rw [e2])) .nil),.cons (by rw [e1,List.map_set];rfl) (.cons (by rw [e3];rfl) .nil)⟩
   ·try simp only [dx9] at h30
    refine AW.skip ?_
    have e1:shP L i a=(partsF L i a).1:=if_neg h30
    have e2:shS L i a=(partsF L i a).1.sum:=if_neg h30
    have e3:shA L i a=(partsF L i a).2:=if_neg h30
    exact AW.reach () ⟨trivial,Knows.app .rq3 (.cons (VLe.int (by rw [e2])) .nil),.cons (by rw [e1];rfl) (.cons (by rw [e3];rfl) .nil)⟩
  rintro ⟨⟩ hφ
  have hsum:=shP_sum L i a hn.1
  have hsl:=shP_len L i a
  refine AW.sg hE rfl (asM rfl (OL.nil (AW.seq (AW.sg hE rfl (asD rfl (OL.nil (AW.own 9 54 T.Rat 3 rfl rfl ?_)))))))
  refine AW.block ?_
  refine AW.whileK (α:=Nat × Nat × Nat) [(1,_),(4,_),(5,_),(6,_)] [(25,_),(1000,_)] (fun (j,b54,c)=>[(9,.osl 54 b54 j c),(10,.d (dI j))]) (fun (j,b54,c)=>[(54,.row b54 c T.Rat 3 (((shares L i a).take j).map dQ))]) (fun (j,b54,c)=>j≤i) (fun (j,b54,c)=>i-j) (0,0,0) (.cons (knD rfl) (.cons (knM rfl) (.cons (knO rfl) (.cons (knD rfl) .nil)))) (.cons (owR rfl) (.cons (owB rfl) .nil)) ⟨Nat.zero_le _,.rq2,.cons rfl .nil⟩ ?_
  rintro ⟨j,b54,c54⟩ h2
  have h2:j≤i:=h2
  have htl:=take_len (l:=shares L i a) (i:=j) (by rw [shares_len];exact h2)
  refine AW.seq (AW.sg hE rfl (mvD rfl (mvD rfl (c_lss rfl rfl rfl (OL.nil (AW.cond rfl (fun h39=>?_) (fun h39=>?_)))))))
  ·try simp only [dx9] at h39
   refine AW.skip (AW.seq (AW.block (AW.seq ?_)))
   have hg:=shP_get (L:=L) (a:=a) hn.1 (show j<i by omega)
   refine AW.rg hE rfl (mvO rfl (mvD rfl (ixOn sl.ints rfl rfl (by omega) (ldEL ce.int 0 (by decide) rfl rfl (by omega) rfl (mvD rfl (clv rfl .rq2 (ref_Make (by omega) (by omega) (by omega)) ?_))))))
   rw [← shares_get (show j<i by omega)]
   refine mvT rfl (ex rfl rfl (ex rfl rfl (al z.Rat rfl fun b11=>(sto sz.Rat rfl rfl rfl rfl rfl (nb9 rfl) (cells2:=[_,_,_]) rfl (asD rfl (OL.nil (AW.rg hE rfl ?_)))))))
   refine mvO rfl (ldPA ag.Rat rfl rfl (vs:=[_,_,_]) rfl (nb9 rfl) (lt1 (y:=dQ _) sl.Rats vd_q rfl (by decide) ?_))
   refine apO sl.Rats rfl rfl rfl (by rw [lm9,htl]) (VC.d _) (by simp [D.cells]) (by simp;omega) (by simp;omega) (.inr rfl) (ys:=((shares L i a).take (j+1)).map dQ) (by rw [take_succ_getD (by rw [shares_len];omega) 0,List.map_append];rfl) (n2:=j+1) (by simp) fun b2 c2=>?_
   refine asO rfl (OL.nil (AW.rg hE rfl (mvD rfl (add_i64 rfl rfl (by omega) (asD rfl (OL.nil ?_))))))
   exact AW.again (x:=(j,b54,c)) (j+1,b2,c2) (by (simp only [];omega)) ⟨by omega,Knows.app .rq4 .rq2,Owns.app (.cons rfl (.cons rfl .nil)) (.cons rfl .nil)⟩
  ·try simp only [dx9] at h39
   refine AW.exit (AW.seq ?_)
   obtain rfl:j=i:=by omega
   refine AW.freeze 54 rfl (AW.to [(9,.d (dQs (shares L j a)))] [(1000,tapeB b L (shA L j a))] (.cons (frz_osl (by rw [lm9,htl]) (by rw [take_all' (by rw [shares_len];omega)])) .nil) (.cons rfl .nil) ?_)
   exact AW.rg hE rfl (mvD rfl (asD rfl (OL.nil (AW.ret ⟨⟨_,.tmp rfl .nil,.le vR⟩,mem1_keep rfl⟩))))
theorem world_sameRats {l m:List Rat}{B:Nat}(zl:Small B l)(zm:Small B m)(hB:1≤B∧B≤1048576∧l.length≤1099511627776):FSpec P F.world_sameRats [.d (dQs l),.d (dQs m)] (.d (dB (decide (l=m)))):=by
 refine FSpec.intro fn.world_sameRats (by rfl) (by rfl) (nb9 (by rfl)) fun E hE=>(AW.sg hE rfl (asD rfl (OL.nil (AW.seq (AW.sg hE rfl (mvD rfl (lnL sl.Rats rfl rfl ?_)))))))
 refine mvD rfl (lnL sl.Rats rfl rfl (c_neq rfl rfl rfl (OL.nil (AW.cond rfl (fun h10=>?_) (fun h10=>?_)))))
 ·have hl:l.length≠m.length:=by simp at h10;omega
  exact AW.sg hE rfl (asD rfl (OL.nil (AW.ret (RetQ.r ⟨_,.tmp rfl .nil,.le (VLe.bool ((decide_eq_false fun e=>hl (by rw [e])).symm))⟩))))
 ·have hl:l.length=m.length:=by simp at h10;omega
  refine AW.skip (AW.seq (AW.sg hE rfl (asD rfl (OL.nil (AW.block ?_)))))
  refine AW.whileK (α:=Nat) [(0,_),(1,_)] [] (fun i=>[(5,.d (dI i))]) (fun i=>[]) (fun i=>i≤l.length∧∀ j,j<i→l.getD j 0=m.getD j 0) (fun i=>l.length-i) 0 (.cons (knD rfl) (.cons (knD rfl) .nil)) .nil ⟨⟨Nat.zero_le _,fun j hj=>by omega⟩,.rq1,.nil⟩ ?_
  rintro i ⟨h1,h2⟩
  refine AW.seq (AW.sg hE rfl (mvD rfl (mvD rfl (lnL sl.Rats rfl rfl (c_lss rfl rfl rfl (OL.nil (AW.cond rfl (fun h14=>?_) (fun h14=>?_))))))))
  ·try simp only [dx9] at h14
   refine AW.skip (AW.seq (AW.block (AW.seq ?_)))
   have z1:=zl.get hB.1 i
   have z2:=zm.get hB.1 i
   refine AW.dg 1 [0,1,2,3,4,5,6,7,8,9] order_free hE rfl (by kernel_rfl) (OI.of_OL (os:=[_,_,_,_,_,_,_,_,_,_]) rfl ?_)
   refine mvD rfl (mvD rfl (ixLn sl.Rats 0 rfl rfl (by omega) rfl rfl (ldRA ag.Rat rfl (vs:=[_,_,_]) rfl (nb9 rfl) (mvD rfl (mvD rfl (ixLn sl.Rats 0 rfl rfl (by omega) rfl rfl (ldRA ag.Rat rfl (vs:=[_,_,_]) rfl (nb9 rfl) ?_)))))))
   refine clv rfl .rq2 (ref_CompareQ (by omega) (by omega)) (c_neq rfl rfl rfl (OL.nil (AW.cond rfl (fun hc=>?_) (fun hc=>?_))))
   ·have hc:l.getD i 0≠m.getD i 0:=fun e=>by rw [cmpQ_eq.2 e] at hc;simp at hc
    exact AW.sg hE rfl (asD rfl (OL.nil (AW.ret (RetQ.r ⟨_,.tmp rfl .nil,.le (VLe.bool ((decide_eq_false fun e=>hc (by rw [e])).symm))⟩))))
   ·have hc:l.getD i 0=m.getD i 0:=cmpQ_eq.1 (by simpa using hc)
    exact AW.skip (AW.rg hE rfl (mvD rfl (add_i64 rfl rfl (by omega) (asD rfl (OL.nil (AW.again (x:=i) (i+1) (by omega) ⟨⟨by omega,fun j hj=>by rcases Nat.lt_or_ge j i with h|h;exact h2 j h;obtain rfl:j=i:=(by omega);exact hc⟩,Knows.app .rq2 .rq1,.nil⟩))))))
  ·try simp only [dx9] at h14
   exact AW.exit (AW.sg hE rfl (asD rfl (OL.nil (AW.ret (RetQ.r ⟨_,.tmp rfl .nil,.le (VLe.bool ((decide_eq_true (list_eq_getD hl 0 fun j hj=>h2 j (by omega))).symm))⟩)))))
end Go.Proofs.YteiohkpjgcioaaaGreatDoor
namespace Go.AL
open Go Go.BigFrame
theorem FSpec.read {P:Program}{f id b c e sz:Nat}{es:List D}{args args2:List V}{x:Value}(h:FSpec P f args (.d (.sc x)))(ha:VLes (args2.map (V.frz id b c es)) args) :
  FSpecM P f args2 (mem1 id (.row b c e sz es)) (.d (.sc x)) (mem1 id (.row b c e sz es)) :=
 ⟨h.1,fun F w vals hS hv=>by
  obtain ⟨F',h1,h2,h3,h4⟩:=freeze_row hS (mem1_self id (.row b c e sz es))
  have hv':SimVs F' vals args:=simVs_le ⟨by rw [hv.1,lm9],fun i y u hy hu=>by
   rw [List.getElem?_map] at hy
   cases hq:args2[i]? with
   | none=>rw [hq] at hy;cases hy
   | some z=>rw [hq] at hy;cases hy;exact V.frz_sim h1 h4 (hv.2 i z u hq hu)⟩ ha
  refine (h.2 F' w vals h2.imm hv').mono fun e2 w' ⟨v,F'',he,hx,hr⟩=>⟨v,F,he,⟨hx.grow.mono fun i k=>k.elim,Hp.le.refl _,⟨fun k o hk=>hx.imm k o (hx.le k o (h1 k o hk)),fun j blk hm=>?_,hS.apart,hS.inj⟩,fun k p q=>absurd p q,fun k k2=>.inr k2⟩,?_⟩
  ·refine (hS.own j blk hm).keep (Hp.le.refl _) fun k ho=>hx.grow.block k ((hS.own j blk hm).lt ho) fun q=>q
  ·cases hr with
   | d hd ho=>cases hd with
    | sc hs=>exact .d (.sc hs) ho⟩
section
variable {P:Program}{E:Env}
theorem SG.ofOL {ops:Array Oper}{o:Oper}{K:S→Prop}{s:S}(h:OL P 0 ops K [o] s):SG P E ops o K s:=.inl h
theorem SG.ofSO {ops:Array Oper}{dst:Option Nat}{op:Op}{ty:TypeId}{pos:String}{after:Array Edge}{K:S→Prop}{s:S}(h:SO P E ⟨dst,op,ty,pos,after,none⟩ K s):SG P E ops ⟨dst,op,ty,pos,after,none⟩ K s:=.inr ⟨rfl,h⟩
def OTK (P:Program)(E:Env)(ops:Array Oper)(K:S→Prop):Nat→Array Bool→S→Prop
 | 0,listed,s=>Region.ready .any ops listed=[]∧K s
 | n+1,listed,s=>Region.ready .any ops listed≠[]∧∀ i,i ∈ Region.ready .any ops listed→∃ o,ops[i]? = some o∧SG P E ops o (OTK P E ops K n (listed.setIfInBounds i true)) s
def OTKs (P:Program)(E:Env)(ops:Array Oper)(K:S→Prop)(n:Nat)(listed:Array Bool)(s:S):List Nat→List Oper→Prop
 | [],[]=>True
 | i::l,o::os=>SG P E ops o (OTK P E ops K n (listed.setIfInBounds i true)) s∧OTKs P E ops K n listed s l os
 | _,_=>False
theorem OTKs.get {ops:Array Oper}{K:S→Prop}{n:Nat}{listed:Array Bool}{s:S}:∀ (l:List Nat) (os:List Oper),l.map (fun i=>ops[i]?)=os.map some→OTKs P E ops K n listed s l os→∀ i,i ∈ l→∃ o,ops[i]? = some o∧SG P E ops o (OTK P E ops K n (listed.setIfInBounds i true)) s
 | [],_,_,_,i,hi=>by simp at hi
 | j::l,[],h,_,_,_=>by simp at h
 | j::l,o::os,h,ht,i,hi=>by
  simp only [List.map_cons,List.cons.injEq] at h
  rcases List.mem_cons.1 hi with rfl|hi
  ·exact ⟨o,h.1,ht.1⟩
  ·exact OTKs.get l os h.2 ht.2 i hi
theorem OTK.node {ops:Array Oper}{K:S→Prop}{n:Nat}{listed:Array Bool}{s:S}(l:List Nat){os:List Oper}(h:Region.ready .any ops listed=l)(hne:l≠[])(ho:l.map (fun i=>ops[i]?)=os.map some)(ht:OTKs P E ops K n listed s l os):OTK P E ops K (n+1) listed s :=
 ⟨by rw [h];exact hne,fun i hi=>OTKs.get l os ho ht i (by rw [← h];exact hi)⟩
theorem OTK.leaf {ops:Array Oper}{K:S→Prop}{listed:Array Bool}{s:S}(h:Region.ready .any ops listed=[])(hk:K s):OTK P E ops K 0 listed s:=⟨h,hk⟩
end
def Mem.over2 (M Mc N:Mem):Mem:=fun id=>if (N id).isSome then N id else if (Mc id).isSome then Option.none else M id
section
variable {P:Program}{E:Env}{K:S→Prop}{s:S}{ty:Nat}{pos:String}{after:Array Edge}
theorem After.over2 {F F' : Hp} {w w' : World} {M Mc N : Mem} (h : Sim F M w) (hc : ∀ id blk, Mc id = some blk → M id = some blk) (ha : After F Mc w F' N w') : After F M w F' (M.over2 Mc N) w' := by
  have sub:∀ k,Owned Mc k→Owned M k:=fun k ⟨id,blk,hm,ho⟩=>⟨id,blk,hc id blk hm,ho⟩
  have part:∀ id blk,(M.over2 Mc N) id=some blk→N id=some blk ∨ (Mc id=Option.none∧M id=some blk):=fun id blk hm=>by
    unfold Mem.over2 at hm
    cases hq:N id with
    | some b=>simp [hq] at hm;exact .inl (by rw [← hm])
    | none =>
      simp only [hq,Option.isSome_none,Bool.false_eq_true,if_false] at hm
      cases hp:Mc id with
      | some b=>simp [hp] at hm
      | none=>simp [hp] at hm;exact .inr ⟨rfl,hm⟩
  have far:∀ id blk k,Mc id=Option.none→M id=some blk→blk.owns k→k<w.heap.size∧¬ Owned Mc k:=fun id blk k hn hm ho =>
    ⟨(h.own id blk hm).lt ho, fun ⟨id', blk', hm', ho'⟩ => by
      have:=h.inj id id' _ _ k hm (hc id' blk' hm') ho ho'
      subst this
      rw [hn] at hm';cases hm'⟩
  refine ⟨ha.grow.mono sub,ha.le,⟨ha.sim.imm,fun id blk hm=>?_,fun id blk k hm ho=>?_,fun i j bi bj k hi hj hoi hoj=>?_⟩,fun k p q=>(ha.new k p q).imp (fun z=>z) (sub k),fun k ⟨id,blk,hm,ho⟩=>?_⟩
  · rcases part id blk hm with hm | ⟨hn, hm⟩
    · exact ha.sim.own id blk hm
    · exact (h.own id blk hm).keep ha.le fun k ho=>let ⟨h1,h2⟩:=far id blk k hn hm ho;ha.grow.block k h1 h2
  · rcases part id blk hm with hm | ⟨hn, hm⟩
    · exact ha.sim.apart id blk k hm ho
    · obtain ⟨h1, h2⟩ := far id blk k hn hm ho
      cases hf:F' k with
      | none=>rfl
      | some o =>
        rcases ha.new k (h.apart id blk k hm ho) (by rw [hf];simp) with h3|h3
        · omega
        · exact absurd h3 h2
  · rcases part i bi hi with hi | ⟨ni, hi⟩ <;> rcases part j bj hj with hj | ⟨nj, hj⟩
    · exact ha.sim.inj i j bi bj k hi hj hoi hoj
    · obtain ⟨h1, h2⟩ := far j bj k nj hj hoj
      rcases ha.mnew k ⟨i,bi,hi,hoi⟩ with h3|h3
      · omega
      · exact absurd h3 h2
    · obtain ⟨h1, h2⟩ := far i bi k ni hi hoi
      rcases ha.mnew k ⟨j,bj,hj,hoj⟩ with h3|h3
      · omega
      · exact absurd h3 h2
    · exact h.inj i j bi bj k hi hj hoi hoj
  · rcases part id blk hm with hm | ⟨hn, hm⟩
    · exact (ha.mnew k ⟨id,blk,hm,ho⟩).imp (fun z=>z) (sub k)
    · exact .inr ⟨id,blk,hm,ho⟩
theorem SO.callE2 {α:Type}{f:Operand}{args:Array Operand}{ats:Array TypeId}{fid:Nat}{caps args':List V}{Mc:Mem}{Mk:α→Mem}{res:α→V}{φ:α→Prop}{dst:Option Nat}{g:Option (Nat × Bool)}(hd:Below' E.n dst)
  (hf:s.ev f=.fn fid caps) (ha:VLes (args.toList.map s.ev++caps) args') (hc:∀ id blk,Mc id=some blk→s.M id=some blk) (hs:FSpecE P fid args' Mc res Mk φ)
  (h:∀ x,φ x→K ((⟨s.ρ,s.M.over2 Mc (Mk x)⟩:S).put dst (res x))):SO P E ⟨dst,.call { callee:=.value f,args:=args,argTypes:=ats },ty,pos,after,g⟩ K s:=fun F a w hr=>by
 have hf':=hr.eval f;rw [hf] at hf'
 generalize haf:a.eval f=af at hf'
 cases hf' with
 | @fn _ us _ hl hrr =>
  have hvs:SimVs F (args.toList.map a.eval++us) args':=simVs_le (simVs_app (simVs_map hr.eval _) ⟨hl,hrr⟩) ha
  have hcc:=hs.2 F w _ (sim_sub hr.sim hc) hvs
  unfold execOp
  have e1:(args.map a.eval++us.toArray)=(args.toList.map a.eval++us).toArray:=by simp
  simp only [resolve,haf,Deferred.ofValue,Sem.run_bind,Sem.run_pure,Result.andThen_ok,invoke,Array.empty_append,e1,run_call_fn hs.1]
  refine hcc.mono fun e2 w' ⟨x,hφ,v,F',he,hA,hv⟩=>⟨v,he,F',_,hr.after_put (After.over2 hr.sim hc hA) hd hv,h x hφ⟩
end
end Go.AL

/-
  Walks of the models out of plain numbers, part 1 (printed by mk2.py).
-/
import Derived.Test.YtocehciipjhlkaaGreatDoorKHmmB
import Derived.Test.YtocehciipjhlkaaGreatDoorKNumb
set_option linter.unusedVariables false
set_option linter.unusedSimpArgs false
namespace Go.Proofs.YtocehciipjhlkaaGreatDoor
open Go Go.AL
abbrev tapeB (b:Nat)(L:List Int)(a:Nat):Blk:=.box b T.Tape [.d (ints L),.d (dI a)]
theorem world_Within {v m:Int}(hm:1≤m∧m≤4611686018427387904):FSpec P F.world_Within [.d (dI v),.d (dI m)] (.d (dI (within v m))):=by
 refine FSpec.intro fn.world_Within (by rfl) (by rfl) (nb9 (by rfl)) fun E hE=>(AW.sg hE rfl (asD rfl (OL.nil (AW.seq (AW.sg hE rfl (mvD rfl (c_lss rfl rfl rfl ?_)))))))
 refine OL.nil (AW.cond rfl (fun hno=>absurd hno (by simp;omega)) (fun _=>?_))
 refine AW.skip (AW.sg hE rfl (mvD rfl (mvD rfl (bo rfl rfl (rem_t (by omega)) ?_))))
 have ht:=tmod_lt (v:=v) hm.1
 refine asD rfl (OL.nil (AW.seq (AW.sg hE rfl (mvD rfl (c_lss rfl rfl rfl (OL.nil (AW.cond rfl (fun h=>?_) (fun h=>?_))))))))
 ·try simp only [dx9] at h
  refine AW.rg hE rfl (mvD rfl (mvD rfl (add_i64 rfl rfl (by omega) (asD rfl (OL.nil (AW.sg hE rfl (mvD rfl ?_)))))))
  exact asD rfl (OL.nil (AW.ret (RetQ.r ⟨_,.tmp rfl .nil,.le (VLe.int (within_neg hm.1 h))⟩)))
 ·try simp only [dx9] at h
  exact AW.skip (AW.sg hE rfl (mvD rfl (asD rfl (OL.nil (AW.ret (RetQ.r ⟨_,.tmp rfl .nil,.le (VLe.int (within_pos hm.1 h))⟩))))))
theorem tape_Next {L:List Int}{a b:Nat}{m:Int}(hm:1≤m∧m≤4611686018427387904)(nL:L.length≤9223372036854775807):FSpecM P F.world_Tape_Next [.ptr 1000 b 0,.d (dI m)] (mem1 1000 (tapeB b L a)) (.d (dI (tnext L a m))) (mem1 1000 (tapeB b L (tat L a))):=by
 refine FSpecM.intro fn.world_Tape_Next (by rfl) (by rfl) (nb9 (by rfl)) fun E hE=>(AW.sg hE rfl (asD rfl (OL.nil (AW.seq (AW.seq (AW.dg 1 [0,1,2,3,4,5,6,7,8,9] order_free hE rfl (by kernel_rfl) (OI.of_OL (os:=[_,_,_,_,_,_,_,_,_,_]) rfl ?_)))))))
 refine mvP rfl (ncP rfl (faP fd.Tape_1 rfl rfl (ldPC ce.int rfl rfl rfl (mvP rfl (ncP rfl (faP fd.Tape_0 rfl rfl (ldPC ce.ints rfl rfl rfl ?_)))))))
 refine lnL sl.ints rfl rfl (c_geq rfl rfl rfl (OL.nil (AW.cond rfl (fun h=>?_) (fun h=>?_))))
 ·have h:=dt9 h
  rw [show tnext L a m=0 from if_pos (by omega),show tat L a=a from if_pos (by omega)]
  exact AW.sg hE rfl (asD rfl (OL.nil (AW.ret ⟨⟨_,.tmp rfl .nil,.le vR⟩,mem1_keep rfl⟩)))
 ·have h:=df9 h
  rw [show tnext L a m=within (L.getD a 0) m from if_neg (by omega),show tat L a=a+1 from if_neg (by omega)]
  refine AW.skip (AW.sg hE rfl (mvP rfl (ncP rfl (faP fd.Tape_1 rfl rfl (ldPC ce.int rfl rfl rfl (add_i64 rfl rfl (by omega) (ncP rfl ?_)))))))
  refine faP fd.Tape_1 rfl rfl (sto sz.int rfl rfl rfl rfl rfl (nb9 rfl) rfl (OL.nil (AW.seq (AW.dg 1 [0,1,2,3,4,5,6,7,8,9,10,11,12,13] order_free hE rfl (by kernel_rfl) (OI.of_OL (os:=[_,_,_,_,_,_,_,_,_,_,_,_,_,_]) rfl ?_)))))
  refine mvP rfl (ncP rfl (faP fd.Tape_0 rfl rfl (ldPC ce.ints rfl rfl rfl (mvP rfl (ncP rfl (faP fd.Tape_1 rfl rfl (ldPC ce.int rfl rfl rfl ?_)))))))
  exact sub_i64 rfl rfl (by omega) (ixLe a sl.ints 0 rfl rfl (by omega) (by omega) rfl rfl (ldRC ce.int rfl (mvD rfl (clv rfl .rq2 (world_Within (by assumption)) (asD rfl (OL.nil (AW.ret ⟨⟨_,.tmp rfl .nil,.le vR⟩,mem1_keep rfl⟩)))))))
theorem world_Shares {L:List Int}{n a b:Nat}(hn:1≤n∧n≤1000000)(nL:L.length≤9223372036854775807):FSpecM P F.world_Shares [.ptr 1000 b 0,.d (dI n)] (mem1 1000 (tapeB b L a)) (.d (dQs (shares L n a))) (mem1 1000 (tapeB b L (shA L n a))):=by
 refine FSpecM.intro fn.world_Shares (by rfl) (by rfl) (nb9 (by rfl)) fun E hE=>(AW.sg hE rfl (asM rfl (OL.nil (AW.sg hE rfl (asM rfl (OL.nil (AW.sg hE rfl ?_)))))))
 refine asD rfl (OL.nil (AW.seq (AW.sg hE rfl (asD rfl (OL.nil (AW.own 5 25 T.int 1 rfl rfl (AW.block ?_)))))))
 refine AW.whileK (α:=Nat × Nat × Nat) [(0,_),(1,_),(4,_)] [] (fun (i,b25,c)=>[(5,.osl 25 b25 i c),(6,.d (dI (partsF L i a).1.sum)),(7,.d (dI i))]) (fun (i,b25,c)=>[(25,.row b25 c T.int 1 ((partsF L i a).1.map dI)),(1000,tapeB b L (partsF L i a).2)]) (fun (i,b25,c)=>i≤n) (fun (i,b25,c)=>n-i) (0,0,0) (.cons (knP rfl) (.cons (knD rfl) (.cons (knM rfl) .nil))) .nil ⟨Nat.zero_le _,.rq3,.cons rfl (.cons rfl .nil)⟩ ?_
 rintro ⟨i,b25,c⟩ h1
 have h1:i≤n:=h1
 have hpl:=partsF_len L i a
 have hps:=partsF_sum L i a
 refine AW.seq (AW.sg hE rfl (mvD rfl (mvD rfl (c_lss rfl rfl rfl (OL.nil (AW.cond rfl (fun h15=>?_) (fun h15=>?_)))))))
 ·try simp only [dx9] at h15
  refine AW.skip (AW.seq (AW.block (AW.sg hE rfl (mvP rfl (OL.callM (v:=.d (dI (tnext L (partsF L i a).2 4))) (.mk (args':=[.ptr 1000 b 0,.d (dI 4)]) rfl (.cons vR (.cons vR (.nil))) (mem1_keep (id:=1000) (blk:=tapeB b L (partsF L i a).2) rfl) mem1_sub (tape_Next (by decide) nL)) ?_)))))
  have hv:=tnext_range (L:=L) (a:=(partsF L i a).2) (m:=4) (by decide)
  refine asD rfl (OL.nil ?_)
  refine AW.midK (α:=Unit) [(0,_),(1,_),(4,_),(5,_),(6,_),(7,_)] [(25,_),(1000,_)] (fun _u=>[(8,.d (dI (if tnext L (partsF L i a).2 4=3 then 0 else tnext L (partsF L i a).2 4)))]) (fun _u=>[]) (fun _u=>True) (.cons (knP rfl) (.cons (knD rfl) (.cons (knM rfl) (.cons (knO rfl) (.cons (knD rfl) (.cons (knD rfl) .nil)))))) (.cons (owR rfl) (.cons (owB rfl) .nil)) ?_ ?_
  ·refine AW.sg hE rfl (mvD rfl (c_eql rfl rfl rfl (OL.nil (AW.cond rfl (fun h21=>?_) (fun h21=>?_)))))
   ·try simp only [dx9] at h21
    exact AW.rg hE rfl (asD rfl (OL.nil (AW.reach () ⟨trivial,Knows.app .rq6 (.cons (VLe.int (by rw [if_pos h21])) .nil),Owns.app (.cons rfl (.cons rfl .nil)) (.nil)⟩)))
   ·try simp only [dx9] at h21
    exact AW.skip (AW.reach () ⟨trivial,Knows.app .rq6 (.cons (VLe.int (by rw [if_neg h21])) .nil),Owns.app (.cons rfl (.cons rfl .nil)) (.nil)⟩)
  rintro ⟨⟩ hφ
  have hv2:0≤(if tnext L (partsF L i a).2 4=3 then 0 else tnext L (partsF L i a).2 4)∧(if tnext L (partsF L i a).2 4=3 then 0 else tnext L (partsF L i a).2 4)≤2:=by split <;> omega
  refine AW.sg hE rfl (mvO rfl (mvD rfl (lt1 sl.ints (VC.d _).vd rfl (by decide) (apO sl.ints rfl rfl rfl (by rw [lm9,hpl]) (VC.d _) (by simp [D.cells]) (by simp;omega) (by simp;omega) (.inr rfl) (ys:=(partsF L (i+1) a).1.map dI) (by simp [partsF]) (n2:=i+1) (by simp) fun b2 c2=>(asO rfl (OL.nil (AW.rg hE rfl ?_)))))))
  refine mvD rfl (mvD rfl (add_i64 rfl rfl (by omega) (asD rfl (OL.nil (AW.rg hE rfl (mvD rfl (add_i64 rfl rfl (by omega) ?_)))))))
  refine asD rfl (OL.nil ?_)
  exact AW.again (x:=(i,b25,c)) (i+1,b2,c2) (by (simp only [];omega)) ⟨by omega,Knows.app .rq3 (.cons vR (.cons (VLe.int (by simp only [partsF,List.sum_append,List.sum_cons,List.sum_nil];omega)) .rq1)),.cons rfl (.cons rfl .nil)⟩
 ·try simp only [dx9] at h15
  refine AW.exit ?_
  obtain rfl:i=n:=by omega
  refine AW.midK (α:=Unit) [(1,_),(4,_),(5,_)] [] (fun _u=>[(6,.d (dI (shS L i a)))]) (fun _u=>[(25,.row b25 c T.int 1 ((shP L i a).map dI)),(1000,tapeB b L (shA L i a))]) (fun _u=>True) (.cons (knD rfl) (.cons (knM rfl) (.cons (knO rfl) .nil))) .nil ?_ ?_
  ·refine AW.sg hE rfl (mvD rfl (c_eql rfl rfl rfl (OL.nil (AW.cond rfl (fun h30=>?_) (fun h30=>?_)))))
   ·try simp only [dx9] at h30
    refine AW.sg hE rfl (mvO rfl (mvP rfl (OL.callM (v:=.d (dI (tnext L (partsF L i a).2 100))) (.mk (args':=[.ptr 1000 b 0,.d (dI 100)]) rfl (.cons vR (.cons vR (.nil))) (mem1_keep (id:=1000) (blk:=tapeB b L (partsF L i a).2) rfl) mem1_sub (tape_Next (by decide) nL)) ?_)))
    have hwr:=within_range (v:=tnext L (partsF L i a).2 100) (m:=i) (by omega)
    refine mvD rfl (clv rfl .rq2 (world_Within (by omega)) (ixO sl.ints rfl rfl (by omega) (by omega) rfl (stE sz.int rfl (VC.d _).vd rfl rfl (by rw [lm9];omega) rfl (OL.nil (AW.rg hE rfl (asD rfl (OL.nil ?_)))))))
    have e1:shP L i a=(partsF L i a).1.set (within (tnext L (partsF L i a).2 100) i).toNat 1:=if_pos h30
    have e2:shS L i a=1:=if_pos h30
    have e3:shA L i a=tat L (partsF L i a).2:=if_pos h30
    exact AW.reach () ⟨trivial,Knows.app .rq3 (.cons (VLe.int (by rw [e2])) .nil),.cons (by rw [e1,List.map_set];rfl) (.cons (by rw [e3];rfl) .nil)⟩
   ·try simp only [dx9] at h30
    refine AW.skip ?_
    have e1:shP L i a=(partsF L i a).1:=if_neg h30
    have e2:shS L i a=(partsF L i a).1.sum:=if_neg h30
    have e3:shA L i a=(partsF L i a).2:=if_neg h30
    exact AW.reach () ⟨trivial,Knows.app .rq3 (.cons (VLe.int (by rw [e2])) .nil),.cons (by rw [e1];rfl) (.cons (by rw [e3];rfl) .nil)⟩
  rintro ⟨⟩ hφ
  have hsum:=shP_sum L i a hn.1
  have hsl:=shP_len L i a
  refine AW.sg hE rfl (asM rfl (OL.nil (AW.seq (AW.sg hE rfl (asD rfl (OL.nil (AW.own 9 54 T.Rat 3 rfl rfl ?_)))))))
  refine AW.block ?_
  refine AW.whileK (α:=Nat × Nat × Nat) [(1,_),(4,_),(5,_),(6,_)] [(25,_),(1000,_)] (fun (j,b54,c)=>[(9,.osl 54 b54 j c),(10,.d (dI j))]) (fun (j,b54,c)=>[(54,.row b54 c T.Rat 3 (((shares L i a).take j).map dQ))]) (fun (j,b54,c)=>j≤i) (fun (j,b54,c)=>i-j) (0,0,0) (.cons (knD rfl) (.cons (knM rfl) (.cons (knO rfl) (.cons (knD rfl) .nil)))) (.cons (owR rfl) (.cons (owB rfl) .nil)) ⟨Nat.zero_le _,.rq2,.cons rfl .nil⟩ ?_
  rintro ⟨j,b54,c54⟩ h2
  have h2:j≤i:=h2
  have htl:=take_len (l:=shares L i a) (i:=j) (by rw [shares_len];exact h2)
  refine AW.seq (AW.sg hE rfl (mvD rfl (mvD rfl (c_lss rfl rfl rfl (OL.nil (AW.cond rfl (fun h39=>?_) (fun h39=>?_)))))))
  ·try simp only [dx9] at h39
   refine AW.skip (AW.seq (AW.block (AW.seq ?_)))
   have hg:=shP_get (L:=L) (a:=a) hn.1 (show j<i by omega)
   refine AW.rg hE rfl (mvO rfl (mvD rfl (ixOn sl.ints rfl rfl (by omega) (ldEL ce.int 0 (by decide) rfl rfl (by omega) rfl (mvD rfl (clv rfl .rq2 (ref_Make (by omega) (by omega) (by omega)) ?_))))))
   rw [← shares_get (show j<i by omega)]
   refine mvT rfl (ex rfl rfl (ex rfl rfl (al z.Rat rfl fun b11=>(sto sz.Rat rfl rfl rfl rfl rfl (nb9 rfl) (cells2:=[_,_,_]) rfl (asD rfl (OL.nil (AW.rg hE rfl ?_)))))))
   refine mvO rfl (ldPA ag.Rat rfl rfl (vs:=[_,_,_]) rfl (nb9 rfl) (lt1 (y:=dQ _) sl.Rats vd_q rfl (by decide) ?_))
   refine apO sl.Rats rfl rfl rfl (by rw [lm9,htl]) (VC.d _) (by simp [D.cells]) (by simp;omega) (by simp;omega) (.inr rfl) (ys:=((shares L i a).take (j+1)).map dQ) (by rw [take_succ_getD (by rw [shares_len];omega) 0,List.map_append];rfl) (n2:=j+1) (by simp) fun b2 c2=>?_
   refine asO rfl (OL.nil (AW.rg hE rfl (mvD rfl (add_i64 rfl rfl (by omega) (asD rfl (OL.nil ?_))))))
   exact AW.again (x:=(j,b54,c)) (j+1,b2,c2) (by (simp only [];omega)) ⟨by omega,Knows.app .rq4 .rq2,Owns.app (.cons rfl (.cons rfl .nil)) (.cons rfl .nil)⟩
  ·try simp only [dx9] at h39
   refine AW.exit (AW.seq ?_)
   obtain rfl:j=i:=by omega
   refine AW.freeze 54 rfl (AW.to [(9,.d (dQs (shares L j a)))] [(1000,tapeB b L (shA L j a))] (.cons (frz_osl (by rw [lm9,htl]) (by rw [take_all' (by rw [shares_len];omega)])) .nil) (.cons rfl .nil) ?_)
   exact AW.rg hE rfl (mvD rfl (asD rfl (OL.nil (AW.ret ⟨⟨_,.tmp rfl .nil,.le vR⟩,mem1_keep rfl⟩))))
end Go.Proofs.YtocehciipjhlkaaGreatDoor

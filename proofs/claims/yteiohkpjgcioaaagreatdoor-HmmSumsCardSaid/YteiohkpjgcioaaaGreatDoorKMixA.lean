/-
  Walks of the models out of plain numbers some of whose states are silent (printed by mk2.py).
-/
import Derived.Test.YteiohkpjgcioaaaGreatDoorKAlg45
import Derived.Test.YteiohkpjgcioaaaGreatDoorKHoB
import Derived.Test.YteiohkpjgcioaaaGreatDoorKMod124
set_option linter.unusedVariables false
set_option linter.unusedSimpArgs false
namespace Go.Proofs.YteiohkpjgcioaaaGreatDoor
open Go Go.AL
abbrev shL (b:Nat)(L:List Int)(a:Nat)(b2 c2:Nat)(l:List Rat):List (Nat × Blk):=[(1000,tapeB b L a),(2000,.row b2 c2 T.Rat 3 (l.map dQ))]
def shMem (b:Nat)(L:List Int)(a:Nat)(b2 c2:Nat)(l:List Rat):Mem:=lk none ((shL b L a b2 c2 l).map fun p=>(p.1,some p.2))
theorem cut_zero {l:List Rat}{st:Nat}(hl:l.length=st+1):cutS l st 0=l:=by
 refine list_eq_getD (cutS_len.trans hl.symm) 0 fun q hq=>?_
 rw [cutS_len] at hq
 rw [cutS_get (by omega)]
 split
 ·rename_i e;rw [e];rfl
 ·rw [if_neg (by omega)]
theorem cut_step {l:List Rat}{st j:Nat}(hj:j<st):((cutS l st j).set st (endS l st j+l.getD j 0)).set j 0=cutS l st (j+1):=by
 refine list_eq_getD (by rw [List.length_set,List.length_set,cutS_len,cutS_len]) 0 fun q hq=>?_
 rw [List.length_set,List.length_set,cutS_len] at hq
 rw [set_getD (by rw [List.length_set,cutS_len];omega),set_getD (by rw [cutS_len];omega),cutS_get (by omega),cutS_get (by omega)]
 by_cases e1:q=j
 ·rw [if_pos e1,if_neg (by omega),if_pos (by omega)]
 ·rw [if_neg e1]
  by_cases e2:q=st
  ·rw [if_pos e2,if_pos e2];rfl
  ·rw [if_neg e2,if_neg e2,if_neg e2]
   by_cases e3:q<j
   ·rw [if_pos e3,if_pos (by omega)]
   ·rw [if_neg e3,if_neg (by omega)]
theorem SharesR {L:List Int}{n a b:Nat}(hn:1≤n∧n≤1000000)(nL:L.length≤9223372036854775807):FSpecE P F.world_Shares [.ptr 1000 b 0,.d (dI n)] (mem1 1000 (tapeB b L a)) (fun x:Nat × Nat=>.osl 2000 x.1 n x.2) (fun x=>shMem b L (shA L n a) x.1 x.2 (shares L n a)) (fun _=>True):=by
 refine FSpecE.intro fn.world_Shares (by rfl) (by rfl) (nb9 (by rfl)) fun E hE=>(AW.sg hE rfl (asM rfl (OL.nil (AW.sg hE rfl (asM rfl (OL.nil (AW.sg hE rfl ?_)))))))
 refine asD rfl (OL.nil (AW.seq (AW.sg hE rfl (asD rfl (OL.nil (AW.own 5 25 T.int 1 rfl rfl (AW.block ?_)))))))
 refine AW.whileK (α:=Nat × Nat × Nat) [(0,_),(1,_),(4,_)] [] (fun (i,b25,c)=>[(5,.osl 25 b25 i c),(6,.d (dI (partsF L i a).1.sum)),(7,.d (dI i))]) (fun (i,b25,c)=>[(25,.row b25 c T.int 1 ((partsF L i a).1.map dI)),(1000,tapeB b L (partsF L i a).2)]) (fun (i,b25,c)=>i≤n) (fun (i,b25,c)=>n-i) (0,0,0) (.cons (knP rfl) (.cons (knD rfl) (.cons (knM rfl) .nil))) .nil ⟨Nat.zero_le _,.rq3,.cons rfl (.cons rfl .nil)⟩ ?_
 rintro ⟨i,b25,c⟩ h1
 have h1:i≤n:=h1
 have hpl:=partsF_len L i a
 have hps:=partsF_sum L i a
 refine AW.seq (AW.sg hE rfl (mvD rfl (mvD rfl (c_lss rfl rfl rfl (OL.nil (AW.cond rfl (fun h15=>?_) (fun h15=>?_)))))))
 ·try simp only [dx9] at h15
  refine AW.skip (AW.seq (AW.block (AW.sg hE rfl (mvP rfl (OL.callM (v:=.d (dI (tnext L (partsF L i a).2 4))) (.mk (args':=[.ptr 1000 b 0,.d (dI 4)]) rfl (.cons vR (.cons vR (.nil))) (mem1_keep (id:=1000) (blk:=tapeB b L (partsF L i a).2) rfl) mem1_sub (tape_Next (by decide) nL)) ?_)))))
  have hv:=tnext_range (L:=L) (a:=(partsF L i a).2) (m:=4) (by decide)
  refine asD rfl (OL.nil ?_)
  refine AW.midK (α:=Unit) [(0,_),(1,_),(4,_),(5,_),(6,_),(7,_)] [(25,_),(1000,_)] (fun _u=>[(8,.d (dI (if tnext L (partsF L i a).2 4=3 then 0 else tnext L (partsF L i a).2 4)))]) (fun _u=>[]) (fun _u=>True) (.cons (knP rfl) (.cons (knD rfl) (.cons (knM rfl) (.cons (knO rfl) (.cons (knD rfl) (.cons (knD rfl) .nil)))))) (.cons (owR rfl) (.cons (owB rfl) .nil)) ?_ ?_
  ·refine AW.sg hE rfl (mvD rfl (c_eql rfl rfl rfl (OL.nil (AW.cond rfl (fun h21=>?_) (fun h21=>?_)))))
   ·try simp only [dx9] at h21
    exact AW.rg hE rfl (asD rfl (OL.nil (AW.reach () ⟨trivial,Knows.app .rq6 (.cons (VLe.int (by rw [if_pos h21])) .nil),Owns.app (.cons rfl (.cons rfl .nil)) (.nil)⟩)))
   ·try simp only [dx9] at h21
    exact AW.skip (AW.reach () ⟨trivial,Knows.app .rq6 (.cons (VLe.int (by rw [if_neg h21])) .nil),Owns.app (.cons rfl (.cons rfl .nil)) (.nil)⟩)
  rintro ⟨⟩ hφ
  have hv2:0≤(if tnext L (partsF L i a).2 4=3 then 0 else tnext L (partsF L i a).2 4)∧(if tnext L (partsF L i a).2 4=3 then 0 else tnext L (partsF L i a).2 4)≤2:=by split <;> omega
  refine AW.sg hE rfl (mvO rfl (mvD rfl (lt1 sl.ints (VC.d _).vd rfl (by decide) (apO sl.ints rfl rfl rfl (by rw [lm9,hpl]) (VC.d _) (by simp [D.cells]) (by simp;omega) (by simp;omega) (.inr rfl) (ys:=(partsF L (i+1) a).1.map dI) (by simp [partsF]) (n2:=i+1) (by simp) fun b2 c2=>(asO rfl (OL.nil (AW.rg hE rfl ?_)))))))
  refine mvD rfl (mvD rfl (add_i64 rfl rfl (by omega) (asD rfl (OL.nil (AW.rg hE rfl (mvD rfl (add_i64 rfl rfl (by omega) ?_)))))))
  refine asD rfl (OL.nil ?_)
  exact AW.again (x:=(i,b25,c)) (i+1,b2,c2) (by (simp only [];omega)) ⟨by omega,Knows.app .rq3 (.cons vR (.cons (VLe.int (by simp only [partsF,List.sum_append,List.sum_cons,List.sum_nil];omega)) .rq1)),.cons rfl (.cons rfl .nil)⟩
 ·try simp only [dx9] at h15
  refine AW.exit ?_
  obtain rfl:i=n:=by omega
  refine AW.midK (α:=Unit) [(1,_),(4,_),(5,_)] [] (fun _u=>[(6,.d (dI (shS L i a)))]) (fun _u=>[(25,.row b25 c T.int 1 ((shP L i a).map dI)),(1000,tapeB b L (shA L i a))]) (fun _u=>True) (.cons (knD rfl) (.cons (knM rfl) (.cons (knO rfl) .nil))) .nil ?_ ?_
  ·refine AW.sg hE rfl (mvD rfl (c_eql rfl rfl rfl (OL.nil (AW.cond rfl (fun h30=>?_) (fun h30=>?_)))))
   ·try simp only [dx9] at h30
    refine AW.sg hE rfl (mvO rfl (mvP rfl (OL.callM (v:=.d (dI (tnext L (partsF L i a).2 100))) (.mk (args':=[.ptr 1000 b 0,.d (dI 100)]) rfl (.cons vR (.cons vR (.nil))) (mem1_keep (id:=1000) (blk:=tapeB b L (partsF L i a).2) rfl) mem1_sub (tape_Next (by decide) nL)) ?_)))
    have hwr:=within_range (v:=tnext L (partsF L i a).2 100) (m:=i) (by omega)
    refine mvD rfl (clv rfl .rq2 (world_Within (by omega)) (ixO sl.ints rfl rfl (by omega) (by omega) rfl (stE sz.int rfl (VC.d _).vd rfl rfl (by rw [lm9];omega) rfl (OL.nil (AW.rg hE rfl (asD rfl (OL.nil ?_)))))))
    have e1:shP L i a=(partsF L i a).1.set (within (tnext L (partsF L i a).2 100) i).toNat 1:=if_pos h30
    have e2:shS L i a=1:=if_pos h30
    have e3:shA L i a=tat L (partsF L i a).2:=if_pos h30
    exact AW.reach () ⟨trivial,Knows.app .rq3 (.cons (VLe.int (by rw [e2])) .nil),.cons (by rw [e1,List.map_set];rfl) (.cons (by rw [e3];rfl) .nil)⟩
   ·try simp only [dx9] at h30
    refine AW.skip ?_
    have e1:shP L i a=(partsF L i a).1:=if_neg h30
    have e2:shS L i a=(partsF L i a).1.sum:=if_neg h30
    have e3:shA L i a=(partsF L i a).2:=if_neg h30
    exact AW.reach () ⟨trivial,Knows.app .rq3 (.cons (VLe.int (by rw [e2])) .nil),.cons (by rw [e1];rfl) (.cons (by rw [e3];rfl) .nil)⟩
  rintro ⟨⟩ hφ
  have hsum:=shP_sum L i a hn.1
  have hsl:=shP_len L i a
  refine AW.sg hE rfl (asM rfl (OL.nil (AW.seq (AW.sg hE rfl (asD rfl (OL.nil (AW.own 9 54 T.Rat 3 rfl rfl ?_)))))))
  refine AW.block ?_
  refine AW.whileK (α:=Nat × Nat × Nat) [(1,_),(4,_),(5,_),(6,_)] [(25,_),(1000,_)] (fun (j,b54,c)=>[(9,.osl 54 b54 j c),(10,.d (dI j))]) (fun (j,b54,c)=>[(54,.row b54 c T.Rat 3 (((shares L i a).take j).map dQ))]) (fun (j,b54,c)=>j≤i) (fun (j,b54,c)=>i-j) (0,0,0) (.cons (knD rfl) (.cons (knM rfl) (.cons (knO rfl) (.cons (knD rfl) .nil)))) (.cons (owR rfl) (.cons (owB rfl) .nil)) ⟨Nat.zero_le _,.rq2,.cons rfl .nil⟩ ?_
  rintro ⟨j,b54,c54⟩ h2
  have h2:j≤i:=h2
  have htl:=take_len (l:=shares L i a) (i:=j) (by rw [shares_len];exact h2)
  refine AW.seq (AW.sg hE rfl (mvD rfl (mvD rfl (c_lss rfl rfl rfl (OL.nil (AW.cond rfl (fun h39=>?_) (fun h39=>?_)))))))
  ·try simp only [dx9] at h39
   refine AW.skip (AW.seq (AW.block (AW.seq ?_)))
   have hg:=shP_get (L:=L) (a:=a) hn.1 (show j<i by omega)
   refine AW.rg hE rfl (mvO rfl (mvD rfl (ixOn sl.ints rfl rfl (by omega) (ldEL ce.int 0 (by decide) rfl rfl (by omega) rfl (mvD rfl (clv rfl .rq2 (ref_Make (by omega) (by omega) (by omega)) ?_))))))
   rw [← shares_get (show j<i by omega)]
   refine mvT rfl (ex rfl rfl (ex rfl rfl (al z.Rat rfl fun b11=>(sto sz.Rat rfl rfl rfl rfl rfl (nb9 rfl) (cells2:=[_,_,_]) rfl (asD rfl (OL.nil (AW.rg hE rfl ?_)))))))
   refine mvO rfl (ldPA ag.Rat rfl rfl (vs:=[_,_,_]) rfl (nb9 rfl) (lt1 (y:=dQ _) sl.Rats vd_q rfl (by decide) ?_))
   refine apO sl.Rats rfl rfl rfl (by rw [lm9,htl]) (VC.d _) (by simp [D.cells]) (by simp;omega) (by simp;omega) (.inr rfl) (ys:=((shares L i a).take (j+1)).map dQ) (by rw [take_succ_getD (by rw [shares_len];omega) 0,List.map_append];rfl) (n2:=j+1) (by simp) fun b2 c2=>?_
   refine asO rfl (OL.nil (AW.rg hE rfl (mvD rfl (add_i64 rfl rfl (by omega) (asD rfl (OL.nil ?_))))))
   exact AW.again (x:=(j,b54,c)) (j+1,b2,c2) (by (simp only [];omega)) ⟨by omega,Knows.app .rq4 .rq2,Owns.app (.cons rfl (.cons rfl .nil)) (.cons rfl .nil)⟩
  ·try simp only [dx9] at h39
   refine AW.exit (AW.seq ?_)
   obtain rfl:j=i:=by omega
   have htk:(shares L j a).take j=shares L j a:=List.take_of_length_le (by rw [shares_len];exact Nat.le_refl _)
   dsimp only
   rw [htk]
   exact AW.rename 54 2000 rfl (AW.rg hE rfl (mvO rfl (asO rfl (OL.nil (AW.ret ⟨(b54,c54),trivial,⟨_,.tmp rfl .nil,.le VLe.osl⟩,fun id blk hk=>lk_own (l:=shL b L (shA L j a) b54 c54 (shares L j a)) (.cons rfl (.cons rfl trivial)) id blk hk⟩)))))
set_option maxRecDepth 16000 in
set_option maxHeartbeats 6400000 in
theorem chain_mix {L : List Int} {cs cy most : Int} (hm : 1 ≤ most ∧ most ≤ 12) (nL : L.length ≤ 9223372036854775807) : FSpec P F.world_Chain_made [.ag [.d (dI cs), .d (dI cy), .d (ints L)], .d (dI most), .d (dB true)] (vHM (mixHM L cs cy most)) := by
 have s0:=chSt_range (cs:=cs) hm
 have y0:=chSym_range cy
 refine FSpec.intro fn.world_Chain_made (by rfl) (by rfl) (nb9 (by rfl)) fun E hE=>(AW.sg hE rfl (bxA rfl rfl fun b3=>(al z.Hidden rfl fun b6=>(OL.nil (AW.sg hE rfl (faP fd.Chain_2 rfl rfl (ldPC ce.ints rfl rfl rfl ?_)))))))
 refine bd z.Tape pl.Tape (cs:=[_,_]) rfl (bxA rfl rfl fun b20=>(asP rfl (OL.nil (AW.seq (AW.rename 20 1000 rfl (AW.dg 1 [0,1,2,3,4,5,6,7,8,9,10,11] order_free hE rfl (by kernel_rfl) (OI.of_OL (os:=[_,_,_,_,_,_,_,_,_,_,_,_]) rfl ?_)))))))
 refine faP fd.Chain_0 rfl rfl (ldPC ce.int rfl rfl rfl (mvD rfl (clv rfl .rq2 (world_Within (by omega)) (bo rfl rfl (bin_add (c:=((chSt cs most:Nat):Int)) (by omega) (wrap_i64 (by omega))) (faP fd.Chain_1 rfl rfl (ldPC ce.int rfl rfl rfl (clv rfl .rq2 (world_Within (by omega)) ?_)))))))
 refine bo rfl rfl (bin_add (c:=((chSym cy:Nat):Int)) (by omega) (wrap_i64 (by omega))) (bd z.Hidden pl.Hidden (cs:=[_,_,_,_,_,_,_,_,_,_,_]) rfl (al z.Hidden rfl fun b8=>(sto sz.Hidden rfl rfl rfl rfl rfl (nb9 rfl) (cells2:=[_,_,_,_,_,_,_,_,_,_,_]) rfl (OL.nil (AW.sg hE rfl (mvP rfl (faP fd.Hidden_1 rfl rfl ?_)))))))
 refine ldPC ce.int rfl rfl rfl (bo rfl rfl (bin_add (c:=((chSt cs most+1:Nat):Int)) (by omega) (wrap_i64 (by omega))) ?_)
 refine OL.callM (v:=.d (dQs (chFirst L (chSt cs most)))) (.mk (args':=[.ptr 1000 b20 0,.d (dI (((chSt cs most)+1:Nat)))]) rfl (.cons (VLe.ptr) (.cons vR (.nil))) (mem1_keep (id:=1000) (blk:=tapeB b20 L 0) rfl) mem1_sub (world_Shares ⟨by omega,by omega⟩ nL)) ?_
 have hfl:(chFirst L (chSt cs most)).length=(chSt cs most)+1:=shares_len ..
 refine asD rfl (OL.nil (AW.seq (AW.dg 1 [0,1,2,3,4,5,6,7,8,9,10,11,12] order_free hE rfl (by kernel_rfl) (OI.of_OL (os:=[_,_,_,_,_,_,_,_,_,_,_,_,_]) rfl ?_))))
 refine mvD rfl (faP fd.Hidden_1 rfl rfl (ldPC ce.int rfl rfl rfl (ixLn sl.Rats 0 rfl rfl (by omega) rfl rfl (ldRA ag.Rat rfl (vs:=[_,_,_]) rfl (nb9 rfl) (mvD rfl (faP fd.Hidden_1 rfl rfl (ldPC ce.int rfl rfl rfl ?_)))))))
 refine slTo sl.Rats rfl rfl (fun _=>rfl) (by omega) (l2:=(chFirst L (chSt cs most)).take (chSt cs most)) (by rw [Int.toNat_natCast]) (faP fd.Hidden_2 rfl rfl (sto sz.Rat rfl rfl rfl rfl rfl (nb9 rfl) (cells2:=[_,_,_,_,_,_,_,_,_,_,_]) rfl (faP fd.Hidden_3 rfl rfl (sto sz.Rats rfl rfl rfl rfl rfl (nb9 rfl) (cells2:=[_,_,_,_,_,_,_,_,_,_,_]) rfl (OL.nil (AW.seq (AW.sg hE rfl ?_)))))))
 refine asD rfl (OL.nil ?_)
 refine AW.boxW 8 [.d (dI (chSym cy)),.d (dI (chSt cs most)),.d (dB (ofQ ((chFirst L (chSt cs most)).getD (chSt cs most) 0)).neg),.d (u32s (ofQ ((chFirst L (chSt cs most)).getD (chSt cs most) 0)).num),.d (u32s (ofQ ((chFirst L (chSt cs most)).getD (chSt cs most) 0)).den),.d (dQs ((chFirst L (chSt cs most)).take (chSt cs most))),.osl 95 0 0 0,.osl 104 0 0 0,.osl 123 0 0 0,.osl 109 0 0 0,.osl 164 0 0 0] rfl (.cons vR (.cons vR (.cons vR (.cons vR (.cons vR (.cons vR (.cons VLe.mtO (.cons VLe.mtO (.cons VLe.mtO (.cons VLe.mtO (.cons VLe.mtO .nil))))))))))) ?_
 refine AW.row0 95 T.Rats 1 rfl (AW.row0 104 T.Rat 3 rfl (AW.row0 123 T.Rats 1 rfl (AW.row0 109 T.bool 1 rfl (AW.row0 164 T.int 1 rfl (AW.block ?_)))))
 refine AW.whileK (α:=Nat × Nat × Nat × Nat × Nat × Nat × Nat × Nat × Nat × Nat × Nat) [(2,_),(6,_),(7,_),(8,_)] [(6,_)] (fun (i,p1,c1,p2,c2,p3,c3,p4,c4,p5,c5)=>[(10,.d (dI i))]) (fun (i,p1,c1,p2,c2,p3,c3,p4,c4,p5,c5)=>[(8,.box b8 T.Hidden [.d (dI (chSym cy)),.d (dI (chSt cs most)),.d (dB (ofQ ((chFirst L (chSt cs most)).getD (chSt cs most) 0)).neg),.d (u32s (ofQ ((chFirst L (chSt cs most)).getD (chSt cs most) 0)).num),.d (u32s (ofQ ((chFirst L (chSt cs most)).getD (chSt cs most) 0)).den),.d (dQs ((chFirst L (chSt cs most)).take (chSt cs most))),.osl 95 p1 i c1,.osl 104 p2 i c2,.osl 123 p3 i c3,.osl 109 p4 i c4,.osl 164 p5 i c5]),(95,.row p1 c1 T.Rats 1 ((mixMS L (chSt cs most) (chSym cy) i).trans.map dQs)),(104,.row p2 c2 T.Rat 3 ((mixMS L (chSt cs most) (chSym cy) i).stop.map dQ)),(123,.row p3 c3 T.Rats 1 ((mixMS L (chSt cs most) (chSym cy) i).emit.map dQs)),(109,.row p4 c4 T.bool 1 ((mixMS L (chSt cs most) (chSym cy) i).sil.map dB)),(164,.row p5 c5 T.int 1 ((mixMS L (chSt cs most) (chSym cy) i).ties.map dI)),(1000,tapeB b20 L (mixMS L (chSt cs most) (chSym cy) i).a)]) (fun (i,p1,c1,p2,c2,p3,c3,p4,c4,p5,c5)=>i≤(chSt cs most)) (fun (i,p1,c1,p2,c2,p3,c3,p4,c4,p5,c5)=>(chSt cs most)-i) (0,0,0,0,0,0,0,0,0,0,0) (.cons (knD rfl) (.cons (knP rfl) (.cons (knP rfl) (.cons (knP rfl) .nil)))) (.cons (owB rfl) .nil) ⟨Nat.zero_le _,.rq1,.cons rfl (.cons rfl (.cons rfl (.cons rfl (.cons rfl (.cons rfl (.cons rfl .nil))))))⟩ ?_
 rintro ⟨i,p1,c1,p2,c2,p3,c3,p4,c4,p5,c5⟩ h1
 have h1:i≤(chSt cs most):=h1
 have hok:=mxF_ok (L:=L) (st:=(chSt cs most)) (sym:=(chSym cy)) ⟨s0.1,by omega⟩ ⟨y0.1,by omega⟩ (shA_le ((chSt cs most)+1) (Nat.zero_le _)) i h1
 have m1:(mixMS L (chSt cs most) (chSym cy) i).trans.length=i:=hok.lt
 have m2:(mixMS L (chSt cs most) (chSym cy) i).stop.length=i:=hok.ls
 have m3:(mixMS L (chSt cs most) (chSym cy) i).emit.length=i:=hok.le
 have m4:(mixMS L (chSt cs most) (chSym cy) i).ties.length=i:=hok.ll
 have m5:(mixMS L (chSt cs most) (chSym cy) i).sil.length=i:=hok.lq
 have ml0:(mxL0 L (chSt cs most) (mixMS L (chSt cs most) (chSym cy) i)).length=(chSt cs most)+1:=shares_len ..
 have mz0:Small 1 (mxL0 L (chSt cs most) (mixMS L (chSt cs most) (chSym cy) i)):=shares_small _ _ _ (by omega) (by omega)
 have mll:(mxL L (chSt cs most) i (mixMS L (chSt cs most) (chSym cy) i)).length=(chSt cs most)+1:=by unfold mxL;split;exact cutS_len;exact ml0
 refine AW.seq (AW.sg hE rfl (mvD rfl (faP fd.Hidden_1 rfl rfl (ldPC ce.int rfl rfl rfl (c_lss rfl rfl rfl (OL.nil (AW.cond rfl (fun h50=>?_) (fun h50=>?_))))))))
 ·try simp only [dx9] at h50
  refine AW.skip (AW.seq (AW.block (AW.sg hE rfl (mvD rfl (mvD rfl (OL.yes rfl (mvP rfl ?_)))))))
  refine OL.yes rfl ?_
  refine OL.callM (v:=.d (dI (tnext L (mixMS L (chSt cs most) (chSym cy) i).a 3))) (.mk (args':=[.ptr 1000 b20 0,.d (dI 3)]) rfl (.cons (VLe.ptr) (.cons vR (.nil))) (mem1_keep (id:=1000) (blk:=tapeB b20 L (mixMS L (chSt cs most) (chSym cy) i).a) rfl) mem1_sub (tape_Next (by decide) nL)) ?_
  refine OL.yes rfl (c_eql rfl rfl rfl (pkT rfl rfl (asD rfl (OL.nil (AW.seq ?_)))))
  have hi:i<(chSt cs most):=by omega
  refine AW.regionK (by rw [hE];rfl) (SK.ofOL (mvP rfl (OL.nil ?_)))
  refine SK.ofOL (faP fd.Hidden_1 rfl rfl (OL.nil ?_))
  refine SK.ofOL (ldPC ce.int rfl rfl rfl (OL.nil ?_))
  refine SK.ofOL (bo rfl rfl (bin_add (c:=(((chSt cs most)+1:Nat):Int)) (by omega) (wrap_i64 (by omega))) (OL.nil ?_))
  refine SK.ofSO (SO.callE2 (args':=[.ptr 1000 b20 0,.d (dI (((chSt cs most)+1:Nat)))]) (show 63<E.n by rw [hE];exact Nat.le_of_ble_eq_true (by rfl)) rfl (.cons VLe.ptr .rq1) (Mc:=mem1 1000 (tapeB b20 L (tat L (mixMS L (chSt cs most) (chSym cy) i).a))) (mem1_keep rfl) (SharesR ⟨by omega,by omega⟩ nL) ?_)
  rintro ⟨b63,c63⟩ -
  refine SK.ofOL (asO rfl (OL.nil ?_))
  refine SK.nil ?_
  refine AW.midK (α:=Unit) [(2,_),(6,_),(7,_),(8,_),(10,_),(11,_),(12,_)] [(6,_),(8,_),(95,_),(104,_),(109,_),(123,_),(164,_),(1000,_)] (fun _u=>[]) (fun _u=>[(2000,.row b63 c63 T.Rat 3 ((mxL L (chSt cs most) i (mixMS L (chSt cs most) (chSym cy) i)).map dQ))]) (fun _u=>True) (.cons (knD rfl) (.cons (knP rfl) (.cons (knP rfl) (.cons (knP rfl) (.cons (knD rfl) (.cons (knD rfl) (.cons (knO rfl) .nil))))))) (.cons (owB rfl) (.cons (owB rfl) (.cons (owR rfl) (.cons (owR rfl) (.cons (owR rfl) (.cons (owR rfl) (.cons (owR rfl) (.cons (owB rfl) .nil)))))))) ?_ ?_
  ·refine AW.sg hE rfl (mvD rfl (OL.nil (AW.cond rfl (fun hs=>?_) (fun hs=>?_))))
   ·have hs:(mxS L (mixMS L (chSt cs most) (chSym cy) i))=true:=hs
    refine AW.sg hE rfl (asD rfl (OL.nil (AW.block ?_)))
    refine AW.whileK (α:=Nat) [(2,_),(6,_),(7,_),(8,_),(10,_),(11,_),(12,_)] [(6,_),(8,_),(95,_),(104,_),(109,_),(123,_),(164,_),(1000,_)] (fun j=>[(13,.d (dI j))]) (fun j=>[(2000,.row b63 c63 T.Rat 3 ((cutS (mxL0 L (chSt cs most) (mixMS L (chSt cs most) (chSym cy) i)) (chSt cs most) j).map dQ))]) (fun j=>j≤i+1) (fun j=>i+1-j) 0 (.cons (knD rfl) (.cons (knP rfl) (.cons (knP rfl) (.cons (knP rfl) (.cons (knD rfl) (.cons (knD rfl) (.cons (knO rfl) .nil))))))) (.cons (owB rfl) (.cons (owB rfl) (.cons (owR rfl) (.cons (owR rfl) (.cons (owR rfl) (.cons (owR rfl) (.cons (owR rfl) (.cons (owB rfl) .nil)))))))) ⟨Nat.zero_le _,.rq1,.cons (by rw [cut_zero ml0];rfl) .nil⟩ ?_
    intro j h2
    have h2:j≤i+1:=h2
    have hcl:=cutS_len (l:=(mxL0 L (chSt cs most) (mixMS L (chSt cs most) (chSym cy) i))) (st:=(chSt cs most)) (j:=j)
    refine AW.seq (AW.sg hE rfl (mvD rfl (mvD rfl (c_leq rfl rfl rfl (OL.nil (AW.cond rfl (fun h67=>?_) (fun h67=>?_)))))))
    ·try simp only [dx9] at h67
     refine AW.skip (AW.seq (AW.block (AW.seq ?_)))
     have hj:j<(chSt cs most):=by omega
     have ze:=endS_sz (st:=(chSt cs most)) mz0 j
     have zj:=mz0.get (Nat.le_refl 1) j
     have g1:(cutS (mxL0 L (chSt cs most) (mixMS L (chSt cs most) (chSym cy) i)) (chSt cs most) j).getD (chSt cs most) 0=endS (mxL0 L (chSt cs most) (mixMS L (chSt cs most) (chSym cy) i)) (chSt cs most) j:=by rw [cutS_get (Nat.le_refl _),if_pos rfl]
     have g2:(cutS (mxL0 L (chSt cs most) (mixMS L (chSt cs most) (chSym cy) i)) (chSt cs most) j).getD j 0=(mxL0 L (chSt cs most) (mixMS L (chSt cs most) (chSym cy) i)).getD j 0:=by rw [cutS_get (by omega),if_neg (by omega),if_neg (by omega)]
     refine AW.dg 1 [0,1,2,3,4,5,6,7,8,9,10,11,12,13,14] order_free hE rfl (by kernel_rfl) (OI.of_OL (os:=[_,_,_,_,_,_,_,_,_,_,_,_,_,_,_]) rfl ?_)
     refine mvO rfl (faP fd.Hidden_1 rfl rfl (ldPC ce.int rfl rfl rfl (mvO rfl (faP fd.Hidden_1 rfl rfl (ldPC ce.int rfl rfl rfl (ixOn sl.Rats rfl rfl (by omega) (ldEAL ag.Rat 0 (by decide) rfl rfl (by omega) (vs:=[_,_,_]) rfl (nb9 rfl) ?_)))))))
     rw [g1]
     refine mvO rfl (mvD rfl (ixOn sl.Rats rfl rfl (by omega) (ldEAL ag.Rat 0 (by decide) rfl rfl (by omega) (vs:=[_,_,_]) rfl (nb9 rfl) ?_)))
     rw [g2]
     refine clv rfl vL (ref_AddQ (x:=endS (mxL0 L (chSt cs most) (mixMS L (chSt cs most) (chSym cy) i)) (chSt cs most) j) (y:=(mxL0 L (chSt cs most) (mixMS L (chSt cs most) (chSym cy) i)).getD j 0) (by omega) (by omega)) ?_
     refine ixOn sl.Rats rfl rfl (by omega) ?_
     refine stE sz.Rat rfl (d:=dQ (endS (mxL0 L (chSt cs most) (mixMS L (chSt cs most) (chSym cy) i)) (chSt cs most) j+(mxL0 L (chSt cs most) (mixMS L (chSt cs most) (chSym cy) i)).getD j 0)) vd_q rfl rfl (by rw [lm9];omega) (es2:=((cutS (mxL0 L (chSt cs most) (mixMS L (chSt cs most) (chSym cy) i)) (chSt cs most) j).set (chSt cs most) (endS (mxL0 L (chSt cs most) (mixMS L (chSt cs most) (chSym cy) i)) (chSt cs most) j+(mxL0 L (chSt cs most) (mixMS L (chSt cs most) (chSym cy) i)).getD j 0)).map dQ) (by rw [List.map_set]) ?_
     refine OL.nil (AW.rg hE rfl (mvO rfl (mvD rfl (bd z.Rat pl.Rat (cs:=[_,_,_]) rfl (ixOn sl.Rats rfl rfl (by omega) ?_)))))
     refine stE sz.Rat rfl (d:=dQ 0) vd_q0X rfl rfl (by rw [lm9,List.length_set];omega) (es2:=(cutS (mxL0 L (chSt cs most) (mixMS L (chSt cs most) (chSym cy) i)) (chSt cs most) (j+1)).map dQ) (by rw [← cut_step hj,List.map_set,List.map_set,List.map_set]) ?_
     refine OL.nil (AW.rg hE rfl (mvD rfl (add_i64 rfl rfl (by omega) (asD rfl (OL.nil ?_)))))
     exact AW.again (x:=j) (j+1) (by omega) ⟨by omega,Knows.app .rq7 .rq1,Owns.app (.cons rfl (.cons rfl (.cons rfl (.cons rfl (.cons rfl (.cons rfl (.cons rfl (.cons rfl .nil)))))))) (.cons rfl .nil)⟩
    ·try simp only [dx9] at h67
     refine AW.exit ?_
     obtain rfl:j=i+1:=by omega
     exact AW.reach () ⟨trivial,Knows.app .rq7 (.nil),Owns.app (.cons rfl (.cons rfl (.cons rfl (.cons rfl (.cons rfl (.cons rfl (.cons rfl (.cons rfl .nil)))))))) (.cons (by rw [mxL,if_pos hs];rfl) .nil)⟩
   ·have hs:(mxS L (mixMS L (chSt cs most) (chSym cy) i))=false:=hs
    refine AW.skip ?_
    exact AW.reach () ⟨trivial,Knows.app .rq7 (.nil),Owns.app (.cons rfl (.cons rfl (.cons rfl (.cons rfl (.cons rfl (.cons rfl (.cons rfl (.cons rfl .nil)))))))) (.cons (by rw [mxL,hs];rfl) .nil)⟩
  rintro ⟨⟩ hφ
  refine AW.seq ?_
  refine AW.freeze 2000 rfl (AW.to [(12,.d (dQs (mxL L (chSt cs most) i (mixMS L (chSt cs most) (chSym cy) i)))),(2,_),(6,_),(7,_),(8,_),(10,_),(11,_)] [(6,_),(8,_),(95,_),(104,_),(109,_),(123,_),(164,_),(1000,_)] (.cons (frz_osl (by rw [lm9,mll]) rfl) (by repeat (first|exact Knows.nil|refine Knows.cons (by first|exact knD rfl|exact knA rfl|exact knP rfl|exact knO rfl|exact knM rfl|exact knE rfl|exact knR rfl|exact knF rfl|exact knT rfl|exact knI rfl|exact knB rfl|exact knJ) ?_))) (by repeat (first|exact Owns.nil|refine Owns.cons (by first|exact owB rfl|exact owR rfl|exact owL rfl|exact owT rfl) ?_)) ?_)
  refine AW.dg 2 [0,1,2,3,4,5,6,8,9,10,11,12,13,14,15,17,18,19,20,7,22,16,21,23,24,25,26,27] order_free hE rfl (by kernel_rfl) (OI.of_OL (os:=[_,_,_,_,_,_,_,_,_,_,_,_,_,_,_,_,_,_,_,_,_,_,_,_,_,_,_,_]) rfl ?_)
  refine faP fd.Hidden_4 rfl rfl (ldPC ce.Ratss rfl rfl rfl (mvD rfl (faP fd.Hidden_1 rfl rfl (ldPC ce.int rfl rfl rfl (slTo sl.Rats rfl rfl (fun _=>rfl) (by omega) (l2:=(mxL L (chSt cs most) i (mixMS L (chSt cs most) (chSym cy) i)).take (chSt cs most)) (by rw [Int.toNat_natCast]) (lt1 (y:=dQs ((mxL L (chSt cs most) i (mixMS L (chSt cs most) (chSym cy) i)).take (chSt cs most))) sl.Ratss (VC.d _).vd rfl (by decide) (faP fd.Hidden_5 rfl rfl ?_)))))))
  refine ldPC ce.Rats rfl rfl rfl (mvD rfl (faP fd.Hidden_1 rfl rfl (ldPC ce.int rfl rfl rfl (ixLn sl.Rats 0 rfl rfl (by omega) rfl rfl (ldRA ag.Rat rfl (vs:=[_,_,_]) rfl (nb9 rfl) (lt1 (y:=dQ ((mxL L (chSt cs most) i (mixMS L (chSt cs most) (chSym cy) i)).getD (chSt cs most) 0)) sl.Rats vd_q rfl (by decide) (faP fd.Hidden_7 rfl rfl ?_)))))))
  refine ldPC ce.bools rfl rfl rfl (mvD rfl (lt1 (y:=dB (mxS L (mixMS L (chSt cs most) (chSym cy) i))) sl.bools (VC.d _).vd rfl (by decide) ?_))
  refine apO sl.Ratss rfl rfl rfl (by rw [lm9];omega) (VC.d _) (fun y hy=>by rw [ms9 hy];rfl) (by simp only [ls9];omega) (by simp only [ls9];omega) (.inr rfl) (ys:=((mixMS L (chSt cs most) (chSym cy) (i+1)).trans.map dQs)) (by show _=List.map dQs (_++_);rw [List.map_append];rfl) (n2:=i+1) rfl fun q1 d1=>?_
  refine faP fd.Hidden_4 rfl rfl ?_
  refine apO sl.Rats rfl rfl rfl (by rw [lm9];omega) (VC.d _) (fun y hy=>by rw [ms9 hy];rfl) (by simp only [ls9];omega) (by simp only [ls9];omega) (.inr rfl) (ys:=((mixMS L (chSt cs most) (chSym cy) (i+1)).stop.map dQ)) (by show _=List.map dQ (_++_);rw [List.map_append];rfl) (n2:=i+1) rfl fun q2 d2=>?_
  refine apO sl.bools rfl rfl rfl (by rw [lm9];omega) (VC.d _) (fun y hy=>by rw [ms9 hy];rfl) (by simp only [ls9];omega) (by simp only [ls9];omega) (.inr rfl) (ys:=((mixMS L (chSt cs most) (chSym cy) (i+1)).sil.map dB)) (by show _=List.map dB (_++_);rw [List.map_append];rfl) (n2:=i+1) rfl fun q4 d4=>?_
  refine sto sz.Ratss rfl rfl rfl rfl rfl (nb9 rfl) (cells2:=[_,_,_,_,_,_,_,_,_,_,_]) rfl (faP fd.Hidden_5 rfl rfl (sto sz.Rats rfl rfl rfl rfl rfl (nb9 rfl) (cells2:=[_,_,_,_,_,_,_,_,_,_,_]) rfl (faP fd.Hidden_7 rfl rfl (sto sz.bools rfl rfl rfl rfl rfl (nb9 rfl) (cells2:=[_,_,_,_,_,_,_,_,_,_,_]) rfl (OL.nil (AW.sg hE rfl (asM rfl ?_)))))))
  refine OL.nil ?_
  refine AW.midK (α:=Unit) [(2,_),(6,_),(7,_),(8,_),(10,_),(11,_)] [(6,_),(8,_),(95,_),(104,_),(109,_),(123,_),(164,_)] (fun _u=>[(14,.d (dQs (mxE L (chSt cs most) (chSym cy) (mixMS L (chSt cs most) (chSym cy) i))))]) (fun _u=>[(1000,tapeB b20 L (mxA2 L (chSt cs most) (chSym cy) (mixMS L (chSt cs most) (chSym cy) i)))]) (fun _u=>True) (.cons (knD rfl) (.cons (knP rfl) (.cons (knP rfl) (.cons (knP rfl) (.cons (knD rfl) (.cons (knD rfl) .nil)))))) (.cons (owB rfl) (.cons (owB rfl) (.cons (owR rfl) (.cons (owR rfl) (.cons (owR rfl) (.cons (owR rfl) (.cons (owR rfl) .nil))))))) ?_ ?_
  ·refine AW.sg hE rfl (mvD rfl (nt rfl (OL.nil (AW.cond rfl (fun hq=>?_) (fun hq=>?_)))))
   ·have hq:(mxS L (mixMS L (chSt cs most) (chSym cy) i))=false:=by have e:(!(mxS L (mixMS L (chSt cs most) (chSym cy) i)))=true:=hq;simpa using e
    refine AW.rg hE rfl (mvP rfl (faP fd.Hidden_0 rfl rfl (ldPC ce.int rfl rfl rfl ?_)))
    refine OL.callM (v:=.d (dQs (shares L (chSym cy) (mxA1 L (chSt cs most) (mixMS L (chSt cs most) (chSym cy) i))))) (.mk (args':=[.ptr 1000 b20 0,.d (dI (chSym cy))]) rfl (.cons (VLe.ptr) (.cons vR (.nil))) (mem1_keep (id:=1000) (blk:=tapeB b20 L (mxA1 L (chSt cs most) (mixMS L (chSt cs most) (chSym cy) i))) rfl) mem1_sub (world_Shares ⟨by omega,by omega⟩ nL)) ?_
    refine asD rfl (OL.nil ?_)
    exact AW.reach () ⟨trivial,Knows.app .rq6 (.cons (by rw [mxE,hq];exact VLe.refl _) .nil),Owns.app (.cons rfl (.cons rfl (.cons rfl (.cons rfl (.cons rfl (.cons rfl (.cons rfl .nil))))))) (.cons (by rw [mxA2,hq];rfl) .nil)⟩
   ·have hq:(mxS L (mixMS L (chSt cs most) (chSym cy) i))=true:=by have e:(!(mxS L (mixMS L (chSt cs most) (chSym cy) i)))=false:=hq;simpa using e
    refine AW.skip ?_
    exact AW.reach () ⟨trivial,Knows.app .rq6 (.cons (by rw [mxE,if_pos hq];exact VLe.mt) .nil),Owns.app (.cons rfl (.cons rfl (.cons rfl (.cons rfl (.cons rfl (.cons rfl (.cons rfl .nil))))))) (.cons (by rw [mxA2,if_pos hq];rfl) .nil)⟩
  rintro ⟨⟩ hφ
  have mze:Small 1 (mxE L (chSt cs most) (chSym cy) (mixMS L (chSt cs most) (chSym cy) i)):=by unfold mxE;split;exact Small.nil;exact shares_small _ _ _ (by omega) (by omega)
  have mle:(mxE L (chSt cs most) (chSym cy) (mixMS L (chSt cs most) (chSym cy) i)).length≤(chSym cy):=by unfold mxE;split;exact Nat.zero_le _;rw [shares_len];exact Nat.le_refl _
  have m3s:(mixMS L (chSt cs most) (chSym cy) (i+1)).emit.length=i+1:=by show ((mixMS L (chSt cs most) (chSym cy) i).emit++[(mxE L (chSt cs most) (chSym cy) (mixMS L (chSt cs most) (chSym cy) i))]).length=_;rw [la9,m3];rfl
  have m5s:(mixMS L (chSt cs most) (chSym cy) (i+1)).sil.length=i+1:=by show ((mixMS L (chSt cs most) (chSym cy) i).sil++[(mxS L (mixMS L (chSt cs most) (chSym cy) i))]).length=_;rw [la9,m5];rfl
  refine AW.sg hE rfl (faP fd.Hidden_6 rfl rfl (ldPC ce.Ratss rfl rfl rfl (mvD rfl (lt1 (y:=dQs (mxE L (chSt cs most) (chSym cy) (mixMS L (chSt cs most) (chSym cy) i))) sl.Ratss (VC.d _).vd rfl (by decide) ?_))))
  refine apO sl.Ratss rfl rfl rfl (by rw [lm9];omega) (VC.d _) (fun y hy=>by rw [ms9 hy];rfl) (by simp only [ls9];omega) (by simp only [ls9];omega) (.inr rfl) (ys:=((mixMS L (chSt cs most) (chSym cy) (i+1)).emit.map dQs)) (by show _=List.map dQs (_++_);rw [List.map_append];rfl) (n2:=i+1) rfl fun q3 d3=>?_
  refine faP fd.Hidden_6 rfl rfl (sto sz.Ratss rfl rfl rfl rfl rfl (nb9 rfl) (cells2:=[_,_,_,_,_,_,_,_,_,_,_]) rfl (OL.nil (AW.sg hE rfl (mvD rfl (asD rfl (OL.nil ?_))))))
  refine AW.midK (α:=Unit) [(2,_),(6,_),(7,_),(8,_),(10,_)] [(6,_),(8,_),(95,_),(104,_),(109,_),(123,_),(164,_)] (fun _u=>[(15,.d (dI (mxT L (chSt cs most) (chSym cy) i (mixMS L (chSt cs most) (chSym cy) i)).1))]) (fun _u=>[(1000,tapeB b20 L (mxT L (chSt cs most) (chSym cy) i (mixMS L (chSt cs most) (chSym cy) i)).2)]) (fun _u=>True) (.cons (knD rfl) (.cons (knP rfl) (.cons (knP rfl) (.cons (knP rfl) (.cons (knD rfl) .nil))))) (.cons (owB rfl) (.cons (owB rfl) (.cons (owR rfl) (.cons (owR rfl) (.cons (owR rfl) (.cons (owR rfl) (.cons (owR rfl) .nil))))))) ?_ ?_
  ·refine AW.sg hE rfl (asD rfl (OL.nil (AW.block ?_)))
   refine AW.whileK (α:=Nat × Nat × Int) [(2,_),(6,_),(7,_),(8,_),(10,_),(11,_),(14,_)] [(6,_),(8,_),(95,_),(104,_),(109,_),(123,_),(164,_)] (fun (j,a,t)=>[(15,.d (dI t)),(16,.d (dI j))]) (fun (j,a,t)=>[(1000,tapeB b20 L a)]) (fun (j,a,t)=>j≤i∧tieX L ((mixMS L (chSt cs most) (chSym cy) i).emit++[(mxE L (chSt cs most) (chSym cy) (mixMS L (chSt cs most) (chSym cy) i))]) ((mixMS L (chSt cs most) (chSym cy) i).sil++[(mxS L (mixMS L (chSt cs most) (chSym cy) i))]) (mixMS L (chSt cs most) (chSym cy) i).ties (mxE L (chSt cs most) (chSym cy) (mixMS L (chSt cs most) (chSym cy) i)) (mxS L (mixMS L (chSt cs most) (chSym cy) i)) i (i-j) j a t=mxT L (chSt cs most) (chSym cy) i (mixMS L (chSt cs most) (chSym cy) i)) (fun (j,a,t)=>i-j) (0,mxA2 L (chSt cs most) (chSym cy) (mixMS L (chSt cs most) (chSym cy) i),(i:Int)) (.cons (knD rfl) (.cons (knP rfl) (.cons (knP rfl) (.cons (knP rfl) (.cons (knD rfl) (.cons (knD rfl) (.cons (knD rfl) .nil))))))) (.cons (owB rfl) (.cons (owB rfl) (.cons (owR rfl) (.cons (owR rfl) (.cons (owR rfl) (.cons (owR rfl) (.cons (owR rfl) .nil))))))) ⟨⟨Nat.zero_le _,rfl⟩,.rq2,.cons rfl .nil⟩ ?_
   rintro ⟨j,a,t⟩ ⟨h2,hr⟩
   refine AW.seq (AW.sg hE rfl (mvD rfl (mvD rfl (c_lss rfl rfl rfl (mvD rfl (OL.split 129 rfl (fun g129=>?_) (fun g129=>?_)))))))
   ·try simp only [dx9] at g129
    refine OL.yes rfl (mvP rfl (OL.yes rfl (OL.callM (v:=.d (dI (tnext L a 3))) (.mk (args':=[.ptr 1000 b20 0,.d (dI 3)]) rfl (.cons (VLe.ptr) (.cons vR (.nil))) (mem1_keep (id:=1000) (blk:=tapeB b20 L a) rfl) mem1_sub (tape_Next (by decide) nL)) (OL.yes rfl (c_eql rfl rfl rfl (pkT rfl rfl (OL.nil ?_)))))))
    refine AW.cond rfl (fun hn=>?_) (fun hn=>?_)
    ·have hn:tnext L a 3=0:=dt9 hn
     obtain ⟨fu,hf⟩:∃ fu,i-j=fu+1:=⟨i-j-1,by omega⟩
     rw [hf,tieX,if_pos hn] at hr
     rw [show fu=i-(j+1) by omega] at hr
     have hzj:=hok.rowE j (by omega)
     refine AW.skip (AW.seq (AW.block (AW.sg hE rfl (mvD rfl (nt rfl (mvD rfl (OL.split 138 rfl (fun ha=>?_) (fun ha=>?_))))))))
     ·have ha:(mxS L (mixMS L (chSt cs most) (chSym cy) i))=false:=by have e:(!(mxS L (mixMS L (chSt cs most) (chSym cy) i)))=true:=ha;simpa using e
      refine OL.yes rfl (faP fd.Hidden_7 rfl rfl (OL.yes rfl (ldPC ce.bools rfl rfl rfl (OL.yes rfl (mvD rfl (OL.yes rfl (ixOn sl.bools rfl rfl (by omega) ?_)))))))
      refine OL.yes rfl (ldEL ce.bool false (by decide) rfl rfl (show j<(mixMS L (chSt cs most) (chSym cy) (i+1)).sil.length by omega) rfl (OL.yes rfl (nt rfl (pkT rfl rfl (mvD rfl (OL.split 146 rfl (fun hb=>?_) (fun hb=>?_)))))))
      ·have hb:((mixMS L (chSt cs most) (chSym cy) i).sil++[(mxS L (mixMS L (chSt cs most) (chSym cy) i))]).getD j false=false:=by have e:(!(((mixMS L (chSt cs most) (chSym cy) i).sil++[(mxS L (mixMS L (chSt cs most) (chSym cy) i))]).getD j false))=true:=hb;simpa using e
       refine OL.yes rfl (faP fd.Hidden_6 rfl rfl (OL.yes rfl (ldPC ce.Ratss rfl rfl rfl (OL.yes rfl (mvD rfl (OL.yes rfl (ixOn sl.Ratss rfl rfl (by omega) ?_)))))))
       refine OL.yes rfl ?_
       have e3s:(mixMS L (chSt cs most) (chSym cy) (i+1)).emit.getD j []=(mixMS L (chSt cs most) (chSym cy) i).emit.getD j []:=getD_snoc_lt (by rw [show (mxF L (chSt cs most) (chSym cy) i (shA L ((chSt cs most)+1) 0)).emit.length=i from m3];omega)
       have lj:((mixMS L (chSt cs most) (chSym cy) i).emit.getD j []).length≤(chSym cy):=Nat.le_trans (Nat.le_of_eq hzj.1) (by split;exact Nat.zero_le _;exact Nat.le_refl _)
       refine ldEL ce.Rats [] (by decide) rfl rfl (show j<(mixMS L (chSt cs most) (chSym cy) (i+1)).emit.length by omega) rfl ?_
       rw [e3s]
       refine OL.yes rfl (mvD rfl (OL.yes rfl (clv rfl .rq2 (world_sameRats hzj.2.2.1 mze ⟨by decide,by decide,by omega⟩) (pkT rfl rfl (OL.nil (AW.cond rfl (fun he=>?_) (fun he=>?_)))))))
       ·have he:((mixMS L (chSt cs most) (chSym cy) i).emit++[(mxE L (chSt cs most) (chSym cy) (mixMS L (chSt cs most) (chSym cy) i))]).getD j []=(mxE L (chSt cs most) (chSym cy) (mixMS L (chSt cs most) (chSym cy) i)):=by rw [show ((mixMS L (chSt cs most) (chSym cy) i).emit++[(mxE L (chSt cs most) (chSym cy) (mixMS L (chSt cs most) (chSym cy) i))]).getD j []=(mixMS L (chSt cs most) (chSym cy) i).emit.getD j [] from e3s];exact dt9 he
        refine AW.rg hE rfl (faP fd.Hidden_8 rfl rfl (ldPC ce.ints rfl rfl rfl (mvD rfl (ixOn sl.ints rfl rfl (by omega) (ldEL ce.int 0 (by decide) rfl rfl (by omega) rfl (asD rfl (OL.nil ?_)))))))
        refine AW.rg hE rfl (mvD rfl (add_i64 rfl rfl (by omega) (asD rfl (OL.nil ?_))))
        exact AW.again (x:=(j,a,t)) (j+1,tat L a,(mixMS L (chSt cs most) (chSym cy) i).ties.getD j 0) (by (simp only [];omega)) ⟨⟨by omega,by rw [if_pos ⟨ha,hb,he⟩] at hr;exact hr⟩,Knows.app .rq7 .rq2,Owns.app (.cons rfl (.cons rfl (.cons rfl (.cons rfl (.cons rfl (.cons rfl (.cons rfl .nil))))))) (.cons rfl .nil)⟩
       ·have he:¬ ((mixMS L (chSt cs most) (chSym cy) i).emit++[(mxE L (chSt cs most) (chSym cy) (mixMS L (chSt cs most) (chSym cy) i))]).getD j []=(mxE L (chSt cs most) (chSym cy) (mixMS L (chSt cs most) (chSym cy) i)):=by rw [show ((mixMS L (chSt cs most) (chSym cy) i).emit++[(mxE L (chSt cs most) (chSym cy) (mixMS L (chSt cs most) (chSym cy) i))]).getD j []=(mixMS L (chSt cs most) (chSym cy) i).emit.getD j [] from e3s];exact df9 he
        refine AW.skip (AW.rg hE rfl (mvD rfl (add_i64 rfl rfl (by omega) (asD rfl (OL.nil ?_)))))
        exact AW.again (x:=(j,a,t)) (j+1,tat L a,t) (by (simp only [];omega)) ⟨⟨by omega,by rw [if_neg (fun c=>he c.2.2)] at hr;exact hr⟩,Knows.app .rq7 .rq2,Owns.app (.cons rfl (.cons rfl (.cons rfl (.cons rfl (.cons rfl (.cons rfl (.cons rfl .nil))))))) (.cons rfl .nil)⟩
      ·have hb:((mixMS L (chSt cs most) (chSym cy) i).sil++[(mxS L (mixMS L (chSt cs most) (chSym cy) i))]).getD j false=true:=by have e:(!(((mixMS L (chSt cs most) (chSym cy) i).sil++[(mxS L (mixMS L (chSt cs most) (chSym cy) i))]).getD j false))=false:=hb;simpa using e
       refine OL.nd rfl (OL.nd rfl (OL.nd rfl (OL.nd rfl (OL.nd rfl (OL.nd rfl (OL.nd rfl (pkF rfl rfl ?_)))))))
       refine OL.nil (cnF rfl ?_)
       refine AW.skip (AW.rg hE rfl (mvD rfl (add_i64 rfl rfl (by omega) (asD rfl (OL.nil ?_)))))
       exact AW.again (x:=(j,a,t)) (j+1,tat L a,t) (by (simp only [];omega)) ⟨⟨by omega,by rw [if_neg (fun c=>by rw [hb] at c;cases c.2.1)] at hr;exact hr⟩,Knows.app .rq7 .rq2,Owns.app (.cons rfl (.cons rfl (.cons rfl (.cons rfl (.cons rfl (.cons rfl (.cons rfl .nil))))))) (.cons rfl .nil)⟩
     ·have ha:(mxS L (mixMS L (chSt cs most) (chSym cy) i))=true:=by have e:(!(mxS L (mixMS L (chSt cs most) (chSym cy) i)))=false:=ha;simpa using e
      refine OL.nd rfl (OL.nd rfl (OL.nd rfl (OL.nd rfl (OL.nd rfl (OL.nd rfl (pkF rfl rfl (mvD rfl ?_)))))))
      refine OL.nd rfl (OL.nd rfl (OL.nd rfl (OL.nd rfl (OL.nd rfl (OL.nd rfl (OL.nd rfl (pkF rfl rfl ?_)))))))
      refine OL.nil (cnF rfl ?_)
      refine AW.skip (AW.rg hE rfl (mvD rfl (add_i64 rfl rfl (by omega) (asD rfl (OL.nil ?_)))))
      exact AW.again (x:=(j,a,t)) (j+1,tat L a,t) (by (simp only [];omega)) ⟨⟨by omega,by rw [if_neg (fun c=>by rw [ha] at c;cases c.1)] at hr;exact hr⟩,Knows.app .rq7 .rq2,Owns.app (.cons rfl (.cons rfl (.cons rfl (.cons rfl (.cons rfl (.cons rfl (.cons rfl .nil))))))) (.cons rfl .nil)⟩
    ·have hn:¬ tnext L a 3=0:=df9 hn
     refine AW.exit ?_
     obtain ⟨fu,hf⟩:∃ fu,i-j=fu+1:=⟨i-j-1,by omega⟩
     rw [hf,tieX,if_neg (show ¬ tnext L a 3=0 from hn)] at hr
     have hr1:t=(mxT L (chSt cs most) (chSym cy) i (mixMS L (chSt cs most) (chSym cy) i)).1:=congrArg Prod.fst hr
     have hr2:tat L a=(mxT L (chSt cs most) (chSym cy) i (mixMS L (chSt cs most) (chSym cy) i)).2:=congrArg Prod.snd hr
     exact AW.reach () ⟨trivial,Knows.app .rq5 (.cons (VLe.int hr1) .nil),Owns.app (.cons rfl (.cons rfl (.cons rfl (.cons rfl (.cons rfl (.cons rfl (.cons rfl .nil))))))) (.cons (by rw [← hr2];rfl) .nil)⟩
   ·try simp only [dx9] at g129
    refine OL.nd rfl (OL.nd rfl (OL.nd rfl (pkF rfl rfl (OL.nil (cnF rfl ?_)))))
    refine AW.exit ?_
    rw [show i-j=0 by omega,tieX] at hr
    have hr1:t=(mxT L (chSt cs most) (chSym cy) i (mixMS L (chSt cs most) (chSym cy) i)).1:=congrArg Prod.fst hr
    have hr2:a=(mxT L (chSt cs most) (chSym cy) i (mixMS L (chSt cs most) (chSym cy) i)).2:=congrArg Prod.snd hr
    exact AW.reach () ⟨trivial,Knows.app .rq5 (.cons (VLe.int hr1) .nil),Owns.app (.cons rfl (.cons rfl (.cons rfl (.cons rfl (.cons rfl (.cons rfl (.cons rfl .nil))))))) (.cons (by rw [← hr2];rfl) .nil)⟩
  rintro ⟨⟩ hφ
  refine AW.rg hE rfl (faP fd.Hidden_8 rfl rfl (ldPC ce.ints rfl rfl rfl (mvD rfl (lt1 (y:=dI (mxT L (chSt cs most) (chSym cy) i (mixMS L (chSt cs most) (chSym cy) i)).1) sl.ints (VC.d _).vd rfl (by decide) ?_))))
  refine apO sl.ints rfl rfl rfl (by rw [lm9];omega) (VC.d _) (fun y hy=>by rw [ms9 hy];rfl) (by simp only [ls9];omega) (by simp only [ls9];omega) (.inr rfl) (ys:=((mixMS L (chSt cs most) (chSym cy) (i+1)).ties.map dI)) (by show _=List.map dI (_++_);rw [List.map_append];rfl) (n2:=i+1) rfl fun q5 d5=>?_
  refine faP fd.Hidden_8 rfl rfl (sto sz.ints rfl rfl rfl rfl rfl (nb9 rfl) (cells2:=[_,_,_,_,_,_,_,_,_,_,_]) rfl (OL.nil (AW.rg hE rfl (mvD rfl (add_i64 rfl rfl (by omega) (asD rfl (OL.nil ?_)))))))
  exact AW.again (x:=(i,p1,c1,p2,c2,p3,c3,p4,c4,p5,c5)) (i+1,q1,d1,q2,d2,q3,d3,q4,d4,q5,d5) (by (simp only [];omega)) ⟨by omega,Knows.app .rq4 .rq1,Owns.app (.cons rfl .nil) (.cons rfl (.cons rfl (.cons rfl (.cons rfl (.cons rfl (.cons rfl (.cons rfl .nil)))))))⟩
 ·try simp only [dx9] at h50
  refine AW.exit (AW.seq ?_)
  obtain rfl:i=(chSt cs most):=by omega
  refine AW.rg hE rfl (ldPA ag.Hidden rfl rfl (vs:=[_,_,_,_,_,_,_,_,_,_,_]) rfl (nb9 rfl) (sto sz.Hidden rfl rfl rfl rfl rfl (nb9 rfl) (cells2:=[_,_,_,_,_,_,_,_,_,_,_]) rfl (OL.nil ?_)))
  exact AW.ret (RetQ.r ⟨_,.cellA rfl rfl ag.Hidden (nb9 rfl) .nil,.ag (.cons (.le vR) (.cons (.le vR) (.cons (.le vR) (.cons (.le vR) (.cons (.le vR) (.cons (.le vR) (.cons (RO.row rfl (by rw [lm9,m1]) rfl) (.cons (RO.row rfl (by rw [lm9,m2]) rfl) (.cons (RO.row rfl (by rw [lm9,m3]) rfl) (.cons (RO.row rfl (by rw [lm9,m5]) rfl) (.cons (RO.row rfl (by rw [lm9,m4]) rfl) .nil)))))))))))⟩)
theorem chain_Mixed {L:List Int}{cs cy most:Int}(hm:1≤most∧most≤12)(nL:L.length≤9223372036854775807):FSpec P F.world_Chain_Mixed [.ag [.d (dI cs),.d (dI cy),.d (ints L)],.d (dI most)] (vHM (mixHM L cs cy most)):=by
 refine FSpec.intro fn.world_Chain_Mixed (by rfl) (by rfl) (nb9 (by rfl)) fun E hE=>(AW.sg hE rfl (bxA rfl rfl fun b2=>(al z.Hidden rfl fun b4=>(OL.nil (AW.sg hE rfl (ldPA ag.Chain rfl rfl (vs:=[_,_,_]) rfl (nb9 rfl) (mvD rfl ?_)))))))
 refine clv rfl .rq3 (chain_mix hm nL) (sto sz.Hidden rfl rfl rfl rfl rfl (nb9 rfl) (cells2:=[_,_,_,_,_,_,_,_,_,_,_]) rfl (OL.nil ?_))
 exact AW.ret (RetQ.r ⟨_,.cellA rfl rfl ag.Hidden (nb9 rfl) .nil,.ag (.cons (.le vR) (.cons (.le vR) (.cons (.le vR) (.cons (.le vR) (.cons (.le vR) (.cons (.le vR) (.cons (.le vR) (.cons (.le vR) (.cons (.le vR) (.cons (.le vR) (.cons (.le vR) .nil)))))))))))⟩)
end Go.Proofs.YteiohkpjgcioaaaGreatDoor

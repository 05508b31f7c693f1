/-
  Walks of the models out of plain numbers, part 2 (printed by mk2.py).
-/
import Derived.Test.YtocehciipjhlkaaGreatDoorKWorld
import Derived.Test.YtocehciipjhlkaaGreatDoorKNumb
set_option linter.unusedVariables false
set_option linter.unusedSimpArgs false
namespace Go.Proofs.YtocehciipjhlkaaGreatDoor
open Go Go.AL
theorem world_sameRats {l m:List Rat}{B:Nat}(zl:Small B l)(zm:Small B m)(hB:1≤B∧B≤1048576∧l.length≤1099511627776):FSpec P F.world_sameRats [.d (dQs l),.d (dQs m)] (.d (dB (decide (l=m)))):=by
 refine FSpec.intro fn.world_sameRats (by rfl) (by rfl) (nb9 (by rfl)) fun E hE=>(AW.sg hE rfl (asD rfl (OL.nil (AW.seq (AW.sg hE rfl (mvD rfl (lnL sl.Rats rfl rfl ?_)))))))
 refine mvD rfl (lnL sl.Rats rfl rfl (c_neq rfl rfl rfl (OL.nil (AW.cond rfl (fun h10=>?_) (fun h10=>?_)))))
 ·have hl:l.length≠m.length:=by simp at h10;omega
  exact AW.sg hE rfl (asD rfl (OL.nil (AW.ret (RetQ.r ⟨_,.tmp rfl .nil,.le (VLe.bool ((decide_eq_false fun e=>hl (by rw [e])).symm))⟩))))
 ·have hl:l.length=m.length:=by simp at h10;omega
  refine AW.skip (AW.seq (AW.sg hE rfl (asD rfl (OL.nil (AW.block ?_)))))
  refine AW.whileK (α:=Nat) [(0,_),(1,_)] [] (fun i=>[(5,.d (dI i))]) (fun i=>[]) (fun i=>i≤l.length∧∀ j,j<i→l.getD j 0=m.getD j 0) (fun i=>l.length-i) 0 (.cons (knD rfl) (.cons (knD rfl) .nil)) .nil ⟨⟨Nat.zero_le _,fun j hj=>by omega⟩,.rq1,.nil⟩ ?_
  rintro i ⟨h1,h2⟩
  refine AW.seq (AW.sg hE rfl (mvD rfl (mvD rfl (lnL sl.Rats rfl rfl (c_lss rfl rfl rfl (OL.nil (AW.cond rfl (fun h14=>?_) (fun h14=>?_))))))))
  ·try simp only [dx9] at h14
   refine AW.skip (AW.seq (AW.block (AW.seq ?_)))
   have z1:=zl.get hB.1 i
   have z2:=zm.get hB.1 i
   refine AW.dg 1 [0,1,2,3,4,5,6,7,8,9] order_free hE rfl (by kernel_rfl) (OI.of_OL (os:=[_,_,_,_,_,_,_,_,_,_]) rfl ?_)
   refine mvD rfl (mvD rfl (ixLn sl.Rats 0 rfl rfl (by omega) rfl rfl (ldRA ag.Rat rfl (vs:=[_,_,_]) rfl (nb9 rfl) (mvD rfl (mvD rfl (ixLn sl.Rats 0 rfl rfl (by omega) rfl rfl (ldRA ag.Rat rfl (vs:=[_,_,_]) rfl (nb9 rfl) ?_)))))))
   refine clv rfl .rq2 (ref_CompareQ (by omega) (by omega)) (c_neq rfl rfl rfl (OL.nil (AW.cond rfl (fun hc=>?_) (fun hc=>?_))))
   ·have hc:l.getD i 0≠m.getD i 0:=fun e=>by rw [cmpQ_eq.2 e] at hc;simp at hc
    exact AW.sg hE rfl (asD rfl (OL.nil (AW.ret (RetQ.r ⟨_,.tmp rfl .nil,.le (VLe.bool ((decide_eq_false fun e=>hc (by rw [e])).symm))⟩))))
   ·have hc:l.getD i 0=m.getD i 0:=cmpQ_eq.1 (by simpa using hc)
    exact AW.skip (AW.rg hE rfl (mvD rfl (add_i64 rfl rfl (by omega) (asD rfl (OL.nil (AW.again (x:=i) (i+1) (by omega) ⟨⟨by omega,fun j hj=>by rcases Nat.lt_or_ge j i with h|h;exact h2 j h;obtain rfl:j=i:=(by omega);exact hc⟩,Knows.app .rq2 .rq1,.nil⟩))))))
  ·try simp only [dx9] at h14
   exact AW.exit (AW.sg hE rfl (asD rfl (OL.nil (AW.ret (RetQ.r ⟨_,.tmp rfl .nil,.le (VLe.bool ((decide_eq_true (list_eq_getD hl 0 fun j hj=>h2 j (by omega))).symm))⟩)))))
theorem chain_made {L:List Int}{cs cy most:Int}(hm:1≤most∧most≤12)(nL:L.length≤9223372036854775807):FSpec P F.world_Chain_made [.ag [.d (dI cs),.d (dI cy),.d (ints L)],.d (dI most),.d (dB false)] (vHM (chainHM L cs cy most)):=by
 have s0:=chSt_range (cs:=cs) hm
 have y0:=chSym_range cy
 refine FSpec.intro fn.world_Chain_made (by rfl) (by rfl) (nb9 (by rfl)) fun E hE=>(AW.sg hE rfl (bxA rfl rfl fun b3=>(al z.Hidden rfl fun b6=>(OL.nil (AW.sg hE rfl (faP fd.Chain_2 rfl rfl (ldPC ce.ints rfl rfl rfl ?_)))))))
 refine bd z.Tape pl.Tape (cs:=[_,_]) rfl (bxA rfl rfl fun b20=>(asP rfl (OL.nil (AW.seq (AW.rename 20 1000 rfl (AW.dg 1 [0,1,2,3,4,5,6,7,8,9,10,11] order_free hE rfl (by kernel_rfl) (OI.of_OL (os:=[_,_,_,_,_,_,_,_,_,_,_,_]) rfl ?_)))))))
 refine faP fd.Chain_0 rfl rfl (ldPC ce.int rfl rfl rfl (mvD rfl (clv rfl .rq2 (world_Within (by omega)) (bo rfl rfl (bin_add (c:=((chSt cs most:Nat):Int)) (by omega) (wrap_i64 (by omega))) (faP fd.Chain_1 rfl rfl (ldPC ce.int rfl rfl rfl (clv rfl .rq2 (world_Within (by omega)) ?_)))))))
 refine bo rfl rfl (bin_add (c:=((chSym cy:Nat):Int)) (by omega) (wrap_i64 (by omega))) (bd z.Hidden pl.Hidden (cs:=[_,_,_,_,_,_,_,_,_,_,_]) rfl (al z.Hidden rfl fun b8=>(sto sz.Hidden rfl rfl rfl rfl rfl (nb9 rfl) (cells2:=[_,_,_,_,_,_,_,_,_,_,_]) rfl (OL.nil (AW.sg hE rfl (mvP rfl (faP fd.Hidden_1 rfl rfl ?_)))))))
 refine ldPC ce.int rfl rfl rfl (bo rfl rfl (bin_add (c:=((chSt cs most+1:Nat):Int)) (by omega) (wrap_i64 (by omega))) ?_)
 refine OL.callM (v:=.d (dQs (chFirst L (chSt cs most)))) (.mk (args':=[.ptr 1000 b20 0,.d (dI (((chSt cs most)+1:Nat)))]) rfl (.cons (VLe.ptr) (.cons vR (.nil))) (mem1_keep (id:=1000) (blk:=tapeB b20 L 0) rfl) mem1_sub (world_Shares ⟨by omega,by omega⟩ nL)) ?_
 have hfl:(chFirst L (chSt cs most)).length=(chSt cs most)+1:=shares_len ..
 refine asD rfl (OL.nil (AW.seq (AW.dg 1 [0,1,2,3,4,5,6,7,8,9,10,11,12] order_free hE rfl (by kernel_rfl) (OI.of_OL (os:=[_,_,_,_,_,_,_,_,_,_,_,_,_]) rfl ?_))))
 refine mvD rfl (faP fd.Hidden_1 rfl rfl (ldPC ce.int rfl rfl rfl (ixLn sl.Rats 0 rfl rfl (by omega) rfl rfl (ldRA ag.Rat rfl (vs:=[_,_,_]) rfl (nb9 rfl) (mvD rfl (faP fd.Hidden_1 rfl rfl (ldPC ce.int rfl rfl rfl ?_)))))))
 refine slTo sl.Rats rfl rfl (fun _=>rfl) (by omega) (l2:=(chFirst L (chSt cs most)).take (chSt cs most)) (by rw [Int.toNat_natCast]) (faP fd.Hidden_2 rfl rfl (sto sz.Rat rfl rfl rfl rfl rfl (nb9 rfl) (cells2:=[_,_,_,_,_,_,_,_,_,_,_]) rfl (faP fd.Hidden_3 rfl rfl (sto sz.Rats rfl rfl rfl rfl rfl (nb9 rfl) (cells2:=[_,_,_,_,_,_,_,_,_,_,_]) rfl (OL.nil (AW.seq (AW.sg hE rfl ?_)))))))
 refine asD rfl (OL.nil ?_)
 refine AW.boxW 8 [.d (dI (chSym cy)),.d (dI (chSt cs most)),.d (dB (ofQ ((chFirst L (chSt cs most)).getD (chSt cs most) 0)).neg),.d (u32s (ofQ ((chFirst L (chSt cs most)).getD (chSt cs most) 0)).num),.d (u32s (ofQ ((chFirst L (chSt cs most)).getD (chSt cs most) 0)).den),.d (dQs ((chFirst L (chSt cs most)).take (chSt cs most))),.osl 95 0 0 0,.osl 104 0 0 0,.osl 123 0 0 0,.osl 109 0 0 0,.osl 164 0 0 0] rfl (.cons vR (.cons vR (.cons vR (.cons vR (.cons vR (.cons vR (.cons VLe.mtO (.cons VLe.mtO (.cons VLe.mtO (.cons VLe.mtO (.cons VLe.mtO .nil))))))))))) ?_
 refine AW.row0 95 T.Rats 1 rfl (AW.row0 104 T.Rat 3 rfl (AW.row0 123 T.Rats 1 rfl (AW.row0 109 T.bool 1 rfl (AW.row0 164 T.int 1 rfl (AW.block ?_)))))
 refine AW.whileK (α:=Nat × Nat × Nat × Nat × Nat × Nat × Nat × Nat × Nat × Nat × Nat) [(2,_),(6,_),(7,_),(8,_)] [(6,_)] (fun (i,p1,c1,p2,c2,p3,c3,p4,c4,p5,c5)=>[(10,.d (dI i))]) (fun (i,p1,c1,p2,c2,p3,c3,p4,c4,p5,c5)=>[(8,.box b8 T.Hidden [.d (dI (chSym cy)),.d (dI (chSt cs most)),.d (dB (ofQ ((chFirst L (chSt cs most)).getD (chSt cs most) 0)).neg),.d (u32s (ofQ ((chFirst L (chSt cs most)).getD (chSt cs most) 0)).num),.d (u32s (ofQ ((chFirst L (chSt cs most)).getD (chSt cs most) 0)).den),.d (dQs ((chFirst L (chSt cs most)).take (chSt cs most))),.osl 95 p1 i c1,.osl 104 p2 i c2,.osl 123 p3 i c3,.osl 109 p4 i c4,.osl 164 p5 i c5]),(95,.row p1 c1 T.Rats 1 ((chMS L (chSt cs most) (chSym cy) i).trans.map dQs)),(104,.row p2 c2 T.Rat 3 ((chMS L (chSt cs most) (chSym cy) i).stop.map dQ)),(123,.row p3 c3 T.Rats 1 ((chMS L (chSt cs most) (chSym cy) i).emit.map dQs)),(109,.row p4 c4 T.bool 1 ((List.replicate i false).map dB)),(164,.row p5 c5 T.int 1 ((chMS L (chSt cs most) (chSym cy) i).ties.map dI)),(1000,tapeB b20 L (chMS L (chSt cs most) (chSym cy) i).a)]) (fun (i,p1,c1,p2,c2,p3,c3,p4,c4,p5,c5)=>i≤(chSt cs most)) (fun (i,p1,c1,p2,c2,p3,c3,p4,c4,p5,c5)=>(chSt cs most)-i) (0,0,0,0,0,0,0,0,0,0,0) (.cons (knD rfl) (.cons (knP rfl) (.cons (knP rfl) (.cons (knP rfl) .nil)))) (.cons (owB rfl) .nil) ⟨Nat.zero_le _,.rq1,.cons rfl (.cons rfl (.cons rfl (.cons rfl (.cons rfl (.cons rfl (.cons rfl .nil))))))⟩ ?_
 rintro ⟨i,p1,c1,p2,c2,p3,c3,p4,c4,p5,c5⟩ h1
 have h1:i≤chSt cs most:=h1
 have hok:=madeF_ok (L:=L) (st:=chSt cs most) (sym:=chSym cy) ⟨s0.1,by omega⟩ ⟨y0.1,by omega⟩ (shA_le (chSt cs most+1) (Nat.zero_le _)) i
 have m1:(chMS L (chSt cs most) (chSym cy) i).trans.length=i:=hok.lt
 have m2:(chMS L (chSt cs most) (chSym cy) i).stop.length=i:=hok.ls
 have m3:(chMS L (chSt cs most) (chSym cy) i).emit.length=i:=hok.le
 have m4:(chMS L (chSt cs most) (chSym cy) i).ties.length=i:=hok.ll
 have m3s:(chMS L (chSt cs most) (chSym cy) (i+1)).emit.length=i+1:=(madeF_ok (L:=L) (st:=chSt cs most) (sym:=chSym cy) ⟨s0.1,by omega⟩ ⟨y0.1,by omega⟩ (shA_le (chSt cs most+1) (Nat.zero_le _)) (i+1)).le
 have e3s:∀ j,j<i→(chMS L (chSt cs most) (chSym cy) (i+1)).emit.getD j []=(chMS L (chSt cs most) (chSym cy) i).emit.getD j []:=fun j hj=>getD_snoc_lt (by rw [show (madeF L (chSt cs most) (chSym cy) i (shA L (chSt cs most+1) 0)).emit.length=i from m3];exact hj)
 have ml:(msL L (chSt cs most) (chMS L (chSt cs most) (chSym cy) i)).length=chSt cs most+1:=shares_len ..
 have me:(msE L (chSt cs most) (chSym cy) (chMS L (chSt cs most) (chSym cy) i)).length=chSym cy:=shares_len ..
 have mz:Small 1 (msE L (chSt cs most) (chSym cy) (chMS L (chSt cs most) (chSym cy) i)):=shares_small _ _ _ (by omega) (by omega)
 refine AW.seq (AW.sg hE rfl (mvD rfl (faP fd.Hidden_1 rfl rfl (ldPC ce.int rfl rfl rfl (c_lss rfl rfl rfl (OL.nil (AW.cond rfl (fun h50=>?_) (fun h50=>?_))))))))
 ·try simp only [dx9] at h50
  refine AW.skip (AW.seq (AW.block (AW.sg hE rfl (mvD rfl (mvD rfl (OL.nd rfl (OL.nd rfl ?_)))))))
  refine OL.nd rfl (pkF rfl rfl (asD rfl (OL.nil (AW.sg hE rfl (mvP rfl (faP fd.Hidden_1 rfl rfl (ldPC ce.int rfl rfl rfl ?_)))))))
  refine bo rfl rfl (bin_add (c:=((chSt cs most+1:Nat):Int)) (by omega) (wrap_i64 (by omega))) ?_
  refine OL.callM (v:=.d (dQs (msL L (chSt cs most) (chMS L (chSt cs most) (chSym cy) i)))) (.mk (args':=[.ptr 1000 b20 0,.d (dI (((chSt cs most)+1:Nat)))]) rfl (.cons (VLe.ptr) (.cons vR (.nil))) (mem1_keep (id:=1000) (blk:=tapeB b20 L (chMS L (chSt cs most) (chSym cy) i).a) rfl) mem1_sub (world_Shares ⟨by omega,by omega⟩ nL)) ?_
  refine asD rfl (OL.nil (AW.seq (AW.sg hE rfl (mvD rfl (OL.nil (cnF rfl ?_))))))
  refine AW.skip (AW.seq (AW.dg 2 [0,1,2,3,4,5,6,8,9,10,11,12,13,14,15,17,18,19,20,7,22,16,21,23,24,25,26,27] order_free hE rfl (by kernel_rfl) (OI.of_OL (os:=[_,_,_,_,_,_,_,_,_,_,_,_,_,_,_,_,_,_,_,_,_,_,_,_,_,_,_,_]) rfl ?_)))
  refine faP fd.Hidden_4 rfl rfl (ldPC ce.Ratss rfl rfl rfl (mvD rfl (faP fd.Hidden_1 rfl rfl (ldPC ce.int rfl rfl rfl (slTo sl.Rats rfl rfl (fun _=>rfl) (by omega) (l2:=(msL L (chSt cs most) (chMS L (chSt cs most) (chSym cy) i)).take (chSt cs most)) (by rw [Int.toNat_natCast]) (lt1 sl.Ratss (VC.d _).vd rfl (by decide) (faP fd.Hidden_5 rfl rfl ?_)))))))
  refine ldPC ce.Rats rfl rfl rfl (mvD rfl (faP fd.Hidden_1 rfl rfl (ldPC ce.int rfl rfl rfl (ixLn sl.Rats 0 rfl rfl (by omega) rfl rfl (ldRA ag.Rat rfl (vs:=[_,_,_]) rfl (nb9 rfl) (lt1 (y:=dQ _) sl.Rats vd_q rfl (by decide) (faP fd.Hidden_7 rfl rfl ?_)))))))
  refine ldPC ce.bools rfl rfl rfl (mvD rfl (lt1 sl.bools (VC.d _).vd rfl (by decide) ?_))
  refine apO sl.Ratss rfl rfl rfl (by (simp only [lm9];omega)) (VC.d _) (by simp [D.cells]) (by simp;omega) (by simp;omega) (.inr rfl) (ys:=((chMS L (chSt cs most) (chSym cy) (i+1)).trans.map dQs)) (by show _=List.map dQs (_++_);rw [List.map_append];rfl) (n2:=i+1) (by simp) fun q1 d1=>?_
  refine faP fd.Hidden_4 rfl rfl ?_
  refine apO sl.Rats rfl rfl rfl (by (simp only [lm9];omega)) (VC.d _) (by simp [D.cells]) (by simp;omega) (by simp;omega) (.inr rfl) (ys:=((chMS L (chSt cs most) (chSym cy) (i+1)).stop.map dQ)) (by show _=List.map dQ (_++_);rw [List.map_append];rfl) (n2:=i+1) (by simp) fun q2 d2=>?_
  refine apO sl.bools rfl rfl rfl (by (simp only [lm9,List.length_replicate];done)) (VC.d _) (by simp [D.cells]) (by simp;omega) (by simp;omega) (.inr rfl) (ys:=((List.replicate (i+1) false).map dB)) (by rw [List.replicate_succ',List.map_append];rfl) (n2:=i+1) (by simp) fun q4 d4=>?_
  refine sto sz.Ratss rfl rfl rfl rfl rfl (nb9 rfl) (cells2:=[_,_,_,_,_,_,_,_,_,_,_]) rfl (faP fd.Hidden_5 rfl rfl (sto sz.Rats rfl rfl rfl rfl rfl (nb9 rfl) (cells2:=[_,_,_,_,_,_,_,_,_,_,_]) rfl (faP fd.Hidden_7 rfl rfl (sto sz.bools rfl rfl rfl rfl rfl (nb9 rfl) (cells2:=[_,_,_,_,_,_,_,_,_,_,_]) rfl (OL.nil (AW.sg hE rfl (asM rfl ?_)))))))
  refine OL.nil (AW.seq (AW.sg hE rfl (mvD rfl (nt rfl (OL.nil (cnT rfl ?_))))))
  refine AW.rg hE rfl (mvP rfl (faP fd.Hidden_0 rfl rfl (ldPC ce.int rfl rfl rfl ?_)))
  refine OL.callM (v:=.d (dQs (msE L (chSt cs most) (chSym cy) (chMS L (chSt cs most) (chSym cy) i)))) (.mk (args':=[.ptr 1000 b20 0,.d (dI (chSym cy))]) rfl (.cons (VLe.ptr) (.cons vR (.nil))) (mem1_keep (id:=1000) (blk:=tapeB b20 L (shA L ((chSt cs most)+1) (chMS L (chSt cs most) (chSym cy) i).a)) rfl) mem1_sub (world_Shares ⟨by omega,by omega⟩ nL)) ?_
  refine asD rfl (OL.nil (AW.sg hE rfl (faP fd.Hidden_6 rfl rfl (ldPC ce.Ratss rfl rfl rfl (mvD rfl (lt1 sl.Ratss (VC.d _).vd rfl (by decide) ?_))))))
  refine apO sl.Ratss rfl rfl rfl (by (simp only [lm9];omega)) (VC.d _) (by simp [D.cells]) (by simp;omega) (by simp;omega) (.inr rfl) (ys:=((chMS L (chSt cs most) (chSym cy) (i+1)).emit.map dQs)) (by show _=List.map dQs (_++_);rw [List.map_append];rfl) (n2:=i+1) (by simp) fun q3 d3=>?_
  refine faP fd.Hidden_6 rfl rfl (sto sz.Ratss rfl rfl rfl rfl rfl (nb9 rfl) (cells2:=[_,_,_,_,_,_,_,_,_,_,_]) rfl (OL.nil (AW.sg hE rfl (mvD rfl (asD rfl (OL.nil ?_))))))
  refine AW.midK (α:=Unit) [(2,_),(6,_),(7,_),(8,_),(10,_)] [(6,_),(8,_),(95,_),(104,_),(109,_),(123,_),(164,_)] (fun _u=>[(15,.d (dI (msT L (chSt cs most) (chSym cy) i (chMS L (chSt cs most) (chSym cy) i)).1))]) (fun _u=>[(1000,tapeB b20 L (msT L (chSt cs most) (chSym cy) i (chMS L (chSt cs most) (chSym cy) i)).2)]) (fun _u=>True) (.cons (knD rfl) (.cons (knP rfl) (.cons (knP rfl) (.cons (knP rfl) (.cons (knD rfl) .nil))))) (.cons (owB rfl) (.cons (owB rfl) (.cons (owR rfl) (.cons (owR rfl) (.cons (owR rfl) (.cons (owR rfl) (.cons (owR rfl) .nil))))))) ?_ ?_
  ·refine AW.sg hE rfl (asD rfl (OL.nil (AW.block ?_)))
   refine AW.whileK (α:=Nat × Nat × Int) [(2,_),(6,_),(7,_),(8,_),(10,_),(11,_),(14,_)] [(6,_),(8,_),(95,_),(104,_),(109,_),(123,_),(164,_)] (fun (j,a,t)=>[(15,.d (dI t)),(16,.d (dI j))]) (fun (j,a,t)=>[(1000,tapeB b20 L a)]) (fun (j,a,t)=>j≤i∧tieF L (chMS L (chSt cs most) (chSym cy) i).emit (chMS L (chSt cs most) (chSym cy) i).ties (msE L (chSt cs most) (chSym cy) (chMS L (chSt cs most) (chSym cy) i)) i (i-j) j a t=msT L (chSt cs most) (chSym cy) i (chMS L (chSt cs most) (chSym cy) i)) (fun (j,a,t)=>i-j) (0,msA L (chSt cs most) (chSym cy) (chMS L (chSt cs most) (chSym cy) i),(i:Int)) (.cons (knD rfl) (.cons (knP rfl) (.cons (knP rfl) (.cons (knP rfl) (.cons (knD rfl) (.cons (knD rfl) (.cons (knD rfl) .nil))))))) (.cons (owB rfl) (.cons (owB rfl) (.cons (owR rfl) (.cons (owR rfl) (.cons (owR rfl) (.cons (owR rfl) (.cons (owR rfl) .nil))))))) ⟨⟨Nat.zero_le _,rfl⟩,.rq2,.cons rfl .nil⟩ ?_
   rintro ⟨j,a,t⟩ ⟨h2,hr⟩
   refine AW.seq (AW.sg hE rfl (mvD rfl (mvD rfl (c_lss rfl rfl rfl (mvD rfl (OL.split 129 rfl (fun g129=>?_) (fun g129=>?_)))))))
   ·try simp only [dx9] at g129
    refine OL.yes rfl (mvP rfl (OL.yes rfl (OL.callM (v:=.d (dI (tnext L a 3))) (.mk (args':=[.ptr 1000 b20 0,.d (dI 3)]) rfl (.cons (VLe.ptr) (.cons vR (.nil))) (mem1_keep (id:=1000) (blk:=tapeB b20 L a) rfl) mem1_sub (tape_Next (by decide) nL)) (OL.yes rfl (c_eql rfl rfl rfl (pkT rfl rfl (OL.nil ?_)))))))
    refine AW.cond rfl (fun hn=>?_) (fun hn=>?_)
    ·have hn:tnext L a 3=0:=dt9 hn
     obtain ⟨f,hf⟩:∃ f,i-j=f+1:=⟨i-j-1,by omega⟩
     rw [hf,tieF,if_pos hn] at hr
     rw [show f=i-(j+1) by omega] at hr
     have hzj:=hok.rowE j (by omega)
     have zj:Small 1 ((chMS L (chSt cs most) (chSym cy) i).emit.getD j []):=hzj.2.2.1
     have lj:((chMS L (chSt cs most) (chSym cy) i).emit.getD j []).length=chSym cy:=hzj.1
     refine AW.skip (AW.seq (AW.block (AW.sg hE rfl (mvD rfl (nt rfl (mvD rfl (OL.yes rfl ?_)))))))
     refine faP fd.Hidden_7 rfl rfl (OL.yes rfl (ldPC ce.bools rfl rfl rfl (OL.yes rfl (mvD rfl (OL.yes rfl (ixOn sl.bools rfl rfl (by omega) (OL.yes rfl ?_)))))))
     refine ldEL ce.bool false (by decide) rfl rfl (by rw [List.length_replicate];omega) rfl ?_
     rw [replicate_getD]
     refine OL.yes rfl (nt rfl (pkT rfl rfl (mvD rfl (OL.yes rfl (faP fd.Hidden_6 rfl rfl (OL.yes rfl (ldPC ce.Ratss rfl rfl rfl ?_)))))))
     refine OL.yes rfl (mvD rfl (OL.yes rfl (ixOn sl.Ratss rfl rfl (by omega) (OL.yes rfl (ldEL ce.Rats [] (by decide) rfl rfl (by omega) rfl ?_)))))
     rw [e3s j (by omega)]
     refine OL.yes rfl (mvD rfl (OL.yes rfl (clv rfl .rq2 (world_sameRats zj mz ⟨by decide,by decide,by omega⟩) (pkT rfl rfl (OL.nil (AW.cond rfl (fun he=>?_) (fun he=>?_)))))))
     ·have he:=dt9 he
      refine AW.rg hE rfl (faP fd.Hidden_8 rfl rfl (ldPC ce.ints rfl rfl rfl (mvD rfl (ixOn sl.ints rfl rfl (by omega) (ldEL ce.int 0 (by decide) rfl rfl (by omega) rfl (asD rfl (OL.nil ?_)))))))
      refine AW.rg hE rfl (mvD rfl (add_i64 rfl rfl (by omega) (asD rfl (OL.nil ?_))))
      exact AW.again (x:=(j,a,t)) (j+1,tat L a,(chMS L (chSt cs most) (chSym cy) i).ties.getD j 0) (by (simp only [];omega)) ⟨⟨by omega,by rw [if_pos he] at hr;exact hr⟩,Knows.app .rq7 .rq2,Owns.app (.cons rfl (.cons rfl (.cons rfl (.cons rfl (.cons rfl (.cons rfl (.cons rfl .nil))))))) (.cons rfl .nil)⟩
     ·have he:=df9 he
      refine AW.skip (AW.rg hE rfl (mvD rfl (add_i64 rfl rfl (by omega) (asD rfl (OL.nil ?_)))))
      exact AW.again (x:=(j,a,t)) (j+1,tat L a,t) (by (simp only [];omega)) ⟨⟨by omega,by rw [if_neg he] at hr;exact hr⟩,Knows.app .rq7 .rq2,Owns.app (.cons rfl (.cons rfl (.cons rfl (.cons rfl (.cons rfl (.cons rfl (.cons rfl .nil))))))) (.cons rfl .nil)⟩
    ·have hn:¬ tnext L a 3=0:=df9 hn
     refine AW.exit ?_
     obtain ⟨f,hf⟩:∃ f,i-j=f+1:=⟨i-j-1,by omega⟩
     rw [hf,tieF,if_neg (show ¬ tnext L a 3=0 from hn)] at hr
     have hr1:t=(msT L (chSt cs most) (chSym cy) i (chMS L (chSt cs most) (chSym cy) i)).1:=congrArg Prod.fst hr
     have hr2:tat L a=(msT L (chSt cs most) (chSym cy) i (chMS L (chSt cs most) (chSym cy) i)).2:=congrArg Prod.snd hr
     exact AW.reach () ⟨trivial,Knows.app .rq5 (.cons (VLe.int hr1) .nil),Owns.app (.cons rfl (.cons rfl (.cons rfl (.cons rfl (.cons rfl (.cons rfl (.cons rfl .nil))))))) (.cons (by rw [← hr2];rfl) .nil)⟩
   ·try simp only [dx9] at g129
    refine OL.nd rfl (OL.nd rfl (OL.nd rfl (pkF rfl rfl (OL.nil (cnF rfl ?_)))))
    refine AW.exit ?_
    rw [show i-j=0 by omega,tieF] at hr
    have hr1:t=(msT L (chSt cs most) (chSym cy) i (chMS L (chSt cs most) (chSym cy) i)).1:=congrArg Prod.fst hr
    have hr2:a=(msT L (chSt cs most) (chSym cy) i (chMS L (chSt cs most) (chSym cy) i)).2:=congrArg Prod.snd hr
    exact AW.reach () ⟨trivial,Knows.app .rq5 (.cons (VLe.int hr1) .nil),Owns.app (.cons rfl (.cons rfl (.cons rfl (.cons rfl (.cons rfl (.cons rfl (.cons rfl .nil))))))) (.cons (by rw [← hr2];rfl) .nil)⟩
  rintro ⟨⟩ hφ
  refine AW.rg hE rfl (faP fd.Hidden_8 rfl rfl (ldPC ce.ints rfl rfl rfl (mvD rfl (lt1 sl.ints (VC.d _).vd rfl (by decide) ?_))))
  refine apO sl.ints rfl rfl rfl (by (simp only [lm9];omega)) (VC.d _) (by simp [D.cells]) (by simp;omega) (by simp;omega) (.inr rfl) (ys:=((chMS L (chSt cs most) (chSym cy) (i+1)).ties.map dI)) (by show _=List.map dI (_++_);rw [List.map_append];rfl) (n2:=i+1) (by simp) fun q5 d5=>?_
  refine faP fd.Hidden_8 rfl rfl (sto sz.ints rfl rfl rfl rfl rfl (nb9 rfl) (cells2:=[_,_,_,_,_,_,_,_,_,_,_]) rfl (OL.nil (AW.rg hE rfl (mvD rfl (add_i64 rfl rfl (by omega) (asD rfl (OL.nil ?_)))))))
  exact AW.again (x:=(i,p1,c1,p2,c2,p3,c3,p4,c4,p5,c5)) (i+1,q1,d1,q2,d2,q3,d3,q4,d4,q5,d5) (by (simp only [];omega)) ⟨by omega,Knows.app .rq4 .rq1,Owns.app (.cons rfl .nil) (.cons rfl (.cons rfl (.cons rfl (.cons rfl (.cons rfl (.cons rfl (.cons rfl .nil)))))))⟩
 ·try simp only [dx9] at h50
  refine AW.exit (AW.seq ?_)
  obtain rfl:i=(chSt cs most):=by omega
  refine AW.rg hE rfl (ldPA ag.Hidden rfl rfl (vs:=[_,_,_,_,_,_,_,_,_,_,_]) rfl (nb9 rfl) (sto sz.Hidden rfl rfl rfl rfl rfl (nb9 rfl) (cells2:=[_,_,_,_,_,_,_,_,_,_,_]) rfl (OL.nil ?_)))
  exact AW.ret (RetQ.r ⟨_,.cellA rfl rfl ag.Hidden (nb9 rfl) .nil,.ag (.cons (.le vR) (.cons (.le vR) (.cons (.le vR) (.cons (.le vR) (.cons (.le vR) (.cons (.le vR) (.cons (RO.row rfl (by rw [lm9,m1]) rfl) (.cons (RO.row rfl (by rw [lm9,m2]) rfl) (.cons (RO.row rfl (by rw [lm9,m3]) rfl) (.cons (RO.row rfl (by rw [lm9,List.length_replicate]) rfl) (.cons (RO.row rfl (by rw [lm9,m4]) rfl) .nil)))))))))))⟩)
theorem chain_Hidden {L:List Int}{cs cy most:Int}(hm:1≤most∧most≤12)(nL:L.length≤9223372036854775807):FSpec P F.world_Chain_Hidden [.ag [.d (dI cs),.d (dI cy),.d (ints L)],.d (dI most)] (vHM (chainHM L cs cy most)):=by
 refine FSpec.intro fn.world_Chain_Hidden (by rfl) (by rfl) (nb9 (by rfl)) fun E hE=>(AW.sg hE rfl (bxA rfl rfl fun b2=>(al z.Hidden rfl fun b4=>(OL.nil (AW.sg hE rfl (ldPA ag.Chain rfl rfl (vs:=[_,_,_]) rfl (nb9 rfl) (mvD rfl ?_)))))))
 refine clv rfl .rq3 (chain_made hm nL) (sto sz.Hidden rfl rfl rfl rfl rfl (nb9 rfl) (cells2:=[_,_,_,_,_,_,_,_,_,_,_]) rfl (OL.nil ?_))
 exact AW.ret (RetQ.r ⟨_,.cellA rfl rfl ag.Hidden (nb9 rfl) .nil,.ag (.cons (.le vR) (.cons (.le vR) (.cons (.le vR) (.cons (.le vR) (.cons (.le vR) (.cons (.le vR) (.cons (.le vR) (.cons (.le vR) (.cons (.le vR) (.cons (.le vR) (.cons (.le vR) .nil)))))))))))⟩)
end Go.Proofs.YtocehciipjhlkaaGreatDoor

/-
  Walks of package hmm: silent states are passed through (printed by mk2.py).
-/
import Derived.Test.YteiohkpjgcioaaaGreatDoorKHxA
import Derived.Test.YteiohkpjgcioaaaGreatDoorKHoA
set_option linter.unusedVariables false
set_option linter.unusedSimpArgs false
namespace Go.Proofs.YteiohkpjgcioaaaGreatDoor
open Go Go.AL
theorem vd_q0X:VD (.ag [.d (dB false),.mt,.mt]) (dQ 0):=VD.ag vcs_q0
abbrev dNs (l:List Nat):D:=.sl (l.map fun k:Nat=>dI (k:Int))
def thM (h:HM)(i:Nat)(l:List Rat)(p:Rat)(j:Nat):List Rat:=(List.range h.st).map fun q=>if q<j then thP h i l p q else l.getD q 0
theorem thM_len {h:HM}{i j:Nat}{l:List Rat}{p:Rat}:(thM h i l p j).length=h.st:=by simp [thM]
theorem thM_get {h:HM}{i j q:Nat}{l:List Rat}{p:Rat}(hq:q<h.st):(thM h i l p j).getD q 0=if q<j then thP h i l p q else l.getD q 0:=map_getD_range _ _ hq
theorem thM_zero {h:HM}{i:Nat}{l:List Rat}{p:Rat}(hl:l.length=h.st):thM h i l p 0=l:=by
 refine list_eq_getD (thM_len.trans hl.symm) 0 fun q hq=>?_
 rw [thM_len] at hq
 rw [thM_get hq,if_neg (by omega)]
theorem thM_set {h:HM}{i j:Nat}{l:List Rat}{p:Rat}(hj:j<h.st):(thM h i l p j).set j (l.getD j 0+p*trQ h i j)=thM h i l p (j+1):=by
 refine list_eq_getD (by rw [List.length_set,thM_len,thM_len]) 0 fun q hq=>?_
 rw [List.length_set,thM_len] at hq
 rw [set_getD (by rw [thM_len];exact hj),thM_get hq,thM_get hq]
 by_cases e:q=j
 ·subst e;rw [if_pos rfl,if_pos (by omega)];rfl
 ·rw [if_neg e]
  by_cases c:q<j
  ·rw [if_pos c,if_pos (by omega)]
  ·rw [if_neg c,if_neg (by omega)]
theorem thM_all {h:HM}{i:Nat}{l:List Rat}{p:Rat}:thM h i l p h.st=(List.range h.st).map (thP h i l p):=by
 unfold thM
 exact List.map_congr_left fun q hq=>if_pos (List.mem_range.1 hq)
theorem thR_take {h:HM}{O:List Nat}{x:List Rat × Rat}{n:Nat}(hn:n<O.length):thR h (O.take (n+1)) x=thS h (O.getD n 0) (thR h (O.take n) x):=by
 rw [take_succ_getD hn 0,thR_snoc]
theorem fresh_eachRatR {l:List Rat}{C:Nat}(hl:Small C l)(hC:1≤C∧C≤68719476736)(nl:l.length≤1048576)(h0:l≠[]):FSpecR P F.fresh_each_Rat [.d (dQs l),.fn F.fresh_Rat []] l.length T.Rat 3 (l.map dQ):=by
 refine FSpecR.intro fn.fresh_each_Rat (by rfl) (by rfl) (nb9 (by rfl)) 4 rfl fun E hE=>(AW.sg hE rfl (asM rfl (OL.nil (AW.seq (AW.sg hE rfl (mvD rfl (isNil sl.Rats.u rfl (fun y hy=>by obtain ⟨a,_,rfl⟩:=mm9 hy;exact Nat.succ_pos _) rfl fun b hb=>?_)))))))
 refine OL.nil (AW.cond rfl (fun hno=>absurd hno (fun e=>h0 (by have:=hb e;simpa using this))) (fun _=>?_))
 refine AW.skip (AW.sg hE rfl (mvD rfl (lnL sl.Rats rfl rfl (mkL dQ 0 sl.Rats z.Rat vcs_q0 rfl rfl (Nat.le_refl _) (by omega) (by omega) rfl fun b12=>(asO rfl (OL.nil (AW.seq ?_)))))))
 refine AW.sg hE rfl (mvD rfl (lnL sl.Rats rfl rfl (mvD rfl (OL.nil (AW.block ?_)))))
 refine AW.whileK (α:=Nat) [(1,_),(4,_),(5,_),(13,_),(14,_)] [] (fun i=>[(15,.d (dI i))]) (fun i=>[(12,.row b12 l.length T.Rat 3 ((fillF 0 (fun j=>l.getD j 0) l.length i).map dQ))]) (fun i=>i≤l.length) (fun i=>l.length-i) 0 (.cons (knF rfl) (.cons (knM rfl) (.cons (knO rfl) (.cons (knD rfl) (.cons (knD rfl) .nil))))) .nil ⟨Nat.zero_le _,.rq1,.cons (by rw [fillF_zero];rfl) .nil⟩ ?_
 intro i h1
 have h1:i≤l.length:=h1
 have hfl:=fillF_len 0 (fun j=>l.getD j 0) l.length i
 refine AW.sg hE rfl (c_lss rfl rfl rfl (OL.nil (AW.seq (AW.cond rfl (fun h16=>?_) (fun h16=>?_)))))
 ·try simp only [dx9] at h16
  refine AW.skip (AW.seq (AW.block (AW.sg hE rfl (mvD rfl (ixLn sl.Rats 0 rfl rfl (by omega) rfl rfl (ldRA ag.Rat rfl (vs:=[_,_,_]) rfl (nb9 rfl) (al z.Rat rfl fun b7=>?_)))))))
  refine asD rfl (sto sz.Rat rfl rfl rfl rfl rfl (nb9 rfl) (cells2:=[_,_,_]) rfl (OL.nil (AW.rg hE rfl (mvO rfl (mvD rfl (mvF rfl (ldPA ag.Rat rfl rfl (vs:=[_,_,_]) rfl (nb9 rfl) ?_)))))))
  refine clv rfl vL (fresh_Rat (Nat.le_trans (hl.get hC.1 i) hC.2)) (ixOn sl.Rats rfl rfl (by omega) (stE sz.Rat rfl vd_q rfl rfl (by rw [lm9];omega) (es2:=(fillF 0 (fun j=>l.getD j 0) l.length (i+1)).map dQ) (by rw [← fillF_set (show i<l.length by omega),List.map_set]) (OL.nil (AW.rg hE rfl (add_i64 rfl rfl (by omega) (mvD rfl (OL.nil ?_)))))))
  exact AW.again (x:=i) (i+1) (by omega) ⟨by omega,Knows.app .rq5 .rq1,.cons rfl .nil⟩
 ·try simp only [dx9] at h16
  refine AW.exit (AW.seq ?_)
  obtain rfl:i=l.length:=by omega
  have hfr:(List.range l.length).map (fun j=>l.getD j 0)=l:=list_range_getD l 0
  refine AW.rg hE rfl (mvO rfl (asO rfl (OL.nil ?_)))
  exact AW.ret ⟨.inr rfl,12,b12,l.length,(fillF 0 (fun j=>l.getD j 0) l.length l.length).map dQ,rfl,rfl,by rw [lm9,fillF_len];exact Nat.le_refl _,by rw [fillF_all,hfr];exact List.take_of_length_le (by rw [lm9];exact Nat.le_refl _)⟩
theorem fresh_RatsR {l:List Rat}{C:Nat}(hl:Small C l)(hC:1≤C∧C≤68719476736)(nl:l.length≤1048576)(h0:l≠[]):FSpecR P F.fresh_Rats [.d (dQs l)] l.length T.Rat 3 (l.map dQ):=by
 refine FSpecR.intro fn.fresh_Rats (by rfl) (by rfl) (nb9 (by rfl)) 2 rfl fun E hE=>(AW.sg hE rfl (asM rfl (OL.nil (AW.sg hE rfl (mvD rfl (clR rfl .rq2 (fresh_eachRatR hl hC nl h0) rfl fun b4 c4=>(asO rfl ?_)))))))
 exact OL.nil (AW.ret ⟨.inr rfl,4,b4,c4,l.map dQ,rfl,rfl,by rw [lm9];exact Nat.le_refl _,List.take_of_length_le (by rw [lm9];exact Nat.le_refl _)⟩)
set_option maxRecDepth 8000 in
set_option maxHeartbeats 3200000 in
theorem throughG {h:HM}{O:List Nat}{l:List Rat}{e:Rat}{B:Nat}(f:h.FormS)(zT:∀ i,Small B (h.trans.getD i []))(zS:Small B h.stop)(h1:1≤B)(hB:thB B h.st≤1048576)(hl:l.length=h.st)(hO:∀ k,k ∈ O→k<h.st)(nO:O.length≤h.st)(zl:Small B l)(ze:sz e≤B):FSpec P F.hmm_through [vHM h,.d (dNs O),.d (dQs l),vQ e] (.tup [.d (dQs (thR h O (l,e)).1),vQ (thR h O (l,e)).2]):=by
 have n0:=f.st0
 have n1:=f.st1
 have e2:=f.trans
 have e3:=f.stop
 have hBB:B≤thB B h.st:=thB_mono (m:=0) (Nat.zero_le _)
 have zz:∀ n,n≤O.length→SzT 1048576 (thR h (O.take n) (l,e)):=fun n hn=>by
  have q:=thR_sz (O:=O.take n) zT zS h1 (x:=(l,e)) ⟨fun j=>zl.get h1 j,ze⟩
  have q2:(O.take n).length≤h.st:=by rw [List.length_take];omega
  have q3:=Nat.le_trans (thB_mono (B:=B) q2) hB
  exact ⟨fun j=>Nat.le_trans (q.a j) q3,Nat.le_trans q.b q3⟩
 refine FSpec.intro fn.hmm_through (by rfl) (by rfl) (nb9 (by rfl)) fun E hE=>(AW.sg hE rfl (bxA rfl rfl fun b4=>(bxA rfl rfl fun b7=>(asM rfl (al z.Rat rfl fun b9=>(OL.nil (AW.seq ?_)))))))
 refine AW.dg 36 [0,2,1,3,4,5] order_free hE rfl (by kernel_rfl) (OI.of_OL (os:=[_,_,_,_,_,_]) rfl ?_)
 refine mvD rfl (ldPA ag.Rat rfl rfl (vs:=[_,_,_]) rfl (nb9 rfl) (clRd rfl .rq1 (fresh_RatsR (l:=l) zl ⟨h1,by omega⟩ (by omega) (fun c=>by rw [c] at hl;simp at hl;omega)) rfl rfl fun b16 c16=>(clv rfl vL (fresh_Rat (q:=e) (by omega)) (asO rfl (sto sz.Rat rfl rfl rfl rfl rfl (nb9 rfl) (cells2:=[_,_,_]) rfl (OL.nil (AW.seq ?_)))))))
 refine AW.sg hE rfl (mvD rfl (lnL (f:=fun k:Nat=>dI (k:Int)) sl.ints rfl rfl (mvD rfl (OL.nil (AW.block ?_)))))
 refine AW.whileK (α:=Nat) [(2,_),(4,_),(7,_),(8,_),(9,_),(19,_),(20,_)] [(4,_),(9,_)] (fun n=>[(21,.d (dI n))]) (fun n=>[(7,.box b7 T.Rat (cellsQ (thR h (O.take n) (l,e)).2)),(16,.row b16 c16 T.Rat 3 ((thR h (O.take n) (l,e)).1.map dQ))]) (fun n=>n≤O.length) (fun n=>O.length-n) 0 (.cons (knO rfl) (.cons (knP rfl) (.cons (knP rfl) (.cons (knM rfl) (.cons (knP rfl) (.cons (knD rfl) (.cons (knD rfl) .nil))))))) (.cons (owB rfl) (.cons (owB rfl) .nil)) ⟨Nat.zero_le _,.rq1,.cons (by rw [List.take_zero];rfl) (.cons (by rw [List.take_zero];rfl) .nil)⟩ ?_
 intro n h2
 have h2:n≤O.length:=h2
 have hxl:(thR h (O.take n) (l,e)).1.length=h.st:=thR_len hl
 have zn:=zz n h2
 refine AW.sg hE rfl (c_lss rfl rfl rfl (OL.nil (AW.seq (AW.cond rfl (fun h22=>?_) (fun h22=>?_)))))
 ·try simp only [dx9] at h22
  refine AW.skip (AW.seq (AW.block (AW.seq ?_)))
  have hn:n<O.length:=by omega
  have hi:=hO (O.getD n 0) (getD_mem hn 0)
  have zp:=zn.a (O.getD n 0)
  refine AW.rg hE rfl (ixLn (f:=fun k:Nat=>dI (k:Int)) sl.ints 0 rfl rfl hn rfl rfl (ldRC ce.int rfl (asD rfl (OL.nil (AW.sg hE rfl (mvO rfl (mvD rfl ?_)))))))
  refine ixOn sl.Rats rfl rfl (by omega) (ldEAL ag.Rat 0 (by decide) rfl rfl (by omega) (vs:=[_,_,_]) rfl (nb9 rfl) (al z.Rat rfl fun b12=>(sto sz.Rat rfl rfl rfl rfl rfl (nb9 rfl) (cells2:=[_,_,_]) rfl (OL.nil (AW.seq (AW.sg hE rfl (ldPA ag.Rat rfl rfl (vs:=[_,_,_]) rfl (nb9 rfl) ?_)))))))
  refine clv rfl vL (rational_SignQ (x:=((thR h (O.take n) (l,e)).1.getD (O.getD n 0) 0)) (by omega)) (c_eql rfl rfl rfl (OL.nil (AW.cond rfl (fun hp=>?_) (fun hp=>?_))))
  ·have hp:((thR h (O.take n) (l,e)).1.getD (O.getD n 0) 0)=0:=sgnQ_eq.1 (dt9 hp)
   refine AW.exit (AW.rg hE rfl (add_i64 rfl rfl (by omega) (mvD rfl (OL.nil ?_))))
   exact AW.again (x:=n) (n+1) (by omega) ⟨by omega,Knows.app .rq7 .rq1,Owns.app (.cons rfl (.cons rfl .nil)) (.cons (by rw [thR_take hn,thS_zero hxl hp];rfl) (.cons (by rw [thR_take hn,thS_zero hxl hp];rfl) .nil))⟩
  ·skip
   refine AW.skip (AW.sg hE rfl (mvO rfl (mvD rfl (bd z.Rat pl.Rat (cs:=[_,_,_]) rfl (ixOn sl.Rats rfl rfl (by omega) (stE sz.Rat rfl (d:=dQ 0) vd_q0X rfl rfl (by rw [lm9];omega) (es2:=((thR h (O.take n) (l,e)).1.set (O.getD n 0) 0).map dQ) (by rw [List.map_set]) (OL.nil ?_)))))))
   refine AW.seq (AW.seq ?_)
   have hti:=f.trow (O.getD n 0) hi
   have hbl:((thR h (O.take n) (l,e)).1.set (O.getD n 0) 0).length=h.st:=by rw [List.length_set];exact hxl
   refine AW.rg hE rfl (faP fd.Hidden_4 rfl rfl (ldPC ce.Ratss rfl rfl rfl (mvD rfl (ixLn sl.Ratss [] rfl rfl (by omega) rfl rfl (ldRC ce.Rats rfl (lnL sl.Rats rfl rfl (mvD rfl ?_)))))))
   refine OL.nil (AW.block ?_)
   refine AW.whileK (α:=Nat) [(2,_),(4,_),(7,_),(8,_),(9,_),(11,_),(12,_),(19,_),(20,_),(21,_),(40,_),(41,_)] [(4,_),(7,_),(9,_),(12,_)] (fun j=>[(42,.d (dI j))]) (fun j=>[(16,.row b16 c16 T.Rat 3 ((thM h (O.getD n 0) ((thR h (O.take n) (l,e)).1.set (O.getD n 0) 0) ((thR h (O.take n) (l,e)).1.getD (O.getD n 0) 0) j).map dQ))]) (fun j=>j≤h.st) (fun j=>h.st-j) 0 (.cons (knO rfl) (.cons (knP rfl) (.cons (knP rfl) (.cons (knM rfl) (.cons (knP rfl) (.cons (knD rfl) (.cons (knP rfl) (.cons (knD rfl) (.cons (knD rfl) (.cons (knD rfl) (.cons (knD rfl) (.cons (knD rfl) .nil)))))))))))) (.cons (owB rfl) (.cons (owB rfl) (.cons (owB rfl) (.cons (owB rfl) .nil)))) ⟨Nat.zero_le _,.rq1,.cons (by rw [thM_zero hbl];rfl) .nil⟩ ?_
   intro j h3
   have h3:j≤h.st:=h3
   have hml:=thM_len (h:=h) (i:=(O.getD n 0)) (j:=j) (l:=((thR h (O.take n) (l,e)).1.set (O.getD n 0) 0)) (p:=((thR h (O.take n) (l,e)).1.getD (O.getD n 0) 0))
   refine AW.sg hE rfl (c_lss rfl rfl rfl (OL.nil (AW.seq (AW.cond rfl (fun h43=>?_) (fun h43=>?_)))))
   ·try simp only [dx9] at h43
    refine AW.skip (AW.seq (AW.block (AW.seq ?_)))
    have hj:j<h.st:=by omega
    have zt:=(zT (O.getD n 0)).get h1 j
    have zb:sz (((thR h (O.take n) (l,e)).1.set (O.getD n 0) 0).getD j 0)≤1048577:=by rw [set0_get];split;(rw [sz_zero];decide);exact Nat.le_trans (zn.a j) (by decide)
    have zm:=sz_mul ((thR h (O.take n) (l,e)).1.getD (O.getD n 0) 0) (trQ h (O.getD n 0) j)
    have zt2:sz (trQ h (O.getD n 0) j)≤B:=zt
    have hg:(thM h (O.getD n 0) ((thR h (O.take n) (l,e)).1.set (O.getD n 0) 0) ((thR h (O.take n) (l,e)).1.getD (O.getD n 0) 0) j).getD j 0=((thR h (O.take n) (l,e)).1.set (O.getD n 0) 0).getD j 0:=by rw [thM_get hj,if_neg (by omega)]
    refine AW.rg hE rfl (mvD rfl (ixLn sl.Rats 0 rfl rfl (by omega) rfl rfl (ldRA ag.Rat rfl (vs:=[_,_,_]) rfl (nb9 rfl) (al z.Rat rfl fun b14=>(asD rfl (sto sz.Rat rfl rfl rfl rfl rfl (nb9 rfl) (cells2:=[_,_,_]) rfl (OL.nil ?_)))))))
    refine AW.dg 1 [0,1,2,3,4,5,6,7,8,9,10,11] order_free hE rfl (by kernel_rfl) (OI.of_OL (os:=[_,_,_,_,_,_,_,_,_,_,_,_]) rfl ?_)
    refine mvO rfl (mvD rfl (mvO rfl (mvD rfl (ixOn sl.Rats rfl rfl (by omega) (ldEAL ag.Rat 0 (by decide) rfl rfl (by omega) (vs:=[_,_,_]) rfl (nb9 rfl) ?_)))))
    rw [hg]
    refine ldPA ag.Rat rfl rfl (vs:=[_,_,_]) rfl (nb9 rfl) (ldPA ag.Rat rfl rfl (vs:=[_,_,_]) rfl (nb9 rfl) (clv rfl vL (rational_MulQ (x:=((thR h (O.take n) (l,e)).1.getD (O.getD n 0) 0)) (y:=trQ h (O.getD n 0) j) (by omega) (by omega)) (clv rfl vL (rational_AddQ (x:=((thR h (O.take n) (l,e)).1.set (O.getD n 0) 0).getD j 0) (y:=((thR h (O.take n) (l,e)).1.getD (O.getD n 0) 0)*trQ h (O.getD n 0) j) (by omega) (by omega)) (ixOn sl.Rats rfl rfl (by omega) ?_))))
    refine stE sz.Rat rfl vd_q rfl rfl (by rw [lm9];omega) (es2:=(thM h (O.getD n 0) ((thR h (O.take n) (l,e)).1.set (O.getD n 0) 0) ((thR h (O.take n) (l,e)).1.getD (O.getD n 0) 0) (j+1)).map dQ) (by rw [← thM_set hj,List.map_set]) (OL.nil (AW.rg hE rfl (add_i64 rfl rfl (by omega) (mvD rfl (OL.nil ?_)))))
    exact AW.again (x:=j) (j+1) (by omega) ⟨by omega,Knows.app .rq12 .rq1,Owns.app (.cons rfl (.cons rfl (.cons rfl (.cons rfl .nil)))) (.cons rfl .nil)⟩
   ·try simp only [dx9] at h43
    refine AW.exit ?_
    obtain rfl:j=h.st:=by omega
    have zs:=zS.get h1 (O.getD n 0)
    have ze2:=zn.b
    have zm:=sz_mul ((thR h (O.take n) (l,e)).1.getD (O.getD n 0) 0) (h.stop.getD (O.getD n 0) 0)
    rw [thM_all]
    refine AW.dg 1 [0,1,2,3,4,5,6,7,8,9] order_free hE rfl (by kernel_rfl) (OI.of_OL (os:=[_,_,_,_,_,_,_,_,_,_]) rfl ?_)
    refine ldPA ag.Rat rfl rfl (vs:=[_,_,_]) rfl (nb9 rfl) (ldPA ag.Rat rfl rfl (vs:=[_,_,_]) rfl (nb9 rfl) (faP fd.Hidden_5 rfl rfl (ldPC ce.Rats rfl rfl rfl (mvD rfl (ixLn sl.Rats 0 rfl rfl (by omega) rfl rfl (ldRA ag.Rat rfl (vs:=[_,_,_]) rfl (nb9 rfl) (clv rfl vL (rational_MulQ (x:=((thR h (O.take n) (l,e)).1.getD (O.getD n 0) 0)) (y:=h.stop.getD (O.getD n 0) 0) (by omega) (by omega)) ?_)))))))
    refine clv rfl vL (rational_AddQ (x:=(thR h (O.take n) (l,e)).2) (y:=((thR h (O.take n) (l,e)).1.getD (O.getD n 0) 0)*h.stop.getD (O.getD n 0) 0) (by omega) (by omega)) (sto sz.Rat rfl rfl rfl rfl rfl (nb9 rfl) (cells2:=[_,_,_]) rfl (OL.nil (AW.rg hE rfl (add_i64 rfl rfl (by omega) (mvD rfl (OL.nil ?_))))))
    exact AW.again (x:=n) (n+1) (by omega) ⟨by omega,Knows.app .rq7 .rq1,Owns.app (.cons rfl (.cons rfl .nil)) (.cons (by rw [thR_take hn];rfl) (.cons (by rw [thR_take hn];rfl) .nil))⟩
 ·try simp only [dx9] at h22
  refine AW.exit (AW.seq ?_)
  obtain rfl:n=O.length:=by omega
  rw [List.take_length] at hxl
  refine AW.freeze 16 rfl (AW.to [(2,.d (dQs (thR h O (l,e)).1)),(7,.ptr 7 b7 0),(9,.ptr 9 b9 0)] [(7,.box b7 T.Rat (cellsQ (thR h O (l,e)).2)),(9,.box b9 T.Rat [.d (dB false),.mt,.mt])] (.cons (frz_osl (by rw [lm9,List.take_length,hxl];exact hl) (by rw [List.take_length])) .rq2) (.cons (by rw [List.take_length];rfl) (.cons rfl .nil)) ?_)
  refine AW.region_tree order_free (by rw [hE];rfl) (OT.node [0,1] (os:=[_,_]) (by kernel_rfl) (by decide) rfl ⟨?_,?_,trivial⟩)
  ·refine mvD rfl (OL.nil (OT.node [1,2] (os:=[_,_]) (by kernel_rfl) (by decide) rfl ⟨?_,?_,trivial⟩))
   ·refine ldPA ag.Rat rfl rfl (vs:=[_,_,_]) rfl (nb9 rfl) (OL.nil (OT.node [2] (os:=[_]) (by kernel_rfl) (by decide) rfl ⟨?_,trivial⟩))
    refine asD rfl (OL.nil (OT.node [3] (os:=[_]) (by kernel_rfl) (by decide) rfl ⟨?_,trivial⟩))
    exact sto sz.Rat rfl rfl rfl rfl rfl (nb9 rfl) (cells2:=[_,_,_]) rfl (OL.nil (OT.leaf (by kernel_rfl) (AW.ret (RetQ.r ⟨_,.tmp rfl (.cellA rfl rfl ag.Rat (nb9 rfl) .nil),_,.cons (.le vR) (.cons (.ag (.cons (.le vR) (.cons (.le vR) (.cons (.le vR) .nil)))) .nil),rfl⟩))))
   ·refine asD rfl (OL.nil (OT.node [1] (os:=[_]) (by kernel_rfl) (by decide) rfl ⟨?_,trivial⟩))
    refine ldPA ag.Rat rfl rfl (vs:=[_,_,_]) rfl (nb9 rfl) (OL.nil (OT.node [3] (os:=[_]) (by kernel_rfl) (by decide) rfl ⟨?_,trivial⟩))
    exact sto sz.Rat rfl rfl rfl rfl rfl (nb9 rfl) (cells2:=[_,_,_]) rfl (OL.nil (OT.leaf (by kernel_rfl) (AW.ret (RetQ.r ⟨_,.tmp rfl (.cellA rfl rfl ag.Rat (nb9 rfl) .nil),_,.cons (.le vR) (.cons (.ag (.cons (.le vR) (.cons (.le vR) (.cons (.le vR) .nil)))) .nil),rfl⟩))))
  ·refine ldPA ag.Rat rfl rfl (vs:=[_,_,_]) rfl (nb9 rfl) (OL.nil (OT.node [0] (os:=[_]) (by kernel_rfl) (by decide) rfl ⟨?_,trivial⟩))
   refine mvD rfl (OL.nil (OT.node [2] (os:=[_]) (by kernel_rfl) (by decide) rfl ⟨?_,trivial⟩))
   refine asD rfl (OL.nil (OT.node [3] (os:=[_]) (by kernel_rfl) (by decide) rfl ⟨?_,trivial⟩))
   exact sto sz.Rat rfl rfl rfl rfl rfl (nb9 rfl) (cells2:=[_,_,_]) rfl (OL.nil (OT.leaf (by kernel_rfl) (AW.ret (RetQ.r ⟨_,.tmp rfl (.cellA rfl rfl ag.Rat (nb9 rfl) .nil),_,.cons (.le vR) (.cons (.ag (.cons (.le vR) (.cons (.le vR) (.cons (.le vR) .nil)))) .nil),rfl⟩))))
end Go.Proofs.YteiohkpjgcioaaaGreatDoor

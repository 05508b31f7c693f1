/-
  Walks of package forward, part 1: beginnings and ends of words (printed by mk2.py).
-/
import Derived.Test.YtocehciipjhlkaaGreatDoorKMod34
import Derived.Test.YtocehciipjhlkaaGreatDoorKAlg26
set_option linter.unusedVariables false
set_option linter.unusedSimpArgs false
namespace Go.Proofs.YtocehciipjhlkaaGreatDoor
open Go Go.AL
theorem vcs_mt_rowF:VCs [.mt] (dQs []).cells:=.cons VC.mt .nil
theorem frz_outerB {h:HM}{w:List Int}{d a b c e:Nat}{x:D}(hd:d<w.length)(ha:a=w.length-1-d) :
  some (Blk.row b c e 1 ((((colsB h w d).map dQs).set a x).set a (.sl (((fillF 0 (fun j=>(bwdF h w d).getD j 0) h.st h.st).map dQ).take h.st))))=some (Blk.row b c e 1 ((colsB h w (d+1)).map dQs)):=by
 rw [List.set_set,fill_row (bwdF_len h w d),List.take_of_length_le (by rw [lm9,bwdF_len];exact Nat.le_refl _),← colsB_set hd ha,List.map_set]
theorem forward_refuseW {h:HM}{B:Nat}{w:List Int}(g:h.GoodW B)(k:WordOK h w):FSpec P F.forward_refuse [vHM h,.d (ints w)] (.d (dI 0)):=by
 have s0:=g.form.sym0
 have s1:=g.form.sym1
 refine FSpec.intro fn.forward_refuse (by rfl) (by rfl) (nb9 (by rfl)) fun E hE=>(AW.sg hE rfl (bxA rfl rfl fun b2=>(asD rfl (OL.nil (AW.seq (AW.sg hE rfl (ldPA ag.Hidden rfl rfl (vs:=[_,_,_,_,_,_,_,_,_,_,_]) rfl (nb9 rfl) ?_)))))))
 refine clv rfl .rq1 (hmm_Valid_okW (by assumption)) (asD rfl (OL.nil (AW.sg hE rfl (mvD rfl (c_neq rfl rfl (c:=false) (by exact cne_f (by omega)) (OL.nil (cnF rfl ?_)))))))
 refine AW.skip (AW.seq (AW.sg hE rfl (ldPA ag.Hidden rfl rfl (vs:=[_,_,_,_,_,_,_,_,_,_,_]) rfl (nb9 rfl) (clv rfl .rq1 (hmm_Plain_okW (by assumption)) (nt rfl (OL.nil (cnF rfl ?_)))))))
 refine AW.skip (AW.seq (AW.sg hE rfl (mvD rfl (faP fd.Hidden_0 rfl rfl (ldPC ce.int rfl rfl rfl (clv rfl vL (words_Valid k ⟨s0,s1⟩) (nt rfl ?_)))))))
 refine OL.nil (cnF rfl ?_)
 exact AW.skip (AW.sg hE rfl (asD rfl (OL.nil (AW.ret (RetQ.r ⟨_,.tmp rfl .nil,.le vR⟩)))))
theorem forward_refuse {h:HM}{B:Nat}{w:List Int}(g:h.Good B)(k:WordOK h w):FSpec P F.forward_refuse [vHM h,.d (ints w)] (.d (dI 0)):=forward_refuseW g.w k
set_option maxRecDepth 4000 in
set_option maxHeartbeats 1600000 in
theorem fwd_forwardS {h:HM}{b B:Nat}{w:List Int}(f:HM.FormX b B h)(k:WordOK h w)(fz:FwdSz h w):FSpecX P F.forward_forward [vHM h,.d (ints w)] w.length T.Rats T.Rat 3 (rowsD h w w.length):=by
 have n0:=f.st0
 have n1:=f.st1
 have s1:=f.sym1
 have e1:=f.ini
 have e2:=f.trans
 have e3:=f.stop
 have e4:=f.emit
 have k1:=k.1
 refine FSpecX.intro fn.forward_forward (by rfl) (by rfl) (nb9 (by rfl)) 4 (by rfl) fun E hE=>(AW.sg hE rfl (bxA rfl rfl fun b2=>(asM rfl (OL.nil (AW.sg hE rfl (asM rfl (OL.nil ?_)))))))
 refine AW.seq (AW.sg hE rfl (mvD rfl (lnL sl.ints rfl rfl (mvD rfl (OL.nil (AW.block (AW.own 5 78 T.Rats 1 rfl rfl ?_)))))))
 refine AW.pool0 2000 T.Rat 3 rfl ?_
 refine AW.whileK (α:=Nat × Nat × Nat × List (Nat × List D)) [(2,_),(4,_),(13,_),(14,_)] [(2,_)] (fun (t,p,c,rs)=>[(5,.osl 78 p t c),(15,.d (dI t))]) (fun (t,p,c,rs)=>[(78,.row p c T.Rats 1 (rs.map hdP)),(2000,.pool T.Rat 3 rs)]) (fun (t,p,c,rs)=>t≤w.length∧rs.map Prod.snd=rowsD h w t) (fun (t,p,c,rs)=>w.length-t) (0,0,0,[]) (.cons (knP rfl) (.cons (knM rfl) (.cons (knD rfl) (.cons (knD rfl) .nil)))) (.cons (owB rfl) .nil) ⟨⟨Nat.zero_le _,rfl⟩,.rq2,.cons rfl (.cons rfl .nil)⟩ ?_
 rintro ⟨t,p,c,rs⟩ ⟨h1,hrs⟩
 have h1:t≤w.length:=h1
 have hrs:rs.map Prod.snd=rowsD h w t:=hrs
 have hrl:rs.length=t:=(snd_len hrs).trans (rowsD_len h w t)
 refine AW.sg hE rfl (c_lss rfl rfl rfl (OL.nil (AW.seq (AW.cond rfl (fun h16=>?_) (fun h16=>?_)))))
 ·try simp only [dx9] at h16
  refine AW.skip (AW.seq (AW.block (AW.seq ?_)))
  have hx:=k.symX (t:=t) (by omega)
  refine AW.rg hE rfl (mvD rfl (ixLn sl.ints 0 rfl rfl (by omega) rfl rfl (ldRC ce.int rfl ?_)))
  rw [hx.2]
  refine asD rfl (asD rfl (OL.nil (AW.sg hE rfl (faP fd.Hidden_1 rfl rfl (ldPC ce.int rfl rfl rfl (mkL dQ 0 sl.Rats z.Rat vcs_q0 rfl rfl (Nat.le_refl _) (by omega) (by omega) rfl fun b22=>(asO rfl ?_)))))))
  refine OL.nil (AW.seq (AW.sg hE rfl (mvO rfl (lnO sl.Rats rfl rfl (mvD rfl (OL.nil (AW.block ?_)))))))
  refine AW.whileK (α:=Nat) [(2,_),(4,_),(5,_),(6,_),(7,_),(8,_),(13,_),(14,_),(15,_),(24,_)] [(2,_),(78,_),(2000,_)] (fun j=>[(25,.d (dI j))]) (fun j=>[(22,.row b22 h.st T.Rat 3 ((fillF 0 (fun j=>(fwdF h w t).getD j 0) h.st j).map dQ))]) (fun j=>j≤h.st) (fun j=>h.st-j) 0 (.cons (knP rfl) (.cons (knM rfl) (.cons (knO rfl) (.cons (knD rfl) (.cons (knD rfl) (.cons (knO rfl) (.cons (knD rfl) (.cons (knD rfl) (.cons (knD rfl) (.cons (knD rfl) .nil)))))))))) (.cons (owB rfl) (.cons (owR rfl) (.cons (owL rfl) .nil))) ⟨Nat.zero_le _,.rq1,.cons (by rw [fillF_zero];rfl) .nil⟩ ?_
  intro j h2
  have h2:j≤h.st:=h2
  have hfl:=fillF_len 0 (fun j=>(fwdF h w t).getD j 0) h.st j
  refine AW.sg hE rfl (c_lss rfl rfl rfl (OL.nil (AW.seq (AW.cond rfl (fun h26=>?_) (fun h26=>?_)))))
  ·try simp only [dx9] at h26
   refine AW.skip (AW.seq (AW.block (AW.sg hE rfl (mvD rfl (asD rfl (OL.nil (AW.seq ?_)))))))
   have hej:=f.erow j (by omega)
   have zi:=fz.ini j
   have ze:sz ((h.emit.getD j []).getD (symX w t) 0)≤68719476736:=fz.em j (symX w t)
   refine AW.rg hE rfl (bd z.Rat pl.Rat (cs:=[_,_,_]) rfl (al z.Rat rfl fun b10=>(sto sz.Rat rfl rfl rfl rfl rfl (nb9 rfl) (cells2:=[_,_,_]) rfl (OL.nil (AW.seq (AW.sg hE rfl (mvD rfl ?_)))))))
   refine c_eql rfl rfl rfl (OL.nil (AW.cond rfl (fun ht0=>?_) (fun ht0=>?_)))
   ·have ht0:t=0:=by have:=dt9 ht0;omega
    have hval:(fwdF h w t).getD j 0=h.ini.getD j 0*(h.emit.getD j []).getD (symX w t) 0:=by rw [ht0];exact fwd_zero (by omega)
    refine AW.rg hE rfl (faP fd.Hidden_3 rfl rfl (ldPC ce.Rats rfl rfl rfl (mvD rfl (ixLn sl.Rats 0 rfl rfl (by omega) rfl rfl (ldRA ag.Rat rfl (vs:=[_,_,_]) rfl (nb9 rfl) (sto sz.Rat rfl rfl rfl rfl rfl (nb9 rfl) (cells2:=[_,_,_]) rfl (OL.nil ?_)))))))
    first|(refine AW.back 2001 2000 (t-1) rs rfl rfl rfl (by omega) (by rw [hpl]) (rs2:=rs) (set_same hbp).symm ?_;obtain rfl:i=h.st:=(by omega);have zs:=zpq h.st (Nat.le_refl _))|skip
    refine AW.dg 1 [0,1,2,3,4,5,6,7,8,9,10,11,12,13,14] order_free hE rfl (by kernel_rfl) (OI.of_OL (os:=[_,_,_,_,_,_,_,_,_,_,_,_,_,_,_]) rfl ?_)
    refine mvO rfl (mvD rfl (ldPA ag.Rat rfl rfl (vs:=[_,_,_]) rfl (nb9 rfl) (faP fd.Hidden_6 rfl rfl (ldPC ce.Ratss rfl rfl rfl (mvD rfl (ixLn sl.Ratss [] rfl rfl (by omega) rfl rfl (ldRC ce.Rats rfl ?_)))))))
    refine mvD rfl (bo rfl rfl (bin_sub (c:=(symX w t:Int)) (by omega) (wrap_i64 (by omega))) (ixLn sl.Rats 0 rfl rfl (by omega) rfl rfl (ldRA ag.Rat rfl (vs:=[_,_,_]) rfl (nb9 rfl) (clv rfl .rq2 (rational_MulQ (by assumption) (by assumption)) (ixOn sl.Rats rfl rfl (by omega) (stE sz.Rat rfl vd_q rfl rfl (by rw [lm9];omega) (es2:=(fillF 0 (fun j=>(fwdF h w t).getD j 0) h.st (j+1)).map dQ) (by rw [← fillF_set (show j<h.st by omega),List.map_set,hval]) (OL.nil ?_)))))))
    refine AW.rg hE rfl (add_i64 rfl rfl (by omega) (mvD rfl (OL.nil ?_)))
    exact AW.again (x:=j) (j+1) (by omega) ⟨by omega,Knows.app .rq10 .rq1,Owns.app (.cons rfl (.cons rfl (.cons rfl .nil))) (.cons rfl .nil)⟩
   ·have ht0:0<t:=by have:=df9 ht0;omega
    have hval:(fwdF h w t).getD j 0=preF h w (fwdF h w (t-1)) (t-1) j h.st*(h.emit.getD j []).getD (symX w t) 0:=fwd_pos ht0 (by omega)
    have zp:=fz.fwd (t-1) (by omega)
    obtain ⟨bp,hbp⟩:=snd_get hrs (rowsD_get (h:=h) (w:=w) (show t-1<t by omega))
    have hpl:((fwdF h w (t-1)).map dQ).length=h.st:=by rw [lm9,fwdF_len]
    have hpl2:=fwdF_len h w (t-1)
    have zpq:=fun i=>fz.pre (t-1) j i (by omega)
    refine AW.seq (AW.takeN 2001 2000 (t-1) h.st rfl rfl hbp hpl ?_)
    have hel:(rs.map hdP)[t-1]? = some (hdP (bp,((fwdF h w (t-1)).map dQ))):=by rw [List.getElem?_map,hbp];rfl
    refine AW.rg hE rfl (mvO rfl (mvD rfl (sub_i64 rfl rfl (by omega) (ixO sl.Ratss rfl rfl (by omega) (by omega) (i:=t-1) (by omega) (ldLe (.rowC (by decide) rfl rfl hel ce.Rats rfl) (vle_hdP 2001 hpl) (lnO sl.Rats rfl rfl (mvD rfl ?_)))))))
    refine OL.nil (AW.block (AW.boxW 10 (cellsQ 0) rfl vles_q ?_))
    refine AW.whileK (α:=Nat) [(2,_),(4,_),(5,_),(6,_),(7,_),(8,_),(9,_),(10,_),(13,_),(14,_),(15,_),(24,_),(25,_),(40,_),(41,_)] [(2,_),(22,_),(78,_)] (fun i=>[(42,.d (dI i))]) (fun i=>[(10,.box b10 T.Rat (cellsQ (preF h w (fwdF h w (t-1)) (t-1) j i))),(2001,.row bp h.st T.Rat 3 ((fwdF h w (t-1)).map dQ)),(2000,.pool T.Rat 3 (rs.set (t-1) (bp,[])))]) (fun i=>i≤h.st) (fun i=>h.st-i) 0 (.cons (knP rfl) (.cons (knM rfl) (.cons (knO rfl) (.cons (knD rfl) (.cons (knD rfl) (.cons (knO rfl) (.cons (knD rfl) (.cons (knP rfl) (.cons (knD rfl) (.cons (knD rfl) (.cons (knD rfl) (.cons (knD rfl) (.cons (knD rfl) (.cons (knO rfl) (.cons (knD rfl) .nil))))))))))))))) (.cons (owB rfl) (.cons (owR rfl) (.cons (owR rfl) .nil))) ⟨Nat.zero_le _,.rq1,.cons rfl (.cons rfl (.cons rfl .nil))⟩ ?_
    intro i h3
    have h3:i≤h.st:=h3
    have zs:=zpq i (by omega)
    refine AW.sg hE rfl (c_lss rfl rfl rfl (OL.nil (AW.seq (AW.cond rfl (fun h43=>?_) (fun h43=>?_)))))
    ·try simp only [dx9] at h43
     refine AW.skip (AW.seq (AW.block (AW.sg hE rfl (mvD rfl (ixOn sl.Rats rfl rfl (by omega) (ldEAL ag.Rat 0 (by decide) rfl rfl (by omega) (vs:=[_,_,_]) rfl (nb9 rfl) (al z.Rat rfl fun b12=>?_)))))))
     refine asD rfl (sto sz.Rat rfl rfl rfl rfl rfl (nb9 rfl) (cells2:=[_,_,_]) rfl (OL.nil ?_))
     have trj:=f.trow i (by omega)
     have zt:sz ((h.trans.getD i []).getD j 0)≤68719476736:=fz.tr i j
     have zpi:=zp i
     have zm:sz ((fwdF h w (t-1)).getD i 0*(h.trans.getD i []).getD j 0)≤68719476736:=fz.preM (t-1) i j (by omega)
     refine AW.dg 1 [0,1,2,3,4,5,6,7,8,9,10,11,12] order_free hE rfl (by kernel_rfl) (OI.of_OL (os:=[_,_,_,_,_,_,_,_,_,_,_,_,_]) rfl ?_)
     refine ldPA ag.Rat rfl rfl (vs:=[_,_,_]) rfl (nb9 rfl) (ldPA ag.Rat rfl rfl (vs:=[_,_,_]) rfl (nb9 rfl) (faP fd.Hidden_4 rfl rfl (ldPC ce.Ratss rfl rfl rfl (mvD rfl (ixLn sl.Ratss [] rfl rfl (by omega) rfl rfl (ldRC ce.Rats rfl (mvD rfl ?_)))))))
     refine ixLn sl.Rats 0 rfl rfl (by omega) rfl rfl (ldRA ag.Rat rfl (vs:=[_,_,_]) rfl (nb9 rfl) (clv rfl .rq2 (rational_MulQ (by assumption) (by assumption)) (clv rfl .rq2 (rational_AddQ (by assumption) (by assumption)) ?_)))
     rw [show preF h w (fwdF h w (t-1)) (t-1) j i+(fwdF h w (t-1)).getD i 0*(h.trans.getD i []).getD j 0=preF h w (fwdF h w (t-1)) (t-1) j (i+1) from rfl]
     refine sto sz.Rat rfl rfl rfl rfl rfl (nb9 rfl) (cells2:=[_,_,_]) rfl (OL.nil (AW.rg hE rfl (add_i64 rfl rfl (by omega) (mvD rfl (OL.nil ?_)))))
     exact AW.again (x:=i) (i+1) (by omega) ⟨by omega,Knows.app .rq15 .rq1,Owns.app (.cons rfl (.cons rfl (.cons rfl .nil))) (.cons rfl (.cons rfl (.cons rfl .nil)))⟩
    ·try simp only [dx9] at h43
     refine AW.exit ?_
     first|(refine AW.back 2001 2000 (t-1) rs rfl rfl rfl (by omega) (by rw [hpl]) (rs2:=rs) (set_same hbp).symm ?_;obtain rfl:i=h.st:=(by omega);have zs:=zpq h.st (Nat.le_refl _))|skip
     refine AW.dg 1 [0,1,2,3,4,5,6,7,8,9,10,11,12,13,14] order_free hE rfl (by kernel_rfl) (OI.of_OL (os:=[_,_,_,_,_,_,_,_,_,_,_,_,_,_,_]) rfl ?_)
     refine mvO rfl (mvD rfl (ldPA ag.Rat rfl rfl (vs:=[_,_,_]) rfl (nb9 rfl) (faP fd.Hidden_6 rfl rfl (ldPC ce.Ratss rfl rfl rfl (mvD rfl (ixLn sl.Ratss [] rfl rfl (by omega) rfl rfl (ldRC ce.Rats rfl ?_)))))))
     refine mvD rfl (bo rfl rfl (bin_sub (c:=(symX w t:Int)) (by omega) (wrap_i64 (by omega))) (ixLn sl.Rats 0 rfl rfl (by omega) rfl rfl (ldRA ag.Rat rfl (vs:=[_,_,_]) rfl (nb9 rfl) (clv rfl .rq2 (rational_MulQ (by assumption) (by assumption)) (ixOn sl.Rats rfl rfl (by omega) (stE sz.Rat rfl vd_q rfl rfl (by rw [lm9];omega) (es2:=(fillF 0 (fun j=>(fwdF h w t).getD j 0) h.st (j+1)).map dQ) (by rw [← fillF_set (show j<h.st by omega),List.map_set,hval]) (OL.nil ?_)))))))
     refine AW.rg hE rfl (add_i64 rfl rfl (by omega) (mvD rfl (OL.nil ?_)))
     exact AW.again (x:=j) (j+1) (by omega) ⟨by omega,Knows.app .rq10 .rq1,Owns.app (.cons rfl (.cons rfl (.cons rfl .nil))) (.cons rfl .nil)⟩
  ·try simp only [dx9] at h26
   refine AW.exit ?_
   obtain rfl:j=h.st:=by omega
   refine AW.rg hE rfl (mvO rfl (mvO rfl (lt1 (y:=hdC b22 h.st h.st) sl.Ratss (vd_head (by omega)) rfl (by decide) ?_)))
   refine apO sl.Ratss rfl rfl rfl (by rw [lm9,hrl]) (VC.d _) (by intro y hy;rw [ms9 hy];rfl) (by simp;omega) (by simp;omega) (.inr rfl) (ys:=(rs++[(b22,((fillF 0 (fun j=>(fwdF h w t).getD j 0) h.st h.st).map dQ))]).map hdP) (by rw [List.map_append,List.map_singleton,hdP_eq (show ((fillF 0 (fun j=>(fwdF h w t).getD j 0) h.st h.st).map dQ).length=h.st by rw [lm9,hfl])]) (n2:=t+1) (by simp) fun p2 c2=>?_
   refine asO rfl (OL.nil (AW.giveEnd 22 2000 rfl rfl (by rw [lm9,hfl]) (AW.rg hE rfl (add_i64 rfl rfl (by omega) (mvD rfl (OL.nil ?_))))))
   exact AW.again (x:=(t,p,c,rs)) (t+1,p2,c2,rs++[(b22,((fillF 0 (fun j=>(fwdF h w t).getD j 0) h.st h.st).map dQ))]) (by (simp only [];omega)) ⟨⟨by omega,by rw [List.map_append,hrs,rowsD_succ,fill_row (fwdF_len h w t)];rfl⟩,Knows.app .rq4 .rq2,Owns.app (.cons rfl .nil) (.cons rfl (.cons rfl .nil))⟩
 ·try simp only [dx9] at h16
  refine AW.exit (AW.seq ?_)
  obtain rfl:t=w.length:=by omega
  refine AW.rg hE rfl (mvO rfl (asO rfl (OL.nil ?_)))
  exact AW.ret ⟨.inr rfl,78,2000,p,c,rs,rfl,rfl,rfl,by decide,hrs⟩
theorem fwd_forward {h:HM}{B:Nat}{w:List Int}(f:h.Form B)(k:WordOK h w)(fw:Few h w):FSpecX P F.forward_forward [vHM h,.d (ints w)] w.length T.Rats T.Rat 3 (rowsD h w w.length):=fwd_forwardS f k (fwdSz f fw)
theorem fwd_forwardD {h:HM}{b B:Nat}{w:List Int}(f:HM.FormX b B h)(k:WordOK h w)(fz:FwdSz h w):FSpec P F.forward_forward [vHM h,.d (ints w)] (.d (dQss ((List.range w.length).map (fwdF h w)))):=by
 have h1:=(fwd_forwardS f k fz).data (rowsD_len h w w.length).symm
 have e:(rowsD h w w.length).map D.sl=((List.range w.length).map (fwdF h w)).map dQs:=by
  unfold rowsD
  rw [List.map_map,List.map_map];rfl
 rw [e] at h1
 exact h1
set_option maxRecDepth 4000 in
set_option maxHeartbeats 1600000 in
theorem fwd_backward {h:HM}{B:Nat}{w:List Int}(f:h.Form B)(k:WordOK h w)(fw:Few h w):FSpec P F.forward_backward [vHM h,.d (ints w)] (.d (dQss (colsB h w w.length))):=by
 have n0:=f.st0
 have n1:=f.st1
 have s1:=f.sym1
 have e1:=f.ini
 have e2:=f.trans
 have e3:=f.stop
 have e4:=f.emit
 have k1:=k.1
 have fl:=fw.len
 have fs:=fw.st
 refine FSpec.intro fn.forward_backward (by rfl) (by rfl) (nb9 (by rfl)) fun E hE=>(AW.sg hE rfl (bxA rfl rfl fun b2=>(asM rfl (OL.nil (AW.sg hE rfl (mvD rfl (lnL sl.ints rfl rfl ?_)))))))
 refine mkL dQs [] sl.Ratss z.Rats vcs_mt_rowF rfl rfl (Nat.le_refl _) (by omega) (by omega) rfl fun b13=>(asO rfl (OL.nil (AW.seq (AW.sg hE rfl (mvD rfl (lnL sl.ints rfl rfl (sub_i64 rfl rfl (by omega) ?_)))))))
 refine asD rfl (OL.nil (AW.block ?_))
 refine AW.whileK (α:=Nat) [(1,_),(2,_),(4,_),(5,_)] [(2,_)] (fun d=>[(6,.d (dI ((w.length:Int)-1-d)))]) (fun d=>[(13,.row b13 w.length T.Rats 1 ((colsB h w (d)).map dQs))]) (fun d=>d≤w.length) (fun d=>w.length-d) 0 (.cons (knD rfl) (.cons (knP rfl) (.cons (knM rfl) (.cons (knO rfl) .nil)))) (.cons (owB rfl) .nil) ⟨Nat.zero_le _,.cons (VLe.int (by omega)) .nil,.cons (by rw [colsB_zero];rfl) .nil⟩ ?_
 intro d h1
 have h1:d≤w.length:=h1
 have hcl:=colsB_len h w d
 refine AW.seq (AW.sg hE rfl (mvD rfl (c_geq rfl rfl rfl (OL.nil (AW.cond rfl (fun h18=>?_) (fun h18=>?_))))))
 ·try simp only [dx9] at h18
  refine AW.skip (AW.seq (AW.block (AW.seq ?_)))
  obtain ⟨a,ha⟩:∃ a,a=w.length-1-d:=⟨_,rfl⟩
  have zn:=bwd_szB f fw (d:=d-1) (by omega)
  have zsq:=fun i=>suf_sz (n:=i) f zn (by decide)
  refine AW.rg hE rfl (faP fd.Hidden_1 rfl rfl (ldPC ce.int rfl rfl rfl (mkL dQ 0 sl.Rats z.Rat vcs_q0 rfl rfl (Nat.le_refl _) (by omega) (by omega) rfl fun b23=>(asO rfl (OL.nil (AW.seq (AW.sg hE rfl ?_)))))))
  refine mvO rfl (lnO sl.Rats rfl rfl (mvD rfl (OL.nil (AW.block ?_))))
  refine AW.whileK (α:=Nat) [(1,_),(2,_),(4,_),(5,_),(6,_),(7,_),(25,_)] [(2,_),(13,_)] (fun i=>[(26,.d (dI i))]) (fun i=>[(23,.row b23 h.st T.Rat 3 ((fillF 0 (fun j=>(bwdF h w d).getD j 0) h.st i).map dQ))]) (fun i=>i≤h.st) (fun i=>h.st-i) 0 (.cons (knD rfl) (.cons (knP rfl) (.cons (knM rfl) (.cons (knO rfl) (.cons (knD rfl) (.cons (knO rfl) (.cons (knD rfl) .nil))))))) (.cons (owB rfl) (.cons (owR rfl) .nil)) ⟨Nat.zero_le _,.rq1,.cons (by rw [fillF_zero];rfl) .nil⟩ ?_
  intro i h2
  have h2:i≤h.st:=h2
  have hfl:=fillF_len 0 (fun j=>(bwdF h w d).getD j 0) h.st i
  refine AW.sg hE rfl (c_lss rfl rfl rfl (OL.nil (AW.seq (AW.cond rfl (fun h27=>?_) (fun h27=>?_)))))
  ·try simp only [dx9] at h27
   refine AW.skip ?_
   refine AW.midK (α:=Unit) [(1,_),(2,_),(4,_),(5,_),(6,_),(7,_),(25,_),(26,_)] [(2,_),(13,_)] (fun _u=>[]) (fun _u=>[(23,.row b23 h.st T.Rat 3 ((fillF 0 (fun j=>(bwdF h w d).getD j 0) h.st (i+1)).map dQ))]) (fun _u=>True) (.cons (knD rfl) (.cons (knP rfl) (.cons (knM rfl) (.cons (knO rfl) (.cons (knD rfl) (.cons (knO rfl) (.cons (knD rfl) (.cons (knD rfl) .nil)))))))) (.cons (owB rfl) (.cons (owR rfl) .nil)) ?_ ?_
   ·refine AW.block (AW.sg hE rfl (mvD rfl (asD rfl (OL.nil (AW.seq (AW.seq ?_))))))
    have zst:=stop_sz f i
    refine AW.rg hE rfl (mvD rfl (mvD rfl (lnL sl.ints rfl rfl (sub_i64 rfl rfl (by omega) (c_eql rfl rfl rfl (OL.nil (AW.cond rfl (fun hd0=>?_) (fun hd0=>?_))))))))
    ·have hd0:d=0:=by have:=dt9 hd0;omega
     have hval:(bwdF h w d).getD i 0=h.stop.getD i 0:=by rw [hd0];exact bwd_zero (by omega)
     refine AW.sg hE rfl (mvO rfl (mvD rfl (faP fd.Hidden_5 rfl rfl (ldPC ce.Rats rfl rfl rfl (mvD rfl (ixLn sl.Rats 0 rfl rfl (by omega) rfl rfl (ldRA ag.Rat rfl (vs:=[_,_,_]) rfl (nb9 rfl) ?_)))))))
     refine clv rfl vL (fresh_Rat (q:=h.stop.getD i 0) (by omega)) (ixOn sl.Rats rfl rfl (by omega) (stE sz.Rat rfl vd_q rfl rfl (by rw [lm9];omega) (es2:=(fillF 0 (fun j=>(bwdF h w d).getD j 0) h.st (i+1)).map dQ) (by rw [← fillF_set (show i<h.st by omega),List.map_set,hval]) (OL.nil (AW.exit ?_))))
     exact AW.reach () ⟨trivial,Knows.app .rq8 (.nil),Owns.app (.cons rfl (.cons rfl .nil)) (.cons rfl .nil)⟩
    ·have hd0:0<d:=by have:=df9 hd0;omega
     have hval:=bwd_pos hd0 ha (show i<h.st by omega)
     have hx:=k.symX (t:=a+1) (by omega)
     have hrow:=colsB_get (h:=h) (d:=d) (show a+1<w.length by omega) (by omega)
     rw [show w.length-1-(a+1)=d-1 by omega] at hrow
     have hrl:=bwdF_len h w (d-1)
     refine AW.skip (AW.sg hE rfl (mvO rfl (mvD rfl (bo rfl rfl (bin_add (c:=((a+1:Nat):Int)) (by omega) (wrap_i64 (by omega))) (ixOn sl.Ratss rfl rfl (by omega) (ldEL ce.Rats [] (by decide) rfl rfl (by rw [hcl];omega) rfl ?_))))))
     rw [hrow]
     refine lnL sl.Rats rfl rfl (mvD rfl (OL.nil (AW.block ?_)))
     refine AW.whileK (α:=Nat) [(1,_),(2,_),(4,_),(5,_),(6,_),(7,_),(8,_),(25,_),(26,_),(47,_),(48,_)] [(2,_),(13,_)] (fun j=>[(49,.d (dI j))]) (fun j=>[(23,.row b23 h.st T.Rat 3 (((fillF 0 (fun j=>(bwdF h w d).getD j 0) h.st i).set i (sufF h w (bwdF h w (d-1)) a i j)).map dQ))]) (fun j=>j≤h.st) (fun j=>h.st-j) 0 (.cons (knD rfl) (.cons (knP rfl) (.cons (knM rfl) (.cons (knO rfl) (.cons (knD rfl) (.cons (knO rfl) (.cons (knD rfl) (.cons (knD rfl) (.cons (knD rfl) (.cons (knD rfl) (.cons (knD rfl) .nil))))))))))) (.cons (owB rfl) (.cons (owR rfl) .nil)) ⟨Nat.zero_le _,.rq1,.cons (by rw [show sufF h w (bwdF h w (d-1)) a i 0=0 from rfl,fill_set_self (show i<h.st by omega)];rfl) .nil⟩ ?_
     intro j h3
     have h3:j≤h.st:=h3
     have zs:=zsq j (by omega) w a i
     refine AW.sg hE rfl (c_lss rfl rfl rfl (OL.nil (AW.seq (AW.cond rfl (fun h50=>?_) (fun h50=>?_)))))
     ·try simp only [dx9] at h50
      refine AW.skip (AW.seq (AW.block (AW.sg hE rfl (mvD rfl (ixLn sl.Rats 0 rfl rfl (by omega) rfl rfl (ldRA ag.Rat rfl (vs:=[_,_,_]) rfl (nb9 rfl) (al z.Rat rfl fun b10=>?_)))))))
      refine asD rfl (sto sz.Rat rfl rfl rfl rfl rfl (nb9 rfl) (cells2:=[_,_,_]) rfl (OL.nil ?_))
      have tri:=f.trow i (by omega)
      have erj:=f.erow j (by omega)
      have zt:sz ((h.trans.getD i []).getD j 0)≤1024:=tr_sz f i j
      have ze:sz ((h.emit.getD j []).getD (symX w (a+1)) 0)≤1024:=em_sz f j (symX w (a+1))
      have zj:=zn.get (by decide) j
      have zm:=sz_mul ((h.emit.getD j []).getD (symX w (a+1)) 0) ((bwdF h w (d-1)).getD j 0)
      have zm2:=sz_mul ((h.trans.getD i []).getD j 0) ((h.emit.getD j []).getD (symX w (a+1)) 0*(bwdF h w (d-1)).getD j 0)
      have hsl:((fillF 0 (fun j=>(bwdF h w d).getD j 0) h.st i).set i (sufF h w (bwdF h w (d-1)) a i j)).length=h.st:=by rw [List.length_set];exact hfl
      have hsg:((fillF 0 (fun j=>(bwdF h w d).getD j 0) h.st i).set i (sufF h w (bwdF h w (d-1)) a i j)).getD i 0=sufF h w (bwdF h w (d-1)) a i j:=by rw [gd9,List.getElem?_set_self (by omega)];rfl
      refine AW.dg 1 [0,1,2,3,4,5,6,7,8,9,10,11,12,13,14,15,16,17,18,19,20,21,22,23,24,25,26,27,28,29,30,31,32] order_free hE rfl (by kernel_rfl) (OI.of_OL (os:=[_,_,_,_,_,_,_,_,_,_,_,_,_,_,_,_,_,_,_,_,_,_,_,_,_,_,_,_,_,_,_,_,_]) rfl ?_)
      refine mvO rfl (mvD rfl (mvO rfl (mvD rfl (ixOn sl.Rats rfl rfl (by omega) (ldEAL ag.Rat 0 (by decide) rfl rfl (by rw [hsl];omega) (vs:=[_,_,_]) rfl (nb9 rfl) ?_)))))
      rw [hsg]
      refine faP fd.Hidden_4 rfl rfl (ldPC ce.Ratss rfl rfl rfl (mvD rfl (ixLn sl.Ratss [] rfl rfl (by omega) rfl rfl (ldRC ce.Rats rfl (mvD rfl (ixLn sl.Rats 0 rfl rfl (by omega) rfl rfl (ldRA ag.Rat rfl (vs:=[_,_,_]) rfl (nb9 rfl) ?_)))))))
      refine faP fd.Hidden_6 rfl rfl (ldPC ce.Ratss rfl rfl rfl (mvD rfl (ixLn sl.Ratss [] rfl rfl (by omega) rfl rfl (ldRC ce.Rats rfl (mvD rfl (mvD rfl (bo rfl rfl (bin_add (c:=((a+1:Nat):Int)) (by omega) (wrap_i64 (by omega))) ?_)))))))
      refine ixLn sl.ints 0 rfl rfl (by omega) rfl rfl (ldRC ce.int rfl ?_)
      rw [hx.2]
      refine bo rfl rfl (bin_sub (c:=(symX w (a+1):Int)) (by omega) (wrap_i64 (by omega))) (ixLn sl.Rats 0 rfl rfl (by omega) rfl rfl (ldRA ag.Rat rfl (vs:=[_,_,_]) rfl (nb9 rfl) (ldPA ag.Rat rfl rfl (vs:=[_,_,_]) rfl (nb9 rfl) (clv rfl .rq2 (rational_MulQ (by omega) (by omega)) (clv rfl .rq2 (rational_MulQ (by omega) (by omega)) (clv rfl .rq2 (rational_AddQ (by omega) (by omega)) ?_))))))
      rw [show sufF h w (bwdF h w (d-1)) a i j+(h.trans.getD i []).getD j 0*((h.emit.getD j []).getD (symX w (a+1)) 0*(bwdF h w (d-1)).getD j 0)=sufF h w (bwdF h w (d-1)) a i (j+1) from rfl]
      refine ixOn sl.Rats rfl rfl (by omega) (stE sz.Rat rfl vd_q rfl rfl (by rw [lm9,hsl];omega) (es2:=((fillF 0 (fun j=>(bwdF h w d).getD j 0) h.st i).set i (sufF h w (bwdF h w (d-1)) a i (j+1))).map dQ) (by rw [← List.map_set,List.set_set]) (OL.nil (AW.rg hE rfl (add_i64 rfl rfl (by omega) (mvD rfl (OL.nil ?_))))))
      exact AW.again (x:=j) (j+1) (by omega) ⟨by omega,Knows.app .rq11 .rq1,Owns.app (.cons rfl (.cons rfl .nil)) (.cons rfl .nil)⟩
     ·try simp only [dx9] at h50
      refine AW.exit ?_
      exact AW.reach () ⟨trivial,Knows.app .rq8 (.nil),Owns.app (.cons rfl (.cons rfl .nil)) (.cons (by rw [← fillF_set (show i<h.st by omega),hval,show j=h.st by omega];rfl) .nil)⟩
   rintro ⟨⟩ hφ
   refine AW.rg hE rfl (add_i64 rfl rfl (by omega) (mvD rfl (OL.nil ?_)))
   exact AW.again (x:=i) (i+1) (by omega) ⟨by omega,Knows.app .rq7 .rq1,Owns.app (.cons rfl (.cons rfl .nil)) (.cons rfl .nil)⟩
  ·try simp only [dx9] at h27
   refine AW.exit ?_
   obtain rfl:i=h.st:=by omega
   refine AW.rg hE rfl (mvO rfl (mvD rfl (mvO rfl (ixO sl.Ratss rfl rfl (by omega) (by omega) (i:=a) (by omega) (stE sz.Rats rfl (vd_head (by omega)) rfl rfl (by rw [lm9];omega) (es2:=((colsB h w (d)).map dQs).set a (hdC b23 h.st h.st)) rfl (OL.nil ?_))))))
   refine AW.freezeIn 23 13 a rfl rfl (by rw [List.getElem?_set_self (by rw [lm9];omega)]) (by rw [lm9];omega) (by decide) (AW.to [(1,.d (ints w)),(2,.ptr 2 b2 0),(4,.mt),(5,.osl 13 b13 w.length w.length),(6,.d (dI ((w.length:Int)-1-d)))] [(2,.box b2 T.Hidden (cellsHM h)),(13,.row b13 w.length T.Rats 1 ((colsB h w (d+1)).map dQs))] .rq5 (.cons rfl (.cons (frz_outerB (by omega) ha) .nil)) ?_)
   exact AW.rg hE rfl (mvD rfl (sub_i64 rfl rfl (by omega) (asD rfl (OL.nil (AW.again (x:=d) (d+1) (by omega) ⟨by omega,Knows.app .rq4 (.cons (VLe.int (by omega)) .nil),Owns.app (.cons rfl .nil) (.cons rfl .nil)⟩)))))
 ·try simp only [dx9] at h18
  refine AW.exit (AW.seq ?_)
  obtain rfl:d=w.length:=by omega
  refine AW.freeze 13 rfl (AW.to [(5,.d (dQss (colsB h w w.length)))] [] (.cons (frz_osl (by rw [lm9,hcl]) rfl) .nil) .nil ?_)
  exact AW.rg hE rfl (mvD rfl (asD rfl (OL.nil (AW.ret (RetQ.r ⟨_,.tmp rfl .nil,.le vR⟩)))))
end Go.Proofs.YtocehciipjhlkaaGreatDoor

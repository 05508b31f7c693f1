/-
  M, chapter 34, part 2: expected numbers.
-/
import Derived.Test.YtocehciipjhlkaaGreatDoorKFwdA
import Derived.Test.YtocehciipjhlkaaGreatDoorKMod34
set_option linter.unusedVariables false
set_option linter.unusedSimpArgs false
namespace Go.Proofs.YtocehciipjhlkaaGreatDoor
open Go Go.AL
theorem rational_DivQ {x y:Rat}(hx:sz x≤68719476736)(hy:sz y≤68719476736)(h0:y≠0):FSpec P F.rational_Div [vQ x,vQ y] (.tup [vQ (x / y),.d (dI 0)]):=by
 have h:=rational_Div (x:=ofQ x) (y:=ofQ y) (ofQ_ok (by omega)) (ofQ_ok (by omega))
 rw [q_ofQ,q_ofQ,if_neg h0,if_neg h0] at h;exact h
theorem fwd_likelihoodS {h:HM}{b B:Nat}{w:List Int}(f:HM.FormX b B h)(k:WordOK h w)(fz:FwdSz h w):FSpec P F.forward_likelihood [vHM h,.d (ints w)] (vQ (likF h w)):=by
 have n0:=f.st0
 have n1:=f.st1
 have s1:=f.sym1
 have e3:=f.stop
 have k1:=k.1
 have zE:=fz.empty
 refine FSpec.intro fn.forward_likelihood (by rfl) (by rfl) (nb9 (by rfl)) fun E hE=>(AW.sg hE rfl (bxA rfl rfl fun b2=>(al z.Rat rfl fun b4=>(OL.nil (AW.seq (AW.sg hE rfl (mvD rfl ?_)))))))
 refine lnL sl.ints rfl rfl (c_eql rfl rfl rfl (OL.nil (AW.cond rfl (fun h0=>?_) (fun h0=>?_))))
 ·have h0:w.length=0:=by have:=dt9 h0;omega
  rw [show likF h w=h.empty from if_pos h0]
  exact AW.sg hE rfl (faP fd.Hidden_2 rfl rfl (ldPA ag.Rat rfl rfl (vs:=[_,_,_]) rfl (nb9 rfl) (clv rfl vL (fresh_Rat (q:=h.empty) (by omega)) (sto sz.Rat rfl rfl rfl rfl rfl (nb9 rfl) (cells2:=[_,_,_]) rfl (OL.nil (AW.ret (RetQ.r ⟨_,.cellA rfl rfl ag.Rat (nb9 rfl) .nil,.ag (.cons (.le vR) (.cons (.le vR) (.cons (.le vR) .nil)))⟩)))))))
 ·have h0:w.length≠0:=fun e=>df9 h0 (by omega)
  rw [show likF h w=likN h (fwdF h w (w.length-1)) h.st from if_neg h0]
  have hfl:=fwdF_len h w (w.length-1)
  refine AW.skip (AW.sg hE rfl (bd z.Rat pl.Rat (cs:=[_,_,_]) rfl (al z.Rat rfl fun b5=>(sto sz.Rat rfl rfl rfl rfl rfl (nb9 rfl) (cells2:=[_,_,_]) rfl (OL.nil (AW.seq (AW.sg hE rfl ?_)))))))
  refine ldPA ag.Hidden rfl rfl (vs:=[_,_,_,_,_,_,_,_,_,_,_]) rfl (nb9 rfl) (mvD rfl (clv rfl vL (fwd_forwardD f k fz) (mvD rfl (lnL sl.ints rfl rfl (bo rfl rfl (bin_sub (c:=((w.length-1:Nat):Int)) (by omega) (wrap_i64 (by omega))) (ixLn sl.Ratss [] rfl rfl (by rw [lm9,List.length_range];omega) rfl rfl (ldRC ce.Rats rfl ?_)))))))
  rw [map_getD_range (fwdF h w) [] (show w.length-1<w.length by omega)]
  refine lnL sl.Rats rfl rfl (mvD rfl (OL.nil (AW.block (AW.boxW 5 (cellsQ 0) rfl vles_q ?_))))
  refine AW.whileK (α:=Nat) [(2,_),(4,_),(5,_),(22,_),(23,_)] [(2,_),(4,_)] (fun i=>[(24,.d (dI i))]) (fun i=>[(5,.box b5 T.Rat (cellsQ (likN h (fwdF h w (w.length-1)) i)))]) (fun i=>i≤h.st) (fun i=>h.st-i) 0 (.cons (knP rfl) (.cons (knP rfl) (.cons (knP rfl) (.cons (knD rfl) (.cons (knD rfl) .nil))))) (.cons (owB rfl) (.cons (owB rfl) .nil)) ⟨Nat.zero_le _,.rq1,.cons rfl .nil⟩ ?_
  intro i h1
  have h1:i≤h.st:=h1
  have zl:=fz.lik (w.length-1) i (by omega) h1
  refine AW.sg hE rfl (c_lss rfl rfl rfl (OL.nil (AW.seq (AW.cond rfl (fun h25=>?_) (fun h25=>?_)))))
  ·try simp only [dx9] at h25
   refine AW.skip (AW.seq (AW.block (AW.sg hE rfl (mvD rfl (ixLn sl.Rats 0 rfl rfl (by omega) rfl rfl (ldRA ag.Rat rfl (vs:=[_,_,_]) rfl (nb9 rfl) (al z.Rat rfl fun b7=>?_)))))))
   refine asD rfl (sto sz.Rat rfl rfl rfl rfl rfl (nb9 rfl) (cells2:=[_,_,_]) rfl (OL.nil ?_))
   have zi:=fz.fwd (w.length-1) (by omega) i
   have zt:=fz.stop i
   have zm:=fz.likM (w.length-1) i (by omega)
   refine AW.dg 1 [0,1,2,3,4,5,6,7,8,9] order_free hE rfl (by kernel_rfl) (OI.of_OL (os:=[_,_,_,_,_,_,_,_,_,_]) rfl ?_)
   refine ldPA ag.Rat rfl rfl (vs:=[_,_,_]) rfl (nb9 rfl) (ldPA ag.Rat rfl rfl (vs:=[_,_,_]) rfl (nb9 rfl) (faP fd.Hidden_5 rfl rfl (ldPC ce.Rats rfl rfl rfl (mvD rfl (ixLn sl.Rats 0 rfl rfl (by omega) rfl rfl (ldRA ag.Rat rfl (vs:=[_,_,_]) rfl (nb9 rfl) (clv rfl .rq2 (rational_MulQ (by assumption) (by assumption)) ?_)))))))
   refine clv rfl .rq2 (rational_AddQ (by assumption) (by assumption)) ?_
   rw [show likN h (fwdF h w (w.length-1)) i+(fwdF h w (w.length-1)).getD i 0*h.stop.getD i 0=likN h (fwdF h w (w.length-1)) (i+1) from rfl]
   exact sto sz.Rat rfl rfl rfl rfl rfl (nb9 rfl) (cells2:=[_,_,_]) rfl (OL.nil (AW.rg hE rfl (add_i64 rfl rfl (by omega) (mvD rfl (OL.nil (AW.again (x:=i) (i+1) (by omega) ⟨by omega,Knows.app .rq5 .rq1,Owns.app (.cons rfl (.cons rfl .nil)) (.cons rfl .nil)⟩))))))
  ·try simp only [dx9] at h25
   refine AW.exit (AW.seq ?_)
   obtain rfl:i=h.st:=by omega
   exact AW.rg hE rfl (ldPA ag.Rat rfl rfl (vs:=[_,_,_]) rfl (nb9 rfl) (sto sz.Rat rfl rfl rfl rfl rfl (nb9 rfl) (cells2:=[_,_,_]) rfl (OL.nil (AW.ret (RetQ.r ⟨_,.cellA rfl rfl ag.Rat (nb9 rfl) .nil,.ag (.cons (.le vR) (.cons (.le vR) (.cons (.le vR) .nil)))⟩)))))
theorem fwd_LikelihoodW {h:HM}{B:Nat}{w:List Int}(g:h.GoodW B)(k:WordOK h w)(fz:FwdSz h w):FSpec P F.forward_Likelihood [vHM h,.d (ints w)] (.tup [vQ (likF h w),.d (dI 0)]):=by
 refine FSpec.intro fn.forward_Likelihood (by rfl) (by rfl) (nb9 (by rfl)) fun E hE=>(AW.sg hE rfl (bxA rfl rfl fun b2=>(al z.Rat rfl fun b4=>(asD rfl (OL.nil (AW.seq (AW.sg hE rfl ?_)))))))
 refine ldPA ag.Hidden rfl rfl (vs:=[_,_,_,_,_,_,_,_,_,_,_]) rfl (nb9 rfl) (mvD rfl (clv rfl vL (forward_refuseW g k) (asD rfl (OL.nil (AW.sg hE rfl (mvD rfl (c_neq rfl rfl (c:=false) (by exact cne_f (by omega)) ?_)))))))
 refine OL.nil (cnF rfl ?_)
 refine AW.skip (AW.sg hE rfl (ldPA ag.Hidden rfl rfl (vs:=[_,_,_,_,_,_,_,_,_,_,_]) rfl (nb9 rfl) (mvD rfl (clv rfl vL (fwd_likelihoodS g.form k fz) (sto sz.Rat rfl rfl rfl rfl rfl (nb9 rfl) (cells2:=[_,_,_]) rfl (asD rfl (OL.nil ?_)))))))
 exact AW.ret (RetQ.r ⟨_,.cellA rfl rfl ag.Rat (nb9 rfl) (.tmp rfl .nil),_,.cons (.ag (.cons (.le vR) (.cons (.le vR) (.cons (.le vR) .nil)))) (.cons (.le vR) .nil),rfl⟩)
theorem fwd_likelihood {h:HM}{B:Nat}{w:List Int}(g:h.Good B)(k:WordOK h w)(fw:Few h w):FSpec P F.forward_likelihood [vHM h,.d (ints w)] (vQ (likF h w)):=fwd_likelihoodS g.form k (fwdSz g.form fw)
theorem fwd_Likelihood {h:HM}{B:Nat}{w:List Int}(g:h.Good B)(k:WordOK h w)(fw:Few h w):FSpec P F.forward_Likelihood [vHM h,.d (ints w)] (.tup [vQ (likF h w),.d (dI 0)]):=fwd_LikelihoodW g.w k (fwdSz g.form fw)
set_option maxRecDepth 4000 in
set_option maxHeartbeats 1600000 in
theorem fwd_Posterior {h:HM}{B:Nat}{w:List Int}(g:h.Good B)(k:WordOK h w)(fw:Few h w):FSpec P F.forward_Posterior [vHM h,.d (ints w)] (.tup [.d (dQss (postR h w)),.d (dI (postE h w))]):=by
 have f:=g.form
 have n0:=f.st0
 have n1:=f.st1
 have s1:=f.sym1
 have e3:=f.stop
 have k1:=k.1
 have fl:=fw.len
 have fs:=fw.st
 have zE:=f.zE
 have bB:=f.bB
 have zl:=lik_sz f fw
 refine FSpec.intro fn.forward_Posterior (by rfl) (by rfl) (nb9 (by rfl)) fun E hE=>(AW.sg hE rfl (bxA rfl rfl fun b2=>(asM rfl (asD rfl (OL.nil (AW.seq (AW.sg hE rfl ?_)))))))
 refine ldPA ag.Hidden rfl rfl (vs:=[_,_,_,_,_,_,_,_,_,_,_]) rfl (nb9 rfl) (mvD rfl (clv rfl vL (forward_refuse g k) (asD rfl (OL.nil (AW.sg hE rfl (mvD rfl (c_neq rfl rfl (c:=false) (by exact cne_f (by omega)) ?_)))))))
 refine OL.nil (cnF rfl ?_)
 refine AW.skip (AW.sg hE rfl (ldPA ag.Hidden rfl rfl (vs:=[_,_,_,_,_,_,_,_,_,_,_]) rfl (nb9 rfl) (mvD rfl (clv rfl vL (fwd_likelihood g k fw) (al z.Rat rfl fun b7=>(sto sz.Rat rfl rfl rfl rfl rfl (nb9 rfl) (cells2:=[_,_,_]) rfl (OL.nil ?_)))))))
 refine AW.seq (AW.sg hE rfl (ldPA ag.Rat rfl rfl (vs:=[_,_,_]) rfl (nb9 rfl) (clv rfl vL (rational_SignQ (x:=likF h w) (by omega)) (c_eql rfl rfl rfl (OL.nil (AW.cond rfl (fun hz=>?_) (fun hz=>?_)))))))
 ·have hz:likF h w=0:=sgnQ_eq.1 (dt9 hz)
  exact AW.sg hE rfl (asM rfl (asD rfl (OL.nil (AW.ret (RetQ.r ⟨_,.tmp rfl (.tmp rfl .nil),_,.cons (.le (by rw [postR,if_pos hz];exact VLe.mt)) (.cons (.le (VLe.int (by rw [postE,if_pos hz]))) .nil),rfl⟩)))))
 ·have hz:likF h w≠0:=fun e=>df9 hz (sgnQ_eq.2 e)
  refine AW.skip (AW.seq (AW.dg 60 [0,1,3,4,2,5,6,7] order_free hE rfl (by kernel_rfl) (OI.of_OL (os:=[_,_,_,_,_,_,_,_]) rfl ?_)))
  refine ldPA ag.Hidden rfl rfl (vs:=[_,_,_,_,_,_,_,_,_,_,_]) rfl (nb9 rfl) (mvD rfl (ldPA ag.Hidden rfl rfl (vs:=[_,_,_,_,_,_,_,_,_,_,_]) rfl (nb9 rfl) (mvD rfl (clXd rfl .rq2 (fwd_forward f k fw) rfl (by rfl) fun b28 c28 bs hbs=>(clv rfl vL (fwd_backward f k fw) (asO rfl (asD rfl ?_)))))))
  refine OL.nil (AW.seq (AW.seq ?_))
  have hrs0:=map_zip_snd hbs
  generalize List.zip bs (rowsD h w w.length)=rs0 at hrs0 ⊢
  rw [← postD_zero] at hrs0
  refine AW.unmat 28 2000 rfl rfl (AW.rg hE rfl (mvO rfl (lnO sl.Ratss rfl rfl (mvD rfl (OL.nil (AW.block ?_))))))
  refine AW.whileK (α:=Nat × List (Nat × List D)) [(4,_),(5,_),(7,_),(8,_),(9,_),(32,_),(33,_)] [(7,_)] (fun (t,rs)=>[(34,.d (dI t))]) (fun (t,rs)=>[(28,.row b28 c28 T.Rats 1 (rs.map hdP)),(2000,.pool T.Rat 3 rs)]) (fun (t,rs)=>t≤w.length∧rs.map Prod.snd=postD h w t) (fun (t,rs)=>w.length-t) (0,rs0) (.cons (knM rfl) (.cons (knD rfl) (.cons (knP rfl) (.cons (knO rfl) (.cons (knD rfl) (.cons (knO rfl) (.cons (knD rfl) .nil))))))) (.cons (owB rfl) .nil) ⟨⟨Nat.zero_le _,hrs0⟩,.rq1,.cons rfl (.cons rfl .nil)⟩ ?_
  rintro ⟨t,rs⟩ ⟨h1,hrs⟩
  have h1:t≤w.length:=h1
  have hrs:rs.map Prod.snd=postD h w t:=hrs
  have hrl:rs.length=w.length:=(snd_len hrs).trans (postD_len h w t)
  refine AW.sg hE rfl (c_lss rfl rfl rfl (OL.nil (AW.seq (AW.cond rfl (fun h35=>?_) (fun h35=>?_)))))
  ·try simp only [dx9] at h35
   refine AW.skip (AW.seq (AW.block (AW.seq ?_)))
   obtain ⟨bt,hbt⟩:=snd_get hrs (postD_get (h:=h) (w:=w) (show t<w.length by omega))
   have hlen:((fwdF h w t).map dQ).length=h.st:=by rw [lm9,fwdF_len]
   have zf:=fwd_szB f fw (t:=t) (by omega)
   have zb:=bwd_szB f fw (d:=w.length-1-t) (by omega)
   have hcl:=colsB_len h w w.length
   have hcg:=colsB_get (h:=h) (d:=w.length) (show t<w.length by omega) (by omega)
   have hbl:=bwdF_len h w (w.length-1-t)
   refine AW.takeN 2001 2000 t h.st rfl rfl hbt hlen ?_
   have hel:(rs.map hdP)[t]? = some (hdP (bt,(fwdF h w t).map dQ)):=by rw [List.getElem?_map,hbt];rfl
   refine AW.rg hE rfl (mvD rfl (ixOn sl.Ratss rfl rfl (by omega) (ldLe (.rowC (by decide) rfl rfl hel ce.Rats rfl) (vle_hdP 2001 hlen) (asD rfl (asO rfl (OL.nil (AW.sg hE rfl ?_)))))))
   refine mvO rfl (lnO sl.Rats rfl rfl (mvD rfl (OL.nil (AW.block ?_))))
   refine AW.whileK (α:=Nat) [(4,_),(5,_),(7,_),(8,_),(9,_),(10,_),(11,_),(32,_),(33,_),(34,_),(39,_),(40,_)] [(7,_),(28,_),(2000,_)] (fun i=>[(41,.d (dI i))]) (fun i=>[(2001,.row bt h.st T.Rat 3 ((mixR h w t i).map dQ))]) (fun i=>i≤h.st) (fun i=>h.st-i) 0 (.cons (knM rfl) (.cons (knD rfl) (.cons (knP rfl) (.cons (knO rfl) (.cons (knD rfl) (.cons (knD rfl) (.cons (knO rfl) (.cons (knO rfl) (.cons (knD rfl) (.cons (knD rfl) (.cons (knO rfl) (.cons (knD rfl) .nil)))))))))))) (.cons (owB rfl) (.cons (owR rfl) (.cons (owL rfl) .nil))) ⟨Nat.zero_le _,.rq1,.cons (by rw [mixR_zero];rfl) .nil⟩ ?_
   intro i h2
   have h2:i≤h.st:=h2
   have hml:=mixR_len h w t i
   refine AW.sg hE rfl (c_lss rfl rfl rfl (OL.nil (AW.seq (AW.cond rfl (fun h42=>?_) (fun h42=>?_)))))
   ·try simp only [dx9] at h42
    refine AW.skip (AW.seq (AW.block (AW.sg hE rfl (mvD rfl (ixOn sl.Rats rfl rfl (by omega) (ldEAL ag.Rat 0 (by decide) rfl rfl (by omega) (vs:=[_,_,_]) rfl (nb9 rfl) ?_))))))
    rw [mixR_get (show i<h.st by omega)]
    refine al z.Rat rfl fun b13=>(asD rfl (sto sz.Rat rfl rfl rfl rfl rfl (nb9 rfl) (cells2:=[_,_,_]) rfl (OL.nil ?_)))
    have zfi:=zf.get (by decide) i
    have zbi:=zb.get (by decide) i
    have zm:=sz_mul ((fwdF h w t).getD i 0) ((bwdF h w (w.length-1-t)).getD i 0)
    refine AW.dg 1 [0,1,2,3,4,5,6,7,8,9,10,11,12,13,14,15,16,17] order_free hE rfl (by kernel_rfl) (OI.of_OL (os:=[_,_,_,_,_,_,_,_,_,_,_,_,_,_,_,_,_,_]) rfl ?_)
    refine mvO rfl (mvD rfl (ldPA ag.Rat rfl rfl (vs:=[_,_,_]) rfl (nb9 rfl) (mvD rfl (mvD rfl (ixLn sl.Ratss [] rfl rfl (by omega) rfl rfl (ldRC ce.Rats rfl ?_))))))
    rw [hcg]
    refine mvD rfl (ixLn sl.Rats 0 rfl rfl (by omega) rfl rfl (ldRA ag.Rat rfl (vs:=[_,_,_]) rfl (nb9 rfl) (clv rfl .rq2 (rational_MulQ (by omega) (by omega)) (ldPA ag.Rat rfl rfl (vs:=[_,_,_]) rfl (nb9 rfl) (clv rfl vL (rational_DivQ (x:=(fwdF h w t).getD i 0*(bwdF h w (w.length-1-t)).getD i 0) (y:=likF h w) (by omega) (by omega) hz) ?_)))))
    rw [show (fwdF h w t).getD i 0*(bwdF h w (w.length-1-t)).getD i 0 / likF h w=postQ h w t i from rfl]
    refine mvT rfl (ex rfl rfl (ex rfl rfl (ixOn sl.Rats rfl rfl (by omega) (stE sz.Rat rfl vd_q rfl rfl (by rw [lm9];omega) (es2:=(mixR h w t (i+1)).map dQ) (by rw [← mixR_set (show i<h.st by omega),List.map_set]) (OL.nil (AW.rg hE rfl (add_i64 rfl rfl (by omega) ?_)))))))
    refine mvD rfl (OL.nil ?_)
    exact AW.again (x:=i) (i+1) (by omega) ⟨by omega,Knows.app .rq12 .rq1,Owns.app (.cons rfl (.cons rfl (.cons rfl .nil))) (.cons rfl .nil)⟩
   ·try simp only [dx9] at h42
    refine AW.exit ?_
    obtain rfl:i=h.st:=by omega
    refine AW.back 2001 2000 t rs rfl rfl rfl (by omega) (by rw [lm9,mixR_len]) rfl (AW.rg hE rfl (add_i64 rfl rfl (by omega) (mvD rfl (OL.nil ?_))))
    exact AW.again (x:=(t,rs)) (t+1,rs.set t (bt,(mixR h w t h.st).map dQ)) (by (simp only [];omega)) ⟨⟨by omega,by rw [List.map_set,hrs,mixR_all];exact postD_set (by omega)⟩,Knows.app .rq7 .rq1,Owns.app (.cons rfl .nil) (.cons (congrArg (fun z=>some (Blk.row b28 c28 T.Rats 1 z)) (by rw [List.map_set,hdP_eq (show ((mixR h w t h.st).map dQ).length=h.st by rw [lm9,mixR_len])];exact (set_same (by rw [List.getElem?_map,hbt];exact congrArg some (hdP_eq hlen))).symm)) (.cons rfl .nil))⟩
  ·try simp only [dx9] at h35
   refine AW.exit (AW.seq ?_)
   obtain rfl:t=w.length:=by omega
   refine AW.freezePool 28 2000 rfl rfl (by decide) (AW.freeze 28 rfl (AW.to [(8,.d (dQss ((List.range w.length).map (postF h w))))] [] (.cons (frz_osl (by rw [lm9];exact hrl.symm) (by rw [← postD_all,← hrs,List.map_map];rfl)) .nil) .nil ?_))
   exact AW.rg hE rfl (mvD rfl (asD rfl (asD rfl (OL.nil (AW.ret (RetQ.r ⟨_,.tmp rfl (.tmp rfl .nil),_,.cons (.le (by rw [postR,if_neg hz];exact VLe.refl _)) (.cons (.le (VLe.int (by rw [postE,if_neg hz]))) .nil),rfl⟩))))))
end Go.Proofs.YtocehciipjhlkaaGreatDoor
namespace Go.AL
open Go Go.BigFrame
def xiQ (h:HM)(w:List Int)(t i j:Nat):Rat:=(fwdF h w t).getD i 0*trQ h i j*(emQ h j (symX w (t+1))*(bwdF h w (w.length-1-(t+1))).getD j 0) / likF h w
def showQ (h:HM)(w:List Int)(n i x:Nat):Rat:=sumN (fun t=>if symX w t=x then postQ h w t i else 0) n
def moveQ (h:HM)(w:List Int)(n i j:Nat):Rat:=sumN (fun t=>xiQ h w t i j) n
def showRow (h:HM)(w:List Int)(n i:Nat):List Rat:=(List.range h.sym).map fun x=>showQ h w n i x
def moveRow (h:HM)(w:List Int)(n i:Nat):List Rat:=(List.range h.st).map fun j=>moveQ h w n i j
theorem showRow_len (h:HM)(w:List Int)(n i:Nat):(showRow h w n i).length=h.sym:=by simp [showRow]
theorem moveRow_len (h:HM)(w:List Int)(n i:Nat):(moveRow h w n i).length=h.st:=by simp [moveRow]
theorem showRow_get {h:HM}{w:List Int}{n i x:Nat}(hx:x<h.sym):(showRow h w n i).getD x 0=showQ h w n i x:=map_getD_range _ _ hx
theorem showQ_add {h:HM}{w:List Int}{n i x:Nat}(e:symX w n=x):showQ h w (n+1) i x=showQ h w n i x+postQ h w n i:=by
 unfold showQ
 rw [sumN,if_pos e]
theorem showQ_same {h:HM}{w:List Int}{n i x:Nat}(e:symX w n≠x):showQ h w (n+1) i x=showQ h w n i x:=by
 unfold showQ
 rw [sumN,if_neg e,Rat.add_zero]
theorem showRow_set {h:HM}{w:List Int}{n i x:Nat}(e:symX w n=x):(showRow h w n i).set x (showQ h w n i x+postQ h w n i)=showRow h w (n+1) i:=by
 refine List.ext_getElem (by simp [showRow]) fun k h1 h2=>?_
 rw [List.getElem_set]
 simp only [showRow,List.getElem_map,List.getElem_range]
 by_cases hq:x=k
 ·subst hq;rw [if_pos rfl,showQ_add e]
 ·rw [if_neg hq,showQ_same (by omega)]
def mixM (h:HM)(w:List Int)(T i j:Nat):List Rat:=(List.range h.st).map fun j'=>if j' < j then moveQ h w (T+1) i j' else moveQ h w T i j'
theorem mixM_len (h:HM)(w:List Int)(T i j:Nat):(mixM h w T i j).length=h.st:=by simp [mixM]
theorem mixM_zero (h:HM)(w:List Int)(T i:Nat):mixM h w T i 0=moveRow h w T i:=List.map_congr_left fun j _=>if_neg (by omega)
theorem mixM_all (h:HM)(w:List Int)(T i:Nat):mixM h w T i h.st=moveRow h w (T+1) i:=List.map_congr_left fun j hj=>if_pos (List.mem_range.1 hj)
theorem mixM_get {h:HM}{w:List Int}{T i j:Nat}(hj:j<h.st):(mixM h w T i j).getD j 0=moveQ h w T i j:=by
 unfold mixM
 rw [map_getD_range _ _ hj,if_neg (by omega)]
theorem mixM_set {h:HM}{w:List Int}{T i j:Nat}(hj:j<h.st):(mixM h w T i j).set j (moveQ h w T i j+xiQ h w T i j)=mixM h w T i (j+1):=by
 refine List.ext_getElem (by simp [mixM]) fun k h1 h2=>?_
 rw [List.getElem_set]
 simp only [mixM,List.getElem_map,List.getElem_range]
 by_cases e:j=k
 ·subst e;rw [if_pos rfl,if_pos (by omega)];rfl
 ·rw [if_neg e]
  by_cases h3:k<j
  ·rw [if_pos h3,if_pos (by omega)]
  ·rw [if_neg h3,if_neg (by omega)]
def rowsT (h:HM)(f:Nat→Nat→List Rat)(a b i:Nat):List (List D):=(List.range h.st).map fun i'=>(f (if i' < i then b else a) i').map dQ
theorem rowsT_len (h:HM)(f:Nat→Nat→List Rat)(a b i:Nat):(rowsT h f a b i).length=h.st:=by simp [rowsT]
theorem rowsT_get {h:HM}{f:Nat→Nat→List Rat}{a b i:Nat}(hi:i<h.st):(rowsT h f a b i)[i]? = some ((f a i).map dQ):=by
 unfold rowsT
 rw [List.getElem?_map,List.getElem?_range hi,Option.map_some,if_neg (by omega)]
theorem rowsT_set {h:HM}{f:Nat→Nat→List Rat}{a b i:Nat}(hi:i<h.st):(rowsT h f a b i).set i ((f b i).map dQ)=rowsT h f a b (i+1):=by
 refine List.ext_getElem (by simp [rowsT]) fun k h1 h2=>?_
 rw [List.getElem_set]
 simp only [rowsT,List.getElem_map,List.getElem_range]
 by_cases e:i=k
 ·subst e;rw [if_pos rfl,if_pos (by omega)]
 ·rw [if_neg e]
  by_cases h3:k<i
  ·rw [if_pos h3,if_pos (by omega)]
  ·rw [if_neg h3,if_neg (by omega)]
theorem rowsT_same {h:HM}{f:Nat→Nat→List Rat}{a i i2:Nat}:rowsT h f a a i=rowsT h f a a i2:=List.map_congr_left fun j _=>by split <;> split <;> rfl
theorem rowsT_all {h:HM}{f:Nat→Nat→List Rat}{a b c:Nat}:rowsT h f a b h.st=rowsT h f b c 0:=List.map_congr_left fun j hj=>by
 rw [if_pos (List.mem_range.1 hj),if_neg (by omega)]
theorem rowsT_sl {h:HM}{f:Nat→Nat→List Rat}{a c:Nat}:(rowsT h f a c 0).map D.sl=((List.range h.st).map (f a)).map dQs:=by
 unfold rowsT
 rw [List.map_map,List.map_map]
 refine List.map_congr_left fun i _=>?_
 show D.sl ((f (if i<0 then c else a) i).map dQ)=dQs (f a i)
 rw [if_neg (by omega)]
theorem sumN_szL {C:Nat}{f:Nat→Rat}:∀ n,(∀ i,i<n→sz (f i)≤C)→sz (sumN f n)≤1+n*(C+1)
 | 0,_=>by show sz 0≤_;rw [sz_zero];omega
 | n+1,hf=>by
  rw [sumN,Nat.add_mul]
  have h1:=sumN_szL n fun i hi=>hf i (by omega)
  have h2:=sz_add (sumN f n) (f n)
  have h3:=hf n (by omega)
  omega
theorem xi_sz {h:HM}{B:Nat}(f:h.Form B){w:List Int}(k:Few h w){t:Nat}(ht:t+1<w.length)(i j:Nat) :
  sz ((fwdF h w t).getD i 0*trQ h i j)≤4001024∧sz (emQ h j (symX w (t+1))*(bwdF h w (w.length-1-(t+1))).getD j 0)≤4001024∧sz ((fwdF h w t).getD i 0*trQ h i j*(emQ h j (symX w (t+1))*(bwdF h w (w.length-1-(t+1))).getD j 0))≤8002048∧sz (xiQ h w t i j)≤25000000:=by
 have h1:=(fwd_szB f k (t:=t) (by omega)).get (by decide) i
 have h2:=(bwd_szB f k (d:=w.length-1-(t+1)) (by omega)).get (by decide) j
 have h3:=lik_sz f k
 have h4:=sz_mul ((fwdF h w t).getD i 0) (trQ h i j)
 have h5:=tr_sz f i j
 have h6:=sz_mul (emQ h j (symX w (t+1))) ((bwdF h w (w.length-1-(t+1))).getD j 0)
 have h7:=em_sz f j (symX w (t+1))
 have h8:=sz_mul ((fwdF h w t).getD i 0*trQ h i j) (emQ h j (symX w (t+1))*(bwdF h w (w.length-1-(t+1))).getD j 0)
 have h9:=sz_div ((fwdF h w t).getD i 0*trQ h i j*(emQ h j (symX w (t+1))*(bwdF h w (w.length-1-(t+1))).getD j 0)) (likF h w)
 unfold xiQ
 refine ⟨by omega,by omega,by omega,by omega⟩
theorem show_sz {h:HM}{B n:Nat}(f:h.Form B){w:List Int}(k:Few h w)(hn:n≤w.length)(i x:Nat):sz (showQ h w n i x)≤160000000:=by
 have h1:=sumN_szL (C:=25000000) (f:=fun t=>if symX w t=x then postQ h w t i else 0) n fun t ht=>by
  show sz (if symX w t=x then postQ h w t i else 0)≤25000000
  split
  ·exact post_sz f k (by omega) i
  ·rw [sz_zero];omega
 have hl:=k.len
 have h2:n*25000001≤6*25000001:=Nat.mul_le_mul_right _ (by omega)
 unfold showQ
 omega
theorem move_sz {h:HM}{B n:Nat}(f:h.Form B){w:List Int}(k:Few h w)(hn:n<w.length)(i j:Nat):sz (moveQ h w n i j)≤160000000:=by
 have h1:=sumN_szL (C:=25000000) (f:=fun t=>xiQ h w t i j) n fun t ht=>(xi_sz f k (by omega) i j).2.2.2
 have hl:=k.len
 have h2:n*25000001≤6*25000001:=Nat.mul_le_mul_right _ (by omega)
 unfold moveQ
 omega
def exS (h:HM)(w:List Int):List Rat:=if likF h w=0 then [] else if w.length=0 then List.replicate h.st 0 else postF h w 0
def exE (h:HM)(w:List Int):List Rat:=if likF h w=0 then [] else if w.length=0 then List.replicate h.st 0 else postF h w (w.length-1)
def exM (h:HM)(w:List Int):List (List Rat):=if likF h w=0 then [] else (List.range h.st).map fun i=>moveRow h w (w.length-1) i
def exO (h:HM)(w:List Int):List (List Rat):=if likF h w=0 then [] else (List.range h.st).map fun i=>showRow h w w.length i
theorem rows_zero {h:HM}{f:Nat→Nat→List Rat}{n b:Nat}(hf:∀ i,i<h.st→f 0 i=List.replicate n 0):rowsT h f 0 b 0=List.replicate h.st ((List.replicate n 0).map dQ):=by
 refine List.ext_getElem (by simp [rowsT]) fun k h1 h2=>?_
 have hk:k<h.st:=by simpa [rowsT] using h1
 simp only [rowsT,List.getElem_map,List.getElem_range,List.getElem_replicate]
 rw [if_neg (by omega),hf k hk]
theorem showRow_zero (h:HM)(w:List Int)(i:Nat):showRow h w 0 i=List.replicate h.sym 0:=by
 refine List.ext_getElem (by simp [showRow]) fun k h1 h2=>?_
 simp only [showRow,List.getElem_map,List.getElem_range,List.getElem_replicate]
 rfl
theorem moveRow_zero (h:HM)(w:List Int)(i:Nat):moveRow h w 0 i=List.replicate h.st 0:=by
 refine List.ext_getElem (by simp [moveRow]) fun k h1 h2=>?_
 simp only [moveRow,List.getElem_map,List.getElem_range,List.getElem_replicate]
 rfl
end Go.AL

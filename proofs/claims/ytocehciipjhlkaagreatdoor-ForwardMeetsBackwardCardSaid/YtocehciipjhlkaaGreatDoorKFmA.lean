/-
  The law ForwardMeetsBackward walked (printed by mk2.py).
-/
import Derived.Test.YtocehciipjhlkaaGreatDoorKFwdK
import Derived.Test.YtocehciipjhlkaaGreatDoorKHxM
import Derived.Test.YtocehciipjhlkaaGreatDoorKHxG
import Derived.Test.YtocehciipjhlkaaGreatDoorKWkYS
set_option linter.unusedVariables false
set_option linter.unusedSimpArgs false
namespace Go.Proofs.YtocehciipjhlkaaGreatDoor
open Go Go.AL
theorem arcs_few {h:HM}{b B:Nat}(f:HM.FormX b B h)(h3:h.st≤3)(y3:h.sym≤3):(autoHM h).arcs.length≤64:=by
 have h1:=arF_len (g:=h) (k:=h.st+1) (n:=3) (m:=3) (fun j hj=>by rw [rowHA_len f (by omega)];exact h3) (fun i=>by
  rcases Nat.lt_or_ge i h.st with hi|hi
  ·rw [f.erow i hi];exact y3
  ·rw [getD_ge (by rw [f.emit];exact hi)];exact Nat.zero_le _)
 show (arF h (h.st+1)).length≤64
 omega
theorem r8WeightH {h:HM}{B C:Nat}(g:HM.GoodX 1048576 B h)(na:(autoHM h).arcs.length≤64){w:List Int}(hw:InW h.sym w)(hl:w.length≤256)(hC:1≤C∧C≤100000000)(hB:B+B≤C)
  (hf:∀ k,k≤w.length→∀ t j,t<(w.take k).length→sz ((fwdF h (w.take k) t).getD j 0)≤C):FSpec P F.ref08_Weight [vAu (normOf (autoHM h)),.d (ints w)] (.tup [vW (likF h w),.d (dI 0)]):=by
 have ok:=autoHM_ok g
 have nk:=norm_ok ok
 have he:∀ s i j,sz (entA (autoHM h).arcs s i j)≤C:=fun s i j=>Nat.le_trans (autoHM_ent g s i j) hB
 have z:=autoHM_szS g na
 have st:(autoHM h).st≤64:=by have:=g.form.st1;show h.st+1≤64;omega
 have zn:(normOf (autoHM h)).Sz 134217728 64:=⟨z.ini,z.fin,fun x hx=>Nat.le_trans (norm_small ok he hx) (by omega),Nat.le_trans (tidyA_len _) na⟩
 have zz:FwSz (normOf (autoHM h)) w:=fw_small ok na hw hC (fun k hk j=>vecH_sz g hC.1 (fun x hx=>hw x (List.mem_of_mem_take hx)) (hf k hk) j) he ((autoHM_fin g).mono (by omega)) st
 have e:serA (normOf (autoHM h)) w=likF h w:=by rw [ser_norm];exact ser_lik g hw
 have r:=r8WeightS (a:=normOf (autoHM h)) (w:=w) ⟨nk,zn,g.form.sym1,st,zz⟩ hw hl
 rw [e] at r
 exact r
theorem fwd_ForwardE {h:HM}{B:Nat}{w:List Int}(g:h.Good B)(k:WordOK h w)(fw:Few h w):FSpec P F.forward_Forward [vHM h,.d (ints w)] (.tup [.d (dQss ((List.range w.length).map (fwdF h w))),.d (dI 0)]):=by
 refine FSpec.intro fn.forward_Forward (by rfl) (by rfl) (nb9 (by rfl)) fun E hE=>(AW.sg hE rfl (bxA rfl rfl fun b2=>(asM rfl (asD rfl (OL.nil (AW.seq (AW.sg hE rfl ?_)))))))
 refine ldPA ag.Hidden rfl rfl (vs:=[_,_,_,_,_,_,_,_,_,_,_]) rfl (nb9 rfl) (mvD rfl (clv rfl vL (forward_refuse g k) (asD rfl (OL.nil (AW.sg hE rfl (mvD rfl (c_neq rfl rfl (c:=false) (by exact cne_f (by omega)) ?_)))))))
 refine OL.nil (cnF rfl ?_)
 refine AW.skip (AW.sg hE rfl (ldPA ag.Hidden rfl rfl (vs:=[_,_,_,_,_,_,_,_,_,_,_]) rfl (nb9 rfl) (mvD rfl (clv rfl vL (fwd_forwardD g.form k (fwdSz g.form fw)) (asD rfl (asD rfl (OL.nil ?_)))))))
 exact AW.ret (RetQ.r ⟨_,.tmp rfl (.tmp rfl .nil),_,.cons (.le vR) (.cons (.le vR) .nil),rfl⟩)
theorem fwd_BackwardE {h:HM}{B:Nat}{w:List Int}(g:h.Good B)(k:WordOK h w)(fw:Few h w):FSpec P F.forward_Backward [vHM h,.d (ints w)] (.tup [.d (dQss (colsB h w w.length)),.d (dI 0)]):=by
 refine FSpec.intro fn.forward_Backward (by rfl) (by rfl) (nb9 (by rfl)) fun E hE=>(AW.sg hE rfl (bxA rfl rfl fun b2=>(asM rfl (asD rfl (OL.nil (AW.seq (AW.sg hE rfl ?_)))))))
 refine ldPA ag.Hidden rfl rfl (vs:=[_,_,_,_,_,_,_,_,_,_,_]) rfl (nb9 rfl) (mvD rfl (clv rfl vL (forward_refuse g k) (asD rfl (OL.nil (AW.sg hE rfl (mvD rfl (c_neq rfl rfl (c:=false) (by exact cne_f (by omega)) ?_)))))))
 refine OL.nil (cnF rfl ?_)
 refine AW.skip (AW.sg hE rfl (ldPA ag.Hidden rfl rfl (vs:=[_,_,_,_,_,_,_,_,_,_,_]) rfl (nb9 rfl) (mvD rfl (clv rfl vL (fwd_backward g.form k fw) (asD rfl (asD rfl (OL.nil ?_)))))))
 exact AW.ret (RetQ.r ⟨_,.tmp rfl (.tmp rfl .nil),_,.cons (.le vR) (.cons (.le vR) .nil),rfl⟩)
set_option maxRecDepth 16000 in
set_option maxHeartbeats 6400000 in
theorem law34_FMBQ {h:HM}{w L l:List Int}{cs cy:Int}(hc:FSpec P F.world_Chain_Hidden [.ag [.d (dI cs),.d (dI cy),.d (ints L)],.d (dI 3)] (vHM h))(hwd:FSpec P F.world_Word [.d (ints l),.d (dI h.sym),.d (dI 5)] (.d (ints w)))(g:h.Good 1)(h3:h.st≤3)(y3:h.sym≤3)(kw:WordOK h w)(wl:w.length≤5):FSpec P F.law34_ForwardMeetsBackward [.ag [.d (dI cs),.d (dI cy),.d (ints L)],.d (ints l)] (.d (dB true)):=by
 have f:=g.form
 have n0:=f.st0
 have s0:=f.sym0
 have fw:Few h w:=⟨by omega,by omega⟩
 have na:=arcs_few f h3 y3
 have zl:sz (likF h w)≤68719476736:=Nat.le_trans (lik_sz f fw) (by decide)
 obtain ⟨Fm,hFm⟩:∃ Fm,(List.range w.length).map (fwdF h w)=Fm:=⟨_,rfl⟩
 have hFl:Fm.length=w.length:=by rw [← hFm,lm9,List.length_range]
 have hFg:∀ t,t<w.length→Fm.getD t []=fwdF h w t:=fun t ht=>by rw [← hFm];exact map_getD_range _ _ ht
 obtain ⟨Bm,hBm⟩:∃ Bm,colsB h w w.length=Bm:=⟨_,rfl⟩
 have hBl:Bm.length=w.length:=by rw [← hBm];exact colsB_len h w w.length
 have hBg:∀ t,t<w.length→Bm.getD t []=bwdF h w (w.length-1-t):=fun t ht=>by rw [← hBm];exact colsB_get ht (by omega)
 refine FSpec.intro fn.law34_ForwardMeetsBackward (by rfl) (by rfl) (nb9 (by rfl)) fun E hE=>(AW.sg hE rfl (bxA rfl rfl fun b2=>(asD rfl (OL.nil (AW.sg hE rfl (ldPA ag.Chain rfl rfl (vs:=[_,_,_]) rfl (nb9 rfl) (clv rfl vL (hc) ?_)))))))
 refine al z.Hidden rfl fun b5=>(sto sz.Hidden rfl rfl rfl rfl rfl (nb9 rfl) (cells2:=[_,_,_,_,_,_,_,_,_,_,_]) rfl (OL.nil (AW.sg hE rfl (mvD rfl (faP fd.Hidden_0 rfl rfl (ldPC ce.int rfl rfl rfl (clv rfl vL (hwd) ?_)))))))
 refine asD rfl (OL.nil (AW.sg hE rfl (ldPA ag.Hidden rfl rfl (vs:=[_,_,_,_,_,_,_,_,_,_,_]) rfl (nb9 rfl) (mvD rfl (clv rfl vL (fwd_ForwardE g kw fw) ?_)))))
 rw [hFm]
 refine mvT rfl (ex rfl rfl (ex rfl rfl (asD rfl (asD rfl (OL.nil (AW.sg hE rfl (ldPA ag.Hidden rfl rfl (vs:=[_,_,_,_,_,_,_,_,_,_,_]) rfl (nb9 rfl) ?_)))))))
 refine mvD rfl (clv rfl vL (fwd_BackwardE g kw fw) ?_)
 rw [hBm]
 refine mvT rfl (ex rfl rfl (ex rfl rfl (asD rfl (asD rfl (OL.nil (AW.sg hE rfl (ldPA ag.Hidden rfl rfl (vs:=[_,_,_,_,_,_,_,_,_,_,_]) rfl (nb9 rfl) ?_)))))))
 refine mvD rfl (clv rfl vL (fwd_Likelihood g kw fw) (mvT rfl (ex rfl rfl (ex rfl rfl (al z.Rat rfl fun b11=>(sto sz.Rat rfl rfl rfl rfl rfl (nb9 rfl) (cells2:=[_,_,_]) rfl (asD rfl ?_)))))))
 refine OL.nil (AW.sg hE rfl (ldPA ag.Hidden rfl rfl (vs:=[_,_,_,_,_,_,_,_,_,_,_]) rfl (nb9 rfl) (clv rfl vL (AutomatonG (h0:=h) (h:=h) (hmm_Valid_okW g.w) (EmitX g.w) rfl g.w na) (mvT rfl (ex rfl rfl (ex rfl rfl (al z.Auto rfl fun b13=>?_)))))))
 refine sto sz.Auto rfl rfl rfl rfl rfl (nb9 rfl) (cells2:=[_,_,_,_,_,_,_]) rfl (asD rfl (OL.nil (AW.sg hE rfl (ldPA ag.Auto rfl rfl (vs:=[_,_,_,_,_,_,_]) rfl (nb9 rfl) (mvD rfl ?_)))))
 refine clv rfl vL (r8WeightH (h:=h) (C:=4000000) g.w na (w:=w) (fun x hx=>kw.2 x hx) kw.1 (by decide) (by decide) fun k hk t j ht=>(fwd_szB f (w:=w.take k) ⟨by omega,by rw [List.length_take];omega⟩ ht).get (by decide) j) ?_
 refine mvT rfl (ex rfl rfl (ex rfl rfl (al z.Weight rfl fun b15=>(sto sz.Weight rfl rfl rfl rfl rfl (nb9 rfl) (cells2:=[_,_,_,_,_,_,_,_]) rfl (asD rfl (OL.nil (AW.seq ?_)))))))
 refine AW.sg hE rfl (mvD rfl (c_neq rfl rfl (c:=false) (by exact cne_f (by omega)) (mvD rfl (OL.yes rfl (mvD rfl (OL.yes rfl (c_neq rfl rfl (c:=false) (by exact cne_f (by omega)) ?_)))))))
 refine pkF rfl rfl (mvD rfl (OL.yes rfl (mvD rfl (OL.yes rfl (c_neq rfl rfl (c:=false) (by exact cne_f (by omega)) (pkF rfl rfl (mvD rfl ?_)))))))
 refine OL.yes rfl (mvD rfl (OL.yes rfl (c_neq rfl rfl (c:=false) (by exact cne_f (by omega)) (pkF rfl rfl (mvD rfl (OL.yes rfl (mvD rfl ?_)))))))
 refine OL.yes rfl (c_neq rfl rfl (c:=false) (by exact cne_f (by omega)) (pkF rfl rfl (mvD rfl (OL.yes rfl (mvD rfl (OL.yes rfl (lnL sl.Ratss rfl rfl ?_)))))))
 refine OL.yes rfl (mvD rfl (OL.yes rfl (lnL sl.ints rfl rfl (OL.yes rfl (c_neq rfl rfl (c:=false) (cne_f (by rw [hFl])) (pkF rfl rfl (mvD rfl ?_)))))))
 refine OL.yes rfl (mvD rfl (OL.yes rfl (lnL sl.Ratss rfl rfl (OL.yes rfl (mvD rfl (OL.yes rfl (lnL sl.ints rfl rfl ?_)))))))
 refine OL.yes rfl (c_neq rfl rfl (c:=false) (cne_f (by rw [hBl])) (pkF rfl rfl (mvD rfl (OL.yes rfl (ldPA ag.Rat rfl rfl (vs:=[_,_,_]) rfl (nb9 rfl) (OL.yes rfl (faP fd.Weight_0 rfl rfl ?_)))))))
 refine OL.yes rfl (ldPA ag.Rat rfl rfl (vs:=[_,_,_]) rfl (nb9 rfl) (OL.yes rfl (clv rfl vL (ref_CompareQ (x:=(likF h w)) (y:=(likF h w)) zl zl) ?_)))
 rw [show cmpQ (likF h w) (likF h w)=0 from cmpQ_eq.2 rfl]
 refine OL.yes rfl (c_neq rfl rfl (c:=false) (by exact cne_f (by omega)) (pkF rfl rfl (OL.nil (cnF rfl ?_))))
 refine AW.skip (AW.seq (AW.sg hE rfl (asD rfl (OL.nil (AW.block ?_)))))
 refine AW.whileK (α:=Nat) [(5,_),(6,_),(7,_),(9,_),(11,_)] [(5,_),(11,_)] (fun t=>[(17,.d (dI t))]) (fun t=>[]) (fun t=>t≤w.length) (fun t=>w.length-t) 0 (.cons (knP rfl) (.cons (knD rfl) (.cons (knD rfl) (.cons (knD rfl) (.cons (knP rfl) .nil))))) (.cons (owB rfl) (.cons (owB rfl) .nil)) ⟨Nat.zero_le _,.rq1,.nil⟩ ?_
 intro t h1
 have h1:t≤w.length:=h1
 refine AW.seq (AW.sg hE rfl (mvD rfl (mvD rfl (lnL sl.ints rfl rfl (c_lss rfl rfl rfl (OL.nil (AW.cond rfl (fun h97=>?_) (fun h97=>?_))))))))
 ·try simp only [dx9] at h97
  refine AW.skip (AW.seq (AW.block (AW.seq ?_)))
  have ht:t<w.length:=by omega
  have zf:=fwd_szB f fw ht
  have zb:=bwd_szB f fw (d:=w.length-1-t) (by omega)
  have lf:=fwdF_len h w t
  have lb:=bwdF_len h w (w.length-1-t)
  have hS:(sumN (fun i=>(fwdF h w t).getD i 0*(bwdF h w (w.length-1-t)).getD i 0) h.st)=(likF h w):=fb_sum (d:=w.length-1-t) (t:=t) (by omega)
  have gF:=hFg t ht
  have gB:=hBg t ht
  refine AW.rg hE rfl (bd z.Rat pl.Rat (cs:=[_,_,_]) rfl (al z.Rat rfl fun b18=>(sto sz.Rat rfl rfl rfl rfl rfl (nb9 rfl) (cells2:=[_,_,_]) rfl (OL.nil (AW.seq (AW.sg hE rfl (asD rfl ?_)))))))
  refine OL.nil (AW.block (AW.boxW 18 (cellsQ 0) rfl vles_q ?_))
  refine AW.whileK (α:=Nat) [(5,_),(6,_),(7,_),(9,_),(11,_),(17,_),(18,_)] [(5,_),(11,_)] (fun s=>[(19,.d (dI s))]) (fun s=>[(18,.box b18 T.Rat (cellsQ (sumN (fun i=>(fwdF h w t).getD i 0*(bwdF h w (w.length-1-t)).getD i 0) s)))]) (fun s=>s≤h.st) (fun s=>h.st-s) 0 (.cons (knP rfl) (.cons (knD rfl) (.cons (knD rfl) (.cons (knD rfl) (.cons (knP rfl) (.cons (knD rfl) (.cons (knP rfl) .nil))))))) (.cons (owB rfl) (.cons (owB rfl) .nil)) ⟨Nat.zero_le _,.rq1,.cons rfl .nil⟩ ?_
  intro s h2
  have h2:s≤h.st:=h2
  have zs:=sumN_szL (C:=8000000) (f:=fun i=>(fwdF h w t).getD i 0*(bwdF h w (w.length-1-t)).getD i 0) s fun i _=>by
   have q1:=sz_mul ((fwdF h w t).getD i 0) ((bwdF h w (w.length-1-t)).getD i 0)
   have q2:=zf.get (by decide) i
   have q3:=zb.get (by decide) i
   omega
  have zs2:=Nat.mul_le_mul_right (8000000+1) (show s≤3 by omega)
  have zm:=sz_mul ((fwdF h w t).getD s 0) ((bwdF h w (w.length-1-t)).getD s 0)
  have zf1:=zf.get (by decide) s
  have zb1:=zb.get (by decide) s
  refine AW.seq (AW.sg hE rfl (mvD rfl (faP fd.Hidden_1 rfl rfl (ldPC ce.int rfl rfl rfl (c_lss rfl rfl rfl (mvD rfl (OL.split 105 rfl (fun hs=>?_) (fun hs=>?_))))))))
  ·have hs:s<h.st:=by have:=dt9 hs;omega
   refine OL.yes rfl (mvD rfl (OL.yes rfl (mvD rfl (OL.yes rfl (mvD rfl (OL.yes rfl (ixLn sl.Ratss [] rfl rfl (by omega) rfl rfl ?_)))))))
   refine OL.yes rfl (ldRC ce.Rats rfl ?_)
   rw [gF]
   refine OL.yes rfl (lnL sl.Rats rfl rfl ?_)
   rw [lf]
   refine OL.yes rfl (c_lss rfl rfl (c:=true) (by exact decide_eq_true (by omega)) (pkT rfl rfl (mvD rfl (OL.yes rfl (mvD rfl (OL.yes rfl (mvD rfl ?_)))))))
   refine OL.yes rfl (mvD rfl (OL.yes rfl (ixLn sl.Ratss [] rfl rfl (by omega) rfl rfl (OL.yes rfl (ldRC ce.Rats rfl ?_)))))
   rw [gB]
   refine OL.yes rfl (lnL sl.Rats rfl rfl ?_)
   rw [lb]
   refine OL.yes rfl (c_lss rfl rfl (c:=true) (by exact decide_eq_true (by omega)) (pkT rfl rfl (OL.nil (cnT rfl ?_))))
   refine AW.skip (AW.seq (AW.block (AW.dg 1 [0,1,2,3,4,5,6,7,8,9,10,11,12,13,14,15,16,17] order_free hE rfl (by kernel_rfl) (OI.of_OL (os:=[_,_,_,_,_,_,_,_,_,_,_,_,_,_,_,_,_,_]) rfl ?_))))
   refine ldPA ag.Rat rfl rfl (vs:=[_,_,_]) rfl (nb9 rfl) (mvD rfl (mvD rfl (ixLn sl.Ratss [] rfl rfl (by omega) rfl rfl (ldRC ce.Rats rfl ?_))))
   rw [gF]
   refine mvD rfl (ixLn sl.Rats 0 rfl rfl (by omega) rfl rfl (ldRA ag.Rat rfl (vs:=[_,_,_]) rfl (nb9 rfl) (mvD rfl (mvD rfl (ixLn sl.Ratss [] rfl rfl (by omega) rfl rfl (ldRC ce.Rats rfl ?_))))))
   rw [gB]
   refine mvD rfl (ixLn sl.Rats 0 rfl rfl (by omega) rfl rfl (ldRA ag.Rat rfl (vs:=[_,_,_]) rfl (nb9 rfl) (clv rfl vL (ref_MulQ (x:=(fwdF h w t).getD s 0) (y:=(bwdF h w (w.length-1-t)).getD s 0) (by omega) (by omega)) (clv rfl vL (ref_AddQ (x:=(sumN (fun i=>(fwdF h w t).getD i 0*(bwdF h w (w.length-1-t)).getD i 0) s)) (y:=(fwdF h w t).getD s 0*(bwdF h w (w.length-1-t)).getD s 0) (by omega) (by omega)) ?_))))
   rw [show (sumN (fun i=>(fwdF h w t).getD i 0*(bwdF h w (w.length-1-t)).getD i 0) s)+(fwdF h w t).getD s 0*(bwdF h w (w.length-1-t)).getD s 0=(sumN (fun i=>(fwdF h w t).getD i 0*(bwdF h w (w.length-1-t)).getD i 0) (s+1)) from rfl]
   refine sto sz.Rat rfl rfl rfl rfl rfl (nb9 rfl) (cells2:=[_,_,_]) rfl (OL.nil (AW.rg hE rfl (mvD rfl (add_i64 rfl rfl (by omega) (asD rfl (OL.nil ?_))))))
   exact AW.again (x:=s) (s+1) (by omega) ⟨by omega,Knows.app .rq7 .rq1,Owns.app (.cons rfl (.cons rfl .nil)) (.cons rfl .nil)⟩
  ·have hs:¬ s<h.st:=by have:=df9 hs;omega
   refine OL.nd rfl (OL.nd rfl (OL.nd rfl (OL.nd rfl (OL.nd rfl (OL.nd rfl (OL.nd rfl (pkF rfl rfl ?_)))))))
   refine mvD rfl (OL.nd rfl (OL.nd rfl (OL.nd rfl (OL.nd rfl (OL.nd rfl (OL.nd rfl (OL.nd rfl ?_)))))))
   refine pkF rfl rfl (OL.nil (cnF rfl ?_))
   refine AW.exit (AW.seq ?_)
   obtain rfl:s=h.st:=by omega
   rw [hS]
   refine AW.rg hE rfl (ldPA ag.Rat rfl rfl (vs:=[_,_,_]) rfl (nb9 rfl) (ldPA ag.Rat rfl rfl (vs:=[_,_,_]) rfl (nb9 rfl) (clv rfl vL (ref_CompareQ (x:=(likF h w)) (y:=(likF h w)) zl zl) ?_)))
   rw [show cmpQ (likF h w) (likF h w)=0 from cmpQ_eq.2 rfl]
   refine c_neq rfl rfl (c:=false) (by exact cne_f (by omega)) (OL.nil (cnF rfl ?_))
   exact AW.skip (AW.rg hE rfl (mvD rfl (add_i64 rfl rfl (by omega) (asD rfl (OL.nil (AW.again (x:=t) (t+1) (by omega) ⟨by omega,Knows.app .rq5 .rq1,Owns.app (.cons rfl (.cons rfl .nil)) (.nil)⟩))))))
 ·try simp only [dx9] at h97
  exact AW.exit (AW.sg hE rfl (clv rfl (.nil) (law34_known) (asD rfl (OL.nil (AW.ret (RetQ.r ⟨_,.tmp rfl .nil,.le vR⟩))))))
theorem law_ForwardMeetsBackward {L l:List Int}{cs cy:Int}(nL:L.length≤9223372036854775807):FSpec P F.law34_ForwardMeetsBackward [.ag [.d (dI cs),.d (dI cy),.d (ints L)],.d (ints l)] (.d (dB true)):=by
 have h1:=chain_Hidden (cs:=cs) (cy:=cy) (most:=3) (by decide) nL
 have h2:=chainHM_good L cs cy (most:=3) (by decide)
 have h3:=chainHM_st L cs cy (most:=3) (by decide)
 have hsy:(chainHM L cs cy 3).sym≤3:=(chSym_range cy).2.1
 generalize chainHM L cs cy 3=h at *
 have s0:=h2.form.sym0
 exact law34_FMBQ h1 (world_Word (sym:=h.sym) (most:=5) ⟨s0,by omega⟩ (by decide)) h2 (by omega) hsy (wordF_ok s0 (by decide)) (wordF_len ..)
end Go.Proofs.YtocehciipjhlkaaGreatDoor

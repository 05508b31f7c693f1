/-
  Walks of the specification's checks of models, for valid models without silent states (printed by mk2.py).
-/
import Derived.Test.YteiohkpjgcioaaaGreatDoorKSampleA
set_option maxRecDepth 6000
set_option maxHeartbeats 3200000
set_option linter.unusedVariables false
set_option linter.unusedSimpArgs false
namespace Go.Proofs.YteiohkpjgcioaaaGreatDoor
open Go Go.AL
theorem Yf {x:Rat}(hx:sz x<=274877906944):ai P F.uN [vQ x] (.d (dB true)):=by
 have h:=J7 (r:=eU x) (qQ hx);rw[I5] at h;exact h
theorem y5 (l:List Rat)(x:Rat):iG (l++[x])=x+iG l:=by
 unfold iG;rw[List.foldl_append];exact Rat.add_comm ..
theorem Yg {l:List Rat}{B:Nat}(hl:Small B l)(hB:B<=1048576)(hn:l.length<=1024):ai P F.Gh [.d (o9 l)] (vQ (iG l)):=by
 refine ai.intro fn.Gh (by rfl) (by rfl) (au (by rfl)) λE hE=>(AW.sg hE rfl (al z.Rat rfl λb2=>(OL.nil (AW.sg hE rfl (bd z.Rat pl.Rat (cs:=[_,_,_]) rfl (al z.Rat rfl λb3=>(dA sz.Rat rfl rfl rfl rfl rfl (au rfl) (cells2:=[_,_,_]) rfl ?_)))))))
 refine OL.nil (AW.seq (AW.sg hE rfl (ay rfl (OL.nil (AW.block (AW.vC 3 (yI 0) rfl Xv ?_))))));refine AW.aK (α:=Nat) [(0,_),(2,_),(3,_)] [(2,_)] (λi=>[(4,.d (dI i))]) (λi=>[(3,.box b3 T.Rat (yI (iG (l.take i))))]) (λi=>i<=l.length) (λi=>l.length-i) 0 (.cons (bM rfl) (.cons (fG rfl) (.cons (fG rfl) .nil))) (.cons (iJ rfl) .nil) ⟨Nat.zero_le _,.bC,.cons rfl .nil⟩ ?_;intro i h1;refine AW.seq (AW.sg hE rfl (ah rfl (ah rfl (eH sl.aQ rfl rfl (aN rfl rfl rfl (OL.nil (AW.cond rfl (λh9=>?_) (λh9=>?_))))))))
 .try simp only[bY] at h9
  refine AW.skip (AW.seq (AW.block ?_));have hs:=Jc (hl.take i) (by rw[List.length_take];omega) hB
  have hx:=(hl.mono (Nat.le_max_left B 1)).get (Nat.le_max_right B 1) i;refine AW.dg 1 [0,1,2,3,4,5,6] aj hE rfl (by kernel_rfl) (OI.aP (os:=[_,_,_,_,_,_,_]) rfl ?_)
  refine aG ag.Rat rfl rfl (vs:=[_,_,_]) rfl (au rfl) (ah rfl (ah rfl (bg sl.aQ 0 rfl rfl (by omega) rfl rfl (iU ag.Rat rfl (vs:=[_,_,_]) rfl (au rfl) (aY rfl vL (Cm (x:=iG (l.take i)) (y:=l.getD i 0) (by omega) (by omega)) (dA sz.Rat rfl rfl rfl rfl rfl (au rfl) (cells2:=[_,_,_]) rfl (OL.nil ?_)))))))
  exact AW.rg hE rfl (ah rfl (aB rfl rfl (by omega) (ay rfl (OL.nil (AW.again (x:=i) (i+1) (by omega) ⟨by omega,Knows.app .wL .bC,bn.app (.cons rfl .nil) (.cons (by rw[zW (by omega)];rfl) .nil)⟩)))))
 .try simp only[bY] at h9
  refine AW.exit (AW.seq ?_);obtain rfl:i=l.length:=by omega
  rw[List.take_length];exact AW.rg hE rfl (aG ag.Rat rfl rfl (vs:=[_,_,_]) rfl (au rfl) (dA sz.Rat rfl rfl rfl rfl rfl (au rfl) (cells2:=[_,_,_]) rfl (OL.nil (AW.ret (aH.r ⟨_,.dD rfl rfl ag.Rat (au rfl) .nil,.ag (.cons (.le vR) (.cons (.le vR) (.cons (.le vR) .nil)))⟩)))))
theorem mW {q:Rat}(hs:sN q)(hz:sz q<=1048576):ai P F.mW [vQ q] (.d (dB true)):=by
 have h1K:=z1K;refine ai.intro fn.mW (by rfl) (by rfl) (au (by rfl)) λE hE=>(AW.sg hE rfl (iC rfl rfl λb1=>(ay rfl (OL.nil (AW.seq (AW.dg 1 [0,1,2,3,4,5,6,7,8,9,10,11,12,13] aj hE rfl (by kernel_rfl) (OI.aP (os:=[_,_,_,_,_,_,_,_,_,_,_,_,_,_]) rfl ?_)))))))
 refine aG ag.Rat rfl rfl (vs:=[_,_,_]) rfl (au rfl) (aY rfl vL (Yf (x:=q) (by omega)) (ah rfl (OL.yes rfl (aG ag.Rat rfl rfl (vs:=[_,_,_]) rfl (au rfl) (OL.yes rfl (aY rfl vL (Gl (x:=q) (by omega)) (OL.yes rfl ?_)))))))
 refine lG rfl rfl (c:=true) (decide_eq_true (EW.2 hs.1)) (iV rfl rfl (ah rfl (OL.yes rfl (aG ag.Rat rfl rfl (vs:=[_,_,_]) rfl (au rfl) (OL.yes rfl (aY rfl vL (Ep) (OL.yes rfl ?_)))))));exact aY rfl vL (sJ (x:=q) (y:=1) (by omega) (by omega)) (OL.yes rfl (x8 rfl rfl (c:=true) (decide_eq_true (RQ.2 hs.2)) (iV rfl rfl (ay rfl (OL.nil (AW.ret (aH.r ⟨_,.tmp rfl .nil,.le vR⟩)))))))
theorem fB {l:List Rat}{B:Nat}(hs:iY l)(hz:Small B l)(hB:B<=1048576/\l.length<=1099511627776):ai P F.fB [.d (o9 l)] (.d (dB true)):=by
 refine ai.intro fn.fB (by rfl) (by rfl) (au (by rfl)) λE hE=>(AW.sg hE rfl (ay rfl (OL.nil (AW.seq (AW.sg hE rfl (ay rfl (OL.nil ?_)))))))
 refine AW.block (AW.aK (α:=Nat) [(0,_)] [] (λi=>[(3,.d (dI i))]) (λi=>[]) (λi=>i<=l.length) (λi=>l.length-i) 0 (.cons (bM rfl) .nil) .nil ⟨Nat.zero_le _,.bC,.nil⟩ ?_);intro i h1;refine AW.seq (AW.sg hE rfl (ah rfl (ah rfl (eH sl.aQ rfl rfl (aN rfl rfl rfl (OL.nil (AW.cond rfl (λh7=>?_) (λh7=>?_))))))))
 .try simp only[bY] at h7
  refine AW.skip (AW.seq (AW.block (AW.seq ?_)));have hm:=getD_mem (l:=l) (i:=i) (by omega) 0
  have hzi:=hz _ hm;refine AW.rg hE rfl (ah rfl (ah rfl (bg sl.aQ 0 rfl rfl (by omega) rfl rfl (iU ag.Rat rfl (vs:=[_,_,_]) rfl (au rfl) (aY rfl vL (mW (hs _ hm) (by omega)) (nt rfl (OL.nil ?_)))))))
  refine jD rfl ?_;exact AW.skip (AW.rg hE rfl (ah rfl (aB rfl rfl (by omega) (ay rfl (OL.nil (AW.again (x:=i) (i+1) (by omega) ⟨by omega,Knows.app .bC .bC,.nil⟩))))))
 .try simp only[bY] at h7
  exact AW.exit (AW.sg hE rfl (ay rfl (OL.nil (AW.ret (aH.r ⟨_,.tmp rfl .nil,.le vR⟩)))))
theorem oM {x:Rat}{l:List Rat}{B:Nat}(hx:sz x<=1048576)(hl:Small B l)(hB:B<=1048576)(hn:l.length<=1024)(h1:x+iG l=1):ai P F.oM [vQ x,.d (o9 l)] (.d (dB true)):=by
 have h1K:=z1K;have hs:=Jc hl hn hB;refine ai.intro fn.oM (by rfl) (by rfl) (au (by rfl)) λE hE=>(AW.sg hE rfl (iC rfl rfl λb2=>(ay rfl (OL.nil (AW.seq (AW.dg 1 [0,1,2,3,4,5,6,7] aj hE rfl (by kernel_rfl) (OI.aP (os:=[_,_,_,_,_,_,_,_]) rfl ?_)))))))
 refine aG ag.Rat rfl rfl (vs:=[_,_,_]) rfl (au rfl) (ah rfl (aY rfl vL (Yg hl hB hn) (aY rfl vL (Cm (x:=x) (y:=iG l) (by omega) (by omega)) ?_)))
 rw[h1];refine aY rfl vL (Ep) (aY rfl vL (sJ (x:=1) (y:=1) (by omega) (by omega)) ?_)
 rw[show NE (1) (1)=0 from yO.2 rfl]
 exact dm rfl rfl (c:=true) (by exact decide_eq_true (by omega)) (ay rfl (OL.nil (AW.ret (aH.r ⟨_,.tmp rfl .nil,.le vR⟩))))
theorem lV {l m:List Rat}{B:Nat}(zl:Small B l)(zm:Small B m)(hB:1<=B/\B<=1048576/\l.length<=1099511627776):ai P F.lV [.d (o9 l),.d (o9 m)] (.d (dB (decide (l=m)))):=by
 refine ai.intro fn.lV (by rfl) (by rfl) (au (by rfl)) λE hE=>(AW.sg hE rfl (ay rfl (OL.nil (AW.seq (AW.sg hE rfl (ah rfl (eH sl.aQ rfl rfl ?_)))))))
 refine ah rfl (eH sl.aQ rfl rfl (bU rfl rfl rfl (OL.nil (AW.cond rfl (λh10=>?_) (λh10=>?_)))))
 .have hl:l.length≠m.length:=by simp at h10;omega
  exact AW.sg hE rfl (ay rfl (OL.nil (AW.ret (aH.r ⟨_,.tmp rfl .nil,.le (aZ.bool ((decide_eq_false λe=>hl (by rw[e])).symm))⟩))))
 .have hl:l.length=m.length:=by simp at h10;omega
  refine AW.skip (AW.seq (AW.sg hE rfl (ay rfl (OL.nil (AW.block ?_)))));refine AW.aK (α:=Nat) [(0,_),(1,_)] [] (λi=>[(5,.d (dI i))]) (λi=>[]) (λi=>i<=l.length/\∀ j,j<i->l.getD j 0=m.getD j 0) (λi=>l.length-i) 0 (.cons (bM rfl) (.cons (bM rfl) .nil)) .nil ⟨⟨Nat.zero_le _,λj hj=>by omega⟩,.bC,.nil⟩ ?_
  rintro i ⟨h1,h2⟩
  refine AW.seq (AW.sg hE rfl (ah rfl (ah rfl (eH sl.aQ rfl rfl (aN rfl rfl rfl (OL.nil (AW.cond rfl (λAO=>?_) (λAO=>?_))))))))
  .try simp only[bY] at AO
   refine AW.skip (AW.seq (AW.block (AW.seq ?_)));have z1:=zl.get hB.1 i;have z2:=zm.get hB.1 i;refine AW.dg 1 [0,1,2,3,4,5,6,7,8,9] aj hE rfl (by kernel_rfl) (OI.aP (os:=[_,_,_,_,_,_,_,_,_,_]) rfl ?_)
   refine ah rfl (ah rfl (bg sl.aQ 0 rfl rfl (by omega) rfl rfl (iU ag.Rat rfl (vs:=[_,_,_]) rfl (au rfl) (ah rfl (ah rfl (bg sl.aQ 0 rfl rfl (by omega) rfl rfl (iU ag.Rat rfl (vs:=[_,_,_]) rfl (au rfl) ?_)))))))
   refine aY rfl .dR (sJ (by omega) (by omega)) (bU rfl rfl rfl (OL.nil (AW.cond rfl (λhc=>?_) (λhc=>?_))))
   .have hc:l.getD i 0≠m.getD i 0:=λe=>by rw[yO.2 e] at hc;simp at hc
    exact AW.sg hE rfl (ay rfl (OL.nil (AW.ret (aH.r ⟨_,.tmp rfl .nil,.le (aZ.bool ((decide_eq_false λe=>hc (by rw[e])).symm))⟩))))
   .have hc:l.getD i 0=m.getD i 0:=yO.1 (by simpa using hc)
    exact AW.skip (AW.rg hE rfl (ah rfl (aB rfl rfl (by omega) (ay rfl (OL.nil (AW.again (x:=i) (i+1) (by omega) ⟨⟨by omega,λj hj=>by rcases Nat.lt_or_ge j i with h|h;exact h2 j h;obtain rfl:j=i:=(by omega);exact hc⟩,Knows.app .dR .bC,.nil⟩))))))
  .try simp only[bY] at AO
   exact AW.exit (AW.sg hE rfl (ay rfl (OL.nil (AW.ret (aH.r ⟨_,.tmp rfl .nil,.le (aZ.bool ((decide_eq_true (iK hl 0 λj hj=>h2 j (by omega))).symm))⟩)))))
theorem mQ {h:HM}{B:Nat}(g:h.Good B):ai P F.mQ [uY h] (.d (dB true)):=by
 have f:=g.form;have e1:=f.ini;have e2:=f.trans;have e3:=f.stop;have e4:=f.emit;have e5:=f.ties;have e6:=f.yJ;have s0:=f.qR;have s1:=f.sZ;have n0:=f.st0;have n1:=f.st1;have hb1:=f.b1;have bB:=f.bB;have zE:=f.zE;have zI:=f.zI;have zS0:=f.zS;refine ai.intro fn.mQ (by rfl) (by rfl) (au (by rfl)) λE hE=>(AW.sg hE rfl (iC rfl rfl λb1=>(ay rfl (OL.nil (AW.sg hE rfl (aF fd.bQ rfl rfl (ak ce.int rfl rfl rfl ?_)))))))
 refine ay rfl (OL.nil (AW.seq (AW.sg hE rfl (aF fd.fO rfl rfl (ak ce.aQ rfl rfl rfl (eH sl.aQ rfl rfl (ah rfl ?_)))))));refine bU rfl rfl (c:=false) (by exact eF (by omega)) (ah rfl (OL.yes rfl (aF fd.jf rfl rfl (OL.yes rfl (ak ce.aQ rfl rfl rfl (OL.yes rfl (eH sl.aQ rfl rfl ?_)))))))
 refine OL.yes rfl (ah rfl (OL.yes rfl (bU rfl rfl (c:=false) (by exact eF (by omega)) (eG rfl rfl (ah rfl (OL.yes rfl (aF fd.bZ rfl rfl ?_)))))))
 refine OL.yes rfl (ak ce.bools rfl rfl rfl (OL.yes rfl (eH sl.bools rfl rfl (OL.yes rfl (ah rfl (OL.yes rfl (bU rfl rfl (c:=false) (by exact eF (by omega)) ?_)))))))
 refine eG rfl rfl (ah rfl (OL.yes rfl (aF fd.fF rfl rfl (OL.yes rfl (ak ce.ints rfl rfl rfl (OL.yes rfl (eH sl.ints rfl rfl ?_)))))));refine OL.yes rfl (ah rfl (OL.yes rfl (bU rfl rfl (c:=false) (by exact eF (by omega)) (eG rfl rfl (ah rfl (OL.yes rfl (aF fd.fD rfl rfl ?_)))))))
 refine OL.yes rfl (ak ce.aW rfl rfl rfl (OL.yes rfl (eH sl.aW rfl rfl (OL.yes rfl (ah rfl (OL.yes rfl (bU rfl rfl (c:=false) (by exact eF (by omega)) ?_)))))))
 refine eG rfl rfl (ah rfl (OL.yes rfl (aF fd.dS rfl rfl (OL.yes rfl (ak ce.aW rfl rfl rfl (OL.yes rfl (eH sl.aW rfl rfl ?_)))))));refine OL.yes rfl (ah rfl (OL.yes rfl (bU rfl rfl (c:=false) (by exact eF (by omega)) (eG rfl rfl (OL.nil (jD rfl ?_))))))
 refine AW.skip (AW.seq (AW.sg hE rfl (ay rfl (OL.nil (AW.block (AW.aK (α:=Nat) [(1,_),(3,_)] [(1,_)] (λi=>[(4,.d (dI i))]) (λi=>[]) (λi=>i<=h.st) (λi=>h.st-i) 0 (.cons (fG rfl) (.cons (bM rfl) .nil)) (.cons (iJ rfl) .nil) ⟨Nat.zero_le _,.bC,.nil⟩ ?_))))));intro i h1;refine AW.seq (AW.sg hE rfl (ah rfl (ah rfl (aN rfl rfl rfl (OL.nil (AW.cond rfl (λh49=>?_) (λh49=>?_)))))))
 .try simp only[bY] at h49
  refine AW.skip (AW.seq (AW.block (AW.seq ?_)));have t1:=f.x9 i (by omega)
  have t2:=f.AQ i (by omega)
  have t3:=f.tie i (by omega)
  have pT:=g.pT i;have pM:=g.pM i;have zT:=f.zT i;have zM:=f.zM i;have zS:=f.zS.get f.b1 i;refine AW.dg 1 [0,1,2,3,4,5,6,7,8,9,10,11,12,13,14,15,16,17,18,19,20,21,22,23,24,25,26,27,28,29,30,31,32,33,34,35,36,37,38,39,40,41,42,43,44,45,46,47,48,49,50,51,52,53,54,55,56,57,58,59,60,61,62,63,64,65,66,67,68,69,70,71,72,73,74,75,76,77] aj hE rfl (by kernel_rfl) (OI.aP (os:=[_,_,_,_,_,_,_,_,_,_,_,_,_,_,_,_,_,_,_,_,_,_,_,_,_,_,_,_,_,_,_,_,_,_,_,_,_,_,_,_,_,_,_,_,_,_,_,_,_,_,_,_,_,_,_,_,_,_,_,_,_,_,_,_,_,_,_,_,_,_,_,_,_,_,_,_,_,_]) rfl ?_)
  refine aF fd.fD rfl rfl (ak ce.aW rfl rfl rfl (ah rfl (bg sl.aW [] rfl rfl (by omega) rfl rfl (bP ce.aQ rfl (eH sl.aQ rfl rfl (ah rfl (bU rfl rfl (c:=false) (by exact eF (by omega)) ?_)))))))
  refine ah rfl (OL.yes rfl (aF fd.bZ rfl rfl (OL.yes rfl (ak ce.bools rfl rfl rfl (OL.yes rfl (ah rfl (OL.yes rfl ?_)))))));refine bg sl.bools false rfl rfl (by omega) rfl rfl (OL.yes rfl (bP ce.bool rfl ?_))
  rw[f.sil i];refine OL.yes rfl (ah rfl (OL.nd rfl (OL.nd rfl (OL.nd rfl (OL.nd rfl (OL.nd rfl (OL.nd rfl ?_)))))));refine OL.nd rfl (OL.yes rfl (eG rfl rfl (eG rfl rfl (ah rfl (OL.yes rfl (aF fd.bZ rfl rfl (OL.yes rfl ?_)))))));refine ak ce.bools rfl rfl rfl (OL.yes rfl (ah rfl (OL.yes rfl (bg sl.bools false rfl rfl (by omega) rfl rfl (OL.yes rfl (bP ce.bool rfl ?_))))))
  rw[f.sil i];refine OL.yes rfl (nt rfl (OL.yes rfl (ah rfl (OL.yes rfl (aF fd.dS rfl rfl (OL.yes rfl (ak ce.aW rfl rfl rfl ?_)))))));refine OL.yes rfl (ah rfl (OL.yes rfl (bg sl.aW [] rfl rfl (by omega) rfl rfl (OL.yes rfl (bP ce.aQ rfl (OL.yes rfl (eH sl.aQ rfl rfl ?_)))))))
  refine OL.yes rfl (aF fd.jL rfl rfl (OL.yes rfl (ak ce.int rfl rfl rfl (OL.yes rfl (bU rfl rfl (c:=false) (by exact eF (by omega)) (OL.yes rfl (iV rfl rfl ?_)))))))
  refine eG rfl rfl (ah rfl (OL.yes rfl (aF fd.fD rfl rfl (OL.yes rfl (ak ce.aW rfl rfl rfl (OL.yes rfl (ah rfl ?_)))))));refine OL.yes rfl (bg sl.aW [] rfl rfl (by omega) rfl rfl (OL.yes rfl (bP ce.aQ rfl (OL.yes rfl (aY rfl vL (fB (pT) (zT) (by omega)) (OL.yes rfl (nt rfl ?_)))))))
  refine eG rfl rfl (ah rfl (OL.yes rfl (aF fd.dS rfl rfl (OL.yes rfl (ak ce.aW rfl rfl rfl (OL.yes rfl (ah rfl ?_)))))));refine OL.yes rfl (bg sl.aW [] rfl rfl (by omega) rfl rfl (OL.yes rfl (bP ce.aQ rfl (OL.yes rfl (aY rfl vL (fB (pM) (zM) (by omega)) (OL.yes rfl (nt rfl ?_)))))))
  refine eG rfl rfl (ah rfl (OL.yes rfl (aF fd.fF rfl rfl (OL.yes rfl (ak ce.ints rfl rfl rfl (OL.yes rfl (ah rfl ?_)))))));refine OL.yes rfl (bg sl.ints 0 rfl rfl (by omega) rfl rfl (OL.yes rfl (bP ce.int rfl (OL.yes rfl (aN rfl rfl (c:=false) (by exact decide_eq_false (by omega)) (eG rfl rfl (ah rfl ?_)))))))
  refine OL.yes rfl (aF fd.fF rfl rfl (OL.yes rfl (ak ce.ints rfl rfl rfl (OL.yes rfl (ah rfl (OL.yes rfl (bg sl.ints 0 rfl rfl (by omega) rfl rfl ?_)))))))
  refine OL.yes rfl (bP ce.int rfl (OL.yes rfl (ah rfl (OL.yes rfl (lG rfl rfl (c:=false) (by exact decide_eq_false (by omega)) (eG rfl rfl (OL.nil ?_)))))))
  refine jD rfl ?_;exact AW.skip (AW.rg hE rfl (ah rfl (aB rfl rfl (by omega) (ay rfl (OL.nil (AW.again (x:=i) (i+1) (by omega) ⟨by omega,Knows.app .dR .bC,bn.app (.cons rfl .nil) (.nil)⟩))))))
 .try simp only[bY] at h49
  refine AW.exit (AW.sg hE rfl (aF fd.fO rfl rfl (ak ce.aQ rfl rfl rfl (aY rfl vL (fB (g.pI) (zI) (by omega)) (ah rfl (OL.yes rfl (aF fd.jf rfl rfl ?_)))))))
  refine OL.yes rfl (ak ce.aQ rfl rfl rfl (OL.yes rfl (aY rfl vL (fB (g.pS) (zS0) (by omega)) (iV rfl rfl (ah rfl (OL.yes rfl (aF fd.gZ rfl rfl ?_)))))))
  exact OL.yes rfl (aG ag.Rat rfl rfl (vs:=[_,_,_]) rfl (au rfl) (OL.yes rfl (aY rfl vL (mW g.pE (by omega)) (iV rfl rfl (ay rfl (OL.nil (AW.ret (aH.r ⟨_,.tmp rfl .nil,.le vR⟩))))))))
theorem ax3:VCs [.d (dB false)] (dB false).cells:=.cons (VC.d _) .nil
theorem Wn {l:List Bool}{n i j:Nat}(hl:l.length=n)(h:∀ j,j<i->l.getD j false=true)(hi:i<n)(hj:j<i+1):(l.set i true).getD j false=true:=by
 rw[iZ,List.getElem?_set];by_cases e:i=j
 .subst e;rw[if_pos rfl,if_pos (by omega)];rfl
 .rw[if_neg e,<- iZ];exact h j (by omega)
theorem lI {h:HM}{B:Nat}(g:h.Good B):ai P F.lI [uY h] (.d (dB false)):=by
 have f:=g.form;have e1:=f.ini;have e2:=f.trans;have e3:=f.stop;have e4:=f.emit;have e5:=f.ties;have e6:=f.yJ;have s0:=f.qR;have s1:=f.sZ;have n0:=f.st0;have n1:=f.st1;have hb1:=f.b1;have bB:=f.bB;refine ai.intro fn.lI (by rfl) (by rfl) (au (by rfl)) λE hE=>(AW.sg hE rfl (iC rfl rfl λb1=>(ay rfl (OL.nil (AW.sg hE rfl (aF fd.bQ rfl rfl (ak ce.int rfl rfl rfl ?_)))))))
 refine Xd dB false sl.bools z.bool ax3 rfl rfl (Nat.le_refl _) (by omega) (by omega) rfl λb11=>(uj rfl (OL.nil (AW.seq (AW.sg hE rfl (ay rfl (OL.nil (AW.block ?_)))))))
 refine AW.aK (α:=Nat × List Bool) [(1,_),(2,_),(3,_)] [(1,_)] (λ(k,l)=>[(4,.d (dI k))]) (λ(k,l)=>[(11,.row b11 h.st T.bool 1 (l.map dB))]) (λ(k,l)=>k<=h.st/\l.length=h.st/\(0<k->∀ i,i<h.st->l.getD i false=true)) (λ(k,l)=>h.st-k) (0,List.replicate h.st false) (.cons (fG rfl) (.cons (bM rfl) (.cons (uH rfl) .nil))) (.cons (iJ rfl) .nil) ⟨⟨Nat.zero_le _,List.length_replicate,λe=>absurd e (Nat.lt_irrefl 0)⟩,.bC,.cons rfl .nil⟩ ?_
 rintro⟨k,l⟩ ⟨h1,hl,hk⟩
 have h1:k<=h.st:=h1;have hl:l.length=h.st:=hl;refine AW.seq (AW.sg hE rfl (ah rfl (aF fd.bQ rfl rfl (ak ce.int rfl rfl rfl (aN rfl rfl rfl (OL.nil (AW.cond rfl (λh15=>?_) (λh15=>?_))))))))
 .try simp only[bY] at h15
  refine AW.skip (AW.seq (AW.block (AW.sg hE rfl (ay rfl (OL.nil (AW.block ?_))))));refine AW.aK (α:=Nat × List Bool) [(1,_),(2,_),(3,_),(4,_)] [(1,_)] (λ(i,l2)=>[(5,.d (dI i))]) (λ(i,l2)=>[(11,.row b11 h.st T.bool 1 (l2.map dB))]) (λ(i,l2)=>i<=h.st/\l2.length=h.st/\∀ j,j<i->l2.getD j false=true) (λ(i,l2)=>h.st-i) (0,l) (.cons (fG rfl) (.cons (bM rfl) (.cons (uH rfl) (.cons (bM rfl) .nil)))) (.cons (iJ rfl) .nil) ⟨⟨Nat.zero_le _,hl,λj hj=>absurd hj (Nat.not_lt_zero j)⟩,.bC,.cons rfl .nil⟩ ?_
  rintro⟨i,l2⟩ ⟨h2,hl2,hk2⟩
  have h2:i<=h.st:=h2;have hl2:l2.length=h.st:=hl2;refine AW.seq (AW.sg hE rfl (ah rfl (aF fd.bQ rfl rfl (ak ce.int rfl rfl rfl (aN rfl rfl rfl (OL.nil (AW.cond rfl (λh21=>?_) (λh21=>?_))))))))
  .try simp only[bY] at h21
   refine AW.skip (AW.seq (AW.block (AW.sg hE rfl (ay rfl (OL.nil (AW.seq (AW.sg hE rfl ?_)))))));refine ay rfl (OL.nil (AW.block ?_));refine AW.aK (α:=Nat) [(1,_),(2,_),(3,_),(4,_),(5,_)] [(1,_),(11,_)] (λj=>[(6,.d (dB false)),(7,.d (dI j))]) (λj=>[]) (λj=>j<=h.st) (λj=>h.st-j) 0 (.cons (fG rfl) (.cons (bM rfl) (.cons (uH rfl) (.cons (bM rfl) (.cons (bM rfl) .nil))))) (.cons (iJ rfl) (.cons (rH rfl) .nil)) ⟨Nat.zero_le _,.dR,.nil⟩ ?_;intro j h3;have h3:j<=h.st:=h3;refine AW.seq (AW.sg hE rfl (ah rfl (aF fd.bQ rfl rfl (ak ce.int rfl rfl rfl (aN rfl rfl rfl (OL.nil (AW.cond rfl (λh27=>?_) (λh27=>?_))))))))
   .try simp only[bY] at h27
    refine AW.skip (AW.seq (AW.block (AW.rg hE rfl (ah rfl (ah rfl (OL.yes rfl (aF fd.bZ rfl rfl ?_)))))));refine OL.yes rfl (ak ce.bools rfl rfl rfl (OL.yes rfl (ah rfl (OL.yes rfl (bg sl.bools false rfl rfl (by omega) rfl rfl (OL.yes rfl (bP ce.bool rfl ?_)))))))
    rw[f.sil j];refine OL.yes rfl (ah rfl (OL.nd rfl (OL.nd rfl (OL.nd rfl (OL.nd rfl (OL.nd rfl (OL.yes rfl ?_)))))));refine eG rfl rfl (OL.yes rfl (ah rfl (OL.nd rfl (OL.nd rfl (OL.nd rfl (OL.nd rfl (OL.nd rfl ?_)))))));refine OL.nd rfl (OL.nd rfl (OL.nd rfl (OL.nd rfl (OL.nd rfl (OL.yes rfl (eG rfl rfl (eG rfl rfl ?_)))))));refine ay rfl (OL.nil (AW.rg hE rfl (ah rfl (aB rfl rfl (by omega) (ay rfl (OL.nil ?_))))))
    exact AW.again (x:=j) (j+1) (by omega) ⟨by omega,Knows.app .y9 .dR,bn.app (.cons rfl (.cons rfl .nil)) (.nil)⟩
   .try simp only[bY] at h27
    refine AW.exit ?_;have hel:(l2.map dB)[i]? = some (dB (l2.getD i false)):=by rw[List.getElem?_map,iZ,sU (show i<l2.length by omega)];rfl
    refine AW.rg hE rfl (fQ rfl (ah rfl (fQ rfl (ah rfl (dV sl.bools rfl rfl (by omega) (GY ce.bool (by decide) rfl rfl hel rfl (ah rfl ?_)))))))
    refine OL.split 63 rfl (λhg=>?_) (λhg=>?_)
    .have _hg:=hg;refine OL.nd rfl (OL.nd rfl (iV rfl rfl (ah rfl (OL.nd rfl (OL.nd rfl (OL.nd rfl (OL.nd rfl ?_)))))));refine OL.nd rfl (OL.nd rfl (iV rfl rfl (dV sl.bools rfl rfl (by omega) (AA sz.bool rfl (VC.d _).vd rfl rfl (by rw[dF];omega) (es2:=(l2.set i true).map dB) (by rw[List.map_set]) (OL.nil (AW.rg hE rfl (ah rfl ?_)))))))
     refine aB rfl rfl (by omega) (ay rfl (OL.nil ?_))
     exact AW.again (x:=(i,l2)) (i+1,l2.set i true) (by (simp only[];omega)) ⟨⟨by omega,by rw[List.length_set];exact hl2,λj hj=>Wn hl2 hk2 (by omega) hj⟩,Knows.app .CZ .bC,bn.app (.cons rfl .nil) (.cons rfl .nil)⟩
    .have _hg:=hg;refine OL.yes rfl (ah rfl (OL.yes rfl (nt rfl (eG rfl rfl (ah rfl (OL.nd rfl (OL.nd rfl ?_)))))));refine OL.nd rfl (OL.nd rfl (OL.nd rfl (OL.nd rfl (iV rfl rfl (dV sl.bools rfl rfl (by omega) (AA sz.bool rfl (VC.d _).vd rfl rfl (by rw[dF];omega) (es2:=(l2.set i true).map dB) (by rw[List.map_set]) (OL.nil ?_)))))))
     refine AW.rg hE rfl (ah rfl (aB rfl rfl (by omega) (ay rfl (OL.nil ?_))))
     exact AW.again (x:=(i,l2)) (i+1,l2.set i true) (by (simp only[];omega)) ⟨⟨by omega,by rw[List.length_set];exact hl2,λj hj=>Wn hl2 hk2 (by omega) hj⟩,Knows.app .CZ .bC,bn.app (.cons rfl .nil) (.cons rfl .nil)⟩
  .try simp only[bY] at h21
   exact AW.exit (AW.rg hE rfl (ah rfl (aB rfl rfl (by omega) (ay rfl (OL.nil (AW.again (x:=(k,l)) (k+1,l2) (by (simp only[];omega)) ⟨⟨by omega,hl2,λ_ j hj=>hk2 j (by omega)⟩,Knows.app .wL .bC,bn.app (.cons rfl .nil) (.cons rfl .nil)⟩))))))
 .try simp only[bY] at h15
  refine AW.exit (AW.seq (AW.sg hE rfl (ay rfl (OL.nil (AW.block ?_)))));refine AW.aK (α:=Nat) [(1,_),(3,_)] [(1,_),(11,_)] (λi=>[(8,.d (dI i))]) (λi=>[]) (λi=>i<=h.st) (λi=>h.st-i) 0 (.cons (fG rfl) (.cons (uH rfl) .nil)) (.cons (iJ rfl) (.cons (rH rfl) .nil)) ⟨Nat.zero_le _,.bC,.nil⟩ ?_;intro i h4;have h4:i<=h.st:=h4;refine AW.seq (AW.sg hE rfl (ah rfl (aF fd.bQ rfl rfl (ak ce.int rfl rfl rfl (aN rfl rfl rfl (OL.nil (AW.cond rfl (λYh=>?_) (λYh=>?_))))))))
  .try simp only[bY] at Yh
   refine AW.skip (AW.seq (AW.block (AW.seq ?_)));have hel:(l.map dB)[i]? = some (dB true):=by rw[List.getElem?_map,sU (show i<l.length by omega),<- hk (by omega) i (by omega),iZ,sU (show i<l.length by omega)];rfl
   refine AW.rg hE rfl (fQ rfl (ah rfl (dV sl.bools rfl rfl (by omega) (GY ce.bool (by decide) rfl rfl hel rfl (nt rfl (OL.nil (jD rfl ?_)))))))
   exact AW.skip (AW.rg hE rfl (ah rfl (aB rfl rfl (by omega) (ay rfl (OL.nil (AW.again (x:=i) (i+1) (by omega) ⟨by omega,Knows.app .dR .bC,bn.app (.cons rfl (.cons rfl .nil)) (.nil)⟩))))))
  .try simp only[bY] at Yh
   exact AW.exit (AW.sg hE rfl (ay rfl (OL.nil (AW.ret (aH.r ⟨_,.tmp rfl .nil,.le vR⟩)))))
theorem je {h:HM}{B:Nat}(g:h.Good B):ai P F.je [uY h] (.d (dI 0)):=by
 have f:=g.form;have e1:=f.ini;have e2:=f.trans;have e3:=f.stop;have e4:=f.emit;have e5:=f.ties;have e6:=f.yJ;have s0:=f.qR;have s1:=f.sZ;have n0:=f.st0;have n1:=f.st1;have hb1:=f.b1;have bB:=f.bB;have zE:=f.zE;have zI:=f.zI;refine ai.intro fn.je (by rfl) (by rfl) (au (by rfl)) λE hE=>(AW.sg hE rfl (iC rfl rfl λb1=>(ay rfl (OL.nil (AW.seq (AW.sg hE rfl (aF fd.jL rfl rfl ?_)))))))
 refine ak ce.int rfl rfl rfl (aN rfl rfl (c:=false) (by exact decide_eq_false (by omega)) (ah rfl (OL.yes rfl (aF fd.jL rfl rfl (OL.yes rfl (ak ce.int rfl rfl rfl (OL.yes rfl ?_)))))))
 refine iI rfl rfl (c:=false) (by exact decide_eq_false (by omega)) (eG rfl rfl (ah rfl (OL.yes rfl (aF fd.bQ rfl rfl (OL.yes rfl (ak ce.int rfl rfl rfl (OL.yes rfl ?_)))))))
 refine aN rfl rfl (c:=false) (by exact decide_eq_false (by omega)) (eG rfl rfl (ah rfl (OL.yes rfl (aF fd.bQ rfl rfl (OL.yes rfl (ak ce.int rfl rfl rfl (OL.yes rfl ?_)))))))
 refine iI rfl rfl (c:=false) (by exact decide_eq_false (by omega)) (eG rfl rfl (OL.nil (jD rfl ?_)))
 refine AW.skip (AW.seq (AW.sg hE rfl (aG ag.aU rfl rfl (vs:=[_,_,_,_,_,_,_,_,_,_,_]) rfl (au rfl) (aY rfl vL (mQ g) (nt rfl (OL.nil (jD rfl ?_)))))));refine AW.skip (AW.seq (AW.sg hE rfl (aF fd.gZ rfl rfl (aG ag.Rat rfl rfl (vs:=[_,_,_]) rfl (au rfl) (aF fd.fO rfl rfl (ak ce.aQ rfl rfl rfl (aY rfl vL (oM (x:=h.empty) (l:=h.ini) (by omega) zI (by omega) (by omega) (by rw[<- y5];exact g.sI)) ?_)))))))
 refine nt rfl (OL.nil (jD rfl ?_));refine AW.skip (AW.seq (AW.sg hE rfl (ay rfl (OL.nil (AW.block (AW.aK (α:=Nat) [(1,_)] [(1,_)] (λi=>[(3,.d (dI i))]) (λi=>[]) (λi=>i<=h.st) (λi=>h.st-i) 0 (.cons (fG rfl) .nil) (.cons (iJ rfl) .nil) ⟨Nat.zero_le _,.bC,.nil⟩ ?_))))));intro i h1;refine AW.seq (AW.sg hE rfl (ah rfl (aF fd.bQ rfl rfl (ak ce.int rfl rfl rfl (aN rfl rfl rfl (OL.nil (AW.cond rfl (λh37=>?_) (λh37=>?_))))))))
 .try simp only[bY] at h37
  refine AW.skip (AW.seq (AW.block (AW.seq ?_)));have t1:=f.x9 i (by omega)
  have t2:=f.AQ i (by omega)
  have t3:=f.tie i (by omega)
  have pT:=g.pT i;have pM:=g.pM i;have zT:=f.zT i;have zM:=f.zM i;have zS:=f.zS.get f.b1 i;refine AW.dg 1 [0,1,2,3,4,5,6,7,8,9,10,11] aj hE rfl (by kernel_rfl) (OI.aP (os:=[_,_,_,_,_,_,_,_,_,_,_,_]) rfl ?_)
  refine aF fd.jf rfl rfl (ak ce.aQ rfl rfl rfl (ah rfl (bg sl.aQ 0 rfl rfl (by omega) rfl rfl (iU ag.Rat rfl (vs:=[_,_,_]) rfl (au rfl) (aF fd.fD rfl rfl (ak ce.aW rfl rfl rfl (ah rfl ?_)))))))
  refine bg sl.aW [] rfl rfl (by omega) rfl rfl (bP ce.aQ rfl (aY rfl vL (oM (x:=h.stop.getD i 0) (l:=h.trans.getD i []) (by omega) zT (by omega) (by omega) (by rw[<- y5];exact g.sT i (by omega))) (nt rfl (OL.nil (jD rfl ?_)))))
  exact AW.skip (AW.rg hE rfl (ah rfl (aB rfl rfl (by omega) (ay rfl (OL.nil (AW.again (x:=i) (i+1) (by omega) ⟨by omega,Knows.app .bC .bC,bn.app (.cons rfl .nil) (.nil)⟩))))))
 .try simp only[bY] at h37
  refine AW.exit (AW.seq (AW.sg hE rfl (ay rfl (OL.nil (AW.block (AW.aK (α:=Nat) [(1,_)] [(1,_)] (λi=>[(4,.d (dI i))]) (λi=>[]) (λi=>i<=h.st) (λi=>h.st-i) 0 (.cons (fG rfl) .nil) (.cons (iJ rfl) .nil) ⟨Nat.zero_le _,.bC,.nil⟩ ?_))))));intro i h1;refine AW.seq (AW.sg hE rfl (ah rfl (aF fd.bQ rfl rfl (ak ce.int rfl rfl rfl (aN rfl rfl rfl (OL.nil (AW.cond rfl (λh55=>?_) (λh55=>?_))))))))
  .try simp only[bY] at h55
   refine AW.skip (AW.seq (AW.block (AW.seq ?_)));have t1:=f.x9 i (by omega)
   have t2:=f.AQ i (by omega)
   have t3:=f.tie i (by omega)
   have pT:=g.pT i;have pM:=g.pM i;have zT:=f.zT i;have zM:=f.zM i;have zS:=f.zS.get f.b1 i;refine AW.rg hE rfl (aF fd.bZ rfl rfl (ak ce.bools rfl rfl rfl (ah rfl (bg sl.bools false rfl rfl (by omega) rfl rfl (bP ce.bool rfl ?_)))))
   rw[f.sil i];refine nt rfl (ah rfl (OL.yes rfl (bd z.Rat pl.Rat (cs:=[_,_,_]) rfl (OL.yes rfl (aF fd.dS rfl rfl (OL.yes rfl (ak ce.aW rfl rfl rfl ?_)))))));refine OL.yes rfl (ah rfl (OL.yes rfl (bg sl.aW [] rfl rfl (by omega) rfl rfl (OL.yes rfl (bP ce.aQ rfl (OL.yes rfl (aY rfl (.cons RS .bC) (oM (x:=0) (l:=h.emit.getD i []) (by rw[gJ];decide) zM (by omega) (by omega) (by rw[Rat.zero_add];exact g.sM i (by omega))) ?_)))))))
   refine OL.yes rfl (nt rfl (iV rfl rfl (OL.nil (jD rfl ?_))));exact AW.skip (AW.rg hE rfl (ah rfl (aB rfl rfl (by omega) (ay rfl (OL.nil (AW.again (x:=i) (i+1) (by omega) ⟨by omega,Knows.app .bC .bC,bn.app (.cons rfl .nil) (.nil)⟩))))))
  .try simp only[bY] at h55
   refine AW.exit (AW.seq (AW.sg hE rfl (aG ag.aU rfl rfl (vs:=[_,_,_,_,_,_,_,_,_,_,_]) rfl (au rfl) (aY rfl vL (lI g) (OL.nil (jD rfl ?_))))));refine AW.skip (AW.seq (AW.sg hE rfl (ay rfl (OL.nil (AW.block (AW.aK (α:=Nat) [(1,_)] [(1,_)] (λi=>[(5,.d (dI i))]) (λi=>[]) (λi=>i<=h.st) (λi=>h.st-i) 0 (.cons (fG rfl) .nil) (.cons (iJ rfl) .nil) ⟨Nat.zero_le _,.bC,.nil⟩ ?_))))));intro i h1;refine AW.seq (AW.sg hE rfl (ah rfl (aF fd.bQ rfl rfl (ak ce.int rfl rfl rfl (aN rfl rfl rfl (OL.nil (AW.cond rfl (λYh=>?_) (λYh=>?_))))))))
   .try simp only[bY] at Yh
    refine AW.skip (AW.seq (AW.block (AW.sg hE rfl (ay rfl (OL.nil (AW.block (AW.aK (α:=Nat) [(1,_),(5,_)] [(1,_)] (λj=>[(6,.d (dI j))]) (λj=>[]) (λj=>j<=i) (λj=>i-j) 0 (.cons (fG rfl) (.cons (bM rfl) .nil)) (.cons (iJ rfl) .nil) ⟨Nat.zero_le _,.bC,.nil⟩ ?_)))))));intro j h2;refine AW.seq (AW.sg hE rfl (ah rfl (ah rfl (aN rfl rfl rfl (OL.nil (AW.cond rfl (λh84=>?_) (λh84=>?_)))))))
    .try simp only[bY] at h84
     refine AW.skip (AW.seq (AW.block (AW.seq ?_)));have t1:=f.x9 i (by omega)
     have t2:=f.AQ i (by omega)
     have t2j:=f.AQ j (by omega)
     have zM:=f.zM i;have zMj:=f.zM j;refine AW.dg 1 [0,1,2,3,4,5,6,7,8,9,10,11,12,13,14,15,16,17,18,19,20,21,22,23,24,25,26,27,28,29,30,31,32,33,34,35,36,37,38,39,40] aj hE rfl (by kernel_rfl) (OI.aP (os:=[_,_,_,_,_,_,_,_,_,_,_,_,_,_,_,_,_,_,_,_,_,_,_,_,_,_,_,_,_,_,_,_,_,_,_,_,_,_,_,_,_]) rfl ?_)
     refine aF fd.bZ rfl rfl (ak ce.bools rfl rfl rfl (ah rfl (bg sl.bools false rfl rfl (by omega) rfl rfl (bP ce.bool rfl ?_))))
     rw[f.sil i];refine nt rfl (ah rfl (OL.yes rfl (aF fd.bZ rfl rfl (OL.yes rfl (ak ce.bools rfl rfl rfl (OL.yes rfl (ah rfl ?_)))))));refine OL.yes rfl (bg sl.bools false rfl rfl (by omega) rfl rfl (OL.yes rfl (bP ce.bool rfl ?_)))
     rw[f.sil j];refine OL.yes rfl (nt rfl (iV rfl rfl (ah rfl (OL.yes rfl (aF fd.fF rfl rfl (OL.yes rfl (ak ce.ints rfl rfl rfl ?_)))))));refine OL.yes rfl (ah rfl (OL.yes rfl (bg sl.ints 0 rfl rfl (by omega) rfl rfl (OL.yes rfl (bP ce.int rfl (OL.yes rfl (aF fd.fF rfl rfl ?_)))))))
     refine OL.yes rfl (ak ce.ints rfl rfl rfl (OL.yes rfl (ah rfl (OL.yes rfl (bg sl.ints 0 rfl rfl (by omega) rfl rfl (OL.yes rfl (bP ce.int rfl ?_)))))))
     refine OL.yes rfl (dm rfl rfl rfl (iV rfl rfl (ah rfl (OL.split 114 rfl (λg41=>?_) (λg41=>?_)))))
     .have g41:h.ties.getD i 0=h.ties.getD j 0:=jC g41;refine OL.yes rfl (aF fd.dS rfl rfl (OL.yes rfl (ak ce.aW rfl rfl rfl (OL.yes rfl (ah rfl (OL.yes rfl (bg sl.aW [] rfl rfl (by omega) rfl rfl ?_)))))))
      refine OL.yes rfl (bP ce.aQ rfl (OL.yes rfl (aF fd.dS rfl rfl (OL.yes rfl (ak ce.aW rfl rfl rfl (OL.yes rfl (ah rfl ?_)))))));refine OL.yes rfl (bg sl.aW [] rfl rfl (by omega) rfl rfl (OL.yes rfl (bP ce.aQ rfl (OL.yes rfl (aY rfl vL (lV zM zMj ⟨hb1,by omega,by omega⟩) ?_)))))
      rw[decide_eq_true (g.tied i j (by omega) (by omega) g41)]
      refine OL.yes rfl (nt rfl (iV rfl rfl (OL.nil (jD rfl ?_))));exact AW.skip (AW.rg hE rfl (ah rfl (aB rfl rfl (by omega) (ay rfl (OL.nil (AW.again (x:=j) (j+1) (by omega) ⟨by omega,Knows.app .dR .bC,bn.app (.cons rfl .nil) (.nil)⟩))))))
     .have _g41:=g41;refine OL.nd rfl (OL.nd rfl (OL.nd rfl (OL.nd rfl (OL.nd rfl (OL.nd rfl (OL.nd rfl (OL.nd rfl ?_)))))));refine OL.nd rfl (OL.nd rfl (OL.nd rfl (OL.nd rfl (eG rfl rfl (OL.nil (jD rfl ?_))))));exact AW.skip (AW.rg hE rfl (ah rfl (aB rfl rfl (by omega) (ay rfl (OL.nil (AW.again (x:=j) (j+1) (by omega) ⟨by omega,Knows.app .dR .bC,bn.app (.cons rfl .nil) (.nil)⟩))))))
    .try simp only[bY] at h84
     exact AW.exit (AW.rg hE rfl (ah rfl (aB rfl rfl (by omega) (ay rfl (OL.nil (AW.again (x:=i) (i+1) (by omega) ⟨by omega,Knows.app .bC .bC,bn.app (.cons rfl .nil) (.nil)⟩))))))
   .try simp only[bY] at Yh
    exact AW.exit (AW.sg hE rfl (ay rfl (OL.nil (AW.ret (aH.r ⟨_,.tmp rfl .nil,.le vR⟩)))))
theorem pK {h:HM}{B:Nat}(g:h.Good B):ai P F.pK [uY h] (.d (dB true)):=by
 have f:=g.form;have e1:=f.ini;have e2:=f.trans;have e3:=f.stop;have e4:=f.emit;have e5:=f.ties;have e6:=f.yJ;have s0:=f.qR;have s1:=f.sZ;have n0:=f.st0;have n1:=f.st1;have hb1:=f.b1;have bB:=f.bB;refine ai.intro fn.pK (by rfl) (by rfl) (au (by rfl)) λE hE=>(AW.sg hE rfl (iC rfl rfl λb1=>(ay rfl (OL.nil (AW.seq (AW.sg hE rfl (aG ag.aU rfl rfl (vs:=[_,_,_,_,_,_,_,_,_,_,_]) rfl (au rfl) ?_)))))))
 refine aY rfl vL (je g) (bU rfl rfl (c:=false) (by exact eF (by omega)) (OL.nil (jD rfl ?_)))
 refine AW.skip (AW.seq (AW.sg hE rfl (ay rfl (OL.nil (AW.block (AW.aK (α:=Nat) [(1,_)] [(1,_)] (λi=>[(3,.d (dI i))]) (λi=>[]) (λi=>i<=h.st) (λi=>h.st-i) 0 (.cons (fG rfl) .nil) (.cons (iJ rfl) .nil) ⟨Nat.zero_le _,.bC,.nil⟩ ?_))))));intro i h1;refine AW.seq (AW.sg hE rfl (ah rfl (aF fd.bQ rfl rfl (ak ce.int rfl rfl rfl (aN rfl rfl rfl (OL.nil (AW.cond rfl (λh10=>?_) (λh10=>?_))))))))
 .try simp only[bY] at h10
  refine AW.skip (AW.seq (AW.block (AW.sg hE rfl (aF fd.bZ rfl rfl (ak ce.bools rfl rfl rfl (ah rfl (bg sl.bools false rfl rfl (by omega) rfl rfl ?_)))))))
  refine bP ce.bool rfl ?_;rw[f.sil i];refine OL.nil (jD rfl ?_);exact AW.skip (AW.rg hE rfl (ah rfl (aB rfl rfl (by omega) (ay rfl (OL.nil (AW.again (x:=i) (i+1) (by omega) ⟨by omega,Knows.app .bC .bC,bn.app (.cons rfl .nil) (.nil)⟩))))))
 .try simp only[bY] at h10
  exact AW.exit (AW.sg hE rfl (ay rfl (OL.nil (AW.ret (aH.r ⟨_,.tmp rfl .nil,.le vR⟩)))))

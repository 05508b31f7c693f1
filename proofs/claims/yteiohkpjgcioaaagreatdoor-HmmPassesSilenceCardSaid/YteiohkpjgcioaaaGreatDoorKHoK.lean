/-
  Walks of the specification's check of a valid model with silent states (printed by mk2.py).
-/
import Derived.Test.YteiohkpjgcioaaaGreatDoorKChk
import Derived.Test.YteiohkpjgcioaaaGreatDoorKVaB
import Derived.Test.YteiohkpjgcioaaaGreatDoorKNum13
set_option maxRecDepth 6000
set_option maxHeartbeats 6400000
set_option linter.unusedVariables false
set_option linter.unusedSimpArgs false
namespace Go.Proofs.YteiohkpjgcioaaaGreatDoor
open Go Go.AL
theorem TS {l:List Bool}{i:Nat}(hi:i<l.length):(l.map dB)[i]? = some (dB (l.getD i false)):=by
 rw[List.getElem?_map,iZ,sU hi];rfl
theorem Pm {h:HM}(f:h.oh):ai P F.lI [uY h] (.d (dB (!aI1 h))):=by
 have e1:=f.ini;have e2:=f.trans;have e3:=f.stop;have e4:=f.emit;have e5:=f.ties;have e6:=f.yJ;have s0:=f.qR;have s1:=f.sZ;have n0:=f.st0;have n1:=f.st1;refine ai.intro fn.lI (by rfl) (by rfl) (au (by rfl)) λE hE=>(AW.sg hE rfl (iC rfl rfl λb1=>(ay rfl (OL.nil (AW.sg hE rfl (aF fd.bQ rfl rfl (ak ce.int rfl rfl rfl ?_)))))))
 refine Xd dB false sl.bools z.bool ax3 rfl rfl (Nat.le_refl _) (by omega) (by omega) rfl λb11=>(uj rfl (OL.nil (AW.seq (AW.sg hE rfl (ay rfl (OL.nil (AW.block ?_)))))))
 refine AW.aK (α:=Nat × List Bool) [(1,_),(2,_),(3,_)] [(1,_)] (λ(k,l)=>[(4,.d (dI k))]) (λ(k,l)=>[(11,.row b11 h.st T.bool 1 (l.map dB))]) (λ(k,l)=>k<=h.st/\Gon h l/\(h.ql->k<=cnt (λi=>l.getD i false) h.st)) (λ(k,l)=>h.st-k) (0,List.replicate h.st false) (.cons (fG rfl) (.cons (bM rfl) (.cons (uH rfl) .nil))) (.cons (iJ rfl) .nil) ⟨⟨Nat.zero_le _,Gon.zero h,λ_=>Nat.zero_le _⟩,.bC,.cons rfl .nil⟩ ?_
 rintro⟨k,l⟩ ⟨h1,hg,hk⟩
 have h1:k<=h.st:=h1;have hg:Gon h l:=hg;have hk:h.ql->k<=cnt (λi=>l.getD i false) h.st:=hk;have hl:=hg.len;refine AW.seq (AW.sg hE rfl (ah rfl (aF fd.bQ rfl rfl (ak ce.int rfl rfl rfl (aN rfl rfl rfl (OL.nil (AW.cond rfl (λh15=>?_) (λh15=>?_))))))))
 .try simp only[bY] at h15
  refine AW.skip (AW.seq (AW.block (AW.sg hE rfl (ay rfl (OL.nil (AW.block ?_))))));refine AW.aK (α:=Nat × List Bool) [(1,_),(2,_),(3,_),(4,_)] [(1,_)] (λ(i,l2)=>[(5,.d (dI i))]) (λ(i,l2)=>[(11,.row b11 h.st T.bool 1 (l2.map dB))]) (λ(i,l2)=>i<=h.st/\Pas h l l2 i) (λ(i,l2)=>h.st-i) (0,l) (.cons (fG rfl) (.cons (bM rfl) (.cons (uH rfl) (.cons (bM rfl) .nil)))) (.cons (iJ rfl) .nil) ⟨⟨Nat.zero_le _,Pas.zero hg⟩,.bC,.cons rfl .nil⟩ ?_
  rintro⟨i,l2⟩ ⟨h2,hp⟩
  have h2:i<=h.st:=h2;have hp:Pas h l l2 i:=hp;have hl2:=hp.gon.len;refine AW.seq (AW.sg hE rfl (ah rfl (aF fd.bQ rfl rfl (ak ce.int rfl rfl rfl (aN rfl rfl rfl (OL.nil (AW.cond rfl (λh21=>?_) (λh21=>?_))))))))
  .try simp only[bY] at h21
   refine AW.skip (AW.seq (AW.block (AW.sg hE rfl (ay rfl (OL.nil (AW.seq (AW.sg hE rfl ?_)))))));refine ay rfl (OL.nil (AW.block ?_));refine AW.aK (α:=Nat × Bool) [(1,_),(2,_),(3,_),(4,_),(5,_)] [(1,_),(11,_)] (λ(j,op)=>[(6,.d (dB op)),(7,.d (dI j))]) (λ(j,op)=>[]) (λ(j,op)=>j<=h.st/\Opn h l2 i j op) (λ(j,op)=>h.st-j) (0,false) (.cons (fG rfl) (.cons (bM rfl) (.cons (uH rfl) (.cons (bM rfl) (.cons (bM rfl) .nil))))) (.cons (iJ rfl) (.cons (rH rfl) .nil)) ⟨⟨Nat.zero_le _,Opn.zero⟩,.dR,.nil⟩ ?_
   rintro⟨j,op⟩ ⟨h3,ho⟩
   have h3:j<=h.st:=h3;have ho:Opn h l2 i j op:=ho;refine AW.seq (AW.sg hE rfl (ah rfl (aF fd.bQ rfl rfl (ak ce.int rfl rfl rfl (aN rfl rfl rfl (OL.nil (AW.cond rfl (λh27=>?_) (λh27=>?_))))))))
   .try simp only[bY] at h27
    refine AW.skip (AW.seq (AW.block ?_));have t1:=f.x9 i (by omega)
    have zT:=(f.zT i).get (by decide) j
    have bn1:=TS (show j<l2.length by omega)
    refine AW.rg hE rfl (ah rfl (ah rfl (OL.split 31 rfl (λa0=>?_) (λa0=>?_))))
    .have a0:op=true:=a0;refine OL.nd rfl (OL.nd rfl (OL.nd rfl (OL.nd rfl (OL.nd rfl (OL.nd rfl (OL.nd rfl (OL.nd rfl ?_)))))));refine OL.nd rfl (OL.nd rfl (OL.nd rfl (OL.nd rfl (OL.nd rfl (OL.nd rfl (OL.nd rfl (OL.nd rfl ?_)))))));refine OL.nd rfl (OL.nd rfl (OL.nd rfl (OL.nd rfl (OL.nd rfl (OL.nd rfl (OL.nd rfl (OL.nd rfl ?_)))))));refine iV rfl rfl (ay rfl (OL.nil (AW.rg hE rfl (ah rfl (aB rfl rfl (by omega) (ay rfl (OL.nil ?_)))))))
     exact AW.again (x:=(j,op)) (j+1,true) (by (simp only[];omega)) ⟨⟨by omega,(a0 ▸ ho).keep⟩,Knows.app .y9 .dR,bn.app (.cons rfl (.cons rfl .nil)) (.nil)⟩
    .have a0:op=false:=a0;refine OL.yes rfl (aF fd.bZ rfl rfl (OL.yes rfl (ak ce.bools rfl rfl rfl (OL.yes rfl (ah rfl (OL.yes rfl (bg sl.bools false rfl rfl (by omega) rfl rfl ?_)))))))
     refine OL.yes rfl (bP ce.bool rfl (OL.yes rfl (ah rfl (OL.split 37 rfl (λa1=>?_) (λa1=>?_)))))
     .have a1:h.silent.getD j false=true:=a1;refine OL.yes rfl (fQ rfl (OL.yes rfl (ah rfl (OL.yes rfl (dV sl.bools rfl rfl (by omega) (OL.yes rfl (GY ce.bool (by decide) rfl rfl bn1 rfl ?_)))))))
      refine OL.yes rfl (nt rfl (OL.yes rfl (iV rfl rfl (OL.yes rfl (ah rfl (OL.split 44 rfl (λa2=>?_) (λa2=>?_)))))))
      .have a2:l2.getD j false=false:=by simpa using a2
       refine OL.yes rfl (aF fd.fD rfl rfl (OL.yes rfl (ak ce.aW rfl rfl rfl (OL.yes rfl (ah rfl (OL.yes rfl (bg sl.aW [] rfl rfl (by omega) rfl rfl ?_)))))))
       refine OL.yes rfl (bP ce.aQ rfl (OL.yes rfl (ah rfl (OL.yes rfl (bg sl.aQ 0 rfl rfl (by omega) rfl rfl (OL.yes rfl (iU ag.Rat rfl (vs:=[_,_,_]) rfl (au rfl) ?_)))))))
       refine OL.yes rfl (aY rfl .bC (Gl (by omega)) (OL.yes rfl (iI rfl rfl rfl (OL.yes rfl (iV rfl rfl (eG rfl rfl (ay rfl ?_)))))))
       refine OL.nil (AW.rg hE rfl (ah rfl (aB rfl rfl (by omega) (ay rfl (OL.nil ?_)))))
       exact AW.again (x:=(j,op)) (j+1,decide (0<yN ((h.trans.getD i []).getD j 0))) (by (simp only[];omega)) ⟨⟨by omega,(a0 ▸ ho).step ⟨λe=>⟨a1,a2,KU.1 (jC e)⟩,λe=>decide_eq_true (KU.2 e.2.2)⟩⟩,Knows.app .y9 .dR,bn.app (.cons rfl (.cons rfl .nil)) (.nil)⟩
      .have a2:l2.getD j false=true:=by simpa using a2
       refine OL.nd rfl (OL.nd rfl (OL.nd rfl (OL.nd rfl (OL.nd rfl (OL.nd rfl (OL.nd rfl (OL.nd rfl ?_)))))));refine OL.nd rfl (OL.nd rfl (OL.yes rfl (eG rfl rfl (eG rfl rfl (ay rfl (OL.nil (AW.rg hE rfl ?_)))))));refine ah rfl (aB rfl rfl (by omega) (ay rfl (OL.nil ?_)))
       exact AW.again (x:=(j,op)) (j+1,false) (by (simp only[];omega)) ⟨⟨by omega,(a0 ▸ ho).step ⟨λe=>(by cases e),λe=>by rw[a2] at e;exact absurd e.2.1 (by decide)⟩⟩,Knows.app .y9 .dR,bn.app (.cons rfl (.cons rfl .nil)) (.nil)⟩
     .have a1:h.silent.getD j false=false:=a1;refine OL.nd rfl (OL.nd rfl (OL.nd rfl (OL.nd rfl (OL.nd rfl (OL.yes rfl (eG rfl rfl (OL.yes rfl ?_)))))));refine ah rfl (OL.nd rfl (OL.nd rfl (OL.nd rfl (OL.nd rfl (OL.nd rfl (OL.nd rfl (OL.nd rfl ?_)))))));refine OL.nd rfl (OL.nd rfl (OL.nd rfl (OL.yes rfl (eG rfl rfl (eG rfl rfl (ay rfl (OL.nil ?_)))))));refine AW.rg hE rfl (ah rfl (aB rfl rfl (by omega) (ay rfl (OL.nil ?_))))
      exact AW.again (x:=(j,op)) (j+1,false) (by (simp only[];omega)) ⟨⟨by omega,(a0 ▸ ho).step ⟨λe=>(by cases e),λe=>by rw[a1] at e;exact absurd e.1 (by decide)⟩⟩,Knows.app .y9 .dR,bn.app (.cons rfl (.cons rfl .nil)) (.nil)⟩
   .try simp only[bY] at h27
    refine AW.exit ?_;have hel:=TS (show i<l2.length by omega)
    refine AW.rg hE rfl (fQ rfl (ah rfl (fQ rfl (ah rfl (dV sl.bools rfl rfl (by omega) (GY ce.bool (by decide) rfl rfl hel rfl (ah rfl ?_)))))))
    refine OL.split 63 rfl (λa3=>?_) (λa3=>?_)
    .have a3:l2.getD i false=true:=a3;refine OL.nd rfl (OL.nd rfl (iV rfl rfl (ah rfl (OL.nd rfl (OL.nd rfl (OL.nd rfl (OL.nd rfl ?_)))))));refine OL.nd rfl (OL.nd rfl (iV rfl rfl (dV sl.bools rfl rfl (by omega) (AA sz.bool rfl (VC.d _).vd rfl rfl (by rw[dF];omega) (es2:=(l2.set i true).map dB) (by rw[List.map_set]) (OL.nil (AW.rg hE rfl (ah rfl ?_)))))))
     refine aB rfl rfl (by omega) (ay rfl (OL.nil ?_))
     exact AW.again (x:=(i,l2)) (i+1,l2.set i true) (by (simp only[];omega)) ⟨⟨by omega,hp.step (by omega) ((show j=h.st by omega) ▸ ho) (by rw[a3];rfl)⟩,Knows.app .CZ .bC,bn.app (.cons rfl .nil) (.cons rfl .nil)⟩
    .have a3:l2.getD i false=false:=a3;refine OL.yes rfl (ah rfl (OL.yes rfl (nt rfl (eG rfl rfl (ah rfl (OL.split 67 rfl (λa4=>?_) (λa4=>?_)))))))
     .have a4:op=false:=by simpa using a4
      refine OL.nd rfl (OL.nd rfl (OL.nd rfl (OL.nd rfl (OL.nd rfl (OL.nd rfl (iV rfl rfl (dV sl.bools rfl rfl (by omega) ?_)))))))
      refine AA sz.bool rfl (VC.d _).vd rfl rfl (by rw[dF];omega) (es2:=(l2.set i true).map dB) (by rw[List.map_set]) (OL.nil (AW.rg hE rfl (ah rfl (aB rfl rfl (by omega) (ay rfl (OL.nil ?_))))))
      exact AW.again (x:=(i,l2)) (i+1,l2.set i true) (by (simp only[];omega)) ⟨⟨by omega,hp.step (by omega) ((show j=h.st by omega) ▸ ho) (by rw[a4];simp)⟩,Knows.app .CZ .bC,bn.app (.cons rfl .nil) (.cons rfl .nil)⟩
     .have a4:op=true:=by simpa using a4
      refine OL.yes rfl (aF fd.bZ rfl rfl (OL.yes rfl (ak ce.bools rfl rfl rfl (OL.yes rfl (ah rfl (OL.yes rfl (bg sl.bools false rfl rfl (by omega) rfl rfl ?_)))))))
      refine OL.yes rfl (bP ce.bool rfl (OL.yes rfl (nt rfl (eG rfl rfl (dV sl.bools rfl rfl (by omega) (AA sz.bool rfl (VC.d _).vd rfl rfl (by rw[dF];omega) (es2:=(l2.set i (!h.silent.getD i false)).map dB) (by rw[List.map_set]) (OL.nil ?_)))))))
      refine AW.rg hE rfl (ah rfl (aB rfl rfl (by omega) (ay rfl (OL.nil ?_))))
      exact AW.again (x:=(i,l2)) (i+1,l2.set i (!h.silent.getD i false)) (by (simp only[];omega)) ⟨⟨by omega,hp.step (by omega) ((show j=h.st by omega) ▸ ho) (by rw[a3,a4];rfl)⟩,Knows.app .CZ .bC,bn.app (.cons rfl .nil) (.cons rfl .nil)⟩
  .try simp only[bY] at h21
   refine AW.exit (AW.rg hE rfl (ah rfl (aB rfl rfl (by omega) (ay rfl (OL.nil ?_)))))
   exact AW.again (x:=(k,l)) (k+1,l2) (by (simp only[];omega)) ⟨⟨by omega,hp.gon,(show i=h.st by omega) ▸ hp |>.more (by omega) hk⟩,Knows.app .wL .bC,bn.app (.cons rfl .nil) (.cons rfl .nil)⟩
 .try simp only[bY] at h15
  refine AW.exit (AW.seq (AW.sg hE rfl (ay rfl (OL.nil (AW.block ?_)))));refine AW.aK (α:=Nat) [(1,_),(3,_)] [(1,_),(11,_)] (λi=>[(8,.d (dI i))]) (λi=>[]) (λi=>i<=h.st/\∀ j,j<i->l.getD j false=true) (λi=>h.st-i) 0 (.cons (fG rfl) (.cons (uH rfl) .nil)) (.cons (iJ rfl) (.cons (rH rfl) .nil)) ⟨⟨Nat.zero_le _,λj hj=>absurd hj (Nat.not_lt_zero j)⟩,.bC,.nil⟩ ?_
  rintro i ⟨h4,h5⟩
  have h4:i<=h.st:=h4;refine AW.seq (AW.sg hE rfl (ah rfl (aF fd.bQ rfl rfl (ak ce.int rfl rfl rfl (aN rfl rfl rfl (OL.nil (AW.cond rfl (λYh=>?_) (λYh=>?_))))))))
  .try simp only[bY] at Yh
   refine AW.skip (AW.seq (AW.block (AW.seq ?_)));have hel:=TS (show i<l.length by omega)
   refine AW.rg hE rfl (fQ rfl (ah rfl (dV sl.bools rfl rfl (by omega) (GY ce.bool (by decide) rfl rfl hel rfl (nt rfl (OL.nil (AW.cond rfl (λc86=>?_) (λc86=>?_))))))))
   .have c86:l.getD i false=false:=by simpa using c86
    exact AW.sg hE rfl (ay rfl (OL.nil (AW.ret (aH.r ⟨_,.tmp rfl .nil,.le (aZ.bool (by rw[<- av4 λhR=>by have h9:=hk hR;have:=Zz (p:=λi=>l.getD i false) (by omega:h.st<=_) i (by omega);rw[c86] at this;cases this];rfl))⟩))))
   .have c86:l.getD i false=true:=by simpa using c86
    exact AW.skip (AW.rg hE rfl (ah rfl (aB rfl rfl (by omega) (ay rfl (OL.nil (AW.again (x:=i) (i+1) (by omega) ⟨⟨by omega,uf h5 c86⟩,Knows.app .dR .bC,bn.app (.cons rfl (.cons rfl .nil)) (.nil)⟩))))))
  .try simp only[bY] at Yh
   exact AW.exit (AW.sg hE rfl (ay rfl (OL.nil (AW.ret (aH.r ⟨_,.tmp rfl .nil,.le (aZ.bool (by rw[<- TA (hg.Ya λj hj=>h5 j (by omega))];rfl))⟩)))))
theorem P5 {h:HM}(f:h.oh):ai P F.mQ [uY h] (.d (dB true)):=by
 have e1:=f.ini;have e2:=f.trans;have e3:=f.stop;have e4:=f.emit;have e5:=f.ties;have e6:=f.yJ;have s0:=f.qR;have s1:=f.sZ;have n0:=f.st0;have n1:=f.st1;have pE:=f.pE;have pI:=f.pI;have pS:=f.pS;have zE:=f.zE;have zI:=f.zI;have zS0:=f.zS;refine ai.intro fn.mQ (by rfl) (by rfl) (au (by rfl)) λE hE=>(AW.sg hE rfl (iC rfl rfl λb1=>(ay rfl (OL.nil (AW.sg hE rfl (aF fd.bQ rfl rfl (ak ce.int rfl rfl rfl ?_)))))))
 refine ay rfl (OL.nil (AW.seq (AW.sg hE rfl (aF fd.fO rfl rfl (ak ce.aQ rfl rfl rfl (eH sl.aQ rfl rfl (ah rfl ?_)))))));refine bU rfl rfl (c:=false) (by exact eF (by omega)) (ah rfl (OL.yes rfl (aF fd.jf rfl rfl (OL.yes rfl (ak ce.aQ rfl rfl rfl (OL.yes rfl (eH sl.aQ rfl rfl ?_)))))))
 refine OL.yes rfl (ah rfl (OL.yes rfl (bU rfl rfl (c:=false) (by exact eF (by omega)) (eG rfl rfl (ah rfl (OL.yes rfl (aF fd.bZ rfl rfl ?_)))))))
 refine OL.yes rfl (ak ce.bools rfl rfl rfl (OL.yes rfl (eH sl.bools rfl rfl (OL.yes rfl (ah rfl (OL.yes rfl (bU rfl rfl (c:=false) (by exact eF (by omega)) ?_)))))))
 refine eG rfl rfl (ah rfl (OL.yes rfl (aF fd.fF rfl rfl (OL.yes rfl (ak ce.ints rfl rfl rfl (OL.yes rfl (eH sl.ints rfl rfl ?_)))))));refine OL.yes rfl (ah rfl (OL.yes rfl (bU rfl rfl (c:=false) (by exact eF (by omega)) (eG rfl rfl (ah rfl (OL.yes rfl (aF fd.fD rfl rfl ?_)))))))
 refine OL.yes rfl (ak ce.aW rfl rfl rfl (OL.yes rfl (eH sl.aW rfl rfl (OL.yes rfl (ah rfl (OL.yes rfl (bU rfl rfl (c:=false) (by exact eF (by omega)) ?_)))))))
 refine eG rfl rfl (ah rfl (OL.yes rfl (aF fd.dS rfl rfl (OL.yes rfl (ak ce.aW rfl rfl rfl (OL.yes rfl (eH sl.aW rfl rfl ?_)))))));refine OL.yes rfl (ah rfl (OL.yes rfl (bU rfl rfl (c:=false) (by exact eF (by omega)) (eG rfl rfl (OL.nil (jD rfl ?_))))))
 refine AW.skip (AW.seq (AW.sg hE rfl (ay rfl (OL.nil (AW.block (AW.aK (α:=Nat) [(1,_),(3,_)] [(1,_)] (λi=>[(4,.d (dI i))]) (λi=>[]) (λi=>i<=h.st) (λi=>h.st-i) 0 (.cons (fG rfl) (.cons (bM rfl) .nil)) (.cons (iJ rfl) .nil) ⟨Nat.zero_le _,.bC,.nil⟩ ?_))))));intro i h1;refine AW.seq (AW.sg hE rfl (ah rfl (ah rfl (aN rfl rfl rfl (OL.nil (AW.cond rfl (λh49=>?_) (λh49=>?_)))))))
 .try simp only[bY] at h49
  refine AW.skip (AW.seq (AW.block (AW.seq ?_)));cases hs:h.silent.getD i false
  .have t1:=f.x9 i (by omega)
   have t2:=f.AQ i (by omega)
   have t2b:=f.wH i (by omega)
   have t3:=f.tie i (by omega)
   have pT:=f.pT i;have pM:=f.pM i;have zT:=f.zT i;have zM:=f.zM i;have zS:=zS0.get (by decide) i
   rw[if_neg (by rw[hs];decide)] at t2
   refine AW.dg 1 [0,1,2,3,4,5,6,7,8,9,10,11,12,13,14,15,16,17,18,19,20,21,22,23,24,25,26,27,28,29,30,31,32,33,34,35,36,37,38,39,40,41,42,43,44,45,46,47,48,49,50,51,52,53,54,55,56,57,58,59,60,61,62,63,64,65,66,67,68,69,70,71,72,73,74,75,76,77] aj hE rfl (by kernel_rfl) (OI.aP (os:=[_,_,_,_,_,_,_,_,_,_,_,_,_,_,_,_,_,_,_,_,_,_,_,_,_,_,_,_,_,_,_,_,_,_,_,_,_,_,_,_,_,_,_,_,_,_,_,_,_,_,_,_,_,_,_,_,_,_,_,_,_,_,_,_,_,_,_,_,_,_,_,_,_,_,_,_,_,_]) rfl ?_)
   refine aF fd.fD rfl rfl (ak ce.aW rfl rfl rfl (ah rfl (bg sl.aW [] rfl rfl (by omega) rfl rfl (bP ce.aQ rfl (eH sl.aQ rfl rfl (ah rfl (bU rfl rfl (c:=false) (by exact eF (by omega)) ?_)))))))
   refine ah rfl (OL.yes rfl (aF fd.bZ rfl rfl (OL.yes rfl (ak ce.bools rfl rfl rfl (OL.yes rfl (ah rfl (OL.yes rfl ?_)))))));refine bg sl.bools false rfl rfl (by omega) rfl rfl (OL.yes rfl (bP ce.bool rfl ?_))
   rw[hs];refine OL.yes rfl (ah rfl (OL.nd rfl (OL.nd rfl (OL.nd rfl (OL.nd rfl (OL.nd rfl (OL.nd rfl ?_)))))));refine OL.nd rfl (OL.yes rfl (eG rfl rfl (eG rfl rfl (ah rfl (OL.yes rfl (aF fd.bZ rfl rfl (OL.yes rfl ?_)))))));refine ak ce.bools rfl rfl rfl (OL.yes rfl (ah rfl (OL.yes rfl (bg sl.bools false rfl rfl (by omega) rfl rfl (OL.yes rfl (bP ce.bool rfl ?_))))))
   rw[hs];refine OL.yes rfl (nt rfl (OL.yes rfl (ah rfl (OL.yes rfl (aF fd.dS rfl rfl (OL.yes rfl (ak ce.aW rfl rfl rfl ?_)))))));refine OL.yes rfl (ah rfl (OL.yes rfl (bg sl.aW [] rfl rfl (by omega) rfl rfl (OL.yes rfl (bP ce.aQ rfl (OL.yes rfl (eH sl.aQ rfl rfl ?_)))))))
   refine OL.yes rfl (aF fd.jL rfl rfl (OL.yes rfl (ak ce.int rfl rfl rfl (OL.yes rfl (bU rfl rfl (c:=false) (by exact eF (by omega)) (OL.yes rfl (iV rfl rfl ?_)))))))
   refine eG rfl rfl (ah rfl (OL.yes rfl (aF fd.fD rfl rfl (OL.yes rfl (ak ce.aW rfl rfl rfl (OL.yes rfl (ah rfl ?_)))))));refine OL.yes rfl (bg sl.aW [] rfl rfl (by omega) rfl rfl (OL.yes rfl (bP ce.aQ rfl (OL.yes rfl (aY rfl vL (fB (pT) (zT) (by omega)) (OL.yes rfl (nt rfl ?_)))))))
   refine eG rfl rfl (ah rfl (OL.yes rfl (aF fd.dS rfl rfl (OL.yes rfl (ak ce.aW rfl rfl rfl (OL.yes rfl (ah rfl ?_)))))));refine OL.yes rfl (bg sl.aW [] rfl rfl (by omega) rfl rfl (OL.yes rfl (bP ce.aQ rfl (OL.yes rfl (aY rfl vL (fB (pM) (zM) (by omega)) (OL.yes rfl (nt rfl ?_)))))))
   refine eG rfl rfl (ah rfl (OL.yes rfl (aF fd.fF rfl rfl (OL.yes rfl (ak ce.ints rfl rfl rfl (OL.yes rfl (ah rfl ?_)))))));refine OL.yes rfl (bg sl.ints 0 rfl rfl (by omega) rfl rfl (OL.yes rfl (bP ce.int rfl (OL.yes rfl (aN rfl rfl (c:=false) (by exact decide_eq_false (by omega)) (eG rfl rfl (ah rfl ?_)))))))
   refine OL.yes rfl (aF fd.fF rfl rfl (OL.yes rfl (ak ce.ints rfl rfl rfl (OL.yes rfl (ah rfl (OL.yes rfl (bg sl.ints 0 rfl rfl (by omega) rfl rfl ?_)))))))
   refine OL.yes rfl (bP ce.int rfl (OL.yes rfl (ah rfl (OL.yes rfl (lG rfl rfl (c:=false) (by exact decide_eq_false (by omega)) (eG rfl rfl (OL.nil ?_)))))))
   refine jD rfl ?_;exact AW.skip (AW.rg hE rfl (ah rfl (aB rfl rfl (by omega) (ay rfl (OL.nil (AW.again (x:=i) (i+1) (by omega) ⟨by omega,Knows.app .dR .bC,bn.app (.cons rfl .nil) (.nil)⟩))))))
  .have t1:=f.x9 i (by omega)
   have t2:=f.AQ i (by omega)
   have t2b:=f.wH i (by omega)
   have t3:=f.tie i (by omega)
   have pT:=f.pT i;have pM:=f.pM i;have zT:=f.zT i;have zM:=f.zM i;have zS:=zS0.get (by decide) i
   rw[if_pos hs] at t2;refine AW.dg 1 [0,1,2,3,4,5,6,7,8,9,10,11,12,13,14,15,16,17,18,19,20,21,22,23,24,25,26,27,28,29,30,31,32,33,34,35,36,37,38,39,40,41,42,43,44,45,46,47,48,49,50,51,52,53,54,55,56,57,58,59,60,61,62,63,64,65,66,67,68,69,70,71,72,73,74,75,76,77] aj hE rfl (by kernel_rfl) (OI.aP (os:=[_,_,_,_,_,_,_,_,_,_,_,_,_,_,_,_,_,_,_,_,_,_,_,_,_,_,_,_,_,_,_,_,_,_,_,_,_,_,_,_,_,_,_,_,_,_,_,_,_,_,_,_,_,_,_,_,_,_,_,_,_,_,_,_,_,_,_,_,_,_,_,_,_,_,_,_,_,_]) rfl ?_)
   refine aF fd.fD rfl rfl (ak ce.aW rfl rfl rfl (ah rfl (bg sl.aW [] rfl rfl (by omega) rfl rfl (bP ce.aQ rfl (eH sl.aQ rfl rfl (ah rfl (bU rfl rfl (c:=false) (by exact eF (by omega)) ?_)))))))
   refine ah rfl (OL.yes rfl (aF fd.bZ rfl rfl (OL.yes rfl (ak ce.bools rfl rfl rfl (OL.yes rfl (ah rfl (OL.yes rfl ?_)))))));refine bg sl.bools false rfl rfl (by omega) rfl rfl (OL.yes rfl (bP ce.bool rfl ?_))
   rw[hs];refine OL.yes rfl (ah rfl (OL.yes rfl (aF fd.dS rfl rfl (OL.yes rfl (ak ce.aW rfl rfl rfl (OL.yes rfl (ah rfl ?_)))))));refine OL.yes rfl (bg sl.aW [] rfl rfl (by omega) rfl rfl (OL.yes rfl (bP ce.aQ rfl (OL.yes rfl (eH sl.aQ rfl rfl (OL.yes rfl (bU rfl rfl (c:=false) (by exact eF (by omega)) ?_)))))))
   refine OL.yes rfl (iV rfl rfl (eG rfl rfl (ah rfl (OL.yes rfl (aF fd.bZ rfl rfl (OL.yes rfl (ak ce.bools rfl rfl rfl ?_)))))));refine OL.yes rfl (ah rfl (OL.yes rfl (bg sl.bools false rfl rfl (by omega) rfl rfl (OL.yes rfl (bP ce.bool rfl ?_)))))
   rw[hs];refine OL.yes rfl (nt rfl (OL.yes rfl (ah rfl (OL.nd rfl (OL.nd rfl (OL.nd rfl (OL.nd rfl ?_)))))));refine OL.nd rfl (OL.nd rfl (OL.nd rfl (OL.nd rfl (OL.nd rfl (OL.yes rfl (eG rfl rfl (eG rfl rfl ?_)))))));refine ah rfl (OL.yes rfl (aF fd.fD rfl rfl (OL.yes rfl (ak ce.aW rfl rfl rfl (OL.yes rfl (ah rfl (OL.yes rfl ?_)))))));refine bg sl.aW [] rfl rfl (by omega) rfl rfl (OL.yes rfl (bP ce.aQ rfl (OL.yes rfl (aY rfl vL (fB (pT) (zT) (by omega)) (OL.yes rfl (nt rfl (eG rfl rfl ?_)))))))
   refine ah rfl (OL.yes rfl (aF fd.dS rfl rfl (OL.yes rfl (ak ce.aW rfl rfl rfl (OL.yes rfl (ah rfl (OL.yes rfl ?_)))))));refine bg sl.aW [] rfl rfl (by omega) rfl rfl (OL.yes rfl (bP ce.aQ rfl (OL.yes rfl (aY rfl vL (fB (pM) (zM) (by omega)) (OL.yes rfl (nt rfl (eG rfl rfl ?_)))))))
   refine ah rfl (OL.yes rfl (aF fd.fF rfl rfl (OL.yes rfl (ak ce.ints rfl rfl rfl (OL.yes rfl (ah rfl (OL.yes rfl ?_)))))));refine bg sl.ints 0 rfl rfl (by omega) rfl rfl (OL.yes rfl (bP ce.int rfl (OL.yes rfl (aN rfl rfl (c:=false) (by exact decide_eq_false (by omega)) (eG rfl rfl (ah rfl (OL.yes rfl ?_)))))))
   refine aF fd.fF rfl rfl (OL.yes rfl (ak ce.ints rfl rfl rfl (OL.yes rfl (ah rfl (OL.yes rfl (bg sl.ints 0 rfl rfl (by omega) rfl rfl (OL.yes rfl ?_)))))))
   refine bP ce.int rfl (OL.yes rfl (ah rfl (OL.yes rfl (lG rfl rfl (c:=false) (by exact decide_eq_false (by omega)) (eG rfl rfl (OL.nil (jD rfl ?_)))))))
   exact AW.skip (AW.rg hE rfl (ah rfl (aB rfl rfl (by omega) (ay rfl (OL.nil (AW.again (x:=i) (i+1) (by omega) ⟨by omega,Knows.app .dR .bC,bn.app (.cons rfl .nil) (.nil)⟩))))))
 .try simp only[bY] at h49
  refine AW.exit (AW.sg hE rfl (aF fd.fO rfl rfl (ak ce.aQ rfl rfl rfl (aY rfl vL (fB (pI) (zI) (by omega)) (ah rfl (OL.yes rfl (aF fd.jf rfl rfl ?_)))))))
  refine OL.yes rfl (ak ce.aQ rfl rfl rfl (OL.yes rfl (aY rfl vL (fB (pS) (zS0) (by omega)) (iV rfl rfl (ah rfl (OL.yes rfl (aF fd.gZ rfl rfl ?_)))))))
  exact OL.yes rfl (aG ag.Rat rfl rfl (vs:=[_,_,_]) rfl (au rfl) (OL.yes rfl (aY rfl vL (mW pE (by omega)) (iV rfl rfl (ay rfl (OL.nil (AW.ret (aH.r ⟨_,.tmp rfl .nil,.le vR⟩))))))))
theorem FV {h : HM} (f : h.oh) (sm : h.Me) (rk : h.ql) (td : h.PZ) : ai P F.je [uY h] (.d (dI 0)) := by
 have e1:=f.ini;have e2:=f.trans;have e3:=f.stop;have e4:=f.emit;have e5:=f.ties;have e6:=f.yJ;have s0:=f.qR;have s1:=f.sZ;have n0:=f.st0;have n1:=f.st1;have pE:=f.pE;have pI:=f.pI;have pS:=f.pS;have zE:=f.zE;have zI:=f.zI;have zS0:=f.zS;refine ai.intro fn.je (by rfl) (by rfl) (au (by rfl)) λE hE=>(AW.sg hE rfl (iC rfl rfl λb1=>(ay rfl (OL.nil (AW.seq (AW.sg hE rfl (aF fd.jL rfl rfl ?_)))))))
 refine ak ce.int rfl rfl rfl (aN rfl rfl (c:=false) (by exact decide_eq_false (by omega)) (ah rfl (OL.yes rfl (aF fd.jL rfl rfl (OL.yes rfl (ak ce.int rfl rfl rfl (OL.yes rfl ?_)))))))
 refine iI rfl rfl (c:=false) (by exact decide_eq_false (by omega)) (eG rfl rfl (ah rfl (OL.yes rfl (aF fd.bQ rfl rfl (OL.yes rfl (ak ce.int rfl rfl rfl (OL.yes rfl ?_)))))))
 refine aN rfl rfl (c:=false) (by exact decide_eq_false (by omega)) (eG rfl rfl (ah rfl (OL.yes rfl (aF fd.bQ rfl rfl (OL.yes rfl (ak ce.int rfl rfl rfl (OL.yes rfl ?_)))))))
 refine iI rfl rfl (c:=false) (by exact decide_eq_false (by omega)) (eG rfl rfl (OL.nil (jD rfl ?_)))
 refine AW.skip (AW.seq (AW.sg hE rfl (aG ag.aU rfl rfl (vs:=[_,_,_,_,_,_,_,_,_,_,_]) rfl (au rfl) (aY rfl vL (P5 f) (nt rfl (OL.nil (jD rfl ?_)))))));refine AW.skip (AW.seq (AW.sg hE rfl (aF fd.gZ rfl rfl (aG ag.Rat rfl rfl (vs:=[_,_,_]) rfl (au rfl) (aF fd.fO rfl rfl (ak ce.aQ rfl rfl rfl (aY rfl vL (oM (x:=h.empty) (l:=h.ini) (by omega) zI (by omega) (by omega) (by rw[<- y5];exact sm.i)) ?_)))))))
 refine nt rfl (OL.nil (jD rfl ?_));refine AW.skip (AW.seq (AW.sg hE rfl (ay rfl (OL.nil (AW.block (AW.aK (α:=Nat) [(1,_)] [(1,_)] (λi=>[(3,.d (dI i))]) (λi=>[]) (λi=>i<=h.st) (λi=>h.st-i) 0 (.cons (fG rfl) .nil) (.cons (iJ rfl) .nil) ⟨Nat.zero_le _,.bC,.nil⟩ ?_))))));intro i h1;refine AW.seq (AW.sg hE rfl (ah rfl (aF fd.bQ rfl rfl (ak ce.int rfl rfl rfl (aN rfl rfl rfl (OL.nil (AW.cond rfl (λh37=>?_) (λh37=>?_))))))))
 .try simp only[bY] at h37
  refine AW.skip (AW.seq (AW.block (AW.seq ?_)));have t1:=f.x9 i (by omega)
  have t2:=f.AQ i (by omega)
  have t2b:=f.wH i (by omega)
  have t3:=f.tie i (by omega)
  have pT:=f.pT i;have pM:=f.pM i;have zT:=f.zT i;have zM:=f.zM i;have zS:=zS0.get (by decide) i
  refine AW.dg 1 [0,1,2,3,4,5,6,7,8,9,10,11] aj hE rfl (by kernel_rfl) (OI.aP (os:=[_,_,_,_,_,_,_,_,_,_,_,_]) rfl ?_)
  refine aF fd.jf rfl rfl (ak ce.aQ rfl rfl rfl (ah rfl (bg sl.aQ 0 rfl rfl (by omega) rfl rfl (iU ag.Rat rfl (vs:=[_,_,_]) rfl (au rfl) (aF fd.fD rfl rfl (ak ce.aW rfl rfl rfl (ah rfl ?_)))))))
  refine bg sl.aW [] rfl rfl (by omega) rfl rfl (bP ce.aQ rfl (aY rfl vL (oM (x:=h.stop.getD i 0) (l:=h.trans.getD i []) (by omega) zT (by omega) (by omega) (by rw[<- y5];exact sm.t i (by omega))) (nt rfl (OL.nil (jD rfl ?_)))))
  exact AW.skip (AW.rg hE rfl (ah rfl (aB rfl rfl (by omega) (ay rfl (OL.nil (AW.again (x:=i) (i+1) (by omega) ⟨by omega,Knows.app .bC .bC,bn.app (.cons rfl .nil) (.nil)⟩))))))
 .try simp only[bY] at h37
  refine AW.exit (AW.seq (AW.sg hE rfl (ay rfl (OL.nil (AW.block (AW.aK (α:=Nat) [(1,_)] [(1,_)] (λi=>[(4,.d (dI i))]) (λi=>[]) (λi=>i<=h.st) (λi=>h.st-i) 0 (.cons (fG rfl) .nil) (.cons (iJ rfl) .nil) ⟨Nat.zero_le _,.bC,.nil⟩ ?_))))));intro i h1;refine AW.seq (AW.sg hE rfl (ah rfl (aF fd.bQ rfl rfl (ak ce.int rfl rfl rfl (aN rfl rfl rfl (OL.nil (AW.cond rfl (λh55=>?_) (λh55=>?_))))))))
  .try simp only[bY] at h55
   refine AW.skip (AW.seq (AW.block (AW.seq ?_)));have t1:=f.x9 i (by omega)
   have t2:=f.AQ i (by omega)
   have t2b:=f.wH i (by omega)
   have t3:=f.tie i (by omega)
   have pT:=f.pT i;have pM:=f.pM i;have zT:=f.zT i;have zM:=f.zM i;have zS:=zS0.get (by decide) i
   refine AW.rg hE rfl (aF fd.bZ rfl rfl (ak ce.bools rfl rfl rfl (ah rfl (bg sl.bools false rfl rfl (by omega) rfl rfl (bP ce.bool rfl (nt rfl (ah rfl ?_)))))))
   refine OL.split 64 rfl (λa2=>?_) (λa2=>?_)
   .have a2:h.silent.getD i false=false:=by simpa using a2
    refine OL.yes rfl (bd z.Rat pl.Rat (cs:=[_,_,_]) rfl (OL.yes rfl (aF fd.dS rfl rfl (OL.yes rfl (ak ce.aW rfl rfl rfl (OL.yes rfl (ah rfl ?_)))))));refine OL.yes rfl (bg sl.aW [] rfl rfl (by omega) rfl rfl (OL.yes rfl (bP ce.aQ rfl (OL.yes rfl (aY rfl (.cons RS .bC) (oM (x:=0) (l:=h.emit.getD i []) (by rw[gJ];decide) zM (by omega) (by omega) (by rw[Rat.zero_add];exact sm.m i (by omega) a2)) (OL.yes rfl (nt rfl ?_)))))))
    refine iV rfl rfl (OL.nil (jD rfl ?_));exact AW.skip (AW.rg hE rfl (ah rfl (aB rfl rfl (by omega) (ay rfl (OL.nil (AW.again (x:=i) (i+1) (by omega) ⟨by omega,Knows.app .bC .bC,bn.app (.cons rfl .nil) (.nil)⟩))))))
   .have a2:h.silent.getD i false=true:=by simpa using a2
    refine OL.nd rfl (OL.nd rfl (OL.nd rfl (OL.nd rfl (OL.nd rfl (OL.nd rfl (OL.nd rfl (OL.nd rfl ?_)))))));refine eG rfl rfl (OL.nil (jD rfl ?_));exact AW.skip (AW.rg hE rfl (ah rfl (aB rfl rfl (by omega) (ay rfl (OL.nil (AW.again (x:=i) (i+1) (by omega) ⟨by omega,Knows.app .bC .bC,bn.app (.cons rfl .nil) (.nil)⟩))))))
  .try simp only[bY] at h55
   refine AW.exit (AW.seq (AW.sg hE rfl (aG ag.aU rfl rfl (vs:=[_,_,_,_,_,_,_,_,_,_,_]) rfl (au rfl) (aY rfl vL (Pm f) ?_))));rw[<- TA rk];refine OL.nil (jD rfl ?_);refine AW.skip (AW.seq (AW.sg hE rfl (ay rfl (OL.nil (AW.block (AW.aK (α:=Nat) [(1,_)] [(1,_)] (λi=>[(5,.d (dI i))]) (λi=>[]) (λi=>i<=h.st) (λi=>h.st-i) 0 (.cons (fG rfl) .nil) (.cons (iJ rfl) .nil) ⟨Nat.zero_le _,.bC,.nil⟩ ?_))))));intro i h1;refine AW.seq (AW.sg hE rfl (ah rfl (aF fd.bQ rfl rfl (ak ce.int rfl rfl rfl (aN rfl rfl rfl (OL.nil (AW.cond rfl (λYh=>?_) (λYh=>?_))))))))
   .try simp only[bY] at Yh
    refine AW.skip (AW.seq (AW.block (AW.sg hE rfl (ay rfl (OL.nil (AW.block (AW.aK (α:=Nat) [(1,_),(5,_)] [(1,_)] (λj=>[(6,.d (dI j))]) (λj=>[]) (λj=>j<=i) (λj=>i-j) 0 (.cons (fG rfl) (.cons (bM rfl) .nil)) (.cons (iJ rfl) .nil) ⟨Nat.zero_le _,.bC,.nil⟩ ?_)))))));intro j h2;refine AW.seq (AW.sg hE rfl (ah rfl (ah rfl (aN rfl rfl rfl (OL.nil (AW.cond rfl (λh84=>?_) (λh84=>?_)))))))
    .try simp only[bY] at h84
     refine AW.skip (AW.seq (AW.block (AW.seq ?_)));have t1:=f.x9 i (by omega)
     have t2:=f.wH i (by omega)
     have t2j:=f.wH j (by omega)
     have zM:=f.zM i;have zMj:=f.zM j;refine AW.dg 1 [0,1,2,3,4,5,6,7,8,9,10,11,12,13,14,15,16,17,18,19,20,21,22,23,24,25,26,27,28,29,30,31,32,33,34,35,36,37,38,39,40] aj hE rfl (by kernel_rfl) (OI.aP (os:=[_,_,_,_,_,_,_,_,_,_,_,_,_,_,_,_,_,_,_,_,_,_,_,_,_,_,_,_,_,_,_,_,_,_,_,_,_,_,_,_,_]) rfl ?_)
     refine aF fd.bZ rfl rfl (ak ce.bools rfl rfl rfl (ah rfl (bg sl.bools false rfl rfl (by omega) rfl rfl (bP ce.bool rfl (nt rfl (ah rfl (OL.split 93 rfl (λa1=>?_) (λa1=>?_))))))))
     .have a1:h.silent.getD i false=false:=by simpa using a1
      refine OL.yes rfl (aF fd.bZ rfl rfl (OL.yes rfl (ak ce.bools rfl rfl rfl (OL.yes rfl (ah rfl (OL.yes rfl (bg sl.bools false rfl rfl (by omega) rfl rfl ?_)))))))
      refine OL.yes rfl (bP ce.bool rfl (OL.yes rfl (nt rfl (iV rfl rfl (ah rfl (OL.split 101 rfl (λa2=>?_) (λa2=>?_)))))))
      .have a2:h.silent.getD j false=false:=by simpa using a2
       refine OL.yes rfl (aF fd.fF rfl rfl (OL.yes rfl (ak ce.ints rfl rfl rfl (OL.yes rfl (ah rfl (OL.yes rfl (bg sl.ints 0 rfl rfl (by omega) rfl rfl ?_)))))))
       refine OL.yes rfl (bP ce.int rfl (OL.yes rfl (aF fd.fF rfl rfl (OL.yes rfl (ak ce.ints rfl rfl rfl (OL.yes rfl (ah rfl ?_)))))));refine OL.yes rfl (bg sl.ints 0 rfl rfl (by omega) rfl rfl (OL.yes rfl (bP ce.int rfl (OL.yes rfl (dm rfl rfl rfl (iV rfl rfl (ah rfl ?_)))))))
       refine OL.split 114 rfl (λg41=>?_) (λg41=>?_)
       .have g41:h.ties.getD i 0=h.ties.getD j 0:=jC g41;refine OL.yes rfl (aF fd.dS rfl rfl (OL.yes rfl (ak ce.aW rfl rfl rfl (OL.yes rfl (ah rfl (OL.yes rfl (bg sl.aW [] rfl rfl (by omega) rfl rfl ?_)))))))
        refine OL.yes rfl (bP ce.aQ rfl (OL.yes rfl (aF fd.dS rfl rfl (OL.yes rfl (ak ce.aW rfl rfl rfl (OL.yes rfl (ah rfl ?_)))))));refine OL.yes rfl (bg sl.aW [] rfl rfl (by omega) rfl rfl (OL.yes rfl (bP ce.aQ rfl (OL.yes rfl (aY rfl vL (lV zM zMj ⟨by decide,by decide,by omega⟩) ?_)))))
        rw[decide_eq_true (td i j (by omega) (by omega) a1 a2 g41)]
        refine OL.yes rfl (nt rfl (iV rfl rfl (OL.nil (jD rfl ?_))));exact AW.skip (AW.rg hE rfl (ah rfl (aB rfl rfl (by omega) (ay rfl (OL.nil (AW.again (x:=j) (j+1) (by omega) ⟨by omega,Knows.app .dR .bC,bn.app (.cons rfl .nil) (.nil)⟩))))))
       .have _g41:=g41;refine OL.nd rfl (OL.nd rfl (OL.nd rfl (OL.nd rfl (OL.nd rfl (OL.nd rfl (OL.nd rfl (OL.nd rfl ?_)))))));refine OL.nd rfl (OL.nd rfl (OL.nd rfl (OL.nd rfl (eG rfl rfl (OL.nil (jD rfl ?_))))));exact AW.skip (AW.rg hE rfl (ah rfl (aB rfl rfl (by omega) (ay rfl (OL.nil (AW.again (x:=j) (j+1) (by omega) ⟨by omega,Knows.app .dR .bC,bn.app (.cons rfl .nil) (.nil)⟩))))))
      .have a2:h.silent.getD j false=true:=by simpa using a2
       refine OL.nd rfl (OL.nd rfl (OL.nd rfl (OL.nd rfl (OL.nd rfl (OL.nd rfl (OL.nd rfl (OL.nd rfl ?_)))))));refine OL.nd rfl (OL.nd rfl (OL.nd rfl (eG rfl rfl (ah rfl (OL.nd rfl (OL.nd rfl (OL.nd rfl ?_)))))));refine OL.nd rfl (OL.nd rfl (OL.nd rfl (OL.nd rfl (OL.nd rfl (OL.nd rfl (OL.nd rfl (OL.nd rfl ?_)))))));refine OL.nd rfl (eG rfl rfl (OL.nil (jD rfl ?_)));exact AW.skip (AW.rg hE rfl (ah rfl (aB rfl rfl (by omega) (ay rfl (OL.nil (AW.again (x:=j) (j+1) (by omega) ⟨by omega,Knows.app .dR .bC,bn.app (.cons rfl .nil) (.nil)⟩))))))
     .have a1:h.silent.getD i false=true:=by simpa using a1
      refine OL.nd rfl (OL.nd rfl (OL.nd rfl (OL.nd rfl (OL.nd rfl (OL.nd rfl (eG rfl rfl (ah rfl ?_)))))));refine OL.nd rfl (OL.nd rfl (OL.nd rfl (OL.nd rfl (OL.nd rfl (OL.nd rfl (OL.nd rfl (OL.nd rfl ?_)))))));refine OL.nd rfl (OL.nd rfl (OL.nd rfl (eG rfl rfl (ah rfl (OL.nd rfl (OL.nd rfl (OL.nd rfl ?_)))))));refine OL.nd rfl (OL.nd rfl (OL.nd rfl (OL.nd rfl (OL.nd rfl (OL.nd rfl (OL.nd rfl (OL.nd rfl ?_)))))));refine OL.nd rfl (eG rfl rfl (OL.nil (jD rfl ?_)));exact AW.skip (AW.rg hE rfl (ah rfl (aB rfl rfl (by omega) (ay rfl (OL.nil (AW.again (x:=j) (j+1) (by omega) ⟨by omega,Knows.app .dR .bC,bn.app (.cons rfl .nil) (.nil)⟩))))))
    .try simp only[bY] at h84
     exact AW.exit (AW.rg hE rfl (ah rfl (aB rfl rfl (by omega) (ay rfl (OL.nil (AW.again (x:=i) (i+1) (by omega) ⟨by omega,Knows.app .bC .bC,bn.app (.cons rfl .nil) (.nil)⟩))))))
   .try simp only[bY] at Yh
    exact AW.exit (AW.sg hE rfl (ay rfl (OL.nil (AW.ret (aH.r ⟨_,.tmp rfl .nil,.le vR⟩)))))

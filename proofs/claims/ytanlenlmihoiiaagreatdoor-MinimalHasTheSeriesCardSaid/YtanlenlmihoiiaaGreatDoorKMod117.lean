/-
  M, chapter 24: the numbers of a minimal realisation of a small made automaton are small (Cramer's rule, whole numbers over powers of 6).
-/
import Derived.Test.YtanlenlmihoiiaaGreatDoorKMod109
set_option linter.unusedVariables false
set_option linter.unusedSimpArgs false
namespace Go.Proofs.YtanlenlmihoiiaaGreatDoor
open Go Go.AL
theorem Xi {α:Type}{d:α}{l m:List α}(hl:l.length=m.length)(h:∀ j,j<l.length->l.getD j d=m.getD j d):l=m:=by
 refine List.ext_getElem hl λj h1 h2=>?_;have e:=h j h1;rw[iO,iO,lF h1,lF h2] at e;exact e
theorem am9 {a:Au}(h:1<=a.sym):∀ x,x ∈ (uj a).aB->x.f<(bn (ah [a])).length/\x.t<(bn (ah [a])).length/\1<=x.l/\x.l<=a.sym :=
 gK.tidy (p:=λf l t=>f<(bn (ah [a])).length/\t<(bn (ah [a])).length/\1<=l/\l<=a.sym) (Iz h)
theorem aH6 {a:Au}(h:1<=a.sym){x:bM}(hx:x ∈ (uj a).aB):x.q=(lD (ah [a]) (bn (ah [a])) x.f (x.l-1)).getD x.t 0:=by
 obtain⟨h1,h2,h3,h4⟩:=am9 h x hx;rw[<- FK (FI (dF (qV (ah [a]) (bn (ah [a]))))) hx h3,vK,vK];exact JY (by rw[tY];omega) h1 h2
structure Au.Cmp (a:Au):Prop where
 ini:∀ i,sz (a.ini.getD i 0)<=68719476736
 fin:∀ i,sz (a.fin.getD i 0)<=68719476736
 arc:∀ i,sz (a.aB.getD i default).q<=68719476736
 bv0:a.ini.length<=64
 bv1:a.fin.length<=64
 bv2:a.aB.length<=64
theorem PX {α:Type}{p:α->Prop}{d:α}(h0:p d){l:List α}(h:∀ x,x ∈ l->p x)(i:Nat):p (l.getD i d):=by
 rcases Nat.lt_or_ge i l.length with hi|hi
 .exact h _ (getD_mem hi d)
 .rw[iO,List.getElem?_eq_none hi];exact h0
theorem aW9 {a:Au}{s:Nat}(t:Au.Take a s)(s2:s<=2)(st4:a.st<=4)(hk3:(bn (ah [a])).length<=3):Au.Cmp (uj a):=by
 obtain⟨ok,_,z6,hn⟩:=EK t (Nat.le_trans s2 (by decide))
 obtain⟨pk,pn⟩:=Aj ok z6;have hs:a.sym=s:=t.fit.sym;have hs1:=t.fit.ok.H8;have hk2:∀ u,u ∈ bn (ah [a])->u.length<=2:=λu hu=>by have:=pk.short u hu;omega
 have z0:sz 0<=68719476736:=by rw[fH];decide
 have z1:sz 1<=68719476736:=by rw[yG];decide
 refine⟨PX (p:=λq=>sz q<=68719476736) z0 λq hq=>?_,PX (p:=λq=>sz q<=68719476736) z0 λq hq=>?_,PX (p:=λx:bM=>sz x.q<=68719476736) z0 λx hx=>?_,?_,?_,?_⟩
 .obtain⟨i,_,rfl⟩:=jH hq;by_cases h0:i=0
  .rw[if_pos h0];exact z1
  .rw[if_neg h0];exact z0
 .obtain⟨u,hu,rfl⟩:=jH hq;have h:=KH (n:=(ah [a]).n) (u:=vf (aZ (ah [a]) u)) (v:=vf (ah [a]).fin) z6.n6 (λi=>mV z6 (by have:=hk2 u hu;omega) i) z6.fin
  exact Nat.le_trans h (by decide)
 .rw[aH6 hs1 hx];have hco:∀ i s j,sz ((lD (ah [a]) (bn (ah [a])) i s).getD j 0)<=134217728:=by
   refine Xe z6 (λl hl=>?_) hk2 hk3 (Nat.le_trans (PU _ _ rfl) (by rw[dL];exact hk3))
   have h:=GV (qC ok) z6.turn l hl;have hm:(aU (ah [a])).n=(ah [a]).n:=rfl;omega
  exact Nat.le_trans (hco _ _ _) (by decide)
 .show (EP _).length<=64
  rw[Ai];omega
 .show ((bn (ah [a])).map _).length<=64
  rw[dL];omega
 .have h1:=zn (dF (qV (ah [a]) (bn (ah [a]))));have h2:=zn (qV (ah [a]) (bn (ah [a])));have h3:(qV (ah [a]) (bn (ah [a]))).length<=20:=by
   rw[<- Xc,JW,tY];have hm1:=Nat.mul_le_mul (show a.sym<=2 by omega) hk3
   have hm2:=Nat.mul_le_mul hk3 hm1;omega
  show (dF (dF _)).length<=64
  omega
theorem bG6 {m:gB}:ai P F.jL [uY (dS m 2 3)] (.oM [uY (uj (dS m 2 3)),.d (dI 0)]) :=
 PL kW (by decide) (by decide) (by have:=Hu (m:=m);omega) (wds m).r3
theorem Xj {m:gB}:Au.Cmp (uj (dS m 2 3)):=aW9 kW (by decide) (by have:=Hu (m:=m);omega) (by rw[(wds m).pl];exact (wds m).r3)
theorem aX0 {x y:bM}(h1:x.f=y.f)(h2:x.l=y.l)(h3:x.t=y.t)(h4:x.q=y.q):x=y:=by
 cases x;cases y;simp only at h1 h2 h3 h4;subst h1 h2 h3 h4;rfl
theorem bg7 {x y:Au}(h1:x.sym=y.sym)(h2:x.st=y.st)(h3:x.ini=y.ini)(h4:x.fin=y.fin)(h5:x.aB=y.aB):x=y:=by
 cases x;cases y;simp only at h1 h2 h3 h4 h5;subst h1 h2 h3 h4 h5;rfl
theorem PY {l m:List Rat}(nl:l.length<=64)(nm:m.length<=64)(zl:∀ i,sz (l.getD i 0)<=68719476736)(zm:∀ i,sz (m.getD i 0)<=68719476736):ai P F.wo [.d (lC l),.d (lC m)] (.d (dB (decide (l=m)))):=by
 refine ai.intro fn.wo (by rfl) (by rfl) (au (by rfl)) λE hE=>(AW.sg hE rfl (aG rfl (OL.nil (AW.seq (AW.sg hE rfl (aj rfl (fO sl.aS rfl rfl ?_)))))))
 refine aj rfl (fO sl.aS rfl rfl (fJ rfl rfl rfl (OL.nil (AW.cond rfl (λh0=>?_) (λh0=>?_)))))
 .have h0:l.length≠m.length:=λe=>zH h0 (by rw[e])
  rw[decide_eq_false (show ¬ l=m from λe=>h0 (by rw[e]))]
  exact AW.sg hE rfl (aG rfl (OL.nil (AW.ret (aT.r ⟨_,.tmp rfl .nil,.le vR⟩))))
 .have h0:l.length=m.length:=by have:=yc h0;omega
  refine AW.skip (AW.seq (AW.sg hE rfl (aG rfl (OL.nil (AW.block ?_)))));refine AW.aX (α:=Nat) [(0,_),(1,_)] [] (λi=>[(5,.d (dI i))]) (λi=>[]) (λi=>i<=l.length/\∀ j,j<i->l.getD j 0=m.getD j 0) (λi=>l.length-i) 0 (.cons (dA rfl) (.cons (dA rfl) .nil)) .nil ⟨⟨Nat.zero_le _,λj hj=>absurd hj (Nat.not_lt_zero _)⟩,.dw,.nil⟩ ?_
  rintro i ⟨h1,h2⟩
  have h1:i<=l.length:=h1;have h2:∀ j,j<i->l.getD j 0=m.getD j 0:=h2;refine AW.seq (AW.sg hE rfl (aj rfl (aj rfl (fO sl.aS rfl rfl (bD rfl rfl rfl (OL.nil (AW.cond rfl (λDp=>?_) (λDp=>?_))))))))
  .try simp only[fG] at Dp
   refine AW.skip (AW.seq (AW.block (AW.seq ?_)));have hi:i<l.length:=by omega
   have hi2:i<m.length:=by omega
   refine AW.dg 1 [0,1,2,3,4,5,6,7,8,9] ak hE rfl (by kernel_rfl) (OI.aP (os:=[_,_,_,_,_,_,_,_,_,_]) rfl ?_)
   refine aj rfl (aj rfl (fD sl.aS 0 rfl rfl hi rfl rfl (iR ag.ay rfl (vs:=[_,_,_,_,_,_,_,_]) rfl (au rfl) (aj rfl (aj rfl (fD sl.aS 0 rfl rfl hi2 rfl rfl (iR ag.ay rfl (vs:=[_,_,_,_,_,_,_,_]) rfl (au rfl) ?_)))))));refine bP rfl vL (Ul (p:=l.getD i 0) (q:=m.getD i 0) (zl i) (zm i)) (nt rfl (OL.nil (AW.cond rfl (λhs=>?_) (λhs=>?_))))
   .have hs:¬ l.getD i 0=m.getD i 0:=zH hs;rw[decide_eq_false (show ¬ l=m from λe=>hs (by rw[e]))]
    exact AW.sg hE rfl (aG rfl (OL.nil (AW.ret (aT.r ⟨_,.tmp rfl .nil,.le vR⟩))))
   .have hs:l.getD i 0=m.getD i 0:=yc hs;refine AW.skip (AW.rg hE rfl (aj rfl (aJ rfl rfl (by omega) (aG rfl (OL.nil ?_)))))
    exact AW.again (x:=i) (i+1) (by omega) ⟨⟨by omega,λj hj=>by
     by_cases e:j=i
     .rw[e];exact hs
     .exact h2 j (by omega)⟩,Knows.app .jm .dw,.nil⟩
  .try simp only[fG] at Dp
   refine AW.exit (AW.seq ?_);obtain rfl:i=l.length:=by omega
   rw[decide_eq_true (show l=m from Xi h0 h2)]
   exact AW.rg hE rfl (aG rfl (OL.nil (AW.ret (aT.r ⟨_,.tmp rfl .nil,.le vR⟩))))
set_option maxRecDepth 8000 in
set_option maxHeartbeats 1600000 in
theorem bg8 {a b : Au} {v : Bool} (hv : v = true ↔ a = b) (ca : Au.Cmp a) (cb : Au.Cmp b) (hs : a.sym = b.sym) : ai P F.DF [uY a, uY b] (.d (dB v)) := by
 have na:=ca.bv2;have nb:=cb.bv2;refine ai.intro fn.DF (by rfl) (by rfl) (au (by rfl)) λE hE=>(AW.sg hE rfl (iG rfl rfl λb2=>(iG rfl rfl λb3=>(aG rfl (OL.nil (AW.seq (AW.sg hE rfl ?_)))))))
 refine aV fd.gu rfl rfl (aQ ag.Ring rfl rfl (vs:=[_,_]) rfl (au rfl) (aV fd.gu rfl rfl (aQ ag.Ring rfl rfl (vs:=[_,_]) rfl (au rfl) (bP rfl vL (aU0) (nt rfl (aj rfl (OL.yes rfl ?_)))))));refine aV fd.kZ rfl rfl (OL.yes rfl (aA ce.int rfl rfl rfl (OL.yes rfl (aV fd.kZ rfl rfl (OL.yes rfl (aA ce.int rfl rfl rfl (OL.yes rfl ?_)))))));refine fJ rfl rfl (c:=false) (o6 (by rw[hs])) (oI rfl rfl (aj rfl (OL.yes rfl (aV fd.jf rfl rfl (OL.yes rfl (aA ce.int rfl rfl rfl (OL.yes rfl ?_)))))))
 refine aV fd.jf rfl rfl (OL.yes rfl (aA ce.int rfl rfl rfl (OL.yes rfl (fJ rfl rfl rfl (oI rfl rfl (aj rfl (OL.split 26 rfl (λg1=>?_) (λg1=>?_))))))))
 .have g1:¬ a.st=b.st:=λe=>zH g1 (by rw[e])
  have hv0:v=false:=Bool.eq_false_iff.2 λe=>g1 (congrArg Au.st (hv.1 e));refine OL.nd rfl (OL.nd rfl (OL.nd rfl (OL.nd rfl (OL.nd rfl (OL.nd rfl (nJ rfl rfl (aj rfl ?_)))))));refine OL.nd rfl (OL.nd rfl (OL.nd rfl (OL.nd rfl (OL.nd rfl (OL.nd rfl (nJ rfl rfl (aj rfl ?_)))))));refine OL.nd rfl (OL.nd rfl (OL.nd rfl (OL.nd rfl (OL.nd rfl (OL.nd rfl (OL.nd rfl (nJ rfl rfl ?_)))))));refine OL.nil (F6 rfl ?_);refine AW.seq ?_;rw[hv0];exact AW.rg hE rfl (aG rfl (OL.nil (AW.ret (aT.r ⟨_,.tmp rfl .nil,.le vR⟩))))
 .have g1 : a.st = b.st := by have := yc g1; omega
  refine OL.yes rfl (aV fd.mg rfl rfl (OL.yes rfl (aA ce.aS rfl rfl rfl (OL.yes rfl (aV fd.mg rfl rfl (OL.yes rfl (aA ce.aS rfl rfl rfl ?_)))))));refine OL.yes rfl (bP rfl vL (PY (l:=a.ini) (m:=b.ini) ca.bv0 cb.bv0 ca.ini cb.ini) (OL.yes rfl (nt rfl (oI rfl rfl (aj rfl (OL.split 34 rfl (λg2=>?_) (λg2=>?_)))))))
  .have g2:¬ a.ini=b.ini:=zH g2;have hv0:v=false:=Bool.eq_false_iff.2 λe=>g2 (congrArg Au.ini (hv.1 e));refine OL.nd rfl (OL.nd rfl (OL.nd rfl (OL.nd rfl (OL.nd rfl (OL.nd rfl (nJ rfl rfl (aj rfl ?_)))))));refine OL.nd rfl (OL.nd rfl (OL.nd rfl (OL.nd rfl (OL.nd rfl (OL.nd rfl (OL.nd rfl (nJ rfl rfl ?_)))))));refine OL.nil (F6 rfl ?_);refine AW.seq ?_;rw[hv0];exact AW.rg hE rfl (aG rfl (OL.nil (AW.ret (aT.r ⟨_,.tmp rfl .nil,.le vR⟩))))
  .have g2 : a.ini = b.ini := yc g2;refine OL.yes rfl (aV fd.o8 rfl rfl (OL.yes rfl (aA ce.aS rfl rfl rfl (OL.yes rfl (aV fd.o8 rfl rfl (OL.yes rfl (aA ce.aS rfl rfl rfl ?_)))))));refine OL.yes rfl (bP rfl vL (PY (l:=a.fin) (m:=b.fin) ca.bv1 cb.bv1 ca.fin cb.fin) (OL.yes rfl (nt rfl (oI rfl rfl (aj rfl (OL.split 42 rfl (λg3=>?_) (λg3=>?_)))))))
   .have g3:¬ a.fin=b.fin:=zH g3;have hv0:v=false:=Bool.eq_false_iff.2 λe=>g3 (congrArg Au.fin (hv.1 e));refine OL.nd rfl (OL.nd rfl (OL.nd rfl (OL.nd rfl (OL.nd rfl (OL.nd rfl (OL.nd rfl (nJ rfl rfl ?_)))))));refine OL.nil (F6 rfl ?_);refine AW.seq ?_;rw[hv0];exact AW.rg hE rfl (aG rfl (OL.nil (AW.ret (aT.r ⟨_,.tmp rfl .nil,.le vR⟩))))
   .have g3 : a.fin = b.fin := yc g3;refine OL.yes rfl (aV fd.fM rfl rfl (OL.yes rfl (aA ce.bZ rfl rfl rfl (OL.yes rfl (fO sl.bZ rfl rfl (OL.yes rfl (aV fd.fM rfl rfl ?_)))))));refine OL.yes rfl (aA ce.bZ rfl rfl rfl (OL.yes rfl (fO sl.bZ rfl rfl (OL.yes rfl (fJ rfl rfl rfl (oI rfl rfl (OL.nil ?_)))))));refine AW.cond rfl (λg4=>?_) (λg4=>?_)
    .have g4:¬ a.aB.length=b.aB.length:=λe=>zH g4 (by rw[e])
     have hv0:v=false:=Bool.eq_false_iff.2 λe=>g4 (congrArg (λx=>x.aB.length) (hv.1 e));refine AW.seq ?_;rw[hv0];exact AW.rg hE rfl (aG rfl (OL.nil (AW.ret (aT.r ⟨_,.tmp rfl .nil,.le vR⟩))))
    .have g4:a.aB.length=b.aB.length:=by have:=yc g4;omega
     refine AW.skip (AW.seq (AW.sg hE rfl (aG rfl (OL.nil (AW.block ?_)))));refine AW.aX (α:=Nat) [(2,_),(3,_)] [(2,_),(3,_)] (λi=>[(5,.d (dI i))]) (λi=>[]) (λi=>i<=a.aB.length/\∀ j,j<i->a.aB.getD j default=b.aB.getD j default) (λi=>a.aB.length-i) 0 (.cons (iF rfl) (.cons (iF rfl) .nil)) (.cons (jc rfl) (.cons (jc rfl) .nil)) ⟨⟨Nat.zero_le _,λj hj=>absurd hj (Nat.not_lt_zero _)⟩,.dw,.nil⟩ ?_
     rintro i ⟨h1,h2⟩
     have h1:i<=a.aB.length:=h1;have h2:∀ j,j<i->a.aB.getD j default=b.aB.getD j default:=h2;refine AW.seq (AW.sg hE rfl (aj rfl (aV fd.fM rfl rfl (aA ce.bZ rfl rfl rfl (fO sl.bZ rfl rfl (bD rfl rfl rfl (OL.nil ?_)))))));refine AW.cond rfl (λh55=>?_) (λh55=>?_)
     .try simp only[fG] at h55
      refine AW.skip (AW.seq (AW.block (AW.seq ?_)));have hi:i<a.aB.length:=by omega
      have hi2:i<b.aB.length:=by omega
      refine AW.dg 1 [0,1,2,3,4,5,6,7,8,9,10,11,12,13,14,15,16,17,18,19,20,21,22,23,24,25,26,27] ak hE rfl (by kernel_rfl) (OI.aP (os:=[_,_,_,_,_,_,_,_,_,_,_,_,_,_,_,_,_,_,_,_,_,_,_,_,_,_,_,_]) rfl ?_)
      refine aV fd.fM rfl rfl (aA ce.bZ rfl rfl rfl (aj rfl (fD sl.bZ default rfl rfl hi rfl rfl (iR ag.mQ rfl (vs:=[_,_,_,_,_,_,_,_,_,_,_]) rfl (au rfl) (aV fd.fM rfl rfl (aA ce.bZ rfl rfl rfl (aj rfl ?_)))))));refine fD sl.bZ default rfl rfl hi2 rfl rfl (iR ag.mQ rfl (vs:=[_,_,_,_,_,_,_,_,_,_,_]) rfl (au rfl) (bP rfl vL (Um (x:=(a.aB.getD i default)) (y:=(b.aB.getD i default))) (fJ rfl rfl rfl (aj rfl (OL.split 70 rfl (λg5=>?_) (λg5=>?_))))))
      .have g5:¬ oH (a.aB.getD i default) (b.aB.getD i default)=0:=λe=>zH g5 (by rw[e])
       have hv0:v=false:=Bool.eq_false_iff.2 λe=>g5 (by rw[hv.1 e];exact Gw.2 ⟨rfl,rfl,rfl⟩)
       refine OL.nd rfl (OL.nd rfl (OL.nd rfl (OL.nd rfl (OL.nd rfl (OL.nd rfl (OL.nd rfl (OL.nd rfl ?_)))))));refine OL.nd rfl (OL.nd rfl (OL.nd rfl (OL.nd rfl (OL.nd rfl (OL.nd rfl (nJ rfl rfl (OL.nil ?_)))))));refine F6 rfl ?_;refine AW.seq ?_;rw[hv0];exact AW.rg hE rfl (aG rfl (OL.nil (AW.ret (aT.r ⟨_,.tmp rfl .nil,.le vR⟩))))
      .have g5:oH (a.aB.getD i default) (b.aB.getD i default)=0:=by have:=yc g5;omega
       refine OL.yes rfl (aV fd.fM rfl rfl (OL.yes rfl (aA ce.bZ rfl rfl rfl (OL.yes rfl (aj rfl (OL.yes rfl (fD sl.bZ default rfl rfl hi rfl rfl ?_)))))));refine OL.yes rfl (Qw fd.qG rfl rfl (OL.yes rfl (iR ag.ay rfl (vs:=[_,_,_,_,_,_,_,_]) rfl (au rfl) (OL.yes rfl (aV fd.fM rfl rfl (OL.yes rfl (aA ce.bZ rfl rfl rfl ?_)))))));refine OL.yes rfl (aj rfl (OL.yes rfl (fD sl.bZ default rfl rfl hi2 rfl rfl (OL.yes rfl (Qw fd.qG rfl rfl (OL.yes rfl (iR ag.ay rfl (vs:=[_,_,_,_,_,_,_,_]) rfl (au rfl) ?_)))))));refine OL.yes rfl (bP rfl vL (Ul (p:=(a.aB.getD i default).q) (q:=(b.aB.getD i default).q) (ca.arc i) (cb.arc i)) (OL.yes rfl (nt rfl (oI rfl rfl (OL.nil (AW.cond rfl (λg6=>?_) (λg6=>?_)))))))
       .have g6:¬ (a.aB.getD i default).q=(b.aB.getD i default).q:=zH g6;have hv0:v=false:=Bool.eq_false_iff.2 λe=>g6 (by rw[hv.1 e])
        refine AW.seq ?_;rw[hv0];exact AW.rg hE rfl (aG rfl (OL.nil (AW.ret (aT.r ⟨_,.tmp rfl .nil,.le vR⟩))))
       .have g6:(a.aB.getD i default).q=(b.aB.getD i default).q:=yc g6;obtain⟨e1,e2,e3⟩:=Gw.1 g5;have he:(a.aB.getD i default)=(b.aB.getD i default):=aX0 e1 e2 e3 g6;refine AW.skip (AW.rg hE rfl (aj rfl (aJ rfl rfl (by omega) (aG rfl (OL.nil ?_)))))
        exact AW.again (x:=i) (i+1) (by omega) ⟨⟨by omega,λj hj=>by
         by_cases e:j=i
         .rw[e];exact he
         .exact h2 j (by omega)⟩,Knows.app .jm .dw,dP.app (.cons rfl (.cons rfl .nil)) (.nil)⟩
     .try simp only[fG] at h55
      refine AW.exit (AW.seq ?_);obtain rfl:i=a.aB.length:=by omega
      rw[show v=true from hv.2 (bg7 hs g1 g2 g3 (Xi g4 h2))]
      exact AW.rg hE rfl (aG rfl (OL.nil (AW.ret (aT.r ⟨_,.tmp rfl .nil,.le vR⟩))))
end Go.Proofs.YtanlenlmihoiiaaGreatDoor
namespace Go.AL
open Go Go.BigFrame
def IB (k C:Nat)(q:Rat):Prop:=∃ n:Int,q*((6 ^ k:Nat):Rat)=(n:Rat)/\n.natAbs<=C
section
variable {a b k C E:Nat}{p q:Rat}
theorem aH7 (k:Nat):((6 ^ k:Nat):Rat)≠0:=λe=>by
 have:(6 ^ k:Nat)=0:=by exact_mod_cast e
 have:=Nat.pow_pos (n:=k) (show 0<6 by decide)
 omega
theorem IB.zero:IB k C 0:=⟨0,by rw[Rat.zero_mul];rfl,Nat.zero_le _⟩
theorem IB.add (h:IB k C p)(g:IB k E q):IB k (C+E) (p+q):=by
 obtain⟨n,hn,cn⟩:=h;obtain⟨m,hm,cm⟩:=g;exact⟨n+m,by rw[Rat.add_mul,hn,hm,Rat.intCast_add],by omega⟩
theorem IB.neg (h:IB k C p):IB k C (-p):=by
 obtain⟨n,hn,cn⟩:=h;exact⟨-n,by rw[Rat.neg_mul,hn,Rat.intCast_neg],by omega⟩
theorem IB.sub (h:IB k C p)(g:IB k E q):IB k (C+E) (p-q):=by rw[Rat.sub_eq_add_neg];exact h.add g.neg
theorem IB.mul (h:IB a C p)(g:IB b E q):IB (a+b) (C*E) (p*q):=by
 obtain⟨n,hn,cn⟩:=h;obtain⟨m,hm,cm⟩:=g;refine⟨n*m,?_,by rw[Int.natAbs_mul];exact Nat.mul_le_mul cn cm⟩
 rw[Nat.pow_add,Rat.natCast_mul,Rat.intCast_mul,<- hn,<- hm]
 grind
theorem IB.mono (h:IB k C q)(hC:C<=E):IB k E q:=by
 obtain⟨n,hn,cn⟩:=h;exact⟨n,hn,Nat.le_trans cn hC⟩
theorem IB.up (h:IB a C q)(j:Nat):IB (a+j) (C*6 ^ j) q:=by
 obtain⟨n,hn,cn⟩:=h;refine⟨n*((6 ^ j:Nat):Int),?_,?_⟩
 .rw[Nat.pow_add,Rat.natCast_mul,Rat.intCast_mul,<- hn];rw[<- Rat.mul_assoc];rfl
 .rw[Int.natAbs_mul,Int.natAbs_natCast];exact Nat.mul_le_mul_right _ cn
theorem IB.aW {f:Nat->Rat}(hf:∀ i,IB k C (f i)):∀ n,IB k (n*C) (Go.AL.aW f n)
 | 0=>IB.zero
 | n+1=>by rw[Nat.succ_mul];exact (IB.aW hf n).add (hf n)
theorem IB.mF {α:Type}{f:α->Rat}:∀ {l:List α},(∀ x,x ∈ l->IB k C (f x))->IB k (l.length*C) (Go.AL.mF f l)
 | [],_=>IB.zero
 | x::l,h=>by
  rw[List.length_cons,Nat.succ_mul,Nat.add_comm];exact (h x rY).add (IB.mF λy hy=>h y (List.mem_cons_of_mem _ hy))
theorem IB.ratio (h:IB k C p)(g:IB k C q)(hq:q≠0){t:Nat}(hC:C<Bp t):sz (p / q)<=t:=by
 obtain⟨n,hn,cn⟩:=h;obtain⟨m,hm,cm⟩:=g;have h6:=aH7 k;generalize ((6 ^ k:Nat):Rat)=D at *;have hm0:m≠0:=λe=>by
  rw[e] at hm;have hm:q*D=0:=hm;rcases Rat.mul_eq_zero.1 hm with e|e
  .exact hq e
  .exact h6 e
 have e:p / q=(n:Rat) / (m:Rat):=by
  rw[<- hn,<- hm,Rat.div_def,Rat.div_def,Rat.inv_mul_rev];rw[Rat.mul_assoc,<- Rat.mul_assoc D,Rat.mul_inv_cancel _ h6,Rat.one_mul]
 rw[e,<- NZ];exact QF (by omega) (dZ (by omega)) (dZ (by omega))
theorem IB.sz (h:IB k C q){t:Nat}(hC:C<Bp t)(hk:6 ^ k<Bp t):Go.AL.sz q<=t:=by
 obtain⟨n,hn,cn⟩:=h;have h6:=aH7 k;have e:q=(n:Rat) / (((6 ^ k:Nat):Int):Rat):=by
  rw[<- hn,Rat.div_def];show q=q*((6 ^ k:Nat):Rat)*((6 ^ k:Nat):Rat)⁻¹
  rw[Rat.mul_assoc,Rat.mul_inv_cancel _ h6,Rat.mul_one]
 rw[e,<- NZ];refine QF ?_ (dZ (by omega)) (dZ (by rw[Int.natAbs_natCast];exact hk))
 have:=Nat.pow_pos (n:=k) (show 0<6 by decide)
 omega
end
theorem ad1 (v:Int):IB 1 36 (TS v):=by
 obtain⟨h1,h2⟩:=TT v;obtain⟨h3,h4⟩:=TU v;unfold TS;generalize Qe v=n at *;generalize Qg v=d at *;rcases (by omega:d=1 \/ d=2 \/ d=3) with rfl|rfl|rfl
 .exact⟨n*6,by rw[Rat.intCast_mul];show (n:Rat) / 1*6=(n:Rat)*6;grind,by omega⟩
 .exact⟨n*3,by rw[Rat.intCast_mul];show (n:Rat) / 2*6=(n:Rat)*3;grind,by omega⟩
 .exact⟨n*2,by rw[Rat.intCast_mul];show (n:Rat) / 3*6=(n:Rat)*2;grind,by omega⟩
theorem bg9:IB 1 36 1:=⟨6,by decide +kernel,by decide⟩
theorem aH8 (l:List Int)(i one:Nat):IB 1 36 (Bz l i one):=by
 unfold Bz
 split
 .exact ad1 _
 .split
  .exact bg9
  .exact IB.zero
section
variable {m:gB}{sym:Nat}{l w:List Int}{i s j c:Nat}
abbrev Aq (m:gB)(sym:Nat):bQ:=ah [dS m sym 3]
theorem ad2:(Aq m sym).n<=3:=by
 show aK [_]<=3
 rw[dN];exact (Jv (m:=m) (most:=3) (by decide)).2
theorem PZ {f:Nat->Rat}{n k C:Nat}(hf:∀ i,IB k C (f i))(i:Nat):IB k C (((List.range n).map f).getD i 0):=by
 rcases Nat.lt_or_ge i n with h|h
 .rw[aO _ _ h];exact hf i
 .rw[Gg (by simp;exact h)];exact IB.zero
theorem bh0 (i:Nat):IB 1 36 ((Aq m sym).ini.getD i 0):=by
 show IB 1 36 (((dS m sym 3).ini++[]).getD i 0)
 rw[List.append_nil];exact PZ (λi=>aH8 _ _ _) i
theorem bh2 (i:Nat):IB 1 36 ((Aq m sym).fin.getD i 0):=by
 show IB 1 36 (((dS m sym 3).fin++[]).getD i 0)
 rw[List.append_nil];exact PZ (λi=>aH8 _ _ _) i
theorem P5:(Aq m sym).gV=(List.range sym).map λs=>EH (aK [dS m sym 3]) (mW [dS m sym 3] s):=rfl
theorem bh3 (s i j:Nat):IB 1 360 (iU (Aq m sym) s i j):=by
 by_cases hs:s<sym
 .by_cases hi:i<aK [dS m sym 3]
  .by_cases hj:j<aK [dS m sym 3]
   .rw[xq hs hi hj];rw[dN] at hi hj;simp only[mW,if_pos hi,if_pos hj];have h:=IB.mF (k:=1) (C:=36) (f:=λx:bM=>if x.f=i/\x.l=s+1/\x.t=j then x.q else 0) (l:=(dS m sym 3).aB) λx hx=>by
     split
     .obtain⟨g,_,rfl⟩:=jH hx;exact ad1 _
     .exact IB.zero
    have hn:(dS m sym 3).aB.length<=10:=xZ.num;exact h.mono (by omega)
   .have:iU (Aq m sym) s i j=0:=by
     unfold iU;rw[P5,aO _ _ hs];unfold EH;rw[aO _ _ hi,Gg (by simp;omega)]
    rw[this];exact IB.zero
  .have:iU (Aq m sym) s i j=0:=by
    unfold iU;rw[P5,aO _ _ hs];unfold EH;rw[Gg (l:=(List.range _).map _) (by simp;omega)];rfl
   rw[this];exact IB.zero
 .have:iU (Aq m sym) s i j=0:=by
   unfold iU;rw[P5,Gg (l:=(List.range sym).map _) (by simp;omega)];rfl
  rw[this];exact IB.zero
theorem aH9:∀ (n:Nat) (w:List Int),w.length=n->∀ i,IB (n+1) (36*1080 ^ n) ((aZ (Aq m sym) w).getD i 0)
 | 0,w,h,i=>by rw[EQ h];exact bh0 i
 | n+1,w,h,i=>by
  have hne:w≠[]:=λe=>by subst e;cases h
  obtain⟨y,x,rfl⟩:∃ y x,w=y++[x]:=⟨w.dropLast,w.getLast hne,(List.dropLast_concat_getLast hne).symm⟩;rw[iq];unfold stepM;refine PZ (λc=>?_) i;have h1:=IB.aW (k:=n+1+1) (C:=36*1080 ^ n*360) (λa=>(aH9 n y (by rw[jd,kC] at h;omega) a).mul (bh3 (m:=m) (sym:=sym) (x.toNat-1) a c)) (Aq m sym).n
  refine h1.mono ?_;have h2:=Nat.mul_le_mul_right (36*1080 ^ n*360) (ad2 (m:=m) (sym:=sym));refine Nat.le_trans h2 (Nat.le_of_eq ?_);rw[Nat.pow_succ];generalize 1080 ^ n=z;omega
theorem bv3 (w:List Int):IB (w.length+2) (3888*1080 ^ w.length) (kU (Aq m sym) w):=by
 unfold kU mZ;have h1:=IB.aW (k:=w.length+1+1) (C:=36*1080 ^ w.length*36) (λa=>(aH9 (m:=m) (sym:=sym) w.length w rfl a).mul (bh2 (m:=m) (sym:=sym) a)) (Aq m sym).n;refine h1.mono ?_;have h2:=Nat.mul_le_mul_right (36*1080 ^ w.length*36) (ad2 (m:=m) (sym:=sym));refine Nat.le_trans h2 (Nat.le_of_eq ?_);generalize 1080 ^ w.length=z;omega
theorem UA (hw:w.length<=5):IB 7 (3888*1080 ^ 5) (kU (Aq m sym) w):=by
 have h:=(bv3 (m:=m) (sym:=sym) w).up (5-w.length);rw[show w.length+2+(5-w.length)=7 by omega] at h
 refine h.mono ?_;have e:(1080:Nat) ^ 5=1080 ^ w.length*1080 ^ (5-w.length):=by rw[<- Nat.pow_add];congr 1;omega
 rw[e,Nat.mul_assoc];exact Nat.mul_le_mul_left _ (Nat.mul_le_mul_left _ (Nat.pow_le_pow_left (by decide) _))
end
def d3 (a b c:Nat->Rat):Rat:=a 0*(b 1*c 2-b 2*c 1)-a 1*(b 0*c 2-b 2*c 0)+a 2*(b 0*c 1-b 1*c 0)
def d2 (a b:Nat->Rat):Rat:=a 0*b 1-a 1*b 0
theorem SI {C:Nat}{a b c:Nat->Rat}(ha:∀ i,IB 7 C (a i))(hb:∀ i,IB 7 C (b i))(hc:∀ i,IB 7 C (c i)):IB 21 (6*(C*(C*C))) (d3 a b c):=by
 have t:∀ i j k,IB 21 (C*(C*C)) (a i*(b j*c k)):=λi j k=>(ha i).mul ((hb j).mul (hc k));have t2:∀ i j k p q,IB 21 (C*(C*C)+C*(C*C)) (a i*(b j*c k-b p*c q)):=λi j k p q=>by
  rw[show a i*(b j*c k-b p*c q)=a i*(b j*c k)-a i*(b p*c q) by grind]
  exact (t i j k).sub (t i p q)
 exact (((t2 0 1 2 2 1).sub (t2 1 0 2 2 0)).add (t2 2 0 1 1 0)).mono (by omega)
theorem ad3 {C:Nat}{a b:Nat->Rat}(ha:∀ i,IB 7 C (a i))(hb:∀ i,IB 7 C (b i)):IB 14 (2*(C*C)) (d2 a b) :=
 (((ha 0).mul (hb 1)).sub ((ha 1).mul (hb 0))).mono (by omega)
section
variable {R:Nat->Nat->Rat}{v c:Nat->Rat}
theorem s1 (f:Nat->Rat):aW f 1=f 0:=by show 0+f 0=_;rw[Rat.zero_add]
theorem s2 (f:Nat->Rat):aW f 2=f 0+f 1:=by show 0+f 0+f 1=_;rw[Rat.zero_add]
theorem s3 (f:Nat->Rat):aW f 3=f 0+f 1+f 2:=by show 0+f 0+f 1+f 2=_;rw[Rat.zero_add]
theorem bv4 (ind:∀ c:Nat->Rat,(∀ j,j<2->aW (λi=>c i*R i j) 2=0)->∀ i,i<2->c i=0):d2 (R 0) (R 1)≠0:=λh=>by
 simp only[s2] at ind;unfold d2 at h;have all:∀ a b:Rat,a*R 0 0+b*R 1 0=0->a*R 0 1+b*R 1 1=0->a=0/\b=0:=λa b h0 h1=>by
  have:=ind (λi=>if i=0 then a else b) (λj hj=>by
   rcases (by omega:j=0 \/ j=1) with rfl|rfl
   .exact h0
   .exact h1)
  exact⟨this 0 (by omega),this 1 (by omega)⟩
 have h1:=all (R 1 1) (-(R 0 1)) (by grind) (by grind)
 have h2:=all (R 1 0) (-(R 0 0)) (by grind) (by grind)
 have h3:=all 1 0 (by grind) (by grind)
 exact absurd h3.1 (by decide)
theorem bv5 (ind:∀ c:Nat->Rat,(∀ j,j<3->aW (λi=>c i*R i j) 3=0)->∀ i,i<3->c i=0):d3 (R 0) (R 1) (R 2)≠0:=λh=>by
 simp only[s3] at ind;unfold d3 at h;have all:∀ a b c:Rat,a*R 0 0+b*R 1 0+c*R 2 0=0->a*R 0 1+b*R 1 1+c*R 2 1=0->a*R 0 2+b*R 1 2+c*R 2 2=0->a=0/\b=0/\c=0:=λa b c h0 h1 h2=>by
  have:=ind (λi=>if i=0 then a else if i=1 then b else c) (λj hj=>by
   rcases (by omega:j=0 \/ j=1 \/ j=2) with rfl|rfl|rfl
   .exact h0
   .exact h1
   .exact h2)
  exact⟨this 0 (by omega),this 1 (by omega),this 2 (by omega)⟩
 generalize R 0 0=a0 at *;generalize R 0 1=a1 at *;generalize R 0 2=a2 at *;generalize R 1 0=b0 at *;generalize R 1 1=b1 at *;generalize R 1 2=b2 at *;generalize R 2 0=c0 at *;generalize R 2 1=c1 at *;generalize R 2 2=c2 at *;have k0:=all (b1*c2-b2*c1) (-(a1*c2-a2*c1)) (a1*b2-a2*b1) (by grind) (by grind) (by grind)
 have k1:=all (b0*c2-b2*c0) (-(a0*c2-a2*c0)) (a0*b2-a2*b0) (by grind) (by grind) (by grind)
 have k2:=all (b0*c1-b1*c0) (-(a0*c1-a1*c0)) (a0*b1-a1*b0) (by grind) (by grind) (by grind)
 have j0:=all b0 (-a0) 0 (by grind) (by grind) (by grind)
 have j1:=all b1 (-a1) 0 (by grind) (by grind) (by grind)
 have j2:=all b2 (-a2) 0 (by grind) (by grind) (by grind)
 have j:=all 1 0 0 (by grind) (by grind) (by grind)
 exact absurd j.1 (by decide)
theorem bh4 {n:Nat}(hn:n<=3)(ind:∀ c:Nat->Rat,(∀ j,j<n->aW (λi=>c i*R i j) n=0)->∀ i,i<n->c i=0)(hR:∀ i j,IB 7 (3888*1080 ^ 5) (R i j))(hv:∀ j,IB 7 (3888*1080 ^ 5) (v j))
  (e:∀ j,j<n->v j=aW (λi=>c i*R i j) n):∀ i,i<n->sz (c i)<=6:=by
 rcases (by omega:n=0 \/ n=1 \/ n=2 \/ n=3) with rfl|rfl|rfl|rfl
 .intro i hi;omega
 .intro i hi;obtain rfl:i=0:=by omega
  have h0:=e 0 (by omega)
  rw[s1] at h0;have hr:R 0 0≠0:=λh=>by
   have:=ind (λ_=>1) (λj hj=>by obtain rfl:j=0:=(by omega);rw[s1,h,Rat.mul_zero]) 0 (by omega)
   exact absurd this (by decide)
  have:c 0=v 0 / R 0 0:=by rw[h0];grind
  rw[this];exact IB.ratio (hv 0) (hR 0 0) hr (by decide +kernel)
 .intro i hi;have hr:=bv4 ind;have h0:=e 0 (by omega)
  have h1:=e 1 (by omega)
  rw[s2] at h0 h1;have g0:c 0=d2 v (R 1) / d2 (R 0) (R 1):=by
   have:c 0*d2 (R 0) (R 1)=d2 v (R 1):=by unfold d2;rw[h0,h1];grind
   rw[<- this];grind
  have g1:c 1=d2 (R 0) v / d2 (R 0) (R 1):=by
   have:c 1*d2 (R 0) (R 1)=d2 (R 0) v:=by unfold d2;rw[h0,h1];grind
   rw[<- this];grind
  rcases (by omega:i=0 \/ i=1) with rfl|rfl
  .rw[g0];exact IB.ratio (ad3 hv (hR 1)) (ad3 (hR 0) (hR 1)) hr (by decide +kernel)
  .rw[g1];exact IB.ratio (ad3 (hR 0) hv) (ad3 (hR 0) (hR 1)) hr (by decide +kernel)
 .intro i hi;have hr:=bv5 ind;have h0:=e 0 (by omega)
  have h1:=e 1 (by omega)
  have h2:=e 2 (by omega)
  rw[s3] at h0 h1 h2;have g0:c 0=d3 v (R 1) (R 2) / d3 (R 0) (R 1) (R 2):=by
   have:c 0*d3 (R 0) (R 1) (R 2)=d3 v (R 1) (R 2):=by unfold d3;rw[h0,h1,h2];grind
   rw[<- this];grind
  have g1:c 1=d3 (R 0) v (R 2) / d3 (R 0) (R 1) (R 2):=by
   have:c 1*d3 (R 0) (R 1) (R 2)=d3 (R 0) v (R 2):=by unfold d3;rw[h0,h1,h2];grind
   rw[<- this];grind
  have g2:c 2=d3 (R 0) (R 1) v / d3 (R 0) (R 1) (R 2):=by
   have:c 2*d3 (R 0) (R 1) (R 2)=d3 (R 0) (R 1) v:=by unfold d3;rw[h0,h1,h2];grind
   rw[<- this];grind
  rcases (by omega:i=0 \/ i=1 \/ i=2) with rfl|rfl|rfl
  .rw[g0];exact IB.ratio (SI hv (hR 1) (hR 2)) (SI (hR 0) (hR 1) (hR 2)) hr (by decide +kernel)
  .rw[g1];exact IB.ratio (SI (hR 0) hv (hR 2)) (SI (hR 0) (hR 1) (hR 2)) hr (by decide +kernel)
  .rw[g2];exact IB.ratio (SI (hR 0) (hR 1) hv) (SI (hR 0) (hR 1) (hR 2)) hr (by decide +kernel)

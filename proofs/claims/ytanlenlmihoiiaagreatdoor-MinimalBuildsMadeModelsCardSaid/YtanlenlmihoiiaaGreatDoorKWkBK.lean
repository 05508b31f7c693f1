/-
  Walks of layer 24 of the specification, part 4: the coordinates are the multipliers (printed by mk2.py).
-/
import Derived.Test.YtanlenlmihoiiaaGreatDoorKMod109
set_option linter.unusedVariables false
set_option linter.unusedSimpArgs false
namespace Go.Proofs.YtanlenlmihoiiaaGreatDoor
open Go Go.AL
theorem QI {α:Type}{d:α}{l m:List α}(hl:l.length=m.length)(h:∀ j,j<l.length->l.getD j d=m.getD j d):l=m:=by
 refine List.ext_getElem hl λj h1 h2=>?_;have e:=h j h1;rw[jh,jh,lQ h1,lQ h2] at e;exact e
theorem ap1 {a:Au}(h:1<=a.sym):∀ x,x ∈ (ZA a).aN->x.f<(aV (ah [a])).length/\x.t<(aV (ah [a])).length/\1<=x.l/\x.l<=a.sym :=
 gQ.tidy (p:=λf l t=>f<(aV (ah [a])).length/\t<(aV (ah [a])).length/\1<=l/\l<=a.sym) (IL h)
theorem aI6 {a:Au}(h:1<=a.sym){x:bU}(hx:x ∈ (ZA a).aN):x.q=(ul (ah [a]) (aV (ah [a])) x.f (x.l-1)).getD x.t 0:=by
 obtain⟨h1,h2,h3,h4⟩:=ap1 h x hx;rw[<- Bv (JC (dK (vG (ah [a]) (aV (ah [a]))))) hx h3,Af,Af];exact XF (by rw[xE];omega) h1 h2
structure Au.Cmp (a:Au):Prop where
 ini:∀ i,sz (a.ini.getD i 0)<=68719476736
 fin:∀ i,sz (a.fin.getD i 0)<=68719476736
 arc:∀ i,sz (a.aN.getD i default).q<=68719476736
 bu3:a.ini.length<=64
 bu4:a.fin.length<=64
 bu5:a.aN.length<=64
theorem QJ {α:Type}{p:α->Prop}{d:α}(h0:p d){l:List α}(h:∀ x,x ∈ l->p x)(i:Nat):p (l.getD i d):=by
 rcases Nat.lt_or_ge i l.length with hi|hi
 .exact h _ (getD_mem hi d)
 .rw[jh,List.getElem?_eq_none hi];exact h0
theorem aW8 {a:Au}{s:Nat}(t:Au.Take a s)(s2:s<=2)(st4:a.st<=4)(hk3:(aV (ah [a])).length<=3):Au.Cmp (ZA a):=by
 obtain⟨ok,_,z6,hn⟩:=JD t (Nat.le_trans s2 (by decide))
 obtain⟨pk,pn⟩:=Vj ok z6;have hs:a.sym=s:=t.fit.sym;have hs1:=t.fit.ok.Jl;have hk2:∀ u,u ∈ aV (ah [a])->u.length<=2:=λu hu=>by have:=pk.short u hu;omega
 have z0:sz 0<=68719476736:=by rw[fH];decide
 have z1:sz 1<=68719476736:=by rw[FO];decide
 refine⟨QJ (p:=λq=>sz q<=68719476736) z0 λq hq=>?_,QJ (p:=λq=>sz q<=68719476736) z0 λq hq=>?_,QJ (p:=λx:bU=>sz x.q<=68719476736) z0 λx hx=>?_,?_,?_,?_⟩
 .obtain⟨i,_,rfl⟩:=kK hq;by_cases h0:i=0
  .rw[if_pos h0];exact z1
  .rw[if_neg h0];exact z0
 .obtain⟨u,hu,rfl⟩:=kK hq;have h:=KY (n:=(ah [a]).n) (u:=vf (bF (ah [a]) u)) (v:=vf (ah [a]).fin) z6.n6 (λi=>jY z6 (by have:=hk2 u hu;omega) i) z6.fin
  exact Nat.le_trans h (by decide)
 .rw[aI6 hs1 hx];have hco:∀ i s j,sz ((ul (ah [a]) (aV (ah [a])) i s).getD j 0)<=134217728:=by
   refine Qw z6 (λl hl=>?_) hk2 hk3 (Nat.le_trans (Gt _ _ rfl) (by rw[dA];exact hk3))
   have h:=Ap (iH ok) z6.turn l hl;have hm:(aA (ah [a])).n=(ah [a]).n:=rfl;omega
  exact Nat.le_trans (hco _ _ _) (by decide)
 .show (BG _).length<=64
  rw[xh];omega
 .show ((aV (ah [a])).map _).length<=64
  rw[dA];omega
 .have h1:=Ah (dK (vG (ah [a]) (aV (ah [a]))));have h2:=Ah (vG (ah [a]) (aV (ah [a])));have h3:(vG (ah [a]) (aV (ah [a]))).length<=20:=by
   rw[<- Qv,Kq,xE];have hm1:=Nat.mul_le_mul (show a.sym<=2 by omega) hk3
   have hm2:=Nat.mul_le_mul hk3 hm1;omega
  show (dK (dK _)).length<=64
  omega
theorem bF3 {m:lZ}:ai P F.mW [yV (dZ m 2 3)] (.mM [yV (ZA (dZ m 2 3)),.d (dI 0)]) :=
 XH lN (by decide) (by decide) (by have:=Kt (m:=m);omega) (wds m).r3
theorem XU {m:lZ}:Au.Cmp (ZA (dZ m 2 3)):=aW8 lN (by decide) (by have:=Kt (m:=m);omega) (by rw[(wds m).pl];exact (wds m).r3)
theorem aW9 {x y:bU}(h1:x.f=y.f)(h2:x.l=y.l)(h3:x.t=y.t)(h4:x.q=y.q):x=y:=by
 cases x;cases y;simp only at h1 h2 h3 h4;subst h1 h2 h3 h4;rfl
theorem bh9 {x y:Au}(h1:x.sym=y.sym)(h2:x.st=y.st)(h3:x.ini=y.ini)(h4:x.fin=y.fin)(h5:x.aN=y.aN):x=y:=by
 cases x;cases y;simp only at h1 h2 h3 h4 h5;subst h1 h2 h3 h4 h5;rfl
theorem QK {l m:List Rat}(nl:l.length<=64)(nm:m.length<=64)(zl:∀ i,sz (l.getD i 0)<=68719476736)(zm:∀ i,sz (m.getD i 0)<=68719476736):ai P F.wH [.d (qG l),.d (qG m)] (.d (dB (decide (l=m)))):=by
 refine ai.intro fn.wH (by rfl) (by rfl) (ay (by rfl)) λE hE=>(AW.sg hE rfl (aF rfl (OL.nil (AW.seq (AW.sg hE rfl (aj rfl (fF sl.aW rfl rfl ?_)))))))
 refine aj rfl (fF sl.aW rfl rfl (eX rfl rfl rfl (OL.nil (AW.cond rfl (λh0=>?_) (λh0=>?_)))))
 .have h0:l.length≠m.length:=λe=>BI h0 (by rw[e])
  rw[decide_eq_false (show ¬ l=m from λe=>h0 (by rw[e]))]
  exact AW.sg hE rfl (aF rfl (OL.nil (AW.ret (aP.r ⟨_,.tmp rfl .nil,.le vR⟩))))
 .have h0:l.length=m.length:=by have:=yY h0;omega
  refine AW.skip (AW.seq (AW.sg hE rfl (aF rfl (OL.nil (AW.block ?_)))));refine AW.aY (α:=Nat) [(0,_),(1,_)] [] (λi=>[(5,.d (dI i))]) (λi=>[]) (λi=>i<=l.length/\∀ j,j<i->l.getD j 0=m.getD j 0) (λi=>l.length-i) 0 (.cons (di rfl) (.cons (di rfl) .nil)) .nil ⟨⟨Nat.zero_le _,λj hj=>absurd hj (Nat.not_lt_zero _)⟩,.dD,.nil⟩ ?_
  rintro i ⟨h1,h2⟩
  have h1:i<=l.length:=h1;have h2:∀ j,j<i->l.getD j 0=m.getD j 0:=h2;refine AW.seq (AW.sg hE rfl (aj rfl (aj rfl (fF sl.aW rfl rfl (bG rfl rfl rfl (OL.nil (AW.cond rfl (λCO=>?_) (λCO=>?_))))))))
  .try simp only[fD] at CO
   refine AW.skip (AW.seq (AW.block (AW.seq ?_)));have hi:i<l.length:=by omega
   have hi2:i<m.length:=by omega
   refine AW.dg 1 [0,1,2,3,4,5,6,7,8,9] ak hE rfl (by kernel_rfl) (OI.aK (os:=[_,_,_,_,_,_,_,_,_,_]) rfl ?_)
   refine aj rfl (aj rfl (dR sl.aW 0 rfl rfl hi rfl rfl (iD ag.aC rfl (vs:=[_,_,_,_,_,_,_,_]) rfl (ay rfl) (aj rfl (aj rfl (dR sl.aW 0 rfl rfl hi2 rfl rfl (iD ag.aC rfl (vs:=[_,_,_,_,_,_,_,_]) rfl (ay rfl) ?_)))))));refine bH rfl vL (U5 (p:=l.getD i 0) (q:=m.getD i 0) (zl i) (zm i)) (nt rfl (OL.nil (AW.cond rfl (λhs=>?_) (λhs=>?_))))
   .have hs:¬ l.getD i 0=m.getD i 0:=BI hs;rw[decide_eq_false (show ¬ l=m from λe=>hs (by rw[e]))]
    exact AW.sg hE rfl (aF rfl (OL.nil (AW.ret (aP.r ⟨_,.tmp rfl .nil,.le vR⟩))))
   .have hs:l.getD i 0=m.getD i 0:=yY hs;refine AW.skip (AW.rg hE rfl (aj rfl (aI rfl rfl (by omega) (aF rfl (OL.nil ?_)))))
    exact AW.again (x:=i) (i+1) (by omega) ⟨⟨by omega,λj hj=>by
     by_cases e:j=i
     .rw[e];exact hs
     .exact h2 j (by omega)⟩,Knows.app .iW .dD,.nil⟩
  .try simp only[fD] at CO
   refine AW.exit (AW.seq ?_);obtain rfl:i=l.length:=by omega
   rw[decide_eq_true (show l=m from QI h0 h2)]
   exact AW.rg hE rfl (aF rfl (OL.nil (AW.ret (aP.r ⟨_,.tmp rfl .nil,.le vR⟩))))
set_option maxRecDepth 8000 in
set_option maxHeartbeats 1600000 in
theorem bi0 {a b : Au} {v : Bool} (hv : v = true ↔ a = b) (ca : Au.Cmp a) (cb : Au.Cmp b) (hs : a.sym = b.sym) : ai P F.Ep [yV a, yV b] (.d (dB v)) := by
 have na:=ca.bu5;have nb:=cb.bu5;refine ai.intro fn.Ep (by rfl) (by rfl) (ay (by rfl)) λE hE=>(AW.sg hE rfl (iO rfl rfl λb2=>(iO rfl rfl λb3=>(aF rfl (OL.nil (AW.seq (AW.sg hE rfl ?_)))))))
 refine bC fd.jE rfl rfl (aQ ag.Ring rfl rfl (vs:=[_,_]) rfl (ay rfl) (bC fd.jE rfl rfl (aQ ag.Ring rfl rfl (vs:=[_,_]) rfl (ay rfl) (bH rfl vL (aU5) (nt rfl (aj rfl (OL.yes rfl ?_)))))));refine bC fd.lX rfl rfl (OL.yes rfl (aG ce.int rfl rfl rfl (OL.yes rfl (bC fd.lX rfl rfl (OL.yes rfl (aG ce.int rfl rfl rfl (OL.yes rfl ?_)))))));refine eX rfl rfl (c:=false) (kY (by rw[hs])) (oI rfl rfl (aj rfl (OL.yes rfl (bC fd.oz rfl rfl (OL.yes rfl (aG ce.int rfl rfl rfl (OL.yes rfl ?_)))))))
 refine bC fd.oz rfl rfl (OL.yes rfl (aG ce.int rfl rfl rfl (OL.yes rfl (eX rfl rfl rfl (oI rfl rfl (aj rfl (OL.split 26 rfl (λg1=>?_) (λg1=>?_))))))))
 .have g1:¬ a.st=b.st:=λe=>BI g1 (by rw[e])
  have hv0:v=false:=Bool.eq_false_iff.2 λe=>g1 (congrArg Au.st (hv.1 e));refine OL.nd rfl (OL.nd rfl (OL.nd rfl (OL.nd rfl (OL.nd rfl (OL.nd rfl (oK rfl rfl (aj rfl ?_)))))));refine OL.nd rfl (OL.nd rfl (OL.nd rfl (OL.nd rfl (OL.nd rfl (OL.nd rfl (oK rfl rfl (aj rfl ?_)))))));refine OL.nd rfl (OL.nd rfl (OL.nd rfl (OL.nd rfl (OL.nd rfl (OL.nd rfl (OL.nd rfl (oK rfl rfl ?_)))))));refine OL.nil (Hr rfl ?_);refine AW.seq ?_;rw[hv0];exact AW.rg hE rfl (aF rfl (OL.nil (AW.ret (aP.r ⟨_,.tmp rfl .nil,.le vR⟩))))
 .have g1 : a.st = b.st := by have := yY g1; omega
  refine OL.yes rfl (bC fd.qW rfl rfl (OL.yes rfl (aG ce.aW rfl rfl rfl (OL.yes rfl (bC fd.qW rfl rfl (OL.yes rfl (aG ce.aW rfl rfl rfl ?_)))))));refine OL.yes rfl (bH rfl vL (QK (l:=a.ini) (m:=b.ini) ca.bu3 cb.bu3 ca.ini cb.ini) (OL.yes rfl (nt rfl (oI rfl rfl (aj rfl (OL.split 34 rfl (λg2=>?_) (λg2=>?_)))))))
  .have g2:¬ a.ini=b.ini:=BI g2;have hv0:v=false:=Bool.eq_false_iff.2 λe=>g2 (congrArg Au.ini (hv.1 e));refine OL.nd rfl (OL.nd rfl (OL.nd rfl (OL.nd rfl (OL.nd rfl (OL.nd rfl (oK rfl rfl (aj rfl ?_)))))));refine OL.nd rfl (OL.nd rfl (OL.nd rfl (OL.nd rfl (OL.nd rfl (OL.nd rfl (OL.nd rfl (oK rfl rfl ?_)))))));refine OL.nil (Hr rfl ?_);refine AW.seq ?_;rw[hv0];exact AW.rg hE rfl (aF rfl (OL.nil (AW.ret (aP.r ⟨_,.tmp rfl .nil,.le vR⟩))))
  .have g2 : a.ini = b.ini := yY g2;refine OL.yes rfl (bC fd.uw rfl rfl (OL.yes rfl (aG ce.aW rfl rfl rfl (OL.yes rfl (bC fd.uw rfl rfl (OL.yes rfl (aG ce.aW rfl rfl rfl ?_)))))));refine OL.yes rfl (bH rfl vL (QK (l:=a.fin) (m:=b.fin) ca.bu4 cb.bu4 ca.fin cb.fin) (OL.yes rfl (nt rfl (oI rfl rfl (aj rfl (OL.split 42 rfl (λg3=>?_) (λg3=>?_)))))))
   .have g3:¬ a.fin=b.fin:=BI g3;have hv0:v=false:=Bool.eq_false_iff.2 λe=>g3 (congrArg Au.fin (hv.1 e));refine OL.nd rfl (OL.nd rfl (OL.nd rfl (OL.nd rfl (OL.nd rfl (OL.nd rfl (OL.nd rfl (oK rfl rfl ?_)))))));refine OL.nil (Hr rfl ?_);refine AW.seq ?_;rw[hv0];exact AW.rg hE rfl (aF rfl (OL.nil (AW.ret (aP.r ⟨_,.tmp rfl .nil,.le vR⟩))))
   .have g3 : a.fin = b.fin := yY g3;refine OL.yes rfl (bC fd.gK rfl rfl (OL.yes rfl (aG ce.dm rfl rfl rfl (OL.yes rfl (fF sl.dm rfl rfl (OL.yes rfl (bC fd.gK rfl rfl ?_)))))));refine OL.yes rfl (aG ce.dm rfl rfl rfl (OL.yes rfl (fF sl.dm rfl rfl (OL.yes rfl (eX rfl rfl rfl (oI rfl rfl (OL.nil ?_)))))));refine AW.cond rfl (λg4=>?_) (λg4=>?_)
    .have g4:¬ a.aN.length=b.aN.length:=λe=>BI g4 (by rw[e])
     have hv0:v=false:=Bool.eq_false_iff.2 λe=>g4 (congrArg (λx=>x.aN.length) (hv.1 e));refine AW.seq ?_;rw[hv0];exact AW.rg hE rfl (aF rfl (OL.nil (AW.ret (aP.r ⟨_,.tmp rfl .nil,.le vR⟩))))
    .have g4:a.aN.length=b.aN.length:=by have:=yY g4;omega
     refine AW.skip (AW.seq (AW.sg hE rfl (aF rfl (OL.nil (AW.block ?_)))));refine AW.aY (α:=Nat) [(2,_),(3,_)] [(2,_),(3,_)] (λi=>[(5,.d (dI i))]) (λi=>[]) (λi=>i<=a.aN.length/\∀ j,j<i->a.aN.getD j default=b.aN.getD j default) (λi=>a.aN.length-i) 0 (.cons (iw rfl) (.cons (iw rfl) .nil)) (.cons (je rfl) (.cons (je rfl) .nil)) ⟨⟨Nat.zero_le _,λj hj=>absurd hj (Nat.not_lt_zero _)⟩,.dD,.nil⟩ ?_
     rintro i ⟨h1,h2⟩
     have h1:i<=a.aN.length:=h1;have h2:∀ j,j<i->a.aN.getD j default=b.aN.getD j default:=h2;refine AW.seq (AW.sg hE rfl (aj rfl (bC fd.gK rfl rfl (aG ce.dm rfl rfl rfl (fF sl.dm rfl rfl (bG rfl rfl rfl (OL.nil ?_)))))));refine AW.cond rfl (λh55=>?_) (λh55=>?_)
     .try simp only[fD] at h55
      refine AW.skip (AW.seq (AW.block (AW.seq ?_)));have hi:i<a.aN.length:=by omega
      have hi2:i<b.aN.length:=by omega
      refine AW.dg 1 [0,1,2,3,4,5,6,7,8,9,10,11,12,13,14,15,16,17,18,19,20,21,22,23,24,25,26,27] ak hE rfl (by kernel_rfl) (OI.aK (os:=[_,_,_,_,_,_,_,_,_,_,_,_,_,_,_,_,_,_,_,_,_,_,_,_,_,_,_,_]) rfl ?_)
      refine bC fd.gK rfl rfl (aG ce.dm rfl rfl rfl (aj rfl (dR sl.dm default rfl rfl hi rfl rfl (iD ag.mX rfl (vs:=[_,_,_,_,_,_,_,_,_,_,_]) rfl (ay rfl) (bC fd.gK rfl rfl (aG ce.dm rfl rfl rfl (aj rfl ?_)))))));refine dR sl.dm default rfl rfl hi2 rfl rfl (iD ag.mX rfl (vs:=[_,_,_,_,_,_,_,_,_,_,_]) rfl (ay rfl) (bH rfl vL (U6 (x:=(a.aN.getD i default)) (y:=(b.aN.getD i default))) (eX rfl rfl rfl (aj rfl (OL.split 70 rfl (λg5=>?_) (λg5=>?_))))))
      .have g5:¬ iT (a.aN.getD i default) (b.aN.getD i default)=0:=λe=>BI g5 (by rw[e])
       have hv0:v=false:=Bool.eq_false_iff.2 λe=>g5 (by rw[hv.1 e];exact Ae.2 ⟨rfl,rfl,rfl⟩)
       refine OL.nd rfl (OL.nd rfl (OL.nd rfl (OL.nd rfl (OL.nd rfl (OL.nd rfl (OL.nd rfl (OL.nd rfl ?_)))))));refine OL.nd rfl (OL.nd rfl (OL.nd rfl (OL.nd rfl (OL.nd rfl (OL.nd rfl (oK rfl rfl (OL.nil ?_)))))));refine Hr rfl ?_;refine AW.seq ?_;rw[hv0];exact AW.rg hE rfl (aF rfl (OL.nil (AW.ret (aP.r ⟨_,.tmp rfl .nil,.le vR⟩))))
      .have g5:iT (a.aN.getD i default) (b.aN.getD i default)=0:=by have:=yY g5;omega
       refine OL.yes rfl (bC fd.gK rfl rfl (OL.yes rfl (aG ce.dm rfl rfl rfl (OL.yes rfl (aj rfl (OL.yes rfl (dR sl.dm default rfl rfl hi rfl rfl ?_)))))));refine OL.yes rfl (Ov fd.rC rfl rfl (OL.yes rfl (iD ag.aC rfl (vs:=[_,_,_,_,_,_,_,_]) rfl (ay rfl) (OL.yes rfl (bC fd.gK rfl rfl (OL.yes rfl (aG ce.dm rfl rfl rfl ?_)))))));refine OL.yes rfl (aj rfl (OL.yes rfl (dR sl.dm default rfl rfl hi2 rfl rfl (OL.yes rfl (Ov fd.rC rfl rfl (OL.yes rfl (iD ag.aC rfl (vs:=[_,_,_,_,_,_,_,_]) rfl (ay rfl) ?_)))))));refine OL.yes rfl (bH rfl vL (U5 (p:=(a.aN.getD i default).q) (q:=(b.aN.getD i default).q) (ca.arc i) (cb.arc i)) (OL.yes rfl (nt rfl (oI rfl rfl (OL.nil (AW.cond rfl (λg6=>?_) (λg6=>?_)))))))
       .have g6:¬ (a.aN.getD i default).q=(b.aN.getD i default).q:=BI g6;have hv0:v=false:=Bool.eq_false_iff.2 λe=>g6 (by rw[hv.1 e])
        refine AW.seq ?_;rw[hv0];exact AW.rg hE rfl (aF rfl (OL.nil (AW.ret (aP.r ⟨_,.tmp rfl .nil,.le vR⟩))))
       .have g6:(a.aN.getD i default).q=(b.aN.getD i default).q:=yY g6;obtain⟨e1,e2,e3⟩:=Ae.1 g5;have he:(a.aN.getD i default)=(b.aN.getD i default):=aW9 e1 e2 e3 g6;refine AW.skip (AW.rg hE rfl (aj rfl (aI rfl rfl (by omega) (aF rfl (OL.nil ?_)))))
        exact AW.again (x:=i) (i+1) (by omega) ⟨⟨by omega,λj hj=>by
         by_cases e:j=i
         .rw[e];exact he
         .exact h2 j (by omega)⟩,Knows.app .iW .dD,dL.app (.cons rfl (.cons rfl .nil)) (.nil)⟩
     .try simp only[fD] at h55
      refine AW.exit (AW.seq ?_);obtain rfl:i=a.aN.length:=by omega
      rw[show v=true from hv.2 (bh9 hs g1 g2 g3 (QI g4 h2))]
      exact AW.rg hE rfl (aF rfl (OL.nil (AW.ret (aP.r ⟨_,.tmp rfl .nil,.le vR⟩))))
end Go.Proofs.YtanlenlmihoiiaaGreatDoor
namespace Go.AL
open Go Go.BigFrame
theorem QL {α:Type}{R:α->α->Prop}(irr:∀ a,¬ R a a)(tr:∀ a b c,R a b->R b c->R a c):∀ {a b:List α},a.Pairwise R->b.Pairwise R->(∀ u,u ∈ a ↔ u ∈ b)->a=b
 | [],[],_,_,_=>rfl
 | [],y::b,_,_,h=>absurd ((h y).2 pU) (λhm=>by cases hm)
 | x::a,[],_,_,h=>absurd ((h x).1 pU) (λhm=>by cases hm)
 | x :: a, y :: b, ha, hb, h => by
  obtain⟨a1,a2⟩:=List.pairwise_cons.1 ha;obtain⟨b1,b2⟩:=List.pairwise_cons.1 hb;have e:x=y:=by
   rcases List.mem_cons.1 ((h x).1 pU) with e|h1
   .exact e
   .rcases List.mem_cons.1 ((h y).2 pU) with e|h2
    .exact e.symm
    .exact absurd (tr _ _ _ (b1 x h1) (a1 y h2)) (irr _)
  subst e;rw[QL irr tr a2 b2 λu=>⟨λhu=>?_,λhu=>?_⟩]
  .rcases List.mem_cons.1 ((h u).1 (List.mem_cons_of_mem _ hu)) with e|h1
   .subst e;exact absurd (a1 u hu) (irr _)
   .exact h1
  .rcases List.mem_cons.1 ((h u).2 (List.mem_cons_of_mem _ hu)) with e|h1
   .subst e;exact absurd (b1 u hu) (irr _)
   .exact h1
section
variable {x y z:bU}{l out a b:List bU}
theorem ag3 (h:iT x y<0)(k:iT y z<0):iT x z<0:=by
 rw[yI] at *;omega
theorem aI7:¬ iT x x<0:=by rw[Ae.2 ⟨rfl,rfl,rfl⟩];omega
theorem IQ {x' y':bU}(h1:x.f=x'.f)(h2:x.l=x'.l)(h3:x.t=x'.t)(k1:y.f=y'.f)(k2:y.l=y'.l)(k3:y.t=y'.t)(h:iT x y<0):iT x' y' < 0:=by
 rw[yI] at *;omega
theorem XV:wX [] x=[x]:=rfl
theorem TW:wX (y::out) x=if iT y x<0 then y::wX out x else if iT y x=0 then { y with q:=y.q+x.q }::out else x::y::out:=by
 unfold wX;by_cases h:iT y x<0
 .have e:rG (y::out) x=rG out x+1:=by
   unfold rG;rw[List.findIdx_cons,show (decide (¬ iT y x<0))=false from decide_eq_false λhh=>hh h];rfl
  rw[e,if_pos h];show (if rG out x+1<out.length+1/\iT (out.getD (rG out x) default) x=0 then _ else _)=_
  by_cases h2:rG out x<out.length/\iT (out.getD (rG out x) default) x=0
  .rw[if_pos ⟨by omega,h2.2⟩,if_pos h2];rfl
  .rw[if_neg λhh=>h2 ⟨by omega,hh.2⟩,if_neg h2];rfl
 .have e:rG (y::out) x=0:=by
   unfold rG;rw[List.findIdx_cons,show (decide (¬ iT y x<0))=true from decide_eq_true h];rfl
  rw[e,if_neg h];show (if 0<out.length+1/\iT y x=0 then _ else _)=_
  by_cases h2:iT y x=0
  .rw[if_pos ⟨by omega,h2⟩,if_pos h2];rfl
  .rw[if_neg λhh=>h2 hh.2,if_neg h2];rfl
theorem QM:∀ {out:List bU},z ∈ wX out x->(∃ y,y ∈ out/\y.f=z.f/\y.l=z.l/\y.t=z.t) \/ (x.f=z.f/\x.l=z.l/\x.t=z.t)
 | [],h=>.inr (by rw[XV] at h;rw[jJ h];exact⟨rfl,rfl,rfl⟩)
 | y :: out, h => by
  rw[TW] at h
  split at h
  .rcases List.mem_cons.1 h with rfl|h
   .exact .inl ⟨_,List.mem_cons_self ..,rfl,rfl,rfl⟩
   .rcases QM h with ⟨w,hw,e⟩|e
    .exact .inl ⟨w,List.mem_cons_of_mem _ hw,e⟩
    .exact .inr e
  .split at h
   .rcases List.mem_cons.1 h with rfl|h
    .exact .inl ⟨y,List.mem_cons_self ..,rfl,rfl,rfl⟩
    .exact .inl ⟨z,List.mem_cons_of_mem _ h,rfl,rfl,rfl⟩
   .rcases List.mem_cons.1 h with rfl|h
    .exact .inr ⟨rfl,rfl,rfl⟩
    .exact .inl ⟨z,h,rfl,rfl,rfl⟩
theorem XW:∀ {out:List bU},out.Pairwise (λa b=>iT a b<0)->(wX out x).Pairwise λa b=>iT a b<0
 | [],_=>by rw[XV];exact List.pairwise_singleton ..
 | y :: out, h => by
  obtain⟨h1,h2⟩:=List.pairwise_cons.1 h;rw[TW]
  split
  .rename_i hx;refine List.pairwise_cons.2 ⟨λz hz=>?_,XW h2⟩;rcases QM hz with ⟨w,hw,e1,e2,e3⟩|⟨e1,e2,e3⟩
   .exact IQ rfl rfl rfl e1 e2 e3 (h1 w hw)
   .exact IQ rfl rfl rfl e1 e2 e3 hx
  .split
   .exact List.pairwise_cons.2 ⟨λz hz=>IQ rfl rfl rfl rfl rfl rfl (h1 z hz),h2⟩
   .rename_i hx h0;have hxy:iT x y<0:=by
     rw[yI] at *;rw[Ae] at h0;omega
    refine List.pairwise_cons.2 ⟨λz hz=>?_,h⟩;rcases List.mem_cons.1 hz with rfl|hz
    .exact hxy
    .exact ag3 hxy (h1 z hz)
theorem QN (l:List bU):(pX l).Pairwise λa b=>iT a b<0:=by
 have:∀ (l out:List bU),out.Pairwise (λa b=>iT a b<0)->(l.foldl wX out).Pairwise λa b=>iT a b<0:=λl=>by
  induction l with
  | nil=>exact λ_ h=>h
  | cons x l ih=>exact λout h=>ih _ (XW h)
 exact List.Pairwise.filter _ (this l [] .nil)
theorem aI8 (h:x ∈ UK l):x.q≠0:=lK (List.mem_filter.1 h).2
theorem aI9 {s i j:Nat}(h:jf l s i j≠0):∃ y,y ∈ l/\y.f=i/\y.l=s+1/\y.t=j:=by
 refine Classical.byContradiction λhn=>h (PK λy hy=>if_neg λe=>hn ⟨y,hy,e⟩)
theorem ap2 (ha:a.Pairwise λx y=>iT x y<0)(hb:b.Pairwise λx y=>iT x y<0)(la:∀ x,x ∈ a->1<=x.l/\x.q≠0)(lb:∀ x,x ∈ b->1<=x.l/\x.q≠0)(h:∀ s i j,jf a s i j=jf b s i j):a=b:=by
 have half:∀ {a b:List bU},a.Pairwise (λx y=>iT x y<0)->b.Pairwise (λx y=>iT x y<0)->(∀ x,x ∈ a->1<=x.l/\x.q≠0)->(∀ x,x ∈ b->1<=x.l/\x.q≠0)->(∀ s i j,jf a s i j=jf b s i j)->∀ x,x ∈ a->x ∈ b:=λ{a b} ha hb la lb h x hx=>by
  have e1:=Bv ha hx (la x hx).1;have e2:jf b (x.l-1) x.f x.t≠0:=by rw[<- h,e1];exact (la x hx).2
  obtain⟨y,hy,f1,f2,f3⟩:=aI9 e2;have hl:=(la x hx).1;have e3:=Bv hb hy (lb y hy).1;rw[f1,show y.l-1=x.l-1 by omega,f3,<- h,e1] at e3
  have:x=y:=by
   obtain⟨xf,xl,xt,xq⟩:=x;obtain⟨yf,yl,yt,yq⟩:=y;simp only at f1 f2 f3 e3 hl;obtain rfl:xl=yl:=by omega
   subst f1 f3 e3;rfl
  rw[this];exact hy
 exact QL (R:=λx y=>iT x y<0) (λ_=>aI7) (λ_ _ _=>ag3) ha hb λu=>⟨half ha hb la lb h u,half hb ha lb la (λs i j=>(h s i j).symm) u⟩
theorem ap3 (hl:∀ x,x ∈ l->1<=x.l):pX l=dK (dK l) :=
 ap2 (QN l) (JC _) (λx hx=>⟨gQ.form (p:=λ_ l _=>1<=l) hl x hx,aI8 hx⟩) (λx hx=>⟨gQ.tidy (p:=λ_ l _=>1<=l) (gQ.tidy (p:=λ_ l _=>1<=l) hl) x hx,aI8 hx⟩) λs i j=>by rw[DY,Af,Af]
end
end Go.AL
namespace Go.Proofs.YtanlenlmihoiiaaGreatDoor
open Go Go.AL
theorem TY {t c:List Rat}{q:Rat}{j:Nat}(hj:j<t.length):(nY t c q).getD j 0=t.getD j 0-c.getD j 0*q:=aT _ _ hj
theorem ap4 {a b c:Rat}:a-b*c=a + -c*b:=by rw[Rat.sub_eq_add_neg,Rat.neg_mul,Rat.mul_comm]
theorem QO (N i:Nat)(b:Nat->Rat):∀ (rs:List bZ) (w t:List Rat),i<w.length->t.length=N->(∀ r,r ∈ rs->r.v.getD i 0=bD (λj=>r.c.getD j 0*b j) N) ->
  (aO rs w).getD i 0-bD (λj=>(jm rs w t).getD j 0*b j) N=w.getD i 0-bD (λj=>t.getD j 0*b j) N
 | [],_,_,_,_,_=>rfl
 | r :: rs, w, t, hi, ht, h => by
  rw[aO,jm,QO N i b rs (jg w r) (nY t r.c (fJ w r)) (by rw[nX];exact hi) (by rw[Am];exact ht) λr hr=>h r (List.mem_cons_of_mem _ hr),vN hi]
  have e:bD (λj=>(nY t r.c (fJ w r)).getD j 0*b j) N=bD (λj=>t.getD j 0*b j) N + -(fJ w r)*bD (λj=>r.c.getD j 0*b j) N:=by
   rw[<- iq,<- pq];refine aJ λj hj=>?_;rw[TY (by rw[ht];exact hj),ap4,Rat.add_mul,Rat.mul_assoc]
  rw[e,<- h r pU,Rat.sub_eq_add_neg,Rat.sub_eq_add_neg,Rat.neg_add,Rat.neg_mul,Rat.neg_neg,Rat.sub_eq_add_neg,Rat.add_assoc,Rat.add_comm (-(bD (λj=>t.getD j 0*b j) N)),<- Rat.add_assoc (-(fJ w r*r.v.getD i 0)),Rat.neg_add_cancel,Rat.zero_add]
theorem Ua {j:Nat}:∀ (rs:List bZ) (w t:List Rat),(∀ r,r ∈ rs->r.c.getD j 0=0)->t.getD j 0=0->(jm rs w t).getD j 0=0
 | [],_,_,_,h=>h
 | r::rs,w,t,hr,h=>by
  rw[jm];refine Ua rs _ _ (λr h=>hr r (List.mem_cons_of_mem _ h)) ?_;rcases Nat.lt_or_ge j t.length with hj|hj
  .rw[TY hj,h,hr r pU,Rat.zero_mul,Rat.sub_eq_add_neg,Rat.zero_add];rfl
  .exact vS (by rw[Am];exact hj)
theorem XY {vs:List (List Rat)}{n i:Nat}(hl:∀ v,v ∈ vs->v.length=n)(hi:i<n):∀ k,k<=vs.length->∀ r,r ∈ dM vs.length vs k->r.v.getD i 0=bD (λj=>r.c.getD j 0*(vs.getD j []).getD i 0) vs.length/\∀ j,k<=j->r.c.getD j 0=0
 | 0,_,r,hr=>by cases hr
 | k + 1, hk, r, hr => by
  have ih:=XY hl hi k (by omega)
  rcases uy hr with hr|hr
  .exact⟨(ih r hr).1,λj hj=>(ih r hr).2 j (by omega)⟩
  .rw[jJ hr];have hvl:=hl _ (getD_mem (l:=vs) (i:=k) (by omega) [])
   have inv:=QO vs.length i (λj=>(vs.getD j []).getD i 0) (dM vs.length vs k) (vs.getD k []) (List.replicate vs.length 0) (by rw[hvl];exact hi) List.length_replicate λr hr=>(ih r hr).1
   have z0:bD (λj=>(List.replicate vs.length (0:Rat)).getD j 0*(vs.getD j []).getD i 0) vs.length=0:=kR λj _=>by rw[wW,Rat.zero_mul]
   have zk:∀ j,k<=j->(jm (dM vs.length vs k) (vs.getD k []) (List.replicate vs.length 0)).getD j 0=0:=λj hj=>Ua _ _ _ (λr hr=>(ih r hr).2 j hj) (wW _ _);have hlen:(jm (dM vs.length vs k) (vs.getD k []) (List.replicate vs.length 0)).length=vs.length:=by rw[uP,List.length_replicate]
   rw[z0,Rat.sub_eq_add_neg,Rat.sub_eq_add_neg,Rat.neg_zero,Rat.add_zero] at inv;have get:∀ j,((jm (dM vs.length vs k) (vs.getD k []) (List.replicate vs.length 0)).set k 1).getD j 0=if k=j then 1 else (jm (dM vs.length vs k) (vs.getD k []) (List.replicate vs.length 0)).getD j 0:=λj=>Tj (by rw[hlen];omega)
   refine⟨?_,λj hj=>?_⟩
   .show (aO _ _).getD i 0=bD (λj=>((jm _ _ _).set k 1).getD j 0*_) _
    rw[aJ (g:=λj=>(jm (dM vs.length vs k) (vs.getD k []) (List.replicate vs.length 0)).getD j 0*(vs.getD j []).getD i 0+(if k=j then (vs.getD j []).getD i 0 else 0)) λj _=>by
     show _*_=_
     rw[get j];by_cases e:k=j
     .subst e;rw[if_pos rfl,if_pos rfl,zk k (Nat.le_refl _),Rat.one_mul,Rat.zero_mul,Rat.zero_add]
     .rw[if_neg e,if_neg e,Rat.add_zero],pq,vO (v:=λj=>(vs.getD j []).getD i 0) (by omega),<- inv,<- Rat.add_assoc,Rat.add_comm (bD _ _) ((aO _ _).getD i 0),Rat.add_assoc,Rat.add_neg_cancel,Rat.add_zero]
   .show ((jm _ _ _).set k 1).getD j 0=0
    rw[get j,if_neg (by omega)]
    exact zk j (by omega)
theorem ap5 {vs:List (List Rat)}{n:Nat}(g:vV vs)(hl:∀ v,v ∈ vs->v.length=n){v:List Rat}(hv:v.length=n)(hg:bM (eG vs) v=false){i:Nat}(hi:i<n):v.getD i 0=bD (λj=>(y9 vs v).getD j 0*(vs.getD j []).getD i 0) vs.length:=by
 have inv:=QO vs.length i (λj=>(vs.getD j []).getD i 0) (dM vs.length vs vs.length) v (List.replicate vs.length 0) (by rw[hv];exact hi) List.length_replicate λr hr=>(XY hl hi vs.length (Nat.le_refl _) r hr).1
 have z0:bD (λj=>(List.replicate vs.length (0:Rat)).getD j 0*(vs.getD j []).getD i 0) vs.length=0:=kR λj _=>by rw[wW,Rat.zero_mul]
 have hz:(aO (dM vs.length vs vs.length) v).getD i 0=0:=by
  rw[<- QA g] at hg;have h1:¬ dX (aO (dM vs.length vs vs.length) v)<(aO (dM vs.length vs vs.length) v).length:=λhl=>by
   rw[vT.2 hl] at hg;cases hg
  have h2:=jk (dM vs.length vs vs.length) v;exact qV (by omega)
 rw[z0,hz,Rat.sub_eq_add_neg,Rat.zero_add,Rat.sub_eq_add_neg,Rat.neg_zero,Rat.add_zero] at inv;rw[<- inv,<- Rat.one_mul (bD _ _),<- Rat.neg_mul,<- iq];refine aJ λj hj=>?_;unfold y9;rw[bh7 (d:=0) (by rw[uP,List.length_replicate];exact hj),<- Rat.mul_assoc,Rat.neg_mul,Rat.one_mul]

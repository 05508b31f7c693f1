/-
  Walks of package span, part 2: spaces that grow (printed by mk2.py).
-/
import Derived.Test.YtanlenlmihoiiaaGreatDoorKMod87
set_option maxRecDepth 8000
set_option maxHeartbeats 3200000
set_option linter.unusedVariables false
set_option linter.unusedSimpArgs false
namespace Go.Proofs.YtanlenlmihoiiaaGreatDoor
open Go Go.AL
structure NP where
 b1:Nat
 c1:Nat
 b2:Nat
 c2:Nat
 b3:Nat
 c3:Nat
instance:Inhabited NP:=⟨⟨0,0,0,0,0,0⟩⟩
abbrev P6 (B:NP)(rs:List bZ):iF:=.row B.b1 B.c1 T.bg 1 (rs.map λr=>dJ r.v)
abbrev zh (B:NP)(rs:List bZ):iF:=.row B.b2 B.c2 T.bg 1 (rs.map λr=>dJ r.c)
abbrev rowP (B:NP)(rs:List bZ):iF:=.row B.b3 B.c3 T.int 1 (rs.map λr=>dI r.p)
abbrev boxS (b:Nat)(B:NP)(rs:List bZ):iF:=.box b T.Space [.bI 1001 B.b1 rs.length B.c1,.bI 1002 B.b2 rs.length B.c2,.bI 1003 B.b3 rs.length B.c3]
abbrev X7 (b:Nat)(B:NP)(rs:List bZ):List (Nat × iF):=[(1000,boxS b B rs),(1001,P6 B rs),(1002,zh B rs),(1003,rowP B rs)]
def spM (b:Nat)(B:NP)(rs:List bZ):Mem:=lk none ((X7 b B rs).map λp=>(p.1,some p.2))
theorem P7 {b b2:Nat}{B B2:NP}{rs zD:List bZ}(id:Nat)(h:spM b B rs id=none):spM b2 B2 zD id=none:=by
 unfold spM at *;simp only[X7,List.map_cons,List.map_nil,lk] at h ⊢
 repeat (split at h;· cases h)
 simp only[*,if_false]
theorem UX {w:List Rat}{r:bZ}:fJ w r=w.getD r.p 0 / r.v.getD r.p 0:=rfl
theorem bp0 {w:List Rat}{r:bZ}:xe w (λj=>w.getD j 0-fJ w r*r.v.getD j 0) w.length=jg w r:=JL λj h1 h2=>by omega
theorem bp1 {t c:List Rat}{f:Rat}{i:Nat}(hi:c.length=i):xe t (λj=>t.getD j 0+f*c.getD j 0) i=IA t f c:=JL λj h1 _=>by
 show t.getD j 0+f*c.getD j 0=_
 rw[vS (l:=c) (by omega),Rat.mul_zero,Rat.add_zero]
theorem II {rs:List bZ}{w:List Rat}:(Gi (aO rs w)<0) ↔ bM rs w=false:=by
 unfold Gi bM
 split
 .rename_i h;rw[decide_eq_true h];constructor
  .intro;omega
  .intro k;cases k
 .rename_i h;rw[decide_eq_false h];exact⟨λ_=>rfl,λ_=>by decide⟩
theorem Y6 {rs:List bZ}{w:List Rat}(h:bM rs w=true):Gi (aO rs w)=(dX (aO rs w):Int):=if_pos (lK h)
theorem ad9 {v:List Rat}{n b:Nat}{B:NP}{rs:List bZ}(sp:uO n 16777215 rs)(hv:v.length=n)(n6:n<=6)(zv:∀ i,sz (v.getD i 0)<=16777215):gq P F.rq [.ptr 1000 b 0,.d (dJ v)] (spM b B rs) (.mM [.d (dJ (aO rs v)),.d (dJ (jS rs v))]) (spM b B rs):=by
 have hle:=sp.le;have bB7:=sp.ech.piv;have hlen:=sp.len;have hcl:=sp.cl;have hz:=sp.sz;refine gq.intro fn.rq (by rfl) (by rfl) (ay (by rfl)) λE hE=>(AW.sg hE rfl (jK rfl (jK rfl (OL.nil (AW.sg hE rfl (aj rfl (fF sl.bg rfl rfl ?_)))))))
 refine X4 dQ 0 sl.bg z.Rat Dj rfl rfl (Nat.le_refl _) (by omega) (by omega) rfl λb18=>(pV rfl (OL.nil (AW.seq (AW.sg hE rfl (aj rfl (fF sl.bg rfl rfl (aj rfl ?_)))))))
 refine OL.nil (AW.block ?_);refine AW.aY (α:=Nat) [(0,_),(4,_),(5,_),(19,_),(20,_)] [(1000,_),(1001,_),(1002,_),(1003,_)] (λi=>[(21,.d (dI i))]) (λi=>[(18,.row b18 v.length T.Rat 3 ((nT 0 (λj=>v.getD j 0) v.length i).map dQ))]) (λi=>i<=v.length) (λi=>v.length-i) 0 (.cons (iw rfl) (.cons (zA rfl) (.cons (xK rfl) (.cons (di rfl) (.cons (di rfl) .nil))))) (.cons (je rfl) (.cons (qZ rfl) (.cons (qZ rfl) (.cons (qZ rfl) .nil)))) ⟨Nat.zero_le _,.dD,.cons (by rw[sD];rfl) .nil⟩ ?_
 intro i h1;have h1:i<=v.length:=h1;have hfl:=vM 0 (λj=>v.getD j 0) v.length i;refine AW.sg hE rfl (bG rfl rfl rfl (OL.nil (AW.seq (AW.cond rfl (λh22=>?_) (λh22=>?_)))))
 .try simp only[fD] at h22
  refine AW.skip (AW.seq (AW.block (AW.seq ?_)));have zx:=zv i;refine AW.rg hE rfl (aj rfl (dR sl.bg 0 rfl rfl (by omega) rfl rfl (iD ag.Rat rfl (vs:=[_,_,_]) rfl (ay rfl) (al z.Rat rfl λb7=>(aF rfl (fA sz.Rat rfl rfl rfl rfl rfl (ay rfl) (cells2:=[_,_,_]) rfl (OL.nil ?_)))))))
  refine AW.rg hE rfl (iU rfl (aj rfl (aQ ag.Rat rfl rfl (vs:=[_,_,_]) rfl (ay rfl) (bd z.Rat pl.Rat (cs:=[_,_,_]) rfl (bH rfl (.cons vR (.cons (aw2) .nil)) (uJ (x:=v.getD i 0) (y:=0) (by omega) (by rw[fH];decide)) ?_)))))
  rw[Rat.add_zero];refine jv sl.bg rfl rfl (by omega) (LQ sz.Rat rfl (d:=dQ (v.getD i 0)) BJ rfl rfl (by rw[dA];omega) (es2:=(nT 0 (λj=>v.getD j 0) v.length (i+1)).map dQ) (by rw[<- qU (show i<v.length by omega),List.map_set]) (OL.nil (AW.rg hE rfl (aI rfl rfl (by omega) (aj rfl (OL.nil ?_))))))
  exact AW.again (x:=i) (i+1) (by omega) ⟨by omega,Knows.app .Ky .dD,dL.app (.cons rfl (.cons rfl (.cons rfl (.cons rfl .nil)))) (.cons rfl .nil)⟩
 .try simp only[fD] at h22
  refine AW.exit (AW.seq ?_);obtain rfl:i=v.length:=by omega
  rw[Jw rfl];refine AW.rg hE rfl (Ym rfl (ncP rfl (bC fd.NF rfl rfl (aG ce.dw rfl rfl rfl (Vq sl.dw rfl rfl (X4 dQ 0 sl.bg z.Rat Dj rfl rfl (Nat.le_refl _) (by omega) (by omega) rfl λb38=>(pV rfl ?_)))))))
  refine OL.nil (AW.seq (AW.sg hE rfl (Ym rfl (ncP rfl (bC fd.NF rfl rfl (aG ce.dw rfl rfl rfl (Vq sl.dw rfl rfl ?_)))))));refine aj rfl (OL.nil (AW.block ?_));refine AW.aY (α:=Nat) [(0,_),(4,_),(5,_),(42,_),(43,_)] [(1000,_),(1001,_),(1002,_),(1003,_)] (λk=>[(44,.d (dI k))]) (λk=>[(18,.row b18 v.length T.Rat 3 ((aO (rs.take k) v).map dQ)),(38,.row b38 rs.length T.Rat 3 ((tX (rs.take k) v (List.replicate rs.length 0)).map dQ))]) (λk=>k<=rs.length) (λk=>rs.length-k) 0 (.cons (iw rfl) (.cons (zA rfl) (.cons (zA rfl) (.cons (zA rfl) (.cons (di rfl) .nil))))) (.cons (je rfl) (.cons (qZ rfl) (.cons (qZ rfl) (.cons (qZ rfl) .nil)))) ⟨Nat.zero_le _,.dD,.cons rfl (.cons rfl .nil)⟩ ?_;intro k h2;have h2:k<=rs.length:=h2;have hwl:(aO (rs.take k) v).length=v.length:=jk _ _;have htl:(tX (rs.take k) v (List.replicate rs.length 0)).length=rs.length:=by rw[Pj,List.length_replicate]
  refine AW.sg hE rfl (bG rfl rfl rfl (OL.nil (AW.seq (AW.cond rfl (λh45=>?_) (λh45=>?_)))))
  .try simp only[fD] at h45
   refine AW.skip (AW.seq (AW.block (AW.seq ?_)));have hkr:k<rs.length:=by omega
   obtain⟨zw,zt,zr,zc⟩:=hz.bounds (w:=v) (n:=rs.length) (by omega) hkr zv
   obtain⟨hp1,hp2⟩:=bB7 _ (pR hkr);have hrl:=hlen _ (pR hkr);have hck:=hcl k _ (SQ hkr);have zq:=O1 ((aO (rs.take k) v).getD (rs.getD k default).p 0) ((rs.getD k default).v.getD (rs.getD k default).p 0);have zq1:=zw (rs.getD k default).p;have zq2:=zr (rs.getD k default).p;have zqq:sz (fJ (aO (rs.take k) v) (rs.getD k default))<=34359738366:=Nat.le_trans zq (by omega)
   refine AW.rg hE rfl (aj rfl (jv sl.dw rfl rfl (by omega) (Yo ce.bg default (by decide) rfl rfl hkr rfl (aF rfl (aF rfl (OL.nil (AW.seq ?_)))))))
   refine AW.dg 1 [0,1,2,3,4,5,6,7,8,9,10,11,12,13,14,15,16,17,18,19,20,21,22,23,24,25,26] ak hE rfl (by kernel_rfl) (OI.aK (os:=[_,_,_,_,_,_,_,_,_,_,_,_,_,_,_,_,_,_,_,_,_,_,_,_,_,_,_]) rfl ?_)
   refine iU rfl (Ym rfl (ncP rfl (bC fd.NG rfl rfl (aG ce.ints rfl rfl rfl (aj rfl (jv sl.ints rfl rfl (by omega) (Yo ce.int default (by decide) rfl rfl hkr rfl ?_)))))))
   refine jv sl.bg rfl rfl (by omega) (Je ag.Rat 0 (by decide) rfl rfl (by omega) (vs:=[_,_,_]) rfl (ay rfl) (aj rfl (Ym rfl (ncP rfl (bC fd.NG rfl rfl (aG ce.ints rfl rfl rfl (aj rfl ?_)))))))
   refine jv sl.ints rfl rfl (by omega) (Yo ce.int default (by decide) rfl rfl hkr rfl (dR sl.bg 0 rfl rfl (by omega) rfl rfl (iD ag.Rat rfl (vs:=[_,_,_]) rfl (ay rfl) (bH rfl vL (Q8 (x:=(aO (rs.take k) v).getD (rs.getD k default).p 0) (y:=(rs.getD k default).v.getD (rs.getD k default).p 0) (by omega) (by omega) hp2) ?_))))
   rw[<- UX];refine Di rfl (ex rfl rfl (ex rfl rfl (al z.Rat rfl λb10=>(fA sz.Rat rfl rfl rfl rfl rfl (ay rfl) (cells2:=[_,_,_]) rfl (aF rfl (OL.nil (AW.seq ?_)))))));refine AW.sg hE rfl (aQ ag.Rat rfl rfl (vs:=[_,_,_]) rfl (ay rfl) (bH rfl vL (su (x:=fJ (aO (rs.take k) v) (rs.getD k default)) (by omega)) (fG rfl rfl rfl (OL.nil (AW.cond rfl (λh0=>?_) (λh0=>?_))))))
   .have h0:fJ (aO (rs.take k) v) (rs.getD k default)=0:=sK.1 (lK h0);refine AW.exit ?_
    first|(obtain rfl:i=k+1:=(by omega))|skip
    refine AW.rg hE rfl (aI rfl rfl (by omega) (aj rfl (OL.nil ?_)))
    exact AW.again (x:=k) (k+1) (by omega) ⟨by omega,Knows.app .Ky .dD,dL.app (.cons rfl (.cons rfl (.cons rfl (.cons rfl .nil)))) (.cons (by rw[Ai (by omega),Jy h0];rfl) (.cons (by rw[SN (by omega),h0,am0];rfl) .nil))⟩
   .have _h0:=h0;refine AW.skip (AW.seq (AW.sg hE rfl (aj rfl (fF sl.bg rfl rfl (aj rfl (OL.nil (AW.block ?_)))))));refine AW.aY (α:=Nat) [(0,_),(4,_),(5,_),(8,_),(10,_),(42,_),(43,_),(44,_),(76,_),(77,_)] [(10,_),(38,_),(1000,_),(1001,_),(1002,_),(1003,_)] (λi=>[(78,.d (dI i))]) (λi=>[(18,.row b18 v.length T.Rat 3 ((xe (aO (rs.take k) v) (λj=>(aO (rs.take k) v).getD j 0-fJ (aO (rs.take k) v) (rs.getD k default)*(rs.getD k default).v.getD j 0) i).map dQ))]) (λi=>i<=v.length) (λi=>v.length-i) 0 (.cons (iw rfl) (.cons (zA rfl) (.cons (zA rfl) (.cons (di rfl) (.cons (iw rfl) (.cons (zA rfl) (.cons (di rfl) (.cons (di rfl) (.cons (di rfl) (.cons (di rfl) .nil)))))))))) (.cons (je rfl) (.cons (qZ rfl) (.cons (je rfl) (.cons (qZ rfl) (.cons (qZ rfl) (.cons (qZ rfl) .nil)))))) ⟨Nat.zero_le _,.dD,.cons (by rw[D6];rfl) .nil⟩ ?_
    intro i h3;have h3:i<=v.length:=h3;have hml:(xe (aO (rs.take k) v) (λj=>(aO (rs.take k) v).getD j 0-fJ (aO (rs.take k) v) (rs.getD k default)*(rs.getD k default).v.getD j 0) i).length=v.length:=D5.trans hwl;refine AW.sg hE rfl (bG rfl rfl rfl (OL.nil (AW.seq (AW.cond rfl (λh79=>?_) (λh79=>?_)))))
    .try simp only[fD] at h79
     refine AW.skip (AW.seq (AW.block (AW.seq ?_)));have zxr:=zr i;have zxw:=zw i;have zm:=lu (fJ (aO (rs.take k) v) (rs.getD k default)) ((rs.getD k default).v.getD i 0);refine AW.rg hE rfl (aj rfl (dR sl.bg 0 rfl rfl (by omega) rfl rfl (iD ag.Rat rfl (vs:=[_,_,_]) rfl (ay rfl) (al z.Rat rfl λb13=>(aF rfl (fA sz.Rat rfl rfl rfl rfl rfl (ay rfl) (cells2:=[_,_,_]) rfl (OL.nil ?_)))))))
     refine AW.dg 1 [0,1,2,3,4,5,6,7,8,9,10,11] ak hE rfl (by kernel_rfl) (OI.aK (os:=[_,_,_,_,_,_,_,_,_,_,_,_]) rfl ?_)
     refine iU rfl (aj rfl (iU rfl (aj rfl (jv sl.bg rfl rfl (by omega) (Je ag.Rat 0 (by decide) rfl rfl (by omega) (vs:=[_,_,_]) rfl (ay rfl) ?_)))))
     rw[JJ (by omega)]
     refine aQ ag.Rat rfl rfl (vs:=[_,_,_]) rfl (ay rfl) (aQ ag.Rat rfl rfl (vs:=[_,_,_]) rfl (ay rfl) (bH rfl vL (yG (x:=fJ (aO (rs.take k) v) (rs.getD k default)) (y:=(rs.getD k default).v.getD i 0) (by omega) (by omega)) (bH rfl vL (Q7 (x:=(aO (rs.take k) v).getD i 0) (y:=fJ (aO (rs.take k) v) (rs.getD k default)*(rs.getD k default).v.getD i 0) (by omega) (by omega)) (jv sl.bg rfl rfl (by omega) ?_))))
     refine LQ sz.Rat rfl (d:=dQ ((λj=>(aO (rs.take k) v).getD j 0-fJ (aO (rs.take k) v) (rs.getD k default)*(rs.getD k default).v.getD j 0) i)) BJ rfl rfl (by rw[dA];omega) (es2:=(xe (aO (rs.take k) v) (λj=>(aO (rs.take k) v).getD j 0-fJ (aO (rs.take k) v) (rs.getD k default)*(rs.getD k default).v.getD j 0) (i+1)).map dQ) (by rw[<- JK (show i<(aO (rs.take k) v).length by omega),List.map_set]) ?_
     refine OL.nil (AW.rg hE rfl (aI rfl rfl (by omega) (aj rfl (OL.nil ?_))))
     exact AW.again (x:=i) (i+1) (by omega) ⟨by omega,Knows.app .Um .dD,dL.app (.cons rfl (.cons rfl (.cons rfl (.cons rfl (.cons rfl (.cons rfl .nil)))))) (.cons rfl .nil)⟩
    .try simp only[fD] at h79
     refine AW.exit (AW.seq ?_);obtain rfl:i=v.length:=by omega
     refine AW.rg hE rfl (Ym rfl (ncP rfl (bC fd.Uz rfl rfl (aG ce.dw rfl rfl rfl (aj rfl (jv sl.dw rfl rfl (by omega) (Yo ce.bg default (by decide) rfl rfl hkr rfl ?_)))))))
     refine fF sl.bg rfl rfl ?_;rw[hck];refine aj rfl (OL.nil (AW.block ?_));refine AW.aY (α:=Nat) [(0,_),(4,_),(5,_),(10,_),(42,_),(43,_),(44,_),(101,_),(102,_)] [(10,_),(18,_),(1000,_),(1001,_),(1002,_),(1003,_)] (λi=>[(103,.d (dI i))]) (λi=>[(38,.row b38 rs.length T.Rat 3 ((xe (tX (rs.take k) v (List.replicate rs.length 0)) (λj=>(tX (rs.take k) v (List.replicate rs.length 0)).getD j 0+fJ (aO (rs.take k) v) (rs.getD k default)*(rs.getD k default).c.getD j 0) i).map dQ))]) (λi=>i<=k+1) (λi=>k+1-i) 0 (.cons (iw rfl) (.cons (zA rfl) (.cons (zA rfl) (.cons (iw rfl) (.cons (zA rfl) (.cons (di rfl) (.cons (di rfl) (.cons (di rfl) (.cons (di rfl) .nil))))))))) (.cons (je rfl) (.cons (qZ rfl) (.cons (je rfl) (.cons (qZ rfl) (.cons (qZ rfl) (.cons (qZ rfl) .nil)))))) ⟨Nat.zero_le _,.dD,.cons (by rw[D6];rfl) .nil⟩ ?_
     intro i h4;have h4:i<=k+1:=h4;have hml:(xe (tX (rs.take k) v (List.replicate rs.length 0)) (λj=>(tX (rs.take k) v (List.replicate rs.length 0)).getD j 0+fJ (aO (rs.take k) v) (rs.getD k default)*(rs.getD k default).c.getD j 0) i).length=rs.length:=D5.trans htl;refine AW.sg hE rfl (bG rfl rfl rfl (OL.nil (AW.seq (AW.cond rfl (λbe5=>?_) (λbe5=>?_)))))
     .try simp only[fD] at be5
      refine AW.skip (AW.seq (AW.block (AW.seq ?_)));have zxc:=zc i;have zxt:=zt i;have zm:=lu (fJ (aO (rs.take k) v) (rs.getD k default)) ((rs.getD k default).c.getD i 0);refine AW.rg hE rfl (aj rfl (dR sl.bg 0 rfl rfl (by omega) rfl rfl (iD ag.Rat rfl (vs:=[_,_,_]) rfl (ay rfl) (al z.Rat rfl λb15=>(aF rfl (fA sz.Rat rfl rfl rfl rfl rfl (ay rfl) (cells2:=[_,_,_]) rfl (OL.nil ?_)))))))
      refine AW.dg 1 [0,1,2,3,4,5,6,7,8,9,10,11] ak hE rfl (by kernel_rfl) (OI.aK (os:=[_,_,_,_,_,_,_,_,_,_,_,_]) rfl ?_)
      refine iU rfl (aj rfl (iU rfl (aj rfl (jv sl.bg rfl rfl (by omega) (Je ag.Rat 0 (by decide) rfl rfl (by omega) (vs:=[_,_,_]) rfl (ay rfl) ?_)))))
      rw[JJ (by omega)]
      refine aQ ag.Rat rfl rfl (vs:=[_,_,_]) rfl (ay rfl) (aQ ag.Rat rfl rfl (vs:=[_,_,_]) rfl (ay rfl) (bH rfl vL (yG (x:=fJ (aO (rs.take k) v) (rs.getD k default)) (y:=(rs.getD k default).c.getD i 0) (by omega) (by omega)) (bH rfl vL (uJ (x:=(tX (rs.take k) v (List.replicate rs.length 0)).getD i 0) (y:=fJ (aO (rs.take k) v) (rs.getD k default)*(rs.getD k default).c.getD i 0) (by omega) (by omega)) (jv sl.bg rfl rfl (by omega) ?_))))
      refine LQ sz.Rat rfl (d:=dQ ((λj=>(tX (rs.take k) v (List.replicate rs.length 0)).getD j 0+fJ (aO (rs.take k) v) (rs.getD k default)*(rs.getD k default).c.getD j 0) i)) BJ rfl rfl (by rw[dA];omega) (es2:=(xe (tX (rs.take k) v (List.replicate rs.length 0)) (λj=>(tX (rs.take k) v (List.replicate rs.length 0)).getD j 0+fJ (aO (rs.take k) v) (rs.getD k default)*(rs.getD k default).c.getD j 0) (i+1)).map dQ) (by rw[<- JK (show i<(tX (rs.take k) v (List.replicate rs.length 0)).length by omega),List.map_set]) ?_
      refine OL.nil (AW.rg hE rfl (aI rfl rfl (by omega) (aj rfl (OL.nil ?_))))
      exact AW.again (x:=i) (i+1) (by omega) ⟨by omega,Knows.app .rq9 .dD,dL.app (.cons rfl (.cons rfl (.cons rfl (.cons rfl (.cons rfl (.cons rfl .nil)))))) (.cons rfl .nil)⟩
     .try simp only[fD] at be5
      refine AW.exit ?_
      first|(obtain rfl:i=k+1:=(by omega))|skip
      refine AW.rg hE rfl (aI rfl rfl (by omega) (aj rfl (OL.nil ?_)))
      exact AW.again (x:=k) (k+1) (by omega) ⟨by omega,Knows.app .Ky .dD,dL.app (.cons rfl (.cons rfl (.cons rfl (.cons rfl .nil)))) (.cons (by rw[Ai (by omega),<- bp0,hwl];rfl) (.cons (by rw[SN (by omega),<- bp1 hck];rfl) .nil))⟩
  .try simp only[fD] at h45
   refine AW.exit (AW.seq ?_);obtain rfl:k=rs.length:=by omega
   have htk:tX (rs.take rs.length) v (List.replicate rs.length 0)=jS rs v:=by rw[List.take_length];rfl
   rw[htk,List.take_length];rw[htk] at htl;rw[List.take_length] at hwl;refine AW.freeze 18 rfl (AW.to [(4,.d (dJ (aO rs v))),(5,.bI 38 b38 rs.length rs.length)] ((38,.row b38 rs.length T.Rat 3 ((jS rs v).map dQ))::X7 b B rs) (.cons (dP (by rw[dA];exact hwl.symm) rfl) .dD) (.cons rfl (.cons rfl (.cons rfl (.cons rfl (.cons rfl .nil))))) ?_)
   refine AW.freeze 38 rfl (AW.to [(4,.d (dJ (aO rs v))),(5,.d (dJ (jS rs v)))] (X7 b B rs) (.cons vR (.cons (dP (by rw[dA];exact htl.symm) rfl) .nil)) (.cons rfl (.cons rfl (.cons rfl (.cons rfl .nil)))) ?_)
   exact AW.rg hE rfl (aj rfl (aj rfl (aF rfl (aF rfl (OL.nil (AW.ret ⟨⟨_,.tmp rfl (.tmp rfl .nil),_,.cons (.le vR) (.cons (.le vR) .nil),rfl⟩,λid blk hk=>oh (l:=X7 b B rs) (.cons rfl (.cons rfl (.cons rfl (.cons rfl trivial)))) id blk hk⟩))))))
theorem be6 {v:List Rat}{n b:Nat}{B:NP}{rs:List bZ}(sp:uO n 16777215 rs)(hv:v.length=n)(n6:n<=6)(zv:∀ i,sz (v.getD i 0)<=16777215):jA P F.wF [.ptr 1000 b 0,.d (dJ v)] (spM b B rs) (λ_:NP=>.d (dB (bM rs v))) (λx=>spM b x (uK rs v)) (λ_=>True):=by
 have hle:=sp.le;obtain⟨zl,zt⟩:=sp.sz.last (w:=v) (by omega) zv
 have hvl:(aO rs v).length=v.length:=jk _ _;have htl:=Bq rs v;have hbl:=UG rs v;refine jA.intro fn.wF (by rfl) (by rfl) (ay (by rfl)) λE hE=>(AW.sg hE rfl (aF rfl (OL.nil (AW.sg hE rfl (Ym rfl (aj rfl (aj1 (qY:=[.ptr 1000 b 0,.d (dJ v)]) rfl vL (ad9 (b:=b) (B:=B) sp hv n6 zv) (λid blk hk=>oh (l:=X7 b B rs) (.cons rfl (.cons rfl (.cons rfl (.cons rfl trivial)))) id blk hk) ?_)))))))
 refine Di rfl (ex rfl rfl (ex rfl rfl (aF rfl (aF rfl (OL.nil (AW.sg hE rfl (aj rfl ?_)))))));refine bH rfl vL (aC0 (w:=aO rs v) (by omega) (λi=>Nat.le_succ_of_le (zl i))) (aF rfl (OL.nil (AW.seq (AW.sg hE rfl (aj rfl (bG rfl rfl rfl (OL.nil ?_)))))))
 refine AW.cond rfl (λhg=>?_) (λhg=>?_)
 .have hg:bM rs v=false:=II.1 (lK hg);have hadd:uK rs v=rs:=if_neg (by rw[hg];exact Bool.false_ne_true)
  exact AW.sg hE rfl (aF rfl (OL.nil (AW.ret ⟨B,trivial,⟨_,.tmp rfl .nil,.le (by rw[hg];exact bW.refl _)⟩,by rw[hadd];exact λid blk hk=>oh (l:=X7 b B rs) (.cons rfl (.cons rfl (.cons rfl (.cons rfl trivial)))) id blk hk⟩)))
 .have hg:bM rs v=true:=by have h1:=nZ hg;cases hc:bM rs v with
   | true=>rfl
   | false=>exact absurd (II.2 hc) h1
  have hadd:uK rs v=rs++[newR rs v]:=if_pos hg;have hfi:=Y6 hg;refine AW.skip (AW.sg hE rfl (bH rfl .iW (FZ (n:=1) (d:=1) (by decide) (by decide) (by decide)) ?_))
  rw[q11];refine Di rfl (ex rfl rfl (ex rfl rfl (al z.Rat rfl λb8=>(fA sz.Rat rfl rfl rfl rfl rfl (ay rfl) (cells2:=[_,_,_]) rfl (aF rfl (OL.nil (AW.sg hE rfl ?_)))))));refine aj rfl (fF sl.bg rfl rfl ?_);rw[htl];refine bo rfl rfl (qf (c:=((rs.length+1:Nat):Int)) (by omega) (wrap_i64 (by omega))) (X4 dQ 0 sl.bg z.Rat Dj rfl rfl (Nat.le_refl _) (by omega) (by omega) rfl λJM=>(pV rfl (OL.nil (AW.seq (AW.sg hE rfl (aj rfl (fF sl.bg rfl rfl ?_)))))))
  rw[htl];refine aj rfl (OL.nil (AW.block ?_));refine AW.aY (α:=Nat) [(0,_),(4,_),(5,_),(6,_),(7,_),(8,_),(10,_),(31,_),(32,_)] [(8,_),(1000,_),(1001,_),(1002,_),(1003,_)] (λi=>[(33,.d (dI i))]) (λi=>[(30,.row JM (rs.length+1) T.Rat 3 ((nT 0 (λj=>(NJ rs v).getD j 0) (rs.length+1) i).map dQ))]) (λi=>i<=rs.length) (λi=>rs.length-i) 0 (.cons (iw rfl) (.cons (di rfl) (.cons (di rfl) (.cons (di rfl) (.cons (di rfl) (.cons (iw rfl) (.cons (zA rfl) (.cons (di rfl) (.cons (di rfl) .nil))))))))) (.cons (je rfl) (.cons (je rfl) (.cons (qZ rfl) (.cons (qZ rfl) (.cons (qZ rfl) .nil))))) ⟨Nat.zero_le _,.dD,.cons (by rw[sD];rfl) .nil⟩ ?_
  intro i h1;have h1:i<=rs.length:=h1;have hfl:=vM 0 (λj=>(NJ rs v).getD j 0) (rs.length+1) i;refine AW.sg hE rfl (bG rfl rfl rfl (OL.nil (AW.seq (AW.cond rfl (λh34=>?_) (λh34=>?_)))))
  .try simp only[fD] at h34
   refine AW.skip (AW.seq (AW.block (AW.seq ?_)));have hi:i<rs.length:=by omega
   have zx:=zt i;refine AW.rg hE rfl (aj rfl (dR sl.bg 0 rfl rfl (by omega) rfl rfl (iD ag.Rat rfl (vs:=[_,_,_]) rfl (ay rfl) (al z.Rat rfl λb12=>(aF rfl (fA sz.Rat rfl rfl rfl rfl rfl (ay rfl) (cells2:=[_,_,_]) rfl (OL.nil ?_)))))))
   refine AW.rg hE rfl (iU rfl (aj rfl (aQ ag.Rat rfl rfl (vs:=[_,_,_]) rfl (ay rfl) (bH rfl vL (Ii (q:=(jS rs v).getD i 0) (by omega)) ?_))))
   rw[<- ad8 hi];refine jv sl.bg rfl rfl (by omega) (LQ sz.Rat rfl (d:=dQ ((λj=>(NJ rs v).getD j 0) i)) BJ rfl rfl (by rw[dA];omega) (es2:=(nT 0 (λj=>(NJ rs v).getD j 0) (rs.length+1) (i+1)).map dQ) (by rw[<- qU (show i<rs.length+1 by omega),List.map_set]) (OL.nil (AW.rg hE rfl (aI rfl rfl (by omega) (aj rfl (OL.nil ?_))))))
   exact AW.again (x:=i) (i+1) (by omega) ⟨by omega,Knows.app .rq9 .dD,dL.app (.cons rfl (.cons rfl (.cons rfl (.cons rfl (.cons rfl .nil))))) (.cons rfl .nil)⟩
  .try simp only[fD] at h34
   refine AW.exit (AW.seq ?_);obtain rfl:i=rs.length:=by omega
   refine AW.rg hE rfl (iU rfl (aj rfl (fF sl.bg rfl rfl ?_)));rw[htl];refine aQ ag.Rat rfl rfl (vs:=[_,_,_]) rfl (ay rfl) (jv sl.bg rfl rfl (by omega) ?_)
   refine LQ sz.Rat rfl (d:=dQ ((λj=>(NJ rs v).getD j 0) rs.length)) (by show VD (vQ 1) (dQ ((NJ rs v).getD rs.length 0));rw[WY];exact BJ) rfl rfl (by rw[dA];omega) (es2:=(NJ rs v).map dQ) (by rw[<- List.map_set,qU (show rs.length<rs.length+1 by omega),Jw hbl]) ?_
   refine OL.nil (AW.seq ?_);refine AW.freeze 30 rfl (AW.to [(0,.ptr 1000 b 0),(5,.d (dJ (aO rs v))),(7,.d (dI (dX (aO rs v)))),(10,.d (dJ (NJ rs v)))] (X7 b B rs) (.cons bW.ptr (.cons vR (.cons (bW.int hfi) (.cons (dP (by rw[dA];exact hbl.symm) rfl) (.nil))))) (.cons rfl (.cons rfl (.cons rfl (.cons rfl .nil)))) ?_)
   refine AW.dg 2 [0,1,2,3,4,5,6,7,8,10,11,12,13,14,15,17,18,19,20,21,22,9,16,23,24,25,26,27,28,29,30,31,32] ak hE rfl (by kernel_rfl) (OI.aK (os:=[_,_,_,_,_,_,_,_,_,_,_,_,_,_,_,_,_,_,_,_,_,_,_,_,_,_,_,_,_,_,_,_,_]) rfl ?_)
   refine Ym rfl (Ym rfl (Ym rfl (Ym rfl (ncP rfl (bC fd.NF rfl rfl (aG ce.dw rfl rfl rfl (aj rfl ?_)))))));refine rF (y:=dJ (aO rs v)) sl.dw (VC.d _).vd rfl (by decide) (Ym rfl (ncP rfl (bC fd.Uz rfl rfl (aG ce.dw rfl rfl rfl (aj rfl (rF (y:=dJ (NJ rs v)) sl.dw (VC.d _).vd rfl (by decide) (Ym rfl ?_)))))))
   refine ncP rfl (bC fd.NG rfl rfl (aG ce.ints rfl rfl rfl (aj rfl (rF (y:=dI (dX (aO rs v))) sl.ints (VC.d _).vd rfl (by decide) ?_))))
   refine xZ sl.dw rfl rfl rfl (by rw[dA]) (VC.d _) (λy hy=>by rw[jJ hy];rfl) (by simp;omega) (by simp;omega) (.inl rfl) (ys:=(rs++[(newR rs v)]).map λr=>dJ r.v) (by rw[List.map_append];rfl) (n2:=rs.length+1) rfl λb58 c58=>?_
   refine xZ sl.dw rfl rfl rfl (by rw[dA]) (VC.d _) (λy hy=>by rw[jJ hy];rfl) (by simp;omega) (by simp;omega) (.inl rfl) (ys:=(rs++[(newR rs v)]).map λr=>dJ r.c) (by rw[List.map_append];rfl) (n2:=rs.length+1) rfl λb65 c65=>?_
   refine xZ sl.ints rfl rfl rfl (by rw[dA]) (VC.d _) (λy hy=>by rw[jJ hy];rfl) (by simp;omega) (by simp;omega) (.inl rfl) (ys:=(rs++[(newR rs v)]).map λr=>dI r.p) (by rw[List.map_append];rfl) (n2:=rs.length+1) rfl λb72 c72=>?_
   refine ncP rfl (bC fd.NF rfl rfl (fA sz.dw rfl rfl rfl rfl rfl (ay rfl) rfl (ncP rfl (bC fd.Uz rfl rfl (fA sz.dw rfl rfl rfl rfl rfl (ay rfl) rfl (ncP rfl (bC fd.NG rfl rfl ?_)))))));refine fA sz.ints rfl rfl rfl rfl rfl (ay rfl) rfl (OL.nil (AW.seq ?_));have hln:(rs++[newR rs v]).length=rs.length+1:=by rw[jd];rfl
   refine AW.to [] [(1000,.box b T.Space [.bI 58 b58 (rs.length+1) c58,.bI 65 b65 (rs.length+1) c65,.bI 72 b72 (rs.length+1) c72]),(58,.row b58 c58 T.bg 1 ((rs++[newR rs v]).map λr=>dJ r.v)),(65,.row b65 c65 T.bg 1 ((rs++[newR rs v]).map λr=>dJ r.c)),(72,.row b72 c72 T.int 1 ((rs++[newR rs v]).map λr=>dI r.p))] .nil (.cons rfl (.cons rfl (.cons rfl (.cons rfl .nil)))) ?_;refine AW.rename 58 1001 rfl (AW.rename 65 1002 rfl (AW.rename 72 1003 rfl (AW.oZ 1000 [.bI 1001 b58 (rs.length+1) c58,.bI 1002 b65 (rs.length+1) c65,.bI 1003 b72 (rs.length+1) c72] rfl (.cons bW.bI (.cons bW.bI (.cons bW.bI .nil))) ?_)));refine AW.rg hE rfl (aF rfl (OL.nil ?_));exact AW.ret ⟨⟨b58,c58,b65,c65,b72,c72⟩,trivial,⟨_,.tmp rfl .nil,.le (by rw[hg];exact bW.refl _)⟩,by rw[hadd];exact λid blk hk=>oh (l:=X7 b ⟨b58,c58,b65,c65,b72,c72⟩ (rs++[newR rs v])) (.cons (by show _=some (iF.box b T.Space [.bI 1001 b58 (rs++[newR rs v]).length c58,.bI 1002 b65 (rs++[newR rs v]).length c65,.bI 1003 b72 (rs++[newR rs v]).length c72]);rw[hln];rfl) (.cons rfl (.cons rfl (.cons rfl trivial)))) id blk hk⟩

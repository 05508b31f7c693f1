/-
  Walks of package span, part 2: spaces that grow (printed by mk2.py).
-/
import Derived.Test.YtanlenlmihoiiaaGreatDoorKMod87
set_option maxRecDepth 8000
set_option maxHeartbeats 3200000
set_option linter.unusedVariables false
set_option linter.unusedSimpArgs false
namespace Go.Proofs.YtanlenlmihoiiaaGreatDoor
open Go Go.AL
structure P7 where
 b1:Nat
 c1:Nat
 b2:Nat
 c2:Nat
 b3:Nat
 c3:Nat
instance:Inhabited P7:=⟨⟨0,0,0,0,0,0⟩⟩
abbrev Yn (B:P7)(rs:List dh):iI:=.row B.b1 B.c1 T.bF 1 (rs.map λr=>gm r.v)
abbrev BL (B:P7)(rs:List dh):iI:=.row B.b2 B.c2 T.bF 1 (rs.map λr=>gm r.c)
abbrev rowP (B:P7)(rs:List dh):iI:=.row B.b3 B.c3 T.int 1 (rs.map λr=>dI r.p)
abbrev boxS (b:Nat)(B:P7)(rs:List dh):iI:=.box b T.Space [.bK 1001 B.b1 rs.length B.c1,.bK 1002 B.b2 rs.length B.c2,.bK 1003 B.b3 rs.length B.c3]
abbrev Yo (b:Nat)(B:P7)(rs:List dh):List (Nat × iI):=[(1000,boxS b B rs),(1001,Yn B rs),(1002,BL B rs),(1003,rowP B rs)]
def spM (b:Nat)(B:P7)(rs:List dh):Mem:=lk none ((Yo b B rs).map λp=>(p.1,some p.2))
theorem V8 {b b2:Nat}{B B2:P7}{rs ZE:List dh}(id:Nat)(h:spM b B rs id=none):spM b2 B2 ZE id=none:=by
 unfold spM at *;simp only[Yo,List.map_cons,List.map_nil,lk] at h ⊢
 repeat (split at h;· cases h)
 simp only[*,if_false]
theorem Yp {w:List Rat}{r:dh}:kz w r=w.getD r.p 0 / r.v.getD r.p 0:=rfl
theorem bp5 {w:List Rat}{r:dh}:wP w (λj=>w.getD j 0-kz w r*r.v.getD j 0) w.length=jr w r:=JG λj h1 h2=>by omega
theorem bp6 {t c:List Rat}{f:Rat}{i:Nat}(hi:c.length=i):wP t (λj=>t.getD j 0+f*c.getD j 0) i=Ii t f c:=JG λj h1 _=>by
 show t.getD j 0+f*c.getD j 0=_
 rw[xu (l:=c) (by omega),Rat.mul_zero,Rat.add_zero]
theorem Ip {rs:List dh}{w:List Rat}:(FP (bC rs w)<0) ↔ bW rs w=false:=by
 unfold FP bW
 split
 .rename_i h;rw[decide_eq_true h];constructor
  .intro;omega
  .intro k;cases k
 .rename_i h;rw[decide_eq_false h];exact⟨λ_=>rfl,λ_=>by decide⟩
theorem Yq {rs:List dh}{w:List Rat}(h:bW rs w=true):FP (bC rs w)=(eU (bC rs w):Int):=if_pos (mX h)
theorem aa9 {v:List Rat}{n b:Nat}{B:P7}{rs:List dh}(sp:qU n 16777215 rs)(hv:v.length=n)(n6:n<=6)(zv:∀ i,sz (v.getD i 0)<=16777215):fQ P F.qX [.ptr 1000 b 0,.d (gm v)] (spM b B rs) (.oM [.d (gm (bC rs v)),.d (gm (jU rs v))]) (spM b B rs):=by
 have hle:=sp.le;have bC4:=sp.ech.piv;have hlen:=sp.len;have hcl:=sp.cl;have hz:=sp.sz;refine fQ.intro fn.qX (by rfl) (by rfl) (au (by rfl)) λE hE=>(AW.sg hE rfl (nI rfl (nI rfl (OL.nil (AW.sg hE rfl (aj rfl (fO sl.bF rfl rfl ?_)))))))
 refine U4 dQ 0 sl.bF z.Rat Dx rfl rfl (Nat.le_refl _) (by omega) (by omega) rfl λb18=>(uf rfl (OL.nil (AW.seq (AW.sg hE rfl (aj rfl (fO sl.bF rfl rfl (aj rfl ?_)))))))
 refine OL.nil (AW.block ?_);refine AW.aX (α:=Nat) [(0,_),(4,_),(5,_),(19,_),(20,_)] [(1000,_),(1001,_),(1002,_),(1003,_)] (λi=>[(21,.d (dI i))]) (λi=>[(18,.row b18 v.length T.Rat 3 ((oh 0 (λj=>v.getD j 0) v.length i).map dQ))]) (λi=>i<=v.length) (λi=>v.length-i) 0 (.cons (iF rfl) (.cons (BH rfl) (.cons (BO rfl) (.cons (dA rfl) (.cons (dA rfl) .nil))))) (.cons (jc rfl) (.cons (tJ rfl) (.cons (tJ rfl) (.cons (tJ rfl) .nil)))) ⟨Nat.zero_le _,.dw,.cons (by rw[rW];rfl) .nil⟩ ?_
 intro i h1;have h1:i<=v.length:=h1;have hfl:=vG 0 (λj=>v.getD j 0) v.length i;refine AW.sg hE rfl (bD rfl rfl rfl (OL.nil (AW.seq (AW.cond rfl (λh22=>?_) (λh22=>?_)))))
 .try simp only[fG] at h22
  refine AW.skip (AW.seq (AW.block (AW.seq ?_)));have zx:=zv i;refine AW.rg hE rfl (aj rfl (fD sl.bF 0 rfl rfl (by omega) rfl rfl (iR ag.Rat rfl (vs:=[_,_,_]) rfl (au rfl) (al z.Rat rfl λb7=>(aG rfl (eG sz.Rat rfl rfl rfl rfl rfl (au rfl) (cells2:=[_,_,_]) rfl (OL.nil ?_)))))))
  refine AW.rg hE rfl (jl rfl (aj rfl (aQ ag.Rat rfl rfl (vs:=[_,_,_]) rfl (au rfl) (bd z.Rat pl.Rat (cs:=[_,_,_]) rfl (bP rfl (.cons vR (.cons (as9) .nil)) (uw (x:=v.getD i 0) (y:=0) (by omega) (by rw[fH];decide)) ?_)))))
  rw[Rat.add_zero];refine je sl.bF rfl rfl (by omega) (J4 sz.Rat rfl (d:=dQ (v.getD i 0)) EN rfl rfl (by rw[dL];omega) (es2:=(oh 0 (λj=>v.getD j 0) v.length (i+1)).map dQ) (by rw[<- qM (show i<v.length by omega),List.map_set]) (OL.nil (AW.rg hE rfl (aJ rfl rfl (by omega) (aj rfl (OL.nil ?_))))))
  exact AW.again (x:=i) (i+1) (by omega) ⟨by omega,Knows.app .I7 .dw,dP.app (.cons rfl (.cons rfl (.cons rfl (.cons rfl .nil)))) (.cons rfl .nil)⟩
 .try simp only[fG] at h22
  refine AW.exit (AW.seq ?_);obtain rfl:i=v.length:=by omega
  rw[Jm rfl];refine AW.rg hE rfl (Zl rfl (ncP rfl (aV fd.MZ rfl rfl (aA ce.dm rfl rfl rfl (Qx sl.dm rfl rfl (U4 dQ 0 sl.bF z.Rat Dx rfl rfl (Nat.le_refl _) (by omega) (by omega) rfl λb38=>(uf rfl ?_)))))))
  refine OL.nil (AW.seq (AW.sg hE rfl (Zl rfl (ncP rfl (aV fd.MZ rfl rfl (aA ce.dm rfl rfl rfl (Qx sl.dm rfl rfl ?_)))))));refine aj rfl (OL.nil (AW.block ?_));refine AW.aX (α:=Nat) [(0,_),(4,_),(5,_),(42,_),(43,_)] [(1000,_),(1001,_),(1002,_),(1003,_)] (λk=>[(44,.d (dI k))]) (λk=>[(18,.row b18 v.length T.Rat 3 ((bC (rs.take k) v).map dQ)),(38,.row b38 rs.length T.Rat 3 ((sZ (rs.take k) v (List.replicate rs.length 0)).map dQ))]) (λk=>k<=rs.length) (λk=>rs.length-k) 0 (.cons (iF rfl) (.cons (BH rfl) (.cons (BH rfl) (.cons (BH rfl) (.cons (dA rfl) .nil))))) (.cons (jc rfl) (.cons (tJ rfl) (.cons (tJ rfl) (.cons (tJ rfl) .nil)))) ⟨Nat.zero_le _,.dw,.cons rfl (.cons rfl .nil)⟩ ?_;intro k h2;have h2:k<=rs.length:=h2;have hwl:(bC (rs.take k) v).length=v.length:=mD _ _;have htl:(sZ (rs.take k) v (List.replicate rs.length 0)).length=rs.length:=by rw[OB,List.length_replicate]
  refine AW.sg hE rfl (bD rfl rfl rfl (OL.nil (AW.seq (AW.cond rfl (λh45=>?_) (λh45=>?_)))))
  .try simp only[fG] at h45
   refine AW.skip (AW.seq (AW.block (AW.seq ?_)));have hkr:k<rs.length:=by omega
   obtain⟨zw,zt,zr,zc⟩:=hz.bounds (w:=v) (n:=rs.length) (by omega) hkr zv
   obtain⟨hp1,hp2⟩:=bC4 _ (vN hkr);have hrl:=hlen _ (vN hkr);have hck:=hcl k _ (Rn hkr);have zq:=TL ((bC (rs.take k) v).getD (rs.getD k default).p 0) ((rs.getD k default).v.getD (rs.getD k default).p 0);have zq1:=zw (rs.getD k default).p;have zq2:=zr (rs.getD k default).p;have zqq:sz (kz (bC (rs.take k) v) (rs.getD k default))<=34359738366:=Nat.le_trans zq (by omega)
   refine AW.rg hE rfl (aj rfl (je sl.dm rfl rfl (by omega) (Tj ce.bF default (by decide) rfl rfl hkr rfl (aG rfl (aG rfl (OL.nil (AW.seq ?_)))))))
   refine AW.dg 1 [0,1,2,3,4,5,6,7,8,9,10,11,12,13,14,15,16,17,18,19,20,21,22,23,24,25,26] ak hE rfl (by kernel_rfl) (OI.aP (os:=[_,_,_,_,_,_,_,_,_,_,_,_,_,_,_,_,_,_,_,_,_,_,_,_,_,_,_]) rfl ?_)
   refine jl rfl (Zl rfl (ncP rfl (aV fd.Na rfl rfl (aA ce.ints rfl rfl rfl (aj rfl (je sl.ints rfl rfl (by omega) (Tj ce.int default (by decide) rfl rfl hkr rfl ?_)))))))
   refine je sl.bF rfl rfl (by omega) (I5 ag.Rat 0 (by decide) rfl rfl (by omega) (vs:=[_,_,_]) rfl (au rfl) (aj rfl (Zl rfl (ncP rfl (aV fd.Na rfl rfl (aA ce.ints rfl rfl rfl (aj rfl ?_)))))))
   refine je sl.ints rfl rfl (by omega) (Tj ce.int default (by decide) rfl rfl hkr rfl (fD sl.bF 0 rfl rfl (by omega) rfl rfl (iR ag.Rat rfl (vs:=[_,_,_]) rfl (au rfl) (bP rfl vL (Ql (x:=(bC (rs.take k) v).getD (rs.getD k default).p 0) (y:=(rs.getD k default).v.getD (rs.getD k default).p 0) (by omega) (by omega) hp2) ?_))))
   rw[<- Yp];refine ES rfl (ex rfl rfl (ex rfl rfl (al z.Rat rfl λb10=>(eG sz.Rat rfl rfl rfl rfl rfl (au rfl) (cells2:=[_,_,_]) rfl (aG rfl (OL.nil (AW.seq ?_)))))));refine AW.sg hE rfl (aQ ag.Rat rfl rfl (vs:=[_,_,_]) rfl (au rfl) (bP rfl vL (rV (x:=kz (bC (rs.take k) v) (rs.getD k default)) (by omega)) (fE rfl rfl rfl (OL.nil (AW.cond rfl (λh0=>?_) (λh0=>?_))))))
   .have h0:kz (bC (rs.take k) v) (rs.getD k default)=0:=qg.1 (mX h0);refine AW.exit ?_
    first|(obtain rfl:i=k+1:=(by omega))|skip
    refine AW.rg hE rfl (aJ rfl rfl (by omega) (aj rfl (OL.nil ?_)))
    exact AW.again (x:=k) (k+1) (by omega) ⟨by omega,Knows.app .I7 .dw,dP.app (.cons rfl (.cons rfl (.cons rfl (.cons rfl .nil)))) (.cons (by rw[CV (by omega),Jo h0];rfl) (.cons (by rw[Rl (by omega),h0,aj0];rfl) .nil))⟩
   .have _h0:=h0;refine AW.skip (AW.seq (AW.sg hE rfl (aj rfl (fO sl.bF rfl rfl (aj rfl (OL.nil (AW.block ?_)))))));refine AW.aX (α:=Nat) [(0,_),(4,_),(5,_),(8,_),(10,_),(42,_),(43,_),(44,_),(76,_),(77,_)] [(10,_),(38,_),(1000,_),(1001,_),(1002,_),(1003,_)] (λi=>[(78,.d (dI i))]) (λi=>[(18,.row b18 v.length T.Rat 3 ((wP (bC (rs.take k) v) (λj=>(bC (rs.take k) v).getD j 0-kz (bC (rs.take k) v) (rs.getD k default)*(rs.getD k default).v.getD j 0) i).map dQ))]) (λi=>i<=v.length) (λi=>v.length-i) 0 (.cons (iF rfl) (.cons (BH rfl) (.cons (BH rfl) (.cons (dA rfl) (.cons (iF rfl) (.cons (BH rfl) (.cons (dA rfl) (.cons (dA rfl) (.cons (dA rfl) (.cons (dA rfl) .nil)))))))))) (.cons (jc rfl) (.cons (tJ rfl) (.cons (jc rfl) (.cons (tJ rfl) (.cons (tJ rfl) (.cons (tJ rfl) .nil)))))) ⟨Nat.zero_le _,.dw,.cons (by rw[CU];rfl) .nil⟩ ?_
    intro i h3;have h3:i<=v.length:=h3;have hml:(wP (bC (rs.take k) v) (λj=>(bC (rs.take k) v).getD j 0-kz (bC (rs.take k) v) (rs.getD k default)*(rs.getD k default).v.getD j 0) i).length=v.length:=CS.trans hwl;refine AW.sg hE rfl (bD rfl rfl rfl (OL.nil (AW.seq (AW.cond rfl (λh79=>?_) (λh79=>?_)))))
    .try simp only[fG] at h79
     refine AW.skip (AW.seq (AW.block (AW.seq ?_)));have zxr:=zr i;have zxw:=zw i;have zm:=jS (kz (bC (rs.take k) v) (rs.getD k default)) ((rs.getD k default).v.getD i 0);refine AW.rg hE rfl (aj rfl (fD sl.bF 0 rfl rfl (by omega) rfl rfl (iR ag.Rat rfl (vs:=[_,_,_]) rfl (au rfl) (al z.Rat rfl λb13=>(aG rfl (eG sz.Rat rfl rfl rfl rfl rfl (au rfl) (cells2:=[_,_,_]) rfl (OL.nil ?_)))))))
     refine AW.dg 1 [0,1,2,3,4,5,6,7,8,9,10,11] ak hE rfl (by kernel_rfl) (OI.aP (os:=[_,_,_,_,_,_,_,_,_,_,_,_]) rfl ?_)
     refine jl rfl (aj rfl (jl rfl (aj rfl (je sl.bF rfl rfl (by omega) (I5 ag.Rat 0 (by decide) rfl rfl (by omega) (vs:=[_,_,_]) rfl (au rfl) ?_)))))
     rw[JE (by omega)]
     refine aQ ag.Rat rfl rfl (vs:=[_,_,_]) rfl (au rfl) (aQ ag.Rat rfl rfl (vs:=[_,_,_]) rfl (au rfl) (bP rfl vL (xY (x:=kz (bC (rs.take k) v) (rs.getD k default)) (y:=(rs.getD k default).v.getD i 0) (by omega) (by omega)) (bP rfl vL (Qk (x:=(bC (rs.take k) v).getD i 0) (y:=kz (bC (rs.take k) v) (rs.getD k default)*(rs.getD k default).v.getD i 0) (by omega) (by omega)) (je sl.bF rfl rfl (by omega) ?_))))
     refine J4 sz.Rat rfl (d:=dQ ((λj=>(bC (rs.take k) v).getD j 0-kz (bC (rs.take k) v) (rs.getD k default)*(rs.getD k default).v.getD j 0) i)) EN rfl rfl (by rw[dL];omega) (es2:=(wP (bC (rs.take k) v) (λj=>(bC (rs.take k) v).getD j 0-kz (bC (rs.take k) v) (rs.getD k default)*(rs.getD k default).v.getD j 0) (i+1)).map dQ) (by rw[<- JF (show i<(bC (rs.take k) v).length by omega),List.map_set]) ?_
     refine OL.nil (AW.rg hE rfl (aJ rfl rfl (by omega) (aj rfl (OL.nil ?_))))
     exact AW.again (x:=i) (i+1) (by omega) ⟨by omega,Knows.app .ae6 .dw,dP.app (.cons rfl (.cons rfl (.cons rfl (.cons rfl (.cons rfl (.cons rfl .nil)))))) (.cons rfl .nil)⟩
    .try simp only[fG] at h79
     refine AW.exit (AW.seq ?_);obtain rfl:i=v.length:=by omega
     refine AW.rg hE rfl (Zl rfl (ncP rfl (aV fd.TF rfl rfl (aA ce.dm rfl rfl rfl (aj rfl (je sl.dm rfl rfl (by omega) (Tj ce.bF default (by decide) rfl rfl hkr rfl ?_)))))))
     refine fO sl.bF rfl rfl ?_;rw[hck];refine aj rfl (OL.nil (AW.block ?_));refine AW.aX (α:=Nat) [(0,_),(4,_),(5,_),(10,_),(42,_),(43,_),(44,_),(101,_),(102,_)] [(10,_),(18,_),(1000,_),(1001,_),(1002,_),(1003,_)] (λi=>[(103,.d (dI i))]) (λi=>[(38,.row b38 rs.length T.Rat 3 ((wP (sZ (rs.take k) v (List.replicate rs.length 0)) (λj=>(sZ (rs.take k) v (List.replicate rs.length 0)).getD j 0+kz (bC (rs.take k) v) (rs.getD k default)*(rs.getD k default).c.getD j 0) i).map dQ))]) (λi=>i<=k+1) (λi=>k+1-i) 0 (.cons (iF rfl) (.cons (BH rfl) (.cons (BH rfl) (.cons (iF rfl) (.cons (BH rfl) (.cons (dA rfl) (.cons (dA rfl) (.cons (dA rfl) (.cons (dA rfl) .nil))))))))) (.cons (jc rfl) (.cons (tJ rfl) (.cons (jc rfl) (.cons (tJ rfl) (.cons (tJ rfl) (.cons (tJ rfl) .nil)))))) ⟨Nat.zero_le _,.dw,.cons (by rw[CU];rfl) .nil⟩ ?_
     intro i h4;have h4:i<=k+1:=h4;have hml:(wP (sZ (rs.take k) v (List.replicate rs.length 0)) (λj=>(sZ (rs.take k) v (List.replicate rs.length 0)).getD j 0+kz (bC (rs.take k) v) (rs.getD k default)*(rs.getD k default).c.getD j 0) i).length=rs.length:=CS.trans htl;refine AW.sg hE rfl (bD rfl rfl rfl (OL.nil (AW.seq (AW.cond rfl (λbe6=>?_) (λbe6=>?_)))))
     .try simp only[fG] at be6
      refine AW.skip (AW.seq (AW.block (AW.seq ?_)));have zxc:=zc i;have zxt:=zt i;have zm:=jS (kz (bC (rs.take k) v) (rs.getD k default)) ((rs.getD k default).c.getD i 0);refine AW.rg hE rfl (aj rfl (fD sl.bF 0 rfl rfl (by omega) rfl rfl (iR ag.Rat rfl (vs:=[_,_,_]) rfl (au rfl) (al z.Rat rfl λb15=>(aG rfl (eG sz.Rat rfl rfl rfl rfl rfl (au rfl) (cells2:=[_,_,_]) rfl (OL.nil ?_)))))))
      refine AW.dg 1 [0,1,2,3,4,5,6,7,8,9,10,11] ak hE rfl (by kernel_rfl) (OI.aP (os:=[_,_,_,_,_,_,_,_,_,_,_,_]) rfl ?_)
      refine jl rfl (aj rfl (jl rfl (aj rfl (je sl.bF rfl rfl (by omega) (I5 ag.Rat 0 (by decide) rfl rfl (by omega) (vs:=[_,_,_]) rfl (au rfl) ?_)))))
      rw[JE (by omega)]
      refine aQ ag.Rat rfl rfl (vs:=[_,_,_]) rfl (au rfl) (aQ ag.Rat rfl rfl (vs:=[_,_,_]) rfl (au rfl) (bP rfl vL (xY (x:=kz (bC (rs.take k) v) (rs.getD k default)) (y:=(rs.getD k default).c.getD i 0) (by omega) (by omega)) (bP rfl vL (uw (x:=(sZ (rs.take k) v (List.replicate rs.length 0)).getD i 0) (y:=kz (bC (rs.take k) v) (rs.getD k default)*(rs.getD k default).c.getD i 0) (by omega) (by omega)) (je sl.bF rfl rfl (by omega) ?_))))
      refine J4 sz.Rat rfl (d:=dQ ((λj=>(sZ (rs.take k) v (List.replicate rs.length 0)).getD j 0+kz (bC (rs.take k) v) (rs.getD k default)*(rs.getD k default).c.getD j 0) i)) EN rfl rfl (by rw[dL];omega) (es2:=(wP (sZ (rs.take k) v (List.replicate rs.length 0)) (λj=>(sZ (rs.take k) v (List.replicate rs.length 0)).getD j 0+kz (bC (rs.take k) v) (rs.getD k default)*(rs.getD k default).c.getD j 0) (i+1)).map dQ) (by rw[<- JF (show i<(sZ (rs.take k) v (List.replicate rs.length 0)).length by omega),List.map_set]) ?_
      refine OL.nil (AW.rg hE rfl (aJ rfl rfl (by omega) (aj rfl (OL.nil ?_))))
      exact AW.again (x:=i) (i+1) (by omega) ⟨by omega,Knows.app .rq9 .dw,dP.app (.cons rfl (.cons rfl (.cons rfl (.cons rfl (.cons rfl (.cons rfl .nil)))))) (.cons rfl .nil)⟩
     .try simp only[fG] at be6
      refine AW.exit ?_
      first|(obtain rfl:i=k+1:=(by omega))|skip
      refine AW.rg hE rfl (aJ rfl rfl (by omega) (aj rfl (OL.nil ?_)))
      exact AW.again (x:=k) (k+1) (by omega) ⟨by omega,Knows.app .I7 .dw,dP.app (.cons rfl (.cons rfl (.cons rfl (.cons rfl .nil)))) (.cons (by rw[CV (by omega),<- bp5,hwl];rfl) (.cons (by rw[Rl (by omega),<- bp6 hck];rfl) .nil))⟩
  .try simp only[fG] at h45
   refine AW.exit (AW.seq ?_);obtain rfl:k=rs.length:=by omega
   have htk:sZ (rs.take rs.length) v (List.replicate rs.length 0)=jU rs v:=by rw[List.take_length];rfl
   rw[htk,List.take_length];rw[htk] at htl;rw[List.take_length] at hwl;refine AW.freeze 18 rfl (AW.to [(4,.d (gm (bC rs v))),(5,.bK 38 b38 rs.length rs.length)] ((38,.row b38 rs.length T.Rat 3 ((jU rs v).map dQ))::Yo b B rs) (.cons (dM (by rw[dL];exact hwl.symm) rfl) .dw) (.cons rfl (.cons rfl (.cons rfl (.cons rfl (.cons rfl .nil))))) ?_)
   refine AW.freeze 38 rfl (AW.to [(4,.d (gm (bC rs v))),(5,.d (gm (jU rs v)))] (Yo b B rs) (.cons vR (.cons (dM (by rw[dL];exact htl.symm) rfl) .nil)) (.cons rfl (.cons rfl (.cons rfl (.cons rfl .nil)))) ?_)
   exact AW.rg hE rfl (aj rfl (aj rfl (aG rfl (aG rfl (OL.nil (AW.ret ⟨⟨_,.tmp rfl (.tmp rfl .nil),_,.cons (.le vR) (.cons (.le vR) .nil),rfl⟩,λid blk hk=>oz (l:=Yo b B rs) (.cons rfl (.cons rfl (.cons rfl (.cons rfl trivial)))) id blk hk⟩))))))
theorem bp7 {v:List Rat}{n b:Nat}{B:P7}{rs:List dh}(sp:qU n 16777215 rs)(hv:v.length=n)(n6:n<=6)(zv:∀ i,sz (v.getD i 0)<=16777215):jD P F.vY [.ptr 1000 b 0,.d (gm v)] (spM b B rs) (λ_:P7=>.d (dB (bW rs v))) (λx=>spM b x (tq rs v)) (λ_=>True):=by
 have hle:=sp.le;obtain⟨zl,zt⟩:=sp.sz.last (w:=v) (by omega) zv
 have hvl:(bC rs v).length=v.length:=mD _ _;have htl:=Ae rs v;have hbl:=TP rs v;refine jD.intro fn.vY (by rfl) (by rfl) (au (by rfl)) λE hE=>(AW.sg hE rfl (aG rfl (OL.nil (AW.sg hE rfl (Zl rfl (aj rfl (X3 (oJ:=[.ptr 1000 b 0,.d (gm v)]) rfl vL (aa9 (b:=b) (B:=B) sp hv n6 zv) (λid blk hk=>oz (l:=Yo b B rs) (.cons rfl (.cons rfl (.cons rfl (.cons rfl trivial)))) id blk hk) ?_)))))))
 refine ES rfl (ex rfl rfl (ex rfl rfl (aG rfl (aG rfl (OL.nil (AW.sg hE rfl (aj rfl ?_)))))));refine bP rfl vL (az9 (w:=bC rs v) (by omega) (λi=>Nat.le_succ_of_le (zl i))) (aG rfl (OL.nil (AW.seq (AW.sg hE rfl (aj rfl (bD rfl rfl rfl (OL.nil ?_)))))))
 refine AW.cond rfl (λhg=>?_) (λhg=>?_)
 .have hg:bW rs v=false:=Ip.1 (mX hg);have hadd:tq rs v=rs:=if_neg (by rw[hg];exact Bool.false_ne_true)
  exact AW.sg hE rfl (aG rfl (OL.nil (AW.ret ⟨B,trivial,⟨_,.tmp rfl .nil,.le (by rw[hg];exact bV.refl _)⟩,by rw[hadd];exact λid blk hk=>oz (l:=Yo b B rs) (.cons rfl (.cons rfl (.cons rfl (.cons rfl trivial)))) id blk hk⟩)))
 .have hg:bW rs v=true:=by have h1:=oN hg;cases hc:bW rs v with
   | true=>rfl
   | false=>exact absurd (Ip.2 hc) h1
  have hadd:tq rs v=rs++[newR rs v]:=if_pos hg;have hfi:=Yq hg;refine AW.skip (AW.sg hE rfl (bP rfl .jm (Fj (n:=1) (d:=1) (by decide) (by decide) (by decide)) ?_))
  rw[q11];refine ES rfl (ex rfl rfl (ex rfl rfl (al z.Rat rfl λb8=>(eG sz.Rat rfl rfl rfl rfl rfl (au rfl) (cells2:=[_,_,_]) rfl (aG rfl (OL.nil (AW.sg hE rfl ?_)))))));refine aj rfl (fO sl.bF rfl rfl ?_);rw[htl];refine bo rfl rfl (lG (c:=((rs.length+1:Nat):Int)) (by omega) (wrap_i64 (by omega))) (U4 dQ 0 sl.bF z.Rat Dx rfl rfl (Nat.le_refl _) (by omega) (by omega) rfl λIE=>(uf rfl (OL.nil (AW.seq (AW.sg hE rfl (aj rfl (fO sl.bF rfl rfl ?_)))))))
  rw[htl];refine aj rfl (OL.nil (AW.block ?_));refine AW.aX (α:=Nat) [(0,_),(4,_),(5,_),(6,_),(7,_),(8,_),(10,_),(31,_),(32,_)] [(8,_),(1000,_),(1001,_),(1002,_),(1003,_)] (λi=>[(33,.d (dI i))]) (λi=>[(30,.row IE (rs.length+1) T.Rat 3 ((oh 0 (λj=>(Nh rs v).getD j 0) (rs.length+1) i).map dQ))]) (λi=>i<=rs.length) (λi=>rs.length-i) 0 (.cons (iF rfl) (.cons (dA rfl) (.cons (dA rfl) (.cons (dA rfl) (.cons (dA rfl) (.cons (iF rfl) (.cons (BH rfl) (.cons (dA rfl) (.cons (dA rfl) .nil))))))))) (.cons (jc rfl) (.cons (jc rfl) (.cons (tJ rfl) (.cons (tJ rfl) (.cons (tJ rfl) .nil))))) ⟨Nat.zero_le _,.dw,.cons (by rw[rW];rfl) .nil⟩ ?_
  intro i h1;have h1:i<=rs.length:=h1;have hfl:=vG 0 (λj=>(Nh rs v).getD j 0) (rs.length+1) i;refine AW.sg hE rfl (bD rfl rfl rfl (OL.nil (AW.seq (AW.cond rfl (λh34=>?_) (λh34=>?_)))))
  .try simp only[fG] at h34
   refine AW.skip (AW.seq (AW.block (AW.seq ?_)));have hi:i<rs.length:=by omega
   have zx:=zt i;refine AW.rg hE rfl (aj rfl (fD sl.bF 0 rfl rfl (by omega) rfl rfl (iR ag.Rat rfl (vs:=[_,_,_]) rfl (au rfl) (al z.Rat rfl λb12=>(aG rfl (eG sz.Rat rfl rfl rfl rfl rfl (au rfl) (cells2:=[_,_,_]) rfl (OL.nil ?_)))))))
   refine AW.rg hE rfl (jl rfl (aj rfl (aQ ag.Rat rfl rfl (vs:=[_,_,_]) rfl (au rfl) (bP rfl vL (Ht (q:=(jU rs v).getD i 0) (by omega)) ?_))))
   rw[<- aa8 hi];refine je sl.bF rfl rfl (by omega) (J4 sz.Rat rfl (d:=dQ ((λj=>(Nh rs v).getD j 0) i)) EN rfl rfl (by rw[dL];omega) (es2:=(oh 0 (λj=>(Nh rs v).getD j 0) (rs.length+1) (i+1)).map dQ) (by rw[<- qM (show i<rs.length+1 by omega),List.map_set]) (OL.nil (AW.rg hE rfl (aJ rfl rfl (by omega) (aj rfl (OL.nil ?_))))))
   exact AW.again (x:=i) (i+1) (by omega) ⟨by omega,Knows.app .rq9 .dw,dP.app (.cons rfl (.cons rfl (.cons rfl (.cons rfl (.cons rfl .nil))))) (.cons rfl .nil)⟩
  .try simp only[fG] at h34
   refine AW.exit (AW.seq ?_);obtain rfl:i=rs.length:=by omega
   refine AW.rg hE rfl (jl rfl (aj rfl (fO sl.bF rfl rfl ?_)));rw[htl];refine aQ ag.Rat rfl rfl (vs:=[_,_,_]) rfl (au rfl) (je sl.bF rfl rfl (by omega) ?_)
   refine J4 sz.Rat rfl (d:=dQ ((λj=>(Nh rs v).getD j 0) rs.length)) (by show VD (vQ 1) (dQ ((Nh rs v).getD rs.length 0));rw[V7];exact EN) rfl rfl (by rw[dL];omega) (es2:=(Nh rs v).map dQ) (by rw[<- List.map_set,qM (show rs.length<rs.length+1 by omega),Jm hbl]) ?_
   refine OL.nil (AW.seq ?_);refine AW.freeze 30 rfl (AW.to [(0,.ptr 1000 b 0),(5,.d (gm (bC rs v))),(7,.d (dI (eU (bC rs v)))),(10,.d (gm (Nh rs v)))] (Yo b B rs) (.cons bV.ptr (.cons vR (.cons (bV.int hfi) (.cons (dM (by rw[dL];exact hbl.symm) rfl) (.nil))))) (.cons rfl (.cons rfl (.cons rfl (.cons rfl .nil)))) ?_)
   refine AW.dg 2 [0,1,2,3,4,5,6,7,8,10,11,12,13,14,15,17,18,19,20,21,22,9,16,23,24,25,26,27,28,29,30,31,32] ak hE rfl (by kernel_rfl) (OI.aP (os:=[_,_,_,_,_,_,_,_,_,_,_,_,_,_,_,_,_,_,_,_,_,_,_,_,_,_,_,_,_,_,_,_,_]) rfl ?_)
   refine Zl rfl (Zl rfl (Zl rfl (Zl rfl (ncP rfl (aV fd.MZ rfl rfl (aA ce.dm rfl rfl rfl (aj rfl ?_)))))));refine xG (y:=gm (bC rs v)) sl.dm (VC.d _).vd rfl (by decide) (Zl rfl (ncP rfl (aV fd.TF rfl rfl (aA ce.dm rfl rfl rfl (aj rfl (xG (y:=gm (Nh rs v)) sl.dm (VC.d _).vd rfl (by decide) (Zl rfl ?_)))))))
   refine ncP rfl (aV fd.Na rfl rfl (aA ce.ints rfl rfl rfl (aj rfl (xG (y:=dI (eU (bC rs v))) sl.ints (VC.d _).vd rfl (by decide) ?_))))
   refine Am sl.dm rfl rfl rfl (by rw[dL]) (VC.d _) (λy hy=>by rw[lV hy];rfl) (by simp;omega) (by simp;omega) (.inl rfl) (ys:=(rs++[(newR rs v)]).map λr=>gm r.v) (by rw[List.map_append];rfl) (n2:=rs.length+1) rfl λb58 c58=>?_
   refine Am sl.dm rfl rfl rfl (by rw[dL]) (VC.d _) (λy hy=>by rw[lV hy];rfl) (by simp;omega) (by simp;omega) (.inl rfl) (ys:=(rs++[(newR rs v)]).map λr=>gm r.c) (by rw[List.map_append];rfl) (n2:=rs.length+1) rfl λb65 c65=>?_
   refine Am sl.ints rfl rfl rfl (by rw[dL]) (VC.d _) (λy hy=>by rw[lV hy];rfl) (by simp;omega) (by simp;omega) (.inl rfl) (ys:=(rs++[(newR rs v)]).map λr=>dI r.p) (by rw[List.map_append];rfl) (n2:=rs.length+1) rfl λb72 c72=>?_
   refine ncP rfl (aV fd.MZ rfl rfl (eG sz.dm rfl rfl rfl rfl rfl (au rfl) rfl (ncP rfl (aV fd.TF rfl rfl (eG sz.dm rfl rfl rfl rfl rfl (au rfl) rfl (ncP rfl (aV fd.Na rfl rfl ?_)))))));refine eG sz.ints rfl rfl rfl rfl rfl (au rfl) rfl (OL.nil (AW.seq ?_));have hln:(rs++[newR rs v]).length=rs.length+1:=by rw[jd];rfl
   refine AW.to [] [(1000,.box b T.Space [.bK 58 b58 (rs.length+1) c58,.bK 65 b65 (rs.length+1) c65,.bK 72 b72 (rs.length+1) c72]),(58,.row b58 c58 T.bF 1 ((rs++[newR rs v]).map λr=>gm r.v)),(65,.row b65 c65 T.bF 1 ((rs++[newR rs v]).map λr=>gm r.c)),(72,.row b72 c72 T.int 1 ((rs++[newR rs v]).map λr=>dI r.p))] .nil (.cons rfl (.cons rfl (.cons rfl (.cons rfl .nil)))) ?_;refine AW.rename 58 1001 rfl (AW.rename 65 1002 rfl (AW.rename 72 1003 rfl (AW.pV 1000 [.bK 1001 b58 (rs.length+1) c58,.bK 1002 b65 (rs.length+1) c65,.bK 1003 b72 (rs.length+1) c72] rfl (.cons bV.bK (.cons bV.bK (.cons bV.bK .nil))) ?_)));refine AW.rg hE rfl (aG rfl (OL.nil ?_));exact AW.ret ⟨⟨b58,c58,b65,c65,b72,c72⟩,trivial,⟨_,.tmp rfl .nil,.le (by rw[hg];exact bV.refl _)⟩,by rw[hadd];exact λid blk hk=>oz (l:=Yo b ⟨b58,c58,b65,c65,b72,c72⟩ (rs++[newR rs v])) (.cons (by show _=some (iI.box b T.Space [.bK 1001 b58 (rs++[newR rs v]).length c58,.bK 1002 b65 (rs++[newR rs v]).length c65,.bK 1003 b72 (rs++[newR rs v]).length c72]);rw[hln];rfl) (.cons rfl (.cons rfl (.cons rfl trivial)))) id blk hk⟩

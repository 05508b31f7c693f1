/-
  Walks of package span, part 2: spaces that grow (printed by mk2.py).
-/
import Derived.Test.YtnjoncgnjdkaoaaGreatDoorKMod87
set_option maxRecDepth 8000
set_option maxHeartbeats 3200000
set_option linter.unusedVariables false
set_option linter.unusedSimpArgs false
namespace Go.Proofs.YtnjoncgnjdkaoaaGreatDoor
open Go Go.AL
structure EH where
 b1:Nat
 c1:Nat
 b2:Nat
 c2:Nat
 b3:Nat
 c3:Nat
instance:Inhabited EH:=⟨⟨0,0,0,0,0,0⟩⟩
abbrev bc5 (B:EH)(rs:List bW):iE:=.row B.b1 B.c1 T.bQ 1 (rs.map λr=>iQ r.v)
abbrev J3 (B:EH)(rs:List bW):iE:=.row B.b2 B.c2 T.bQ 1 (rs.map λr=>iQ r.c)
abbrev rowP (B:EH)(rs:List bW):iE:=.row B.b3 B.c3 T.int 1 (rs.map λr=>dI r.p)
abbrev boxS (b:Nat)(B:EH)(rs:List bW):iE:=.box b T.Space [.bF 1001 B.b1 rs.length B.c1,.bF 1002 B.b2 rs.length B.c2,.bF 1003 B.b3 rs.length B.c3]
abbrev spL (b:Nat)(B:EH)(rs:List bW):List (Nat × iE):=[(1000,boxS b B rs),(1001,bc5 B rs),(1002,J3 B rs),(1003,rowP B rs)]
def spM (b:Nat)(B:EH)(rs:List bW):Mem:=lk none ((spL b B rs).map λp=>(p.1,some p.2))
theorem al7 {b b2:Nat}{B B2:EH}{rs Vr:List bW}(id:Nat)(h:spM b B rs id=none):spM b2 B2 Vr id=none:=by
 unfold spM at *;simp only[spL,List.map_cons,List.map_nil,lk] at h ⊢
 repeat (split at h;· cases h)
 simp only[*,if_false]
theorem al8 {w:List Rat}{r:bW}:jZ w r=w.getD r.p 0 / r.v.getD r.p 0:=rfl
theorem bc6 {w:List Rat}{r:bW}:uY w (λj=>w.getD j 0-jZ w r*r.v.getD j 0) w.length=jl w r:=EG λj h1 h2=>by omega
theorem bc7 {t c:List Rat}{f:Rat}{i:Nat}(hi:c.length=i):uY t (λj=>t.getD j 0+f*c.getD j 0) i=FO t f c:=EG λj h1 _=>by
 show t.getD j 0+f*c.getD j 0=_
 rw[wX (l:=c) (by omega),Rat.mul_zero,Rat.add_zero]
theorem NJ {rs:List bW}{w:List Rat}:(Ez (bg rs w)<0) ↔ bM rs w=false:=by
 unfold Ez bM
 split
 .rename_i h;rw[decide_eq_true h];constructor
  .intro;omega
  .intro k;cases k
 .rename_i h;rw[decide_eq_false h];exact⟨λ_=>rfl,λ_=>by decide⟩
theorem WM {rs:List bW}{w:List Rat}(h:bM rs w=true):Ez (bg rs w)=(iP (bg rs w):Int):=if_pos (lq h)
theorem aD8 {v:List Rat}{n b:Nat}{B:EH}{rs:List bW}(sp:uK n 16777215 rs)(hv:v.length=n)(n6:n<=6)(zv:∀ i,sz (v.getD i 0)<=16777215):eX P F.qU [.ptr 1000 b 0,.d (iQ v)] (spM b B rs) (.jS [.d (iQ (bg rs v)),.d (iQ (bY rs v))]) (spM b B rs):=by
 have hle:=sp.le;have aR8:=sp.ech.piv;have hlen:=sp.len;have hcl:=sp.cl;have hz:=sp.sz;refine eX.intro fn.qU (by rfl) (by rfl) (aB (by rfl)) λE hE=>(AW.sg hE rfl (oK rfl (oK rfl (OL.nil (AW.sg hE rfl (ai rfl (fJ sl.bQ rfl rfl ?_)))))))
 refine QM dQ 0 sl.bQ z.Rat Be rfl rfl (Nat.le_refl _) (by omega) (by omega) rfl λb18=>(tJ rfl (OL.nil (AW.seq (AW.sg hE rfl (ai rfl (fJ sl.bQ rfl rfl (ai rfl ?_)))))))
 refine OL.nil (AW.block ?_);refine AW.aV (α:=Nat) [(0,_),(4,_),(5,_),(19,_),(20,_)] [(1000,_),(1001,_),(1002,_),(1003,_)] (λi=>[(21,.d (dI i))]) (λi=>[(18,.row b18 v.length T.Rat 3 ((kZ 0 (λj=>v.getD j 0) v.length i).map dQ))]) (λi=>i<=v.length) (λi=>v.length-i) 0 (.cons (gB rfl) (.cons (yj rfl) (.cons (Ea rfl) (.cons (bK rfl) (.cons (bK rfl) .nil))))) (.cons (iR rfl) (.cons (lg rfl) (.cons (lg rfl) (.cons (lg rfl) .nil)))) ⟨Nat.zero_le _,.bZ,.cons (by rw[rF];rfl) .nil⟩ ?_
 intro i h1;have h1:i<=v.length:=h1;have hfl:=sF 0 (λj=>v.getD j 0) v.length i;refine AW.sg hE rfl (aY rfl rfl rfl (OL.nil (AW.seq (AW.cond rfl (λh22=>?_) (λh22=>?_)))))
 .try simp only[dX] at h22
  refine AW.skip (AW.seq (AW.block (AW.seq ?_)));have zx:=zv i;refine AW.rg hE rfl (ai rfl (fO sl.bQ 0 rfl rfl (by omega) rfl rfl (jH ag.Rat rfl (vs:=[_,_,_]) rfl (aB rfl) (al z.Rat rfl λb7=>(aF rfl (eH sz.Rat rfl rfl rfl rfl rfl (aB rfl) (cells2:=[_,_,_]) rfl (OL.nil ?_)))))))
  refine AW.rg hE rfl (jq rfl (ai rfl (aO ag.Rat rfl rfl (vs:=[_,_,_]) rfl (aB rfl) (bd z.Rat pl.Rat (cs:=[_,_,_]) rfl (bJ rfl (.cons vR (.cons (ag0) .nil)) (uf (x:=v.getD i 0) (y:=0) (by omega) (by rw[gm];decide)) ?_)))))
  rw[Rat.add_zero];refine iM sl.bQ rfl rfl (by omega) (GI sz.Rat rfl (d:=dQ (v.getD i 0)) xP rfl rfl (by rw[dJ];omega) (es2:=(kZ 0 (λj=>v.getD j 0) v.length (i+1)).map dQ) (by rw[<- pq (show i<v.length by omega),List.map_set]) (OL.nil (AW.rg hE rfl (aI rfl rfl (by omega) (ai rfl (OL.nil ?_))))))
  exact AW.again (x:=i) (i+1) (by omega) ⟨by omega,Knows.app .DR .bZ,dw.app (.cons rfl (.cons rfl (.cons rfl (.cons rfl .nil)))) (.cons rfl .nil)⟩
 .try simp only[dX] at h22
  refine AW.exit (AW.seq ?_);obtain rfl:i=v.length:=by omega
  rw[En rfl];refine AW.rg hE rfl (Aa rfl (Gf rfl (aW fd.KF rfl rfl (aG ce.fK rfl rfl rfl (G5 sl.fK rfl rfl (QM dQ 0 sl.bQ z.Rat Be rfl rfl (Nat.le_refl _) (by omega) (by omega) rfl λb38=>(tJ rfl ?_)))))))
  refine OL.nil (AW.seq (AW.sg hE rfl (Aa rfl (Gf rfl (aW fd.KF rfl rfl (aG ce.fK rfl rfl rfl (G5 sl.fK rfl rfl ?_)))))));refine ai rfl (OL.nil (AW.block ?_));refine AW.aV (α:=Nat) [(0,_),(4,_),(5,_),(42,_),(43,_)] [(1000,_),(1001,_),(1002,_),(1003,_)] (λk=>[(44,.d (dI k))]) (λk=>[(18,.row b18 v.length T.Rat 3 ((bg (rs.take k) v).map dQ)),(38,.row b38 rs.length T.Rat 3 ((ou (rs.take k) v (List.replicate rs.length 0)).map dQ))]) (λk=>k<=rs.length) (λk=>rs.length-k) 0 (.cons (gB rfl) (.cons (yj rfl) (.cons (yj rfl) (.cons (yj rfl) (.cons (bK rfl) .nil))))) (.cons (iR rfl) (.cons (lg rfl) (.cons (lg rfl) (.cons (lg rfl) .nil)))) ⟨Nat.zero_le _,.bZ,.cons rfl (.cons rfl .nil)⟩ ?_;intro k h2;have h2:k<=rs.length:=h2;have hwl:(bg (rs.take k) v).length=v.length:=pz _ _;have htl:(ou (rs.take k) v (List.replicate rs.length 0)).length=rs.length:=by rw[H6,List.length_replicate]
  refine AW.sg hE rfl (aY rfl rfl rfl (OL.nil (AW.seq (AW.cond rfl (λh45=>?_) (λh45=>?_)))))
  .try simp only[dX] at h45
   refine AW.skip (AW.seq (AW.block (AW.seq ?_)));have hkr:k<rs.length:=by omega
   obtain⟨zw,zt,zr,zc⟩:=hz.bounds (w:=v) (n:=rs.length) (by omega) hkr zv
   obtain⟨hp1,hp2⟩:=aR8 _ (BR hkr);have hrl:=hlen _ (BR hkr);have hck:=hcl k _ (Je hkr);have zq:=MI ((bg (rs.take k) v).getD (rs.getD k default).p 0) ((rs.getD k default).v.getD (rs.getD k default).p 0);have zq1:=zw (rs.getD k default).p;have zq2:=zr (rs.getD k default).p;have zqq:sz (jZ (bg (rs.take k) v) (rs.getD k default))<=34359738366:=Nat.le_trans zq (by omega)
   refine AW.rg hE rfl (ai rfl (iM sl.fK rfl rfl (by omega) (J6 ce.bQ default (by decide) rfl rfl hkr rfl (aF rfl (aF rfl (OL.nil (AW.seq ?_)))))))
   refine AW.dg 1 [0,1,2,3,4,5,6,7,8,9,10,11,12,13,14,15,16,17,18,19,20,21,22,23,24,25,26] ay hE rfl (by kernel_rfl) (OI.aK (os:=[_,_,_,_,_,_,_,_,_,_,_,_,_,_,_,_,_,_,_,_,_,_,_,_,_,_,_]) rfl ?_)
   refine jq rfl (Aa rfl (Gf rfl (aW fd.KG rfl rfl (aG ce.ints rfl rfl rfl (ai rfl (iM sl.ints rfl rfl (by omega) (J6 ce.int default (by decide) rfl rfl hkr rfl ?_)))))))
   refine iM sl.bQ rfl rfl (by omega) (FT ag.Rat 0 (by decide) rfl rfl (by omega) (vs:=[_,_,_]) rfl (aB rfl) (ai rfl (Aa rfl (Gf rfl (aW fd.KG rfl rfl (aG ce.ints rfl rfl rfl (ai rfl ?_)))))))
   refine iM sl.ints rfl rfl (by omega) (J6 ce.int default (by decide) rfl rfl hkr rfl (fO sl.bQ 0 rfl rfl (by omega) rfl rfl (jH ag.Rat rfl (vs:=[_,_,_]) rfl (aB rfl) (bJ rfl vL (F5 (x:=(bg (rs.take k) v).getD (rs.getD k default).p 0) (y:=(rs.getD k default).v.getD (rs.getD k default).p 0) (by omega) (by omega) hp2) ?_))))
   rw[<- al8];refine zW rfl (ex rfl rfl (ex rfl rfl (al z.Rat rfl λb10=>(eH sz.Rat rfl rfl rfl rfl rfl (aB rfl) (cells2:=[_,_,_]) rfl (aF rfl (OL.nil (AW.seq ?_)))))));refine AW.sg hE rfl (aO ag.Rat rfl rfl (vs:=[_,_,_]) rfl (aB rfl) (bJ rfl vL (gY (x:=jZ (bg (rs.take k) v) (rs.getD k default)) (by omega)) (dR rfl rfl rfl (OL.nil (AW.cond rfl (λh0=>?_) (λh0=>?_))))))
   .have h0:jZ (bg (rs.take k) v) (rs.getD k default)=0:=lS.1 (lq h0);refine AW.exit ?_
    first|(obtain rfl:i=k+1:=(by omega))|skip
    refine AW.rg hE rfl (aI rfl rfl (by omega) (ai rfl (OL.nil ?_)))
    exact AW.again (x:=k) (k+1) (by omega) ⟨by omega,Knows.app .DR .bZ,dw.app (.cons rfl (.cons rfl (.cons rfl (.cons rfl .nil)))) (.cons (by rw[Fv (by omega),Hz h0];rfl) (.cons (by rw[Fz (by omega),h0,P5];rfl) .nil))⟩
   .have _h0:=h0;refine AW.skip (AW.seq (AW.sg hE rfl (ai rfl (fJ sl.bQ rfl rfl (ai rfl (OL.nil (AW.block ?_)))))));refine AW.aV (α:=Nat) [(0,_),(4,_),(5,_),(8,_),(10,_),(42,_),(43,_),(44,_),(76,_),(77,_)] [(10,_),(38,_),(1000,_),(1001,_),(1002,_),(1003,_)] (λi=>[(78,.d (dI i))]) (λi=>[(18,.row b18 v.length T.Rat 3 ((uY (bg (rs.take k) v) (λj=>(bg (rs.take k) v).getD j 0-jZ (bg (rs.take k) v) (rs.getD k default)*(rs.getD k default).v.getD j 0) i).map dQ))]) (λi=>i<=v.length) (λi=>v.length-i) 0 (.cons (gB rfl) (.cons (yj rfl) (.cons (yj rfl) (.cons (bK rfl) (.cons (gB rfl) (.cons (yj rfl) (.cons (bK rfl) (.cons (bK rfl) (.cons (bK rfl) (.cons (bK rfl) .nil)))))))))) (.cons (iR rfl) (.cons (lg rfl) (.cons (iR rfl) (.cons (lg rfl) (.cons (lg rfl) (.cons (lg rfl) .nil)))))) ⟨Nat.zero_le _,.bZ,.cons (by rw[Fq];rfl) .nil⟩ ?_
    intro i h3;have h3:i<=v.length:=h3;have hml:(uY (bg (rs.take k) v) (λj=>(bg (rs.take k) v).getD j 0-jZ (bg (rs.take k) v) (rs.getD k default)*(rs.getD k default).v.getD j 0) i).length=v.length:=BQ.trans hwl;refine AW.sg hE rfl (aY rfl rfl rfl (OL.nil (AW.seq (AW.cond rfl (λh79=>?_) (λh79=>?_)))))
    .try simp only[dX] at h79
     refine AW.skip (AW.seq (AW.block (AW.seq ?_)));have zxr:=zr i;have zxw:=zw i;have zm:=mD (jZ (bg (rs.take k) v) (rs.getD k default)) ((rs.getD k default).v.getD i 0);refine AW.rg hE rfl (ai rfl (fO sl.bQ 0 rfl rfl (by omega) rfl rfl (jH ag.Rat rfl (vs:=[_,_,_]) rfl (aB rfl) (al z.Rat rfl λb13=>(aF rfl (eH sz.Rat rfl rfl rfl rfl rfl (aB rfl) (cells2:=[_,_,_]) rfl (OL.nil ?_)))))))
     refine AW.dg 1 [0,1,2,3,4,5,6,7,8,9,10,11] ay hE rfl (by kernel_rfl) (OI.aK (os:=[_,_,_,_,_,_,_,_,_,_,_,_]) rfl ?_)
     refine jq rfl (ai rfl (jq rfl (ai rfl (iM sl.bQ rfl rfl (by omega) (FT ag.Rat 0 (by decide) rfl rfl (by omega) (vs:=[_,_,_]) rfl (aB rfl) ?_)))))
     rw[ED (by omega)]
     refine aO ag.Rat rfl rfl (vs:=[_,_,_]) rfl (aB rfl) (aO ag.Rat rfl rfl (vs:=[_,_,_]) rfl (aB rfl) (bJ rfl vL (kY (x:=jZ (bg (rs.take k) v) (rs.getD k default)) (y:=(rs.getD k default).v.getD i 0) (by omega) (by omega)) (bJ rfl vL (FZ (x:=(bg (rs.take k) v).getD i 0) (y:=jZ (bg (rs.take k) v) (rs.getD k default)*(rs.getD k default).v.getD i 0) (by omega) (by omega)) (iM sl.bQ rfl rfl (by omega) ?_))))
     refine GI sz.Rat rfl (d:=dQ ((λj=>(bg (rs.take k) v).getD j 0-jZ (bg (rs.take k) v) (rs.getD k default)*(rs.getD k default).v.getD j 0) i)) xP rfl rfl (by rw[dJ];omega) (es2:=(uY (bg (rs.take k) v) (λj=>(bg (rs.take k) v).getD j 0-jZ (bg (rs.take k) v) (rs.getD k default)*(rs.getD k default).v.getD j 0) (i+1)).map dQ) (by rw[<- EF (show i<(bg (rs.take k) v).length by omega),List.map_set]) ?_
     refine OL.nil (AW.rg hE rfl (aI rfl rfl (by omega) (ai rfl (OL.nil ?_))))
     exact AW.again (x:=i) (i+1) (by omega) ⟨by omega,Knows.app .VJ .bZ,dw.app (.cons rfl (.cons rfl (.cons rfl (.cons rfl (.cons rfl (.cons rfl .nil)))))) (.cons rfl .nil)⟩
    .try simp only[dX] at h79
     refine AW.exit (AW.seq ?_);obtain rfl:i=v.length:=by omega
     refine AW.rg hE rfl (Aa rfl (Gf rfl (aW fd.QZ rfl rfl (aG ce.fK rfl rfl rfl (ai rfl (iM sl.fK rfl rfl (by omega) (J6 ce.bQ default (by decide) rfl rfl hkr rfl ?_)))))))
     refine fJ sl.bQ rfl rfl ?_;rw[hck];refine ai rfl (OL.nil (AW.block ?_));refine AW.aV (α:=Nat) [(0,_),(4,_),(5,_),(10,_),(42,_),(43,_),(44,_),(101,_),(102,_)] [(10,_),(18,_),(1000,_),(1001,_),(1002,_),(1003,_)] (λi=>[(103,.d (dI i))]) (λi=>[(38,.row b38 rs.length T.Rat 3 ((uY (ou (rs.take k) v (List.replicate rs.length 0)) (λj=>(ou (rs.take k) v (List.replicate rs.length 0)).getD j 0+jZ (bg (rs.take k) v) (rs.getD k default)*(rs.getD k default).c.getD j 0) i).map dQ))]) (λi=>i<=k+1) (λi=>k+1-i) 0 (.cons (gB rfl) (.cons (yj rfl) (.cons (yj rfl) (.cons (gB rfl) (.cons (yj rfl) (.cons (bK rfl) (.cons (bK rfl) (.cons (bK rfl) (.cons (bK rfl) .nil))))))))) (.cons (iR rfl) (.cons (lg rfl) (.cons (iR rfl) (.cons (lg rfl) (.cons (lg rfl) (.cons (lg rfl) .nil)))))) ⟨Nat.zero_le _,.bZ,.cons (by rw[Fq];rfl) .nil⟩ ?_
     intro i h4;have h4:i<=k+1:=h4;have hml:(uY (ou (rs.take k) v (List.replicate rs.length 0)) (λj=>(ou (rs.take k) v (List.replicate rs.length 0)).getD j 0+jZ (bg (rs.take k) v) (rs.getD k default)*(rs.getD k default).c.getD j 0) i).length=rs.length:=BQ.trans htl;refine AW.sg hE rfl (aY rfl rfl rfl (OL.nil (AW.seq (AW.cond rfl (λWN=>?_) (λWN=>?_)))))
     .try simp only[dX] at WN
      refine AW.skip (AW.seq (AW.block (AW.seq ?_)));have zxc:=zc i;have zxt:=zt i;have zm:=mD (jZ (bg (rs.take k) v) (rs.getD k default)) ((rs.getD k default).c.getD i 0);refine AW.rg hE rfl (ai rfl (fO sl.bQ 0 rfl rfl (by omega) rfl rfl (jH ag.Rat rfl (vs:=[_,_,_]) rfl (aB rfl) (al z.Rat rfl λb15=>(aF rfl (eH sz.Rat rfl rfl rfl rfl rfl (aB rfl) (cells2:=[_,_,_]) rfl (OL.nil ?_)))))))
      refine AW.dg 1 [0,1,2,3,4,5,6,7,8,9,10,11] ay hE rfl (by kernel_rfl) (OI.aK (os:=[_,_,_,_,_,_,_,_,_,_,_,_]) rfl ?_)
      refine jq rfl (ai rfl (jq rfl (ai rfl (iM sl.bQ rfl rfl (by omega) (FT ag.Rat 0 (by decide) rfl rfl (by omega) (vs:=[_,_,_]) rfl (aB rfl) ?_)))))
      rw[ED (by omega)]
      refine aO ag.Rat rfl rfl (vs:=[_,_,_]) rfl (aB rfl) (aO ag.Rat rfl rfl (vs:=[_,_,_]) rfl (aB rfl) (bJ rfl vL (kY (x:=jZ (bg (rs.take k) v) (rs.getD k default)) (y:=(rs.getD k default).c.getD i 0) (by omega) (by omega)) (bJ rfl vL (uf (x:=(ou (rs.take k) v (List.replicate rs.length 0)).getD i 0) (y:=jZ (bg (rs.take k) v) (rs.getD k default)*(rs.getD k default).c.getD i 0) (by omega) (by omega)) (iM sl.bQ rfl rfl (by omega) ?_))))
      refine GI sz.Rat rfl (d:=dQ ((λj=>(ou (rs.take k) v (List.replicate rs.length 0)).getD j 0+jZ (bg (rs.take k) v) (rs.getD k default)*(rs.getD k default).c.getD j 0) i)) xP rfl rfl (by rw[dJ];omega) (es2:=(uY (ou (rs.take k) v (List.replicate rs.length 0)) (λj=>(ou (rs.take k) v (List.replicate rs.length 0)).getD j 0+jZ (bg (rs.take k) v) (rs.getD k default)*(rs.getD k default).c.getD j 0) (i+1)).map dQ) (by rw[<- EF (show i<(ou (rs.take k) v (List.replicate rs.length 0)).length by omega),List.map_set]) ?_
      refine OL.nil (AW.rg hE rfl (aI rfl rfl (by omega) (ai rfl (OL.nil ?_))))
      exact AW.again (x:=i) (i+1) (by omega) ⟨by omega,Knows.app .rq9 .bZ,dw.app (.cons rfl (.cons rfl (.cons rfl (.cons rfl (.cons rfl (.cons rfl .nil)))))) (.cons rfl .nil)⟩
     .try simp only[dX] at WN
      refine AW.exit ?_
      first|(obtain rfl:i=k+1:=(by omega))|skip
      refine AW.rg hE rfl (aI rfl rfl (by omega) (ai rfl (OL.nil ?_)))
      exact AW.again (x:=k) (k+1) (by omega) ⟨by omega,Knows.app .DR .bZ,dw.app (.cons rfl (.cons rfl (.cons rfl (.cons rfl .nil)))) (.cons (by rw[Fv (by omega),<- bc6,hwl];rfl) (.cons (by rw[Fz (by omega),<- bc7 hck];rfl) .nil))⟩
  .try simp only[dX] at h45
   refine AW.exit (AW.seq ?_);obtain rfl:k=rs.length:=by omega
   have htk:ou (rs.take rs.length) v (List.replicate rs.length 0)=bY rs v:=by rw[List.take_length];rfl
   rw[htk,List.take_length];rw[htk] at htl;rw[List.take_length] at hwl;refine AW.freeze 18 rfl (AW.to [(4,.d (iQ (bg rs v))),(5,.bF 38 b38 rs.length rs.length)] ((38,.row b38 rs.length T.Rat 3 ((bY rs v).map dQ))::spL b B rs) (.cons (dL (by rw[dJ];exact hwl.symm) rfl) .bZ) (.cons rfl (.cons rfl (.cons rfl (.cons rfl (.cons rfl .nil))))) ?_)
   refine AW.freeze 38 rfl (AW.to [(4,.d (iQ (bg rs v))),(5,.d (iQ (bY rs v)))] (spL b B rs) (.cons vR (.cons (dL (by rw[dJ];exact htl.symm) rfl) .nil)) (.cons rfl (.cons rfl (.cons rfl (.cons rfl .nil)))) ?_)
   exact AW.rg hE rfl (ai rfl (ai rfl (aF rfl (aF rfl (OL.nil (AW.ret ⟨⟨_,.tmp rfl (.tmp rfl .nil),_,.cons (.le vR) (.cons (.le vR) .nil),rfl⟩,λid blk hk=>mr (l:=spL b B rs) (.cons rfl (.cons rfl (.cons rfl (.cons rfl trivial)))) id blk hk⟩))))))
theorem bo2 {v:List Rat}{n b:Nat}{B:EH}{rs:List bW}(sp:uK n 16777215 rs)(hv:v.length=n)(n6:n<=6)(zv:∀ i,sz (v.getD i 0)<=16777215):jw P F.vK [.ptr 1000 b 0,.d (iQ v)] (spM b B rs) (λ_:EH=>.d (dB (bM rs v))) (λx=>spM b x (wB rs v)) (λ_=>True):=by
 have hle:=sp.le;obtain⟨zl,zt⟩:=sp.sz.last (w:=v) (by omega) zv
 have hvl:(bg rs v).length=v.length:=pz _ _;have htl:=uI rs v;have hbl:=KI rs v;refine jw.intro fn.vK (by rfl) (by rfl) (aB (by rfl)) λE hE=>(AW.sg hE rfl (aF rfl (OL.nil (AW.sg hE rfl (Aa rfl (ai rfl (az5 (pR:=[.ptr 1000 b 0,.d (iQ v)]) rfl vL (aD8 (b:=b) (B:=B) sp hv n6 zv) (λid blk hk=>mr (l:=spL b B rs) (.cons rfl (.cons rfl (.cons rfl (.cons rfl trivial)))) id blk hk) ?_)))))))
 refine zW rfl (ex rfl rfl (ex rfl rfl (aF rfl (aF rfl (OL.nil (AW.sg hE rfl (ai rfl ?_)))))));refine bJ rfl vL (aR6 (w:=bg rs v) (by omega) (λi=>Nat.le_succ_of_le (zl i))) (aF rfl (OL.nil (AW.seq (AW.sg hE rfl (ai rfl (aY rfl rfl rfl (OL.nil ?_)))))))
 refine AW.cond rfl (λhg=>?_) (λhg=>?_)
 .have hg:bM rs v=false:=NJ.1 (lq hg);have hadd:wB rs v=rs:=if_neg (by rw[hg];exact Bool.false_ne_true)
  exact AW.sg hE rfl (aF rfl (OL.nil (AW.ret ⟨B,trivial,⟨_,.tmp rfl .nil,.le (by rw[hg];exact bG.refl _)⟩,by rw[hadd];exact λid blk hk=>mr (l:=spL b B rs) (.cons rfl (.cons rfl (.cons rfl (.cons rfl trivial)))) id blk hk⟩)))
 .have hg:bM rs v=true:=by have h1:=nS hg;cases hc:bM rs v with
   | true=>rfl
   | false=>exact absurd (NJ.2 hc) h1
  have hadd:wB rs v=rs++[newR rs v]:=if_pos hg;have hfi:=WM hg;refine AW.skip (AW.sg hE rfl (bJ rfl .iq (zJ (n:=1) (d:=1) (by decide) (by decide) (by decide)) ?_))
  rw[q11];refine zW rfl (ex rfl rfl (ex rfl rfl (al z.Rat rfl λb8=>(eH sz.Rat rfl rfl rfl rfl rfl (aB rfl) (cells2:=[_,_,_]) rfl (aF rfl (OL.nil (AW.sg hE rfl ?_)))))));refine ai rfl (fJ sl.bQ rfl rfl ?_);rw[htl];refine bo rfl rfl (jB (c:=((rs.length+1:Nat):Int)) (by omega) (wrap_i64 (by omega))) (QM dQ 0 sl.bQ z.Rat Be rfl rfl (Nat.le_refl _) (by omega) (by omega) rfl λb30=>(tJ rfl (OL.nil (AW.seq (AW.sg hE rfl (ai rfl (fJ sl.bQ rfl rfl ?_)))))))
  rw[htl];refine ai rfl (OL.nil (AW.block ?_));refine AW.aV (α:=Nat) [(0,_),(4,_),(5,_),(6,_),(7,_),(8,_),(10,_),(31,_),(32,_)] [(8,_),(1000,_),(1001,_),(1002,_),(1003,_)] (λi=>[(33,.d (dI i))]) (λi=>[(30,.row b30 (rs.length+1) T.Rat 3 ((kZ 0 (λj=>(JQ rs v).getD j 0) (rs.length+1) i).map dQ))]) (λi=>i<=rs.length) (λi=>rs.length-i) 0 (.cons (gB rfl) (.cons (bK rfl) (.cons (bK rfl) (.cons (bK rfl) (.cons (bK rfl) (.cons (gB rfl) (.cons (yj rfl) (.cons (bK rfl) (.cons (bK rfl) .nil))))))))) (.cons (iR rfl) (.cons (iR rfl) (.cons (lg rfl) (.cons (lg rfl) (.cons (lg rfl) .nil))))) ⟨Nat.zero_le _,.bZ,.cons (by rw[rF];rfl) .nil⟩ ?_
  intro i h1;have h1:i<=rs.length:=h1;have hfl:=sF 0 (λj=>(JQ rs v).getD j 0) (rs.length+1) i;refine AW.sg hE rfl (aY rfl rfl rfl (OL.nil (AW.seq (AW.cond rfl (λh34=>?_) (λh34=>?_)))))
  .try simp only[dX] at h34
   refine AW.skip (AW.seq (AW.block (AW.seq ?_)));have hi:i<rs.length:=by omega
   have zx:=zt i;refine AW.rg hE rfl (ai rfl (fO sl.bQ 0 rfl rfl (by omega) rfl rfl (jH ag.Rat rfl (vs:=[_,_,_]) rfl (aB rfl) (al z.Rat rfl λb12=>(aF rfl (eH sz.Rat rfl rfl rfl rfl rfl (aB rfl) (cells2:=[_,_,_]) rfl (OL.nil ?_)))))))
   refine AW.rg hE rfl (jq rfl (ai rfl (aO ag.Rat rfl rfl (vs:=[_,_,_]) rfl (aB rfl) (bJ rfl vL (xH (q:=(bY rs v).getD i 0) (by omega)) ?_))))
   rw[<- Rz hi];refine iM sl.bQ rfl rfl (by omega) (GI sz.Rat rfl (d:=dQ ((λj=>(JQ rs v).getD j 0) i)) xP rfl rfl (by rw[dJ];omega) (es2:=(kZ 0 (λj=>(JQ rs v).getD j 0) (rs.length+1) (i+1)).map dQ) (by rw[<- pq (show i<rs.length+1 by omega),List.map_set]) (OL.nil (AW.rg hE rfl (aI rfl rfl (by omega) (ai rfl (OL.nil ?_))))))
   exact AW.again (x:=i) (i+1) (by omega) ⟨by omega,Knows.app .rq9 .bZ,dw.app (.cons rfl (.cons rfl (.cons rfl (.cons rfl (.cons rfl .nil))))) (.cons rfl .nil)⟩
  .try simp only[dX] at h34
   refine AW.exit (AW.seq ?_);obtain rfl:i=rs.length:=by omega
   refine AW.rg hE rfl (jq rfl (ai rfl (fJ sl.bQ rfl rfl ?_)));rw[htl];refine aO ag.Rat rfl rfl (vs:=[_,_,_]) rfl (aB rfl) (iM sl.bQ rfl rfl (by omega) ?_)
   refine GI sz.Rat rfl (d:=dQ ((λj=>(JQ rs v).getD j 0) rs.length)) (by show VD (vQ 1) (dQ ((JQ rs v).getD rs.length 0));rw[NI];exact xP) rfl rfl (by rw[dJ];omega) (es2:=(JQ rs v).map dQ) (by rw[<- List.map_set,pq (show rs.length<rs.length+1 by omega),En hbl]) ?_
   refine OL.nil (AW.seq ?_);refine AW.freeze 30 rfl (AW.to [(0,.ptr 1000 b 0),(5,.d (iQ (bg rs v))),(7,.d (dI (iP (bg rs v)))),(10,.d (iQ (JQ rs v)))] (spL b B rs) (.cons bG.ptr (.cons vR (.cons (bG.int hfi) (.cons (dL (by rw[dJ];exact hbl.symm) rfl) (.nil))))) (.cons rfl (.cons rfl (.cons rfl (.cons rfl .nil)))) ?_)
   refine AW.dg 2 [0,1,2,3,4,5,6,7,8,10,11,12,13,14,15,17,18,19,20,21,22,9,16,23,24,25,26,27,28,29,30,31,32] ay hE rfl (by kernel_rfl) (OI.aK (os:=[_,_,_,_,_,_,_,_,_,_,_,_,_,_,_,_,_,_,_,_,_,_,_,_,_,_,_,_,_,_,_,_,_]) rfl ?_)
   refine Aa rfl (Aa rfl (Aa rfl (Aa rfl (Gf rfl (aW fd.KF rfl rfl (aG ce.fK rfl rfl rfl (ai rfl ?_)))))));refine zX (y:=iQ (bg rs v)) sl.fK (VC.d _).vd rfl (by decide) (Aa rfl (Gf rfl (aW fd.QZ rfl rfl (aG ce.fK rfl rfl rfl (ai rfl (zX (y:=iQ (JQ rs v)) sl.fK (VC.d _).vd rfl (by decide) (Aa rfl ?_)))))))
   refine Gf rfl (aW fd.KG rfl rfl (aG ce.ints rfl rfl rfl (ai rfl (zX (y:=dI (iP (bg rs v))) sl.ints (VC.d _).vd rfl (by decide) ?_))))
   refine Ce sl.fK rfl rfl rfl (by rw[dJ]) (VC.d _) (λy hy=>by rw[lW hy];rfl) (by simp;omega) (by simp;omega) (.inl rfl) (ys:=(rs++[(newR rs v)]).map λr=>iQ r.v) (by rw[List.map_append];rfl) (n2:=rs.length+1) rfl λb58 c58=>?_
   refine Ce sl.fK rfl rfl rfl (by rw[dJ]) (VC.d _) (λy hy=>by rw[lW hy];rfl) (by simp;omega) (by simp;omega) (.inl rfl) (ys:=(rs++[(newR rs v)]).map λr=>iQ r.c) (by rw[List.map_append];rfl) (n2:=rs.length+1) rfl λb65 c65=>?_
   refine Ce sl.ints rfl rfl rfl (by rw[dJ]) (VC.d _) (λy hy=>by rw[lW hy];rfl) (by simp;omega) (by simp;omega) (.inl rfl) (ys:=(rs++[(newR rs v)]).map λr=>dI r.p) (by rw[List.map_append];rfl) (n2:=rs.length+1) rfl λb72 c72=>?_
   refine Gf rfl (aW fd.KF rfl rfl (eH sz.fK rfl rfl rfl rfl rfl (aB rfl) rfl (Gf rfl (aW fd.QZ rfl rfl (eH sz.fK rfl rfl rfl rfl rfl (aB rfl) rfl (Gf rfl (aW fd.KG rfl rfl ?_)))))));refine eH sz.ints rfl rfl rfl rfl rfl (aB rfl) rfl (OL.nil (AW.seq ?_));have hln:(rs++[newR rs v]).length=rs.length+1:=by rw[jG];rfl
   refine AW.to [] [(1000,.box b T.Space [.bF 58 b58 (rs.length+1) c58,.bF 65 b65 (rs.length+1) c65,.bF 72 b72 (rs.length+1) c72]),(58,.row b58 c58 T.bQ 1 ((rs++[newR rs v]).map λr=>iQ r.v)),(65,.row b65 c65 T.bQ 1 ((rs++[newR rs v]).map λr=>iQ r.c)),(72,.row b72 c72 T.int 1 ((rs++[newR rs v]).map λr=>dI r.p))] .nil (.cons rfl (.cons rfl (.cons rfl (.cons rfl .nil)))) ?_;refine AW.rename 58 1001 rfl (AW.rename 65 1002 rfl (AW.rename 72 1003 rfl (AW.xO 1000 [.bF 1001 b58 (rs.length+1) c58,.bF 1002 b65 (rs.length+1) c65,.bF 1003 b72 (rs.length+1) c72] rfl (.cons bG.bF (.cons bG.bF (.cons bG.bF .nil))) ?_)));refine AW.rg hE rfl (aF rfl (OL.nil ?_));exact AW.ret ⟨⟨b58,c58,b65,c65,b72,c72⟩,trivial,⟨_,.tmp rfl .nil,.le (by rw[hg];exact bG.refl _)⟩,by rw[hadd];exact λid blk hk=>mr (l:=spL b ⟨b58,c58,b65,c65,b72,c72⟩ (rs++[newR rs v])) (.cons (by show _=some (iE.box b T.Space [.bF 1001 b58 (rs++[newR rs v]).length c58,.bF 1002 b65 (rs++[newR rs v]).length c65,.bF 1003 b72 (rs++[newR rs v]).length c72]);rw[hln];rfl) (.cons rfl (.cons rfl (.cons rfl trivial)))) id blk hk⟩

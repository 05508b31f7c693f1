/-
  Walks of layers 22 and 23 of the specification, part 2: reductions, vectors of words (printed by mk2.py).
-/
import Derived.Test.YtanlenlmihoiiaaGreatDoorKWkAA
set_option maxRecDepth 8000
set_option maxHeartbeats 3200000
set_option linter.unusedVariables false
set_option linter.unusedSimpArgs false
namespace Go.Proofs.YtanlenlmihoiiaaGreatDoor
open Go Go.AL
def stripR (r:bZ):bZ:=⟨r.v,[],r.p⟩
theorem BF:∀ (rs:List bZ) (w:List Rat),aO (rs.map stripR) w=aO rs w
 | [],_=>rfl
 | r::rs,w=>by
  rw[List.map_cons,aO,aO,BF rs];rfl
theorem uO.dM {n:Nat}{rs:List bZ}(sp:uO n 16777215 rs)(hp:∀ r,r ∈ rs->r.p=dX r.v)(n6:n<=6):TJ n 0 (rs.map stripR):=by
 refine⟨λr hr=>?_,λr hr=>?_,λr hr=>?_,λk r hk=>?_,by rw[dA];have:=sp.le;omega⟩
 .obtain⟨x,hx,rfl⟩:=kK hr;exact sp.len x hx
 .obtain⟨x,hx,rfl⟩:=kK hr;exact⟨hp x hx,sp.ech.piv x hx⟩
 .obtain⟨x,hx,rfl⟩:=kK hr;rfl
 .rw[List.getElem?_map] at hk;cases hq:rs[k]? with
  | none=>rw[hq] at hk;cases hk
  | some x =>
   rw[hq] at hk;cases hk
   have h:=sp.sz k x hq;refine⟨h.1,λi=>?_⟩;show sz (([]:List Rat).getD i 0)+1<=_
   rw[show ([]:List Rat).getD i 0=0 from rfl,fH]
   exact Nat.le_trans (show 1+1<=16777215+1 by decide) (Nat.le_mul_of_pos_left _ (Pv k))
theorem Xz {rs:List bZ}{i:Nat}(hi:i<rs.length):((rs.map iM).map dJ)[i]? = some (dJ (iM (rs.getD i default))):=by
 rw[List.map_map,List.getElem?_map,jh,lQ hi];rfl
theorem aG6 {cur u:List Rat}{f:Rat}:xe cur (λj=>cur.getD j 0-f*u.getD j 0) cur.length=aD7 f u cur:=JL λj h1 h2=>by omega
theorem aV3 {rs:List bZ}{v:List Rat}:xe (aO rs v) (λj=>(aO rs v).getD j 0 / (aO rs v).getD (dX (aO rs v)) 0) (aO rs v).length=iM (newR rs v):=by
 rw[JL λj h1 h2=>by omega]
 refine List.ext_getElem (by rw[dA,List.length_range,Ak];rfl) λj h1 h2=>?_
 rw[dA,List.length_range] at h1;simp only[List.getElem_map,List.getElem_range];have e:(iM (newR rs v))[j]=(iM (newR rs v)).getD j 0:=by rw[jh,lQ h2];rfl
 rw[e,D7];rfl
theorem an6 {rs:List bZ}{v:List Rat}(h:bM rs v=false):Fq rs v=aO rs v:=if_neg (by rw[h];exact Bool.false_ne_true)
theorem IJ {a:Au}{w:List Int}(f:Au.Fw a)(hw:iV a.sym w)(hl:w.length<=6):ai P F.yh [yV a,.d (ints w)] (.d (dJ (vY a w))):=by
 have hnum:=f.num;have hst:=f.few.st;have bN5:=f.ok.ini;refine ai.intro fn.yh (by rfl) (by rfl) (ay (by rfl)) λE hE=>(AW.sg hE rfl (iO rfl rfl λb2=>(jK rfl (OL.nil (AW.sg hE rfl (bC fd.qW rfl rfl (aG ce.aW rfl rfl rfl ?_)))))))
 refine bH rfl vL (Zl (l:=a.ini) (by omega)) (aF rfl (OL.nil (AW.seq (AW.sg hE rfl (aF rfl (OL.nil (AW.block ?_)))))))
 refine AW.aY (α:=Nat) [(1,_),(2,_),(4,_)] [(2,_)] (λi=>[(5,.d (dJ (vY a (w.take i)))),(6,.d (dI i))]) (λi=>[]) (λi=>i<=w.length) (λi=>w.length-i) 0 (.cons (di rfl) (.cons (iw rfl) (.cons (xK rfl) .nil))) (.cons (je rfl) .nil) ⟨Nat.zero_le _,.iW,.nil⟩ ?_
 rintro i h1
 have h1:i<=w.length:=h1;have hfl:(vY a (w.take i)).length=a.st:=NQ f.ok _;refine AW.seq (AW.sg hE rfl (aj rfl (aj rfl (fF sl.ints rfl rfl (bG rfl rfl rfl (OL.nil (AW.cond rfl (λh16=>?_) (λh16=>?_))))))))
 .try simp only[fD] at h16
  refine AW.skip (AW.seq (AW.block (AW.seq ?_)));have hxw:=hw (w.getD i 0) (getD_mem (by omega) 0)
  refine AW.rg hE rfl (bC fd.oz rfl rfl (aG ce.int rfl rfl rfl (X4 dQ 0 sl.bg z.Rat Dj rfl rfl (Nat.le_refl _) (by omega) (by omega) rfl λb21=>(pV rfl (OL.nil (AW.seq (AW.sg hE rfl ?_)))))))
  refine aF rfl (OL.nil (AW.block ?_));refine AW.aY (α:=Nat) [(1,_),(2,_),(4,_),(5,_),(6,_),(7,_)] [(2,_)] (λk=>[(8,.d (dI k))]) (λk=>[(21,.row b21 a.st T.Rat 3 ((kJ a.st (vY a (w.take i)) (w.getD i 0).toNat (a.aN.take k)).map dQ))]) (λk=>k<=a.aN.length) (λk=>a.aN.length-k) 0 (.cons (di rfl) (.cons (iw rfl) (.cons (xK rfl) (.cons (di rfl) (.cons (di rfl) (.cons (zA rfl) .nil)))))) (.cons (je rfl) .nil) ⟨Nat.zero_le _,.dD,.cons rfl .nil⟩ ?_
  rintro k h2
  have h2:k<=a.aN.length:=h2;have hsl:(kJ a.st (vY a (w.take i)) (w.getD i 0).toNat (a.aN.take k)).length=a.st:=xW;refine AW.seq (AW.sg hE rfl (aj rfl (bC fd.gK rfl rfl (aG ce.dm rfl rfl rfl (fF sl.dm rfl rfl (bG rfl rfl rfl (OL.nil ?_)))))));refine AW.cond rfl (λh26=>?_) (λh26=>?_)
  .try simp only[fD] at h26
   refine AW.skip (AW.seq (AW.block (AW.seq ?_)));have hm:=getD_mem (l:=a.aN) (i:=k) (by omega) default
   obtain⟨hx1,hx2,hx3,hx4⟩:=f.ok.arc (a.aN.getD k default) hm;have hxz:=f.arc (a.aN.getD k default) hm;have hz1:=U0 f hw hl i (a.aN.getD k default).f;have hz2:=aT0 (s:=(w.getD i 0).toNat) f hw hl i k (a.aN.getD k default).t;have hz3:=lu ((vY a (w.take i)).getD (a.aN.getD k default).f 0) (a.aN.getD k default).q;refine AW.rg hE rfl (bC fd.gK rfl rfl (aG ce.dm rfl rfl rfl (aj rfl (dR sl.dm default rfl rfl (by omega) rfl rfl (iD ag.mX rfl (vs:=[_,_,_,_,_,_,_,_,_,_,_]) rfl (ay rfl) (al z.mX rfl λb9=>(fA sz.mX rfl rfl rfl rfl rfl (ay rfl) (cells2:=[_,_,_,_,_,_,_,_,_,_,_]) rfl ?_)))))))
   refine OL.nil (AW.seq (AW.dg 1 [0,1,2,3,4,5,6] ak hE rfl (by kernel_rfl) (OI.aK (os:=[_,_,_,_,_,_,_]) rfl ?_)))
   refine bC fd.DK rfl rfl (aG ce.int rfl rfl rfl (aj rfl (aj rfl (dR sl.ints 0 rfl rfl (by omega) rfl rfl (iE ce.int rfl (fG rfl rfl rfl (OL.nil ?_)))))))
   refine AW.cond rfl (λhc=>?_) (λhc=>?_)
   .have hc:(a.aN.getD k default).l=(w.getD i 0).toNat:=by have:=lK hc;omega
    refine AW.dg 1 [0,1,2,3,4,5,6,7,8,9,10,11,12,13,14,15,16,17,18,19] ak hE rfl (by kernel_rfl) (OI.aK (os:=[_,_,_,_,_,_,_,_,_,_,_,_,_,_,_,_,_,_,_,_]) rfl ?_)
    refine iU rfl (bC fd.Fh rfl rfl (aG ce.int rfl rfl rfl (iU rfl (bC fd.Fh rfl rfl (aG ce.int rfl rfl rfl (jv sl.bg rfl rfl (by omega) (Je ag.Rat 0 (by decide) rfl rfl (by omega) (vs:=[_,_,_]) rfl (ay rfl) ?_)))))))
    refine aj rfl (bC fd.Ib rfl rfl (aG ce.int rfl rfl rfl (dR sl.bg 0 rfl rfl (by omega) rfl rfl (iD ag.Rat rfl (vs:=[_,_,_]) rfl (ay rfl) (bC fd.rC rfl rfl (bC fd.iC rfl rfl (aQ ag.Rat rfl rfl (vs:=[_,_,_]) rfl (ay rfl) ?_)))))))
    refine bH rfl vL (Ea (x:=(vY a (w.take i)).getD (a.aN.getD k default).f 0) (y:=(a.aN.getD k default).q) (by omega) (by omega)) ?_
    refine bH rfl vL (OV (x:=(kJ a.st (vY a (w.take i)) (w.getD i 0).toNat (a.aN.take k)).getD (a.aN.getD k default).t 0) (y:=(vY a (w.take i)).getD (a.aN.getD k default).f 0*(a.aN.getD k default).q) (by omega) (by omega)) ?_
    refine jv sl.bg rfl rfl (by omega) ?_
    refine LQ sz.Rat rfl (d:=dQ ((kJ a.st (vY a (w.take i)) (w.getD i 0).toNat (a.aN.take k)).getD (a.aN.getD k default).t 0+(vY a (w.take i)).getD (a.aN.getD k default).f 0*(a.aN.getD k default).q)) BJ rfl rfl (by rw[dA];omega) (es2:=((kJ a.st (vY a (w.take i)) (w.getD i 0).toNat (a.aN.take k)).set (a.aN.getD k default).t ((kJ a.st (vY a (w.take i)) (w.getD i 0).toNat (a.aN.take k)).getD (a.aN.getD k default).t 0+(vY a (w.take i)).getD (a.aN.getD k default).f 0*(a.aN.getD k default).q)).map dQ) (by rw[List.map_set]) ?_
    refine OL.nil (AW.rg hE rfl (aj rfl (aI rfl rfl (by omega) (aF rfl (OL.nil ?_)))))
    exact AW.again (x:=k) (k+1) (by omega) ⟨by omega,Knows.app .ZR .dD,dL.app (.cons rfl .nil) (.cons (by rw[Fa (by omega),aF9 hc];rfl) .nil)⟩
   .have hc:¬ (a.aN.getD k default).l=(w.getD i 0).toNat:=by have:=nZ hc;omega
    refine AW.skip (AW.rg hE rfl (aj rfl (aI rfl rfl (by omega) (aF rfl (OL.nil ?_)))))
    exact AW.again (x:=k) (k+1) (by omega) ⟨by omega,Knows.app .ZR .dD,dL.app (.cons rfl .nil) (.cons (by rw[Fa (by omega),aG0 hc];rfl) .nil)⟩
  .try simp only[fD] at h26
   refine AW.exit ?_;obtain rfl:k=a.aN.length:=by omega
   refine AW.freeze 21 rfl (AW.to [(1,.d (ints w)),(2,.ptr 2 b2 0),(4,.mt),(6,.d (dI i)),(7,.d (dJ (vY a (w.take (i+1)))))] [(2,.box b2 T.Auto [.d (dI 1),.d (.sl []),.d (dI a.sym),.d (dI a.st),.d (qG a.ini),.d (qG a.fin),.d (jW a.aN)])] (.cons vR (.cons vR (.cons vR (.cons vR (.cons (dP (by rw[dA,xW]) (by rw[Qc (by omega),List.take_length])) .nil))))) (.cons rfl .nil) ?_)
   refine AW.rg hE rfl (aj rfl (aF rfl (OL.nil (AW.rg hE rfl (aj rfl (aI rfl rfl (by omega) (aF rfl ?_)))))))
   exact OL.nil (AW.again (x:=i) (i+1) (by omega) ⟨by omega,Knows.app .yU .iW,dL.app (.cons rfl .nil) (.nil)⟩)
 .try simp only[fD] at h16
  refine AW.exit (AW.seq ?_);obtain rfl:i=w.length:=by omega
  exact AW.rg hE rfl (aj rfl (aF rfl (OL.nil (AW.ret (aP.r ⟨_,.tmp rfl .nil,.le (by rw[List.take_length];exact bW.refl _)⟩)))))
theorem Zm {v:List Rat}{n b c:Nat}{rs:List bZ}(sp:uO n 16777215 rs)(hld:∀ r,r ∈ rs->r.p=dX r.v)(hv:v.length=n)(n6:n<=6)(zv:∀ i,sz (v.getD i 0)<=16777215):gq P F.yD [.bI 1000 b (rs.map iM).length c,.d (dJ v)] (mem1 1000 (.row b c T.bg 1 ((rs.map iM).map dJ))) (.d (dJ (Fq rs v))) (mem1 1000 (.row b c T.bg 1 ((rs.map iM).map dJ))):=by
 have hle:=sp.le;have hul:(rs.map iM).length=rs.length:=dA ..;refine gq.intro fn.yD (by rfl) (by rfl) (ay (by rfl)) λE hE=>?_
 refine AW.sg hE rfl ?_;refine jK rfl ?_;refine OL.nil ?_;refine AW.sg hE rfl ?_;refine aj rfl ?_;refine apM sl.bg rfl rfl (VC.d _) bg3 (by simp;omega) (by simp;omega) rfl λb13 c13=>?_
 refine pV rfl (OL.nil (AW.seq (AW.seq ?_)));refine AW.to [(0,.bI 1000 b (rs.map iM).length c),(5,.bI 13 b13 v.length c13)] [(1000,.row b c T.bg 1 ((rs.map iM).map dJ)),(13,.row b13 c13 T.Rat 3 (v.map dQ))] (.cons vR (.cons (au (by show V.bI 13 b13 (v.map dQ).length c13=_;rw[dA])) .nil)) (.cons rfl (.cons rfl .nil)) ?_
 refine AW.rg hE rfl (aF rfl (OL.nil (AW.block ?_)));refine AW.aY (α:=Nat) [(0,_),(4,_),(5,_)] [(1000,_)] (λi=>[(6,.d (dI i))]) (λi=>[(13,.row b13 c13 T.Rat 3 ((aO (rs.take i) v).map dQ))]) (λi=>i<=rs.length) (λi=>rs.length-i) 0 (.cons (zA rfl) (.cons (knJ) (.cons (zA rfl) .nil))) (.cons (qZ rfl) .nil) ⟨Nat.zero_le _,.dD,.cons rfl .nil⟩ ?_
 rintro i h1
 have h1:i<=rs.length:=h1;have hcl:(aO (rs.take i) v).length=v.length:=jk _ _;refine AW.seq (AW.sg hE rfl (aj rfl (iU rfl (Vq sl.dw rfl rfl (bG rfl rfl rfl (OL.nil (AW.cond rfl (λh17=>?_) (λh17=>?_))))))))
 .try simp only[fD] at h17
  refine AW.skip (AW.seq (AW.block (AW.seq ?_)));have hi:i<rs.length:=by omega
  obtain⟨zw,_,zr,_⟩:=sp.sz.bounds (w:=v) (n:=0) (by omega) hi zv
  obtain⟨hp1,hp2⟩:=sp.ech.piv _ (pR hi);have hrl:=sp.len _ (pR hi);have hpl:CU (iM (rs.getD i default))=((rs.getD i default).p:Int):=Qi (hld _ (pR hi)) (by omega) hp2
  have bN6:=Ak (r:=(rs.getD i default));have zu:=Xo zr;refine AW.rg hE rfl (iU rfl (iU rfl (aj rfl (jv sl.dw rfl rfl (by omega) (Uj ce.bg (by decide) rfl rfl (Xz hi) (d:=dJ (iM (rs.getD i default))) rfl (bH rfl vL (U9 (v:=iM (rs.getD i default)) (by omega) (λj=>Nat.le_trans (zu j) (by decide))) ?_))))))
  rw[hpl];refine jv sl.bg rfl rfl (by omega) (Je ag.Rat 0 (by decide) rfl rfl (by omega) (vs:=[_,_,_]) rfl (ay rfl) (al z.Rat rfl λb7=>(fA sz.Rat rfl rfl rfl rfl rfl (ay rfl) (cells2:=[_,_,_]) rfl (OL.nil (AW.sg hE rfl (aF rfl (OL.nil ?_)))))))
  refine AW.block ?_;refine AW.aY (α:=Nat) [(0,_),(4,_),(5,_),(6,_),(7,_)] [(7,_),(1000,_)] (λj=>[(8,.d (dI j))]) (λj=>[(13,.row b13 c13 T.Rat 3 ((xe (aO (rs.take i) v) (λj=>(aO (rs.take i) v).getD j 0-((aO (rs.take i) v).getD (rs.getD i default).p 0)*(iM (rs.getD i default)).getD j 0) j).map dQ))]) (λj=>j<=v.length/\(((aO (rs.take i) v).getD (rs.getD i default).p 0)=0->j=0)) (λj=>v.length-j) 0 (.cons (zA rfl) (.cons (knJ) (.cons (zA rfl) (.cons (di rfl) (.cons (iw rfl) .nil))))) (.cons (je rfl) (.cons (qZ rfl) .nil)) ⟨⟨Nat.zero_le _,λ_=>rfl⟩,.dD,.cons (by rw[D6];rfl) .nil⟩ ?_
  rintro j ⟨h2,hj0⟩
  have h2:j<=v.length:=h2;have hj0:((aO (rs.take i) v).getD (rs.getD i default).p 0)=0->j=0:=hj0;have hml:(xe (aO (rs.take i) v) (λj=>(aO (rs.take i) v).getD j 0-((aO (rs.take i) v).getD (rs.getD i default).p 0)*(iM (rs.getD i default)).getD j 0) j).length=v.length:=D5.trans hcl;have z1:=zw (rs.getD i default).p;refine AW.seq (AW.sg hE rfl (aj rfl (iU rfl (Vq sl.bg rfl rfl (bG rfl rfl rfl (OL.split 31 rfl (λha=>?_) (λha=>?_)))))))
  .have ha:j<v.length:=by have:=lK ha;omega
   refine aj rfl (OL.yes rfl (aQ ag.Rat rfl rfl (vs:=[_,_,_]) rfl (ay rfl) (OL.yes rfl (bH rfl vL (KJ (x:=((aO (rs.take i) v).getD (rs.getD i default).p 0)) (by omega)) (OL.yes rfl (eX rfl rfl rfl (OL.split 35 rfl (λhf=>?_) (λhf=>?_))))))))
   .have hf:((aO (rs.take i) v).getD (rs.getD i default).p 0)≠0:=λe=>BI hf (sK.2 e);refine oK rfl rfl (OL.nil (Hr rfl ?_));refine AW.skip (AW.seq (AW.block ?_));have hgj:(xe (aO (rs.take i) v) (λj=>(aO (rs.take i) v).getD j 0-((aO (rs.take i) v).getD (rs.getD i default).p 0)*(iM (rs.getD i default)).getD j 0) j).getD j 0=(aO (rs.take i) v).getD j 0:=JJ (by omega)
    have z2:=zw j;have z3:=zu j;have z4:=lu ((aO (rs.take i) v).getD (rs.getD i default).p 0) ((iM (rs.getD i default)).getD j 0);refine AW.dg 1 [0,1,2,3,4,5,6,7,8,9,10,11,12,13,14,15,16,17] ak hE rfl (by kernel_rfl) (OI.aK (os:=[_,_,_,_,_,_,_,_,_,_,_,_,_,_,_,_,_,_]) rfl ?_)
    refine iU rfl (aj rfl (iU rfl (aj rfl (jv sl.bg rfl rfl (by omega) (Je ag.Rat 0 (by decide) rfl rfl (by omega) (vs:=[_,_,_]) rfl (ay rfl) ?_)))))
    rw[hgj];refine aQ ag.Rat rfl rfl (vs:=[_,_,_]) rfl (ay rfl) (iU rfl (aj rfl (jv sl.dw rfl rfl (by omega) (Uj ce.bg (by decide) rfl rfl (Xz hi) (d:=dJ (iM (rs.getD i default))) rfl (aj rfl (dR sl.bg 0 rfl rfl (by omega) rfl rfl (iD ag.Rat rfl (vs:=[_,_,_]) rfl (ay rfl) ?_)))))))
    refine bH rfl vL (Ea (x:=((aO (rs.take i) v).getD (rs.getD i default).p 0)) (y:=(iM (rs.getD i default)).getD j 0) (by omega) (by omega)) (bH rfl vL (OX (x:=(aO (rs.take i) v).getD j 0) (y:=((aO (rs.take i) v).getD (rs.getD i default).p 0)*(iM (rs.getD i default)).getD j 0) (by omega) (by omega)) (jv sl.bg rfl rfl (by omega) ?_))
    refine LQ sz.Rat rfl (d:=dQ ((λj=>(aO (rs.take i) v).getD j 0-((aO (rs.take i) v).getD (rs.getD i default).p 0)*(iM (rs.getD i default)).getD j 0) j)) BJ rfl rfl (by rw[dA];omega) (es2:=((xe (aO (rs.take i) v) (λj=>(aO (rs.take i) v).getD j 0-((aO (rs.take i) v).getD (rs.getD i default).p 0)*(iM (rs.getD i default)).getD j 0) j).set j ((λj=>(aO (rs.take i) v).getD j 0-((aO (rs.take i) v).getD (rs.getD i default).p 0)*(iM (rs.getD i default)).getD j 0) j)).map dQ) (by rw[List.map_set]) ?_
    refine OL.nil (AW.rg hE rfl (aj rfl (aI rfl rfl (by omega) (aF rfl (OL.nil ?_)))))
    exact AW.again (x:=j) (j+1) (by omega) ⟨⟨by omega,λh=>absurd h hf⟩,Knows.app .Ky .dD,dL.app (.cons rfl (.cons rfl .nil)) (.cons (by rw[<- JK (show j<(aO (rs.take i) v).length by omega)];rfl) .nil)⟩
   .have hf:((aO (rs.take i) v).getD (rs.getD i default).p 0)=0:=sK.1 (yY hf);refine oK rfl rfl (OL.nil (oH rfl ?_));refine AW.exit (AW.rg hE rfl (aj rfl (aI rfl rfl (by omega) (aF rfl (OL.nil ?_)))))
    exact AW.again (x:=i) (i+1) (by omega) ⟨by omega,Knows.app .yU .dD,dL.app (.cons rfl .nil) (.cons (by rw[Ai hi,Jy (by rw[UX,hf];rw[Rat.div_def,Rat.zero_mul]),hj0 hf,D6];rfl) .nil)⟩
  .have ha:¬ j<v.length:=by have:=nZ ha;omega
   obtain rfl:j=v.length:=by omega
   refine aj rfl (OL.nd rfl (OL.nd rfl (OL.nd rfl (oI rfl rfl (OL.nil (oH rfl ?_))))));exact AW.exit (AW.rg hE rfl (aj rfl (aI rfl rfl (by omega) (aF rfl (OL.nil (AW.again (x:=i) (i+1) (by omega) ⟨by omega,Knows.app .yU .dD,dL.app (.cons rfl .nil) (.cons (by rw[Ai hi,<- Zb hp2,<- aG6,hcl];rfl) .nil)⟩))))))
 .try simp only[fD] at h17
  refine AW.exit (AW.seq ?_);obtain rfl:i=rs.length:=by omega
  rw[List.take_length];rw[List.take_length] at hcl;obtain⟨zl,_⟩:=sp.sz.last (w:=v) (by omega) zv
  refine AW.rg hE rfl (iU rfl ?_);refine aj1 (qY:=[.bI 13 b13 v.length c13]) rfl vL (ai.read (U9 (v:=(aO rs v)) (by omega) (λj=>Nat.le_trans (zl j) (by decide))) (.cons (dP (by rw[dA];omega) rfl) .nil)) (fP (id:=13) (blk:=.row b13 c13 T.Rat 3 ((aO rs v).map dQ)) rfl) ?_
  refine aF rfl (OL.nil (AW.seq (AW.sg hE rfl (aj rfl (bG rfl rfl rfl (OL.nil (AW.cond rfl (λhg=>?_) (λhg=>?_))))))))
  .have hg:bM rs v=false:=Ec.1 (lK hg);exact AW.sg hE rfl (iU rfl (pV rfl (OL.nil (AW.ret ⟨⟨_,.tmp rfl .nil,RO.all rfl rfl (by rw[dA];omega) (by rw[an6 hg])⟩,fP rfl⟩))))
  .have hg:bM rs v=true:=Decidable.byContradiction λh9=>by have:=Ec.2 (Bool.eq_false_iff.2 h9);have:=nZ hg;omega
   have hpp:dX (aO rs v)<(aO rs v).length:=vT.1 hg;have hpl2:CU (aO rs v)=((dX (aO rs v):Nat):Int):=BA hpp;rw[hpl2];have hnz:=tY hpp;refine AW.skip (AW.sg hE rfl (iU rfl (aj rfl (jv sl.bg rfl rfl (by omega) (Je ag.Rat 0 (by decide) rfl rfl (by omega) (vs:=[_,_,_]) rfl (ay rfl) (al z.Rat rfl λb10=>(fA sz.Rat rfl rfl rfl rfl rfl (ay rfl) (cells2:=[_,_,_]) rfl ?_)))))))
   refine OL.nil (AW.seq (AW.sg hE rfl (aF rfl (OL.nil (AW.block ?_)))));refine AW.aY (α:=Nat) [(4,_),(5,_),(10,_)] [(10,_),(1000,_)] (λj=>[(11,.d (dI j))]) (λj=>[(13,.row b13 c13 T.Rat 3 ((xe (aO rs v) (λj=>(aO rs v).getD j 0 / (aO rs v).getD (dX (aO rs v)) 0) j).map dQ))]) (λj=>j<=v.length) (λj=>v.length-j) 0 (.cons (knJ) (.cons (zA rfl) (.cons (iw rfl) .nil))) (.cons (je rfl) (.cons (qZ rfl) .nil)) ⟨Nat.zero_le _,.dD,.cons (by rw[D6];rfl) .nil⟩ ?_
   rintro j h2
   have h2:j<=v.length:=h2;have hml:(xe (aO rs v) (λj=>(aO rs v).getD j 0 / (aO rs v).getD (dX (aO rs v)) 0) j).length=v.length:=D5.trans hcl;have z1:=zl (dX (aO rs v));have z2:=zl j;refine AW.seq (AW.sg hE rfl (aj rfl (iU rfl (Vq sl.bg rfl rfl (bG rfl rfl rfl (OL.nil (AW.cond rfl (λh68=>?_) (λh68=>?_))))))))
   .try simp only[fD] at h68
    refine AW.skip (AW.seq (AW.block ?_));have hgj:(xe (aO rs v) (λj=>(aO rs v).getD j 0 / (aO rs v).getD (dX (aO rs v)) 0) j).getD j 0=(aO rs v).getD j 0:=JJ (by omega)
    refine AW.dg 1 [0,1,2,3,4,5,6,7,8,9,10,11,12] ak hE rfl (by kernel_rfl) (OI.aK (os:=[_,_,_,_,_,_,_,_,_,_,_,_,_]) rfl ?_)
    refine iU rfl (aj rfl (iU rfl (aj rfl (jv sl.bg rfl rfl (by omega) (Je ag.Rat 0 (by decide) rfl rfl (by omega) (vs:=[_,_,_]) rfl (ay rfl) ?_)))))
    rw[hgj];refine aQ ag.Rat rfl rfl (vs:=[_,_,_]) rfl (ay rfl) (bH rfl vL (aG3 (x:=(aO rs v).getD j 0) (y:=(aO rs v).getD (dX (aO rs v)) 0) (by omega) (by omega) hnz) (Di rfl (ex rfl rfl (ex rfl rfl (jv sl.bg rfl rfl (by omega) ?_)))))
    refine LQ sz.Rat rfl (d:=dQ ((λj=>(aO rs v).getD j 0 / (aO rs v).getD (dX (aO rs v)) 0) j)) BJ rfl rfl (by rw[dA];omega) (es2:=((xe (aO rs v) (λj=>(aO rs v).getD j 0 / (aO rs v).getD (dX (aO rs v)) 0) j).set j ((λj=>(aO rs v).getD j 0 / (aO rs v).getD (dX (aO rs v)) 0) j)).map dQ) (by rw[List.map_set]) ?_
    refine OL.nil (AW.rg hE rfl (aj rfl (aI rfl rfl (by omega) (aF rfl (OL.nil ?_)))))
    exact AW.again (x:=j) (j+1) (by omega) ⟨by omega,Knows.app .yU .dD,dL.app (.cons rfl (.cons rfl .nil)) (.cons (by rw[<- JK (show j<(aO rs v).length by omega)];rfl) .nil)⟩
   .try simp only[fD] at h68
    refine AW.exit (AW.seq ?_);obtain rfl:j=v.length:=by omega
    rw[<- hcl,aV3];exact AW.rg hE rfl (iU rfl (pV rfl (OL.nil (AW.ret ⟨⟨_,.tmp rfl .nil,RO.all rfl rfl (by rw[dA,Ak];rfl) (by rw[Tt hg])⟩,fP rfl⟩))))

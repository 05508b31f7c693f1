/-
  Walks of layers 22 and 23 of the specification, part 2: reductions, vectors of words (printed by mk2.py).
-/
import Derived.Test.YtnjoncgnjdkaoaaGreatDoorKWkAA
set_option maxRecDepth 8000
set_option maxHeartbeats 3200000
set_option linter.unusedVariables false
set_option linter.unusedSimpArgs false
namespace Go.Proofs.YtnjoncgnjdkaoaaGreatDoor
open Go Go.AL
def stripR (r:bJ):bJ:=⟨r.v,[],r.p⟩
theorem NU:∀ (rs:List bJ) (w:List Rat),aQ (rs.map stripR) w=aQ rs w
 | [],_=>rfl
 | r::rs,w=>by
  rw[List.map_cons,aQ,aQ,NU rs];rfl
theorem ZO {rs:List bJ}{w:List Rat}:Ey rs w (List.replicate 0 0)=[]:=Gt (NT rs w _)
def qJ (vs:List (List Rat))(k:Nat):List bJ:=(vs.take k).foldl vw []
def FC (vs:List (List Rat)):Nat->List Int
 | 0=>[]
 | k+1=>if bg (qJ vs k) (vs.getD k [])=true then FC vs k++[(k:Int)] else FC vs k
theorem Jj {vs:List (List Rat)}{k:Nat}(hk:k<vs.length):qJ vs (k+1)=vw (qJ vs k) (vs.getD k []):=by
 unfold qJ;rw[take_snoc [] hk,List.foldl_append];rfl
theorem aq3 {vs:List (List Rat)}{k:Nat}(hk:k<vs.length)(h:bg (qJ vs k) (vs.getD k [])=true):qJ vs (k+1)=qJ vs k++[newR (qJ vs k) (vs.getD k [])]:=by
 rw[Jj hk];exact if_pos h
theorem WV {vs:List (List Rat)}{k:Nat}(hk:k<vs.length)(h:bg (qJ vs k) (vs.getD k [])=false):qJ vs (k+1)=qJ vs k:=by
 rw[Jj hk];exact if_neg (by rw[h];exact Bool.false_ne_true)
theorem Ez {vs:List (List Rat)}:∀ {k:Nat},k<=vs.length->(FC vs k).length=(qJ vs k).length
 | 0,_=>rfl
 | k+1,h=>by
  rw[FC];cases hg:bg (qJ vs k) (vs.getD k []) with
  | true=>rw[aq3 (by omega) hg,if_pos rfl,iU,iU,Ez (by omega)];rfl
  | false=>rw[WV (by omega) hg,if_neg Bool.false_ne_true,Ez (by omega)]
theorem Yu {vs:List (List Rat)}{n:Nat}(hl:∀ v,v ∈ vs->v.length=n)(zv:∀ v,v ∈ vs->∀ i,sz (v.getD i 0)<=16777215):∀ {k:Nat},k<=vs.length->pK n 16777215 (qJ vs k)/\∀ r,r ∈ qJ vs k->r.p=dV r.v
 | 0,_=>⟨pK.nil,λ_ h=>by cases h⟩
 | k+1,h=>by
  obtain⟨a,b⟩:=Yu hl zv (k:=k) (by omega)
  have hm:=getD_mem (l:=vs) (i:=k) (by omega) []
  rw[Jj (by omega)]
  exact⟨a.add (hl _ hm) (by decide) (zv _ hm),Uz b⟩
theorem pK.a94 {n:Nat}{rs:List bJ}(sp:pK n 16777215 rs)(hp:∀ r,r ∈ rs->r.p=dV r.v)(n6:n<=6):Yp n 0 (rs.map stripR):=by
 refine⟨λr hr=>?_,λr hr=>?_,λr hr=>?_,λk r hk=>?_,by rw[dD];have:=sp.le;omega⟩
 .obtain⟨x,hx,rfl⟩:=jY hr;exact sp.len x hx
 .obtain⟨x,hx,rfl⟩:=jY hr;exact⟨hp x hx,sp.ech.piv x hx⟩
 .obtain⟨x,hx,rfl⟩:=jY hr;rfl
 .rw[List.getElem?_map] at hk;cases hq:rs[k]? with
  | none=>rw[hq] at hk;cases hk
  | some x =>
   rw[hq] at hk;cases hk
   have h:=sp.sz k x hq;refine⟨h.1,λi=>?_⟩;show sz (([]:List Rat).getD i 0)+1<=_
   rw[show ([]:List Rat).getD i 0=0 from rfl,fK]
   exact Nat.le_trans (show 1+1<=16777215+1 by decide) (Nat.le_mul_of_pos_left _ (TY k))
theorem U9 {rs:List bJ}{i:Nat}(hi:i<rs.length):((rs.map dK).map iG)[i]? = some (iG (dK (rs.getD i default))):=by
 rw[List.map_map,List.getElem?_map,gI,kL hi];rfl
theorem aq4 {cur u:List Rat}{f:Rat}:sN cur (λj=>cur.getD j 0-f*u.getD j 0) cur.length=ak3 f u cur:=Em λj h1 h2=>by omega
theorem aF4 {rs:List bJ}{v:List Rat}:sN (aQ rs v) (λj=>(aQ rs v).getD j 0 / (aQ rs v).getD (dV (aQ rs v)) 0) (aQ rs v).length=dK (newR rs v):=by
 rw[Em λj h1 h2=>by omega]
 refine List.ext_getElem (by rw[dD,List.length_range,pq];rfl) λj h1 h2=>?_
 rw[dD,List.length_range] at h1;simp only[List.getElem_map,List.getElem_range];have e:(dK (newR rs v))[j]=(dK (newR rs v)).getD j 0:=by rw[gI,kL h2];rfl
 rw[e,yC];rfl
theorem ZP {rs:List bJ}{v:List Rat}(h:bg rs v=false):Dz rs v=aQ rs v:=if_neg (by rw[h];exact Bool.false_ne_true)
theorem NV {a:Au}{w:List Int}(f:Au.Fw a)(hw:iV a.sym w)(hl:w.length<=6):aj P F.wG [zG a,.d (ints w)] (.d (iG (pX a w))):=by
 have hnum:=f.num;have hst:=f.few.st;have bu6:=f.ok.ini;refine aj.intro fn.wG (by rfl) (by rfl) (aA (by rfl)) λE hE=>(AW.sg hE rfl (gW rfl rfl λb2=>(jg rfl (OL.nil (AW.sg hE rfl (aV fd.uZ rfl rfl (aG ce.aT rfl rfl rfl ?_)))))))
 refine bF rfl vL (WU (l:=a.ini) (by omega)) (aC rfl (OL.nil (AW.seq (AW.sg hE rfl (aC rfl (OL.nil (AW.block ?_)))))))
 refine AW.aU (α:=Nat) [(1,_),(2,_),(4,_)] [(2,_)] (λi=>[(5,.d (iG (pX a (w.take i)))),(6,.d (dI i))]) (λi=>[]) (λi=>i<=w.length) (λi=>w.length-i) 0 (.cons (bY rfl) (.cons (iJ rfl) (.cons (AO rfl) .nil))) (.cons (kC rfl) .nil) ⟨Nat.zero_le _,.gy,.nil⟩ ?_
 rintro i h1
 have h1:i<=w.length:=h1;have hfl:(pX a (w.take i)).length=a.st:=Fg f.ok _;refine AW.seq (AW.sg hE rfl (ai rfl (ai rfl (fJ sl.ints rfl rfl (aX rfl rfl rfl (OL.nil (AW.cond rfl (λh16=>?_) (λh16=>?_))))))))
 .try simp only[eG] at h16
  refine AW.skip (AW.seq (AW.block (AW.seq ?_)));have hxw:=hw (w.getD i 0) (getD_mem (by omega) 0)
  refine AW.rg hE rfl (aV fd.jW rfl rfl (aG ce.int rfl rfl rfl (mkL dQ 0 sl.bT z.Rat IC rfl rfl (Nat.le_refl _) (by omega) (by omega) rfl λb21=>(oC rfl (OL.nil (AW.seq (AW.sg hE rfl ?_)))))))
  refine aC rfl (OL.nil (AW.block ?_));refine AW.aU (α:=Nat) [(1,_),(2,_),(4,_),(5,_),(6,_),(7,_)] [(2,_)] (λk=>[(8,.d (dI k))]) (λk=>[(21,.row b21 a.st T.Rat 3 ((gQ a.st (pX a (w.take i)) (w.getD i 0).toNat (a.aP.take k)).map dQ))]) (λk=>k<=a.aP.length) (λk=>a.aP.length-k) 0 (.cons (bY rfl) (.cons (iJ rfl) (.cons (AO rfl) (.cons (bY rfl) (.cons (bY rfl) (.cons (yO rfl) .nil)))))) (.cons (kC rfl) .nil) ⟨Nat.zero_le _,.di,.cons rfl .nil⟩ ?_
  rintro k h2
  have h2:k<=a.aP.length:=h2;have hsl:(gQ a.st (pX a (w.take i)) (w.getD i 0).toNat (a.aP.take k)).length=a.st:=ru;refine AW.seq (AW.sg hE rfl (ai rfl (aV fd.iI rfl rfl (aG ce.dm rfl rfl rfl (fJ sl.dm rfl rfl (aX rfl rfl rfl (OL.nil ?_)))))));refine AW.cond rfl (λh26=>?_) (λh26=>?_)
  .try simp only[eG] at h26
   refine AW.skip (AW.seq (AW.block (AW.seq ?_)));have hm:=getD_mem (l:=a.aP) (i:=k) (by omega) default
   obtain⟨hx1,hx2,hx3,hx4⟩:=f.ok.arc (a.aP.getD k default) hm;have hxz:=f.arc (a.aP.getD k default) hm;have hz1:=Rj f hw hl i (a.aP.getD k default).f;have hz2:=aB3 (s:=(w.getD i 0).toNat) f hw hl i k (a.aP.getD k default).t;have hz3:=lU ((pX a (w.take i)).getD (a.aP.getD k default).f 0) (a.aP.getD k default).q;refine AW.rg hE rfl (aV fd.iI rfl rfl (aG ce.dm rfl rfl rfl (ai rfl (fM sl.dm default rfl rfl (by omega) rfl rfl (jS ag.ny rfl (vs:=[_,_,_,_,_,_,_,_,_,_,_]) rfl (aA rfl) (al z.ny rfl λb9=>(fG sz.ny rfl rfl rfl rfl rfl (aA rfl) (cells2:=[_,_,_,_,_,_,_,_,_,_,_]) rfl ?_)))))))
   refine OL.nil (AW.seq (AW.dg 1 [0,1,2,3,4,5,6] au hE rfl (by kernel_rfl) (OI.aS (os:=[_,_,_,_,_,_,_]) rfl ?_)))
   refine aV fd.yZ rfl rfl (aG ce.int rfl rfl rfl (ai rfl (ai rfl (fM sl.ints 0 rfl rfl (by omega) rfl rfl (iE ce.int rfl (dG rfl rfl rfl (OL.nil ?_)))))))
   refine AW.cond rfl (λhc=>?_) (λhc=>?_)
   .have hc:(a.aP.getD k default).l=(w.getD i 0).toNat:=by have:=kK hc;omega
    refine AW.dg 1 [0,1,2,3,4,5,6,7,8,9,10,11,12,13,14,15,16,17,18,19] au hE rfl (by kernel_rfl) (OI.aS (os:=[_,_,_,_,_,_,_,_,_,_,_,_,_,_,_,_,_,_,_,_]) rfl ?_)
    refine gU rfl (aV fd.xq rfl rfl (aG ce.int rfl rfl rfl (gU rfl (aV fd.xq rfl rfl (aG ce.int rfl rfl rfl (jk sl.bT rfl rfl (by omega) (FH ag.Rat 0 (by decide) rfl rfl (by omega) (vs:=[_,_,_]) rfl (aA rfl) ?_)))))))
    refine ai rfl (aV fd.xM rfl rfl (aG ce.int rfl rfl rfl (fM sl.bT 0 rfl rfl (by omega) rfl rfl (jS ag.Rat rfl (vs:=[_,_,_]) rfl (aA rfl) (aV fd.sF rfl rfl (aV fd.gK rfl rfl (aN ag.Rat rfl rfl (vs:=[_,_,_]) rfl (aA rfl) ?_)))))))
    refine bF rfl vL (Eu (x:=(pX a (w.take i)).getD (a.aP.getD k default).f 0) (y:=(a.aP.getD k default).q) (by omega) (by omega)) ?_
    refine bF rfl vL (LM (x:=(gQ a.st (pX a (w.take i)) (w.getD i 0).toNat (a.aP.take k)).getD (a.aP.getD k default).t 0) (y:=(pX a (w.take i)).getD (a.aP.getD k default).f 0*(a.aP.getD k default).q) (by omega) (by omega)) ?_
    refine jk sl.bT rfl rfl (by omega) ?_
    refine Oa sz.Rat rfl (d:=dQ ((gQ a.st (pX a (w.take i)) (w.getD i 0).toNat (a.aP.take k)).getD (a.aP.getD k default).t 0+(pX a (w.take i)).getD (a.aP.getD k default).f 0*(a.aP.getD k default).q)) yP rfl rfl (by rw[dD];omega) (es2:=((gQ a.st (pX a (w.take i)) (w.getD i 0).toNat (a.aP.take k)).set (a.aP.getD k default).t ((gQ a.st (pX a (w.take i)) (w.getD i 0).toNat (a.aP.take k)).getD (a.aP.getD k default).t 0+(pX a (w.take i)).getD (a.aP.getD k default).f 0*(a.aP.getD k default).q)).map dQ) (by rw[List.map_set]) ?_
    refine OL.nil (AW.rg hE rfl (ai rfl (aH rfl rfl (by omega) (aC rfl (OL.nil ?_)))))
    exact AW.again (x:=k) (k+1) (by omega) ⟨by omega,Knows.app .Vh .di,dw.app (.cons rfl .nil) (.cons (by rw[wo (by omega),ap2 hc];rfl) .nil)⟩
   .have hc:¬ (a.aP.getD k default).l=(w.getD i 0).toNat:=by have:=lD hc;omega
    refine AW.skip (AW.rg hE rfl (ai rfl (aH rfl rfl (by omega) (aC rfl (OL.nil ?_)))))
    exact AW.again (x:=k) (k+1) (by omega) ⟨by omega,Knows.app .Vh .di,dw.app (.cons rfl .nil) (.cons (by rw[wo (by omega),ap3 hc];rfl) .nil)⟩
  .try simp only[eG] at h26
   refine AW.exit ?_;obtain rfl:k=a.aP.length:=by omega
   refine AW.freeze 21 rfl (AW.to [(1,.d (ints w)),(2,.ptr 2 b2 0),(4,.mt),(6,.d (dI i)),(7,.d (iG (pX a (w.take (i+1)))))] [(2,.box b2 T.Auto [.d (dI 1),.d (.sl []),.d (dI a.sym),.d (dI a.st),.d (tH a.ini),.d (tH a.fin),.d (lK a.aP)])] (.cons vR (.cons vR (.cons vR (.cons vR (.cons (eH (by rw[dD,ru]) (by rw[En (by omega),List.take_length])) .nil))))) (.cons rfl .nil) ?_)
   refine AW.rg hE rfl (ai rfl (aC rfl (OL.nil (AW.rg hE rfl (ai rfl (aH rfl rfl (by omega) (aC rfl ?_)))))))
   exact OL.nil (AW.again (x:=i) (i+1) (by omega) ⟨by omega,Knows.app .xf .gy,dw.app (.cons rfl .nil) (.nil)⟩)
 .try simp only[eG] at h16
  refine AW.exit (AW.seq ?_);obtain rfl:i=w.length:=by omega
  exact AW.rg hE rfl (ai rfl (aC rfl (OL.nil (AW.ret (aO.r ⟨_,.tmp rfl .nil,.le (by rw[List.take_length];exact bG.refl _)⟩)))))
theorem ZQ {v:List Rat}{n N b c:Nat}{rs:List bJ}(R:Yp n N rs)(hv:v.length=n)(n6:n<=6)(N6:N<=6)(zv:∀ i,sz (v.getD i 0)<=16777215):eF P F.xX [.bH 1000 b rs.length c,.d (iG v),.d (dI N)] (mem1 1000 (Yo b c rs)) (.ag [.d (iG (aQ rs v)),.d (iG (Ey rs v (List.replicate N 0)))]) (mem1 1000 (Yo b c rs)):=by
 have hle:=R.le;refine eF.intro fn.xX (by rfl) (by rfl) (aA (by rfl)) λE hE=>(AW.sg hE rfl (al z.row rfl λb6=>(OL.nil (AW.seq (AW.dg 1 [0,1,2,3,4,5,6] au hE rfl (by kernel_rfl) (OI.aS (os:=[_,_,_,_,_,_,_]) rfl ?_))))))
 refine ai rfl (bF rfl vL (aF3 (l:=v) (by omega) (λi=>Nat.le_trans (zv i) (by decide))) (ai rfl (mkD (z:=dQ 0) sl.bT z.Rat IC rfl rfl (by omega) (by omega) (Vk (cs:=[_,_]) z.row pl.row (rG (zC rfl) (rG (zC rfl) Vj)) (by rfl) (al z.row rfl λb7=>(fG sz.row rfl rfl rfl rfl rfl (aA rfl) (cells2:=[_,_]) rfl (OL.nil ?_)))))))
 refine AW.seq (AW.seq ?_);rw[show List.replicate N (dQ 0)=(List.replicate N (0:Rat)).map dQ from List.map_replicate.symm]
 refine AW.rg hE rfl (aC rfl (OL.nil (AW.block ?_)));refine AW.aU (α:=Nat) [(0,_),(6,_),(7,_)] [(6,_),(1000,_)] (λk=>[(8,.d (dI k))]) (λk=>[(7,.box b7 T.row [.d (iG (aQ (rs.take k) v)),.d (iG (Ey (rs.take k) v (List.replicate N 0)))])]) (λk=>k<=rs.length) (λk=>rs.length-k) 0 (.cons (yO rfl) (.cons (iJ rfl) (.cons (iJ rfl) .nil))) (.cons (kC rfl) (.cons (rY rfl) .nil)) ⟨Nat.zero_le _,.di,.cons rfl .nil⟩ ?_
 rintro k h1
 have h1:k<=rs.length:=h1;have hwl:(aQ (rs.take k) v).length=v.length:=kE _ _;have htl:(Ey (rs.take k) v (List.replicate N 0)).length=N:=by rw[NT,List.length_replicate]
 refine AW.seq (AW.sg hE rfl (ai rfl (gU rfl (Iy sl.rows rfl rfl (aX rfl rfl rfl (OL.nil (AW.cond rfl (λh19=>?_) (λh19=>?_))))))))
 .try simp only[eG] at h19
  refine AW.skip (AW.seq (AW.block (AW.seq ?_)));have hkr:k<rs.length:=by omega
  obtain⟨zw,zt,zr,zc⟩:=R.bounds (w:=v) hkr zv;obtain⟨hp1,hp2,hp3⟩:=R.piv _ (rq hkr);have hrl:=R.len _ (rq hkr);have hcl:=R.cl _ (rq hkr);have zq:=LW ((aQ (rs.take k) v).getD (rs.getD k default).p 0) ((rs.getD k default).v.getD (rs.getD k default).p 0);have zq1:=zw (rs.getD k default).p;have zq2:=zr (rs.getD k default).p;have zqq:sz (ou (aQ (rs.take k) v) (rs.getD k default))<=34359738366:=Nat.le_trans zq (by omega)
  have hpl:BJ (rs.getD k default).v=((rs.getD k default).p:Int):=(Dt (by rw[<- hp1];omega)).trans (by rw[<- hp1])
  refine AW.rg hE rfl (gU rfl (ai rfl (jk sl.rows rfl rfl hkr (faE fd.LH rfl rfl (N8 ce.bT (by decide) rfl rfl (Io hkr) (d:=iG (rs.getD k default).v) rfl (bF rfl vL (Yr (v:=(rs.getD k default).v) (by omega) (λi=>Nat.le_trans (zr i) (by decide))) ?_))))))
  rw[hpl];refine aC rfl (OL.nil (AW.seq (AW.dg 1 [0,1,2,3,4,5,6,7,8,9,10,11,12,13,14,15] au hE rfl (by kernel_rfl) (OI.aS (os:=[_,_,_,_,_,_,_,_,_,_,_,_,_,_,_,_]) rfl ?_))))
  refine aV fd.LH rfl rfl (aG ce.bT rfl rfl rfl (ai rfl (fM sl.bT 0 rfl rfl (by omega) rfl rfl (jS ag.Rat rfl (vs:=[_,_,_]) rfl (aA rfl) (gU rfl (ai rfl (jk sl.rows rfl rfl hkr ?_)))))))
  refine faE fd.LH rfl rfl (N8 ce.bT (by decide) rfl rfl (Io hkr) (d:=iG (rs.getD k default).v) rfl (ai rfl (fM sl.bT 0 rfl rfl (by omega) rfl rfl (jS ag.Rat rfl (vs:=[_,_,_]) rfl (aA rfl) (bF rfl vL (aq1 (x:=(aQ (rs.take k) v).getD (rs.getD k default).p 0) (y:=(rs.getD k default).v.getD (rs.getD k default).p 0) (by omega) (by omega) hp3) ?_)))))
  rw[<- Wv];refine al z.Rat rfl λb10=>(fG sz.Rat rfl rfl rfl rfl rfl (aA rfl) (cells2:=[_,_,_]) rfl (OL.nil (AW.dg 1 [0,1,2,3,4,5,6,7,8,9,10,11,12,13,14,15,16,17,18,19,20,21] au hE rfl (by kernel_rfl) (OI.aS (os:=[_,_,_,_,_,_,_,_,_,_,_,_,_,_,_,_,_,_,_,_,_,_]) rfl ?_))))
  refine aV fd.LH rfl rfl (aG ce.bT rfl rfl rfl (gU rfl (ai rfl (jk sl.rows rfl rfl hkr (faE fd.LH rfl rfl (N8 ce.bT (by decide) rfl rfl (Io hkr) (d:=iG (rs.getD k default).v) rfl (aN ag.Rat rfl rfl (vs:=[_,_,_]) rfl (aA rfl) ?_)))))))
  refine bF rfl vL (Yt (v:=(aQ (rs.take k) v)) (w:=(rs.getD k default).v) (c:=ou (aQ (rs.take k) v) (rs.getD k default)) (by omega) (by omega) zw zr zqq) (aV fd.ag4 rfl rfl (aG ce.bT rfl rfl rfl (gU rfl (ai rfl (jk sl.rows rfl rfl hkr (faE fd.ag4 rfl rfl (N8 ce.bT (by decide) rfl rfl (Io hkr) (d:=iG (rs.getD k default).c) rfl ?_)))))))
  refine aN ag.Rat rfl rfl (vs:=[_,_,_]) rfl (aA rfl) (bF rfl vL (Yt (v:=(Ey (rs.take k) v (List.replicate N 0))) (w:=(rs.getD k default).c) (c:=ou (aQ (rs.take k) v) (rs.getD k default)) (by omega) (by omega) zt zc zqq) (aV fd.LH rfl rfl (fG sz.bT rfl rfl rfl rfl rfl (aA rfl) (cells2:=[_,_]) rfl (aV fd.ag4 rfl rfl (fG sz.bT rfl rfl rfl rfl rfl (aA rfl) (cells2:=[_,_]) rfl (OL.nil (AW.rg hE rfl ?_)))))))
  refine ai rfl (aH rfl rfl (by omega) (aC rfl (OL.nil ?_)))
  exact AW.again (x:=k) (k+1) (by omega) ⟨by omega,Knows.app .xf .di,dw.app (.cons rfl (.cons rfl .nil)) (.cons (by rw[BG hkr,ZN hkr,<- WA];rfl) .nil)⟩
 .try simp only[eG] at h19
  refine AW.exit (AW.seq ?_);obtain rfl:k=rs.length:=by omega
  rw[List.take_length];exact AW.rg hE rfl (aN ag.row rfl rfl (vs:=[_,_]) rfl (aA rfl) (fG sz.row rfl rfl rfl rfl rfl (aA rfl) (cells2:=[_,_]) rfl (OL.nil (AW.ret ⟨⟨_,.dL rfl rfl ag.row (aA rfl) .nil,.ag (.cons (.le vR) (.cons (.le vR) .nil))⟩,bP rfl⟩))))
theorem Jk {vs:List (List Rat)}{n:Nat}(hn:1<=n/\n<=6)(nl:vs.length<=6)(hl:∀ v,v ∈ vs->v.length=n)(zv:∀ v,v ∈ vs->∀ i,sz (v.getD i 0)<=16777215):aj P F.xW [.d (.sl (vs.map iG))] (.jE [.d (ints (FC vs vs.length)),.d (dI 0)]):=by
 refine aj.intro fn.xW (by rfl) (by rfl) (aA (by rfl)) λE hE=>(AW.sg hE rfl (jg rfl (aC rfl (OL.nil (AW.seq (AW.sg hE rfl (ai rfl ?_)))))))
 refine fJ sl.gB rfl rfl (gV rfl rfl (c:=false) (by exact decide_eq_false (by omega)) (ai rfl (OL.yes rfl (ai rfl (OL.yes rfl (bF rfl vL (aq2 (l:=vs) (n:=n) (by omega) (by omega) hl) (OL.yes rfl ?_)))))))
 refine nt rfl (jZ rfl rfl (OL.nil (oz rfl ?_)));refine AW.skip (AW.sg hE rfl (jg rfl (OL.nil (AW.seq (AW.own 4 39 T.int 1 rfl rfl (AW.rg hE rfl (jg rfl ?_)))))));refine OL.nil (AW.seq (AW.seq (AW.own 5 35 T.row 2 rfl rfl (AW.rg hE rfl (aC rfl (OL.nil (AW.block ?_)))))));refine AW.aU (α:=Nat × Nat × Nat × Nat × Nat) [(0,_),(2,_),(3,_)] [] (λ(i,bq,cq,bp,cp)=>[(4,.bH 39 bq (FC vs i).length cq),(5,.bH 35 bp ((qJ vs i).map stripR).length cp),(6,.d (dI i))]) (λ(i,bq,cq,bp,cp)=>[(39,.row bq cq T.int 1 ((FC vs i).map dI)),(35,Yo bp cp ((qJ vs i).map stripR))]) (λ(i,bq,cq,bp,cp)=>i<=vs.length) (λ(i,bq,cq,bp,cp)=>vs.length-i) (0,0,0,0,0) (.cons (bY rfl) (.cons (AO rfl) (.cons (bY rfl) .nil))) .nil ⟨Nat.zero_le _,.xf,.cons rfl (.cons rfl .nil)⟩ ?_
 rintro⟨i,bq,cq,bp,cp⟩ h1
 have h1:i<=vs.length:=h1;obtain⟨spo,hld⟩:=Yu hl zv h1;have bu8:=spo.le;have hxl:=Ez h1;have hsl:((qJ vs i).map stripR).length=(qJ vs i).length:=dD ..;refine AW.seq (AW.sg hE rfl (ai rfl (ai rfl (fJ sl.gB rfl rfl (aX rfl rfl rfl (OL.nil (AW.cond rfl (λh19=>?_) (λh19=>?_))))))))
 .try simp only[eG] at h19
  refine AW.skip (AW.seq (AW.block (AW.seq ?_)));have hi:i<vs.length:=by omega
  have hvl:=hl _ (getD_mem hi []);have zvi:=zv _ (getD_mem hi []);refine AW.rg hE rfl (gU rfl (ai rfl (ai rfl (fM sl.gB [] rfl rfl (by omega) rfl rfl (iE ce.bT rfl ?_)))))
  refine ag0 (qm:=[.bH 35 bp ((qJ vs i).map stripR).length cp,.d (iG (vs.getD i [])),.d (dI (0:Nat))]) rfl vL (eF.DI (ZQ (v:=(vs.getD i [])) (N:=0) (b:=bp) (c:=cp) (pK.a94 spo hld hn.2) hvl hn.2 (by decide) zvi) (.cons bG.bH .gy)) (bP (id:=35) (blk:=Yo bp cp ((qJ vs i).map stripR)) rfl) ?_
  rw[NU,ZO];refine al z.row rfl λb7=>(fG sz.row rfl rfl rfl rfl rfl (aA rfl) (cells2:=[_,_]) rfl (OL.nil (AW.sg hE rfl (aV fd.LH rfl rfl (aG ce.bT rfl rfl rfl (bF rfl vL (Yr (v:=aQ (qJ vs i) (vs.getD i [])) (by rw[kE];omega) (λj=>Nat.le_trans ((spo.sz.last (by omega) zvi).1 j) (by decide))) (ql rfl rfl rfl ?_)))))))
  refine OL.nil (AW.cond rfl (λhg=>?_) (λhg=>?_))
  .have hg:bg (qJ vs i) (vs.getD i [])=true:=Decidable.byContradiction λh9=>by have:=Fv.2 (Bool.eq_false_iff.2 h9);have:=kK hg;omega
   have hx1:FC vs (i+1)=FC vs i++[(i:Int)]:=by rw[FC,if_pos hg]
   have hs1:(qJ vs (i+1)).map stripR=((qJ vs i).map stripR)++[(stripR (newR (qJ vs i) (vs.getD i [])))]:=by rw[aq3 hi hg,List.map_append];rfl
   refine AW.rg hE rfl (gU rfl (aN ag.row rfl rfl (vs:=[_,_]) rfl (aA rfl) (xe (y:=dSK (stripR (newR (qJ vs i) (vs.getD i [])))) sl.rows (a92 (r:=(stripR (newR (qJ vs i) (vs.getD i []))))) rfl (by decide) ?_)))
   refine zB sl.rows rfl rfl rfl (dD ..).symm (VC.d _) (λy hy=>by rw[kJ hy];rfl) (by simp only[jL];omega) (by simp only[jL];omega) (.inr rfl) (ys:=((qJ vs (i+1)).map stripR).map dSK) (by rw[hs1,List.map_append (f:=dSK)];rfl) (n2:=((qJ vs (i+1)).map stripR).length) (by rw[hs1,iU];rfl) λb35 c35=>?_
   refine gU rfl (ai rfl (xe (y:=dI i) sl.ints (VC.d _).vd rfl (by decide) ?_))
   refine zB sl.ints rfl rfl rfl (by rw[dD]) (VC.d _) (λy hy=>by rw[kJ hy];rfl) (by simp only[jL];omega) (by simp only[jL];omega) (.inr rfl) (ys:=(FC vs (i+1)).map dI) (by rw[hx1,List.map_append];rfl) (n2:=(FC vs (i+1)).length) (by rw[hx1,iU];rfl) λb39 c39=>?_
   refine oC rfl (oC rfl (OL.nil (AW.rg hE rfl (ai rfl (aH rfl rfl (by omega) (aC rfl (OL.nil ?_)))))))
   exact AW.again (x:=(i,bq,cq,bp,cp)) (i+1,b39,c39,b35,c35) (by (simp only[];omega)) ⟨by omega,Knows.app .xf .xf,.cons rfl (.cons rfl .nil)⟩
  .have hg:bg (qJ vs i) (vs.getD i [])=false:=Fv.1 (by have:=lD hg;omega)
   refine AW.skip (AW.rg hE rfl (ai rfl (aH rfl rfl (by omega) (aC rfl (OL.nil ?_)))))
   exact AW.again (x:=(i,bq,cq,bp,cp)) (i+1,bq,cq,bp,cp) (by (simp only[];omega)) ⟨by omega,Knows.app .xf (.cons (by rw[FC,if_neg (by rw[hg];exact Bool.false_ne_true)];exact bG.refl _) (.cons (by rw[WV (by omega) hg];exact bG.refl _) .di)),.cons (by rw[FC,if_neg (by rw[hg];exact Bool.false_ne_true)];rfl) (.cons (by rw[WV (by omega) hg];rfl) .nil)⟩
 .try simp only[eG] at h19
  refine AW.exit (AW.seq ?_);obtain rfl:i=vs.length:=by omega
  exact AW.rg hE rfl (gU rfl (oC rfl (aC rfl (OL.nil (AW.ret (aO.r ⟨_,.tmp rfl (.tmp rfl .nil),_,.cons (RO.all rfl rfl (by rw[dD]) rfl) (.cons (.le vR) .nil),rfl⟩))))))
theorem WW {v:List Rat}{n b c:Nat}{rs:List bJ}(sp:pK n 16777215 rs)(hld:∀ r,r ∈ rs->r.p=dV r.v)(hv:v.length=n)(n6:n<=6)(zv:∀ i,sz (v.getD i 0)<=16777215):eF P F.wM [.bH 1000 b (rs.map dK).length c,.d (iG v)] (mem1 1000 (.row b c T.bT 1 ((rs.map dK).map iG))) (.d (iG (Dz rs v))) (mem1 1000 (.row b c T.bT 1 ((rs.map dK).map iG))):=by
 have hle:=sp.le;have hul:(rs.map dK).length=rs.length:=dD ..;refine eF.intro fn.wM (by rfl) (by rfl) (aA (by rfl)) λE hE=>?_
 refine AW.sg hE rfl ?_;refine jg rfl ?_;refine OL.nil ?_;refine AW.sg hE rfl ?_;refine ai rfl ?_;refine apM sl.bT rfl rfl (VC.d _) aQ9 (by simp;omega) (by simp;omega) rfl λb13 c13=>?_
 refine oC rfl (OL.nil (AW.seq (AW.seq ?_)));refine AW.to [(0,.bH 1000 b (rs.map dK).length c),(5,.bH 13 b13 v.length c13)] [(1000,.row b c T.bT 1 ((rs.map dK).map iG)),(13,.row b13 c13 T.Rat 3 (v.map dQ))] (.cons vR (.cons (aB (by show V.bH 13 b13 (v.map dQ).length c13=_;rw[dD])) .nil)) (.cons rfl (.cons rfl .nil)) ?_
 refine AW.rg hE rfl (aC rfl (OL.nil (AW.block ?_)));refine AW.aU (α:=Nat) [(0,_),(4,_),(5,_)] [(1000,_)] (λi=>[(6,.d (dI i))]) (λi=>[(13,.row b13 c13 T.Rat 3 ((aQ (rs.take i) v).map dQ))]) (λi=>i<=rs.length) (λi=>rs.length-i) 0 (.cons (yO rfl) (.cons (knJ) (.cons (yO rfl) .nil))) (.cons (rY rfl) .nil) ⟨Nat.zero_le _,.di,.cons rfl .nil⟩ ?_
 rintro i h1
 have h1:i<=rs.length:=h1;have hcl:(aQ (rs.take i) v).length=v.length:=kE _ _;refine AW.seq (AW.sg hE rfl (ai rfl (gU rfl (Iy sl.gB rfl rfl (aX rfl rfl rfl (OL.nil (AW.cond rfl (λh17=>?_) (λh17=>?_))))))))
 .try simp only[eG] at h17
  refine AW.skip (AW.seq (AW.block (AW.seq ?_)));have hi:i<rs.length:=by omega
  obtain⟨zw,_,zr,_⟩:=sp.sz.bounds (w:=v) (n:=0) (by omega) hi zv
  obtain⟨hp1,hp2⟩:=sp.ech.piv _ (rq hi);have hrl:=sp.len _ (rq hi);have hpl:BJ (dK (rs.getD i default))=((rs.getD i default).p:Int):=Np (hld _ (rq hi)) (by omega) hp2
  have bv3:=pq (r:=(rs.getD i default));have zu:=Nr zr;refine AW.rg hE rfl (gU rfl (gU rfl (ai rfl (jk sl.gB rfl rfl (by omega) (N8 ce.bT (by decide) rfl rfl (U9 hi) (d:=iG (dK (rs.getD i default))) rfl (bF rfl vL (RH (v:=dK (rs.getD i default)) (by omega) (λj=>Nat.le_trans (zu j) (by decide))) ?_))))))
  rw[hpl];refine jk sl.bT rfl rfl (by omega) (FH ag.Rat 0 (by decide) rfl rfl (by omega) (vs:=[_,_,_]) rfl (aA rfl) (al z.Rat rfl λb7=>(fG sz.Rat rfl rfl rfl rfl rfl (aA rfl) (cells2:=[_,_,_]) rfl (OL.nil (AW.sg hE rfl (aC rfl (OL.nil ?_)))))))
  refine AW.block ?_;refine AW.aU (α:=Nat) [(0,_),(4,_),(5,_),(6,_),(7,_)] [(7,_),(1000,_)] (λj=>[(8,.d (dI j))]) (λj=>[(13,.row b13 c13 T.Rat 3 ((sN (aQ (rs.take i) v) (λj=>(aQ (rs.take i) v).getD j 0-((aQ (rs.take i) v).getD (rs.getD i default).p 0)*(dK (rs.getD i default)).getD j 0) j).map dQ))]) (λj=>j<=v.length/\(((aQ (rs.take i) v).getD (rs.getD i default).p 0)=0->j=0)) (λj=>v.length-j) 0 (.cons (yO rfl) (.cons (knJ) (.cons (yO rfl) (.cons (bY rfl) (.cons (iJ rfl) .nil))))) (.cons (kC rfl) (.cons (rY rfl) .nil)) ⟨⟨Nat.zero_le _,λ_=>rfl⟩,.di,.cons (by rw[BF];rfl) .nil⟩ ?_
  rintro j ⟨h2,hj0⟩
  have h2:j<=v.length:=h2;have hj0:((aQ (rs.take i) v).getD (rs.getD i default).p 0)=0->j=0:=hj0;have hml:(sN (aQ (rs.take i) v) (λj=>(aQ (rs.take i) v).getD j 0-((aQ (rs.take i) v).getD (rs.getD i default).p 0)*(dK (rs.getD i default)).getD j 0) j).length=v.length:=BD.trans hcl;have z1:=zw (rs.getD i default).p;refine AW.seq (AW.sg hE rfl (ai rfl (gU rfl (Iy sl.bT rfl rfl (aX rfl rfl rfl (OL.split 31 rfl (λha=>?_) (λha=>?_)))))))
  .have ha:j<v.length:=by have:=kK ha;omega
   refine ai rfl (OL.yes rfl (aN ag.Rat rfl rfl (vs:=[_,_,_]) rfl (aA rfl) (OL.yes rfl (bF rfl vL (ER (x:=((aQ (rs.take i) v).getD (rs.getD i default).p 0)) (by omega)) (OL.yes rfl (fC rfl rfl rfl (OL.split 35 rfl (λhf=>?_) (λhf=>?_))))))))
   .have hf:((aQ (rs.take i) v).getD (rs.getD i default).p 0)≠0:=λe=>DC hf (lY.2 e);refine lJ rfl rfl (OL.nil (J4 rfl ?_));refine AW.skip (AW.seq (AW.block ?_));have hgj:(sN (aQ (rs.take i) v) (λj=>(aQ (rs.take i) v).getD j 0-((aQ (rs.take i) v).getD (rs.getD i default).p 0)*(dK (rs.getD i default)).getD j 0) j).getD j 0=(aQ (rs.take i) v).getD j 0:=Ei (by omega)
    have z2:=zw j;have z3:=zu j;have z4:=lU ((aQ (rs.take i) v).getD (rs.getD i default).p 0) ((dK (rs.getD i default)).getD j 0);refine AW.dg 1 [0,1,2,3,4,5,6,7,8,9,10,11,12,13,14,15,16,17] au hE rfl (by kernel_rfl) (OI.aS (os:=[_,_,_,_,_,_,_,_,_,_,_,_,_,_,_,_,_,_]) rfl ?_)
    refine gU rfl (ai rfl (gU rfl (ai rfl (jk sl.bT rfl rfl (by omega) (FH ag.Rat 0 (by decide) rfl rfl (by omega) (vs:=[_,_,_]) rfl (aA rfl) ?_)))))
    rw[hgj];refine aN ag.Rat rfl rfl (vs:=[_,_,_]) rfl (aA rfl) (gU rfl (ai rfl (jk sl.gB rfl rfl (by omega) (N8 ce.bT (by decide) rfl rfl (U9 hi) (d:=iG (dK (rs.getD i default))) rfl (ai rfl (fM sl.bT 0 rfl rfl (by omega) rfl rfl (jS ag.Rat rfl (vs:=[_,_,_]) rfl (aA rfl) ?_)))))))
    refine bF rfl vL (Eu (x:=((aQ (rs.take i) v).getD (rs.getD i default).p 0)) (y:=(dK (rs.getD i default)).getD j 0) (by omega) (by omega)) (bF rfl vL (TD (x:=(aQ (rs.take i) v).getD j 0) (y:=((aQ (rs.take i) v).getD (rs.getD i default).p 0)*(dK (rs.getD i default)).getD j 0) (by omega) (by omega)) (jk sl.bT rfl rfl (by omega) ?_))
    refine Oa sz.Rat rfl (d:=dQ ((λj=>(aQ (rs.take i) v).getD j 0-((aQ (rs.take i) v).getD (rs.getD i default).p 0)*(dK (rs.getD i default)).getD j 0) j)) yP rfl rfl (by rw[dD];omega) (es2:=((sN (aQ (rs.take i) v) (λj=>(aQ (rs.take i) v).getD j 0-((aQ (rs.take i) v).getD (rs.getD i default).p 0)*(dK (rs.getD i default)).getD j 0) j).set j ((λj=>(aQ (rs.take i) v).getD j 0-((aQ (rs.take i) v).getD (rs.getD i default).p 0)*(dK (rs.getD i default)).getD j 0) j)).map dQ) (by rw[List.map_set]) ?_
    refine OL.nil (AW.rg hE rfl (ai rfl (aH rfl rfl (by omega) (aC rfl (OL.nil ?_)))))
    exact AW.again (x:=j) (j+1) (by omega) ⟨⟨by omega,λh=>absurd h hf⟩,Knows.app .Gs .di,dw.app (.cons rfl (.cons rfl .nil)) (.cons (by rw[<- Ej (show j<(aQ (rs.take i) v).length by omega)];rfl) .nil)⟩
   .have hf:((aQ (rs.take i) v).getD (rs.getD i default).p 0)=0:=lY.1 (BV hf);refine lJ rfl rfl (OL.nil (oz rfl ?_));refine AW.exit (AW.rg hE rfl (ai rfl (aH rfl rfl (by omega) (aC rfl (OL.nil ?_)))))
    exact AW.again (x:=i) (i+1) (by omega) ⟨by omega,Knows.app .xf .di,dw.app (.cons rfl .nil) (.cons (by rw[BG hi,Hf (by rw[Wv,hf];rw[Rat.div_def,Rat.zero_mul]),hj0 hf,BF];rfl) .nil)⟩
  .have ha:¬ j<v.length:=by have:=lD ha;omega
   obtain rfl:j=v.length:=by omega
   refine ai rfl (OL.nd rfl (OL.nd rfl (OL.nd rfl (jZ rfl rfl (OL.nil (oz rfl ?_))))));exact AW.exit (AW.rg hE rfl (ai rfl (aH rfl rfl (by omega) (aC rfl (OL.nil (AW.again (x:=i) (i+1) (by omega) ⟨by omega,Knows.app .xf .di,dw.app (.cons rfl .nil) (.cons (by rw[BG hi,<- Nk hp2,<- aq4,hcl];rfl) .nil)⟩))))))
 .try simp only[eG] at h17
  refine AW.exit (AW.seq ?_);obtain rfl:i=rs.length:=by omega
  rw[List.take_length];rw[List.take_length] at hcl;obtain⟨zl,_⟩:=sp.sz.last (w:=v) (by omega) zv
  refine AW.rg hE rfl (gU rfl ?_);refine ag0 (qm:=[.bH 13 b13 v.length c13]) rfl vL (aj.read (RH (v:=(aQ rs v)) (by omega) (λj=>Nat.le_trans (zl j) (by decide))) (.cons (eH (by rw[dD];omega) rfl) .nil)) (bP (id:=13) (blk:=.row b13 c13 T.Rat 3 ((aQ rs v).map dQ)) rfl) ?_
  refine aC rfl (OL.nil (AW.seq (AW.sg hE rfl (ai rfl (aX rfl rfl rfl (OL.nil (AW.cond rfl (λhg=>?_) (λhg=>?_))))))))
  .have hg:bg rs v=false:=Fv.1 (kK hg);exact AW.sg hE rfl (gU rfl (oC rfl (OL.nil (AW.ret ⟨⟨_,.tmp rfl .nil,RO.all rfl rfl (by rw[dD];omega) (by rw[ZP hg])⟩,bP rfl⟩))))
  .have hg:bg rs v=true:=Decidable.byContradiction λh9=>by have:=Fv.2 (Bool.eq_false_iff.2 h9);have:=lD hg;omega
   have hpp:dV (aQ rs v)<(aQ rs v).length:=uw.1 hg;have hpl2:BJ (aQ rs v)=((dV (aQ rs v):Nat):Int):=Dt hpp;rw[hpl2];have hnz:=ul hpp;refine AW.skip (AW.sg hE rfl (gU rfl (ai rfl (jk sl.bT rfl rfl (by omega) (FH ag.Rat 0 (by decide) rfl rfl (by omega) (vs:=[_,_,_]) rfl (aA rfl) (al z.Rat rfl λb10=>(fG sz.Rat rfl rfl rfl rfl rfl (aA rfl) (cells2:=[_,_,_]) rfl ?_)))))))
   refine OL.nil (AW.seq (AW.sg hE rfl (aC rfl (OL.nil (AW.block ?_)))));refine AW.aU (α:=Nat) [(4,_),(5,_),(10,_)] [(10,_),(1000,_)] (λj=>[(11,.d (dI j))]) (λj=>[(13,.row b13 c13 T.Rat 3 ((sN (aQ rs v) (λj=>(aQ rs v).getD j 0 / (aQ rs v).getD (dV (aQ rs v)) 0) j).map dQ))]) (λj=>j<=v.length) (λj=>v.length-j) 0 (.cons (knJ) (.cons (yO rfl) (.cons (iJ rfl) .nil))) (.cons (kC rfl) (.cons (rY rfl) .nil)) ⟨Nat.zero_le _,.di,.cons (by rw[BF];rfl) .nil⟩ ?_
   rintro j h2
   have h2:j<=v.length:=h2;have hml:(sN (aQ rs v) (λj=>(aQ rs v).getD j 0 / (aQ rs v).getD (dV (aQ rs v)) 0) j).length=v.length:=BD.trans hcl;have z1:=zl (dV (aQ rs v));have z2:=zl j;refine AW.seq (AW.sg hE rfl (ai rfl (gU rfl (Iy sl.bT rfl rfl (aX rfl rfl rfl (OL.nil (AW.cond rfl (λh68=>?_) (λh68=>?_))))))))
   .try simp only[eG] at h68
    refine AW.skip (AW.seq (AW.block ?_));have hgj:(sN (aQ rs v) (λj=>(aQ rs v).getD j 0 / (aQ rs v).getD (dV (aQ rs v)) 0) j).getD j 0=(aQ rs v).getD j 0:=Ei (by omega)
    refine AW.dg 1 [0,1,2,3,4,5,6,7,8,9,10,11,12] au hE rfl (by kernel_rfl) (OI.aS (os:=[_,_,_,_,_,_,_,_,_,_,_,_,_]) rfl ?_)
    refine gU rfl (ai rfl (gU rfl (ai rfl (jk sl.bT rfl rfl (by omega) (FH ag.Rat 0 (by decide) rfl rfl (by omega) (vs:=[_,_,_]) rfl (aA rfl) ?_)))))
    rw[hgj];refine aN ag.Rat rfl rfl (vs:=[_,_,_]) rfl (aA rfl) (bF rfl vL (aq0 (x:=(aQ rs v).getD j 0) (y:=(aQ rs v).getD (dV (aQ rs v)) 0) (by omega) (by omega) hnz) (yu rfl (ex rfl rfl (ex rfl rfl (jk sl.bT rfl rfl (by omega) ?_)))))
    refine Oa sz.Rat rfl (d:=dQ ((λj=>(aQ rs v).getD j 0 / (aQ rs v).getD (dV (aQ rs v)) 0) j)) yP rfl rfl (by rw[dD];omega) (es2:=((sN (aQ rs v) (λj=>(aQ rs v).getD j 0 / (aQ rs v).getD (dV (aQ rs v)) 0) j).set j ((λj=>(aQ rs v).getD j 0 / (aQ rs v).getD (dV (aQ rs v)) 0) j)).map dQ) (by rw[List.map_set]) ?_
    refine OL.nil (AW.rg hE rfl (ai rfl (aH rfl rfl (by omega) (aC rfl (OL.nil ?_)))))
    exact AW.again (x:=j) (j+1) (by omega) ⟨by omega,Knows.app .xf .di,dw.app (.cons rfl (.cons rfl .nil)) (.cons (by rw[<- Ej (show j<(aQ rs v).length by omega)];rfl) .nil)⟩
   .try simp only[eG] at h68
    refine AW.exit (AW.seq ?_);obtain rfl:j=v.length:=by omega
    rw[<- hcl,aF4];exact AW.rg hE rfl (gU rfl (oC rfl (OL.nil (AW.ret ⟨⟨_,.tmp rfl .nil,RO.all rfl rfl (by rw[dD,pq];rfl) (by rw[PZ hg])⟩,bP rfl⟩))))

/-
  Walks of layers 22 and 23 of the specification, part 2: reductions, vectors of words (printed by mk2.py).
-/
import Derived.Test.YtanlenlmihoiiaaGreatDoorKWkAA
set_option maxRecDepth 8000
set_option maxHeartbeats 3200000
set_option linter.unusedVariables false
set_option linter.unusedSimpArgs false
namespace Go.Proofs.YtanlenlmihoiiaaGreatDoor
open Go Go.AL
def stripR (r:dh):dh:=⟨r.v,[],r.p⟩
theorem Py:∀ (rs:List dh) (w:List Rat),bC (rs.map stripR) w=bC rs w
 | [],_=>rfl
 | r::rs,w=>by
  rw[List.map_cons,bC,bC,Py rs];rfl
theorem al0 {rs:List dh}{w:List Rat}:FV rs w (List.replicate 0 0)=[]:=EQ (Pv rs w _)
def rX (vs:List (List Rat))(k:Nat):List dh:=(vs.take k).foldl tq []
def Hf (vs:List (List Rat)):Nat->List Int
 | 0=>[]
 | k+1=>if bW (rX vs k) (vs.getD k [])=true then Hf vs k++[(k:Int)] else Hf vs k
theorem KX {vs:List (List Rat)}{k:Nat}(hk:k<vs.length):rX vs (k+1)=tq (rX vs k) (vs.getD k []):=by
 unfold rX;rw[take_snoc [] hk,List.foldl_append];rfl
theorem aF2 {vs:List (List Rat)}{k:Nat}(hk:k<vs.length)(h:bW (rX vs k) (vs.getD k [])=true):rX vs (k+1)=rX vs k++[newR (rX vs k) (vs.getD k [])]:=by
 rw[KX hk];exact if_pos h
theorem YT {vs:List (List Rat)}{k:Nat}(hk:k<vs.length)(h:bW (rX vs k) (vs.getD k [])=false):rX vs (k+1)=rX vs k:=by
 rw[KX hk];exact if_neg (by rw[h];exact Bool.false_ne_true)
theorem FW {vs:List (List Rat)}:∀ {k:Nat},k<=vs.length->(Hf vs k).length=(rX vs k).length
 | 0,_=>rfl
 | k+1,h=>by
  rw[Hf];cases hg:bW (rX vs k) (vs.getD k []) with
  | true=>rw[aF2 (by omega) hg,if_pos rfl,jd,jd,FW (by omega)];rfl
  | false=>rw[YT (by omega) hg,if_neg Bool.false_ne_true,FW (by omega)]
theorem ac7 {vs:List (List Rat)}{n:Nat}(hl:∀ v,v ∈ vs->v.length=n)(zv:∀ v,v ∈ vs->∀ i,sz (v.getD i 0)<=16777215):∀ {k:Nat},k<=vs.length->qU n 16777215 (rX vs k)/\∀ r,r ∈ rX vs k->r.p=eU r.v
 | 0,_=>⟨qU.nil,λ_ h=>by cases h⟩
 | k+1,h=>by
  obtain⟨a,b⟩:=ac7 hl zv (k:=k) (by omega)
  have hm:=getD_mem (l:=vs) (i:=k) (by omega) []
  rw[KX (by omega)]
  exact⟨a.add (hl _ hm) (by decide) (zv _ hm),WB b⟩
theorem qU.bt0 {n:Nat}{rs:List dh}(sp:qU n 16777215 rs)(hp:∀ r,r ∈ rs->r.p=eU r.v)(n6:n<=6):ac3 n 0 (rs.map stripR):=by
 refine⟨λr hr=>?_,λr hr=>?_,λr hr=>?_,λk r hk=>?_,by rw[dL];have:=sp.le;omega⟩
 .obtain⟨x,hx,rfl⟩:=jH hr;exact sp.len x hx
 .obtain⟨x,hx,rfl⟩:=jH hr;exact⟨hp x hx,sp.ech.piv x hx⟩
 .obtain⟨x,hx,rfl⟩:=jH hr;rfl
 .rw[List.getElem?_map] at hk;cases hq:rs[k]? with
  | none=>rw[hq] at hk;cases hk
  | some x =>
   rw[hq] at hk;cases hk
   have h:=sp.sz k x hq;refine⟨h.1,λi=>?_⟩;show sz (([]:List Rat).getD i 0)+1<=_
   rw[show ([]:List Rat).getD i 0=0 from rfl,fH]
   exact Nat.le_trans (show 1+1<=16777215+1 by decide) (Nat.le_mul_of_pos_left _ (VH k))
theorem WU {rs:List dh}{i:Nat}(hi:i<rs.length):((rs.map iM).map gm)[i]? = some (gm (iM (rs.getD i default))):=by
 rw[List.map_map,List.getElem?_map,iO,lF hi];rfl
theorem aF3 {cur u:List Rat}{f:Rat}:wP cur (λj=>cur.getD j 0-f*u.getD j 0) cur.length=aB8 f u cur:=JG λj h1 h2=>by omega
theorem aU9 {rs:List dh}{v:List Rat}:wP (bC rs v) (λj=>(bC rs v).getD j 0 / (bC rs v).getD (eU (bC rs v)) 0) (bC rs v).length=iM (newR rs v):=by
 rw[JG λj h1 h2=>by omega]
 refine List.ext_getElem (by rw[dL,List.length_range,zA];rfl) λj h1 h2=>?_
 rw[dL,List.length_range] at h1;simp only[List.getElem_map,List.getElem_range];have e:(iM (newR rs v))[j]=(iM (newR rs v)).getD j 0:=by rw[iO,lF h2];rfl
 rw[e,CZ];rfl
theorem al1 {rs:List dh}{v:List Rat}(h:bW rs v=false):EL rs v=bC rs v:=if_neg (by rw[h];exact Bool.false_ne_true)
theorem Iw {a:Au}{w:List Int}(f:Au.Fw a)(hw:iy a.sym w)(hl:w.length<=6):ai P F.xJ [uY a,.d (ints w)] (.d (gm (ve a w))):=by
 have hnum:=f.num;have hst:=f.few.st;have bO8:=f.ok.ini;refine ai.intro fn.xJ (by rfl) (by rfl) (au (by rfl)) λE hE=>(AW.sg hE rfl (iG rfl rfl λb2=>(nI rfl (OL.nil (AW.sg hE rfl (aV fd.mg rfl rfl (aA ce.aS rfl rfl rfl ?_)))))))
 refine bP rfl vL (Px (l:=a.ini) (by omega)) (aG rfl (OL.nil (AW.seq (AW.sg hE rfl (aG rfl (OL.nil (AW.block ?_)))))))
 refine AW.aX (α:=Nat) [(1,_),(2,_),(4,_)] [(2,_)] (λi=>[(5,.d (gm (ve a (w.take i)))),(6,.d (dI i))]) (λi=>[]) (λi=>i<=w.length) (λi=>w.length-i) 0 (.cons (dA rfl) (.cons (iF rfl) (.cons (BO rfl) .nil))) (.cons (jc rfl) .nil) ⟨Nat.zero_le _,.jm,.nil⟩ ?_
 rintro i h1
 have h1:i<=w.length:=h1;have hfl:(ve a (w.take i)).length=a.st:=JI f.ok _;refine AW.seq (AW.sg hE rfl (aj rfl (aj rfl (fO sl.ints rfl rfl (bD rfl rfl rfl (OL.nil (AW.cond rfl (λh16=>?_) (λh16=>?_))))))))
 .try simp only[fG] at h16
  refine AW.skip (AW.seq (AW.block (AW.seq ?_)));have hxw:=hw (w.getD i 0) (getD_mem (by omega) 0)
  refine AW.rg hE rfl (aV fd.jf rfl rfl (aA ce.int rfl rfl rfl (U4 dQ 0 sl.bF z.Rat Dx rfl rfl (Nat.le_refl _) (by omega) (by omega) rfl λb21=>(uf rfl (OL.nil (AW.seq (AW.sg hE rfl ?_)))))))
  refine aG rfl (OL.nil (AW.block ?_));refine AW.aX (α:=Nat) [(1,_),(2,_),(4,_),(5,_),(6,_),(7,_)] [(2,_)] (λk=>[(8,.d (dI k))]) (λk=>[(21,.row b21 a.st T.Rat 3 ((kL a.st (ve a (w.take i)) (w.getD i 0).toNat (a.aB.take k)).map dQ))]) (λk=>k<=a.aB.length) (λk=>a.aB.length-k) 0 (.cons (dA rfl) (.cons (iF rfl) (.cons (BO rfl) (.cons (dA rfl) (.cons (dA rfl) (.cons (BH rfl) .nil)))))) (.cons (jc rfl) .nil) ⟨Nat.zero_le _,.dw,.cons rfl .nil⟩ ?_
  rintro k h2
  have h2:k<=a.aB.length:=h2;have hsl:(kL a.st (ve a (w.take i)) (w.getD i 0).toNat (a.aB.take k)).length=a.st:=xB;refine AW.seq (AW.sg hE rfl (aj rfl (aV fd.fM rfl rfl (aA ce.bZ rfl rfl rfl (fO sl.bZ rfl rfl (bD rfl rfl rfl (OL.nil ?_)))))));refine AW.cond rfl (λh26=>?_) (λh26=>?_)
  .try simp only[fG] at h26
   refine AW.skip (AW.seq (AW.block (AW.seq ?_)));have hm:=getD_mem (l:=a.aB) (i:=k) (by omega) default
   obtain⟨hx1,hx2,hx3,hx4⟩:=f.ok.arc (a.aB.getD k default) hm;have hxz:=f.arc (a.aB.getD k default) hm;have hz1:=Ug f hw hl i (a.aB.getD k default).f;have hz2:=aS6 (s:=(w.getD i 0).toNat) f hw hl i k (a.aB.getD k default).t;have hz3:=jS ((ve a (w.take i)).getD (a.aB.getD k default).f 0) (a.aB.getD k default).q;refine AW.rg hE rfl (aV fd.fM rfl rfl (aA ce.bZ rfl rfl rfl (aj rfl (fD sl.bZ default rfl rfl (by omega) rfl rfl (iR ag.mQ rfl (vs:=[_,_,_,_,_,_,_,_,_,_,_]) rfl (au rfl) (al z.mQ rfl λb9=>(eG sz.mQ rfl rfl rfl rfl rfl (au rfl) (cells2:=[_,_,_,_,_,_,_,_,_,_,_]) rfl ?_)))))))
   refine OL.nil (AW.seq (AW.dg 1 [0,1,2,3,4,5,6] ak hE rfl (by kernel_rfl) (OI.aP (os:=[_,_,_,_,_,_,_]) rfl ?_)))
   refine aV fd.Bj rfl rfl (aA ce.int rfl rfl rfl (aj rfl (aj rfl (fD sl.ints 0 rfl rfl (by omega) rfl rfl (jb ce.int rfl (fE rfl rfl rfl (OL.nil ?_)))))))
   refine AW.cond rfl (λhc=>?_) (λhc=>?_)
   .have hc:(a.aB.getD k default).l=(w.getD i 0).toNat:=by have:=mX hc;omega
    refine AW.dg 1 [0,1,2,3,4,5,6,7,8,9,10,11,12,13,14,15,16,17,18,19] ak hE rfl (by kernel_rfl) (OI.aP (os:=[_,_,_,_,_,_,_,_,_,_,_,_,_,_,_,_,_,_,_,_]) rfl ?_)
    refine jl rfl (aV fd.Cj rfl rfl (aA ce.int rfl rfl rfl (jl rfl (aV fd.Cj rfl rfl (aA ce.int rfl rfl rfl (je sl.bF rfl rfl (by omega) (I5 ag.Rat 0 (by decide) rfl rfl (by omega) (vs:=[_,_,_]) rfl (au rfl) ?_)))))))
    refine aj rfl (aV fd.Ff rfl rfl (aA ce.int rfl rfl rfl (fD sl.bF 0 rfl rfl (by omega) rfl rfl (iR ag.Rat rfl (vs:=[_,_,_]) rfl (au rfl) (aV fd.qG rfl rfl (aV fd.gG rfl rfl (aQ ag.Rat rfl rfl (vs:=[_,_,_]) rfl (au rfl) ?_)))))))
    refine bP rfl vL (FU (x:=(ve a (w.take i)).getD (a.aB.getD k default).f 0) (y:=(a.aB.getD k default).q) (by omega) (by omega)) ?_
    refine bP rfl vL (Oj (x:=(kL a.st (ve a (w.take i)) (w.getD i 0).toNat (a.aB.take k)).getD (a.aB.getD k default).t 0) (y:=(ve a (w.take i)).getD (a.aB.getD k default).f 0*(a.aB.getD k default).q) (by omega) (by omega)) ?_
    refine je sl.bF rfl rfl (by omega) ?_
    refine J4 sz.Rat rfl (d:=dQ ((kL a.st (ve a (w.take i)) (w.getD i 0).toNat (a.aB.take k)).getD (a.aB.getD k default).t 0+(ve a (w.take i)).getD (a.aB.getD k default).f 0*(a.aB.getD k default).q)) EN rfl rfl (by rw[dL];omega) (es2:=((kL a.st (ve a (w.take i)) (w.getD i 0).toNat (a.aB.take k)).set (a.aB.getD k default).t ((kL a.st (ve a (w.take i)) (w.getD i 0).toNat (a.aB.take k)).getD (a.aB.getD k default).t 0+(ve a (w.take i)).getD (a.aB.getD k default).f 0*(a.aB.getD k default).q)).map dQ) (by rw[List.map_set]) ?_
    refine OL.nil (AW.rg hE rfl (aj rfl (aJ rfl rfl (by omega) (aG rfl (OL.nil ?_)))))
    exact AW.again (x:=k) (k+1) (by omega) ⟨by omega,Knows.app .Zn .dw,dP.app (.cons rfl .nil) (.cons (by rw[Ew (by omega),aE5 hc];rfl) .nil)⟩
   .have hc:¬ (a.aB.getD k default).l=(w.getD i 0).toNat:=by have:=oN hc;omega
    refine AW.skip (AW.rg hE rfl (aj rfl (aJ rfl rfl (by omega) (aG rfl (OL.nil ?_)))))
    exact AW.again (x:=k) (k+1) (by omega) ⟨by omega,Knows.app .Zn .dw,dP.app (.cons rfl .nil) (.cons (by rw[Ew (by omega),aE6 hc];rfl) .nil)⟩
  .try simp only[fG] at h26
   refine AW.exit ?_;obtain rfl:k=a.aB.length:=by omega
   refine AW.freeze 21 rfl (AW.to [(1,.d (ints w)),(2,.ptr 2 b2 0),(4,.mt),(6,.d (dI i)),(7,.d (gm (ve a (w.take (i+1)))))] [(2,.box b2 T.Auto [.d (dI 1),.d (.sl []),.d (dI a.sym),.d (dI a.st),.d (lC a.ini),.d (lC a.fin),.d (iL a.aB)])] (.cons vR (.cons vR (.cons vR (.cons vR (.cons (dM (by rw[dL,xB]) (by rw[O9 (by omega),List.take_length])) .nil))))) (.cons rfl .nil) ?_)
   refine AW.rg hE rfl (aj rfl (aG rfl (OL.nil (AW.rg hE rfl (aj rfl (aJ rfl rfl (by omega) (aG rfl ?_)))))))
   exact OL.nil (AW.again (x:=i) (i+1) (by omega) ⟨by omega,Knows.app .yI .jm,dP.app (.cons rfl .nil) (.nil)⟩)
 .try simp only[fG] at h16
  refine AW.exit (AW.seq ?_);obtain rfl:i=w.length:=by omega
  exact AW.rg hE rfl (aj rfl (aG rfl (OL.nil (AW.ret (aT.r ⟨_,.tmp rfl .nil,.le (by rw[List.take_length];exact bV.refl _)⟩)))))
theorem al2 {v:List Rat}{n N b c:Nat}{rs:List dh}(R:ac3 n N rs)(hv:v.length=n)(n6:n<=6)(N6:N<=6)(zv:∀ i,sz (v.getD i 0)<=16777215):fQ P F.yU [.bK 1000 b rs.length c,.d (gm v),.d (dI N)] (mem1 1000 (ac2 b c rs)) (.ag [.d (gm (bC rs v)),.d (gm (FV rs v (List.replicate N 0)))]) (mem1 1000 (ac2 b c rs)):=by
 have hle:=R.le;refine fQ.intro fn.yU (by rfl) (by rfl) (au (by rfl)) λE hE=>(AW.sg hE rfl (al z.row rfl λb6=>(OL.nil (AW.seq (AW.dg 1 [0,1,2,3,4,5,6] ak hE rfl (by kernel_rfl) (OI.aP (os:=[_,_,_,_,_,_,_]) rfl ?_))))))
 refine aj rfl (bP rfl vL (aU8 (l:=v) (by omega) (λi=>Nat.le_trans (zv i) (by decide))) (aj rfl (mkD (z:=dQ 0) sl.bF z.Rat Dx rfl rfl (by omega) (by omega) (Ko (cs:=[_,_]) z.row pl.row (jR (rq rfl) (jR (rq rfl) J9)) (by rfl) (al z.row rfl λb7=>(eG sz.row rfl rfl rfl rfl rfl (au rfl) (cells2:=[_,_]) rfl (OL.nil ?_)))))))
 refine AW.seq (AW.seq ?_);rw[show List.replicate N (dQ 0)=(List.replicate N (0:Rat)).map dQ from List.map_replicate.symm]
 refine AW.rg hE rfl (aG rfl (OL.nil (AW.block ?_)));refine AW.aX (α:=Nat) [(0,_),(6,_),(7,_)] [(6,_),(1000,_)] (λk=>[(8,.d (dI k))]) (λk=>[(7,.box b7 T.row [.d (gm (bC (rs.take k) v)),.d (gm (FV (rs.take k) v (List.replicate N 0)))])]) (λk=>k<=rs.length) (λk=>rs.length-k) 0 (.cons (BH rfl) (.cons (iF rfl) (.cons (iF rfl) .nil))) (.cons (jc rfl) (.cons (tJ rfl) .nil)) ⟨Nat.zero_le _,.dw,.cons rfl .nil⟩ ?_
 rintro k h1
 have h1:k<=rs.length:=h1;have hwl:(bC (rs.take k) v).length=v.length:=mD _ _;have htl:(FV (rs.take k) v (List.replicate N 0)).length=N:=by rw[Pv,List.length_replicate]
 refine AW.seq (AW.sg hE rfl (aj rfl (jl rfl (Qx sl.rows rfl rfl (bD rfl rfl rfl (OL.nil (AW.cond rfl (λh19=>?_) (λh19=>?_))))))))
 .try simp only[fG] at h19
  refine AW.skip (AW.seq (AW.block (AW.seq ?_)));have hkr:k<rs.length:=by omega
  obtain⟨zw,zt,zr,zc⟩:=R.bounds (w:=v) hkr zv;obtain⟨hp1,hp2,hp3⟩:=R.piv _ (vN hkr);have hrl:=R.len _ (vN hkr);have hcl:=R.cl _ (vN hkr);have zq:=TL ((bC (rs.take k) v).getD (rs.getD k default).p 0) ((rs.getD k default).v.getD (rs.getD k default).p 0);have zq1:=zw (rs.getD k default).p;have zq2:=zr (rs.getD k default).p;have zqq:sz (kz (bC (rs.take k) v) (rs.getD k default))<=34359738366:=Nat.le_trans zq (by omega)
  have hpl:Dc (rs.getD k default).v=((rs.getD k default).p:Int):=(Ez (by rw[<- hp1];omega)).trans (by rw[<- hp1])
  refine AW.rg hE rfl (jl rfl (aj rfl (je sl.rows rfl rfl hkr (faE fd.Oh rfl rfl (U3 ce.bF (by decide) rfl rfl (JQ hkr) (d:=gm (rs.getD k default).v) rfl (bP rfl vL (ac5 (v:=(rs.getD k default).v) (by omega) (λi=>Nat.le_trans (zr i) (by decide))) ?_))))))
  rw[hpl];refine aG rfl (OL.nil (AW.seq (AW.dg 1 [0,1,2,3,4,5,6,7,8,9,10,11,12,13,14,15] ak hE rfl (by kernel_rfl) (OI.aP (os:=[_,_,_,_,_,_,_,_,_,_,_,_,_,_,_,_]) rfl ?_))))
  refine aV fd.Oh rfl rfl (aA ce.bF rfl rfl rfl (aj rfl (fD sl.bF 0 rfl rfl (by omega) rfl rfl (iR ag.Rat rfl (vs:=[_,_,_]) rfl (au rfl) (jl rfl (aj rfl (je sl.rows rfl rfl hkr ?_)))))))
  refine faE fd.Oh rfl rfl (U3 ce.bF (by decide) rfl rfl (JQ hkr) (d:=gm (rs.getD k default).v) rfl (aj rfl (fD sl.bF 0 rfl rfl (by omega) rfl rfl (iR ag.Rat rfl (vs:=[_,_,_]) rfl (au rfl) (bP rfl vL (aE9 (x:=(bC (rs.take k) v).getD (rs.getD k default).p 0) (y:=(rs.getD k default).v.getD (rs.getD k default).p 0) (by omega) (by omega) hp3) ?_)))))
  rw[<- Yp];refine al z.Rat rfl λb10=>(eG sz.Rat rfl rfl rfl rfl rfl (au rfl) (cells2:=[_,_,_]) rfl (OL.nil (AW.dg 1 [0,1,2,3,4,5,6,7,8,9,10,11,12,13,14,15,16,17,18,19,20,21] ak hE rfl (by kernel_rfl) (OI.aP (os:=[_,_,_,_,_,_,_,_,_,_,_,_,_,_,_,_,_,_,_,_,_,_]) rfl ?_))))
  refine aV fd.Oh rfl rfl (aA ce.bF rfl rfl rfl (jl rfl (aj rfl (je sl.rows rfl rfl hkr (faE fd.Oh rfl rfl (U3 ce.bF (by decide) rfl rfl (JQ hkr) (d:=gm (rs.getD k default).v) rfl (aQ ag.Rat rfl rfl (vs:=[_,_,_]) rfl (au rfl) ?_)))))))
  refine bP rfl vL (ac6 (v:=(bC (rs.take k) v)) (w:=(rs.getD k default).v) (c:=kz (bC (rs.take k) v) (rs.getD k default)) (by omega) (by omega) zw zr zqq) (aV fd.av4 rfl rfl (aA ce.bF rfl rfl rfl (jl rfl (aj rfl (je sl.rows rfl rfl hkr (faE fd.av4 rfl rfl (U3 ce.bF (by decide) rfl rfl (JQ hkr) (d:=gm (rs.getD k default).c) rfl ?_)))))))
  refine aQ ag.Rat rfl rfl (vs:=[_,_,_]) rfl (au rfl) (bP rfl vL (ac6 (v:=(FV (rs.take k) v (List.replicate N 0))) (w:=(rs.getD k default).c) (c:=kz (bC (rs.take k) v) (rs.getD k default)) (by omega) (by omega) zt zc zqq) (aV fd.Oh rfl rfl (eG sz.bF rfl rfl rfl rfl rfl (au rfl) (cells2:=[_,_]) rfl (aV fd.av4 rfl rfl (eG sz.bF rfl rfl rfl rfl rfl (au rfl) (cells2:=[_,_]) rfl (OL.nil (AW.rg hE rfl ?_)))))))
  refine aj rfl (aJ rfl rfl (by omega) (aG rfl (OL.nil ?_)))
  exact AW.again (x:=k) (k+1) (by omega) ⟨by omega,Knows.app .yI .dw,dP.app (.cons rfl (.cons rfl .nil)) (.cons (by rw[CV hkr,ak9 hkr,<- Yz];rfl) .nil)⟩
 .try simp only[fG] at h19
  refine AW.exit (AW.seq ?_);obtain rfl:k=rs.length:=by omega
  rw[List.take_length];exact AW.rg hE rfl (aQ ag.row rfl rfl (vs:=[_,_]) rfl (au rfl) (eG sz.row rfl rfl rfl rfl rfl (au rfl) (cells2:=[_,_]) rfl (OL.nil (AW.ret ⟨⟨_,.dK rfl rfl ag.row (au rfl) .nil,.ag (.cons (.le vR) (.cons (.le vR) .nil))⟩,fF rfl⟩))))
theorem RY {vs:List (List Rat)}{n:Nat}(hn:1<=n/\n<=6)(nl:vs.length<=6)(hl:∀ v,v ∈ vs->v.length=n)(zv:∀ v,v ∈ vs->∀ i,sz (v.getD i 0)<=16777215):ai P F.yR [.d (.sl (vs.map gm))] (.oM [.d (ints (Hf vs vs.length)),.d (dI 0)]):=by
 refine ai.intro fn.yR (by rfl) (by rfl) (au (by rfl)) λE hE=>(AW.sg hE rfl (nI rfl (aG rfl (OL.nil (AW.seq (AW.sg hE rfl (aj rfl ?_)))))))
 refine fO sl.dm rfl rfl (kS rfl rfl (c:=false) (by exact decide_eq_false (by omega)) (aj rfl (OL.yes rfl (aj rfl (OL.yes rfl (bP rfl vL (aF1 (l:=vs) (n:=n) (by omega) (by omega) hl) (OL.yes rfl ?_)))))))
 refine nt rfl (oI rfl rfl (OL.nil (pW rfl ?_)));refine AW.skip (AW.sg hE rfl (nI rfl (OL.nil (AW.seq (AW.own 4 39 T.int 1 rfl rfl (AW.rg hE rfl (nI rfl ?_)))))));refine OL.nil (AW.seq (AW.seq (AW.own 5 35 T.row 2 rfl rfl (AW.rg hE rfl (aG rfl (OL.nil (AW.block ?_)))))));refine AW.aX (α:=Nat × Nat × Nat × Nat × Nat) [(0,_),(2,_),(3,_)] [] (λ(i,bq,cq,bp,cp)=>[(4,.bK 39 bq (Hf vs i).length cq),(5,.bK 35 bp ((rX vs i).map stripR).length cp),(6,.d (dI i))]) (λ(i,bq,cq,bp,cp)=>[(39,.row bq cq T.int 1 ((Hf vs i).map dI)),(35,ac2 bp cp ((rX vs i).map stripR))]) (λ(i,bq,cq,bp,cp)=>i<=vs.length) (λ(i,bq,cq,bp,cp)=>vs.length-i) (0,0,0,0,0) (.cons (dA rfl) (.cons (BO rfl) (.cons (dA rfl) .nil))) .nil ⟨Nat.zero_le _,.yI,.cons rfl (.cons rfl .nil)⟩ ?_
 rintro⟨i,bq,cq,bp,cp⟩ h1
 have h1:i<=vs.length:=h1;obtain⟨spo,hld⟩:=ac7 hl zv h1;have bO9:=spo.le;have hxl:=FW h1;have hsl:((rX vs i).map stripR).length=(rX vs i).length:=dL ..;refine AW.seq (AW.sg hE rfl (aj rfl (aj rfl (fO sl.dm rfl rfl (bD rfl rfl rfl (OL.nil (AW.cond rfl (λh19=>?_) (λh19=>?_))))))))
 .try simp only[fG] at h19
  refine AW.skip (AW.seq (AW.block (AW.seq ?_)));have hi:i<vs.length:=by omega
  have hvl:=hl _ (getD_mem hi []);have zvi:=zv _ (getD_mem hi []);refine AW.rg hE rfl (jl rfl (aj rfl (aj rfl (fD sl.dm [] rfl rfl (by omega) rfl rfl (jb ce.bF rfl ?_)))))
  refine X3 (oJ:=[.bK 35 bp ((rX vs i).map stripR).length cp,.d (gm (vs.getD i [])),.d (dI (0:Nat))]) rfl vL (fQ.G5 (al2 (v:=(vs.getD i [])) (N:=0) (b:=bp) (c:=cp) (qU.bt0 spo hld hn.2) hvl hn.2 (by decide) zvi) (.cons bV.bK .jm)) (fF (id:=35) (blk:=ac2 bp cp ((rX vs i).map stripR)) rfl) ?_
  rw[Py,al0];refine al z.row rfl λb7=>(eG sz.row rfl rfl rfl rfl rfl (au rfl) (cells2:=[_,_]) rfl (OL.nil (AW.sg hE rfl (aV fd.Oh rfl rfl (aA ce.bF rfl rfl rfl (bP rfl vL (ac5 (v:=bC (rX vs i) (vs.getD i [])) (by rw[mD];omega) (λj=>Nat.le_trans ((spo.sz.last (by omega) zvi).1 j) (by decide))) (tH rfl rfl rfl ?_)))))))
  refine OL.nil (AW.cond rfl (λhg=>?_) (λhg=>?_))
  .have hg:bW (rX vs i) (vs.getD i [])=true:=Decidable.byContradiction λh9=>by have:=GR.2 (Bool.eq_false_iff.2 h9);have:=mX hg;omega
   have hx1:Hf vs (i+1)=Hf vs i++[(i:Int)]:=by rw[Hf,if_pos hg]
   have hs1:(rX vs (i+1)).map stripR=((rX vs i).map stripR)++[(stripR (newR (rX vs i) (vs.getD i [])))]:=by rw[aF2 hi hg,List.map_append];rfl
   refine AW.rg hE rfl (jl rfl (aQ ag.row rfl rfl (vs:=[_,_]) rfl (au rfl) (xG (y:=dSK (stripR (newR (rX vs i) (vs.getD i [])))) sl.rows (bs9 (r:=(stripR (newR (rX vs i) (vs.getD i []))))) rfl (by decide) ?_)))
   refine Am sl.rows rfl rfl rfl (dL ..).symm (VC.d _) (λy hy=>by rw[lV hy];rfl) (by simp only[kC];omega) (by simp only[kC];omega) (.inr rfl) (ys:=((rX vs (i+1)).map stripR).map dSK) (by rw[hs1,List.map_append (f:=dSK)];rfl) (n2:=((rX vs (i+1)).map stripR).length) (by rw[hs1,jd];rfl) λb35 c35=>?_
   refine jl rfl (aj rfl (xG (y:=dI i) sl.ints (VC.d _).vd rfl (by decide) ?_))
   refine Am sl.ints rfl rfl rfl (by rw[dL]) (VC.d _) (λy hy=>by rw[lV hy];rfl) (by simp only[kC];omega) (by simp only[kC];omega) (.inr rfl) (ys:=(Hf vs (i+1)).map dI) (by rw[hx1,List.map_append];rfl) (n2:=(Hf vs (i+1)).length) (by rw[hx1,jd];rfl) λb39 c39=>?_
   refine uf rfl (uf rfl (OL.nil (AW.rg hE rfl (aj rfl (aJ rfl rfl (by omega) (aG rfl (OL.nil ?_)))))))
   exact AW.again (x:=(i,bq,cq,bp,cp)) (i+1,b39,c39,b35,c35) (by (simp only[];omega)) ⟨by omega,Knows.app .yI .yI,.cons rfl (.cons rfl .nil)⟩
  .have hg:bW (rX vs i) (vs.getD i [])=false:=GR.1 (by have:=oN hg;omega)
   refine AW.skip (AW.rg hE rfl (aj rfl (aJ rfl rfl (by omega) (aG rfl (OL.nil ?_)))))
   exact AW.again (x:=(i,bq,cq,bp,cp)) (i+1,bq,cq,bp,cp) (by (simp only[];omega)) ⟨by omega,Knows.app .yI (.cons (by rw[Hf,if_neg (by rw[hg];exact Bool.false_ne_true)];exact bV.refl _) (.cons (by rw[YT (by omega) hg];exact bV.refl _) .dw)),.cons (by rw[Hf,if_neg (by rw[hg];exact Bool.false_ne_true)];rfl) (.cons (by rw[YT (by omega) hg];rfl) .nil)⟩
 .try simp only[fG] at h19
  refine AW.exit (AW.seq ?_);obtain rfl:i=vs.length:=by omega
  exact AW.rg hE rfl (jl rfl (uf rfl (aG rfl (OL.nil (AW.ret (aT.r ⟨_,.tmp rfl (.tmp rfl .nil),_,.cons (RO.all rfl rfl (by rw[dL]) rfl) (.cons (.le vR) .nil),rfl⟩))))))
theorem YU {v:List Rat}{n b c:Nat}{rs:List dh}(sp:qU n 16777215 rs)(hld:∀ r,r ∈ rs->r.p=eU r.v)(hv:v.length=n)(n6:n<=6)(zv:∀ i,sz (v.getD i 0)<=16777215):fQ P F.xU [.bK 1000 b (rs.map iM).length c,.d (gm v)] (mem1 1000 (.row b c T.bF 1 ((rs.map iM).map gm))) (.d (gm (EL rs v))) (mem1 1000 (.row b c T.bF 1 ((rs.map iM).map gm))):=by
 have hle:=sp.le;have hul:(rs.map iM).length=rs.length:=dL ..;refine fQ.intro fn.xU (by rfl) (by rfl) (au (by rfl)) λE hE=>?_
 refine AW.sg hE rfl ?_;refine nI rfl ?_;refine OL.nil ?_;refine AW.sg hE rfl ?_;refine aj rfl ?_;refine apM sl.bF rfl rfl (VC.d _) bg0 (by simp;omega) (by simp;omega) rfl λb13 c13=>?_
 refine uf rfl (OL.nil (AW.seq (AW.seq ?_)));refine AW.to [(0,.bK 1000 b (rs.map iM).length c),(5,.bK 13 b13 v.length c13)] [(1000,.row b c T.bF 1 ((rs.map iM).map gm)),(13,.row b13 c13 T.Rat 3 (v.map dQ))] (.cons vR (.cons (aC (by show V.bK 13 b13 (v.map dQ).length c13=_;rw[dL])) .nil)) (.cons rfl (.cons rfl .nil)) ?_
 refine AW.rg hE rfl (aG rfl (OL.nil (AW.block ?_)));refine AW.aX (α:=Nat) [(0,_),(4,_),(5,_)] [(1000,_)] (λi=>[(6,.d (dI i))]) (λi=>[(13,.row b13 c13 T.Rat 3 ((bC (rs.take i) v).map dQ))]) (λi=>i<=rs.length) (λi=>rs.length-i) 0 (.cons (BH rfl) (.cons (knJ) (.cons (BH rfl) .nil))) (.cons (tJ rfl) .nil) ⟨Nat.zero_le _,.dw,.cons rfl .nil⟩ ?_
 rintro i h1
 have h1:i<=rs.length:=h1;have hcl:(bC (rs.take i) v).length=v.length:=mD _ _;refine AW.seq (AW.sg hE rfl (aj rfl (jl rfl (Qx sl.dm rfl rfl (bD rfl rfl rfl (OL.nil (AW.cond rfl (λh17=>?_) (λh17=>?_))))))))
 .try simp only[fG] at h17
  refine AW.skip (AW.seq (AW.block (AW.seq ?_)));have hi:i<rs.length:=by omega
  obtain⟨zw,_,zr,_⟩:=sp.sz.bounds (w:=v) (n:=0) (by omega) hi zv
  obtain⟨hp1,hp2⟩:=sp.ech.piv _ (vN hi);have hrl:=sp.len _ (vN hi);have hpl:Dc (iM (rs.getD i default))=((rs.getD i default).p:Int):=Ph (hld _ (vN hi)) (by omega) hp2
  have bP4:=zA (r:=(rs.getD i default));have zu:=WE zr;refine AW.rg hE rfl (jl rfl (jl rfl (aj rfl (je sl.dm rfl rfl (by omega) (U3 ce.bF (by decide) rfl rfl (WU hi) (d:=gm (iM (rs.getD i default))) rfl (bP rfl vL (Ur (v:=iM (rs.getD i default)) (by omega) (λj=>Nat.le_trans (zu j) (by decide))) ?_))))))
  rw[hpl];refine je sl.bF rfl rfl (by omega) (I5 ag.Rat 0 (by decide) rfl rfl (by omega) (vs:=[_,_,_]) rfl (au rfl) (al z.Rat rfl λb7=>(eG sz.Rat rfl rfl rfl rfl rfl (au rfl) (cells2:=[_,_,_]) rfl (OL.nil (AW.sg hE rfl (aG rfl (OL.nil ?_)))))))
  refine AW.block ?_;refine AW.aX (α:=Nat) [(0,_),(4,_),(5,_),(6,_),(7,_)] [(7,_),(1000,_)] (λj=>[(8,.d (dI j))]) (λj=>[(13,.row b13 c13 T.Rat 3 ((wP (bC (rs.take i) v) (λj=>(bC (rs.take i) v).getD j 0-((bC (rs.take i) v).getD (rs.getD i default).p 0)*(iM (rs.getD i default)).getD j 0) j).map dQ))]) (λj=>j<=v.length/\(((bC (rs.take i) v).getD (rs.getD i default).p 0)=0->j=0)) (λj=>v.length-j) 0 (.cons (BH rfl) (.cons (knJ) (.cons (BH rfl) (.cons (dA rfl) (.cons (iF rfl) .nil))))) (.cons (jc rfl) (.cons (tJ rfl) .nil)) ⟨⟨Nat.zero_le _,λ_=>rfl⟩,.dw,.cons (by rw[CU];rfl) .nil⟩ ?_
  rintro j ⟨h2,hj0⟩
  have h2:j<=v.length:=h2;have hj0:((bC (rs.take i) v).getD (rs.getD i default).p 0)=0->j=0:=hj0;have hml:(wP (bC (rs.take i) v) (λj=>(bC (rs.take i) v).getD j 0-((bC (rs.take i) v).getD (rs.getD i default).p 0)*(iM (rs.getD i default)).getD j 0) j).length=v.length:=CS.trans hcl;have z1:=zw (rs.getD i default).p;refine AW.seq (AW.sg hE rfl (aj rfl (jl rfl (Qx sl.bF rfl rfl (bD rfl rfl rfl (OL.split 31 rfl (λha=>?_) (λha=>?_)))))))
  .have ha:j<v.length:=by have:=mX ha;omega
   refine aj rfl (OL.yes rfl (aQ ag.Rat rfl rfl (vs:=[_,_,_]) rfl (au rfl) (OL.yes rfl (bP rfl vL (Gq (x:=((bC (rs.take i) v).getD (rs.getD i default).p 0)) (by omega)) (OL.yes rfl (fJ rfl rfl rfl (OL.split 35 rfl (λhf=>?_) (λhf=>?_))))))))
   .have hf:((bC (rs.take i) v).getD (rs.getD i default).p 0)≠0:=λe=>zH hf (qg.2 e);refine nJ rfl rfl (OL.nil (F6 rfl ?_));refine AW.skip (AW.seq (AW.block ?_));have hgj:(wP (bC (rs.take i) v) (λj=>(bC (rs.take i) v).getD j 0-((bC (rs.take i) v).getD (rs.getD i default).p 0)*(iM (rs.getD i default)).getD j 0) j).getD j 0=(bC (rs.take i) v).getD j 0:=JE (by omega)
    have z2:=zw j;have z3:=zu j;have z4:=jS ((bC (rs.take i) v).getD (rs.getD i default).p 0) ((iM (rs.getD i default)).getD j 0);refine AW.dg 1 [0,1,2,3,4,5,6,7,8,9,10,11,12,13,14,15,16,17] ak hE rfl (by kernel_rfl) (OI.aP (os:=[_,_,_,_,_,_,_,_,_,_,_,_,_,_,_,_,_,_]) rfl ?_)
    refine jl rfl (aj rfl (jl rfl (aj rfl (je sl.bF rfl rfl (by omega) (I5 ag.Rat 0 (by decide) rfl rfl (by omega) (vs:=[_,_,_]) rfl (au rfl) ?_)))))
    rw[hgj];refine aQ ag.Rat rfl rfl (vs:=[_,_,_]) rfl (au rfl) (jl rfl (aj rfl (je sl.dm rfl rfl (by omega) (U3 ce.bF (by decide) rfl rfl (WU hi) (d:=gm (iM (rs.getD i default))) rfl (aj rfl (fD sl.bF 0 rfl rfl (by omega) rfl rfl (iR ag.Rat rfl (vs:=[_,_,_]) rfl (au rfl) ?_)))))))
    refine bP rfl vL (FU (x:=((bC (rs.take i) v).getD (rs.getD i default).p 0)) (y:=(iM (rs.getD i default)).getD j 0) (by omega) (by omega)) (bP rfl vL (Vr (x:=(bC (rs.take i) v).getD j 0) (y:=((bC (rs.take i) v).getD (rs.getD i default).p 0)*(iM (rs.getD i default)).getD j 0) (by omega) (by omega)) (je sl.bF rfl rfl (by omega) ?_))
    refine J4 sz.Rat rfl (d:=dQ ((λj=>(bC (rs.take i) v).getD j 0-((bC (rs.take i) v).getD (rs.getD i default).p 0)*(iM (rs.getD i default)).getD j 0) j)) EN rfl rfl (by rw[dL];omega) (es2:=((wP (bC (rs.take i) v) (λj=>(bC (rs.take i) v).getD j 0-((bC (rs.take i) v).getD (rs.getD i default).p 0)*(iM (rs.getD i default)).getD j 0) j).set j ((λj=>(bC (rs.take i) v).getD j 0-((bC (rs.take i) v).getD (rs.getD i default).p 0)*(iM (rs.getD i default)).getD j 0) j)).map dQ) (by rw[List.map_set]) ?_
    refine OL.nil (AW.rg hE rfl (aj rfl (aJ rfl rfl (by omega) (aG rfl (OL.nil ?_)))))
    exact AW.again (x:=j) (j+1) (by omega) ⟨⟨by omega,λh=>absurd h hf⟩,Knows.app .I7 .dw,dP.app (.cons rfl (.cons rfl .nil)) (.cons (by rw[<- JF (show j<(bC (rs.take i) v).length by omega)];rfl) .nil)⟩
   .have hf:((bC (rs.take i) v).getD (rs.getD i default).p 0)=0:=qg.1 (yc hf);refine nJ rfl rfl (OL.nil (pW rfl ?_));refine AW.exit (AW.rg hE rfl (aj rfl (aJ rfl rfl (by omega) (aG rfl (OL.nil ?_)))))
    exact AW.again (x:=i) (i+1) (by omega) ⟨by omega,Knows.app .yI .dw,dP.app (.cons rfl .nil) (.cons (by rw[CV hi,Jo (by rw[Yp,hf];rw[Rat.div_def,Rat.zero_mul]),hj0 hf,CU];rfl) .nil)⟩
  .have ha:¬ j<v.length:=by have:=oN ha;omega
   obtain rfl:j=v.length:=by omega
   refine aj rfl (OL.nd rfl (OL.nd rfl (OL.nd rfl (oI rfl rfl (OL.nil (pW rfl ?_))))));exact AW.exit (AW.rg hE rfl (aj rfl (aJ rfl rfl (by omega) (aG rfl (OL.nil (AW.again (x:=i) (i+1) (by omega) ⟨by omega,Knows.app .yI .dw,dP.app (.cons rfl .nil) (.cons (by rw[CV hi,<- Yw hp2,<- aF3,hcl];rfl) .nil)⟩))))))
 .try simp only[fG] at h17
  refine AW.exit (AW.seq ?_);obtain rfl:i=rs.length:=by omega
  rw[List.take_length];rw[List.take_length] at hcl;obtain⟨zl,_⟩:=sp.sz.last (w:=v) (by omega) zv
  refine AW.rg hE rfl (jl rfl ?_);refine X3 (oJ:=[.bK 13 b13 v.length c13]) rfl vL (ai.read (Ur (v:=(bC rs v)) (by omega) (λj=>Nat.le_trans (zl j) (by decide))) (.cons (dM (by rw[dL];omega) rfl) .nil)) (fF (id:=13) (blk:=.row b13 c13 T.Rat 3 ((bC rs v).map dQ)) rfl) ?_
  refine aG rfl (OL.nil (AW.seq (AW.sg hE rfl (aj rfl (bD rfl rfl rfl (OL.nil (AW.cond rfl (λhg=>?_) (λhg=>?_))))))))
  .have hg:bW rs v=false:=GR.1 (mX hg);exact AW.sg hE rfl (jl rfl (uf rfl (OL.nil (AW.ret ⟨⟨_,.tmp rfl .nil,RO.all rfl rfl (by rw[dL];omega) (by rw[al1 hg])⟩,fF rfl⟩))))
  .have hg:bW rs v=true:=Decidable.byContradiction λh9=>by have:=GR.2 (Bool.eq_false_iff.2 h9);have:=oN hg;omega
   have hpp:eU (bC rs v)<(bC rs v).length:=BA.1 hg;have hpl2:Dc (bC rs v)=((eU (bC rs v):Nat):Int):=Ez hpp;rw[hpl2];have hnz:=vH hpp;refine AW.skip (AW.sg hE rfl (jl rfl (aj rfl (je sl.bF rfl rfl (by omega) (I5 ag.Rat 0 (by decide) rfl rfl (by omega) (vs:=[_,_,_]) rfl (au rfl) (al z.Rat rfl λb10=>(eG sz.Rat rfl rfl rfl rfl rfl (au rfl) (cells2:=[_,_,_]) rfl ?_)))))))
   refine OL.nil (AW.seq (AW.sg hE rfl (aG rfl (OL.nil (AW.block ?_)))));refine AW.aX (α:=Nat) [(4,_),(5,_),(10,_)] [(10,_),(1000,_)] (λj=>[(11,.d (dI j))]) (λj=>[(13,.row b13 c13 T.Rat 3 ((wP (bC rs v) (λj=>(bC rs v).getD j 0 / (bC rs v).getD (eU (bC rs v)) 0) j).map dQ))]) (λj=>j<=v.length) (λj=>v.length-j) 0 (.cons (knJ) (.cons (BH rfl) (.cons (iF rfl) .nil))) (.cons (jc rfl) (.cons (tJ rfl) .nil)) ⟨Nat.zero_le _,.dw,.cons (by rw[CU];rfl) .nil⟩ ?_
   rintro j h2
   have h2:j<=v.length:=h2;have hml:(wP (bC rs v) (λj=>(bC rs v).getD j 0 / (bC rs v).getD (eU (bC rs v)) 0) j).length=v.length:=CS.trans hcl;have z1:=zl (eU (bC rs v));have z2:=zl j;refine AW.seq (AW.sg hE rfl (aj rfl (jl rfl (Qx sl.bF rfl rfl (bD rfl rfl rfl (OL.nil (AW.cond rfl (λh68=>?_) (λh68=>?_))))))))
   .try simp only[fG] at h68
    refine AW.skip (AW.seq (AW.block ?_));have hgj:(wP (bC rs v) (λj=>(bC rs v).getD j 0 / (bC rs v).getD (eU (bC rs v)) 0) j).getD j 0=(bC rs v).getD j 0:=JE (by omega)
    refine AW.dg 1 [0,1,2,3,4,5,6,7,8,9,10,11,12] ak hE rfl (by kernel_rfl) (OI.aP (os:=[_,_,_,_,_,_,_,_,_,_,_,_,_]) rfl ?_)
    refine jl rfl (aj rfl (jl rfl (aj rfl (je sl.bF rfl rfl (by omega) (I5 ag.Rat 0 (by decide) rfl rfl (by omega) (vs:=[_,_,_]) rfl (au rfl) ?_)))))
    rw[hgj];refine aQ ag.Rat rfl rfl (vs:=[_,_,_]) rfl (au rfl) (bP rfl vL (aE8 (x:=(bC rs v).getD j 0) (y:=(bC rs v).getD (eU (bC rs v)) 0) (by omega) (by omega) hnz) (ES rfl (ex rfl rfl (ex rfl rfl (je sl.bF rfl rfl (by omega) ?_)))))
    refine J4 sz.Rat rfl (d:=dQ ((λj=>(bC rs v).getD j 0 / (bC rs v).getD (eU (bC rs v)) 0) j)) EN rfl rfl (by rw[dL];omega) (es2:=((wP (bC rs v) (λj=>(bC rs v).getD j 0 / (bC rs v).getD (eU (bC rs v)) 0) j).set j ((λj=>(bC rs v).getD j 0 / (bC rs v).getD (eU (bC rs v)) 0) j)).map dQ) (by rw[List.map_set]) ?_
    refine OL.nil (AW.rg hE rfl (aj rfl (aJ rfl rfl (by omega) (aG rfl (OL.nil ?_)))))
    exact AW.again (x:=j) (j+1) (by omega) ⟨by omega,Knows.app .yI .dw,dP.app (.cons rfl (.cons rfl .nil)) (.cons (by rw[<- JF (show j<(bC rs v).length by omega)];rfl) .nil)⟩
   .try simp only[fG] at h68
    refine AW.exit (AW.seq ?_);obtain rfl:j=v.length:=by omega
    rw[<- hcl,aU9];exact AW.rg hE rfl (jl rfl (uf rfl (OL.nil (AW.ret ⟨⟨_,.tmp rfl .nil,RO.all rfl rfl (by rw[dL,zA];rfl) (by rw[RI hg])⟩,fF rfl⟩))))

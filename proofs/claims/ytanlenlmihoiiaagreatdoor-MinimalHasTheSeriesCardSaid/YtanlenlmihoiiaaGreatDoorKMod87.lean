/-
  M, chapter 23: a row that is turned element by element; reductions step by step.
-/
import Derived.Test.YtanlenlmihoiiaaGreatDoorKWkJ
set_option linter.unusedVariables false
set_option linter.unusedSimpArgs false
namespace Go.Proofs.YtanlenlmihoiiaaGreatDoor
open Go Go.AL
def FP (w:List Rat):Int:=if eU w<w.length then (eU w:Int) else -1
theorem az6 {w:List Rat}{i:Nat}(hi:i<w.length)(h:∀ j,j<i->w.getD j 0=0)(h0:w.getD i 0≠0):FP w=(i:Int):=by
 have e:eU w=i:=by
  rcases Nat.lt_trichotomy (eU w) i with k|k|k
  .exact absurd (h _ k) (vH (by omega))
  .exact k
  .exact absurd (uy k) h0
 unfold FP;rw[e,if_pos hi]
theorem az7 {w:List Rat}(h:∀ j,j<w.length->w.getD j 0=0):FP w = -1:=by
 unfold FP;rw[if_neg (by rw[OA.2 h];exact Nat.lt_irrefl _)]
def FQ (mi:Bool)(l:List Rat):List Rat:=l.map λx=>if mi=true then -x else x
theorem O3 (mi:Bool)(l:List Rat):(FQ mi l).length=l.length:=by simp[FQ]
theorem V5 {mi:Bool}{l:List Rat}{i:Nat}(hi:i<l.length):(FQ mi l).getD i 0=if mi=true then -(l.getD i 0) else l.getD i 0:=by
 unfold FQ;rw[iO,List.getElem?_map,iO,lF hi];rfl
theorem V6 {u v:List Rat}(i:Nat):mZ i (vf u) (vf v)+u.getD i 0*v.getD i 0=mZ (i+1) (vf u) (vf v):=rfl
theorem az8 {u v:List Rat}{i:Nat}(h:u.getD i 0=0):mZ (i+1) (vf u) (vf v)=mZ i (vf u) (vf v):=by rw[<- V6,h,Rat.zero_mul,Rat.add_zero]
theorem ai9 {m:bQ}{v:List Rat}{s:Nat}:pU m v s 0 0=List.replicate m.n 0:=by
 rw[Yi,List.map_const',List.length_range]
theorem Qk {x y:Rat}(hx:sz x<=68719476736)(hy:sz y<=68719476736):ai P F.qw [vQ x,vQ y] (vQ (x-y)):=by
 have h:=qw (x:=iD x) (y:=iD y) (kD (by omega)) (kD (by omega))
 rw[oK,oK] at h;exact h
theorem Ql {x y:Rat}(hx:sz x<=68719476736)(hy:sz y<=68719476736)(h0:y≠0):ai P F.qp [vQ x,vQ y] (.oM [vQ (x / y),.d (dI 0)]):=by
 have h:=qp (x:=iD x) (y:=iD y) (kD (by omega)) (kD (by omega))
 rw[oK,oK,if_neg h0,if_neg h0] at h;exact h
abbrev JC (m:bQ)(L:List (List Int)):D:=.sl (L.map (yH m))
theorem Ht {q:Rat}(hz:sz q<=68719476745):ai P F.yT [vQ q] (vQ (-q)):=by
 have sn:=lI q;have sd:=lJ q;refine ai.intro fn.yT (by rfl) (by rfl) (au (by rfl)) λE hE=>(AW.sg hE rfl (iG rfl rfl λb1=>(al z.Rat rfl λb2=>(OL.nil (AW.sg hE rfl (aQ ag.Rat rfl rfl (vs:=[_,_,_]) rfl (au rfl) (bP rfl vL (iK (kD (q:=q) (by omega))) ?_)))))))
 rw[oK];refine bP rfl vL (Bo) (bP rfl vL (sW (s:=!decide (q.num<0)) (n:=q.num.natAbs) (d:=q.den) (by omega) (by omega) q.den_nz) ?_)
 rw[<- as3,mY];exact eG sz.Rat rfl rfl rfl rfl rfl (au rfl) (cells2:=[_,_,_]) rfl (OL.nil (AW.ret (aT.r ⟨_,.dK rfl rfl ag.Rat (au rfl) .nil,.ag (.cons (.le vR) (.cons (.le vR) (.cons (.le vR) .nil)))⟩)))
theorem bp4 {u v:List Rat}{n:Nat}(hu:u.length=n)(hv:v.length=n)(n6:n<=6)(zu:∀ i,sz (u.getD i 0)<=5764801)(zv:∀ i,sz (v.getD i 0)<=5764801):ai P F.Jf [.d (gm u),.d (gm v)] (vQ (mZ n (vf u) (vf v))):=by
 subst hu;refine ai.intro fn.Jf (by rfl) (by rfl) (au (by rfl)) λE hE=>(AW.sg hE rfl (al z.Rat rfl λb4=>(OL.nil (AW.sg hE rfl (al z.Rat rfl λb5=>(OL.nil (AW.seq ?_)))))))
 refine AW.sg hE rfl (aj rfl (fO sl.bF rfl rfl (aj rfl (OL.nil (AW.block (AW.pV 5 (Kq 0) rfl au3 ?_))))));refine AW.aX (α:=Nat) [(1,_),(4,_),(5,_),(8,_),(9,_)] [(4,_)] (λi=>[(10,.d (dI i))]) (λi=>[(5,.box b5 T.Rat (Kq (mZ i (vf u) (vf v))))]) (λi=>i<=u.length) (λi=>u.length-i) 0 (.cons (dA rfl) (.cons (iF rfl) (.cons (iF rfl) (.cons (dA rfl) (.cons (dA rfl) .nil))))) (.cons (jc rfl) .nil) ⟨Nat.zero_le _,.dw,.cons rfl .nil⟩ ?_;intro i h1;have h1:i<=u.length:=h1;have zd:sz (mZ i (vf u) (vf v))<=69177619:=KH (n:=i) (by omega) zu zv
 refine AW.sg hE rfl (bD rfl rfl rfl (OL.nil (AW.seq (AW.cond rfl (λh11=>?_) (λh11=>?_)))))
 .try simp only[fG] at h11
  refine AW.skip (AW.seq (AW.block (AW.seq ?_)));have zx:=zu i;have zy:=zv i;have zm:=jS (u.getD i 0) (v.getD i 0);refine AW.rg hE rfl (aj rfl (fD sl.bF 0 rfl rfl (by omega) rfl rfl (iR ag.Rat rfl (vs:=[_,_,_]) rfl (au rfl) (al z.Rat rfl λb7=>(aG rfl (eG sz.Rat rfl rfl rfl rfl rfl (au rfl) (cells2:=[_,_,_]) rfl (OL.nil ?_)))))))
  refine AW.sg hE rfl (aQ ag.Rat rfl rfl (vs:=[_,_,_]) rfl (au rfl) (bP rfl vL (rV (x:=u.getD i 0) (by omega)) (fJ rfl rfl rfl (OL.nil (AW.cond rfl (λhx=>?_) (λhx=>?_))))))
  .have _hx:=hx;refine AW.dg 1 [0,1,2,3,4,5,6,7,8] ak hE rfl (by kernel_rfl) (OI.aP (os:=[_,_,_,_,_,_,_,_,_]) rfl ?_)
   refine aQ ag.Rat rfl rfl (vs:=[_,_,_]) rfl (au rfl) (aQ ag.Rat rfl rfl (vs:=[_,_,_]) rfl (au rfl) (aj rfl (aj rfl (fD sl.bF 0 rfl rfl (by omega) rfl rfl (iR ag.Rat rfl (vs:=[_,_,_]) rfl (au rfl) (bP rfl vL (xY (x:=u.getD i 0) (y:=v.getD i 0) (by omega) (by omega)) (bP rfl vL (uw (x:=mZ i (vf u) (vf v)) (y:=u.getD i 0*v.getD i 0) (by omega) (by omega)) ?_)))))))
   rw[V6];exact eG sz.Rat rfl rfl rfl rfl rfl (au rfl) (cells2:=[_,_,_]) rfl (OL.nil (AW.rg hE rfl (aJ rfl rfl (by omega) (aj rfl (OL.nil (AW.again (x:=i) (i+1) (by omega) ⟨by omega,Knows.app .I7 .dw,dP.app (.cons rfl .nil) (.cons rfl .nil)⟩))))))
  .have hx:u.getD i 0=0:=qg.1 (yc hx);refine AW.skip (AW.rg hE rfl (aJ rfl rfl (by omega) (aj rfl (OL.nil ?_))))
   exact AW.again (x:=i) (i+1) (by omega) ⟨by omega,Knows.app .I7 .dw,dP.app (.cons rfl .nil) (.cons (by rw[az8 hx];rfl) .nil)⟩
 .try simp only[fG] at h11
  refine AW.exit (AW.seq ?_);obtain rfl:i=u.length:=by omega
  exact AW.rg hE rfl (aQ ag.Rat rfl rfl (vs:=[_,_,_]) rfl (au rfl) (eG sz.Rat rfl rfl rfl rfl rfl (au rfl) (cells2:=[_,_,_]) rfl (OL.nil (AW.ret (aT.r ⟨_,.dK rfl rfl ag.Rat (au rfl) .nil,.ag (.cons (.le vR) (.cons (.le vR) (.cons (.le vR) .nil)))⟩)))))
theorem az9 {w:List Rat}(nl:w.length<=1099511627776)(zw:∀ i,sz (w.getD i 0)<=68719476736):ai P F.DU [.d (gm w)] (.d (dI (FP w))):=by
 refine ai.intro fn.DU (by rfl) (by rfl) (au (by rfl)) λE hE=>(AW.sg hE rfl (aG rfl (OL.nil (AW.seq (AW.sg hE rfl (aj rfl (fO sl.bF rfl rfl ?_)))))))
 refine aj rfl (OL.nil (AW.block ?_));refine AW.aX (α:=Nat) [(5,_),(6,_)] [] (λi=>[(7,.d (dI i))]) (λi=>[]) (λi=>i<=w.length/\∀ j,j<i->w.getD j 0=0) (λi=>w.length-i) 0 (.cons (dA rfl) (.cons (dA rfl) .nil)) .nil ⟨⟨Nat.zero_le _,λj hj=>by omega⟩,.dw,.nil⟩ ?_
 rintro i ⟨h1,h2⟩
 have h1:i<=w.length:=h1;have h2:∀ j,j<i->w.getD j 0=0:=h2;refine AW.sg hE rfl (bD rfl rfl rfl (OL.nil (AW.seq (AW.cond rfl (λh8=>?_) (λh8=>?_)))))
 .try simp only[fG] at h8
  refine AW.skip (AW.seq (AW.block (AW.seq ?_)));have zx:=zw i;refine AW.rg hE rfl (aj rfl (fD sl.bF 0 rfl rfl (by omega) rfl rfl (iR ag.Rat rfl (vs:=[_,_,_]) rfl (au rfl) (al z.Rat rfl λb4=>(aG rfl (eG sz.Rat rfl rfl rfl rfl rfl (au rfl) (cells2:=[_,_,_]) rfl (OL.nil ?_)))))))
  refine AW.sg hE rfl (aQ ag.Rat rfl rfl (vs:=[_,_,_]) rfl (au rfl) (bP rfl vL (rV (x:=w.getD i 0) (by omega)) (fJ rfl rfl rfl (OL.nil (AW.cond rfl (λhx=>?_) (λhx=>?_))))))
  .have hx:w.getD i 0≠0:=λe=>zH hx (qg.2 e);exact AW.sg hE rfl (aj rfl (aG rfl (OL.nil (AW.ret (aT.r ⟨_,.tmp rfl .nil,.le (bV.int ((az6 (by omega) h2 hx).symm))⟩)))))
  .have hx:w.getD i 0=0:=qg.1 (yc hx);exact AW.skip (AW.rg hE rfl (aJ rfl rfl (by omega) (aj rfl (OL.nil (AW.again (x:=i) (i+1) (by omega) ⟨⟨by omega,λj hj=>by rcases Nat.lt_or_ge j i with h|h;exact h2 j h;obtain rfl:j=i:=(by omega);exact hx⟩,Knows.app .jm .dw,.nil⟩)))))
 .try simp only[fG] at h8
  exact AW.exit (AW.sg hE rfl (aG rfl (OL.nil (AW.ret (aT.r ⟨_,.tmp rfl .nil,.le (bV.int ((az7 λj hj=>h2 j (by omega)).symm))⟩)))))
theorem JD {l:List Rat}{mi:Bool}(nl:l.length<=64)(hz:∀ x,x ∈ l->sz x<=134217728):ai P F.yS [.d (lC l),.d (dB mi)] (.d (gm (FQ mi l))):=by
 have hnl:=O3 mi l;refine ai.intro fn.yS (by rfl) (by rfl) (au (by rfl)) λE hE=>(AW.sg hE rfl (nI rfl (OL.nil (AW.sg hE rfl (aj rfl (fO sl.aS rfl rfl (U4 dQ 0 sl.bF z.Rat Dx rfl rfl (Nat.le_refl _) (by omega) (by omega) rfl λb10=>?_)))))))
 refine uf rfl (OL.nil (AW.seq (AW.sg hE rfl (aj rfl (fO sl.aS rfl rfl (aj rfl (OL.nil ?_)))))));refine AW.block ?_;refine AW.aX (α:=Nat) [(1,_),(4,_),(5,_),(11,_),(12,_)] [] (λi=>[(13,.d (dI i))]) (λi=>[(10,.row b10 l.length T.Rat 3 ((oh 0 (λj=>(FQ mi l).getD j 0) l.length i).map dQ))]) (λi=>i<=l.length) (λi=>l.length-i) 0 (.cons (dA rfl) (.cons (BO rfl) (.cons (BH rfl) (.cons (dA rfl) (.cons (dA rfl) .nil))))) .nil ⟨Nat.zero_le _,.dw,.cons (by rw[rW];rfl) .nil⟩ ?_
 intro i h1;have h1:i<=l.length:=h1;have hfl:=vG 0 (λj=>(FQ mi l).getD j 0) l.length i;refine AW.sg hE rfl (bD rfl rfl rfl (OL.nil (AW.seq (AW.cond rfl (λDp=>?_) (λDp=>?_)))))
 .try simp only[fG] at Dp
  refine AW.skip (AW.seq (AW.block (AW.seq ?_)));have hx:=hz _ (getD_mem (show i<l.length by omega) 0)
  refine AW.rg hE rfl (aj rfl (fD sl.aS 0 rfl rfl (by omega) rfl rfl (iR ag.ay rfl (vs:=[_,_,_,_,_,_,_,_]) rfl (au rfl) (al z.ay rfl λb7=>(aG rfl (eG sz.ay rfl rfl rfl rfl rfl (au rfl) (cells2:=[_,_,_,_,_,_,_,_]) rfl (OL.nil ?_)))))))
  refine AW.sg hE rfl (jl rfl (aj rfl (aV fd.gG rfl rfl (aQ ag.Rat rfl rfl (vs:=[_,_,_]) rfl (au rfl) (je sl.bF rfl rfl (by omega) (J4 sz.Rat rfl (d:=dQ (l.getD i 0)) EN rfl rfl (by rw[dL];omega) (es2:=((oh 0 (λj=>(FQ mi l).getD j 0) l.length i).set i (l.getD i 0)).map dQ) (by rw[List.map_set]) (OL.nil ?_)))))))
  refine AW.sg hE rfl (aj rfl (OL.nil (AW.cond rfl (λhm=>?_) (λhm=>?_))))
  .have hm:mi=true:=hm;have hv:(FQ mi l).getD i 0 = -(l.getD i 0):=(V5 (by omega)).trans (if_pos hm)
   refine AW.rg hE rfl (jl rfl (aj rfl (aV fd.gG rfl rfl (aQ ag.Rat rfl rfl (vs:=[_,_,_]) rfl (au rfl) (bP rfl vL (Ht (q:=l.getD i 0) (by omega)) (je sl.bF rfl rfl (by omega) ?_))))))
   refine J4 sz.Rat rfl (d:=dQ (-(l.getD i 0))) EN rfl rfl (by rw[dL,List.length_set];omega) (es2:=(oh 0 (λj=>(FQ mi l).getD j 0) l.length (i+1)).map dQ) (by rw[<- qM (show i<l.length by omega),hv,<- List.map_set,List.set_set]) ?_
   exact OL.nil (AW.rg hE rfl (aJ rfl rfl (by omega) (aj rfl (OL.nil (AW.again (x:=i) (i+1) (by omega) ⟨by omega,Knows.app .I7 .dw,.cons rfl .nil⟩)))))
  .have hm:mi=false:=hm;have hv:(FQ mi l).getD i 0=l.getD i 0:=(V5 (by omega)).trans (if_neg (by rw[hm];exact Bool.false_ne_true))
   refine AW.skip (AW.rg hE rfl (aJ rfl rfl (by omega) (aj rfl (OL.nil ?_))))
   exact AW.again (x:=i) (i+1) (by omega) ⟨by omega,Knows.app .I7 .dw,.cons (by rw[<- qM (show i<l.length by omega),hv];rfl) .nil⟩
 .try simp only[fG] at Dp
  refine AW.exit (AW.seq ?_);obtain rfl:i=l.length:=by omega
  rw[Jm hnl];refine AW.freeze 10 rfl (AW.to [(5,.d (gm (FQ mi l)))] [] (.cons (dM (by rw[dL];first|rfl|omega) rfl) .nil) .nil ?_)
  exact AW.rg hE rfl (aj rfl (aG rfl (OL.nil (AW.ret (aT.r ⟨_,.tmp rfl .nil,.le vR⟩)))))
set_option maxHeartbeats 800000 in
theorem aZ4 {m:bQ}{e s:Nat}{v:List Rat}(ok:m.Ok)(fl:m.Full)(z6:m.Sz e)(hv:v.length=m.n)(hs:s<m.k)(zv:∀ a,sz (v.getD a 0)<=5764801):ai P F.nK [uD m,.d (gm v),.d (dI ((s:Int)+1))] (.d (gm (stepM m v s))):=by
 have n6:=z6.n6;have k4:=z6.k2;have e24:=z6.e24;have hml:m.gV.length=m.k:=rfl;have hr:=fl.rows s hs;refine ai.intro fn.nK (by rfl) (by rfl) (au (by rfl)) λE hE=>(AW.sg hE rfl (iG rfl rfl λb3=>(nI rfl (OL.nil (AW.sg hE rfl (aj rfl (fO sl.bF rfl rfl ?_)))))))
 refine U4 dQ 0 sl.bF z.Rat Dx rfl rfl (Nat.le_refl _) (by omega) (by omega) rfl λb14=>(uf rfl (OL.nil (AW.seq (AW.sg hE rfl (aj rfl (fO sl.bF rfl rfl (aj rfl ?_)))))))
 refine OL.nil (AW.block ?_);refine AW.aX (α:=Nat) [(2,_),(3,_),(6,_),(7,_),(15,_),(16,_)] [(3,_)] (λi=>[(17,.d (dI i))]) (λi=>[(14,.row b14 v.length T.Rat 3 ((pU m v s i 0).map dQ))]) (λi=>i<=m.n) (λi=>m.n-i) 0 (.cons (dA rfl) (.cons (iF rfl) (.cons (BO rfl) (.cons (BH rfl) (.cons (dA rfl) (.cons (dA rfl) .nil)))))) (.cons (jc rfl) .nil) ⟨Nat.zero_le _,.dw,.cons (by rw[ai9,<- hv];rfl) .nil⟩ ?_
 intro i h1;have h1:i<=m.n:=h1;have hcl:=zk m v s i 0;refine AW.sg hE rfl (bD rfl rfl rfl (OL.nil (AW.seq (AW.cond rfl (λh18=>?_) (λh18=>?_)))))
 .try simp only[fG] at h18
  refine AW.skip (AW.seq (AW.block (AW.seq ?_)));have zx:=zv i;refine AW.rg hE rfl (aj rfl (fD sl.bF 0 rfl rfl (by omega) rfl rfl (iR ag.Rat rfl (vs:=[_,_,_]) rfl (au rfl) (al z.Rat rfl λb9=>(aG rfl (eG sz.Rat rfl rfl rfl rfl rfl (au rfl) (cells2:=[_,_,_]) rfl (OL.nil ?_)))))))
  refine AW.seq (AW.sg hE rfl (aQ ag.Rat rfl rfl (vs:=[_,_,_]) rfl (au rfl) (bP rfl vL (rV (x:=v.getD i 0) (by omega)) (fE rfl rfl rfl (OL.nil (AW.cond rfl (λhx=>?_) (λhx=>?_)))))))
  .have hx:v.getD i 0=0:=qg.1 (mX hx);refine AW.exit ?_
   first|(obtain rfl:j=m.n:=(by omega))|skip
   refine AW.rg hE rfl (aJ rfl rfl (by omega) (aj rfl (OL.nil ?_)))
   exact AW.again (x:=i) (i+1) (by omega) ⟨by omega,Knows.app .Zn .dw,dP.app (.cons rfl .nil) (.cons (by rw[Qh hx];rfl) .nil)⟩
  .have hcc:=fl.cols s hs i (by omega)
   refine AW.skip (AW.sg hE rfl (aV fd.jI rfl rfl (aA ce.fZ rfl rfl rfl (aj rfl (bo rfl rfl (oO (c:=(s:Int)) (by omega) (wrap_i64 (by omega))) (fD sl.fZ [] rfl rfl (by omega) rfl rfl (jb ce.dm rfl ?_)))))))
   refine aj rfl (fD sl.dm [] rfl rfl (by omega) rfl rfl (jb ce.bF rfl (fO sl.bF rfl rfl ?_)))
   rw[hcc];refine aj rfl (OL.nil (AW.block ?_));refine AW.aX (α:=Nat) [(2,_),(3,_),(6,_),(7,_),(9,_),(15,_),(16,_),(17,_),(33,_),(34,_)] [(3,_),(9,_)] (λj=>[(35,.d (dI j))]) (λj=>[(14,.row b14 v.length T.Rat 3 ((pU m v s i j).map dQ))]) (λj=>j<=m.n) (λj=>m.n-j) 0 (.cons (dA rfl) (.cons (iF rfl) (.cons (BO rfl) (.cons (BH rfl) (.cons (iF rfl) (.cons (dA rfl) (.cons (dA rfl) (.cons (dA rfl) (.cons (dA rfl) (.cons (dA rfl) .nil)))))))))) (.cons (jc rfl) (.cons (jc rfl) .nil)) ⟨Nat.zero_le _,.dw,.cons rfl .nil⟩ ?_;intro j h2;have h2:j<=m.n:=h2;have bN1:=zk m v s i j;have zc:=ay8 (s:=s) (j:=j) z6 zv (show i+1<=6 by omega) j
   have ze:=z6.ent s i j;refine AW.sg hE rfl (bD rfl rfl rfl (OL.nil (AW.seq (AW.cond rfl (λh36=>?_) (λh36=>?_)))))
   .try simp only[fG] at h36
    refine AW.skip (AW.seq (AW.block (AW.sg hE rfl (aj rfl (fD sl.bF 0 rfl rfl (by omega) rfl rfl (iR ag.Rat rfl (vs:=[_,_,_]) rfl (au rfl) (al z.Rat rfl λb11=>?_)))))))
    refine aG rfl (eG sz.Rat rfl rfl rfl rfl rfl (au rfl) (cells2:=[_,_,_]) rfl (OL.nil (AW.sg hE rfl (aQ ag.Rat rfl rfl (vs:=[_,_,_]) rfl (au rfl) (bP rfl vL (rV (x:=iU m s i j) (by omega)) (fJ rfl rfl rfl (OL.nil ?_)))))))
    refine AW.cond rfl (λhy=>?_) (λhy=>?_)
    .have _hy:=hy;have zm:=jS (v.getD i 0) (iU m s i j);refine AW.dg 1 [0,1,2,3,4,5,6,7,8,9,10,11] ak hE rfl (by kernel_rfl) (OI.aP (os:=[_,_,_,_,_,_,_,_,_,_,_,_]) rfl ?_)
     refine jl rfl (aj rfl (jl rfl (aj rfl (je sl.bF rfl rfl (by omega) (I5 ag.Rat 0 (by decide) rfl rfl (by omega) (vs:=[_,_,_]) rfl (au rfl) (aQ ag.Rat rfl rfl (vs:=[_,_,_]) rfl (au rfl) (aQ ag.Rat rfl rfl (vs:=[_,_,_]) rfl (au rfl) ?_)))))))
     refine bP rfl vL (xY (x:=v.getD i 0) (y:=iU m s i j) (by omega) (by omega)) (bP rfl vL (uw (x:=(pU m v s i j).getD j 0) (y:=v.getD i 0*iU m s i j) (by omega) (by omega)) (je sl.bF rfl rfl (by omega) (J4 sz.Rat rfl (d:=dQ ((pU m v s i j).getD j 0+v.getD i 0*iU m s i j)) EN rfl rfl (by rw[dL];omega) (es2:=(pU m v s i (j+1)).map dQ) (by rw[<- Rh (show j<m.n by omega),List.map_set]) (OL.nil (AW.rg hE rfl (aJ rfl rfl (by omega) (aj rfl ?_)))))))
     refine OL.nil ?_;exact AW.again (x:=j) (j+1) (by omega) ⟨by omega,Knows.app .ae6 .dw,dP.app (.cons rfl (.cons rfl .nil)) (.cons rfl .nil)⟩
    .have hy:iU m s i j=0:=qg.1 (yc hy);refine AW.skip (AW.rg hE rfl (aJ rfl rfl (by omega) (aj rfl (OL.nil ?_))))
     exact AW.again (x:=j) (j+1) (by omega) ⟨by omega,Knows.app .ae6 .dw,dP.app (.cons rfl (.cons rfl .nil)) (.cons (by rw[Yj (by omega) hy];rfl) .nil)⟩
   .try simp only[fG] at h36
    refine AW.exit ?_
    first|(obtain rfl:j=m.n:=(by omega))|skip
    refine AW.rg hE rfl (aJ rfl rfl (by omega) (aj rfl (OL.nil ?_)))
    exact AW.again (x:=i) (i+1) (by omega) ⟨by omega,Knows.app .Zn .dw,dP.app (.cons rfl .nil) (.cons (by rw[<- ai6];rfl) .nil)⟩
 .try simp only[fG] at h18
  refine AW.exit (AW.seq ?_);obtain rfl:i=m.n:=by omega
  rw[ai7];have hsl:=CJ m v s;refine AW.freeze 14 rfl (AW.to [(7,.d (gm (stepM m v s)))] [] (.cons (dM (by rw[dL];first|rfl|omega) rfl) .nil) .nil ?_)
  exact AW.rg hE rfl (aj rfl (aG rfl (OL.nil (AW.ret (aT.r ⟨_,.tmp rfl .nil,.le vR⟩)))))
theorem aa7 {m:bQ}{e:Nat}{L:List (List Int)}{u:List Int}(ok:m.Ok)(z6:m.Sz e)(nl:L.length<=6)(hu:u.length<=6)(hL:∀ l,l ∈ L->l.length<=6):ai P F.ji [.d (gm (aZ m u)),.ref [JC (aU m) L]] (.d (gm (bG m L u))):=by
 have n6:=z6.n6;have hvl:(bG m L u).length=L.length:=jQ;refine ai.intro fn.ji (by rfl) (by rfl) (au (by rfl)) λE hE=>(AW.sg hE rfl (nI rfl (OL.nil (AW.sg hE rfl (jb ce.Rows rfl (fO sl.Rows rfl rfl (U4 dQ 0 sl.bF z.Rat Dx rfl rfl (Nat.le_refl _) (by omega) (by omega) rfl λb9=>?_)))))))
 refine uf rfl (OL.nil (AW.seq (AW.sg hE rfl (jb ce.Rows rfl (fO sl.Rows rfl rfl (aj rfl (OL.nil ?_)))))));refine AW.block ?_;refine AW.aX (α:=Nat) [(0,_),(3,_),(4,_),(10,_),(11,_)] [] (λi=>[(12,.d (dI i))]) (λi=>[(9,.row b9 L.length T.Rat 3 ((oh 0 (λj=>(bG m L u).getD j 0) L.length i).map dQ))]) (λi=>i<=L.length) (λi=>L.length-i) 0 (.cons (dA rfl) (.cons (BO rfl) (.cons (BH rfl) (.cons (dA rfl) (.cons (dA rfl) .nil))))) .nil ⟨Nat.zero_le _,.dw,.cons (by rw[rW];rfl) .nil⟩ ?_
 intro i h1;have h1:i<=L.length:=h1;have hfl:=vG 0 (λj=>(bG m L u).getD j 0) L.length i;refine AW.sg hE rfl (bD rfl rfl rfl (OL.nil (AW.seq (AW.cond rfl (λh13=>?_) (λh13=>?_)))))
 .try simp only[fG] at h13
  refine AW.skip (AW.seq (AW.block (AW.sg hE rfl (aj rfl (fD sl.Rows [] rfl rfl (by omega) rfl rfl (iR ag.Row rfl (vs:=[_,_]) rfl (au rfl) (al z.Row rfl λb6=>?_)))))))
  refine aG rfl (eG sz.Row rfl rfl rfl rfl rfl (au rfl) (cells2:=[_,_]) rfl (OL.nil ?_));have hv:(λj=>(bG m L u).getD j 0) i=mZ m.n (vf (aZ m u)) (vf (aZ (aU m) (L.getD i []))):=aO _ _ (by omega)
  refine AW.rg hE rfl (jl rfl (aj rfl (aj rfl (aV fd.QJ rfl rfl (aA ce.bF rfl rfl rfl (bP rfl vL (bp4 (u:=aZ m u) (v:=aZ (aU m) (L.getD i [])) (n:=m.n) (lu ok u) (lu (qC ok) _) n6 (mV z6 hu) (mV z6.turn (hL _ (getD_mem (by omega) [])))) ?_))))))
  rw[<- hv];exact je sl.bF rfl rfl (by omega) (J4 sz.Rat rfl (d:=dQ ((λj=>(bG m L u).getD j 0) i)) EN rfl rfl (by rw[dL];omega) (es2:=(oh 0 (λj=>(bG m L u).getD j 0) L.length (i+1)).map dQ) (by rw[<- qM (show i<L.length by omega),List.map_set]) (OL.nil (AW.rg hE rfl (aJ rfl rfl (by omega) (aj rfl (OL.nil (AW.again (x:=i) (i+1) (by omega) ⟨by omega,Knows.app .I7 .dw,.cons rfl .nil⟩)))))))
 .try simp only[fG] at h13
  refine AW.exit (AW.seq ?_);obtain rfl:i=L.length:=by omega
  rw[Jm hvl];refine AW.freeze 9 rfl (AW.to [(4,.d (gm (bG m L u)))] [] (.cons (dM (by rw[dL];first|rfl|omega) rfl) .nil) .nil ?_)
  exact AW.rg hE rfl (aj rfl (aG rfl (OL.nil (AW.ret (aT.r ⟨_,.tmp rfl .nil,.le vR⟩)))))
end Go.Proofs.YtanlenlmihoiiaaGreatDoor
namespace Go.AL
open Go Go.BigFrame
def wP (w:List Rat)(g:Nat->Rat)(i:Nat):List Rat:=(List.range w.length).map λj=>if j<i then g j else w.getD j 0
section
variable {w:List Rat}{g:Nat->Rat}{i:Nat}
theorem CS:(wP w g i).length=w.length:=by simp[wP]
theorem O4 (w:List Rat):((List.range w.length).map λj=>w.getD j 0)=w:=by
 refine List.ext_getElem (by simp) λj h1 h2=>?_
 simp only[List.getElem_map,List.getElem_range];rw[iO,lF h2];rfl
theorem CU:wP w g 0=w:=by
 have e:wP w g 0=(List.range w.length).map λj=>w.getD j 0:=List.map_congr_left λj _=>if_neg (by omega)
 rw[e,O4]
theorem JE (hi:i<w.length):(wP w g i).getD i 0=w.getD i 0:=by
 unfold wP;rw[aO _ _ hi,if_neg (Nat.lt_irrefl _)]
theorem JF (hi:i<w.length):(wP w g i).set i (g i)=wP w g (i+1):=by
 refine List.ext_getElem (by rw[List.length_set,CS,CS]) λj h1 h2=>?_
 rw[List.getElem_set];by_cases hj:i=j
 .subst hj;rw[if_pos rfl];simp only[wP,List.getElem_map,List.getElem_range];rw[if_pos (by omega)]
 .rw[if_neg hj];simp only[wP,List.getElem_map,List.getElem_range];by_cases h:j<i
  .rw[if_pos h,if_pos (by omega)]
  .rw[if_neg h,if_neg (by omega)]
theorem JG (h:∀ j,i<=j->j<w.length->g j=w.getD j 0):wP w g i=(List.range w.length).map g:=by
 refine List.map_congr_left λj hj=>?_
 split
 .rfl
 .exact (h j (by omega) (List.mem_range.1 hj)).symm
end
section
variable {r:dh}{w t:List Rat}{rs:List dh}{k n:Nat}
theorem Ri:∀ (a:List dh) (w:List Rat),bC (a++[r]) w=jr (bC a w) r
 | [],_=>rfl
 | x::a,w=>by rw[List.cons_append,bC,bC,Ri a]
theorem Rj:∀ (a:List dh) (w t:List Rat),sZ (a++[r]) w t=Ii (sZ a w t) (kz (bC a w) r) r.c
 | [],_,_=>rfl
 | x::a,w,t=>by rw[List.cons_append,sZ,sZ,bC,Rj a]
theorem Io (hk:k<rs.length):rs.take (k+1)=rs.take k++[rs.getD k default]:=by
 rw[List.take_succ_eq_append_getElem hk,iO,lF hk];rfl
theorem CV (hk:k<rs.length):bC (rs.take (k+1)) w=jr (bC (rs.take k) w) (rs.getD k default):=by rw[Io hk,Ri]
theorem Rl (hk:k<rs.length):sZ (rs.take (k+1)) w t=Ii (sZ (rs.take k) w t) (kz (bC (rs.take k) w) (rs.getD k default)) (rs.getD k default).c:=by rw[Io hk,Rj]
theorem aj0 (t c:List Rat):Ii t 0 c=t:=by
 unfold Ii;have e:(λi=>t.getD i 0+0*c.getD i 0)=λi=>t.getD i 0:=by funext i;rw[Rat.zero_mul,Rat.add_zero]
 rw[e,O4]
theorem vN (hk:k<rs.length):rs.getD k default ∈ rs:=getD_mem hk default
theorem Rn (hk:k<rs.length):rs[k]? = some (rs.getD k default):=by
 rw[iO,lF hk];rfl
theorem LY {a:Nat}(h:a<=5):4 ^ a*(16777215+1)<=17179869184:=by
 have:=Nat.pow_le_pow_right (n:=4) (by decide) h
 have:=Nat.mul_le_mul_right (16777215+1) this;omega
theorem MJ.bounds (z:MJ 16777215 rs)(hl:rs.length<=6)(hk:k<rs.length)(zv:∀ i,sz (w.getD i 0)<=16777215) :
  (∀ i,sz ((bC (rs.take k) w).getD i 0)<=17179869183)/\(∀ i,sz ((Go.AL.sZ (rs.take k) w (List.replicate n 0)).getD i 0)<=17179869183)/\(∀ i,sz ((rs.getD k default).v.getD i 0)<=17179869183)/\∀ i,sz ((rs.getD k default).c.getD i 0)<=17179869183:=by
 have hb:=LY (show k<=5 by omega)
 have ht:(rs.take k).length=k:=by rw[List.length_take];omega
 have h1:=λi=>(z.take k).red zv i;have h2:=λi=>(z.take k).sZ (by decide) zv n i
 rw[ht] at h1 h2;have h3:=z k _ (Rn hk);refine⟨λi=>?_,λi=>?_,λi=>?_,λi=>?_⟩
 .have:=h1 i;omega
 .have:=h2 i;omega
 .have:=h3.1 i;omega
 .have:=h3.2 i;omega
theorem MJ.last (z:MJ 16777215 rs)(hl:rs.length<=6)(zv:∀ i,sz (w.getD i 0)<=16777215):(∀ i,sz ((bC rs w).getD i 0)<=68719476735)/\∀ i,sz ((jU rs w).getD i 0)<=68719476735:=by
 have h4:4 ^ rs.length*(16777215+1)<=68719476736:=by
  have:=Nat.pow_le_pow_right (n:=4) (by decide) hl
  have:=Nat.mul_le_mul_right (16777215+1) this;omega
 have h1:=λi=>z.red zv i;have h2:=λi=>z.sZ (by decide) zv rs.length i
 refine⟨λi=>?_,λi=>?_⟩
 .have:=h1 i;omega
 .have:=h2 i;unfold jU;omega
theorem aa8 {i:Nat}(hi:i<rs.length):(Nh rs w).getD i 0 = -((jU rs w).getD i 0):=by
 have hl:=Ae rs w;unfold Nh;rw[iO,List.getElem?_append_left (by rw[dL,hl];exact hi),List.getElem?_map,iO,lF (by rw[hl];exact hi)];rfl
theorem V7:(Nh rs w).getD rs.length 0=1:=by
 have hl:=Ae rs w;unfold Nh;rw[iO,List.getElem?_append_right (by rw[dL,hl];exact Nat.le_refl _),dL,hl,Nat.sub_self];rfl

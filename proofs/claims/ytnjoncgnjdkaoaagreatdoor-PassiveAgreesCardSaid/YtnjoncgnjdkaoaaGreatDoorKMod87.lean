/-
  M, chapter 23: a row that is turned element by element; reductions step by step.
-/
import Derived.Test.YtnjoncgnjdkaoaaGreatDoorKWkJ
set_option linter.unusedVariables false
set_option linter.unusedSimpArgs false
namespace Go.Proofs.YtnjoncgnjdkaoaaGreatDoor
open Go Go.AL
def Ez (w:List Rat):Int:=if iP w<w.length then (iP w:Int) else -1
theorem al4 {w:List Rat}{i:Nat}(hi:i<w.length)(h:∀ j,j<i->w.getD j 0=0)(h0:w.getD i 0≠0):Ez w=(i:Int):=by
 have e:iP w=i:=by
  rcases Nat.lt_trichotomy (iP w) i with k|k|k
  .exact absurd (h _ k) (yO (by omega))
  .exact k
  .exact absurd (ug k) h0
 unfold Ez;rw[e,if_pos hi]
theorem al5 {w:List Rat}(h:∀ j,j<w.length->w.getD j 0=0):Ez w = -1:=by
 unfold Ez;rw[if_neg (by rw[MV.2 h];exact Nat.lt_irrefl _)]
def EC (mi:Bool)(l:List Rat):List Rat:=l.map λx=>if mi=true then -x else x
theorem NG (mi:Bool)(l:List Rat):(EC mi l).length=l.length:=by simp[EC]
theorem Ux {mi:Bool}{l:List Rat}{i:Nat}(hi:i<l.length):(EC mi l).getD i 0=if mi=true then -(l.getD i 0) else l.getD i 0:=by
 unfold EC;rw[ig,List.getElem?_map,ig,lu hi];rfl
theorem Uy {u v:List Rat}(i:Nat):vZ i (vf u) (vf v)+u.getD i 0*v.getD i 0=vZ (i+1) (vf u) (vf v):=rfl
theorem al6 {u v:List Rat}{i:Nat}(h:u.getD i 0=0):vZ (i+1) (vf u) (vf v)=vZ i (vf u) (vf v):=by rw[<- Uy,h,Rat.zero_mul,Rat.add_zero]
theorem ZE {m:dP}{v:List Rat}{s:Nat}:pJ m v s 0 0=List.replicate m.n 0:=by
 rw[WH,List.map_const',List.length_range]
theorem FZ {x y:Rat}(hx:sz x<=68719476736)(hy:sz y<=68719476736):aj P F.mY [vQ x,vQ y] (vQ (x-y)):=by
 have h:=mY (x:=fZ x) (y:=fZ y) (nT (by omega)) (nT (by omega))
 rw[qy,qy] at h;exact h
theorem F5 {x y:Rat}(hx:sz x<=68719476736)(hy:sz y<=68719476736)(h0:y≠0):aj P F.qc [vQ x,vQ y] (.jS [vQ (x / y),.d (dI 0)]):=by
 have h:=qc (x:=fZ x) (y:=fZ y) (nT (by omega)) (nT (by omega))
 rw[qy,qy,if_neg h0,if_neg h0] at h;exact h
theorem xH {q:Rat}(hz:sz q<=68719476745):aj P F.yD [vQ q] (vQ (-q)):=by
 have sn:=lF q;have sd:=lG q;refine aj.intro fn.yD (by rfl) (by rfl) (aB (by rfl)) λE hE=>(AW.sg hE rfl (iI rfl rfl λb1=>(al z.Rat rfl λb2=>(OL.nil (AW.sg hE rfl (aO ag.Rat rfl rfl (vs:=[_,_,_]) rfl (aB rfl) (bJ rfl vL (gX (nT (q:=q) (by omega))) ?_)))))))
 rw[qy];refine bJ rfl vL (A7) (bJ rfl vL (sD (s:=!decide (q.num<0)) (n:=q.num.natAbs) (d:=q.den) (by omega) (by omega) q.den_nz) ?_)
 rw[<- af6,o5];exact eH sz.Rat rfl rfl rfl rfl rfl (aB rfl) (cells2:=[_,_,_]) rfl (OL.nil (AW.ret (aP.r ⟨_,.dV rfl rfl ag.Rat (aB rfl) .nil,.ag (.cons (.le vR) (.cons (.le vR) (.cons (.le vR) .nil)))⟩)))
theorem bn9 {u v:List Rat}{n:Nat}(hu:u.length=n)(hv:v.length=n)(n6:n<=6)(zu:∀ i,sz (u.getD i 0)<=5764801)(zv:∀ i,sz (v.getD i 0)<=5764801):aj P F.Hr [.d (iQ u),.d (iQ v)] (vQ (vZ n (vf u) (vf v))):=by
 subst hu;refine aj.intro fn.Hr (by rfl) (by rfl) (aB (by rfl)) λE hE=>(AW.sg hE rfl (al z.Rat rfl λb4=>(OL.nil (AW.sg hE rfl (al z.Rat rfl λb5=>(OL.nil (AW.seq ?_)))))))
 refine AW.sg hE rfl (ai rfl (fJ sl.bQ rfl rfl (ai rfl (OL.nil (AW.block (AW.xO 5 (LP 0) rfl aO5 ?_))))));refine AW.aV (α:=Nat) [(1,_),(4,_),(5,_),(8,_),(9,_)] [(4,_)] (λi=>[(10,.d (dI i))]) (λi=>[(5,.box b5 T.Rat (LP (vZ i (vf u) (vf v))))]) (λi=>i<=u.length) (λi=>u.length-i) 0 (.cons (bK rfl) (.cons (gB rfl) (.cons (gB rfl) (.cons (bK rfl) (.cons (bK rfl) .nil))))) (.cons (iR rfl) .nil) ⟨Nat.zero_le _,.bZ,.cons rfl .nil⟩ ?_;intro i h1;have h1:i<=u.length:=h1;have zd:sz (vZ i (vf u) (vf v))<=69177619:=Rw (n:=i) (by omega) zu zv
 refine AW.sg hE rfl (aY rfl rfl rfl (OL.nil (AW.seq (AW.cond rfl (λh11=>?_) (λh11=>?_)))))
 .try simp only[dX] at h11
  refine AW.skip (AW.seq (AW.block (AW.seq ?_)));have zx:=zu i;have zy:=zv i;have zm:=mD (u.getD i 0) (v.getD i 0);refine AW.rg hE rfl (ai rfl (fO sl.bQ 0 rfl rfl (by omega) rfl rfl (jH ag.Rat rfl (vs:=[_,_,_]) rfl (aB rfl) (al z.Rat rfl λb7=>(aF rfl (eH sz.Rat rfl rfl rfl rfl rfl (aB rfl) (cells2:=[_,_,_]) rfl (OL.nil ?_)))))))
  refine AW.sg hE rfl (aO ag.Rat rfl rfl (vs:=[_,_,_]) rfl (aB rfl) (bJ rfl vL (gY (x:=u.getD i 0) (by omega)) (eG rfl rfl rfl (OL.nil (AW.cond rfl (λhx=>?_) (λhx=>?_))))))
  .have _hx:=hx;refine AW.dg 1 [0,1,2,3,4,5,6,7,8] ay hE rfl (by kernel_rfl) (OI.aK (os:=[_,_,_,_,_,_,_,_,_]) rfl ?_)
   refine aO ag.Rat rfl rfl (vs:=[_,_,_]) rfl (aB rfl) (aO ag.Rat rfl rfl (vs:=[_,_,_]) rfl (aB rfl) (ai rfl (ai rfl (fO sl.bQ 0 rfl rfl (by omega) rfl rfl (jH ag.Rat rfl (vs:=[_,_,_]) rfl (aB rfl) (bJ rfl vL (kY (x:=u.getD i 0) (y:=v.getD i 0) (by omega) (by omega)) (bJ rfl vL (uf (x:=vZ i (vf u) (vf v)) (y:=u.getD i 0*v.getD i 0) (by omega) (by omega)) ?_)))))))
   rw[Uy];exact eH sz.Rat rfl rfl rfl rfl rfl (aB rfl) (cells2:=[_,_,_]) rfl (OL.nil (AW.rg hE rfl (aI rfl rfl (by omega) (ai rfl (OL.nil (AW.again (x:=i) (i+1) (by omega) ⟨by omega,Knows.app .DR .bZ,dw.app (.cons rfl .nil) (.cons rfl .nil)⟩))))))
  .have hx:u.getD i 0=0:=lS.1 (Bc hx);refine AW.skip (AW.rg hE rfl (aI rfl rfl (by omega) (ai rfl (OL.nil ?_))))
   exact AW.again (x:=i) (i+1) (by omega) ⟨by omega,Knows.app .DR .bZ,dw.app (.cons rfl .nil) (.cons (by rw[al6 hx];rfl) .nil)⟩
 .try simp only[dX] at h11
  refine AW.exit (AW.seq ?_);obtain rfl:i=u.length:=by omega
  exact AW.rg hE rfl (aO ag.Rat rfl rfl (vs:=[_,_,_]) rfl (aB rfl) (eH sz.Rat rfl rfl rfl rfl rfl (aB rfl) (cells2:=[_,_,_]) rfl (OL.nil (AW.ret (aP.r ⟨_,.dV rfl rfl ag.Rat (aB rfl) .nil,.ag (.cons (.le vR) (.cons (.le vR) (.cons (.le vR) .nil)))⟩)))))
theorem aR6 {w:List Rat}(nl:w.length<=1099511627776)(zw:∀ i,sz (w.getD i 0)<=68719476736):aj P F.Dn [.d (iQ w)] (.d (dI (Ez w))):=by
 refine aj.intro fn.Dn (by rfl) (by rfl) (aB (by rfl)) λE hE=>(AW.sg hE rfl (aF rfl (OL.nil (AW.seq (AW.sg hE rfl (ai rfl (fJ sl.bQ rfl rfl ?_)))))))
 refine ai rfl (OL.nil (AW.block ?_));refine AW.aV (α:=Nat) [(5,_),(6,_)] [] (λi=>[(7,.d (dI i))]) (λi=>[]) (λi=>i<=w.length/\∀ j,j<i->w.getD j 0=0) (λi=>w.length-i) 0 (.cons (bK rfl) (.cons (bK rfl) .nil)) .nil ⟨⟨Nat.zero_le _,λj hj=>by omega⟩,.bZ,.nil⟩ ?_
 rintro i ⟨h1,h2⟩
 have h1:i<=w.length:=h1;have h2:∀ j,j<i->w.getD j 0=0:=h2;refine AW.sg hE rfl (aY rfl rfl rfl (OL.nil (AW.seq (AW.cond rfl (λh8=>?_) (λh8=>?_)))))
 .try simp only[dX] at h8
  refine AW.skip (AW.seq (AW.block (AW.seq ?_)));have zx:=zw i;refine AW.rg hE rfl (ai rfl (fO sl.bQ 0 rfl rfl (by omega) rfl rfl (jH ag.Rat rfl (vs:=[_,_,_]) rfl (aB rfl) (al z.Rat rfl λb4=>(aF rfl (eH sz.Rat rfl rfl rfl rfl rfl (aB rfl) (cells2:=[_,_,_]) rfl (OL.nil ?_)))))))
  refine AW.sg hE rfl (aO ag.Rat rfl rfl (vs:=[_,_,_]) rfl (aB rfl) (bJ rfl vL (gY (x:=w.getD i 0) (by omega)) (eG rfl rfl rfl (OL.nil (AW.cond rfl (λhx=>?_) (λhx=>?_))))))
  .have hx:w.getD i 0≠0:=λe=>D7 hx (lS.2 e);exact AW.sg hE rfl (ai rfl (aF rfl (OL.nil (AW.ret (aP.r ⟨_,.tmp rfl .nil,.le (bG.int ((al4 (by omega) h2 hx).symm))⟩)))))
  .have hx:w.getD i 0=0:=lS.1 (Bc hx);exact AW.skip (AW.rg hE rfl (aI rfl rfl (by omega) (ai rfl (OL.nil (AW.again (x:=i) (i+1) (by omega) ⟨⟨by omega,λj hj=>by rcases Nat.lt_or_ge j i with h|h;exact h2 j h;obtain rfl:j=i:=(by omega);exact hx⟩,Knows.app .iq .bZ,.nil⟩)))))
 .try simp only[dX] at h8
  exact AW.exit (AW.sg hE rfl (aF rfl (OL.nil (AW.ret (aP.r ⟨_,.tmp rfl .nil,.le (bG.int ((al5 λj hj=>h2 j (by omega)).symm))⟩)))))
theorem Ij {l:List Rat}{mi:Bool}(nl:l.length<=64)(hz:∀ x,x ∈ l->sz x<=134217728):aj P F.yG [.d (wG l),.d (dB mi)] (.d (iQ (EC mi l))):=by
 have hnl:=NG mi l;refine aj.intro fn.yG (by rfl) (by rfl) (aB (by rfl)) λE hE=>(AW.sg hE rfl (oK rfl (OL.nil (AW.sg hE rfl (ai rfl (fJ sl.aU rfl rfl (QM dQ 0 sl.bQ z.Rat Be rfl rfl (Nat.le_refl _) (by omega) (by omega) rfl λb10=>?_)))))))
 refine tJ rfl (OL.nil (AW.seq (AW.sg hE rfl (ai rfl (fJ sl.aU rfl rfl (ai rfl (OL.nil ?_)))))));refine AW.block ?_;refine AW.aV (α:=Nat) [(1,_),(4,_),(5,_),(11,_),(12,_)] [] (λi=>[(13,.d (dI i))]) (λi=>[(10,.row b10 l.length T.Rat 3 ((kZ 0 (λj=>(EC mi l).getD j 0) l.length i).map dQ))]) (λi=>i<=l.length) (λi=>l.length-i) 0 (.cons (bK rfl) (.cons (Ea rfl) (.cons (yj rfl) (.cons (bK rfl) (.cons (bK rfl) .nil))))) .nil ⟨Nat.zero_le _,.bZ,.cons (by rw[rF];rfl) .nil⟩ ?_
 intro i h1;have h1:i<=l.length:=h1;have hfl:=sF 0 (λj=>(EC mi l).getD j 0) l.length i;refine AW.sg hE rfl (aY rfl rfl rfl (OL.nil (AW.seq (AW.cond rfl (λBf=>?_) (λBf=>?_)))))
 .try simp only[dX] at Bf
  refine AW.skip (AW.seq (AW.block (AW.seq ?_)));have hx:=hz _ (getD_mem (show i<l.length by omega) 0)
  refine AW.rg hE rfl (ai rfl (fO sl.aU 0 rfl rfl (by omega) rfl rfl (jH ag.aA rfl (vs:=[_,_,_,_,_,_,_,_]) rfl (aB rfl) (al z.aA rfl λb7=>(aF rfl (eH sz.aA rfl rfl rfl rfl rfl (aB rfl) (cells2:=[_,_,_,_,_,_,_,_]) rfl (OL.nil ?_)))))))
  refine AW.sg hE rfl (jq rfl (ai rfl (aW fd.gK rfl rfl (aO ag.Rat rfl rfl (vs:=[_,_,_]) rfl (aB rfl) (iM sl.bQ rfl rfl (by omega) (GI sz.Rat rfl (d:=dQ (l.getD i 0)) xP rfl rfl (by rw[dJ];omega) (es2:=((kZ 0 (λj=>(EC mi l).getD j 0) l.length i).set i (l.getD i 0)).map dQ) (by rw[List.map_set]) (OL.nil ?_)))))))
  refine AW.sg hE rfl (ai rfl (OL.nil (AW.cond rfl (λhm=>?_) (λhm=>?_))))
  .have hm:mi=true:=hm;have hv:(EC mi l).getD i 0 = -(l.getD i 0):=(Ux (by omega)).trans (if_pos hm)
   refine AW.rg hE rfl (jq rfl (ai rfl (aW fd.gK rfl rfl (aO ag.Rat rfl rfl (vs:=[_,_,_]) rfl (aB rfl) (bJ rfl vL (xH (q:=l.getD i 0) (by omega)) (iM sl.bQ rfl rfl (by omega) ?_))))))
   refine GI sz.Rat rfl (d:=dQ (-(l.getD i 0))) xP rfl rfl (by rw[dJ,List.length_set];omega) (es2:=(kZ 0 (λj=>(EC mi l).getD j 0) l.length (i+1)).map dQ) (by rw[<- pq (show i<l.length by omega),hv,<- List.map_set,List.set_set]) ?_
   exact OL.nil (AW.rg hE rfl (aI rfl rfl (by omega) (ai rfl (OL.nil (AW.again (x:=i) (i+1) (by omega) ⟨by omega,Knows.app .DR .bZ,.cons rfl .nil⟩)))))
  .have hm:mi=false:=hm;have hv:(EC mi l).getD i 0=l.getD i 0:=(Ux (by omega)).trans (if_neg (by rw[hm];exact Bool.false_ne_true))
   refine AW.skip (AW.rg hE rfl (aI rfl rfl (by omega) (ai rfl (OL.nil ?_))))
   exact AW.again (x:=i) (i+1) (by omega) ⟨by omega,Knows.app .DR .bZ,.cons (by rw[<- pq (show i<l.length by omega),hv];rfl) .nil⟩
 .try simp only[dX] at Bf
  refine AW.exit (AW.seq ?_);obtain rfl:i=l.length:=by omega
  rw[En hnl];refine AW.freeze 10 rfl (AW.to [(5,.d (iQ (EC mi l)))] [] (.cons (dL (by rw[dJ];first|rfl|omega) rfl) .nil) .nil ?_)
  exact AW.rg hE rfl (ai rfl (aF rfl (OL.nil (AW.ret (aP.r ⟨_,.tmp rfl .nil,.le vR⟩)))))
set_option maxHeartbeats 800000 in
theorem bc4 {m:dP}{e s:Nat}{v:List Rat}(ok:m.Ok)(fl:m.Full)(z6:m.Sz e)(hv:v.length=m.n)(hs:s<m.k)(zv:∀ a,sz (v.getD a 0)<=5764801):aj P F.nJ [Ic m,.d (iQ v),.d (dI ((s:Int)+1))] (.d (iQ (stepM m v s))):=by
 have n6:=z6.n6;have k4:=z6.k2;have e24:=z6.e24;have hml:m.qL.length=m.k:=rfl;have hr:=fl.rows s hs;refine aj.intro fn.nJ (by rfl) (by rfl) (aB (by rfl)) λE hE=>(AW.sg hE rfl (iI rfl rfl λb3=>(oK rfl (OL.nil (AW.sg hE rfl (ai rfl (fJ sl.bQ rfl rfl ?_)))))))
 refine QM dQ 0 sl.bQ z.Rat Be rfl rfl (Nat.le_refl _) (by omega) (by omega) rfl λb14=>(tJ rfl (OL.nil (AW.seq (AW.sg hE rfl (ai rfl (fJ sl.bQ rfl rfl (ai rfl ?_)))))))
 refine OL.nil (AW.block ?_);refine AW.aV (α:=Nat) [(2,_),(3,_),(6,_),(7,_),(15,_),(16,_)] [(3,_)] (λi=>[(17,.d (dI i))]) (λi=>[(14,.row b14 v.length T.Rat 3 ((pJ m v s i 0).map dQ))]) (λi=>i<=m.n) (λi=>m.n-i) 0 (.cons (bK rfl) (.cons (gB rfl) (.cons (Ea rfl) (.cons (yj rfl) (.cons (bK rfl) (.cons (bK rfl) .nil)))))) (.cons (iR rfl) .nil) ⟨Nat.zero_le _,.bZ,.cons (by rw[ZE,<- hv];rfl) .nil⟩ ?_
 intro i h1;have h1:i<=m.n:=h1;have hcl:=yQ m v s i 0;refine AW.sg hE rfl (aY rfl rfl rfl (OL.nil (AW.seq (AW.cond rfl (λh18=>?_) (λh18=>?_)))))
 .try simp only[dX] at h18
  refine AW.skip (AW.seq (AW.block (AW.seq ?_)));have zx:=zv i;refine AW.rg hE rfl (ai rfl (fO sl.bQ 0 rfl rfl (by omega) rfl rfl (jH ag.Rat rfl (vs:=[_,_,_]) rfl (aB rfl) (al z.Rat rfl λb9=>(aF rfl (eH sz.Rat rfl rfl rfl rfl rfl (aB rfl) (cells2:=[_,_,_]) rfl (OL.nil ?_)))))))
  refine AW.seq (AW.sg hE rfl (aO ag.Rat rfl rfl (vs:=[_,_,_]) rfl (aB rfl) (bJ rfl vL (gY (x:=v.getD i 0) (by omega)) (dR rfl rfl rfl (OL.nil (AW.cond rfl (λhx=>?_) (λhx=>?_)))))))
  .have hx:v.getD i 0=0:=lS.1 (lq hx);refine AW.exit ?_
   first|(obtain rfl:j=m.n:=(by omega))|skip
   refine AW.rg hE rfl (aI rfl rfl (by omega) (ai rfl (OL.nil ?_)))
   exact AW.again (x:=i) (i+1) (by omega) ⟨by omega,Knows.app .RZ .bZ,dw.app (.cons rfl .nil) (.cons (by rw[OA hx];rfl) .nil)⟩
  .have hcc:=fl.cols s hs i (by omega)
   refine AW.skip (AW.sg hE rfl (aW fd.uT rfl rfl (aG ce.mG rfl rfl rfl (ai rfl (bo rfl rfl (lQ (c:=(s:Int)) (by omega) (wrap_i64 (by omega))) (fO sl.mG [] rfl rfl (by omega) rfl rfl (iH ce.fK rfl ?_)))))))
   refine ai rfl (fO sl.fK [] rfl rfl (by omega) rfl rfl (iH ce.bQ rfl (fJ sl.bQ rfl rfl ?_)))
   rw[hcc];refine ai rfl (OL.nil (AW.block ?_));refine AW.aV (α:=Nat) [(2,_),(3,_),(6,_),(7,_),(9,_),(15,_),(16,_),(17,_),(33,_),(34,_)] [(3,_),(9,_)] (λj=>[(35,.d (dI j))]) (λj=>[(14,.row b14 v.length T.Rat 3 ((pJ m v s i j).map dQ))]) (λj=>j<=m.n) (λj=>m.n-j) 0 (.cons (bK rfl) (.cons (gB rfl) (.cons (Ea rfl) (.cons (yj rfl) (.cons (gB rfl) (.cons (bK rfl) (.cons (bK rfl) (.cons (bK rfl) (.cons (bK rfl) (.cons (bK rfl) .nil)))))))))) (.cons (iR rfl) (.cons (iR rfl) .nil)) ⟨Nat.zero_le _,.bZ,.cons rfl .nil⟩ ?_;intro j h2;have h2:j<=m.n:=h2;have aR7:=yQ m v s i j;have zc:=ak9 (s:=s) (j:=j) z6 zv (show i+1<=6 by omega) j
   have ze:=z6.ent s i j;refine AW.sg hE rfl (aY rfl rfl rfl (OL.nil (AW.seq (AW.cond rfl (λh36=>?_) (λh36=>?_)))))
   .try simp only[dX] at h36
    refine AW.skip (AW.seq (AW.block (AW.sg hE rfl (ai rfl (fO sl.bQ 0 rfl rfl (by omega) rfl rfl (jH ag.Rat rfl (vs:=[_,_,_]) rfl (aB rfl) (al z.Rat rfl λb11=>?_)))))))
    refine aF rfl (eH sz.Rat rfl rfl rfl rfl rfl (aB rfl) (cells2:=[_,_,_]) rfl (OL.nil (AW.sg hE rfl (aO ag.Rat rfl rfl (vs:=[_,_,_]) rfl (aB rfl) (bJ rfl vL (gY (x:=oq m s i j) (by omega)) (eG rfl rfl rfl (OL.nil ?_)))))))
    refine AW.cond rfl (λhy=>?_) (λhy=>?_)
    .have _hy:=hy;have zm:=mD (v.getD i 0) (oq m s i j);refine AW.dg 1 [0,1,2,3,4,5,6,7,8,9,10,11] ay hE rfl (by kernel_rfl) (OI.aK (os:=[_,_,_,_,_,_,_,_,_,_,_,_]) rfl ?_)
     refine jq rfl (ai rfl (jq rfl (ai rfl (iM sl.bQ rfl rfl (by omega) (FT ag.Rat 0 (by decide) rfl rfl (by omega) (vs:=[_,_,_]) rfl (aB rfl) (aO ag.Rat rfl rfl (vs:=[_,_,_]) rfl (aB rfl) (aO ag.Rat rfl rfl (vs:=[_,_,_]) rfl (aB rfl) ?_)))))))
     refine bJ rfl vL (kY (x:=v.getD i 0) (y:=oq m s i j) (by omega) (by omega)) (bJ rfl vL (uf (x:=(pJ m v s i j).getD j 0) (y:=v.getD i 0*oq m s i j) (by omega) (by omega)) (iM sl.bQ rfl rfl (by omega) (GI sz.Rat rfl (d:=dQ ((pJ m v s i j).getD j 0+v.getD i 0*oq m s i j)) xP rfl rfl (by rw[dJ];omega) (es2:=(pJ m v s i (j+1)).map dQ) (by rw[<- PX (show j<m.n by omega),List.map_set]) (OL.nil (AW.rg hE rfl (aI rfl rfl (by omega) (ai rfl ?_)))))))
     refine OL.nil ?_;exact AW.again (x:=j) (j+1) (by omega) ⟨by omega,Knows.app .VJ .bZ,dw.app (.cons rfl (.cons rfl .nil)) (.cons rfl .nil)⟩
    .have hy:oq m s i j=0:=lS.1 (Bc hy);refine AW.skip (AW.rg hE rfl (aI rfl rfl (by omega) (ai rfl (OL.nil ?_))))
     exact AW.again (x:=j) (j+1) (by omega) ⟨by omega,Knows.app .VJ .bZ,dw.app (.cons rfl (.cons rfl .nil)) (.cons (by rw[WI (by omega) hy];rfl) .nil)⟩
   .try simp only[dX] at h36
    refine AW.exit ?_
    first|(obtain rfl:j=m.n:=(by omega))|skip
    refine AW.rg hE rfl (aI rfl rfl (by omega) (ai rfl (OL.nil ?_)))
    exact AW.again (x:=i) (i+1) (by omega) ⟨by omega,Knows.app .RZ .bZ,dw.app (.cons rfl .nil) (.cons (by rw[<- ZA];rfl) .nil)⟩
 .try simp only[dX] at h18
  refine AW.exit (AW.seq ?_);obtain rfl:i=m.n:=by omega
  rw[ZB];have hsl:=BJ m v s;refine AW.freeze 14 rfl (AW.to [(7,.d (iQ (stepM m v s)))] [] (.cons (dL (by rw[dJ];first|rfl|omega) rfl) .nil) .nil ?_)
  exact AW.rg hE rfl (ai rfl (aF rfl (OL.nil (AW.ret (aP.r ⟨_,.tmp rfl .nil,.le vR⟩)))))
end Go.Proofs.YtnjoncgnjdkaoaaGreatDoor
namespace Go.AL
open Go Go.BigFrame
def uY (w:List Rat)(g:Nat->Rat)(i:Nat):List Rat:=(List.range w.length).map λj=>if j<i then g j else w.getD j 0
section
variable {w:List Rat}{g:Nat->Rat}{i:Nat}
theorem BQ:(uY w g i).length=w.length:=by simp[uY]
theorem Gw (w:List Rat):((List.range w.length).map λj=>w.getD j 0)=w:=by
 refine List.ext_getElem (by simp) λj h1 h2=>?_
 simp only[List.getElem_map,List.getElem_range];rw[ig,lu h2];rfl
theorem Fq:uY w g 0=w:=by
 have e:uY w g 0=(List.range w.length).map λj=>w.getD j 0:=List.map_congr_left λj _=>if_neg (by omega)
 rw[e,Gw]
theorem ED (hi:i<w.length):(uY w g i).getD i 0=w.getD i 0:=by
 unfold uY;rw[aT _ _ hi,if_neg (Nat.lt_irrefl _)]
theorem EF (hi:i<w.length):(uY w g i).set i (g i)=uY w g (i+1):=by
 refine List.ext_getElem (by rw[List.length_set,BQ,BQ]) λj h1 h2=>?_
 rw[List.getElem_set];by_cases hj:i=j
 .subst hj;rw[if_pos rfl];simp only[uY,List.getElem_map,List.getElem_range];rw[if_pos (by omega)]
 .rw[if_neg hj];simp only[uY,List.getElem_map,List.getElem_range];by_cases h:j<i
  .rw[if_pos h,if_pos (by omega)]
  .rw[if_neg h,if_neg (by omega)]
theorem EG (h:∀ j,i<=j->j<w.length->g j=w.getD j 0):uY w g i=(List.range w.length).map g:=by
 refine List.map_congr_left λj hj=>?_
 split
 .rfl
 .exact (h j (by omega) (List.mem_range.1 hj)).symm
end
section
variable {r:bW}{w t:List Rat}{rs:List bW}{k n:Nat}
theorem PY:∀ (a:List bW) (w:List Rat),bg (a++[r]) w=jl (bg a w) r
 | [],_=>rfl
 | x::a,w=>by rw[List.cons_append,bg,bg,PY a]
theorem PZ:∀ (a:List bW) (w t:List Rat),ou (a++[r]) w t=FO (ou a w t) (jZ (bg a w) r) r.c
 | [],_,_=>rfl
 | x::a,w,t=>by rw[List.cons_append,ou,ou,bg,PZ a]
theorem NH (hk:k<rs.length):rs.take (k+1)=rs.take k++[rs.getD k default]:=by
 rw[List.take_succ_eq_append_getElem hk,ig,lu hk];rfl
theorem Fv (hk:k<rs.length):bg (rs.take (k+1)) w=jl (bg (rs.take k) w) (rs.getD k default):=by rw[NH hk,PY]
theorem Fz (hk:k<rs.length):ou (rs.take (k+1)) w t=FO (ou (rs.take k) w t) (jZ (bg (rs.take k) w) (rs.getD k default)) (rs.getD k default).c:=by rw[NH hk,PZ]
theorem P5 (t c:List Rat):FO t 0 c=t:=by
 unfold FO;have e:(λi=>t.getD i 0+0*c.getD i 0)=λi=>t.getD i 0:=by funext i;rw[Rat.zero_mul,Rat.add_zero]
 rw[e,Gw]
theorem BR (hk:k<rs.length):rs.getD k default ∈ rs:=getD_mem hk default
theorem Je (hk:k<rs.length):rs[k]? = some (rs.getD k default):=by
 rw[ig,lu hk];rfl
theorem JS {a:Nat}(h:a<=5):4 ^ a*(16777215+1)<=17179869184:=by
 have:=Nat.pow_le_pow_right (n:=4) (by decide) h
 have:=Nat.mul_le_mul_right (16777215+1) this;omega
theorem KJ.bounds (z:KJ 16777215 rs)(hl:rs.length<=6)(hk:k<rs.length)(zv:∀ i,sz (w.getD i 0)<=16777215) :
  (∀ i,sz ((bg (rs.take k) w).getD i 0)<=17179869183)/\(∀ i,sz ((Go.AL.ou (rs.take k) w (List.replicate n 0)).getD i 0)<=17179869183)/\(∀ i,sz ((rs.getD k default).v.getD i 0)<=17179869183)/\∀ i,sz ((rs.getD k default).c.getD i 0)<=17179869183:=by
 have hb:=JS (show k<=5 by omega)
 have ht:(rs.take k).length=k:=by rw[List.length_take];omega
 have h1:=λi=>(z.take k).red zv i;have h2:=λi=>(z.take k).ou (by decide) zv n i
 rw[ht] at h1 h2;have h3:=z k _ (Je hk);refine⟨λi=>?_,λi=>?_,λi=>?_,λi=>?_⟩
 .have:=h1 i;omega
 .have:=h2 i;omega
 .have:=h3.1 i;omega
 .have:=h3.2 i;omega
theorem KJ.last (z:KJ 16777215 rs)(hl:rs.length<=6)(zv:∀ i,sz (w.getD i 0)<=16777215):(∀ i,sz ((bg rs w).getD i 0)<=68719476735)/\∀ i,sz ((bY rs w).getD i 0)<=68719476735:=by
 have h4:4 ^ rs.length*(16777215+1)<=68719476736:=by
  have:=Nat.pow_le_pow_right (n:=4) (by decide) hl
  have:=Nat.mul_le_mul_right (16777215+1) this;omega
 have h1:=λi=>z.red zv i;have h2:=λi=>z.ou (by decide) zv rs.length i
 refine⟨λi=>?_,λi=>?_⟩
 .have:=h1 i;omega
 .have:=h2 i;unfold bY;omega
theorem Rz {i:Nat}(hi:i<rs.length):(JQ rs w).getD i 0 = -((bY rs w).getD i 0):=by
 have hl:=uI rs w;unfold JQ;rw[ig,List.getElem?_append_left (by rw[dJ,hl];exact hi),List.getElem?_map,ig,lu (by rw[hl];exact hi)];rfl
theorem NI:(JQ rs w).getD rs.length 0=1:=by
 have hl:=uI rs w;unfold JQ;rw[ig,List.getElem?_append_right (by rw[dJ,hl];exact Nat.le_refl _),dJ,hl,Nat.sub_self];rfl

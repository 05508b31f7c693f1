/-
  M, chapter 23: a row that is turned element by element; reductions step by step.
-/
import Derived.Test.YtanlenlmihoiiaaGreatDoorKWkJ
set_option linter.unusedVariables false
set_option linter.unusedSimpArgs false
namespace Go.Proofs.YtanlenlmihoiiaaGreatDoor
open Go Go.AL
def Gi (w:List Rat):Int:=if dX w<w.length then (dX w:Int) else -1
theorem aB7 {w:List Rat}{i:Nat}(hi:i<w.length)(h:∀ j,j<i->w.getD j 0=0)(h0:w.getD i 0≠0):Gi w=(i:Int):=by
 have e:dX w=i:=by
  rcases Nat.lt_trichotomy (dX w) i with k|k|k
  .exact absurd (h _ k) (tY (by omega))
  .exact k
  .exact absurd (qV k) h0
 unfold Gi;rw[e,if_pos hi]
theorem aB8 {w:List Rat}(h:∀ j,j<w.length->w.getD j 0=0):Gi w = -1:=by
 unfold Gi;rw[if_neg (by rw[Ph.2 h];exact Nat.lt_irrefl _)]
def Hz (mi:Bool)(l:List Rat):List Rat:=l.map λx=>if mi=true then -x else x
theorem WU (mi:Bool)(l:List Rat):(Hz mi l).length=l.length:=by simp[Hz]
theorem WV {mi:Bool}{l:List Rat}{i:Nat}(hi:i<l.length):(Hz mi l).getD i 0=if mi=true then -(l.getD i 0) else l.getD i 0:=by
 unfold Hz;rw[jh,List.getElem?_map,jh,lQ hi];rfl
theorem WW {u v:List Rat}(i:Nat):vX i (vf u) (vf v)+u.getD i 0*v.getD i 0=vX (i+1) (vf u) (vf v):=rfl
theorem aB9 {u v:List Rat}{i:Nat}(h:u.getD i 0=0):vX (i+1) (vf u) (vf v)=vX i (vf u) (vf v):=by rw[<- WW,h,Rat.zero_mul,Rat.add_zero]
theorem al9 {m:bV}{v:List Rat}{s:Nat}:pO m v s 0 0=List.replicate m.n 0:=by
 rw[Y0,List.map_const',List.length_range]
theorem Q7 {x y:Rat}(hx:sz x<=68719476736)(hy:sz y<=68719476736):ai P F.qA [vQ x,vQ y] (vQ (x-y)):=by
 have h:=qA (x:=fZ x) (y:=fZ y) (jQ (by omega)) (jQ (by omega))
 rw[ny,ny] at h;exact h
theorem Q8 {x y:Rat}(hx:sz x<=68719476736)(hy:sz y<=68719476736)(h0:y≠0):ai P F.qy [vQ x,vQ y] (.mM [vQ (x / y),.d (dI 0)]):=by
 have h:=qy (x:=fZ x) (y:=fZ y) (jQ (by omega)) (jQ (by omega))
 rw[ny,ny,if_neg h0,if_neg h0] at h;exact h
abbrev Gj (m:bV)(L:List (List Int)):D:=.sl (L.map (y5 m))
theorem Ii {q:Rat}(hz:sz q<=68719476745):ai P F.zK [vQ q] (vQ (-q)):=by
 have sn:=lm q;have sd:=lq q;refine ai.intro fn.zK (by rfl) (by rfl) (ay (by rfl)) λE hE=>(AW.sg hE rfl (iO rfl rfl λb1=>(al z.Rat rfl λb2=>(OL.nil (AW.sg hE rfl (aQ ag.Rat rfl rfl (vs:=[_,_,_]) rfl (ay rfl) (bH rfl vL (iK (jQ (q:=q) (by omega))) ?_)))))))
 rw[ny];refine bH rfl vL (CJ) (bH rfl vL (tK (s:=!decide (q.num<0)) (n:=q.num.natAbs) (d:=q.den) (by omega) (by omega) q.den_nz) ?_)
 rw[<- av6,mP];exact fA sz.Rat rfl rfl rfl rfl rfl (ay rfl) (cells2:=[_,_,_]) rfl (OL.nil (AW.ret (aP.r ⟨_,.dN rfl rfl ag.Rat (ay rfl) .nil,.ag (.cons (.le vR) (.cons (.le vR) (.cons (.le vR) .nil)))⟩)))
theorem bo9 {u v:List Rat}{n:Nat}(hu:u.length=n)(hv:v.length=n)(n6:n<=6)(zu:∀ i,sz (u.getD i 0)<=5764801)(zv:∀ i,sz (v.getD i 0)<=5764801):ai P F.Jp [.d (dJ u),.d (dJ v)] (vQ (vX n (vf u) (vf v))):=by
 subst hu;refine ai.intro fn.Jp (by rfl) (by rfl) (ay (by rfl)) λE hE=>(AW.sg hE rfl (al z.Rat rfl λb4=>(OL.nil (AW.sg hE rfl (al z.Rat rfl λb5=>(OL.nil (AW.seq ?_)))))))
 refine AW.sg hE rfl (aj rfl (fF sl.bg rfl rfl (aj rfl (OL.nil (AW.block (AW.oZ 5 (KH 0) rfl aw9 ?_))))));refine AW.aY (α:=Nat) [(1,_),(4,_),(5,_),(8,_),(9,_)] [(4,_)] (λi=>[(10,.d (dI i))]) (λi=>[(5,.box b5 T.Rat (KH (vX i (vf u) (vf v))))]) (λi=>i<=u.length) (λi=>u.length-i) 0 (.cons (di rfl) (.cons (iw rfl) (.cons (iw rfl) (.cons (di rfl) (.cons (di rfl) .nil))))) (.cons (je rfl) .nil) ⟨Nat.zero_le _,.dD,.cons rfl .nil⟩ ?_;intro i h1;have h1:i<=u.length:=h1;have zd:sz (vX i (vf u) (vf v))<=69177619:=KY (n:=i) (by omega) zu zv
 refine AW.sg hE rfl (bG rfl rfl rfl (OL.nil (AW.seq (AW.cond rfl (λh11=>?_) (λh11=>?_)))))
 .try simp only[fD] at h11
  refine AW.skip (AW.seq (AW.block (AW.seq ?_)));have zx:=zu i;have zy:=zv i;have zm:=lu (u.getD i 0) (v.getD i 0);refine AW.rg hE rfl (aj rfl (dR sl.bg 0 rfl rfl (by omega) rfl rfl (iD ag.Rat rfl (vs:=[_,_,_]) rfl (ay rfl) (al z.Rat rfl λb7=>(aF rfl (fA sz.Rat rfl rfl rfl rfl rfl (ay rfl) (cells2:=[_,_,_]) rfl (OL.nil ?_)))))))
  refine AW.sg hE rfl (aQ ag.Rat rfl rfl (vs:=[_,_,_]) rfl (ay rfl) (bH rfl vL (su (x:=u.getD i 0) (by omega)) (eX rfl rfl rfl (OL.nil (AW.cond rfl (λhx=>?_) (λhx=>?_))))))
  .have _hx:=hx;refine AW.dg 1 [0,1,2,3,4,5,6,7,8] ak hE rfl (by kernel_rfl) (OI.aK (os:=[_,_,_,_,_,_,_,_,_]) rfl ?_)
   refine aQ ag.Rat rfl rfl (vs:=[_,_,_]) rfl (ay rfl) (aQ ag.Rat rfl rfl (vs:=[_,_,_]) rfl (ay rfl) (aj rfl (aj rfl (dR sl.bg 0 rfl rfl (by omega) rfl rfl (iD ag.Rat rfl (vs:=[_,_,_]) rfl (ay rfl) (bH rfl vL (yG (x:=u.getD i 0) (y:=v.getD i 0) (by omega) (by omega)) (bH rfl vL (uJ (x:=vX i (vf u) (vf v)) (y:=u.getD i 0*v.getD i 0) (by omega) (by omega)) ?_)))))))
   rw[WW];exact fA sz.Rat rfl rfl rfl rfl rfl (ay rfl) (cells2:=[_,_,_]) rfl (OL.nil (AW.rg hE rfl (aI rfl rfl (by omega) (aj rfl (OL.nil (AW.again (x:=i) (i+1) (by omega) ⟨by omega,Knows.app .Ky .dD,dL.app (.cons rfl .nil) (.cons rfl .nil)⟩))))))
  .have hx:u.getD i 0=0:=sK.1 (yY hx);refine AW.skip (AW.rg hE rfl (aI rfl rfl (by omega) (aj rfl (OL.nil ?_))))
   exact AW.again (x:=i) (i+1) (by omega) ⟨by omega,Knows.app .Ky .dD,dL.app (.cons rfl .nil) (.cons (by rw[aB9 hx];rfl) .nil)⟩
 .try simp only[fD] at h11
  refine AW.exit (AW.seq ?_);obtain rfl:i=u.length:=by omega
  exact AW.rg hE rfl (aQ ag.Rat rfl rfl (vs:=[_,_,_]) rfl (ay rfl) (fA sz.Rat rfl rfl rfl rfl rfl (ay rfl) (cells2:=[_,_,_]) rfl (OL.nil (AW.ret (aP.r ⟨_,.dN rfl rfl ag.Rat (ay rfl) .nil,.ag (.cons (.le vR) (.cons (.le vR) (.cons (.le vR) .nil)))⟩)))))
theorem aC0 {w:List Rat}(nl:w.length<=1099511627776)(zw:∀ i,sz (w.getD i 0)<=68719476736):ai P F.Ez [.d (dJ w)] (.d (dI (Gi w))):=by
 refine ai.intro fn.Ez (by rfl) (by rfl) (ay (by rfl)) λE hE=>(AW.sg hE rfl (aF rfl (OL.nil (AW.seq (AW.sg hE rfl (aj rfl (fF sl.bg rfl rfl ?_)))))))
 refine aj rfl (OL.nil (AW.block ?_));refine AW.aY (α:=Nat) [(5,_),(6,_)] [] (λi=>[(7,.d (dI i))]) (λi=>[]) (λi=>i<=w.length/\∀ j,j<i->w.getD j 0=0) (λi=>w.length-i) 0 (.cons (di rfl) (.cons (di rfl) .nil)) .nil ⟨⟨Nat.zero_le _,λj hj=>by omega⟩,.dD,.nil⟩ ?_
 rintro i ⟨h1,h2⟩
 have h1:i<=w.length:=h1;have h2:∀ j,j<i->w.getD j 0=0:=h2;refine AW.sg hE rfl (bG rfl rfl rfl (OL.nil (AW.seq (AW.cond rfl (λh8=>?_) (λh8=>?_)))))
 .try simp only[fD] at h8
  refine AW.skip (AW.seq (AW.block (AW.seq ?_)));have zx:=zw i;refine AW.rg hE rfl (aj rfl (dR sl.bg 0 rfl rfl (by omega) rfl rfl (iD ag.Rat rfl (vs:=[_,_,_]) rfl (ay rfl) (al z.Rat rfl λb4=>(aF rfl (fA sz.Rat rfl rfl rfl rfl rfl (ay rfl) (cells2:=[_,_,_]) rfl (OL.nil ?_)))))))
  refine AW.sg hE rfl (aQ ag.Rat rfl rfl (vs:=[_,_,_]) rfl (ay rfl) (bH rfl vL (su (x:=w.getD i 0) (by omega)) (eX rfl rfl rfl (OL.nil (AW.cond rfl (λhx=>?_) (λhx=>?_))))))
  .have hx:w.getD i 0≠0:=λe=>BI hx (sK.2 e);exact AW.sg hE rfl (aj rfl (aF rfl (OL.nil (AW.ret (aP.r ⟨_,.tmp rfl .nil,.le (bW.int ((aB7 (by omega) h2 hx).symm))⟩)))))
  .have hx:w.getD i 0=0:=sK.1 (yY hx);exact AW.skip (AW.rg hE rfl (aI rfl rfl (by omega) (aj rfl (OL.nil (AW.again (x:=i) (i+1) (by omega) ⟨⟨by omega,λj hj=>by rcases Nat.lt_or_ge j i with h|h;exact h2 j h;obtain rfl:j=i:=(by omega);exact hx⟩,Knows.app .iW .dD,.nil⟩)))))
 .try simp only[fD] at h8
  exact AW.exit (AW.sg hE rfl (aF rfl (OL.nil (AW.ret (aP.r ⟨_,.tmp rfl .nil,.le (bW.int ((aB8 λj hj=>h2 j (by omega)).symm))⟩)))))
theorem WX {l:List Rat}{mi:Bool}(nl:l.length<=64)(hz:∀ x,x ∈ l->sz x<=134217728):ai P F.zJ [.d (qG l),.d (dB mi)] (.d (dJ (Hz mi l))):=by
 have hnl:=WU mi l;refine ai.intro fn.zJ (by rfl) (by rfl) (ay (by rfl)) λE hE=>(AW.sg hE rfl (jK rfl (OL.nil (AW.sg hE rfl (aj rfl (fF sl.aW rfl rfl (X4 dQ 0 sl.bg z.Rat Dj rfl rfl (Nat.le_refl _) (by omega) (by omega) rfl λb10=>?_)))))))
 refine pV rfl (OL.nil (AW.seq (AW.sg hE rfl (aj rfl (fF sl.aW rfl rfl (aj rfl (OL.nil ?_)))))));refine AW.block ?_;refine AW.aY (α:=Nat) [(1,_),(4,_),(5,_),(11,_),(12,_)] [] (λi=>[(13,.d (dI i))]) (λi=>[(10,.row b10 l.length T.Rat 3 ((nT 0 (λj=>(Hz mi l).getD j 0) l.length i).map dQ))]) (λi=>i<=l.length) (λi=>l.length-i) 0 (.cons (di rfl) (.cons (xK rfl) (.cons (zA rfl) (.cons (di rfl) (.cons (di rfl) .nil))))) .nil ⟨Nat.zero_le _,.dD,.cons (by rw[sD];rfl) .nil⟩ ?_
 intro i h1;have h1:i<=l.length:=h1;have hfl:=vM 0 (λj=>(Hz mi l).getD j 0) l.length i;refine AW.sg hE rfl (bG rfl rfl rfl (OL.nil (AW.seq (AW.cond rfl (λCO=>?_) (λCO=>?_)))))
 .try simp only[fD] at CO
  refine AW.skip (AW.seq (AW.block (AW.seq ?_)));have hx:=hz _ (getD_mem (show i<l.length by omega) 0)
  refine AW.rg hE rfl (aj rfl (dR sl.aW 0 rfl rfl (by omega) rfl rfl (iD ag.aC rfl (vs:=[_,_,_,_,_,_,_,_]) rfl (ay rfl) (al z.aC rfl λb7=>(aF rfl (fA sz.aC rfl rfl rfl rfl rfl (ay rfl) (cells2:=[_,_,_,_,_,_,_,_]) rfl (OL.nil ?_)))))))
  refine AW.sg hE rfl (iU rfl (aj rfl (bC fd.iC rfl rfl (aQ ag.Rat rfl rfl (vs:=[_,_,_]) rfl (ay rfl) (jv sl.bg rfl rfl (by omega) (LQ sz.Rat rfl (d:=dQ (l.getD i 0)) BJ rfl rfl (by rw[dA];omega) (es2:=((nT 0 (λj=>(Hz mi l).getD j 0) l.length i).set i (l.getD i 0)).map dQ) (by rw[List.map_set]) (OL.nil ?_)))))))
  refine AW.sg hE rfl (aj rfl (OL.nil (AW.cond rfl (λhm=>?_) (λhm=>?_))))
  .have hm:mi=true:=hm;have hv:(Hz mi l).getD i 0 = -(l.getD i 0):=(WV (by omega)).trans (if_pos hm)
   refine AW.rg hE rfl (iU rfl (aj rfl (bC fd.iC rfl rfl (aQ ag.Rat rfl rfl (vs:=[_,_,_]) rfl (ay rfl) (bH rfl vL (Ii (q:=l.getD i 0) (by omega)) (jv sl.bg rfl rfl (by omega) ?_))))))
   refine LQ sz.Rat rfl (d:=dQ (-(l.getD i 0))) BJ rfl rfl (by rw[dA,List.length_set];omega) (es2:=(nT 0 (λj=>(Hz mi l).getD j 0) l.length (i+1)).map dQ) (by rw[<- qU (show i<l.length by omega),hv,<- List.map_set,List.set_set]) ?_
   exact OL.nil (AW.rg hE rfl (aI rfl rfl (by omega) (aj rfl (OL.nil (AW.again (x:=i) (i+1) (by omega) ⟨by omega,Knows.app .Ky .dD,.cons rfl .nil⟩)))))
  .have hm:mi=false:=hm;have hv:(Hz mi l).getD i 0=l.getD i 0:=(WV (by omega)).trans (if_neg (by rw[hm];exact Bool.false_ne_true))
   refine AW.skip (AW.rg hE rfl (aI rfl rfl (by omega) (aj rfl (OL.nil ?_))))
   exact AW.again (x:=i) (i+1) (by omega) ⟨by omega,Knows.app .Ky .dD,.cons (by rw[<- qU (show i<l.length by omega),hv];rfl) .nil⟩
 .try simp only[fD] at CO
  refine AW.exit (AW.seq ?_);obtain rfl:i=l.length:=by omega
  rw[Jw hnl];refine AW.freeze 10 rfl (AW.to [(5,.d (dJ (Hz mi l)))] [] (.cons (dP (by rw[dA];first|rfl|omega) rfl) .nil) .nil ?_)
  exact AW.rg hE rfl (aj rfl (aF rfl (OL.nil (AW.ret (aP.r ⟨_,.tmp rfl .nil,.le vR⟩)))))
set_option maxHeartbeats 800000 in
theorem aC1 {m:bV}{e s:Nat}{v:List Rat}(ok:m.Ok)(fl:m.Full)(z6:m.Sz e)(hv:v.length=m.n)(hs:s<m.k)(zv:∀ a,sz (v.getD a 0)<=5764801):ai P F.kN [wZ m,.d (dJ v),.d (dI ((s:Int)+1))] (.d (dJ (stepM m v s))):=by
 have n6:=z6.n6;have k4:=z6.k2;have e24:=z6.e24;have hml:m.jb.length=m.k:=rfl;have hr:=fl.rows s hs;refine ai.intro fn.kN (by rfl) (by rfl) (ay (by rfl)) λE hE=>(AW.sg hE rfl (iO rfl rfl λb3=>(jK rfl (OL.nil (AW.sg hE rfl (aj rfl (fF sl.bg rfl rfl ?_)))))))
 refine X4 dQ 0 sl.bg z.Rat Dj rfl rfl (Nat.le_refl _) (by omega) (by omega) rfl λb14=>(pV rfl (OL.nil (AW.seq (AW.sg hE rfl (aj rfl (fF sl.bg rfl rfl (aj rfl ?_)))))))
 refine OL.nil (AW.block ?_);refine AW.aY (α:=Nat) [(2,_),(3,_),(6,_),(7,_),(15,_),(16,_)] [(3,_)] (λi=>[(17,.d (dI i))]) (λi=>[(14,.row b14 v.length T.Rat 3 ((pO m v s i 0).map dQ))]) (λi=>i<=m.n) (λi=>m.n-i) 0 (.cons (di rfl) (.cons (iw rfl) (.cons (xK rfl) (.cons (zA rfl) (.cons (di rfl) (.cons (di rfl) .nil)))))) (.cons (je rfl) .nil) ⟨Nat.zero_le _,.dD,.cons (by rw[al9,<- hv];rfl) .nil⟩ ?_
 intro i h1;have h1:i<=m.n:=h1;have hcl:=Ag m v s i 0;refine AW.sg hE rfl (bG rfl rfl rfl (OL.nil (AW.seq (AW.cond rfl (λh18=>?_) (λh18=>?_)))))
 .try simp only[fD] at h18
  refine AW.skip (AW.seq (AW.block (AW.seq ?_)));have zx:=zv i;refine AW.rg hE rfl (aj rfl (dR sl.bg 0 rfl rfl (by omega) rfl rfl (iD ag.Rat rfl (vs:=[_,_,_]) rfl (ay rfl) (al z.Rat rfl λb9=>(aF rfl (fA sz.Rat rfl rfl rfl rfl rfl (ay rfl) (cells2:=[_,_,_]) rfl (OL.nil ?_)))))))
  refine AW.seq (AW.sg hE rfl (aQ ag.Rat rfl rfl (vs:=[_,_,_]) rfl (ay rfl) (bH rfl vL (su (x:=v.getD i 0) (by omega)) (fG rfl rfl rfl (OL.nil (AW.cond rfl (λhx=>?_) (λhx=>?_)))))))
  .have hx:v.getD i 0=0:=sK.1 (lK hx);refine AW.exit ?_
   first|(obtain rfl:j=m.n:=(by omega))|skip
   refine AW.rg hE rfl (aI rfl rfl (by omega) (aj rfl (OL.nil ?_)))
   exact AW.again (x:=i) (i+1) (by omega) ⟨by omega,Knows.app .ZR .dD,dL.app (.cons rfl .nil) (.cons (by rw[QY hx];rfl) .nil)⟩
  .have hcc:=fl.cols s hs i (by omega)
   refine AW.skip (AW.sg hE rfl (bC fd.o7 rfl rfl (aG ce.jF rfl rfl rfl (aj rfl (bo rfl rfl (mg (c:=(s:Int)) (by omega) (wrap_i64 (by omega))) (dR sl.jF [] rfl rfl (by omega) rfl rfl (iE ce.dw rfl ?_)))))))
   refine aj rfl (dR sl.dw [] rfl rfl (by omega) rfl rfl (iE ce.bg rfl (fF sl.bg rfl rfl ?_)))
   rw[hcc];refine aj rfl (OL.nil (AW.block ?_));refine AW.aY (α:=Nat) [(2,_),(3,_),(6,_),(7,_),(9,_),(15,_),(16,_),(17,_),(33,_),(34,_)] [(3,_),(9,_)] (λj=>[(35,.d (dI j))]) (λj=>[(14,.row b14 v.length T.Rat 3 ((pO m v s i j).map dQ))]) (λj=>j<=m.n) (λj=>m.n-j) 0 (.cons (di rfl) (.cons (iw rfl) (.cons (xK rfl) (.cons (zA rfl) (.cons (iw rfl) (.cons (di rfl) (.cons (di rfl) (.cons (di rfl) (.cons (di rfl) (.cons (di rfl) .nil)))))))))) (.cons (je rfl) (.cons (je rfl) .nil)) ⟨Nat.zero_le _,.dD,.cons rfl .nil⟩ ?_;intro j h2;have h2:j<=m.n:=h2;have bM5:=Ag m v s i j;have zc:=aB2 (s:=s) (j:=j) z6 zv (show i+1<=6 by omega) j
   have ze:=z6.ent s i j;refine AW.sg hE rfl (bG rfl rfl rfl (OL.nil (AW.seq (AW.cond rfl (λh36=>?_) (λh36=>?_)))))
   .try simp only[fD] at h36
    refine AW.skip (AW.seq (AW.block (AW.sg hE rfl (aj rfl (dR sl.bg 0 rfl rfl (by omega) rfl rfl (iD ag.Rat rfl (vs:=[_,_,_]) rfl (ay rfl) (al z.Rat rfl λb11=>?_)))))))
    refine aF rfl (fA sz.Rat rfl rfl rfl rfl rfl (ay rfl) (cells2:=[_,_,_]) rfl (OL.nil (AW.sg hE rfl (aQ ag.Rat rfl rfl (vs:=[_,_,_]) rfl (ay rfl) (bH rfl vL (su (x:=qJ m s i j) (by omega)) (eX rfl rfl rfl (OL.nil ?_)))))))
    refine AW.cond rfl (λhy=>?_) (λhy=>?_)
    .have _hy:=hy;have zm:=lu (v.getD i 0) (qJ m s i j);refine AW.dg 1 [0,1,2,3,4,5,6,7,8,9,10,11] ak hE rfl (by kernel_rfl) (OI.aK (os:=[_,_,_,_,_,_,_,_,_,_,_,_]) rfl ?_)
     refine iU rfl (aj rfl (iU rfl (aj rfl (jv sl.bg rfl rfl (by omega) (Je ag.Rat 0 (by decide) rfl rfl (by omega) (vs:=[_,_,_]) rfl (ay rfl) (aQ ag.Rat rfl rfl (vs:=[_,_,_]) rfl (ay rfl) (aQ ag.Rat rfl rfl (vs:=[_,_,_]) rfl (ay rfl) ?_)))))))
     refine bH rfl vL (yG (x:=v.getD i 0) (y:=qJ m s i j) (by omega) (by omega)) (bH rfl vL (uJ (x:=(pO m v s i j).getD j 0) (y:=v.getD i 0*qJ m s i j) (by omega) (by omega)) (jv sl.bg rfl rfl (by omega) (LQ sz.Rat rfl (d:=dQ ((pO m v s i j).getD j 0+v.getD i 0*qJ m s i j)) BJ rfl rfl (by rw[dA];omega) (es2:=(pO m v s i (j+1)).map dQ) (by rw[<- SC (show j<m.n by omega),List.map_set]) (OL.nil (AW.rg hE rfl (aI rfl rfl (by omega) (aj rfl ?_)))))))
     refine OL.nil ?_;exact AW.again (x:=j) (j+1) (by omega) ⟨by omega,Knows.app .Um .dD,dL.app (.cons rfl (.cons rfl .nil)) (.cons rfl .nil)⟩
    .have hy:qJ m s i j=0:=sK.1 (yY hy);refine AW.skip (AW.rg hE rfl (aI rfl rfl (by omega) (aj rfl (OL.nil ?_))))
     exact AW.again (x:=j) (j+1) (by omega) ⟨by omega,Knows.app .Um .dD,dL.app (.cons rfl (.cons rfl .nil)) (.cons (by rw[Y1 (by omega) hy];rfl) .nil)⟩
   .try simp only[fD] at h36
    refine AW.exit ?_
    first|(obtain rfl:j=m.n:=(by omega))|skip
    refine AW.rg hE rfl (aI rfl rfl (by omega) (aj rfl (OL.nil ?_)))
    exact AW.again (x:=i) (i+1) (by omega) ⟨by omega,Knows.app .ZR .dD,dL.app (.cons rfl .nil) (.cons (by rw[<- al7];rfl) .nil)⟩
 .try simp only[fD] at h18
  refine AW.exit (AW.seq ?_);obtain rfl:i=m.n:=by omega
  rw[al8];have hsl:=DT m v s;refine AW.freeze 14 rfl (AW.to [(7,.d (dJ (stepM m v s)))] [] (.cons (dP (by rw[dA];first|rfl|omega) rfl) .nil) .nil ?_)
  exact AW.rg hE rfl (aj rfl (aF rfl (OL.nil (AW.ret (aP.r ⟨_,.tmp rfl .nil,.le vR⟩)))))
theorem UW {m:bV}{e:Nat}{L:List (List Int)}{u:List Int}(ok:m.Ok)(z6:m.Sz e)(nl:L.length<=6)(hu:u.length<=6)(hL:∀ l,l ∈ L->l.length<=6):ai P F.gy [.d (dJ (bF m u)),.ref [Gj (aA m) L]] (.d (dJ (aZ m L u))):=by
 have n6:=z6.n6;have hvl:(aZ m L u).length=L.length:=fU;refine ai.intro fn.gy (by rfl) (by rfl) (ay (by rfl)) λE hE=>(AW.sg hE rfl (jK rfl (OL.nil (AW.sg hE rfl (iE ce.Rows rfl (fF sl.Rows rfl rfl (X4 dQ 0 sl.bg z.Rat Dj rfl rfl (Nat.le_refl _) (by omega) (by omega) rfl λb9=>?_)))))))
 refine pV rfl (OL.nil (AW.seq (AW.sg hE rfl (iE ce.Rows rfl (fF sl.Rows rfl rfl (aj rfl (OL.nil ?_)))))));refine AW.block ?_;refine AW.aY (α:=Nat) [(0,_),(3,_),(4,_),(10,_),(11,_)] [] (λi=>[(12,.d (dI i))]) (λi=>[(9,.row b9 L.length T.Rat 3 ((nT 0 (λj=>(aZ m L u).getD j 0) L.length i).map dQ))]) (λi=>i<=L.length) (λi=>L.length-i) 0 (.cons (di rfl) (.cons (xK rfl) (.cons (zA rfl) (.cons (di rfl) (.cons (di rfl) .nil))))) .nil ⟨Nat.zero_le _,.dD,.cons (by rw[sD];rfl) .nil⟩ ?_
 intro i h1;have h1:i<=L.length:=h1;have hfl:=vM 0 (λj=>(aZ m L u).getD j 0) L.length i;refine AW.sg hE rfl (bG rfl rfl rfl (OL.nil (AW.seq (AW.cond rfl (λh13=>?_) (λh13=>?_)))))
 .try simp only[fD] at h13
  refine AW.skip (AW.seq (AW.block (AW.sg hE rfl (aj rfl (dR sl.Rows [] rfl rfl (by omega) rfl rfl (iD ag.Row rfl (vs:=[_,_]) rfl (ay rfl) (al z.Row rfl λb6=>?_)))))))
  refine aF rfl (fA sz.Row rfl rfl rfl rfl rfl (ay rfl) (cells2:=[_,_]) rfl (OL.nil ?_));have hv:(λj=>(aZ m L u).getD j 0) i=vX m.n (vf (bF m u)) (vf (bF (aA m) (L.getD i []))):=aT _ _ (by omega)
  refine AW.rg hE rfl (iU rfl (aj rfl (aj rfl (bC fd.Me rfl rfl (aG ce.bg rfl rfl rfl (bH rfl vL (bo9 (u:=bF m u) (v:=bF (aA m) (L.getD i [])) (n:=m.n) (jl ok u) (jl (iH ok) _) n6 (jY z6 hu) (jY z6.turn (hL _ (getD_mem (by omega) [])))) ?_))))))
  rw[<- hv];exact jv sl.bg rfl rfl (by omega) (LQ sz.Rat rfl (d:=dQ ((λj=>(aZ m L u).getD j 0) i)) BJ rfl rfl (by rw[dA];omega) (es2:=(nT 0 (λj=>(aZ m L u).getD j 0) L.length (i+1)).map dQ) (by rw[<- qU (show i<L.length by omega),List.map_set]) (OL.nil (AW.rg hE rfl (aI rfl rfl (by omega) (aj rfl (OL.nil (AW.again (x:=i) (i+1) (by omega) ⟨by omega,Knows.app .Ky .dD,.cons rfl .nil⟩)))))))
 .try simp only[fD] at h13
  refine AW.exit (AW.seq ?_);obtain rfl:i=L.length:=by omega
  rw[Jw hvl];refine AW.freeze 9 rfl (AW.to [(4,.d (dJ (aZ m L u)))] [] (.cons (dP (by rw[dA];first|rfl|omega) rfl) .nil) .nil ?_)
  exact AW.rg hE rfl (aj rfl (aF rfl (OL.nil (AW.ret (aP.r ⟨_,.tmp rfl .nil,.le vR⟩)))))
end Go.Proofs.YtanlenlmihoiiaaGreatDoor
namespace Go.AL
open Go Go.BigFrame
def xe (w:List Rat)(g:Nat->Rat)(i:Nat):List Rat:=(List.range w.length).map λj=>if j<i then g j else w.getD j 0
section
variable {w:List Rat}{g:Nat->Rat}{i:Nat}
theorem D5:(xe w g i).length=w.length:=by simp[xe]
theorem P5 (w:List Rat):((List.range w.length).map λj=>w.getD j 0)=w:=by
 refine List.ext_getElem (by simp) λj h1 h2=>?_
 simp only[List.getElem_map,List.getElem_range];rw[jh,lQ h2];rfl
theorem D6:xe w g 0=w:=by
 have e:xe w g 0=(List.range w.length).map λj=>w.getD j 0:=List.map_congr_left λj _=>if_neg (by omega)
 rw[e,P5]
theorem JJ (hi:i<w.length):(xe w g i).getD i 0=w.getD i 0:=by
 unfold xe;rw[aT _ _ hi,if_neg (Nat.lt_irrefl _)]
theorem JK (hi:i<w.length):(xe w g i).set i (g i)=xe w g (i+1):=by
 refine List.ext_getElem (by rw[List.length_set,D5,D5]) λj h1 h2=>?_
 rw[List.getElem_set];by_cases hj:i=j
 .subst hj;rw[if_pos rfl];simp only[xe,List.getElem_map,List.getElem_range];rw[if_pos (by omega)]
 .rw[if_neg hj];simp only[xe,List.getElem_map,List.getElem_range];by_cases h:j<i
  .rw[if_pos h,if_pos (by omega)]
  .rw[if_neg h,if_neg (by omega)]
theorem JL (h:∀ j,i<=j->j<w.length->g j=w.getD j 0):xe w g i=(List.range w.length).map g:=by
 refine List.map_congr_left λj hj=>?_
 split
 .rfl
 .exact (h j (by omega) (List.mem_range.1 hj)).symm
end
section
variable {r:bZ}{w t:List Rat}{rs:List bZ}{k n:Nat}
theorem SH:∀ (a:List bZ) (w:List Rat),aO (a++[r]) w=jg (aO a w) r
 | [],_=>rfl
 | x::a,w=>by rw[List.cons_append,aO,aO,SH a]
theorem SI:∀ (a:List bZ) (w t:List Rat),tX (a++[r]) w t=IA (tX a w t) (fJ (aO a w) r) r.c
 | [],_,_=>rfl
 | x::a,w,t=>by rw[List.cons_append,tX,tX,aO,SI a]
theorem IG (hk:k<rs.length):rs.take (k+1)=rs.take k++[rs.getD k default]:=by
 rw[List.take_succ_eq_append_getElem hk,jh,lQ hk];rfl
theorem Ai (hk:k<rs.length):aO (rs.take (k+1)) w=jg (aO (rs.take k) w) (rs.getD k default):=by rw[IG hk,SH]
theorem SN (hk:k<rs.length):tX (rs.take (k+1)) w t=IA (tX (rs.take k) w t) (fJ (aO (rs.take k) w) (rs.getD k default)) (rs.getD k default).c:=by rw[IG hk,SI]
theorem am0 (t c:List Rat):IA t 0 c=t:=by
 unfold IA;have e:(λi=>t.getD i 0+0*c.getD i 0)=λi=>t.getD i 0:=by funext i;rw[Rat.zero_mul,Rat.add_zero]
 rw[e,P5]
theorem pR (hk:k<rs.length):rs.getD k default ∈ rs:=getD_mem hk default
theorem SQ (hk:k<rs.length):rs[k]? = some (rs.getD k default):=by
 rw[jh,lQ hk];rfl
theorem ML {a:Nat}(h:a<=5):4 ^ a*(16777215+1)<=17179869184:=by
 have:=Nat.pow_le_pow_right (n:=4) (by decide) h
 have:=Nat.mul_le_mul_right (16777215+1) this;omega
theorem Nq.bounds (z:Nq 16777215 rs)(hl:rs.length<=6)(hk:k<rs.length)(zv:∀ i,sz (w.getD i 0)<=16777215) :
  (∀ i,sz ((aO (rs.take k) w).getD i 0)<=17179869183)/\(∀ i,sz ((Go.AL.tX (rs.take k) w (List.replicate n 0)).getD i 0)<=17179869183)/\(∀ i,sz ((rs.getD k default).v.getD i 0)<=17179869183)/\∀ i,sz ((rs.getD k default).c.getD i 0)<=17179869183:=by
 have hb:=ML (show k<=5 by omega)
 have ht:(rs.take k).length=k:=by rw[List.length_take];omega
 have h1:=λi=>(z.take k).red zv i;have h2:=λi=>(z.take k).tX (by decide) zv n i
 rw[ht] at h1 h2;have h3:=z k _ (SQ hk);refine⟨λi=>?_,λi=>?_,λi=>?_,λi=>?_⟩
 .have:=h1 i;omega
 .have:=h2 i;omega
 .have:=h3.1 i;omega
 .have:=h3.2 i;omega
theorem Nq.last (z:Nq 16777215 rs)(hl:rs.length<=6)(zv:∀ i,sz (w.getD i 0)<=16777215):(∀ i,sz ((aO rs w).getD i 0)<=68719476735)/\∀ i,sz ((jS rs w).getD i 0)<=68719476735:=by
 have h4:4 ^ rs.length*(16777215+1)<=68719476736:=by
  have:=Nat.pow_le_pow_right (n:=4) (by decide) hl
  have:=Nat.mul_le_mul_right (16777215+1) this;omega
 have h1:=λi=>z.red zv i;have h2:=λi=>z.tX (by decide) zv rs.length i
 refine⟨λi=>?_,λi=>?_⟩
 .have:=h1 i;omega
 .have:=h2 i;unfold jS;omega
theorem ad8 {i:Nat}(hi:i<rs.length):(NJ rs w).getD i 0 = -((jS rs w).getD i 0):=by
 have hl:=Bq rs w;unfold NJ;rw[jh,List.getElem?_append_left (by rw[dA,hl];exact hi),List.getElem?_map,jh,lQ (by rw[hl];exact hi)];rfl
theorem WY:(NJ rs w).getD rs.length 0=1:=by
 have hl:=Bq rs w;unfold NJ;rw[jh,List.getElem?_append_right (by rw[dA,hl];exact Nat.le_refl _),dA,hl,Nat.sub_self];rfl

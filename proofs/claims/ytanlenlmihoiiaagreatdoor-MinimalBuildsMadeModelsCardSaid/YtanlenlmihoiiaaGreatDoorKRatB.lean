/-
  Walks of package rational, part 5: sums, products, comparisons (printed by mk.py).
-/
import Derived.Test.YtanlenlmihoiiaaGreatDoorKLimbsC
set_option linter.unusedVariables false
set_option linter.unusedSimpArgs false
namespace Go.Proofs.YtanlenlmihoiiaaGreatDoor
open Go Go.AL
theorem jD  : ai P F.jD [] (.d (aH (lim 1))):=by
 refine ai.intro fn.jD (by rfl) (by rfl) (ay (by rfl)) λE hE=>?_
 refine AW.sg hE rfl ?_;refine jK rfl ?_;refine OL.nil ?_;refine AW.sg hE rfl ?_;refine rF (y:=BH 1) sl.limbs (VC.d _).vd rfl (by decide) ?_
 refine aF rfl ?_;exact OL.nil (AW.ret (aP.r ⟨_,.tmp rfl .nil,.le (au (by rw[xI (by decide) (by decide)];rfl))⟩))
theorem kW {L:List Nat}(nL:L.length<=8796093022208):ai P F.kW [.d (aH L)] (.d (dB (canon L))):=by
 refine ai.intro fn.kW (by rfl) (by rfl) (ay (by rfl)) λE hE=>(AW.sg hE rfl (aF rfl (OL.nil (AW.sg hE rfl (aj rfl (fF sl.aH rfl rfl (fG rfl rfl rfl ?_)))))))
 refine OL.split 5 rfl (λh=>?_) (λh=>?_)
 .have h:=lK h;refine aj rfl (OL.nd rfl (OL.nd rfl (OL.nd rfl (OL.nd rfl (OL.nd rfl (OL.nd rfl (OL.nd rfl ?_)))))));exact oK rfl rfl (aF rfl (OL.nil (AW.ret (aP.r ⟨_,.tmp rfl .nil,.le (bW.bool (by rw[Hl (l:=L) (by omega)];rfl))⟩))))
 .have h:=nZ h;refine aj rfl (OL.yes rfl (aj rfl (OL.yes rfl (aj rfl (OL.yes rfl (fF sl.aH rfl rfl (OL.yes rfl ?_)))))));refine iZ rfl rfl (by omega) (OL.yes rfl (ixL sl.aH 0 rfl rfl (by omega) (by omega) rfl rfl (OL.yes rfl (iE ce.u32 rfl (OL.yes rfl (eX rfl rfl rfl (oI rfl rfl ?_)))))))
  exact aF rfl (OL.nil (AW.ret (aP.r ⟨_,.tmp rfl .nil,.le (bW.bool (ve (by omega)))⟩)))
theorem MB {L:List Nat}(nL:L.length<=8796093022208):ai P F.gJ [.d (aH L)] (.d (aH L)):=by
 refine ai.intro fn.gJ (by rfl) (by rfl) (ay (by rfl)) λE hE=>(AW.sg hE rfl (jK rfl (OL.nil (AW.seq (AW.sg hE rfl (aj rfl (isNil sl.limbs.u rfl (λy hy=>by obtain⟨a,_,rfl⟩:=kK hy;exact Nat.one_pos) rfl λb hb=>?_)))))))
 refine OL.nil (AW.cond rfl (λh=>?_) (λh=>?_))
 .have hL:L=[]:=by have:=hb h;simpa using this
  exact AW.sg hE rfl (jK rfl (OL.nil (AW.ret (aP.r ⟨_,.tmp rfl .nil,.le (hL ▸ bW.mt)⟩))))
 .have _h:=h;exact AW.skip (AW.sg hE rfl (lt0 sl.limbs (aj rfl (au1 sl.limbs rfl rfl (VC.d _) (λy hy=>by obtain⟨a,_,rfl⟩:=kK hy;rfl) (by simp;omega) (by simp;omega) (aF rfl (OL.nil (AW.ret (aP.r ⟨_,.tmp rfl .nil,.le vR⟩))))))))
theorem kC {r:Raw}(hr:r.Ok):ai P F.kC [uF r] (.d (dB r.good)):=by
 have n1:=hr.ln;have n2:=hr.ld;refine ai.intro fn.kC (by rfl) (by rfl) (ay (by rfl)) λE hE=>(AW.sg hE rfl (iO rfl rfl λb1=>(aF rfl (OL.nil (AW.seq (AW.block (AW.sg hE rfl ?_)))))))
 refine bC fd.rZ rfl rfl (aG ce.aH rfl rfl rfl (cl (kW (by omega)) rfl vL (nt rfl (OL.split 7 rfl (λh1=>?_) (λh1=>?_)))))
 .have h1:canon r.num=false:=by simpa using h1
  refine aj rfl (OL.nd rfl (OL.nd rfl (OL.nd rfl (OL.nd rfl (oK rfl rfl (aF rfl (OL.nil ?_)))))));refine Hr rfl ?_;exact AW.sg hE rfl (aF rfl (OL.nil (AW.ret (aP.r ⟨_,.tmp rfl .nil,.le (bW.bool (by simp[Raw.good,h1]))⟩))))
 .have h1:canon r.num=true:=by simpa using h1
  refine aj rfl (OL.yes rfl (bC fd.o6 rfl rfl (OL.yes rfl (aG ce.aH rfl rfl rfl (OL.yes rfl (cl (kW (by omega)) rfl vL (OL.yes rfl ?_)))))))
  refine nt rfl (oI rfl rfl (aF rfl (OL.nil (AW.cond rfl (λh2=>?_) (λh2=>?_)))))
  .have h2:canon r.den=false:=by simpa using h2
   exact AW.sg hE rfl (aF rfl (OL.nil (AW.ret (aP.r ⟨_,.tmp rfl .nil,.le (bW.bool (by simp[Raw.good,h2]))⟩))))
  .have h2:canon r.den=true:=by simpa using h2
   have hL:=Dp hr.num h1;have hD:=Dp hr.den h2;refine AW.sg hE rfl (bC fd.rZ rfl rfl (aG ce.aH rfl rfl rfl (fF sl.aH rfl rfl (fG rfl rfl rfl (aF rfl (OL.nil (AW.cond rfl (λh3=>?_) (λh3=>?_))))))))
   .have h3:r.num=[]:=Hl (by have:=lK h3;omega)
    refine AW.sg hE rfl (bC fd.uh rfl rfl (aG ce.bool rfl rfl rfl (nt rfl (OL.split 21 rfl (λh4=>?_) (λh4=>?_)))))
    .have h4:r.neg=false:=by simpa using h4
     refine aj rfl (OL.yes rfl (bC fd.o6 rfl rfl (OL.yes rfl (aG ce.aH rfl rfl rfl (OL.yes rfl (fF sl.aH rfl rfl (OL.yes rfl ?_)))))));exact fG rfl rfl rfl (oK rfl rfl (aF rfl (OL.nil (AW.ret (aP.r ⟨_,.tmp rfl .nil,.le (bW.bool (by rw[show r.good=decide (r.den=[]) by simp[Raw.good,Ru,h2,h3,h4]];exact decide_eq_decide.2 (by rw[<- List.length_eq_zero_iff];omega)))⟩)))))
    .have h4:r.neg=true:=by simpa using h4
     refine aj rfl (OL.nd rfl (OL.nd rfl (OL.nd rfl (OL.nd rfl (oI rfl rfl (aF rfl (OL.nil ?_)))))));exact AW.ret (aP.r ⟨_,.tmp rfl .nil,.le (bW.bool (by simp[Raw.good,h3,h4]))⟩)
   .have h3:r.num≠[]:=λe=>by have:=nZ h3;rw[e] at this;exact this rfl
    refine AW.sg hE rfl (bC fd.o6 rfl rfl (aG ce.aH rfl rfl rfl (fF sl.aH rfl rfl (fG rfl rfl rfl (aF rfl (OL.nil (AW.cond rfl (λh5=>?_) (λh5=>?_))))))))
    .have h5:r.den=[]:=Hl (by have:=lK h5;omega)
     exact AW.sg hE rfl (aF rfl (OL.nil (AW.ret (aP.r ⟨_,.tmp rfl .nil,.le (bW.bool (by simp[Raw.good,Ru,h1,h3,h5]))⟩))))
    .have h5:r.den≠[]:=λe=>by have:=nZ h5;rw[e] at this;exact this rfl
     have hn0:val r.num≠0:=λe=>h3 (by rw[<- hL,e,eY])
     have hgl:=uo (Nat.gcd_le_left (val r.den) (Nat.pos_of_ne_zero hn0));rw[hL] at hgl;refine AW.skip (AW.seq (AW.dg 1 [0,1,2,3,4,5,6,7,8,9,10,11,12,13,14,15] ak hE rfl (by kernel_rfl) (OI.aK (os:=[_,_,_,_,_,_,_,_,_,_,_,_,_,_,_,_]) rfl ?_)))
     refine bC fd.o6 rfl rfl (aG ce.aH rfl rfl rfl (cl jD rfl vL (cl (Ac hr.den (bP 1) (by omega) (by have:=sJ (g:=1) (by decide);omega)) rfl vL ?_)))
     rw[bQ];refine eX rfl rfl rfl (OL.split 37 rfl (λh6=>?_) (λh6=>?_))
     .have h6:val r.den≠1:=λe=>BI h6 (zZ.2 e);refine aj rfl (OL.yes rfl (bC fd.rZ rfl rfl (OL.yes rfl (aG ce.aH rfl rfl rfl (OL.yes rfl (bC fd.o6 rfl rfl (OL.yes rfl ?_)))))));refine aG ce.aH rfl rfl rfl (OL.yes rfl (cl (RI (a:=val r.num) (b:=val r.den) (by rw[hL];omega) (by rw[hD];omega)) rfl (by rw[hL,hD];exact fK.refl _) (OL.yes rfl (cl jD rfl vL (OL.yes rfl (cl (Ac (bP _) (bP 1) (by omega) (by have:=sJ (g:=1) (by decide);omega)) rfl vL ?_))))))
      rw[bQ,bQ];exact OL.yes rfl (fG rfl rfl rfl (oK rfl rfl (aF rfl (OL.nil (AW.ret (aP.r ⟨_,.tmp rfl .nil,.le (bW.bool (by simp[Raw.good,h1,h2,h3,h5,h6,zZ]))⟩))))))
     .have h6:val r.den=1:=zZ.1 (yY h6);refine aj rfl (OL.nd rfl (OL.nd rfl (OL.nd rfl (OL.nd rfl (OL.nd rfl (OL.nd rfl (OL.nd rfl ?_)))))));exact OL.nd rfl (oI rfl rfl (aF rfl (OL.nil (AW.ret (aP.r ⟨_,.tmp rfl .nil,.le (bW.bool (by simp[Raw.good,h3,h5,h6]))⟩)))))
theorem iK {r:Raw}(hr:r.Ok):ai P F.iK [uF r] (qFr r.q):=by
 have n1:=hr.ln;have n2:=hr.ld;refine ai.intro fn.iK (by rfl) (by rfl) (ay (by rfl)) λE hE=>(AW.sg hE rfl (iO rfl rfl λb1=>(al z.fraction rfl λb2=>(OL.nil (AW.seq (AW.block (AW.sg hE rfl ?_)))))))
 refine aQ ag.Rat rfl rfl (vs:=[_,_,_]) rfl (ay rfl) (cl (kC hr) rfl vL (nt rfl (aF rfl (OL.nil (AW.cond rfl (λh1=>?_) (λh1=>?_))))))
 .have h1:r.good=false:=by simpa using h1
  have hq:=av5 h1;exact AW.sg hE rfl (cl jD rfl vL (bd z.fraction pl.fraction (cs:=[_,_,_]) rfl (fA sz.fraction rfl rfl rfl rfl rfl (ay rfl) (cells2:=[_,_,_]) rfl (OL.nil (AW.ret (aP.r ⟨_,.dN rfl rfl ag.fraction (ay rfl) .nil,.ag (.cons (.le (au (by rw[hq];rfl))) (.cons (.le (by rw[hq,show (0:Rat).num.natAbs=0 from rfl,eY];exact bW.mt)) (.cons (.le (au (by rw[hq];rfl))) (.nil))))⟩))))))
 .have h1:r.good=true:=by simpa using h1
  obtain⟨f1,f2,f3,f4⟩:=LW hr h1;refine AW.sg hE rfl (bC fd.o6 rfl rfl (aG ce.aH rfl rfl rfl (fF sl.aH rfl rfl (fG rfl rfl rfl (aF rfl (OL.nil (AW.cond rfl (λh2=>?_) (λh2=>?_))))))))
  .have h2:r.den=[]:=Hl (by have:=lK h2;omega)
   refine AW.seq (AW.dg 1 [0,1,2,3,4,5,6] ak hE rfl (by kernel_rfl) (OI.aK (os:=[_,_,_,_,_,_,_]) rfl ?_))
   refine bC fd.uh rfl rfl (aG ce.bool rfl rfl rfl (bC fd.rZ rfl rfl (aG ce.aH rfl rfl rfl (cl jD rfl vL (bd z.fraction pl.fraction (cs:=[_,_,_]) rfl (fA sz.fraction rfl rfl rfl rfl rfl (ay rfl) (cells2:=[_,_,_]) rfl (OL.nil ?_)))))));exact AW.ret (aP.r ⟨_,.dN rfl rfl ag.fraction (ay rfl) .nil,.ag (.cons (.le (au (congrArg (λb=>V.d (dB b)) f1))) (.cons (.le (au (congrArg (λL=>V.d (aH L)) f2))) (.cons (.le (au (congrArg (λd=>V.d (aH (lim d))) (f3 h2).symm))) (.nil))))⟩)
  .have h2:r.den≠[]:=λe=>by have:=nZ h2;rw[e] at this;exact this rfl
   refine AW.skip (AW.sg hE rfl (bC fd.uh rfl rfl (aG ce.bool rfl rfl rfl (bC fd.rZ rfl rfl (aG ce.aH rfl rfl rfl (bC fd.o6 rfl rfl (aG ce.aH rfl rfl rfl ?_)))))));refine bd z.fraction pl.fraction (cs:=[_,_,_]) rfl (fA sz.fraction rfl rfl rfl rfl rfl (ay rfl) (cells2:=[_,_,_]) rfl (OL.nil ?_));exact AW.ret (aP.r ⟨_,.dN rfl rfl ag.fraction (ay rfl) .nil,.ag (.cons (.le (au (congrArg (λb=>V.d (dB b)) f1))) (.cons (.le (au (congrArg (λL=>V.d (aH L)) f2))) (.cons (.le (au (congrArg (λL=>V.d (aH L)) (f4 h2)))) (.nil))))⟩)
theorem CJ {s:Bool}{n d:Nat}:ai P F.jC [vFr s n d] (vFr (!s) n d):=by
 refine ai.intro fn.jC (by rfl) (by rfl) (ay (by rfl)) λE hE=>(AW.sg hE rfl (iO rfl rfl λb1=>(al z.fraction rfl λb2=>(OL.nil (AW.sg hE rfl (bC fd.jR rfl rfl (aG ce.bool rfl rfl rfl ?_)))))))
 refine nt rfl (bC fd.lY rfl rfl (aG ce.limbs rfl rfl rfl (bC fd.oC rfl rfl (aG ce.limbs rfl rfl rfl (bd z.fraction pl.fraction (cs:=[_,_,_]) rfl (fA sz.fraction rfl rfl rfl rfl rfl (ay rfl) (cells2:=[_,_,_]) rfl (OL.nil ?_)))))));exact AW.ret (aP.r ⟨_,.dN rfl rfl ag.fraction (ay rfl) .nil,.ag (.cons (.le vR) (.cons (.le vR) (.cons (.le vR) (.nil))))⟩)
theorem Ic {s t:Bool}{a b d1 d2:Nat}(na:(lim a).length<=1099511627776)(nb:(lim b).length<=1099511627776)(n1:(lim d1).length<=1099511627776)(n2:(lim d2).length<=1099511627776):ai P F.lC [vFr s a d1,vFr t b d2] (vFr (if s=t then s else if b*d1<=a*d2 then s else t) (if s=t then a*d2+b*d1 else if b*d1<=a*d2 then a*d2-b*d1 else b*d1-a*d2) (d1*d2)):=by
 have e1:=gG a d2;have e2:=gG b d1;have e3:=gG d1 d2;refine ai.intro fn.lC (by rfl) (by rfl) (ay (by rfl)) λE hE=>(AW.sg hE rfl (iO rfl rfl λb2=>(iO rfl rfl λb3=>(al z.fraction rfl λb4=>(OL.nil (AW.seq (AW.dg 1 [0,1,2,3,4,5,6,7,8,9,10,11,12,13,14,15,16,17] ak hE rfl (by kernel_rfl) (OI.aK (os:=[_,_,_,_,_,_,_,_,_,_,_,_,_,_,_,_,_,_]) rfl ?_))))))))
 refine bC fd.lY rfl rfl (aG ce.limbs rfl rfl rfl (bC fd.oC rfl rfl (aG ce.limbs rfl rfl rfl (cl (pW (bP a) (bP d2) (by omega) (by omega)) rfl vL ?_))))
 rw[bQ,bQ];refine bC fd.lY rfl rfl (aG ce.limbs rfl rfl rfl (bC fd.oC rfl rfl (aG ce.limbs rfl rfl rfl (cl (pW (bP b) (bP d1) (by omega) (by omega)) rfl vL ?_))))
 rw[bQ,bQ];refine bC fd.oC rfl rfl (aG ce.limbs rfl rfl rfl (bC fd.oC rfl rfl (aG ce.limbs rfl rfl rfl (cl (pW (bP d1) (bP d2) (by omega) (by omega)) rfl vL ?_))))
 rw[bQ,bQ];refine aF rfl (aF rfl (aF rfl (OL.nil (AW.seq (AW.sg hE rfl (bC fd.jR rfl rfl (aG ce.bool rfl rfl rfl ?_)))))));refine bC fd.jR rfl rfl (aG ce.bool rfl rfl rfl (eqb bt.bool rfl rfl (OL.nil (AW.cond rfl (λh=>?_) (λh=>?_)))))
 .have h:s=t:=by simpa using h
  refine AW.seq (AW.dg 1 [0,1,2,3,4,5,6,7] ak hE rfl (by kernel_rfl) (OI.aK (os:=[_,_,_,_,_,_,_,_]) rfl ?_))
  refine bC fd.jR rfl rfl (aG ce.bool rfl rfl rfl (aj rfl (aj rfl (cl (YN (bP _) (bP _) (by omega) (by omega)) rfl vL ?_))))
  rw[bQ,bQ];exact aj rfl (bd z.fraction pl.fraction (cs:=[_,_,_]) rfl (fA sz.fraction rfl rfl rfl rfl rfl (ay rfl) (cells2:=[_,_,_]) rfl (OL.nil (AW.ret (aP.r ⟨_,.dN rfl rfl ag.fraction (ay rfl) .nil,.ag (.cons (.le (au (by rw[if_pos h]))) (.cons (.le (au (by rw[if_pos h]))) (.cons (.le vR) (.nil))))⟩)))))
 .have h:s≠t:=by simpa using h
  refine AW.skip (AW.seq (AW.sg hE rfl (aj rfl (aj rfl (cl (Ac (bP _) (bP _) (by omega) (by omega)) rfl vL ?_)))))
  rw[bQ,bQ];refine qX rfl rfl rfl (OL.nil (AW.cond rfl (λh2=>?_) (λh2=>?_)))
  .have h2:b*d1<=a*d2:=Jh (by have:=lK h2;omega)
   refine AW.seq (AW.dg 1 [0,1,2,3,4,5,6,7] ak hE rfl (by kernel_rfl) (OI.aK (os:=[_,_,_,_,_,_,_,_]) rfl ?_))
   refine bC fd.jR rfl rfl (aG ce.bool rfl rfl rfl (aj rfl (aj rfl (cl (CG (bP _) (bP _) (by omega) (by rw[bQ,bQ];exact h2)) rfl vL ?_))))
   rw[bQ,bQ];exact aj rfl (bd z.fraction pl.fraction (cs:=[_,_,_]) rfl (fA sz.fraction rfl rfl rfl rfl rfl (ay rfl) (cells2:=[_,_,_]) rfl (OL.nil (AW.ret (aP.r ⟨_,.dN rfl rfl ag.fraction (ay rfl) .nil,.ag (.cons (.le (au (by rw[if_neg h,if_pos h2]))) (.cons (.le (au (by rw[if_neg h,if_pos h2]))) (.cons (.le vR) (.nil))))⟩)))))
  .have h2:¬ b*d1<=a*d2:=λe=>nZ h2 (Yx e);refine AW.skip (AW.seq (AW.dg 1 [0,1,2,3,4,5,6,7] ak hE rfl (by kernel_rfl) (OI.aK (os:=[_,_,_,_,_,_,_,_]) rfl ?_)))
   refine bC fd.jR rfl rfl (aG ce.bool rfl rfl rfl (aj rfl (aj rfl (cl (CG (bP _) (bP _) (by omega) (by rw[bQ,bQ];omega)) rfl vL ?_))))
   rw[bQ,bQ];exact aj rfl (bd z.fraction pl.fraction (cs:=[_,_,_]) rfl (fA sz.fraction rfl rfl rfl rfl rfl (ay rfl) (cells2:=[_,_,_]) rfl (OL.nil (AW.ret (aP.r ⟨_,.dN rfl rfl ag.fraction (ay rfl) .nil,.ag (.cons (.le (au (by rw[if_neg h,if_neg h2]))) (.cons (.le (au (by rw[if_neg h,if_neg h2]))) (.cons (.le vR) (.nil))))⟩)))))
theorem tK {s:Bool}{n d:Nat}(nn:(lim n).length<=1099511627776)(nd:(lim d).length<=1099511627776)(hd:d≠0):ai P F.mD [vFr s n d] (uF (fZ (fr s n d))):=by
 refine ai.intro fn.mD (by rfl) (by rfl) (ay (by rfl)) λE hE=>(AW.sg hE rfl (iO rfl rfl λb1=>(al z.Rat rfl λb2=>(OL.nil (AW.seq (AW.sg hE rfl (bC fd.lY rfl rfl ?_)))))))
 refine aG ce.limbs rfl rfl rfl (fF sl.limbs rfl rfl (fG rfl rfl rfl (OL.nil (AW.cond rfl (λh=>?_) (λh=>?_)))))
 .have h:n=0:=dO.1 (by have:=lK h;omega)
  subst h;rw[Us,rO];exact AW.sg hE rfl (bd z.Rat pl.Rat (cs:=[_,_,_]) rfl (fA sz.Rat rfl rfl rfl rfl rfl (ay rfl) (cells2:=[_,_,_]) rfl (OL.nil (AW.ret (aP.r ⟨_,.dN rfl rfl ag.Rat (ay rfl) .nil,.ag (.cons (.le vR) (.cons (.le bW.mt) (.cons (.le bW.mt) (.nil))))⟩)))))
 .have h:n≠0:=λe=>by have:=nZ h;rw[e,eY] at this;exact this rfl
  have hgp:0<Nat.gcd n d:=Nat.gcd_pos_of_pos_left d (Nat.pos_of_ne_zero h);have hgl:=uo (Nat.gcd_le_left d (Nat.pos_of_ne_zero h));have hdl:=uo (Nat.div_le_self d (Nat.gcd n d));rw[Ut h hd];refine AW.skip (AW.seq (AW.dg 1 [0,1,2,3,4,5,6,7] ak hE rfl (by kernel_rfl) (OI.aK (os:=[_,_,_,_,_,_,_,_]) rfl ?_)))
  refine bC fd.lY rfl rfl (aG ce.limbs rfl rfl rfl (cl (MB (by omega)) rfl vL (bC fd.oC rfl rfl (aG ce.limbs rfl rfl rfl (cl (MB (by omega)) rfl vL (aF rfl (aF rfl ?_)))))))
  refine OL.nil ?_;refine AW.mid (α:=Unit) (λ_u=>[(1,.ptr 1 b1 0),(2,.ptr 2 b2 0),(3,.d (aH (lim (n / Nat.gcd n d)))),(4,.d (aH (lim (d / Nat.gcd n d))))]) (λ_u=>[(1,.box b1 T.fraction [.d (dB s),.d (aH (lim n)),.d (aH (lim d))]),(2,.box b2 T.Rat [.d (dB false),.mt,.mt])]) (λ_u=>True) ?_ ?_
  .refine AW.sg hE rfl (aj rfl (aj rfl (cl (RI nn nd) rfl vL (aF rfl (OL.nil (AW.sg hE rfl (aj rfl ?_)))))));refine cl jD rfl vL (cl (Ac (bP _) (bP 1) (by omega) (by have:=sJ (g:=1) (by decide);omega)) rfl vL ?_)
   rw[bQ,bQ];refine eX rfl rfl rfl (OL.nil (AW.cond rfl (λh1=>?_) (λh1=>?_)))
   .have _h1:=h1;refine AW.sg hE rfl (aj rfl (aj rfl (cl (Iw (bP n) nn (by omega) (by omega)) rfl vL ?_)))
    rw[bQ];refine Di rfl (ex rfl rfl (ex rfl rfl (aF rfl (OL.nil (AW.rg hE rfl (aj rfl (aj rfl ?_)))))));refine cl (Iw (bP d) nd (by omega) (by omega)) rfl vL ?_
    rw[bQ];exact Di rfl (ex rfl rfl (ex rfl rfl (aF rfl (OL.nil (AW.reach () ⟨trivial,.LV,.cons rfl (.cons rfl .nil)⟩)))))
   .have h1:Nat.gcd n d=1:=zZ.1 (yY h1);exact AW.skip (AW.reach () ⟨trivial,.cons vR (.cons vR (.cons (au (by rw[h1,Nat.div_one];rfl)) (.cons (au (by rw[h1,Nat.div_one];rfl)) .nil))),.cons rfl (.cons rfl .nil)⟩)
  rintro⟨⟩ -
  refine AW.seq (AW.sg hE rfl (aj rfl (cl jD rfl vL (cl (Ac (bP _) (bP 1) (by omega) (by have:=sJ (g:=1) (by decide);omega)) rfl vL ?_))))
  rw[bQ,bQ];refine fG rfl rfl rfl (OL.nil (AW.cond rfl (λh2=>?_) (λh2=>?_)))
  .have h2:d / Nat.gcd n d=1:=zZ.1 (lK h2);refine AW.rg hE rfl (jK rfl (OL.nil (AW.sg hE rfl (bC fd.jR rfl rfl (aG ce.bool rfl rfl rfl (aj rfl (mvM rfl ?_)))))));exact bd z.Rat pl.Rat (cs:=[_,_,_]) rfl (fA sz.Rat rfl rfl rfl rfl rfl (ay rfl) (cells2:=[_,_,_]) rfl (OL.nil (AW.ret (aP.r ⟨_,.dN rfl rfl ag.Rat (ay rfl) .nil,.ag (.cons (.le vR) (.cons (.le vR) (.cons (.le (by rw[if_pos h2];exact bW.mt)) (.nil))))⟩))))
  .have h2:d / Nat.gcd n d≠1:=λe=>nZ h2 (zZ.2 e);refine AW.skip (AW.sg hE rfl (bC fd.jR rfl rfl (aG ce.bool rfl rfl rfl (aj rfl (aj rfl (bd z.Rat pl.Rat (cs:=[_,_,_]) rfl (fA sz.Rat rfl rfl rfl rfl rfl (ay rfl) (cells2:=[_,_,_]) rfl ?_)))))));exact OL.nil (AW.ret (aP.r ⟨_,.dN rfl rfl ag.Rat (ay rfl) .nil,.ag (.cons (.le vR) (.cons (.le vR) (.cons (.le (au (by rw[if_neg h2]))) (.nil))))⟩))
theorem lW {v:Int}(hv:-9223372036854775808<=v/\v<=9223372036854775807):ai P F.lW [.d (dI v)] (.mM [.d (dB (decide (v<0))),.d (aH (lim v.natAbs))]):=by
 refine ai.intro fn.lW (by rfl) (by rfl) (ay (by rfl)) λE hE=>(AW.sg hE rfl (aF rfl (jK rfl (OL.nil (AW.sg hE rfl (aj rfl (cv it.int it.u64 rfl (c:=v % 18446744073709551616) (Em _) ?_)))))))
 refine aF rfl (OL.nil (AW.mid (α:=Unit) (λ_u=>[(0,.d (dI v)),(4,.d (dU v.natAbs))]) (λ_u=>[]) (λ_u=>True) ?_ ?_))
 .refine AW.sg hE rfl (aj rfl (bG rfl rfl rfl (OL.nil (AW.cond rfl (λh=>?_) (λh=>?_)))))
  .have h:=lK h;exact AW.rg hE rfl (aj rfl (ng rfl (c:=(v.natAbs:Int)) (by rw[Em];omega) (aF rfl (OL.nil (AW.reach () ⟨trivial,.iW,.nil⟩)))))
  .have h:=nZ h;exact AW.skip (AW.reach () ⟨trivial,.cons vR (.cons (bW.int (by omega)) .nil),.nil⟩)
 rintro⟨⟩ -
 refine AW.sg hE rfl (aj rfl (bG rfl rfl rfl (aj rfl (cv it.u64 it.u32 rfl (c:=((v.natAbs % 4294967296:Nat):Int)) (by rw[iy];omega) (aj rfl (LU rfl rfl rfl (cv it.u64 it.u32 rfl (c:=((v.natAbs / 4294967296:Nat):Int)) (by rw[iy];omega) ?_)))))))
 refine lt2 sl.limbs (VC.d _).vd (VC.d _).vd ⟨rfl,rfl⟩ (by decide) (cl (lJ (L:=[v.natAbs % 4294967296,v.natAbs / 4294967296]) (.cons (by omega) (.cons (by omega) .nil)) (by simp)) rfl vL ?_)
 rw[show val [v.natAbs % 4294967296,v.natAbs / 4294967296]=v.natAbs by simp only[jy,jw];omega]
 exact aF rfl (aF rfl (OL.nil (AW.ret (aP.r ⟨_,.tmp rfl (.tmp rfl .nil),_,.cons (.le vR) (.cons (.le vR) .nil),rfl⟩))))
theorem oq {n d:Int}(hn:-9223372036854775808<=n/\n<=9223372036854775807)(hd:-9223372036854775808<=d/\d<=9223372036854775807)(h0:d≠0):ai P F.oq [.d (dI n),.d (dI d)] (.mM [uF (fZ ((n:Rat) / (d:Rat))),.d (dI 0)]):=by
 have e1:(lim n.natAbs).length<=2:=gm (by show n.natAbs<18446744073709551616;omega)
 have e2:(lim d.natAbs).length<=2:=gm (by show d.natAbs<18446744073709551616;omega)
 refine ai.intro fn.oq (by rfl) (by rfl) (ay (by rfl)) λE hE=>(AW.sg hE rfl (al z.Rat rfl λb4=>(aF rfl (OL.nil (AW.seq (AW.sg hE rfl (aj rfl ?_)))))))
 refine fG rfl rfl rfl (OL.nil (AW.cond rfl (λhno=>absurd hno (by simpa using h0)) (λ_=>?_)))
 refine AW.skip (AW.sg hE rfl (aj rfl (cl (lW hn) rfl vL (Di rfl (ex rfl rfl (ex rfl rfl (aF rfl ?_)))))));refine aF rfl (OL.nil (AW.sg hE rfl (aj rfl (cl (lW hd) rfl vL (Di rfl (ex rfl rfl (ex rfl rfl ?_)))))));refine aF rfl (aF rfl (OL.nil (AW.sg hE rfl (aj rfl (aj rfl (neb bt.bool rfl rfl (aj rfl ?_)))))));refine aj rfl (bd z.fraction pl.fraction (cs:=[_,_,_]) rfl (cl (tK (by omega) (by omega) (by omega)) rfl vL ?_))
 rw[show (!(decide (n<0) == decide (d<0)))=(decide (n<0) != decide (d<0)) from rfl,YB]
 exact fA sz.Rat rfl rfl rfl rfl rfl (ay rfl) (cells2:=[_,_,_]) rfl (aF rfl (OL.nil (AW.ret (aP.r ⟨_,.dN rfl rfl ag.Rat (ay rfl) (.tmp rfl .nil),[_,_],.cons (.ag (.cons (.le vR) (.cons (.le vR) (.cons (.le vR) (.nil))))) (.cons (.le vR) .nil),rfl⟩))))
theorem qp {x y:Raw}(hx:x.Ok)(hy:y.Ok):ai P F.qp [uF x,uF y] (uF (fZ (x.q+y.q))):=by
 have a1:=FM hx hx.ln hx.ld (by decide)
 have a2:=FM hy hy.ln hy.ld (by decide)
 have sn1:=lm x.q;have sn2:=lm y.q;have sd1:=lq x.q;have sd2:=lq y.q;have sdd:=gG x.q.den y.q.den;refine ai.intro fn.qp (by rfl) (by rfl) (ay (by rfl)) λE hE=>(AW.sg hE rfl (iO rfl rfl λb2=>(iO rfl rfl λb3=>(al z.Rat rfl λb4=>(OL.nil (AW.seq (AW.dg 1 [0,1,2,3,4,5,6] ak hE rfl (by kernel_rfl) (OI.aK (os:=[_,_,_,_,_,_,_]) rfl ?_))))))))
 refine aQ ag.Rat rfl rfl (vs:=[_,_,_]) rfl (ay rfl) (cl (iK hx) rfl vL (aQ ag.Rat rfl rfl (vs:=[_,_,_]) rfl (ay rfl) (cl (iK hy) rfl vL (cl (Ic (by omega) (by omega) (by omega) (by omega)) rfl vL (cl (tK (Nat.le_trans (Jj sn1 sn2 sd1 sd2) (by omega)) (by omega) (Nat.mul_ne_zero x.q.den_nz y.q.den_nz)) rfl vL ?_)))))
 rw[Nz x.q.den_nz y.q.den_nz,mP,mP];exact fA sz.Rat rfl rfl rfl rfl rfl (ay rfl) (cells2:=[_,_,_]) rfl (OL.nil (AW.ret (aP.r ⟨_,.dN rfl rfl ag.Rat (ay rfl) .nil,.ag (.cons (.le vR) (.cons (.le vR) (.cons (.le vR) (.nil))))⟩)))
theorem qA {x y:Raw}(hx:x.Ok)(hy:y.Ok):ai P F.qA [uF x,uF y] (uF (fZ (x.q-y.q))):=by
 have a1:=FM hx hx.ln hx.ld (by decide)
 have a2:=FM hy hy.ln hy.ld (by decide)
 have sn1:=lm x.q;have sn2:=lm y.q;have sd1:=lq x.q;have sd2:=lq y.q;have sdd:=gG x.q.den y.q.den;have snn:=gG x.q.num.natAbs y.q.num.natAbs;have snd:=gG x.q.num.natAbs y.q.den;have sdn:=gG x.q.den y.q.num.natAbs;refine ai.intro fn.qA (by rfl) (by rfl) (ay (by rfl)) λE hE=>(AW.sg hE rfl (iO rfl rfl λb2=>(iO rfl rfl λb3=>(al z.Rat rfl λb4=>(OL.nil (AW.seq (AW.dg 1 [0,1,2,3,4,5,6,7] ak hE rfl (by kernel_rfl) (OI.aK (os:=[_,_,_,_,_,_,_,_]) rfl ?_))))))))
 refine aQ ag.Rat rfl rfl (vs:=[_,_,_]) rfl (ay rfl) (cl (iK hx) rfl vL (aQ ag.Rat rfl rfl (vs:=[_,_,_]) rfl (ay rfl) (cl (iK hy) rfl vL (cl CJ rfl vL (cl (Ic (by omega) (by omega) (by omega) (by omega)) rfl vL (cl (tK (Nat.le_trans (Jj sn1 sn2 sd1 sd2) (by omega)) (by omega) (Nat.mul_ne_zero x.q.den_nz y.q.den_nz)) rfl vL ?_))))))
 rw[Nz x.q.den_nz y.q.den_nz,<- av6,mP,mP,<- Rat.sub_eq_add_neg];exact fA sz.Rat rfl rfl rfl rfl rfl (ay rfl) (cells2:=[_,_,_]) rfl (OL.nil (AW.ret (aP.r ⟨_,.dN rfl rfl ag.Rat (ay rfl) .nil,.ag (.cons (.le vR) (.cons (.le vR) (.cons (.le vR) (.nil))))⟩)))
theorem qx {x y:Raw}(hx:x.Ok)(hy:y.Ok):ai P F.qx [uF x,uF y] (uF (fZ (x.q*y.q))):=by
 have a1:=FM hx hx.ln hx.ld (by decide)
 have a2:=FM hy hy.ln hy.ld (by decide)
 have sn1:=lm x.q;have sn2:=lm y.q;have sd1:=lq x.q;have sd2:=lq y.q;have sdd:=gG x.q.den y.q.den;have snn:=gG x.q.num.natAbs y.q.num.natAbs;have snd:=gG x.q.num.natAbs y.q.den;have sdn:=gG x.q.den y.q.num.natAbs;refine ai.intro fn.qx (by rfl) (by rfl) (ay (by rfl)) λE hE=>(AW.sg hE rfl (iO rfl rfl λb2=>(iO rfl rfl λb3=>(al z.Rat rfl λb4=>(OL.nil (AW.seq (AW.dg 1 [0,1,2,3,4,5,6,7] ak hE rfl (by kernel_rfl) (OI.aK (os:=[_,_,_,_,_,_,_,_]) rfl ?_))))))))
 refine aQ ag.Rat rfl rfl (vs:=[_,_,_]) rfl (ay rfl) (cl (iK hx) rfl vL (aQ ag.Rat rfl rfl (vs:=[_,_,_]) rfl (ay rfl) (cl (iK hy) rfl vL (al z.fraction rfl λb5=>(al z.fraction rfl λb6=>(fA sz.fraction rfl rfl rfl rfl rfl (ay rfl) (cells2:=[_,_,_]) rfl (fA sz.fraction rfl rfl rfl rfl rfl (ay rfl) (cells2:=[_,_,_]) rfl ?_)))))));refine OL.nil (AW.seq (AW.dg 1 [0,1,2,3,4,5,6,7,8,9,10,11,12,13,14,15,16,17] ak hE rfl (by kernel_rfl) (OI.aK (os:=[_,_,_,_,_,_,_,_,_,_,_,_,_,_,_,_,_,_]) rfl ?_)))
 refine bC fd.jR rfl rfl (aG ce.bool rfl rfl rfl (bC fd.jR rfl rfl (aG ce.bool rfl rfl rfl (neb bt.bool rfl rfl (bC fd.lY rfl rfl (aG ce.limbs rfl rfl rfl (bC fd.lY rfl rfl ?_)))))));refine aG ce.limbs rfl rfl rfl (cl (pW (bP _) (bP _) (by omega) (by omega)) rfl vL ?_)
 rw[bQ,bQ];refine bC fd.oC rfl rfl (aG ce.limbs rfl rfl rfl (bC fd.oC rfl rfl (aG ce.limbs rfl rfl rfl (cl (pW (bP _) (bP _) (by omega) (by omega)) rfl vL ?_))))
 rw[bQ,bQ];refine bd z.fraction pl.fraction (cs:=[_,_,_]) rfl (cl (tK (by omega) (by omega) (Nat.mul_ne_zero x.q.den_nz y.q.den_nz)) rfl vL ?_)
 rw[show ∀ p q:Bool,(!(p == q))=(p != q) from λ_ _=>rfl,<- Uu,mP,mP]
 exact fA sz.Rat rfl rfl rfl rfl rfl (ay rfl) (cells2:=[_,_,_]) rfl (OL.nil (AW.ret (aP.r ⟨_,.dN rfl rfl ag.Rat (ay rfl) .nil,.ag (.cons (.le vR) (.cons (.le vR) (.cons (.le vR) (.nil))))⟩)))
theorem qy {x y:Raw}(hx:x.Ok)(hy:y.Ok):ai P F.qy [uF x,uF y] (.mM [uF (fZ (if y.q=0 then 0 else x.q / y.q)),.d (dI (if y.q=0 then 11 else 0))]):=by
 have a1:=FM hx hx.ln hx.ld (by decide)
 have a2:=FM hy hy.ln hy.ld (by decide)
 have sn1:=lm x.q;have sn2:=lm y.q;have sd1:=lq x.q;have sd2:=lq y.q;have sdd:=gG x.q.den y.q.den;have snn:=gG x.q.num.natAbs y.q.num.natAbs;have snd:=gG x.q.num.natAbs y.q.den;have sdn:=gG x.q.den y.q.num.natAbs;refine ai.intro fn.qy (by rfl) (by rfl) (ay (by rfl)) λE hE=>(AW.sg hE rfl (iO rfl rfl λb2=>(iO rfl rfl λb3=>(al z.Rat rfl λb4=>(aF rfl (OL.nil (AW.seq ?_)))))))
 refine AW.dg 1 [0,1,2,3,4,5,6,7] ak hE rfl (by kernel_rfl) (OI.aK (os:=[_,_,_,_,_,_,_,_]) rfl ?_)
 refine aQ ag.Rat rfl rfl (vs:=[_,_,_]) rfl (ay rfl) (cl (iK hx) rfl vL (aQ ag.Rat rfl rfl (vs:=[_,_,_]) rfl (ay rfl) (cl (iK hy) rfl vL (al z.fraction rfl λb6=>(al z.fraction rfl λb7=>(fA sz.fraction rfl rfl rfl rfl rfl (ay rfl) (cells2:=[_,_,_]) rfl (fA sz.fraction rfl rfl rfl rfl rfl (ay rfl) (cells2:=[_,_,_]) rfl ?_)))))));refine OL.nil (AW.seq (AW.sg hE rfl (bC fd.lY rfl rfl (aG ce.limbs rfl rfl rfl (fF sl.limbs rfl rfl (fG rfl rfl rfl (OL.nil ?_)))))));refine AW.cond rfl (λh=>?_) (λh=>?_)
 .have h:y.q=0:=Rat.num_eq_zero.1 (by have:=dO.1 (show (lim y.q.num.natAbs).length=0 by have:=lK h;omega);omega)
  rw[if_pos h,if_pos h,rO];exact AW.sg hE rfl (bd z.Rat pl.Rat (cs:=[_,_,_]) rfl (fA sz.Rat rfl rfl rfl rfl rfl (ay rfl) (cells2:=[_,_,_]) rfl (aF rfl (OL.nil (AW.ret (aP.r ⟨_,.dN rfl rfl ag.Rat (ay rfl) (.tmp rfl .nil),[_,_],.cons (.ag (.cons (.le vR) (.cons (.le bW.mt) (.cons (.le bW.mt) (.nil))))) (.cons (.le vR) .nil),rfl⟩))))))
 .have h:y.q≠0:=λe=>by have:=nZ h;rw[e,show (0:Rat).num.natAbs=0 from rfl,eY] at this;exact this rfl
  have hn0:y.q.num.natAbs≠0:=λe=>h (Rat.num_eq_zero.1 (by omega))
  rw[if_neg h,if_neg h];refine AW.skip (AW.seq (AW.dg 1 [0,1,2,3,4,5,6,7,8,9,10,11,12,13,14,15,16,17,18] ak hE rfl (by kernel_rfl) (OI.aK (os:=[_,_,_,_,_,_,_,_,_,_,_,_,_,_,_,_,_,_,_]) rfl ?_)))
  refine bC fd.jR rfl rfl (aG ce.bool rfl rfl rfl (bC fd.jR rfl rfl (aG ce.bool rfl rfl rfl (neb bt.bool rfl rfl (bC fd.lY rfl rfl (aG ce.limbs rfl rfl rfl (bC fd.oC rfl rfl ?_)))))));refine aG ce.limbs rfl rfl rfl (cl (pW (bP _) (bP _) (by omega) (by omega)) rfl vL ?_)
  rw[bQ,bQ];refine bC fd.oC rfl rfl (aG ce.limbs rfl rfl rfl (bC fd.lY rfl rfl (aG ce.limbs rfl rfl rfl (cl (pW (bP _) (bP _) (by omega) (by omega)) rfl vL ?_))))
  rw[bQ,bQ];refine bd z.fraction pl.fraction (cs:=[_,_,_]) rfl (cl (tK (by omega) (by omega) (Nat.mul_ne_zero x.q.den_nz hn0)) rfl vL ?_)
  rw[show ∀ p q:Bool,(!(p == q))=(p != q) from λ_ _=>rfl,<- YA x.q.den_nz y.q.den_nz hn0,mP,mP]
  exact fA sz.Rat rfl rfl rfl rfl rfl (ay rfl) (cells2:=[_,_,_]) rfl (aF rfl (OL.nil (AW.ret (aP.r ⟨_,.dN rfl rfl ag.Rat (ay rfl) (.tmp rfl .nil),[_,_],.cons (.ag (.cons (.le vR) (.cons (.le vR) (.cons (.le vR) (.nil))))) (.cons (.le vR) .nil),rfl⟩))))
theorem ou {x:Raw}(hx:x.Ok):ai P F.ou [uF x] (.d (dI (Nc x.q))):=by
 have a1:=FM hx hx.ln hx.ld (by decide)
 have sn1:=lm x.q;refine ai.intro fn.ou (by rfl) (by rfl) (ay (by rfl)) λE hE=>(AW.sg hE rfl (iO rfl rfl λb1=>(aF rfl (OL.nil (AW.seq (AW.sg hE rfl (aQ ag.Rat rfl rfl (vs:=[_,_,_]) rfl (ay rfl) ?_)))))))
 refine cl (iK hx) rfl vL (al z.fraction rfl λb3=>(fA sz.fraction rfl rfl rfl rfl rfl (ay rfl) (cells2:=[_,_,_]) rfl (OL.nil (AW.block (AW.sg hE rfl (bC fd.lY rfl rfl (aG ce.limbs rfl rfl rfl ?_)))))));refine fF sl.limbs rfl rfl (fG rfl rfl rfl (aF rfl (OL.nil (AW.cond rfl (λh=>?_) (λh=>?_)))))
 .have h:x.q.num=0:=by have:=dO.1 (show (lim x.q.num.natAbs).length=0 by have:=lK h;omega);omega
  exact AW.sg hE rfl (aF rfl (OL.nil (AW.ret (aP.r ⟨_,.tmp rfl .nil,.le (bW.int ((LX.2 h).symm))⟩))))
 .have h:x.q.num≠0:=λe=>by have:=nZ h;rw[e,show (0:Int).natAbs=0 from rfl,eY] at this;exact this rfl
  refine AW.sg hE rfl (bC fd.jR rfl rfl (aG ce.bool rfl rfl rfl (aF rfl (OL.nil (AW.cond rfl (λh2=>?_) (λh2=>?_))))))
  .have h2:=lK h2;exact AW.sg hE rfl (aF rfl (OL.nil (AW.ret (aP.r ⟨_,.tmp rfl .nil,.le (bW.int ((Ji.2 h2).symm))⟩))))
  .have h2:=nZ h2;exact AW.skip (AW.sg hE rfl (aF rfl (OL.nil (AW.ret (aP.r ⟨_,.tmp rfl .nil,.le (bW.int (by unfold Nc;rw[if_neg h2,if_neg h]))⟩)))))

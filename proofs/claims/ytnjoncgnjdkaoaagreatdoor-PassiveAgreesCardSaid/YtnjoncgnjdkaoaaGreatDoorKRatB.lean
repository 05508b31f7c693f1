/-
  Walks of package rational, part 5: sums, products, comparisons (printed by mk.py).
-/
import Derived.Test.YtnjoncgnjdkaoaaGreatDoorKLimbsC
set_option linter.unusedVariables false
set_option linter.unusedSimpArgs false
namespace Go.Proofs.YtnjoncgnjdkaoaaGreatDoor
open Go Go.AL
theorem jk  : aj P F.jk [] (.d (aH (lim 1))):=by
 refine aj.intro fn.jk (by rfl) (by rfl) (aB (by rfl)) λE hE=>?_
 refine AW.sg hE rfl ?_;refine oK rfl ?_;refine OL.nil ?_;refine AW.sg hE rfl ?_;refine zX (y:=zY 1) sl.limbs (VC.d _).vd rfl (by decide) ?_
 refine aF rfl ?_;exact OL.nil (AW.ret (aP.r ⟨_,.tmp rfl .nil,.le (au (by rw[wO (by decide) (by decide)];rfl))⟩))
theorem kK {L:List Nat}(nL:L.length<=8796093022208):aj P F.kK [.d (aH L)] (.d (dB (canon L))):=by
 refine aj.intro fn.kK (by rfl) (by rfl) (aB (by rfl)) λE hE=>(AW.sg hE rfl (aF rfl (OL.nil (AW.sg hE rfl (ai rfl (fJ sl.aH rfl rfl (dR rfl rfl rfl ?_)))))))
 refine OL.split 5 rfl (λh=>?_) (λh=>?_)
 .have h:=lq h;refine ai rfl (OL.nd rfl (OL.nd rfl (OL.nd rfl (OL.nd rfl (OL.nd rfl (OL.nd rfl (OL.nd rfl ?_)))))));exact oC rfl rfl (aF rfl (OL.nil (AW.ret (aP.r ⟨_,.tmp rfl .nil,.le (bG.bool (by rw[IK (l:=L) (by omega)];rfl))⟩))))
 .have h:=nS h;refine ai rfl (OL.yes rfl (ai rfl (OL.yes rfl (ai rfl (OL.yes rfl (fJ sl.aH rfl rfl (OL.yes rfl ?_)))))));refine gI rfl rfl (by omega) (OL.yes rfl (ixL sl.aH 0 rfl rfl (by omega) (by omega) rfl rfl (OL.yes rfl (iH ce.u32 rfl (OL.yes rfl (eG rfl rfl rfl (kL rfl rfl ?_)))))))
  exact aF rfl (OL.nil (AW.ret (aP.r ⟨_,.tmp rfl .nil,.le (bG.bool (uH (by omega)))⟩)))
theorem JH {L:List Nat}(nL:L.length<=8796093022208):aj P F.fU [.d (aH L)] (.d (aH L)):=by
 refine aj.intro fn.fU (by rfl) (by rfl) (aB (by rfl)) λE hE=>(AW.sg hE rfl (oK rfl (OL.nil (AW.seq (AW.sg hE rfl (ai rfl (isNil sl.limbs.u rfl (λy hy=>by obtain⟨a,_,rfl⟩:=mM hy;exact Nat.one_pos) rfl λb hb=>?_)))))))
 refine OL.nil (AW.cond rfl (λh=>?_) (λh=>?_))
 .have hL:L=[]:=by have:=hb h;simpa using this
  exact AW.sg hE rfl (oK rfl (OL.nil (AW.ret (aP.r ⟨_,.tmp rfl .nil,.le (hL ▸ bG.mt)⟩))))
 .have _h:=h;exact AW.skip (AW.sg hE rfl (lt0 sl.limbs (ai rfl (YX sl.limbs rfl rfl (VC.d _) (λy hy=>by obtain⟨a,_,rfl⟩:=mM hy;rfl) (by simp;omega) (by simp;omega) (aF rfl (OL.nil (AW.ret (aP.r ⟨_,.tmp rfl .nil,.le vR⟩))))))))
theorem MB {L:List Nat}(nL:L.length<=8796093022208):aj P F.iW [.d (aH L)] (.d (aH L)):=by
 refine aj.intro fn.iW (by rfl) (by rfl) (aB (by rfl)) λE hE=>(AW.sg hE rfl (oK rfl (OL.nil (AW.seq (AW.sg hE rfl (ai rfl (isNil sl.aH.u rfl (λy hy=>by obtain⟨a,_,rfl⟩:=mM hy;exact Nat.one_pos) rfl λb hb=>?_)))))))
 refine OL.nil (AW.cond rfl (λh=>?_) (λh=>?_))
 .have hL:L=[]:=by have:=hb h;simpa using this
  exact AW.sg hE rfl (oK rfl (OL.nil (AW.ret (aP.r ⟨_,.tmp rfl .nil,.le (hL ▸ bG.mt)⟩))))
 .have _h:=h;exact AW.skip (AW.sg hE rfl (lt0 sl.aH (ai rfl (YX sl.aH rfl rfl (VC.d _) (λy hy=>by obtain⟨a,_,rfl⟩:=mM hy;rfl) (by simp;omega) (by simp;omega) (aF rfl (OL.nil (AW.ret (aP.r ⟨_,.tmp rfl .nil,.le vR⟩))))))))
theorem jT {r:Raw}(hr:r.Ok):aj P F.jT [tN r] (.d (dB r.good)):=by
 have n1:=hr.ln;have n2:=hr.ld;refine aj.intro fn.jT (by rfl) (by rfl) (aB (by rfl)) λE hE=>(AW.sg hE rfl (iI rfl rfl λb1=>(aF rfl (OL.nil (AW.seq (AW.block (AW.sg hE rfl ?_)))))))
 refine aW fd.sQ rfl rfl (aG ce.aH rfl rfl rfl (cl (kK (by omega)) rfl vL (nt rfl (OL.split 7 rfl (λh1=>?_) (λh1=>?_)))))
 .have h1:canon r.num=false:=by simpa using h1
  refine ai rfl (OL.nd rfl (OL.nd rfl (OL.nd rfl (OL.nd rfl (oC rfl rfl (aF rfl (OL.nil ?_)))))));refine Ot rfl ?_;exact AW.sg hE rfl (aF rfl (OL.nil (AW.ret (aP.r ⟨_,.tmp rfl .nil,.le (bG.bool (by simp[Raw.good,h1]))⟩))))
 .have h1:canon r.num=true:=by simpa using h1
  refine ai rfl (OL.yes rfl (aW fd.oD rfl rfl (OL.yes rfl (aG ce.aH rfl rfl rfl (OL.yes rfl (cl (kK (by omega)) rfl vL (OL.yes rfl ?_)))))))
  refine nt rfl (kL rfl rfl (aF rfl (OL.nil (AW.cond rfl (λh2=>?_) (λh2=>?_)))))
  .have h2:canon r.den=false:=by simpa using h2
   exact AW.sg hE rfl (aF rfl (OL.nil (AW.ret (aP.r ⟨_,.tmp rfl .nil,.le (bG.bool (by simp[Raw.good,h2]))⟩))))
  .have h2:canon r.den=true:=by simpa using h2
   have hL:=Bl hr.num h1;have hD:=Bl hr.den h2;refine AW.sg hE rfl (aW fd.sQ rfl rfl (aG ce.aH rfl rfl rfl (fJ sl.aH rfl rfl (dR rfl rfl rfl (aF rfl (OL.nil (AW.cond rfl (λh3=>?_) (λh3=>?_))))))))
   .have h3:r.num=[]:=IK (by have:=lq h3;omega)
    refine AW.sg hE rfl (aW fd.tZ rfl rfl (aG ce.bool rfl rfl rfl (nt rfl (OL.split 21 rfl (λh4=>?_) (λh4=>?_)))))
    .have h4:r.neg=false:=by simpa using h4
     refine ai rfl (OL.yes rfl (aW fd.oD rfl rfl (OL.yes rfl (aG ce.aH rfl rfl rfl (OL.yes rfl (fJ sl.aH rfl rfl (OL.yes rfl ?_)))))));exact dR rfl rfl rfl (oC rfl rfl (aF rfl (OL.nil (AW.ret (aP.r ⟨_,.tmp rfl .nil,.le (bG.bool (by rw[show r.good=decide (r.den=[]) by simp[Raw.good,OX,h2,h3,h4]];exact decide_eq_decide.2 (by rw[<- List.length_eq_zero_iff];omega)))⟩)))))
    .have h4:r.neg=true:=by simpa using h4
     refine ai rfl (OL.nd rfl (OL.nd rfl (OL.nd rfl (OL.nd rfl (kL rfl rfl (aF rfl (OL.nil ?_)))))));exact AW.ret (aP.r ⟨_,.tmp rfl .nil,.le (bG.bool (by simp[Raw.good,h3,h4]))⟩)
   .have h3:r.num≠[]:=λe=>by have:=nS h3;rw[e] at this;exact this rfl
    refine AW.sg hE rfl (aW fd.oD rfl rfl (aG ce.aH rfl rfl rfl (fJ sl.aH rfl rfl (dR rfl rfl rfl (aF rfl (OL.nil (AW.cond rfl (λh5=>?_) (λh5=>?_))))))))
    .have h5:r.den=[]:=IK (by have:=lq h5;omega)
     exact AW.sg hE rfl (aF rfl (OL.nil (AW.ret (aP.r ⟨_,.tmp rfl .nil,.le (bG.bool (by simp[Raw.good,OX,h1,h3,h5]))⟩))))
    .have h5:r.den≠[]:=λe=>by have:=nS h5;rw[e] at this;exact this rfl
     have hn0:val r.num≠0:=λe=>h3 (by rw[<- hL,e,dY])
     have hgl:=sZ (Nat.gcd_le_left (val r.den) (Nat.pos_of_ne_zero hn0));rw[hL] at hgl;refine AW.skip (AW.seq (AW.dg 1 [0,1,2,3,4,5,6,7,8,9,10,11,12,13,14,15] ay hE rfl (by kernel_rfl) (OI.aK (os:=[_,_,_,_,_,_,_,_,_,_,_,_,_,_,_,_]) rfl ?_)))
     refine aW fd.oD rfl rfl (aG ce.aH rfl rfl rfl (cl jk rfl vL (cl (yN hr.den (bn 1) (by omega) (by have:=rQ (g:=1) (by decide);omega)) rfl vL ?_)))
     rw[bC];refine eG rfl rfl rfl (OL.split 37 rfl (λh6=>?_) (λh6=>?_))
     .have h6:val r.den≠1:=λe=>D7 h6 (yM.2 e);refine ai rfl (OL.yes rfl (aW fd.sQ rfl rfl (OL.yes rfl (aG ce.aH rfl rfl rfl (OL.yes rfl (aW fd.oD rfl rfl (OL.yes rfl ?_)))))));refine aG ce.aH rfl rfl rfl (OL.yes rfl (cl (Pg (a:=val r.num) (b:=val r.den) (by rw[hL];omega) (by rw[hD];omega)) rfl (by rw[hL,hD];exact fH.refl _) (OL.yes rfl (cl jk rfl vL (OL.yes rfl (cl (yN (bn _) (bn 1) (by omega) (by have:=rQ (g:=1) (by decide);omega)) rfl vL ?_))))))
      rw[bC,bC];exact OL.yes rfl (dR rfl rfl rfl (oC rfl rfl (aF rfl (OL.nil (AW.ret (aP.r ⟨_,.tmp rfl .nil,.le (bG.bool (by simp[Raw.good,h1,h2,h3,h5,h6,yM]))⟩))))))
     .have h6:val r.den=1:=yM.1 (Bc h6);refine ai rfl (OL.nd rfl (OL.nd rfl (OL.nd rfl (OL.nd rfl (OL.nd rfl (OL.nd rfl (OL.nd rfl ?_)))))));exact OL.nd rfl (kL rfl rfl (aF rfl (OL.nil (AW.ret (aP.r ⟨_,.tmp rfl .nil,.le (bG.bool (by simp[Raw.good,h3,h5,h6]))⟩)))))
theorem gX {r:Raw}(hr:r.Ok):aj P F.gX [tN r] (qFr r.q):=by
 have n1:=hr.ln;have n2:=hr.ld;refine aj.intro fn.gX (by rfl) (by rfl) (aB (by rfl)) λE hE=>(AW.sg hE rfl (iI rfl rfl λb1=>(al z.fraction rfl λb2=>(OL.nil (AW.seq (AW.block (AW.sg hE rfl ?_)))))))
 refine aO ag.Rat rfl rfl (vs:=[_,_,_]) rfl (aB rfl) (cl (jT hr) rfl vL (nt rfl (aF rfl (OL.nil (AW.cond rfl (λh1=>?_) (λh1=>?_))))))
 .have h1:r.good=false:=by simpa using h1
  have hq:=af5 h1;exact AW.sg hE rfl (cl jk rfl vL (bd z.fraction pl.fraction (cs:=[_,_,_]) rfl (eH sz.fraction rfl rfl rfl rfl rfl (aB rfl) (cells2:=[_,_,_]) rfl (OL.nil (AW.ret (aP.r ⟨_,.dV rfl rfl ag.fraction (aB rfl) .nil,.ag (.cons (.le (au (by rw[hq];rfl))) (.cons (.le (by rw[hq,show (0:Rat).num.natAbs=0 from rfl,dY];exact bG.mt)) (.cons (.le (au (by rw[hq];rfl))) (.nil))))⟩))))))
 .have h1:r.good=true:=by simpa using h1
  obtain⟨f1,f2,f3,f4⟩:=JA hr h1;refine AW.sg hE rfl (aW fd.oD rfl rfl (aG ce.aH rfl rfl rfl (fJ sl.aH rfl rfl (dR rfl rfl rfl (aF rfl (OL.nil (AW.cond rfl (λh2=>?_) (λh2=>?_))))))))
  .have h2:r.den=[]:=IK (by have:=lq h2;omega)
   refine AW.seq (AW.dg 1 [0,1,2,3,4,5,6] ay hE rfl (by kernel_rfl) (OI.aK (os:=[_,_,_,_,_,_,_]) rfl ?_))
   refine aW fd.tZ rfl rfl (aG ce.bool rfl rfl rfl (aW fd.sQ rfl rfl (aG ce.aH rfl rfl rfl (cl jk rfl vL (bd z.fraction pl.fraction (cs:=[_,_,_]) rfl (eH sz.fraction rfl rfl rfl rfl rfl (aB rfl) (cells2:=[_,_,_]) rfl (OL.nil ?_)))))));exact AW.ret (aP.r ⟨_,.dV rfl rfl ag.fraction (aB rfl) .nil,.ag (.cons (.le (au (congrArg (λb=>V.d (dB b)) f1))) (.cons (.le (au (congrArg (λL=>V.d (aH L)) f2))) (.cons (.le (au (congrArg (λd=>V.d (aH (lim d))) (f3 h2).symm))) (.nil))))⟩)
  .have h2:r.den≠[]:=λe=>by have:=nS h2;rw[e] at this;exact this rfl
   refine AW.skip (AW.sg hE rfl (aW fd.tZ rfl rfl (aG ce.bool rfl rfl rfl (aW fd.sQ rfl rfl (aG ce.aH rfl rfl rfl (aW fd.oD rfl rfl (aG ce.aH rfl rfl rfl ?_)))))));refine bd z.fraction pl.fraction (cs:=[_,_,_]) rfl (eH sz.fraction rfl rfl rfl rfl rfl (aB rfl) (cells2:=[_,_,_]) rfl (OL.nil ?_));exact AW.ret (aP.r ⟨_,.dV rfl rfl ag.fraction (aB rfl) .nil,.ag (.cons (.le (au (congrArg (λb=>V.d (dB b)) f1))) (.cons (.le (au (congrArg (λL=>V.d (aH L)) f2))) (.cons (.le (au (congrArg (λL=>V.d (aH L)) (f4 h2)))) (.nil))))⟩)
theorem A7 {s:Bool}{n d:Nat}:aj P F.ji [vFr s n d] (vFr (!s) n d):=by
 refine aj.intro fn.ji (by rfl) (by rfl) (aB (by rfl)) λE hE=>(AW.sg hE rfl (iI rfl rfl λb1=>(al z.fraction rfl λb2=>(OL.nil (AW.sg hE rfl (aW fd.jK rfl rfl (aG ce.bool rfl rfl rfl ?_)))))))
 refine nt rfl (aW fd.lK rfl rfl (aG ce.limbs rfl rfl rfl (aW fd.oh rfl rfl (aG ce.limbs rfl rfl rfl (bd z.fraction pl.fraction (cs:=[_,_,_]) rfl (eH sz.fraction rfl rfl rfl rfl rfl (aB rfl) (cells2:=[_,_,_]) rfl (OL.nil ?_)))))));exact AW.ret (aP.r ⟨_,.dV rfl rfl ag.fraction (aB rfl) .nil,.ag (.cons (.le vR) (.cons (.le vR) (.cons (.le vR) (.nil))))⟩)
theorem FW {s t:Bool}{a b d1 d2:Nat}(na:(lim a).length<=1099511627776)(nb:(lim b).length<=1099511627776)(n1:(lim d1).length<=1099511627776)(n2:(lim d2).length<=1099511627776):aj P F.kT [vFr s a d1,vFr t b d2] (vFr (if s=t then s else if b*d1<=a*d2 then s else t) (if s=t then a*d2+b*d1 else if b*d1<=a*d2 then a*d2-b*d1 else b*d1-a*d2) (d1*d2)):=by
 have e1:=gJ a d2;have e2:=gJ b d1;have e3:=gJ d1 d2;refine aj.intro fn.kT (by rfl) (by rfl) (aB (by rfl)) λE hE=>(AW.sg hE rfl (iI rfl rfl λb2=>(iI rfl rfl λb3=>(al z.fraction rfl λb4=>(OL.nil (AW.seq (AW.dg 1 [0,1,2,3,4,5,6,7,8,9,10,11,12,13,14,15,16,17] ay hE rfl (by kernel_rfl) (OI.aK (os:=[_,_,_,_,_,_,_,_,_,_,_,_,_,_,_,_,_,_]) rfl ?_))))))))
 refine aW fd.lK rfl rfl (aG ce.limbs rfl rfl rfl (aW fd.oh rfl rfl (aG ce.limbs rfl rfl rfl (cl (pU (bn a) (bn d2) (by omega) (by omega)) rfl vL ?_))))
 rw[bC,bC];refine aW fd.lK rfl rfl (aG ce.limbs rfl rfl rfl (aW fd.oh rfl rfl (aG ce.limbs rfl rfl rfl (cl (pU (bn b) (bn d1) (by omega) (by omega)) rfl vL ?_))))
 rw[bC,bC];refine aW fd.oh rfl rfl (aG ce.limbs rfl rfl rfl (aW fd.oh rfl rfl (aG ce.limbs rfl rfl rfl (cl (pU (bn d1) (bn d2) (by omega) (by omega)) rfl vL ?_))))
 rw[bC,bC];refine aF rfl (aF rfl (aF rfl (OL.nil (AW.seq (AW.sg hE rfl (aW fd.jK rfl rfl (aG ce.bool rfl rfl rfl ?_)))))));refine aW fd.jK rfl rfl (aG ce.bool rfl rfl rfl (eqb bt.bool rfl rfl (OL.nil (AW.cond rfl (λh=>?_) (λh=>?_)))))
 .have h:s=t:=by simpa using h
  refine AW.seq (AW.dg 1 [0,1,2,3,4,5,6,7] ay hE rfl (by kernel_rfl) (OI.aK (os:=[_,_,_,_,_,_,_,_]) rfl ?_))
  refine aW fd.jK rfl rfl (aG ce.bool rfl rfl rfl (ai rfl (ai rfl (cl (Wq (bn _) (bn _) (by omega) (by omega)) rfl vL ?_))))
  rw[bC,bC];exact ai rfl (bd z.fraction pl.fraction (cs:=[_,_,_]) rfl (eH sz.fraction rfl rfl rfl rfl rfl (aB rfl) (cells2:=[_,_,_]) rfl (OL.nil (AW.ret (aP.r ⟨_,.dV rfl rfl ag.fraction (aB rfl) .nil,.ag (.cons (.le (au (by rw[if_pos h]))) (.cons (.le (au (by rw[if_pos h]))) (.cons (.le vR) (.nil))))⟩)))))
 .have h:s≠t:=by simpa using h
  refine AW.skip (AW.seq (AW.sg hE rfl (ai rfl (ai rfl (cl (yN (bn _) (bn _) (by omega) (by omega)) rfl vL ?_)))))
  rw[bC,bC];refine qY rfl rfl rfl (OL.nil (AW.cond rfl (λh2=>?_) (λh2=>?_)))
  .have h2:b*d1<=a*d2:=G9 (by have:=lq h2;omega)
   refine AW.seq (AW.dg 1 [0,1,2,3,4,5,6,7] ay hE rfl (by kernel_rfl) (OI.aK (os:=[_,_,_,_,_,_,_,_]) rfl ?_))
   refine aW fd.jK rfl rfl (aG ce.bool rfl rfl rfl (ai rfl (ai rfl (cl (AZ (bn _) (bn _) (by omega) (by rw[bC,bC];exact h2)) rfl vL ?_))))
   rw[bC,bC];exact ai rfl (bd z.fraction pl.fraction (cs:=[_,_,_]) rfl (eH sz.fraction rfl rfl rfl rfl rfl (aB rfl) (cells2:=[_,_,_]) rfl (OL.nil (AW.ret (aP.r ⟨_,.dV rfl rfl ag.fraction (aB rfl) .nil,.ag (.cons (.le (au (by rw[if_neg h,if_pos h2]))) (.cons (.le (au (by rw[if_neg h,if_pos h2]))) (.cons (.le vR) (.nil))))⟩)))))
  .have h2:¬ b*d1<=a*d2:=λe=>nS h2 (VS e);refine AW.skip (AW.seq (AW.dg 1 [0,1,2,3,4,5,6,7] ay hE rfl (by kernel_rfl) (OI.aK (os:=[_,_,_,_,_,_,_,_]) rfl ?_)))
   refine aW fd.jK rfl rfl (aG ce.bool rfl rfl rfl (ai rfl (ai rfl (cl (AZ (bn _) (bn _) (by omega) (by rw[bC,bC];omega)) rfl vL ?_))))
   rw[bC,bC];exact ai rfl (bd z.fraction pl.fraction (cs:=[_,_,_]) rfl (eH sz.fraction rfl rfl rfl rfl rfl (aB rfl) (cells2:=[_,_,_]) rfl (OL.nil (AW.ret (aP.r ⟨_,.dV rfl rfl ag.fraction (aB rfl) .nil,.ag (.cons (.le (au (by rw[if_neg h,if_neg h2]))) (.cons (.le (au (by rw[if_neg h,if_neg h2]))) (.cons (.le vR) (.nil))))⟩)))))
theorem sD {s:Bool}{n d:Nat}(nn:(lim n).length<=1099511627776)(nd:(lim d).length<=1099511627776)(hd:d≠0):aj P F.lU [vFr s n d] (tN (fZ (fr s n d))):=by
 refine aj.intro fn.lU (by rfl) (by rfl) (aB (by rfl)) λE hE=>(AW.sg hE rfl (iI rfl rfl λb1=>(al z.Rat rfl λb2=>(OL.nil (AW.seq (AW.sg hE rfl (aW fd.lK rfl rfl ?_)))))))
 refine aG ce.limbs rfl rfl rfl (fJ sl.limbs rfl rfl (dR rfl rfl rfl (OL.nil (AW.cond rfl (λh=>?_) (λh=>?_)))))
 .have h:n=0:=dK.1 (by have:=lq h;omega)
  subst h;rw[QS,tV];exact AW.sg hE rfl (bd z.Rat pl.Rat (cs:=[_,_,_]) rfl (eH sz.Rat rfl rfl rfl rfl rfl (aB rfl) (cells2:=[_,_,_]) rfl (OL.nil (AW.ret (aP.r ⟨_,.dV rfl rfl ag.Rat (aB rfl) .nil,.ag (.cons (.le vR) (.cons (.le bG.mt) (.cons (.le bG.mt) (.nil))))⟩)))))
 .have h:n≠0:=λe=>by have:=nS h;rw[e,dY] at this;exact this rfl
  have hgp:0<Nat.gcd n d:=Nat.gcd_pos_of_pos_left d (Nat.pos_of_ne_zero h);have hgl:=sZ (Nat.gcd_le_left d (Nat.pos_of_ne_zero h));have hdl:=sZ (Nat.div_le_self d (Nat.gcd n d));rw[QT h hd];refine AW.skip (AW.seq (AW.dg 1 [0,1,2,3,4,5,6,7] ay hE rfl (by kernel_rfl) (OI.aK (os:=[_,_,_,_,_,_,_,_]) rfl ?_)))
  refine aW fd.lK rfl rfl (aG ce.limbs rfl rfl rfl (cl (JH (by omega)) rfl vL (aW fd.oh rfl rfl (aG ce.limbs rfl rfl rfl (cl (JH (by omega)) rfl vL (aF rfl (aF rfl ?_)))))))
  refine OL.nil ?_;refine AW.mid (α:=Unit) (λ_u=>[(1,.ptr 1 b1 0),(2,.ptr 2 b2 0),(3,.d (aH (lim (n / Nat.gcd n d)))),(4,.d (aH (lim (d / Nat.gcd n d))))]) (λ_u=>[(1,.box b1 T.fraction [.d (dB s),.d (aH (lim n)),.d (aH (lim d))]),(2,.box b2 T.Rat [.d (dB false),.mt,.mt])]) (λ_u=>True) ?_ ?_
  .refine AW.sg hE rfl (ai rfl (ai rfl (cl (Pg nn nd) rfl vL (aF rfl (OL.nil (AW.sg hE rfl (ai rfl ?_)))))));refine cl jk rfl vL (cl (yN (bn _) (bn 1) (by omega) (by have:=rQ (g:=1) (by decide);omega)) rfl vL ?_)
   rw[bC,bC];refine eG rfl rfl rfl (OL.nil (AW.cond rfl (λh1=>?_) (λh1=>?_)))
   .have _h1:=h1;refine AW.sg hE rfl (ai rfl (ai rfl (cl (Gm (bn n) nn (by omega) (by omega)) rfl vL ?_)))
    rw[bC];refine zW rfl (ex rfl rfl (ex rfl rfl (aF rfl (OL.nil (AW.rg hE rfl (ai rfl (ai rfl ?_)))))));refine cl (Gm (bn d) nd (by omega) (by omega)) rfl vL ?_
    rw[bC];exact zW rfl (ex rfl rfl (ex rfl rfl (aF rfl (OL.nil (AW.reach () ⟨trivial,.Jz,.cons rfl (.cons rfl .nil)⟩)))))
   .have h1:Nat.gcd n d=1:=yM.1 (Bc h1);exact AW.skip (AW.reach () ⟨trivial,.cons vR (.cons vR (.cons (au (by rw[h1,Nat.div_one];rfl)) (.cons (au (by rw[h1,Nat.div_one];rfl)) .nil))),.cons rfl (.cons rfl .nil)⟩)
  rintro⟨⟩ -
  refine AW.seq (AW.sg hE rfl (ai rfl (cl jk rfl vL (cl (yN (bn _) (bn 1) (by omega) (by have:=rQ (g:=1) (by decide);omega)) rfl vL ?_))))
  rw[bC,bC];refine dR rfl rfl rfl (OL.nil (AW.cond rfl (λh2=>?_) (λh2=>?_)))
  .have h2:d / Nat.gcd n d=1:=yM.1 (lq h2);refine AW.rg hE rfl (oK rfl (OL.nil (AW.sg hE rfl (aW fd.jK rfl rfl (aG ce.bool rfl rfl rfl (ai rfl (mvM rfl ?_)))))));exact bd z.Rat pl.Rat (cs:=[_,_,_]) rfl (eH sz.Rat rfl rfl rfl rfl rfl (aB rfl) (cells2:=[_,_,_]) rfl (OL.nil (AW.ret (aP.r ⟨_,.dV rfl rfl ag.Rat (aB rfl) .nil,.ag (.cons (.le vR) (.cons (.le vR) (.cons (.le (by rw[if_pos h2];exact bG.mt)) (.nil))))⟩))))
  .have h2:d / Nat.gcd n d≠1:=λe=>nS h2 (yM.2 e);refine AW.skip (AW.sg hE rfl (aW fd.jK rfl rfl (aG ce.bool rfl rfl rfl (ai rfl (ai rfl (bd z.Rat pl.Rat (cs:=[_,_,_]) rfl (eH sz.Rat rfl rfl rfl rfl rfl (aB rfl) (cells2:=[_,_,_]) rfl ?_)))))));exact OL.nil (AW.ret (aP.r ⟨_,.dV rfl rfl ag.Rat (aB rfl) .nil,.ag (.cons (.le vR) (.cons (.le vR) (.cons (.le (au (by rw[if_neg h2]))) (.nil))))⟩))
theorem lJ {v:Int}(hv:-9223372036854775808<=v/\v<=9223372036854775807):aj P F.lJ [.d (dI v)] (.jS [.d (dB (decide (v<0))),.d (aH (lim v.natAbs))]):=by
 refine aj.intro fn.lJ (by rfl) (by rfl) (aB (by rfl)) λE hE=>(AW.sg hE rfl (aF rfl (oK rfl (OL.nil (AW.sg hE rfl (ai rfl (cv it.int it.u64 rfl (c:=v % 18446744073709551616) (CG _) ?_)))))))
 refine aF rfl (OL.nil (AW.mid (α:=Unit) (λ_u=>[(0,.d (dI v)),(4,.d (dU v.natAbs))]) (λ_u=>[]) (λ_u=>True) ?_ ?_))
 .refine AW.sg hE rfl (ai rfl (aY rfl rfl rfl (OL.nil (AW.cond rfl (λh=>?_) (λh=>?_)))))
  .have h:=lq h;exact AW.rg hE rfl (ai rfl (ng rfl (c:=(v.natAbs:Int)) (by rw[CG];omega) (aF rfl (OL.nil (AW.reach () ⟨trivial,.iq,.nil⟩)))))
  .have h:=nS h;exact AW.skip (AW.reach () ⟨trivial,.cons vR (.cons (bG.int (by omega)) .nil),.nil⟩)
 rintro⟨⟩ -
 refine AW.sg hE rfl (ai rfl (aY rfl rfl rfl (ai rfl (cv it.u64 it.u32 rfl (c:=((v.natAbs % 4294967296:Nat):Int)) (by rw[gG];omega) (ai rfl (Jy rfl rfl rfl (cv it.u64 it.u32 rfl (c:=((v.natAbs / 4294967296:Nat):Int)) (by rw[gG];omega) ?_)))))))
 refine lt2 sl.limbs (VC.d _).vd (VC.d _).vd ⟨rfl,rfl⟩ (by decide) (cl (kX (L:=[v.natAbs % 4294967296,v.natAbs / 4294967296]) (.cons (by omega) (.cons (by omega) .nil)) (by simp)) rfl vL ?_)
 rw[show val [v.natAbs % 4294967296,v.natAbs / 4294967296]=v.natAbs by simp only[jf,je];omega]
 exact aF rfl (aF rfl (OL.nil (AW.ret (aP.r ⟨_,.tmp rfl (.tmp rfl .nil),_,.cons (.le vR) (.cons (.le vR) .nil),rfl⟩))))
theorem nY {n d:Int}(hn:-9223372036854775808<=n/\n<=9223372036854775807)(hd:-9223372036854775808<=d/\d<=9223372036854775807)(h0:d≠0):aj P F.nY [.d (dI n),.d (dI d)] (.jS [tN (fZ ((n:Rat) / (d:Rat))),.d (dI 0)]):=by
 have e1:(lim n.natAbs).length<=2:=dO (by show n.natAbs<18446744073709551616;omega)
 have e2:(lim d.natAbs).length<=2:=dO (by show d.natAbs<18446744073709551616;omega)
 refine aj.intro fn.nY (by rfl) (by rfl) (aB (by rfl)) λE hE=>(AW.sg hE rfl (al z.Rat rfl λb4=>(aF rfl (OL.nil (AW.seq (AW.sg hE rfl (ai rfl ?_)))))))
 refine dR rfl rfl rfl (OL.nil (AW.cond rfl (λhno=>absurd hno (by simpa using h0)) (λ_=>?_)))
 refine AW.skip (AW.sg hE rfl (ai rfl (cl (lJ hn) rfl vL (zW rfl (ex rfl rfl (ex rfl rfl (aF rfl ?_)))))));refine aF rfl (OL.nil (AW.sg hE rfl (ai rfl (cl (lJ hd) rfl vL (zW rfl (ex rfl rfl (ex rfl rfl ?_)))))));refine aF rfl (aF rfl (OL.nil (AW.sg hE rfl (ai rfl (ai rfl (neb bt.bool rfl rfl (ai rfl ?_)))))));refine ai rfl (bd z.fraction pl.fraction (cs:=[_,_,_]) rfl (cl (sD (by omega) (by omega) (by omega)) rfl vL ?_))
 rw[show (!(decide (n<0) == decide (d<0)))=(decide (n<0) != decide (d<0)) from rfl,LG]
 exact eH sz.Rat rfl rfl rfl rfl rfl (aB rfl) (cells2:=[_,_,_]) rfl (aF rfl (OL.nil (AW.ret (aP.r ⟨_,.dV rfl rfl ag.Rat (aB rfl) (.tmp rfl .nil),[_,_],.cons (.ag (.cons (.le vR) (.cons (.le vR) (.cons (.le vR) (.nil))))) (.cons (.le vR) .nil),rfl⟩))))
theorem ql {x y:Raw}(hx:x.Ok)(hy:y.Ok):aj P F.ql [tN x,tN y] (tN (fZ (x.q+y.q))):=by
 have a1:=Gh hx hx.ln hx.ld (by decide)
 have a2:=Gh hy hy.ln hy.ld (by decide)
 have sn1:=lF x.q;have sn2:=lF y.q;have sd1:=lG x.q;have sd2:=lG y.q;have sdd:=gJ x.q.den y.q.den;refine aj.intro fn.ql (by rfl) (by rfl) (aB (by rfl)) λE hE=>(AW.sg hE rfl (iI rfl rfl λb2=>(iI rfl rfl λb3=>(al z.Rat rfl λb4=>(OL.nil (AW.seq (AW.dg 1 [0,1,2,3,4,5,6] ay hE rfl (by kernel_rfl) (OI.aK (os:=[_,_,_,_,_,_,_]) rfl ?_))))))))
 refine aO ag.Rat rfl rfl (vs:=[_,_,_]) rfl (aB rfl) (cl (gX hx) rfl vL (aO ag.Rat rfl rfl (vs:=[_,_,_]) rfl (aB rfl) (cl (gX hy) rfl vL (cl (FW (by omega) (by omega) (by omega) (by omega)) rfl vL (cl (sD (Nat.le_trans (Hf sn1 sn2 sd1 sd2) (by omega)) (by omega) (Nat.mul_ne_zero x.q.den_nz y.q.den_nz)) rfl vL ?_)))))
 rw[KD x.q.den_nz y.q.den_nz,o5,o5];exact eH sz.Rat rfl rfl rfl rfl rfl (aB rfl) (cells2:=[_,_,_]) rfl (OL.nil (AW.ret (aP.r ⟨_,.dV rfl rfl ag.Rat (aB rfl) .nil,.ag (.cons (.le vR) (.cons (.le vR) (.cons (.le vR) (.nil))))⟩)))
theorem mY {x y:Raw}(hx:x.Ok)(hy:y.Ok):aj P F.mY [tN x,tN y] (tN (fZ (x.q-y.q))):=by
 have a1:=Gh hx hx.ln hx.ld (by decide)
 have a2:=Gh hy hy.ln hy.ld (by decide)
 have sn1:=lF x.q;have sn2:=lF y.q;have sd1:=lG x.q;have sd2:=lG y.q;have sdd:=gJ x.q.den y.q.den;have snn:=gJ x.q.num.natAbs y.q.num.natAbs;have snd:=gJ x.q.num.natAbs y.q.den;have sdn:=gJ x.q.den y.q.num.natAbs;refine aj.intro fn.mY (by rfl) (by rfl) (aB (by rfl)) λE hE=>(AW.sg hE rfl (iI rfl rfl λb2=>(iI rfl rfl λb3=>(al z.Rat rfl λb4=>(OL.nil (AW.seq (AW.dg 1 [0,1,2,3,4,5,6,7] ay hE rfl (by kernel_rfl) (OI.aK (os:=[_,_,_,_,_,_,_,_]) rfl ?_))))))))
 refine aO ag.Rat rfl rfl (vs:=[_,_,_]) rfl (aB rfl) (cl (gX hx) rfl vL (aO ag.Rat rfl rfl (vs:=[_,_,_]) rfl (aB rfl) (cl (gX hy) rfl vL (cl A7 rfl vL (cl (FW (by omega) (by omega) (by omega) (by omega)) rfl vL (cl (sD (Nat.le_trans (Hf sn1 sn2 sd1 sd2) (by omega)) (by omega) (Nat.mul_ne_zero x.q.den_nz y.q.den_nz)) rfl vL ?_))))))
 rw[KD x.q.den_nz y.q.den_nz,<- af6,o5,o5,<- Rat.sub_eq_add_neg];exact eH sz.Rat rfl rfl rfl rfl rfl (aB rfl) (cells2:=[_,_,_]) rfl (OL.nil (AW.ret (aP.r ⟨_,.dV rfl rfl ag.Rat (aB rfl) .nil,.ag (.cons (.le vR) (.cons (.le vR) (.cons (.le vR) (.nil))))⟩)))
theorem qf {x y:Raw}(hx:x.Ok)(hy:y.Ok):aj P F.qf [tN x,tN y] (tN (fZ (x.q*y.q))):=by
 have a1:=Gh hx hx.ln hx.ld (by decide)
 have a2:=Gh hy hy.ln hy.ld (by decide)
 have sn1:=lF x.q;have sn2:=lF y.q;have sd1:=lG x.q;have sd2:=lG y.q;have sdd:=gJ x.q.den y.q.den;have snn:=gJ x.q.num.natAbs y.q.num.natAbs;have snd:=gJ x.q.num.natAbs y.q.den;have sdn:=gJ x.q.den y.q.num.natAbs;refine aj.intro fn.qf (by rfl) (by rfl) (aB (by rfl)) λE hE=>(AW.sg hE rfl (iI rfl rfl λb2=>(iI rfl rfl λb3=>(al z.Rat rfl λb4=>(OL.nil (AW.seq (AW.dg 1 [0,1,2,3,4,5,6,7] ay hE rfl (by kernel_rfl) (OI.aK (os:=[_,_,_,_,_,_,_,_]) rfl ?_))))))))
 refine aO ag.Rat rfl rfl (vs:=[_,_,_]) rfl (aB rfl) (cl (gX hx) rfl vL (aO ag.Rat rfl rfl (vs:=[_,_,_]) rfl (aB rfl) (cl (gX hy) rfl vL (al z.fraction rfl λb5=>(al z.fraction rfl λb6=>(eH sz.fraction rfl rfl rfl rfl rfl (aB rfl) (cells2:=[_,_,_]) rfl (eH sz.fraction rfl rfl rfl rfl rfl (aB rfl) (cells2:=[_,_,_]) rfl ?_)))))));refine OL.nil (AW.seq (AW.dg 1 [0,1,2,3,4,5,6,7,8,9,10,11,12,13,14,15,16,17] ay hE rfl (by kernel_rfl) (OI.aK (os:=[_,_,_,_,_,_,_,_,_,_,_,_,_,_,_,_,_,_]) rfl ?_)))
 refine aW fd.jK rfl rfl (aG ce.bool rfl rfl rfl (aW fd.jK rfl rfl (aG ce.bool rfl rfl rfl (neb bt.bool rfl rfl (aW fd.lK rfl rfl (aG ce.limbs rfl rfl rfl (aW fd.lK rfl rfl ?_)))))));refine aG ce.limbs rfl rfl rfl (cl (pU (bn _) (bn _) (by omega) (by omega)) rfl vL ?_)
 rw[bC,bC];refine aW fd.oh rfl rfl (aG ce.limbs rfl rfl rfl (aW fd.oh rfl rfl (aG ce.limbs rfl rfl rfl (cl (pU (bn _) (bn _) (by omega) (by omega)) rfl vL ?_))))
 rw[bC,bC];refine bd z.fraction pl.fraction (cs:=[_,_,_]) rfl (cl (sD (by omega) (by omega) (Nat.mul_ne_zero x.q.den_nz y.q.den_nz)) rfl vL ?_)
 rw[show ∀ p q:Bool,(!(p == q))=(p != q) from λ_ _=>rfl,<- QU,o5,o5]
 exact eH sz.Rat rfl rfl rfl rfl rfl (aB rfl) (cells2:=[_,_,_]) rfl (OL.nil (AW.ret (aP.r ⟨_,.dV rfl rfl ag.Rat (aB rfl) .nil,.ag (.cons (.le vR) (.cons (.le vR) (.cons (.le vR) (.nil))))⟩)))
theorem qc {x y:Raw}(hx:x.Ok)(hy:y.Ok):aj P F.qc [tN x,tN y] (.jS [tN (fZ (if y.q=0 then 0 else x.q / y.q)),.d (dI (if y.q=0 then 11 else 0))]):=by
 have a1:=Gh hx hx.ln hx.ld (by decide)
 have a2:=Gh hy hy.ln hy.ld (by decide)
 have sn1:=lF x.q;have sn2:=lF y.q;have sd1:=lG x.q;have sd2:=lG y.q;have sdd:=gJ x.q.den y.q.den;have snn:=gJ x.q.num.natAbs y.q.num.natAbs;have snd:=gJ x.q.num.natAbs y.q.den;have sdn:=gJ x.q.den y.q.num.natAbs;refine aj.intro fn.qc (by rfl) (by rfl) (aB (by rfl)) λE hE=>(AW.sg hE rfl (iI rfl rfl λb2=>(iI rfl rfl λb3=>(al z.Rat rfl λb4=>(aF rfl (OL.nil (AW.seq ?_)))))))
 refine AW.dg 1 [0,1,2,3,4,5,6,7] ay hE rfl (by kernel_rfl) (OI.aK (os:=[_,_,_,_,_,_,_,_]) rfl ?_)
 refine aO ag.Rat rfl rfl (vs:=[_,_,_]) rfl (aB rfl) (cl (gX hx) rfl vL (aO ag.Rat rfl rfl (vs:=[_,_,_]) rfl (aB rfl) (cl (gX hy) rfl vL (al z.fraction rfl λb6=>(al z.fraction rfl λb7=>(eH sz.fraction rfl rfl rfl rfl rfl (aB rfl) (cells2:=[_,_,_]) rfl (eH sz.fraction rfl rfl rfl rfl rfl (aB rfl) (cells2:=[_,_,_]) rfl ?_)))))));refine OL.nil (AW.seq (AW.sg hE rfl (aW fd.lK rfl rfl (aG ce.limbs rfl rfl rfl (fJ sl.limbs rfl rfl (dR rfl rfl rfl (OL.nil ?_)))))));refine AW.cond rfl (λh=>?_) (λh=>?_)
 .have h:y.q=0:=Rat.num_eq_zero.1 (by have:=dK.1 (show (lim y.q.num.natAbs).length=0 by have:=lq h;omega);omega)
  rw[if_pos h,if_pos h,tV];exact AW.sg hE rfl (bd z.Rat pl.Rat (cs:=[_,_,_]) rfl (eH sz.Rat rfl rfl rfl rfl rfl (aB rfl) (cells2:=[_,_,_]) rfl (aF rfl (OL.nil (AW.ret (aP.r ⟨_,.dV rfl rfl ag.Rat (aB rfl) (.tmp rfl .nil),[_,_],.cons (.ag (.cons (.le vR) (.cons (.le bG.mt) (.cons (.le bG.mt) (.nil))))) (.cons (.le vR) .nil),rfl⟩))))))
 .have h:y.q≠0:=λe=>by have:=nS h;rw[e,show (0:Rat).num.natAbs=0 from rfl,dY] at this;exact this rfl
  have hn0:y.q.num.natAbs≠0:=λe=>h (Rat.num_eq_zero.1 (by omega))
  rw[if_neg h,if_neg h];refine AW.skip (AW.seq (AW.dg 1 [0,1,2,3,4,5,6,7,8,9,10,11,12,13,14,15,16,17,18] ay hE rfl (by kernel_rfl) (OI.aK (os:=[_,_,_,_,_,_,_,_,_,_,_,_,_,_,_,_,_,_,_]) rfl ?_)))
  refine aW fd.jK rfl rfl (aG ce.bool rfl rfl rfl (aW fd.jK rfl rfl (aG ce.bool rfl rfl rfl (neb bt.bool rfl rfl (aW fd.lK rfl rfl (aG ce.limbs rfl rfl rfl (aW fd.oh rfl rfl ?_)))))));refine aG ce.limbs rfl rfl rfl (cl (pU (bn _) (bn _) (by omega) (by omega)) rfl vL ?_)
  rw[bC,bC];refine aW fd.oh rfl rfl (aG ce.limbs rfl rfl rfl (aW fd.lK rfl rfl (aG ce.limbs rfl rfl rfl (cl (pU (bn _) (bn _) (by omega) (by omega)) rfl vL ?_))))
  rw[bC,bC];refine bd z.fraction pl.fraction (cs:=[_,_,_]) rfl (cl (sD (by omega) (by omega) (Nat.mul_ne_zero x.q.den_nz hn0)) rfl vL ?_)
  rw[show ∀ p q:Bool,(!(p == q))=(p != q) from λ_ _=>rfl,<- af7 x.q.den_nz y.q.den_nz hn0,o5,o5]
  exact eH sz.Rat rfl rfl rfl rfl rfl (aB rfl) (cells2:=[_,_,_]) rfl (aF rfl (OL.nil (AW.ret (aP.r ⟨_,.dV rfl rfl ag.Rat (aB rfl) (.tmp rfl .nil),[_,_],.cons (.ag (.cons (.le vR) (.cons (.le vR) (.cons (.le vR) (.nil))))) (.cons (.le vR) .nil),rfl⟩))))
theorem kW {x:Raw}(hx:x.Ok):aj P F.kW [tN x] (.d (dI (IW x.q))):=by
 have a1:=Gh hx hx.ln hx.ld (by decide)
 have sn1:=lF x.q;refine aj.intro fn.kW (by rfl) (by rfl) (aB (by rfl)) λE hE=>(AW.sg hE rfl (iI rfl rfl λb1=>(aF rfl (OL.nil (AW.seq (AW.sg hE rfl (aO ag.Rat rfl rfl (vs:=[_,_,_]) rfl (aB rfl) ?_)))))))
 refine cl (gX hx) rfl vL (al z.fraction rfl λb3=>(eH sz.fraction rfl rfl rfl rfl rfl (aB rfl) (cells2:=[_,_,_]) rfl (OL.nil (AW.block (AW.sg hE rfl (aW fd.lK rfl rfl (aG ce.limbs rfl rfl rfl ?_)))))));refine fJ sl.limbs rfl rfl (dR rfl rfl rfl (aF rfl (OL.nil (AW.cond rfl (λh=>?_) (λh=>?_)))))
 .have h:x.q.num=0:=by have:=dK.1 (show (lim x.q.num.natAbs).length=0 by have:=lq h;omega);omega
  exact AW.sg hE rfl (aF rfl (OL.nil (AW.ret (aP.r ⟨_,.tmp rfl .nil,.le (bG.int ((JB.2 h).symm))⟩))))
 .have h:x.q.num≠0:=λe=>by have:=nS h;rw[e,show (0:Int).natAbs=0 from rfl,dY] at this;exact this rfl
  refine AW.sg hE rfl (aW fd.jK rfl rfl (aG ce.bool rfl rfl rfl (aF rfl (OL.nil (AW.cond rfl (λh2=>?_) (λh2=>?_))))))
  .have h2:=lq h2;exact AW.sg hE rfl (aF rfl (OL.nil (AW.ret (aP.r ⟨_,.tmp rfl .nil,.le (bG.int ((He.2 h2).symm))⟩))))
  .have h2:=nS h2;exact AW.skip (AW.sg hE rfl (aF rfl (OL.nil (AW.ret (aP.r ⟨_,.tmp rfl .nil,.le (bG.int (by unfold IW;rw[if_neg h2,if_neg h]))⟩)))))
theorem jI {x y:Raw}(hx:x.Sm)(hy:y.Sm):aj P F.jI [tN x,tN y] (.d (dI (Y8 x.q y.q))):=by
 have a1:=hx.q;have a2:=hy.q;have a3:=QW x.q y.q;refine aj.intro fn.jI (by rfl) (by rfl) (aB (by rfl)) λE hE=>(AW.sg hE rfl (iI rfl rfl λb2=>(iI rfl rfl λb3=>(aF rfl (OL.nil (AW.sg hE rfl (aO ag.Rat rfl rfl (vs:=[_,_,_]) rfl (aB rfl) ?_)))))))
 refine aO ag.Rat rfl rfl (vs:=[_,_,_]) rfl (aB rfl) (cl (mY hx.ok hy.ok) rfl vL (cl (kW (nT (by omega))) rfl vL ?_))
 rw[qy];exact aF rfl (OL.nil (AW.ret (aP.r ⟨_,.tmp rfl .nil,.le vR⟩)))

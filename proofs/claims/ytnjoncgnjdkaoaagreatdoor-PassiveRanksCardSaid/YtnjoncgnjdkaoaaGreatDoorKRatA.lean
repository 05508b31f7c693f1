/-
  Walks of package rational, part 4: numbers (printed by mk.py).
-/
import Derived.Test.YtnjoncgnjdkaoaaGreatDoorKLimbsC
set_option linter.unusedVariables false
set_option linter.unusedSimpArgs false
namespace Go.Proofs.YtnjoncgnjdkaoaaGreatDoor
open Go Go.AL
theorem jb  : aj P F.jb [] (.d (aF (lim 1))):=by
 refine aj.intro fn.jb (by rfl) (by rfl) (aA (by rfl)) λE hE=>?_
 refine AW.sg hE rfl ?_;refine jg rfl ?_;refine OL.nil ?_;refine AW.sg hE rfl ?_;refine xe (y:=zn 1) sl.limbs (VC.d _).vd rfl (by decide) ?_
 refine aC rfl ?_;exact OL.nil (AW.ret (aO.r ⟨_,.tmp rfl .nil,.le (aB (by rw[vO (by decide) (by decide)];rfl))⟩))
theorem jV {L:List Nat}(nL:L.length<=8796093022208):aj P F.jV [.d (aF L)] (.d (dB (canon L))):=by
 refine aj.intro fn.jV (by rfl) (by rfl) (aA (by rfl)) λE hE=>(AW.sg hE rfl (aC rfl (OL.nil (AW.sg hE rfl (ai rfl (fJ sl.aF rfl rfl (dG rfl rfl rfl ?_)))))))
 refine OL.split 5 rfl (λh=>?_) (λh=>?_)
 .have h:=kK h;refine ai rfl (OL.nd rfl (OL.nd rfl (OL.nd rfl (OL.nd rfl (OL.nd rfl (OL.nd rfl (OL.nd rfl ?_)))))));exact lJ rfl rfl (aC rfl (OL.nil (AW.ret (aO.r ⟨_,.tmp rfl .nil,.le (bG.bool (by rw[Gt (l:=L) (by omega)];rfl))⟩))))
 .have h:=lD h;refine ai rfl (OL.yes rfl (ai rfl (OL.yes rfl (ai rfl (OL.yes rfl (fJ sl.aF rfl rfl (OL.yes rfl ?_)))))));refine gu rfl rfl (by omega) (OL.yes rfl (Z9 sl.aF 0 rfl rfl (by omega) (by omega) rfl rfl (OL.yes rfl (iE ce.u32 rfl (OL.yes rfl (fC rfl rfl rfl (jZ rfl rfl ?_)))))))
  exact aC rfl (OL.nil (AW.ret (aO.r ⟨_,.tmp rfl .nil,.le (bG.bool (tJ (by omega)))⟩)))
theorem Jy {L:List Nat}(nL:L.length<=8796093022208):aj P F.fU [.d (aF L)] (.d (aF L)):=by
 refine aj.intro fn.fU (by rfl) (by rfl) (aA (by rfl)) λE hE=>(AW.sg hE rfl (jg rfl (OL.nil (AW.seq (AW.sg hE rfl (ai rfl (isNil sl.limbs.u rfl (λy hy=>by obtain⟨a,_,rfl⟩:=jY hy;exact Nat.one_pos) rfl λb hb=>?_)))))))
 refine OL.nil (AW.cond rfl (λh=>?_) (λh=>?_))
 .have hL:L=[]:=by have:=hb h;simpa using this
  exact AW.sg hE rfl (jg rfl (OL.nil (AW.ret (aO.r ⟨_,.tmp rfl .nil,.le (hL ▸ bG.mt)⟩))))
 .have _h:=h;exact AW.skip (AW.sg hE rfl (lt0 sl.limbs (ai rfl (YL sl.limbs rfl rfl (VC.d _) (λy hy=>by obtain⟨a,_,rfl⟩:=jY hy;rfl) (by simp;omega) (by simp;omega) (aC rfl (OL.nil (AW.ret (aO.r ⟨_,.tmp rfl .nil,.le vR⟩))))))))
theorem LK {L:List Nat}(nL:L.length<=8796093022208):aj P F.iO [.d (aF L)] (.d (aF L)):=by
 refine aj.intro fn.iO (by rfl) (by rfl) (aA (by rfl)) λE hE=>(AW.sg hE rfl (jg rfl (OL.nil (AW.seq (AW.sg hE rfl (ai rfl (isNil sl.aF.u rfl (λy hy=>by obtain⟨a,_,rfl⟩:=jY hy;exact Nat.one_pos) rfl λb hb=>?_)))))))
 refine OL.nil (AW.cond rfl (λh=>?_) (λh=>?_))
 .have hL:L=[]:=by have:=hb h;simpa using this
  exact AW.sg hE rfl (jg rfl (OL.nil (AW.ret (aO.r ⟨_,.tmp rfl .nil,.le (hL ▸ bG.mt)⟩))))
 .have _h:=h;exact AW.skip (AW.sg hE rfl (lt0 sl.aF (ai rfl (YL sl.aF rfl rfl (VC.d _) (λy hy=>by obtain⟨a,_,rfl⟩:=jY hy;rfl) (by simp;omega) (by simp;omega) (aC rfl (OL.nil (AW.ret (aO.r ⟨_,.tmp rfl .nil,.le vR⟩))))))))
theorem jF {r:Raw}(hr:r.Ok):aj P F.jF [qc r] (.d (dB r.good)):=by
 have n1:=hr.ln;have n2:=hr.ld;refine aj.intro fn.jF (by rfl) (by rfl) (aA (by rfl)) λE hE=>(AW.sg hE rfl (gW rfl rfl λb1=>(aC rfl (OL.nil (AW.seq (AW.block (AW.sg hE rfl ?_)))))))
 refine aV fd.pW rfl rfl (aG ce.aF rfl rfl rfl (cl (jV (by omega)) rfl vL (nt rfl (OL.split 7 rfl (λh1=>?_) (λh1=>?_)))))
 .have h1:canon r.num=false:=by simpa using h1
  refine ai rfl (OL.nd rfl (OL.nd rfl (OL.nd rfl (OL.nd rfl (lJ rfl rfl (aC rfl (OL.nil ?_)))))));refine J4 rfl ?_;exact AW.sg hE rfl (aC rfl (OL.nil (AW.ret (aO.r ⟨_,.tmp rfl .nil,.le (bG.bool (by simp[Raw.good,h1]))⟩))))
 .have h1:canon r.num=true:=by simpa using h1
  refine ai rfl (OL.yes rfl (aV fd.nK rfl rfl (OL.yes rfl (aG ce.aF rfl rfl rfl (OL.yes rfl (cl (jV (by omega)) rfl vL (OL.yes rfl ?_)))))))
  refine nt rfl (jZ rfl rfl (aC rfl (OL.nil (AW.cond rfl (λh2=>?_) (λh2=>?_)))))
  .have h2:canon r.den=false:=by simpa using h2
   exact AW.sg hE rfl (aC rfl (OL.nil (AW.ret (aO.r ⟨_,.tmp rfl .nil,.le (bG.bool (by simp[Raw.good,h2]))⟩))))
  .have h2:canon r.den=true:=by simpa using h2
   have hL:=AU hr.num h1;have hD:=AU hr.den h2;refine AW.sg hE rfl (aV fd.pW rfl rfl (aG ce.aF rfl rfl rfl (fJ sl.aF rfl rfl (dG rfl rfl rfl (aC rfl (OL.nil (AW.cond rfl (λh3=>?_) (λh3=>?_))))))))
   .have h3:r.num=[]:=Gt (by have:=kK h3;omega)
    refine AW.sg hE rfl (aV fd.qE rfl rfl (aG ce.bool rfl rfl rfl (nt rfl (OL.split 21 rfl (λh4=>?_) (λh4=>?_)))))
    .have h4:r.neg=false:=by simpa using h4
     refine ai rfl (OL.yes rfl (aV fd.nK rfl rfl (OL.yes rfl (aG ce.aF rfl rfl rfl (OL.yes rfl (fJ sl.aF rfl rfl (OL.yes rfl ?_)))))));exact dG rfl rfl rfl (lJ rfl rfl (aC rfl (OL.nil (AW.ret (aO.r ⟨_,.tmp rfl .nil,.le (bG.bool (by rw[show r.good=decide (r.den=[]) by simp[Raw.good,OE,h2,h3,h4]];exact decide_eq_decide.2 (by rw[<- List.length_eq_zero_iff];omega)))⟩)))))
    .have h4:r.neg=true:=by simpa using h4
     refine ai rfl (OL.nd rfl (OL.nd rfl (OL.nd rfl (OL.nd rfl (jZ rfl rfl (aC rfl (OL.nil ?_)))))));exact AW.ret (aO.r ⟨_,.tmp rfl .nil,.le (bG.bool (by simp[Raw.good,h3,h4]))⟩)
   .have h3:r.num≠[]:=λe=>by have:=lD h3;rw[e] at this;exact this rfl
    refine AW.sg hE rfl (aV fd.nK rfl rfl (aG ce.aF rfl rfl rfl (fJ sl.aF rfl rfl (dG rfl rfl rfl (aC rfl (OL.nil (AW.cond rfl (λh5=>?_) (λh5=>?_))))))))
    .have h5:r.den=[]:=Gt (by have:=kK h5;omega)
     exact AW.sg hE rfl (aC rfl (OL.nil (AW.ret (aO.r ⟨_,.tmp rfl .nil,.le (bG.bool (by simp[Raw.good,OE,h1,h3,h5]))⟩))))
    .have h5:r.den≠[]:=λe=>by have:=lD h5;rw[e] at this;exact this rfl
     have hn0:val r.num≠0:=λe=>h3 (by rw[<- hL,e,dR])
     have hgl:=rF (Nat.gcd_le_left (val r.den) (Nat.pos_of_ne_zero hn0));rw[hL] at hgl;refine AW.skip (AW.seq (AW.dg 1 [0,1,2,3,4,5,6,7,8,9,10,11,12,13,14,15] au hE rfl (by kernel_rfl) (OI.aS (os:=[_,_,_,_,_,_,_,_,_,_,_,_,_,_,_,_]) rfl ?_)))
     refine aV fd.nK rfl rfl (aG ce.aF rfl rfl rfl (cl jb rfl vL (cl (yx hr.den (aZ 1) (by omega) (by have:=qM (g:=1) (by decide);omega)) rfl vL ?_)))
     rw[bf];refine fC rfl rfl rfl (OL.split 37 rfl (λh6=>?_) (λh6=>?_))
     .have h6:val r.den≠1:=λe=>DC h6 (yw.2 e);refine ai rfl (OL.yes rfl (aV fd.pW rfl rfl (OL.yes rfl (aG ce.aF rfl rfl rfl (OL.yes rfl (aV fd.nK rfl rfl (OL.yes rfl ?_)))))));refine aG ce.aF rfl rfl rfl (OL.yes rfl (cl (O3 (a:=val r.num) (b:=val r.den) (by rw[hL];omega) (by rw[hD];omega)) rfl (by rw[hL,hD];exact fH.refl _) (OL.yes rfl (cl jb rfl vL (OL.yes rfl (cl (yx (aZ _) (aZ 1) (by omega) (by have:=qM (g:=1) (by decide);omega)) rfl vL ?_))))))
      rw[bf,bf];exact OL.yes rfl (dG rfl rfl rfl (lJ rfl rfl (aC rfl (OL.nil (AW.ret (aO.r ⟨_,.tmp rfl .nil,.le (bG.bool (by simp[Raw.good,h1,h2,h3,h5,h6,yw]))⟩))))))
     .have h6:val r.den=1:=yw.1 (BV h6);refine ai rfl (OL.nd rfl (OL.nd rfl (OL.nd rfl (OL.nd rfl (OL.nd rfl (OL.nd rfl (OL.nd rfl ?_)))))));exact OL.nd rfl (jZ rfl rfl (aC rfl (OL.nil (AW.ret (aO.r ⟨_,.tmp rfl .nil,.le (bG.bool (by simp[Raw.good,h3,h5,h6]))⟩)))))
theorem gJ {r:Raw}(hr:r.Ok):aj P F.gJ [qc r] (qFr r.q):=by
 have n1:=hr.ln;have n2:=hr.ld;refine aj.intro fn.gJ (by rfl) (by rfl) (aA (by rfl)) λE hE=>(AW.sg hE rfl (gW rfl rfl λb1=>(al z.fraction rfl λb2=>(OL.nil (AW.seq (AW.block (AW.sg hE rfl ?_)))))))
 refine aN ag.Rat rfl rfl (vs:=[_,_,_]) rfl (aA rfl) (cl (jF hr) rfl vL (nt rfl (aC rfl (OL.nil (AW.cond rfl (λh1=>?_) (λh1=>?_))))))
 .have h1:r.good=false:=by simpa using h1
  have hq:=ae8 h1;exact AW.sg hE rfl (cl jb rfl vL (bd z.fraction pl.fraction (cs:=[_,_,_]) rfl (fG sz.fraction rfl rfl rfl rfl rfl (aA rfl) (cells2:=[_,_,_]) rfl (OL.nil (AW.ret (aO.r ⟨_,.dL rfl rfl ag.fraction (aA rfl) .nil,.ag (.cons (.le (aB (by rw[hq];rfl))) (.cons (.le (by rw[hq,show (0:Rat).num.natAbs=0 from rfl,dR];exact bG.mt)) (.cons (.le (aB (by rw[hq];rfl))) (.nil))))⟩))))))
 .have h1:r.good=true:=by simpa using h1
  obtain⟨f1,f2,f3,f4⟩:=Jr hr h1;refine AW.sg hE rfl (aV fd.nK rfl rfl (aG ce.aF rfl rfl rfl (fJ sl.aF rfl rfl (dG rfl rfl rfl (aC rfl (OL.nil (AW.cond rfl (λh2=>?_) (λh2=>?_))))))))
  .have h2:r.den=[]:=Gt (by have:=kK h2;omega)
   refine AW.seq (AW.dg 1 [0,1,2,3,4,5,6] au hE rfl (by kernel_rfl) (OI.aS (os:=[_,_,_,_,_,_,_]) rfl ?_))
   refine aV fd.qE rfl rfl (aG ce.bool rfl rfl rfl (aV fd.pW rfl rfl (aG ce.aF rfl rfl rfl (cl jb rfl vL (bd z.fraction pl.fraction (cs:=[_,_,_]) rfl (fG sz.fraction rfl rfl rfl rfl rfl (aA rfl) (cells2:=[_,_,_]) rfl (OL.nil ?_)))))));exact AW.ret (aO.r ⟨_,.dL rfl rfl ag.fraction (aA rfl) .nil,.ag (.cons (.le (aB (congrArg (λb=>V.d (dB b)) f1))) (.cons (.le (aB (congrArg (λL=>V.d (aF L)) f2))) (.cons (.le (aB (congrArg (λd=>V.d (aF (lim d))) (f3 h2).symm))) (.nil))))⟩)
  .have h2:r.den≠[]:=λe=>by have:=lD h2;rw[e] at this;exact this rfl
   refine AW.skip (AW.sg hE rfl (aV fd.qE rfl rfl (aG ce.bool rfl rfl rfl (aV fd.pW rfl rfl (aG ce.aF rfl rfl rfl (aV fd.nK rfl rfl (aG ce.aF rfl rfl rfl ?_)))))));refine bd z.fraction pl.fraction (cs:=[_,_,_]) rfl (fG sz.fraction rfl rfl rfl rfl rfl (aA rfl) (cells2:=[_,_,_]) rfl (OL.nil ?_));exact AW.ret (aO.r ⟨_,.dL rfl rfl ag.fraction (aA rfl) .nil,.ag (.cons (.le (aB (congrArg (λb=>V.d (dB b)) f1))) (.cons (.le (aB (congrArg (λL=>V.d (aF L)) f2))) (.cons (.le (aB (congrArg (λL=>V.d (aF L)) (f4 h2)))) (.nil))))⟩)
theorem Aq {s:Bool}{n d:Nat}:aj P F.ja [vFr s n d] (vFr (!s) n d):=by
 refine aj.intro fn.ja (by rfl) (by rfl) (aA (by rfl)) λE hE=>(AW.sg hE rfl (gW rfl rfl λb1=>(al z.fraction rfl λb2=>(OL.nil (AW.sg hE rfl (aV fd.jr rfl rfl (aG ce.bool rfl rfl rfl ?_)))))))
 refine nt rfl (aV fd.lq rfl rfl (aG ce.limbs rfl rfl rfl (aV fd.nH rfl rfl (aG ce.limbs rfl rfl rfl (bd z.fraction pl.fraction (cs:=[_,_,_]) rfl (fG sz.fraction rfl rfl rfl rfl rfl (aA rfl) (cells2:=[_,_,_]) rfl (OL.nil ?_)))))));exact AW.ret (aO.r ⟨_,.dL rfl rfl ag.fraction (aA rfl) .nil,.ag (.cons (.le vR) (.cons (.le vR) (.cons (.le vR) (.nil))))⟩)
theorem FM {s t:Bool}{a b d1 d2:Nat}(na:(lim a).length<=1099511627776)(nb:(lim b).length<=1099511627776)(n1:(lim d1).length<=1099511627776)(n2:(lim d2).length<=1099511627776):aj P F.kR [vFr s a d1,vFr t b d2] (vFr (if s=t then s else if b*d1<=a*d2 then s else t) (if s=t then a*d2+b*d1 else if b*d1<=a*d2 then a*d2-b*d1 else b*d1-a*d2) (d1*d2)):=by
 have e1:=fQ a d2;have e2:=fQ b d1;have e3:=fQ d1 d2;refine aj.intro fn.kR (by rfl) (by rfl) (aA (by rfl)) λE hE=>(AW.sg hE rfl (gW rfl rfl λb2=>(gW rfl rfl λb3=>(al z.fraction rfl λb4=>(OL.nil (AW.seq (AW.dg 1 [0,1,2,3,4,5,6,7,8,9,10,11,12,13,14,15,16,17] au hE rfl (by kernel_rfl) (OI.aS (os:=[_,_,_,_,_,_,_,_,_,_,_,_,_,_,_,_,_,_]) rfl ?_))))))))
 refine aV fd.lq rfl rfl (aG ce.limbs rfl rfl rfl (aV fd.nH rfl rfl (aG ce.limbs rfl rfl rfl (cl (oD (aZ a) (aZ d2) (by omega) (by omega)) rfl vL ?_))))
 rw[bf,bf];refine aV fd.lq rfl rfl (aG ce.limbs rfl rfl rfl (aV fd.nH rfl rfl (aG ce.limbs rfl rfl rfl (cl (oD (aZ b) (aZ d1) (by omega) (by omega)) rfl vL ?_))))
 rw[bf,bf];refine aV fd.nH rfl rfl (aG ce.limbs rfl rfl rfl (aV fd.nH rfl rfl (aG ce.limbs rfl rfl rfl (cl (oD (aZ d1) (aZ d2) (by omega) (by omega)) rfl vL ?_))))
 rw[bf,bf];refine aC rfl (aC rfl (aC rfl (OL.nil (AW.seq (AW.sg hE rfl (aV fd.jr rfl rfl (aG ce.bool rfl rfl rfl ?_)))))));refine aV fd.jr rfl rfl (aG ce.bool rfl rfl rfl (eqb bt.bool rfl rfl (OL.nil (AW.cond rfl (λh=>?_) (λh=>?_)))))
 .have h:s=t:=by simpa using h
  refine AW.seq (AW.dg 1 [0,1,2,3,4,5,6,7] au hE rfl (by kernel_rfl) (OI.aS (os:=[_,_,_,_,_,_,_,_]) rfl ?_))
  refine aV fd.jr rfl rfl (aG ce.bool rfl rfl rfl (ai rfl (ai rfl (cl (V4 (aZ _) (aZ _) (by omega) (by omega)) rfl vL ?_))))
  rw[bf,bf];exact ai rfl (bd z.fraction pl.fraction (cs:=[_,_,_]) rfl (fG sz.fraction rfl rfl rfl rfl rfl (aA rfl) (cells2:=[_,_,_]) rfl (OL.nil (AW.ret (aO.r ⟨_,.dL rfl rfl ag.fraction (aA rfl) .nil,.ag (.cons (.le (aB (by rw[if_pos h]))) (.cons (.le (aB (by rw[if_pos h]))) (.cons (.le vR) (.nil))))⟩)))))
 .have h:s≠t:=by simpa using h
  refine AW.skip (AW.seq (AW.sg hE rfl (ai rfl (ai rfl (cl (yx (aZ _) (aZ _) (by omega) (by omega)) rfl vL ?_)))))
  rw[bf,bf];refine ql rfl rfl rfl (OL.nil (AW.cond rfl (λh2=>?_) (λh2=>?_)))
  .have h2:b*d1<=a*d2:=GU (by have:=kK h2;omega)
   refine AW.seq (AW.dg 1 [0,1,2,3,4,5,6,7] au hE rfl (by kernel_rfl) (OI.aS (os:=[_,_,_,_,_,_,_,_]) rfl ?_))
   refine aV fd.jr rfl rfl (aG ce.bool rfl rfl rfl (ai rfl (ai rfl (cl (Ap (aZ _) (aZ _) (by omega) (by rw[bf,bf];exact h2)) rfl vL ?_))))
   rw[bf,bf];exact ai rfl (bd z.fraction pl.fraction (cs:=[_,_,_]) rfl (fG sz.fraction rfl rfl rfl rfl rfl (aA rfl) (cells2:=[_,_,_]) rfl (OL.nil (AW.ret (aO.r ⟨_,.dL rfl rfl ag.fraction (aA rfl) .nil,.ag (.cons (.le (aB (by rw[if_neg h,if_pos h2]))) (.cons (.le (aB (by rw[if_neg h,if_pos h2]))) (.cons (.le vR) (.nil))))⟩)))))
  .have h2:¬ b*d1<=a*d2:=λe=>lD h2 (VJ e);refine AW.skip (AW.seq (AW.dg 1 [0,1,2,3,4,5,6,7] au hE rfl (by kernel_rfl) (OI.aS (os:=[_,_,_,_,_,_,_,_]) rfl ?_)))
   refine aV fd.jr rfl rfl (aG ce.bool rfl rfl rfl (ai rfl (ai rfl (cl (Ap (aZ _) (aZ _) (by omega) (by rw[bf,bf];omega)) rfl vL ?_))))
   rw[bf,bf];exact ai rfl (bd z.fraction pl.fraction (cs:=[_,_,_]) rfl (fG sz.fraction rfl rfl rfl rfl rfl (aA rfl) (cells2:=[_,_,_]) rfl (OL.nil (AW.ret (aO.r ⟨_,.dL rfl rfl ag.fraction (aA rfl) .nil,.ag (.cons (.le (aB (by rw[if_neg h,if_neg h2]))) (.cons (.le (aB (by rw[if_neg h,if_neg h2]))) (.cons (.le vR) (.nil))))⟩)))))

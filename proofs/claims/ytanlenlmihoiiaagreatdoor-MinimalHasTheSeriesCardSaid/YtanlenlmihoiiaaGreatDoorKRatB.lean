/-
  Walks of package rational, part 5: sums, products, comparisons (printed by mk.py).
-/
import Derived.Test.YtanlenlmihoiiaaGreatDoorKLimbsC
set_option linter.unusedVariables false
set_option linter.unusedSimpArgs false
namespace Go.Proofs.YtanlenlmihoiiaaGreatDoor
open Go Go.AL
theorem jF  : ai P F.jF [] (.d (aI (lim 1))):=by
 refine ai.intro fn.jF (by rfl) (by rfl) (au (by rfl)) λE hE=>?_
 refine AW.sg hE rfl ?_;refine nI rfl ?_;refine OL.nil ?_;refine AW.sg hE rfl ?_;refine xG (y:=Ak 1) sl.limbs (VC.d _).vd rfl (by decide) ?_
 refine aG rfl ?_;exact OL.nil (AW.ret (aT.r ⟨_,.tmp rfl .nil,.le (aC (by rw[wY (by decide) (by decide)];rfl))⟩))
theorem kY {L:List Nat}(nL:L.length<=8796093022208):ai P F.kY [.d (aI L)] (.d (dB (canon L))):=by
 refine ai.intro fn.kY (by rfl) (by rfl) (au (by rfl)) λE hE=>(AW.sg hE rfl (aG rfl (OL.nil (AW.sg hE rfl (aj rfl (fO sl.aI rfl rfl (fE rfl rfl rfl ?_)))))))
 refine OL.split 5 rfl (λh=>?_) (λh=>?_)
 .have h:=mX h;refine aj rfl (OL.nd rfl (OL.nd rfl (OL.nd rfl (OL.nd rfl (OL.nd rfl (OL.nd rfl (OL.nd rfl ?_)))))));exact nJ rfl rfl (aG rfl (OL.nil (AW.ret (aT.r ⟨_,.tmp rfl .nil,.le (bV.bool (by rw[EQ (l:=L) (by omega)];rfl))⟩))))
 .have h:=oN h;refine aj rfl (OL.yes rfl (aj rfl (OL.yes rfl (aj rfl (OL.yes rfl (fO sl.aI rfl rfl (OL.yes rfl ?_)))))));refine iW rfl rfl (by omega) (OL.yes rfl (ixL sl.aI 0 rfl rfl (by omega) (by omega) rfl rfl (OL.yes rfl (jb ce.u32 rfl (OL.yes rfl (fJ rfl rfl rfl (oI rfl rfl ?_)))))))
  exact aG rfl (OL.nil (AW.ret (aT.r ⟨_,.tmp rfl .nil,.le (bV.bool (uQ (by omega)))⟩)))
theorem LJ {L:List Nat}(nL:L.length<=8796093022208):ai P F.gJ [.d (aI L)] (.d (aI L)):=by
 refine ai.intro fn.gJ (by rfl) (by rfl) (au (by rfl)) λE hE=>(AW.sg hE rfl (nI rfl (OL.nil (AW.seq (AW.sg hE rfl (aj rfl (isNil sl.limbs.u rfl (λy hy=>by obtain⟨a,_,rfl⟩:=jH hy;exact Nat.one_pos) rfl λb hb=>?_)))))))
 refine OL.nil (AW.cond rfl (λh=>?_) (λh=>?_))
 .have hL:L=[]:=by have:=hb h;simpa using this
  exact AW.sg hE rfl (nI rfl (OL.nil (AW.ret (aT.r ⟨_,.tmp rfl .nil,.le (hL ▸ bV.mt)⟩))))
 .have _h:=h;exact AW.skip (AW.sg hE rfl (lt0 sl.limbs (aj rfl (aq5 sl.limbs rfl rfl (VC.d _) (λy hy=>by obtain⟨a,_,rfl⟩:=jH hy;rfl) (by simp;omega) (by simp;omega) (aG rfl (OL.nil (AW.ret (aT.r ⟨_,.tmp rfl .nil,.le vR⟩))))))))
theorem kF {r:Raw}(hr:r.Ok):ai P F.kF [uo r] (.d (dB r.good)):=by
 have n1:=hr.ln;have n2:=hr.ld;refine ai.intro fn.kF (by rfl) (by rfl) (au (by rfl)) λE hE=>(AW.sg hE rfl (iG rfl rfl λb1=>(aG rfl (OL.nil (AW.seq (AW.block (AW.sg hE rfl ?_)))))))
 refine aV fd.rU rfl rfl (aA ce.aI rfl rfl rfl (cl (kY (by omega)) rfl vL (nt rfl (OL.split 7 rfl (λh1=>?_) (λh1=>?_)))))
 .have h1:canon r.num=false:=by simpa using h1
  refine aj rfl (OL.nd rfl (OL.nd rfl (OL.nd rfl (OL.nd rfl (nJ rfl rfl (aG rfl (OL.nil ?_)))))));refine F6 rfl ?_;exact AW.sg hE rfl (aG rfl (OL.nil (AW.ret (aT.r ⟨_,.tmp rfl .nil,.le (bV.bool (by simp[Raw.good,h1]))⟩))))
 .have h1:canon r.num=true:=by simpa using h1
  refine aj rfl (OL.yes rfl (aV fd.o9 rfl rfl (OL.yes rfl (aA ce.aI rfl rfl rfl (OL.yes rfl (cl (kY (by omega)) rfl vL (OL.yes rfl ?_)))))))
  refine nt rfl (oI rfl rfl (aG rfl (OL.nil (AW.cond rfl (λh2=>?_) (λh2=>?_)))))
  .have h2:canon r.den=false:=by simpa using h2
   exact AW.sg hE rfl (aG rfl (OL.nil (AW.ret (aT.r ⟨_,.tmp rfl .nil,.le (bV.bool (by simp[Raw.good,h2]))⟩))))
  .have h2:canon r.den=true:=by simpa using h2
   have hL:=BN hr.num h1;have hD:=BN hr.den h2;refine AW.sg hE rfl (aV fd.rU rfl rfl (aA ce.aI rfl rfl rfl (fO sl.aI rfl rfl (fE rfl rfl rfl (aG rfl (OL.nil (AW.cond rfl (λh3=>?_) (λh3=>?_))))))))
   .have h3:r.num=[]:=EQ (by have:=mX h3;omega)
    refine AW.sg hE rfl (aV fd.tN rfl rfl (aA ce.bool rfl rfl rfl (nt rfl (OL.split 21 rfl (λh4=>?_) (λh4=>?_)))))
    .have h4:r.neg=false:=by simpa using h4
     refine aj rfl (OL.yes rfl (aV fd.o9 rfl rfl (OL.yes rfl (aA ce.aI rfl rfl rfl (OL.yes rfl (fO sl.aI rfl rfl (OL.yes rfl ?_)))))));exact fE rfl rfl rfl (nJ rfl rfl (aG rfl (OL.nil (AW.ret (aT.r ⟨_,.tmp rfl .nil,.le (bV.bool (by rw[show r.good=decide (r.den=[]) by simp[Raw.good,QC,h2,h3,h4]];exact decide_eq_decide.2 (by rw[<- List.length_eq_zero_iff];omega)))⟩)))))
    .have h4:r.neg=true:=by simpa using h4
     refine aj rfl (OL.nd rfl (OL.nd rfl (OL.nd rfl (OL.nd rfl (oI rfl rfl (aG rfl (OL.nil ?_)))))));exact AW.ret (aT.r ⟨_,.tmp rfl .nil,.le (bV.bool (by simp[Raw.good,h3,h4]))⟩)
   .have h3:r.num≠[]:=λe=>by have:=oN h3;rw[e] at this;exact this rfl
    refine AW.sg hE rfl (aV fd.o9 rfl rfl (aA ce.aI rfl rfl rfl (fO sl.aI rfl rfl (fE rfl rfl rfl (aG rfl (OL.nil (AW.cond rfl (λh5=>?_) (λh5=>?_))))))))
    .have h5:r.den=[]:=EQ (by have:=mX h5;omega)
     exact AW.sg hE rfl (aG rfl (OL.nil (AW.ret (aT.r ⟨_,.tmp rfl .nil,.le (bV.bool (by simp[Raw.good,QC,h1,h3,h5]))⟩))))
    .have h5:r.den≠[]:=λe=>by have:=oN h5;rw[e] at this;exact this rfl
     have hn0:val r.num≠0:=λe=>h3 (by rw[<- hL,e,eX])
     have hgl:=ug (Nat.gcd_le_left (val r.den) (Nat.pos_of_ne_zero hn0));rw[hL] at hgl;refine AW.skip (AW.seq (AW.dg 1 [0,1,2,3,4,5,6,7,8,9,10,11,12,13,14,15] ak hE rfl (by kernel_rfl) (OI.aP (os:=[_,_,_,_,_,_,_,_,_,_,_,_,_,_,_,_]) rfl ?_)))
     refine aV fd.o9 rfl rfl (aA ce.aI rfl rfl rfl (cl jF rfl vL (cl (zf hr.den (bI 1) (by omega) (by have:=sD (g:=1) (by decide);omega)) rfl vL ?_)))
     rw[bJ];refine fJ rfl rfl rfl (OL.split 37 rfl (λh6=>?_) (λh6=>?_))
     .have h6:val r.den≠1:=λe=>zH h6 (y9.2 e);refine aj rfl (OL.yes rfl (aV fd.rU rfl rfl (OL.yes rfl (aA ce.aI rfl rfl rfl (OL.yes rfl (aV fd.o9 rfl rfl (OL.yes rfl ?_)))))));refine aA ce.aI rfl rfl rfl (OL.yes rfl (cl (QN (a:=val r.num) (b:=val r.den) (by rw[hL];omega) (by rw[hD];omega)) rfl (by rw[hL,hD];exact fK.refl _) (OL.yes rfl (cl jF rfl vL (OL.yes rfl (cl (zf (bI _) (bI 1) (by omega) (by have:=sD (g:=1) (by decide);omega)) rfl vL ?_))))))
      rw[bJ,bJ];exact OL.yes rfl (fE rfl rfl rfl (nJ rfl rfl (aG rfl (OL.nil (AW.ret (aT.r ⟨_,.tmp rfl .nil,.le (bV.bool (by simp[Raw.good,h1,h2,h3,h5,h6,y9]))⟩))))))
     .have h6:val r.den=1:=y9.1 (yc h6);refine aj rfl (OL.nd rfl (OL.nd rfl (OL.nd rfl (OL.nd rfl (OL.nd rfl (OL.nd rfl (OL.nd rfl ?_)))))));exact OL.nd rfl (oI rfl rfl (aG rfl (OL.nil (AW.ret (aT.r ⟨_,.tmp rfl .nil,.le (bV.bool (by simp[Raw.good,h3,h5,h6]))⟩)))))
theorem iK {r:Raw}(hr:r.Ok):ai P F.iK [uo r] (qFr r.q):=by
 have n1:=hr.ln;have n2:=hr.ld;refine ai.intro fn.iK (by rfl) (by rfl) (au (by rfl)) λE hE=>(AW.sg hE rfl (iG rfl rfl λb1=>(al z.fraction rfl λb2=>(OL.nil (AW.seq (AW.block (AW.sg hE rfl ?_)))))))
 refine aQ ag.Rat rfl rfl (vs:=[_,_,_]) rfl (au rfl) (cl (kF hr) rfl vL (nt rfl (aG rfl (OL.nil (AW.cond rfl (λh1=>?_) (λh1=>?_))))))
 .have h1:r.good=false:=by simpa using h1
  have hq:=as2 h1;exact AW.sg hE rfl (cl jF rfl vL (bd z.fraction pl.fraction (cs:=[_,_,_]) rfl (eG sz.fraction rfl rfl rfl rfl rfl (au rfl) (cells2:=[_,_,_]) rfl (OL.nil (AW.ret (aT.r ⟨_,.dK rfl rfl ag.fraction (au rfl) .nil,.ag (.cons (.le (aC (by rw[hq];rfl))) (.cons (.le (by rw[hq,show (0:Rat).num.natAbs=0 from rfl,eX];exact bV.mt)) (.cons (.le (aC (by rw[hq];rfl))) (.nil))))⟩))))))
 .have h1:r.good=true:=by simpa using h1
  obtain⟨f1,f2,f3,f4⟩:=Ls hr h1;refine AW.sg hE rfl (aV fd.o9 rfl rfl (aA ce.aI rfl rfl rfl (fO sl.aI rfl rfl (fE rfl rfl rfl (aG rfl (OL.nil (AW.cond rfl (λh2=>?_) (λh2=>?_))))))))
  .have h2:r.den=[]:=EQ (by have:=mX h2;omega)
   refine AW.seq (AW.dg 1 [0,1,2,3,4,5,6] ak hE rfl (by kernel_rfl) (OI.aP (os:=[_,_,_,_,_,_,_]) rfl ?_))
   refine aV fd.tN rfl rfl (aA ce.bool rfl rfl rfl (aV fd.rU rfl rfl (aA ce.aI rfl rfl rfl (cl jF rfl vL (bd z.fraction pl.fraction (cs:=[_,_,_]) rfl (eG sz.fraction rfl rfl rfl rfl rfl (au rfl) (cells2:=[_,_,_]) rfl (OL.nil ?_)))))));exact AW.ret (aT.r ⟨_,.dK rfl rfl ag.fraction (au rfl) .nil,.ag (.cons (.le (aC (congrArg (λb=>V.d (dB b)) f1))) (.cons (.le (aC (congrArg (λL=>V.d (aI L)) f2))) (.cons (.le (aC (congrArg (λd=>V.d (aI (lim d))) (f3 h2).symm))) (.nil))))⟩)
  .have h2:r.den≠[]:=λe=>by have:=oN h2;rw[e] at this;exact this rfl
   refine AW.skip (AW.sg hE rfl (aV fd.tN rfl rfl (aA ce.bool rfl rfl rfl (aV fd.rU rfl rfl (aA ce.aI rfl rfl rfl (aV fd.o9 rfl rfl (aA ce.aI rfl rfl rfl ?_)))))));refine bd z.fraction pl.fraction (cs:=[_,_,_]) rfl (eG sz.fraction rfl rfl rfl rfl rfl (au rfl) (cells2:=[_,_,_]) rfl (OL.nil ?_));exact AW.ret (aT.r ⟨_,.dK rfl rfl ag.fraction (au rfl) .nil,.ag (.cons (.le (aC (congrArg (λb=>V.d (dB b)) f1))) (.cons (.le (aC (congrArg (λL=>V.d (aI L)) f2))) (.cons (.le (aC (congrArg (λL=>V.d (aI L)) (f4 h2)))) (.nil))))⟩)
theorem Bo {s:Bool}{n d:Nat}:ai P F.jE [vFr s n d] (vFr (!s) n d):=by
 refine ai.intro fn.jE (by rfl) (by rfl) (au (by rfl)) λE hE=>(AW.sg hE rfl (iG rfl rfl λb1=>(al z.fraction rfl λb2=>(OL.nil (AW.sg hE rfl (aV fd.jT rfl rfl (aA ce.bool rfl rfl rfl ?_)))))))
 refine nt rfl (aV fd.mr rfl rfl (aA ce.limbs rfl rfl rfl (aV fd.oG rfl rfl (aA ce.limbs rfl rfl rfl (bd z.fraction pl.fraction (cs:=[_,_,_]) rfl (eG sz.fraction rfl rfl rfl rfl rfl (au rfl) (cells2:=[_,_,_]) rfl (OL.nil ?_)))))));exact AW.ret (aT.r ⟨_,.dK rfl rfl ag.fraction (au rfl) .nil,.ag (.cons (.le vR) (.cons (.le vR) (.cons (.le vR) (.nil))))⟩)
theorem Hq {s t:Bool}{a b d1 d2:Nat}(na:(lim a).length<=1099511627776)(nb:(lim b).length<=1099511627776)(n1:(lim d1).length<=1099511627776)(n2:(lim d2).length<=1099511627776):ai P F.lN [vFr s a d1,vFr t b d2] (vFr (if s=t then s else if b*d1<=a*d2 then s else t) (if s=t then a*d2+b*d1 else if b*d1<=a*d2 then a*d2-b*d1 else b*d1-a*d2) (d1*d2)):=by
 have e1:=gI a d2;have e2:=gI b d1;have e3:=gI d1 d2;refine ai.intro fn.lN (by rfl) (by rfl) (au (by rfl)) λE hE=>(AW.sg hE rfl (iG rfl rfl λb2=>(iG rfl rfl λb3=>(al z.fraction rfl λb4=>(OL.nil (AW.seq (AW.dg 1 [0,1,2,3,4,5,6,7,8,9,10,11,12,13,14,15,16,17] ak hE rfl (by kernel_rfl) (OI.aP (os:=[_,_,_,_,_,_,_,_,_,_,_,_,_,_,_,_,_,_]) rfl ?_))))))))
 refine aV fd.mr rfl rfl (aA ce.limbs rfl rfl rfl (aV fd.oG rfl rfl (aA ce.limbs rfl rfl rfl (cl (pX (bI a) (bI d2) (by omega) (by omega)) rfl vL ?_))))
 rw[bJ,bJ];refine aV fd.mr rfl rfl (aA ce.limbs rfl rfl rfl (aV fd.oG rfl rfl (aA ce.limbs rfl rfl rfl (cl (pX (bI b) (bI d1) (by omega) (by omega)) rfl vL ?_))))
 rw[bJ,bJ];refine aV fd.oG rfl rfl (aA ce.limbs rfl rfl rfl (aV fd.oG rfl rfl (aA ce.limbs rfl rfl rfl (cl (pX (bI d1) (bI d2) (by omega) (by omega)) rfl vL ?_))))
 rw[bJ,bJ];refine aG rfl (aG rfl (aG rfl (OL.nil (AW.seq (AW.sg hE rfl (aV fd.jT rfl rfl (aA ce.bool rfl rfl rfl ?_)))))));refine aV fd.jT rfl rfl (aA ce.bool rfl rfl rfl (eqb bt.bool rfl rfl (OL.nil (AW.cond rfl (λh=>?_) (λh=>?_)))))
 .have h:s=t:=by simpa using h
  refine AW.seq (AW.dg 1 [0,1,2,3,4,5,6,7] ak hE rfl (by kernel_rfl) (OI.aP (os:=[_,_,_,_,_,_,_,_]) rfl ?_))
  refine aV fd.jT rfl rfl (aA ce.bool rfl rfl rfl (aj rfl (aj rfl (cl (X6 (bI _) (bI _) (by omega) (by omega)) rfl vL ?_))))
  rw[bJ,bJ];exact aj rfl (bd z.fraction pl.fraction (cs:=[_,_,_]) rfl (eG sz.fraction rfl rfl rfl rfl rfl (au rfl) (cells2:=[_,_,_]) rfl (OL.nil (AW.ret (aT.r ⟨_,.dK rfl rfl ag.fraction (au rfl) .nil,.ag (.cons (.le (aC (by rw[if_pos h]))) (.cons (.le (aC (by rw[if_pos h]))) (.cons (.le vR) (.nil))))⟩)))))
 .have h:s≠t:=by simpa using h
  refine AW.skip (AW.seq (AW.sg hE rfl (aj rfl (aj rfl (cl (zf (bI _) (bI _) (by omega) (by omega)) rfl vL ?_)))))
  rw[bJ,bJ];refine tH rfl rfl rfl (OL.nil (AW.cond rfl (λh2=>?_) (λh2=>?_)))
  .have h2:b*d1<=a*d2:=Ja (by have:=mX h2;omega)
   refine AW.seq (AW.dg 1 [0,1,2,3,4,5,6,7] ak hE rfl (by kernel_rfl) (OI.aP (os:=[_,_,_,_,_,_,_,_]) rfl ?_))
   refine aV fd.jT rfl rfl (aA ce.bool rfl rfl rfl (aj rfl (aj rfl (cl (Bl (bI _) (bI _) (by omega) (by rw[bJ,bJ];exact h2)) rfl vL ?_))))
   rw[bJ,bJ];exact aj rfl (bd z.fraction pl.fraction (cs:=[_,_,_]) rfl (eG sz.fraction rfl rfl rfl rfl rfl (au rfl) (cells2:=[_,_,_]) rfl (OL.nil (AW.ret (aT.r ⟨_,.dK rfl rfl ag.fraction (au rfl) .nil,.ag (.cons (.le (aC (by rw[if_neg h,if_pos h2]))) (.cons (.le (aC (by rw[if_neg h,if_pos h2]))) (.cons (.le vR) (.nil))))⟩)))))
  .have h2:¬ b*d1<=a*d2:=λe=>oN h2 (XM e);refine AW.skip (AW.seq (AW.dg 1 [0,1,2,3,4,5,6,7] ak hE rfl (by kernel_rfl) (OI.aP (os:=[_,_,_,_,_,_,_,_]) rfl ?_)))
   refine aV fd.jT rfl rfl (aA ce.bool rfl rfl rfl (aj rfl (aj rfl (cl (Bl (bI _) (bI _) (by omega) (by rw[bJ,bJ];omega)) rfl vL ?_))))
   rw[bJ,bJ];exact aj rfl (bd z.fraction pl.fraction (cs:=[_,_,_]) rfl (eG sz.fraction rfl rfl rfl rfl rfl (au rfl) (cells2:=[_,_,_]) rfl (OL.nil (AW.ret (aT.r ⟨_,.dK rfl rfl ag.fraction (au rfl) .nil,.ag (.cons (.le (aC (by rw[if_neg h,if_neg h2]))) (.cons (.le (aC (by rw[if_neg h,if_neg h2]))) (.cons (.le vR) (.nil))))⟩)))))
theorem sW {s:Bool}{n d:Nat}(nn:(lim n).length<=1099511627776)(nd:(lim d).length<=1099511627776)(hd:d≠0):ai P F.mO [vFr s n d] (uo (iD (fr s n d))):=by
 refine ai.intro fn.mO (by rfl) (by rfl) (au (by rfl)) λE hE=>(AW.sg hE rfl (iG rfl rfl λb1=>(al z.Rat rfl λb2=>(OL.nil (AW.seq (AW.sg hE rfl (aV fd.mr rfl rfl ?_)))))))
 refine aA ce.limbs rfl rfl rfl (fO sl.limbs rfl rfl (fE rfl rfl rfl (OL.nil (AW.cond rfl (λh=>?_) (λh=>?_)))))
 .have h:n=0:=dO.1 (by have:=mX h;omega)
  subst h;rw[Tt,rG];exact AW.sg hE rfl (bd z.Rat pl.Rat (cs:=[_,_,_]) rfl (eG sz.Rat rfl rfl rfl rfl rfl (au rfl) (cells2:=[_,_,_]) rfl (OL.nil (AW.ret (aT.r ⟨_,.dK rfl rfl ag.Rat (au rfl) .nil,.ag (.cons (.le vR) (.cons (.le bV.mt) (.cons (.le bV.mt) (.nil))))⟩)))))
 .have h:n≠0:=λe=>by have:=oN h;rw[e,eX] at this;exact this rfl
  have hgp:0<Nat.gcd n d:=Nat.gcd_pos_of_pos_left d (Nat.pos_of_ne_zero h);have hgl:=ug (Nat.gcd_le_left d (Nat.pos_of_ne_zero h));have hdl:=ug (Nat.div_le_self d (Nat.gcd n d));rw[Tv h hd];refine AW.skip (AW.seq (AW.dg 1 [0,1,2,3,4,5,6,7] ak hE rfl (by kernel_rfl) (OI.aP (os:=[_,_,_,_,_,_,_,_]) rfl ?_)))
  refine aV fd.mr rfl rfl (aA ce.limbs rfl rfl rfl (cl (LJ (by omega)) rfl vL (aV fd.oG rfl rfl (aA ce.limbs rfl rfl rfl (cl (LJ (by omega)) rfl vL (aG rfl (aG rfl ?_)))))))
  refine OL.nil ?_;refine AW.mid (α:=Unit) (λ_u=>[(1,.ptr 1 b1 0),(2,.ptr 2 b2 0),(3,.d (aI (lim (n / Nat.gcd n d)))),(4,.d (aI (lim (d / Nat.gcd n d))))]) (λ_u=>[(1,.box b1 T.fraction [.d (dB s),.d (aI (lim n)),.d (aI (lim d))]),(2,.box b2 T.Rat [.d (dB false),.mt,.mt])]) (λ_u=>True) ?_ ?_
  .refine AW.sg hE rfl (aj rfl (aj rfl (cl (QN nn nd) rfl vL (aG rfl (OL.nil (AW.sg hE rfl (aj rfl ?_)))))));refine cl jF rfl vL (cl (zf (bI _) (bI 1) (by omega) (by have:=sD (g:=1) (by decide);omega)) rfl vL ?_)
   rw[bJ,bJ];refine fJ rfl rfl rfl (OL.nil (AW.cond rfl (λh1=>?_) (λh1=>?_)))
   .have _h1:=h1;refine AW.sg hE rfl (aj rfl (aj rfl (cl (Ic (bI n) nn (by omega) (by omega)) rfl vL ?_)))
    rw[bJ];refine ES rfl (ex rfl rfl (ex rfl rfl (aG rfl (OL.nil (AW.rg hE rfl (aj rfl (aj rfl ?_)))))));refine cl (Ic (bI d) nd (by omega) (by omega)) rfl vL ?_
    rw[bJ];exact ES rfl (ex rfl rfl (ex rfl rfl (aG rfl (OL.nil (AW.reach () ⟨trivial,.J5,.cons rfl (.cons rfl .nil)⟩)))))
   .have h1:Nat.gcd n d=1:=y9.1 (yc h1);exact AW.skip (AW.reach () ⟨trivial,.cons vR (.cons vR (.cons (aC (by rw[h1,Nat.div_one];rfl)) (.cons (aC (by rw[h1,Nat.div_one];rfl)) .nil))),.cons rfl (.cons rfl .nil)⟩)
  rintro⟨⟩ -
  refine AW.seq (AW.sg hE rfl (aj rfl (cl jF rfl vL (cl (zf (bI _) (bI 1) (by omega) (by have:=sD (g:=1) (by decide);omega)) rfl vL ?_))))
  rw[bJ,bJ];refine fE rfl rfl rfl (OL.nil (AW.cond rfl (λh2=>?_) (λh2=>?_)))
  .have h2:d / Nat.gcd n d=1:=y9.1 (mX h2);refine AW.rg hE rfl (nI rfl (OL.nil (AW.sg hE rfl (aV fd.jT rfl rfl (aA ce.bool rfl rfl rfl (aj rfl (mvM rfl ?_)))))));exact bd z.Rat pl.Rat (cs:=[_,_,_]) rfl (eG sz.Rat rfl rfl rfl rfl rfl (au rfl) (cells2:=[_,_,_]) rfl (OL.nil (AW.ret (aT.r ⟨_,.dK rfl rfl ag.Rat (au rfl) .nil,.ag (.cons (.le vR) (.cons (.le vR) (.cons (.le (by rw[if_pos h2];exact bV.mt)) (.nil))))⟩))))
  .have h2:d / Nat.gcd n d≠1:=λe=>oN h2 (y9.2 e);refine AW.skip (AW.sg hE rfl (aV fd.jT rfl rfl (aA ce.bool rfl rfl rfl (aj rfl (aj rfl (bd z.Rat pl.Rat (cs:=[_,_,_]) rfl (eG sz.Rat rfl rfl rfl rfl rfl (au rfl) (cells2:=[_,_,_]) rfl ?_)))))));exact OL.nil (AW.ret (aT.r ⟨_,.dK rfl rfl ag.Rat (au rfl) .nil,.ag (.cons (.le vR) (.cons (.le vR) (.cons (.le (aC (by rw[if_neg h2]))) (.nil))))⟩))
theorem l7 {v:Int}(hv:-9223372036854775808<=v/\v<=9223372036854775807):ai P F.l7 [.d (dI v)] (.oM [.d (dB (decide (v<0))),.d (aI (lim v.natAbs))]):=by
 refine ai.intro fn.l7 (by rfl) (by rfl) (au (by rfl)) λE hE=>(AW.sg hE rfl (aG rfl (nI rfl (OL.nil (AW.sg hE rfl (aj rfl (cv it.int it.u64 rfl (c:=v % 18446744073709551616) (Dv _) ?_)))))))
 refine aG rfl (OL.nil (AW.mid (α:=Unit) (λ_u=>[(0,.d (dI v)),(4,.d (dU v.natAbs))]) (λ_u=>[]) (λ_u=>True) ?_ ?_))
 .refine AW.sg hE rfl (aj rfl (bD rfl rfl rfl (OL.nil (AW.cond rfl (λh=>?_) (λh=>?_)))))
  .have h:=mX h;exact AW.rg hE rfl (aj rfl (ng rfl (c:=(v.natAbs:Int)) (by rw[Dv];omega) (aG rfl (OL.nil (AW.reach () ⟨trivial,.jm,.nil⟩)))))
  .have h:=oN h;exact AW.skip (AW.reach () ⟨trivial,.cons vR (.cons (bV.int (by omega)) .nil),.nil⟩)
 rintro⟨⟩ -
 refine AW.sg hE rfl (aj rfl (bD rfl rfl rfl (aj rfl (cv it.u64 it.u32 rfl (c:=((v.natAbs % 4294967296:Nat):Int)) (by rw[iC];omega) (aj rfl (Lr rfl rfl rfl (cv it.u64 it.u32 rfl (c:=((v.natAbs / 4294967296:Nat):Int)) (by rw[iC];omega) ?_)))))))
 refine lt2 sl.limbs (VC.d _).vd (VC.d _).vd ⟨rfl,rfl⟩ (by decide) (cl (lT (L:=[v.natAbs % 4294967296,v.natAbs / 4294967296]) (.cons (by omega) (.cons (by omega) .nil)) (by simp)) rfl vL ?_)
 rw[show val [v.natAbs % 4294967296,v.natAbs / 4294967296]=v.natAbs by simp only[jC,jB];omega]
 exact aG rfl (aG rfl (OL.nil (AW.ret (aT.r ⟨_,.tmp rfl (.tmp rfl .nil),_,.cons (.le vR) (.cons (.le vR) .nil),rfl⟩))))
theorem oC {n d:Int}(hn:-9223372036854775808<=n/\n<=9223372036854775807)(hd:-9223372036854775808<=d/\d<=9223372036854775807)(h0:d≠0):ai P F.oC [.d (dI n),.d (dI d)] (.oM [uo (iD ((n:Rat) / (d:Rat))),.d (dI 0)]):=by
 have e1:(lim n.natAbs).length<=2:=dZ (by show n.natAbs<18446744073709551616;omega)
 have e2:(lim d.natAbs).length<=2:=dZ (by show d.natAbs<18446744073709551616;omega)
 refine ai.intro fn.oC (by rfl) (by rfl) (au (by rfl)) λE hE=>(AW.sg hE rfl (al z.Rat rfl λb4=>(aG rfl (OL.nil (AW.seq (AW.sg hE rfl (aj rfl ?_)))))))
 refine fE rfl rfl rfl (OL.nil (AW.cond rfl (λhno=>absurd hno (by simpa using h0)) (λ_=>?_)))
 refine AW.skip (AW.sg hE rfl (aj rfl (cl (l7 hn) rfl vL (ES rfl (ex rfl rfl (ex rfl rfl (aG rfl ?_)))))));refine aG rfl (OL.nil (AW.sg hE rfl (aj rfl (cl (l7 hd) rfl vL (ES rfl (ex rfl rfl (ex rfl rfl ?_)))))));refine aG rfl (aG rfl (OL.nil (AW.sg hE rfl (aj rfl (aj rfl (neb bt.bool rfl rfl (aj rfl ?_)))))));refine aj rfl (bd z.fraction pl.fraction (cs:=[_,_,_]) rfl (cl (sW (by omega) (by omega) (by omega)) rfl vL ?_))
 rw[show (!(decide (n<0) == decide (d<0)))=(decide (n<0) != decide (d<0)) from rfl,NZ]
 exact eG sz.Rat rfl rfl rfl rfl rfl (au rfl) (cells2:=[_,_,_]) rfl (aG rfl (OL.nil (AW.ret (aT.r ⟨_,.dK rfl rfl ag.Rat (au rfl) (.tmp rfl .nil),[_,_],.cons (.ag (.cons (.le vR) (.cons (.le vR) (.cons (.le vR) (.nil))))) (.cons (.le vR) .nil),rfl⟩))))
theorem qm {x y:Raw}(hx:x.Ok)(hy:y.Ok):ai P F.qm [uo x,uo y] (uo (iD (x.q+y.q))):=by
 have a1:=EZ hx hx.ln hx.ld (by decide)
 have a2:=EZ hy hy.ln hy.ld (by decide)
 have sn1:=lI x.q;have sn2:=lI y.q;have sd1:=lJ x.q;have sd2:=lJ y.q;have sdd:=gI x.q.den y.q.den;refine ai.intro fn.qm (by rfl) (by rfl) (au (by rfl)) λE hE=>(AW.sg hE rfl (iG rfl rfl λb2=>(iG rfl rfl λb3=>(al z.Rat rfl λb4=>(OL.nil (AW.seq (AW.dg 1 [0,1,2,3,4,5,6] ak hE rfl (by kernel_rfl) (OI.aP (os:=[_,_,_,_,_,_,_]) rfl ?_))))))))
 refine aQ ag.Rat rfl rfl (vs:=[_,_,_]) rfl (au rfl) (cl (iK hx) rfl vL (aQ ag.Rat rfl rfl (vs:=[_,_,_]) rfl (au rfl) (cl (iK hy) rfl vL (cl (Hq (by omega) (by omega) (by omega) (by omega)) rfl vL (cl (sW (Nat.le_trans (Jc sn1 sn2 sd1 sd2) (by omega)) (by omega) (Nat.mul_ne_zero x.q.den_nz y.q.den_nz)) rfl vL ?_)))))
 rw[MR x.q.den_nz y.q.den_nz,mY,mY];exact eG sz.Rat rfl rfl rfl rfl rfl (au rfl) (cells2:=[_,_,_]) rfl (OL.nil (AW.ret (aT.r ⟨_,.dK rfl rfl ag.Rat (au rfl) .nil,.ag (.cons (.le vR) (.cons (.le vR) (.cons (.le vR) (.nil))))⟩)))
theorem qw {x y:Raw}(hx:x.Ok)(hy:y.Ok):ai P F.qw [uo x,uo y] (uo (iD (x.q-y.q))):=by
 have a1:=EZ hx hx.ln hx.ld (by decide)
 have a2:=EZ hy hy.ln hy.ld (by decide)
 have sn1:=lI x.q;have sn2:=lI y.q;have sd1:=lJ x.q;have sd2:=lJ y.q;have sdd:=gI x.q.den y.q.den;have snn:=gI x.q.num.natAbs y.q.num.natAbs;have snd:=gI x.q.num.natAbs y.q.den;have sdn:=gI x.q.den y.q.num.natAbs;refine ai.intro fn.qw (by rfl) (by rfl) (au (by rfl)) λE hE=>(AW.sg hE rfl (iG rfl rfl λb2=>(iG rfl rfl λb3=>(al z.Rat rfl λb4=>(OL.nil (AW.seq (AW.dg 1 [0,1,2,3,4,5,6,7] ak hE rfl (by kernel_rfl) (OI.aP (os:=[_,_,_,_,_,_,_,_]) rfl ?_))))))))
 refine aQ ag.Rat rfl rfl (vs:=[_,_,_]) rfl (au rfl) (cl (iK hx) rfl vL (aQ ag.Rat rfl rfl (vs:=[_,_,_]) rfl (au rfl) (cl (iK hy) rfl vL (cl Bo rfl vL (cl (Hq (by omega) (by omega) (by omega) (by omega)) rfl vL (cl (sW (Nat.le_trans (Jc sn1 sn2 sd1 sd2) (by omega)) (by omega) (Nat.mul_ne_zero x.q.den_nz y.q.den_nz)) rfl vL ?_))))))
 rw[MR x.q.den_nz y.q.den_nz,<- as3,mY,mY,<- Rat.sub_eq_add_neg];exact eG sz.Rat rfl rfl rfl rfl rfl (au rfl) (cells2:=[_,_,_]) rfl (OL.nil (AW.ret (aT.r ⟨_,.dK rfl rfl ag.Rat (au rfl) .nil,.ag (.cons (.le vR) (.cons (.le vR) (.cons (.le vR) (.nil))))⟩)))
theorem qo {x y:Raw}(hx:x.Ok)(hy:y.Ok):ai P F.qo [uo x,uo y] (uo (iD (x.q*y.q))):=by
 have a1:=EZ hx hx.ln hx.ld (by decide)
 have a2:=EZ hy hy.ln hy.ld (by decide)
 have sn1:=lI x.q;have sn2:=lI y.q;have sd1:=lJ x.q;have sd2:=lJ y.q;have sdd:=gI x.q.den y.q.den;have snn:=gI x.q.num.natAbs y.q.num.natAbs;have snd:=gI x.q.num.natAbs y.q.den;have sdn:=gI x.q.den y.q.num.natAbs;refine ai.intro fn.qo (by rfl) (by rfl) (au (by rfl)) λE hE=>(AW.sg hE rfl (iG rfl rfl λb2=>(iG rfl rfl λb3=>(al z.Rat rfl λb4=>(OL.nil (AW.seq (AW.dg 1 [0,1,2,3,4,5,6,7] ak hE rfl (by kernel_rfl) (OI.aP (os:=[_,_,_,_,_,_,_,_]) rfl ?_))))))))
 refine aQ ag.Rat rfl rfl (vs:=[_,_,_]) rfl (au rfl) (cl (iK hx) rfl vL (aQ ag.Rat rfl rfl (vs:=[_,_,_]) rfl (au rfl) (cl (iK hy) rfl vL (al z.fraction rfl λb5=>(al z.fraction rfl λb6=>(eG sz.fraction rfl rfl rfl rfl rfl (au rfl) (cells2:=[_,_,_]) rfl (eG sz.fraction rfl rfl rfl rfl rfl (au rfl) (cells2:=[_,_,_]) rfl ?_)))))));refine OL.nil (AW.seq (AW.dg 1 [0,1,2,3,4,5,6,7,8,9,10,11,12,13,14,15,16,17] ak hE rfl (by kernel_rfl) (OI.aP (os:=[_,_,_,_,_,_,_,_,_,_,_,_,_,_,_,_,_,_]) rfl ?_)))
 refine aV fd.jT rfl rfl (aA ce.bool rfl rfl rfl (aV fd.jT rfl rfl (aA ce.bool rfl rfl rfl (neb bt.bool rfl rfl (aV fd.mr rfl rfl (aA ce.limbs rfl rfl rfl (aV fd.mr rfl rfl ?_)))))));refine aA ce.limbs rfl rfl rfl (cl (pX (bI _) (bI _) (by omega) (by omega)) rfl vL ?_)
 rw[bJ,bJ];refine aV fd.oG rfl rfl (aA ce.limbs rfl rfl rfl (aV fd.oG rfl rfl (aA ce.limbs rfl rfl rfl (cl (pX (bI _) (bI _) (by omega) (by omega)) rfl vL ?_))))
 rw[bJ,bJ];refine bd z.fraction pl.fraction (cs:=[_,_,_]) rfl (cl (sW (by omega) (by omega) (Nat.mul_ne_zero x.q.den_nz y.q.den_nz)) rfl vL ?_)
 rw[show ∀ p q:Bool,(!(p == q))=(p != q) from λ_ _=>rfl,<- Tz,mY,mY]
 exact eG sz.Rat rfl rfl rfl rfl rfl (au rfl) (cells2:=[_,_,_]) rfl (OL.nil (AW.ret (aT.r ⟨_,.dK rfl rfl ag.Rat (au rfl) .nil,.ag (.cons (.le vR) (.cons (.le vR) (.cons (.le vR) (.nil))))⟩)))
theorem qp {x y:Raw}(hx:x.Ok)(hy:y.Ok):ai P F.qp [uo x,uo y] (.oM [uo (iD (if y.q=0 then 0 else x.q / y.q)),.d (dI (if y.q=0 then 11 else 0))]):=by
 have a1:=EZ hx hx.ln hx.ld (by decide)
 have a2:=EZ hy hy.ln hy.ld (by decide)
 have sn1:=lI x.q;have sn2:=lI y.q;have sd1:=lJ x.q;have sd2:=lJ y.q;have sdd:=gI x.q.den y.q.den;have snn:=gI x.q.num.natAbs y.q.num.natAbs;have snd:=gI x.q.num.natAbs y.q.den;have sdn:=gI x.q.den y.q.num.natAbs;refine ai.intro fn.qp (by rfl) (by rfl) (au (by rfl)) λE hE=>(AW.sg hE rfl (iG rfl rfl λb2=>(iG rfl rfl λb3=>(al z.Rat rfl λb4=>(aG rfl (OL.nil (AW.seq ?_)))))))
 refine AW.dg 1 [0,1,2,3,4,5,6,7] ak hE rfl (by kernel_rfl) (OI.aP (os:=[_,_,_,_,_,_,_,_]) rfl ?_)
 refine aQ ag.Rat rfl rfl (vs:=[_,_,_]) rfl (au rfl) (cl (iK hx) rfl vL (aQ ag.Rat rfl rfl (vs:=[_,_,_]) rfl (au rfl) (cl (iK hy) rfl vL (al z.fraction rfl λb6=>(al z.fraction rfl λb7=>(eG sz.fraction rfl rfl rfl rfl rfl (au rfl) (cells2:=[_,_,_]) rfl (eG sz.fraction rfl rfl rfl rfl rfl (au rfl) (cells2:=[_,_,_]) rfl ?_)))))));refine OL.nil (AW.seq (AW.sg hE rfl (aV fd.mr rfl rfl (aA ce.limbs rfl rfl rfl (fO sl.limbs rfl rfl (fE rfl rfl rfl (OL.nil ?_)))))));refine AW.cond rfl (λh=>?_) (λh=>?_)
 .have h:y.q=0:=Rat.num_eq_zero.1 (by have:=dO.1 (show (lim y.q.num.natAbs).length=0 by have:=mX h;omega);omega)
  rw[if_pos h,if_pos h,rG];exact AW.sg hE rfl (bd z.Rat pl.Rat (cs:=[_,_,_]) rfl (eG sz.Rat rfl rfl rfl rfl rfl (au rfl) (cells2:=[_,_,_]) rfl (aG rfl (OL.nil (AW.ret (aT.r ⟨_,.dK rfl rfl ag.Rat (au rfl) (.tmp rfl .nil),[_,_],.cons (.ag (.cons (.le vR) (.cons (.le bV.mt) (.cons (.le bV.mt) (.nil))))) (.cons (.le vR) .nil),rfl⟩))))))
 .have h:y.q≠0:=λe=>by have:=oN h;rw[e,show (0:Rat).num.natAbs=0 from rfl,eX] at this;exact this rfl
  have hn0:y.q.num.natAbs≠0:=λe=>h (Rat.num_eq_zero.1 (by omega))
  rw[if_neg h,if_neg h];refine AW.skip (AW.seq (AW.dg 1 [0,1,2,3,4,5,6,7,8,9,10,11,12,13,14,15,16,17,18] ak hE rfl (by kernel_rfl) (OI.aP (os:=[_,_,_,_,_,_,_,_,_,_,_,_,_,_,_,_,_,_,_]) rfl ?_)))
  refine aV fd.jT rfl rfl (aA ce.bool rfl rfl rfl (aV fd.jT rfl rfl (aA ce.bool rfl rfl rfl (neb bt.bool rfl rfl (aV fd.mr rfl rfl (aA ce.limbs rfl rfl rfl (aV fd.oG rfl rfl ?_)))))));refine aA ce.limbs rfl rfl rfl (cl (pX (bI _) (bI _) (by omega) (by omega)) rfl vL ?_)
  rw[bJ,bJ];refine aV fd.oG rfl rfl (aA ce.limbs rfl rfl rfl (aV fd.mr rfl rfl (aA ce.limbs rfl rfl rfl (cl (pX (bI _) (bI _) (by omega) (by omega)) rfl vL ?_))))
  rw[bJ,bJ];refine bd z.fraction pl.fraction (cs:=[_,_,_]) rfl (cl (sW (by omega) (by omega) (Nat.mul_ne_zero x.q.den_nz hn0)) rfl vL ?_)
  rw[show ∀ p q:Bool,(!(p == q))=(p != q) from λ_ _=>rfl,<- XQ x.q.den_nz y.q.den_nz hn0,mY,mY]
  exact eG sz.Rat rfl rfl rfl rfl rfl (au rfl) (cells2:=[_,_,_]) rfl (aG rfl (OL.nil (AW.ret (aT.r ⟨_,.dK rfl rfl ag.Rat (au rfl) (.tmp rfl .nil),[_,_],.cons (.ag (.cons (.le vR) (.cons (.le vR) (.cons (.le vR) (.nil))))) (.cons (.le vR) .nil),rfl⟩))))
theorem oD {x:Raw}(hx:x.Ok):ai P F.oD [uo x] (.d (dI (MC x.q))):=by
 have a1:=EZ hx hx.ln hx.ld (by decide)
 have sn1:=lI x.q;refine ai.intro fn.oD (by rfl) (by rfl) (au (by rfl)) λE hE=>(AW.sg hE rfl (iG rfl rfl λb1=>(aG rfl (OL.nil (AW.seq (AW.sg hE rfl (aQ ag.Rat rfl rfl (vs:=[_,_,_]) rfl (au rfl) ?_)))))))
 refine cl (iK hx) rfl vL (al z.fraction rfl λb3=>(eG sz.fraction rfl rfl rfl rfl rfl (au rfl) (cells2:=[_,_,_]) rfl (OL.nil (AW.block (AW.sg hE rfl (aV fd.mr rfl rfl (aA ce.limbs rfl rfl rfl ?_)))))));refine fO sl.limbs rfl rfl (fE rfl rfl rfl (aG rfl (OL.nil (AW.cond rfl (λh=>?_) (λh=>?_)))))
 .have h:x.q.num=0:=by have:=dO.1 (show (lim x.q.num.natAbs).length=0 by have:=mX h;omega);omega
  exact AW.sg hE rfl (aG rfl (OL.nil (AW.ret (aT.r ⟨_,.tmp rfl .nil,.le (bV.int ((Lu.2 h).symm))⟩))))
 .have h:x.q.num≠0:=λe=>by have:=oN h;rw[e,show (0:Int).natAbs=0 from rfl,eX] at this;exact this rfl
  refine AW.sg hE rfl (aV fd.jT rfl rfl (aA ce.bool rfl rfl rfl (aG rfl (OL.nil (AW.cond rfl (λh2=>?_) (λh2=>?_))))))
  .have h2:=mX h2;exact AW.sg hE rfl (aG rfl (OL.nil (AW.ret (aT.r ⟨_,.tmp rfl .nil,.le (bV.int ((Jb.2 h2).symm))⟩))))
  .have h2:=oN h2;exact AW.skip (AW.sg hE rfl (aG rfl (OL.nil (AW.ret (aT.r ⟨_,.tmp rfl .nil,.le (bV.int (by unfold MC;rw[if_neg h2,if_neg h]))⟩)))))

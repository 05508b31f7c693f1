/-
  Walks of package rational, part 5: sums, products, comparisons (printed by mk.py).
-/
import Derived.Test.YteiohkpjgcioaaaGreatDoorKLimbsC
set_option linter.unusedVariables false
set_option linter.unusedSimpArgs false
namespace Go.Proofs.YteiohkpjgcioaaaGreatDoor
open Go Go.AL
theorem jA  : ai P F.jA [] (.d (aC (lim 1))):=by
 refine ai.intro fn.jA (by rfl) (by rfl) (au (by rfl)) λE hE=>?_
 refine AW.sg hE rfl ?_;refine oq rfl ?_;refine OL.nil ?_;refine AW.sg hE rfl ?_;refine tC (y:=AB 1) sl.limbs (VC.d _).vd rfl (by decide) ?_
 refine ay rfl ?_;exact OL.nil (AW.ret (aH.r ⟨_,.tmp rfl .nil,.le (aI (by rw[wV (by decide) (by decide)];rfl))⟩))
theorem kT {L:List Nat}(nL:L.length<=8796093022208):ai P F.kT [.d (aC L)] (.d (dB (canon L))):=by
 refine ai.intro fn.kT (by rfl) (by rfl) (au (by rfl)) λE hE=>(AW.sg hE rfl (ay rfl (OL.nil (AW.sg hE rfl (ah rfl (eH sl.aC rfl rfl (dm rfl rfl rfl ?_)))))))
 refine OL.split 5 rfl (λh=>?_) (λh=>?_)
 .have h:=jC h;refine ah rfl (OL.nd rfl (OL.nd rfl (OL.nd rfl (OL.nd rfl (OL.nd rfl (OL.nd rfl (OL.nd rfl ?_)))))));exact iV rfl rfl (ay rfl (OL.nil (AW.ret (aH.r ⟨_,.tmp rfl .nil,.le (aZ.bool (by rw[KZ (l:=L) (by omega)];rfl))⟩))))
 .have h:=kK h;refine ah rfl (OL.yes rfl (ah rfl (OL.yes rfl (ah rfl (OL.yes rfl (eH sl.aC rfl rfl (OL.yes rfl ?_)))))));refine fC rfl rfl (by omega) (OL.yes rfl (ixL sl.aC 0 rfl rfl (by omega) (by omega) rfl rfl (OL.yes rfl (bP ce.u32 rfl (OL.yes rfl (bU rfl rfl rfl (eG rfl rfl ?_)))))))
  exact ay rfl (OL.nil (AW.ret (aH.r ⟨_,.tmp rfl .nil,.le (aZ.bool (uG (by omega)))⟩)))
theorem LD {L:List Nat}(nL:L.length<=8796093022208):ai P F.gm [.d (aC L)] (.d (aC L)):=by
 refine ai.intro fn.gm (by rfl) (by rfl) (au (by rfl)) λE hE=>(AW.sg hE rfl (oq rfl (OL.nil (AW.seq (AW.sg hE rfl (ah rfl (isNil sl.limbs.u rfl (λy hy=>by obtain⟨a,_,rfl⟩:=Az hy;exact Nat.one_pos) rfl λb hb=>?_)))))))
 refine OL.nil (AW.cond rfl (λh=>?_) (λh=>?_))
 .have hL:L=[]:=by have:=hb h;simpa using this
  exact AW.sg hE rfl (oq rfl (OL.nil (AW.ret (aH.r ⟨_,.tmp rfl .nil,.le (hL ▸ aZ.mt)⟩))))
 .have _h:=h;exact AW.skip (AW.sg hE rfl (lt0 sl.limbs (ah rfl (UD sl.limbs rfl rfl (VC.d _) (λy hy=>by obtain⟨a,_,rfl⟩:=Az hy;rfl) (by simp;omega) (by simp;omega) (ay rfl (OL.nil (AW.ret (aH.r ⟨_,.tmp rfl .nil,.le vR⟩))))))))
theorem NU {L:List Nat}(nL:L.length<=8796093022208):ai P F.ji [.d (aC L)] (.d (aC L)):=by
 refine ai.intro fn.ji (by rfl) (by rfl) (au (by rfl)) λE hE=>(AW.sg hE rfl (oq rfl (OL.nil (AW.seq (AW.sg hE rfl (ah rfl (isNil sl.aC.u rfl (λy hy=>by obtain⟨a,_,rfl⟩:=Az hy;exact Nat.one_pos) rfl λb hb=>?_)))))))
 refine OL.nil (AW.cond rfl (λh=>?_) (λh=>?_))
 .have hL:L=[]:=by have:=hb h;simpa using this
  exact AW.sg hE rfl (oq rfl (OL.nil (AW.ret (aH.r ⟨_,.tmp rfl .nil,.le (hL ▸ aZ.mt)⟩))))
 .have _h:=h;exact AW.skip (AW.sg hE rfl (lt0 sl.aC (ah rfl (UD sl.aC rfl rfl (VC.d _) (λy hy=>by obtain⟨a,_,rfl⟩:=Az hy;rfl) (by simp;omega) (by simp;omega) (ay rfl (OL.nil (AW.ret (aH.r ⟨_,.tmp rfl .nil,.le vR⟩))))))))
theorem kz {r:Raw}(hr:r.Ok):ai P F.kz [vw r] (.d (dB r.good)):=by
 have n1:=hr.ln;have n2:=hr.ld;refine ai.intro fn.kz (by rfl) (by rfl) (au (by rfl)) λE hE=>(AW.sg hE rfl (iC rfl rfl λb1=>(ay rfl (OL.nil (AW.seq (AW.block (AW.sg hE rfl ?_)))))))
 refine aF fd.sO rfl rfl (ak ce.aC rfl rfl rfl (cl (kT (by omega)) rfl vL (nt rfl (OL.split 7 rfl (λh1=>?_) (λh1=>?_)))))
 .have h1:canon r.num=false:=by simpa using h1
  refine ah rfl (OL.nd rfl (OL.nd rfl (OL.nd rfl (OL.nd rfl (iV rfl rfl (ay rfl (OL.nil ?_)))))));refine Hl rfl ?_;exact AW.sg hE rfl (ay rfl (OL.nil (AW.ret (aH.r ⟨_,.tmp rfl .nil,.le (aZ.bool (by simp[Raw.good,h1]))⟩))))
 .have h1:canon r.num=true:=by simpa using h1
  refine ah rfl (OL.yes rfl (aF fd.nZ rfl rfl (OL.yes rfl (ak ce.aC rfl rfl rfl (OL.yes rfl (cl (kT (by omega)) rfl vL (OL.yes rfl ?_)))))))
  refine nt rfl (eG rfl rfl (ay rfl (OL.nil (AW.cond rfl (λh2=>?_) (λh2=>?_)))))
  .have h2:canon r.den=false:=by simpa using h2
   exact AW.sg hE rfl (ay rfl (OL.nil (AW.ret (aH.r ⟨_,.tmp rfl .nil,.le (aZ.bool (by simp[Raw.good,h2]))⟩))))
  .have h2:canon r.den=true:=by simpa using h2
   have hL:=BR hr.num h1;have hD:=BR hr.den h2;refine AW.sg hE rfl (aF fd.sO rfl rfl (ak ce.aC rfl rfl rfl (eH sl.aC rfl rfl (dm rfl rfl rfl (ay rfl (OL.nil (AW.cond rfl (λh3=>?_) (λh3=>?_))))))))
   .have h3:r.num=[]:=KZ (by have:=jC h3;omega)
    refine AW.sg hE rfl (aF fd.tV rfl rfl (ak ce.bool rfl rfl rfl (nt rfl (OL.split 21 rfl (λh4=>?_) (λh4=>?_)))))
    .have h4:r.neg=false:=by simpa using h4
     refine ah rfl (OL.yes rfl (aF fd.nZ rfl rfl (OL.yes rfl (ak ce.aC rfl rfl rfl (OL.yes rfl (eH sl.aC rfl rfl (OL.yes rfl ?_)))))));exact dm rfl rfl rfl (iV rfl rfl (ay rfl (OL.nil (AW.ret (aH.r ⟨_,.tmp rfl .nil,.le (aZ.bool (by rw[show r.good=decide (r.den=[]) by simp[Raw.good,Qh,h2,h3,h4]];exact decide_eq_decide.2 (by rw[<- List.length_eq_zero_iff];omega)))⟩)))))
    .have h4:r.neg=true:=by simpa using h4
     refine ah rfl (OL.nd rfl (OL.nd rfl (OL.nd rfl (OL.nd rfl (eG rfl rfl (ay rfl (OL.nil ?_)))))));exact AW.ret (aH.r ⟨_,.tmp rfl .nil,.le (aZ.bool (by simp[Raw.good,h3,h4]))⟩)
   .have h3:r.num≠[]:=λe=>by have:=kK h3;rw[e] at this;exact this rfl
    refine AW.sg hE rfl (aF fd.nZ rfl rfl (ak ce.aC rfl rfl rfl (eH sl.aC rfl rfl (dm rfl rfl rfl (ay rfl (OL.nil (AW.cond rfl (λh5=>?_) (λh5=>?_))))))))
    .have h5:r.den=[]:=KZ (by have:=jC h5;omega)
     exact AW.sg hE rfl (ay rfl (OL.nil (AW.ret (aH.r ⟨_,.tmp rfl .nil,.le (aZ.bool (by simp[Raw.good,Qh,h1,h3,h5]))⟩))))
    .have h5:r.den≠[]:=λe=>by have:=kK h5;rw[e] at this;exact this rfl
     have hn0:val r.num≠0:=λe=>h3 (by rw[<- hL,e,dY])
     have hgl:=sW (Nat.gcd_le_left (val r.den) (Nat.pos_of_ne_zero hn0));rw[hL] at hgl;refine AW.skip (AW.seq (AW.dg 1 [0,1,2,3,4,5,6,7,8,9,10,11,12,13,14,15] aj hE rfl (by kernel_rfl) (OI.aP (os:=[_,_,_,_,_,_,_,_,_,_,_,_,_,_,_,_]) rfl ?_)))
     refine aF fd.nZ rfl rfl (ak ce.aC rfl rfl rfl (cl jA rfl vL (cl (zB hr.den (bG 1) (by omega) (by have:=rO (g:=1) (by decide);omega)) rfl vL ?_)))
     rw[bF];refine bU rfl rfl rfl (OL.split 37 rfl (λh6=>?_) (λh6=>?_))
     .have h6:val r.den≠1:=λe=>L6 h6 (zh.2 e);refine ah rfl (OL.yes rfl (aF fd.sO rfl rfl (OL.yes rfl (ak ce.aC rfl rfl rfl (OL.yes rfl (aF fd.nZ rfl rfl (OL.yes rfl ?_)))))));refine ak ce.aC rfl rfl rfl (OL.yes rfl (cl (Qs (a:=val r.num) (b:=val r.den) (by rw[hL];omega) (by rw[hD];omega)) rfl (by rw[hL,hD];exact iy.refl _) (OL.yes rfl (cl jA rfl vL (OL.yes rfl (cl (zB (bG _) (bG 1) (by omega) (by have:=rO (g:=1) (by decide);omega)) rfl vL ?_))))))
      rw[bF,bF];exact OL.yes rfl (dm rfl rfl rfl (iV rfl rfl (ay rfl (OL.nil (AW.ret (aH.r ⟨_,.tmp rfl .nil,.le (aZ.bool (by simp[Raw.good,h1,h2,h3,h5,h6,zh]))⟩))))))
     .have h6:val r.den=1:=zh.1 (J3 h6);refine ah rfl (OL.nd rfl (OL.nd rfl (OL.nd rfl (OL.nd rfl (OL.nd rfl (OL.nd rfl (OL.nd rfl ?_)))))));exact OL.nd rfl (eG rfl rfl (ay rfl (OL.nil (AW.ret (aH.r ⟨_,.tmp rfl .nil,.le (aZ.bool (by simp[Raw.good,h3,h5,h6]))⟩)))))
theorem jF {r:Raw}(hr:r.Ok):ai P F.jF [vw r] (qFr r.q):=by
 have n1:=hr.ln;have n2:=hr.ld;refine ai.intro fn.jF (by rfl) (by rfl) (au (by rfl)) λE hE=>(AW.sg hE rfl (iC rfl rfl λb1=>(al z.fraction rfl λb2=>(OL.nil (AW.seq (AW.block (AW.sg hE rfl ?_)))))))
 refine aG ag.Rat rfl rfl (vs:=[_,_,_]) rfl (au rfl) (cl (kz hr) rfl vL (nt rfl (ay rfl (OL.nil (AW.cond rfl (λh1=>?_) (λh1=>?_))))))
 .have h1:r.good=false:=by simpa using h1
  have hq:=am3 h1;exact AW.sg hE rfl (cl jA rfl vL (bd z.fraction pl.fraction (cs:=[_,_,_]) rfl (dA sz.fraction rfl rfl rfl rfl rfl (au rfl) (cells2:=[_,_,_]) rfl (OL.nil (AW.ret (aH.r ⟨_,.dD rfl rfl ag.fraction (au rfl) .nil,.ag (.cons (.le (aI (by rw[hq];rfl))) (.cons (.le (by rw[hq,show (0:Rat).num.natAbs=0 from rfl,dY];exact aZ.mt)) (.cons (.le (aI (by rw[hq];rfl))) (.nil))))⟩))))))
 .have h1:r.good=true:=by simpa using h1
  obtain⟨f1,f2,f3,f4⟩:=EU hr h1;refine AW.sg hE rfl (aF fd.nZ rfl rfl (ak ce.aC rfl rfl rfl (eH sl.aC rfl rfl (dm rfl rfl rfl (ay rfl (OL.nil (AW.cond rfl (λh2=>?_) (λh2=>?_))))))))
  .have h2:r.den=[]:=KZ (by have:=jC h2;omega)
   refine AW.seq (AW.dg 1 [0,1,2,3,4,5,6] aj hE rfl (by kernel_rfl) (OI.aP (os:=[_,_,_,_,_,_,_]) rfl ?_))
   refine aF fd.tV rfl rfl (ak ce.bool rfl rfl rfl (aF fd.sO rfl rfl (ak ce.aC rfl rfl rfl (cl jA rfl vL (bd z.fraction pl.fraction (cs:=[_,_,_]) rfl (dA sz.fraction rfl rfl rfl rfl rfl (au rfl) (cells2:=[_,_,_]) rfl (OL.nil ?_)))))));exact AW.ret (aH.r ⟨_,.dD rfl rfl ag.fraction (au rfl) .nil,.ag (.cons (.le (aI (congrArg (λb=>V.d (dB b)) f1))) (.cons (.le (aI (congrArg (λL=>V.d (aC L)) f2))) (.cons (.le (aI (congrArg (λd=>V.d (aC (lim d))) (f3 h2).symm))) (.nil))))⟩)
  .have h2:r.den≠[]:=λe=>by have:=kK h2;rw[e] at this;exact this rfl
   refine AW.skip (AW.sg hE rfl (aF fd.tV rfl rfl (ak ce.bool rfl rfl rfl (aF fd.sO rfl rfl (ak ce.aC rfl rfl rfl (aF fd.nZ rfl rfl (ak ce.aC rfl rfl rfl ?_)))))));refine bd z.fraction pl.fraction (cs:=[_,_,_]) rfl (dA sz.fraction rfl rfl rfl rfl rfl (au rfl) (cells2:=[_,_,_]) rfl (OL.nil ?_));exact AW.ret (aH.r ⟨_,.dD rfl rfl ag.fraction (au rfl) .nil,.ag (.cons (.le (aI (congrArg (λb=>V.d (dB b)) f1))) (.cons (.le (aI (congrArg (λL=>V.d (aC L)) f2))) (.cons (.le (aI (congrArg (λL=>V.d (aC L)) (f4 h2)))) (.nil))))⟩)
theorem Jk {s:Bool}{n d:Nat}:ai P F.jB [vFr s n d] (vFr (!s) n d):=by
 refine ai.intro fn.jB (by rfl) (by rfl) (au (by rfl)) λE hE=>(AW.sg hE rfl (iC rfl rfl λb1=>(al z.fraction rfl λb2=>(OL.nil (AW.sg hE rfl (aF fd.lY rfl rfl (ak ce.bool rfl rfl rfl ?_)))))))
 refine nt rfl (aF fd.rE rfl rfl (ak ce.limbs rfl rfl rfl (aF fd.rF rfl rfl (ak ce.limbs rfl rfl rfl (bd z.fraction pl.fraction (cs:=[_,_,_]) rfl (dA sz.fraction rfl rfl rfl rfl rfl (au rfl) (cells2:=[_,_,_]) rfl (OL.nil ?_)))))));exact AW.ret (aH.r ⟨_,.dD rfl rfl ag.fraction (au rfl) .nil,.ag (.cons (.le vR) (.cons (.le vR) (.cons (.le vR) (.nil))))⟩)
theorem Hu {s t:Bool}{a b d1 d2:Nat}(na:(lim a).length<=1099511627776)(nb:(lim b).length<=1099511627776)(n1:(lim d1).length<=1099511627776)(n2:(lim d2).length<=1099511627776):ai P F.lD [vFr s a d1,vFr t b d2] (vFr (if s=t then s else if b*d1<=a*d2 then s else t) (if s=t then a*d2+b*d1 else if b*d1<=a*d2 then a*d2-b*d1 else b*d1-a*d2) (d1*d2)):=by
 have e1:=ja a d2;have e2:=ja b d1;have e3:=ja d1 d2;refine ai.intro fn.lD (by rfl) (by rfl) (au (by rfl)) λE hE=>(AW.sg hE rfl (iC rfl rfl λb2=>(iC rfl rfl λb3=>(al z.fraction rfl λb4=>(OL.nil (AW.seq (AW.dg 1 [0,1,2,3,4,5,6,7,8,9,10,11,12,13,14,15,16,17] aj hE rfl (by kernel_rfl) (OI.aP (os:=[_,_,_,_,_,_,_,_,_,_,_,_,_,_,_,_,_,_]) rfl ?_))))))))
 refine aF fd.rE rfl rfl (ak ce.limbs rfl rfl rfl (aF fd.rF rfl rfl (ak ce.limbs rfl rfl rfl (cl (uQ (bG a) (bG d2) (by omega) (by omega)) rfl vL ?_))))
 rw[bF,bF];refine aF fd.rE rfl rfl (ak ce.limbs rfl rfl rfl (aF fd.rF rfl rfl (ak ce.limbs rfl rfl rfl (cl (uQ (bG b) (bG d1) (by omega) (by omega)) rfl vL ?_))))
 rw[bF,bF];refine aF fd.rF rfl rfl (ak ce.limbs rfl rfl rfl (aF fd.rF rfl rfl (ak ce.limbs rfl rfl rfl (cl (uQ (bG d1) (bG d2) (by omega) (by omega)) rfl vL ?_))))
 rw[bF,bF];refine ay rfl (ay rfl (ay rfl (OL.nil (AW.seq (AW.sg hE rfl (aF fd.lY rfl rfl (ak ce.bool rfl rfl rfl ?_)))))));refine aF fd.lY rfl rfl (ak ce.bool rfl rfl rfl (eqb bt.bool rfl rfl (OL.nil (AW.cond rfl (λh=>?_) (λh=>?_)))))
 .have h:s=t:=by simpa using h
  refine AW.seq (AW.dg 1 [0,1,2,3,4,5,6,7] aj hE rfl (by kernel_rfl) (OI.aP (os:=[_,_,_,_,_,_,_,_]) rfl ?_))
  refine aF fd.lY rfl rfl (ak ce.bool rfl rfl rfl (ah rfl (ah rfl (cl (XB (bG _) (bG _) (by omega) (by omega)) rfl vL ?_))))
  rw[bF,bF];exact ah rfl (bd z.fraction pl.fraction (cs:=[_,_,_]) rfl (dA sz.fraction rfl rfl rfl rfl rfl (au rfl) (cells2:=[_,_,_]) rfl (OL.nil (AW.ret (aH.r ⟨_,.dD rfl rfl ag.fraction (au rfl) .nil,.ag (.cons (.le (aI (by rw[if_pos h]))) (.cons (.le (aI (by rw[if_pos h]))) (.cons (.le vR) (.nil))))⟩)))))
 .have h:s≠t:=by simpa using h
  refine AW.skip (AW.seq (AW.sg hE rfl (ah rfl (ah rfl (cl (zB (bG _) (bG _) (by omega) (by omega)) rfl vL ?_)))))
  rw[bF,bF];refine lG rfl rfl rfl (OL.nil (AW.cond rfl (λh2=>?_) (λh2=>?_)))
  .have h2:b*d1<=a*d2:=I4 (by have:=jC h2;omega)
   refine AW.seq (AW.dg 1 [0,1,2,3,4,5,6,7] aj hE rfl (by kernel_rfl) (OI.aP (os:=[_,_,_,_,_,_,_,_]) rfl ?_))
   refine aF fd.lY rfl rfl (ak ce.bool rfl rfl rfl (ah rfl (ah rfl (cl (Bq (bG _) (bG _) (by omega) (by rw[bF,bF];exact h2)) rfl vL ?_))))
   rw[bF,bF];exact ah rfl (bd z.fraction pl.fraction (cs:=[_,_,_]) rfl (dA sz.fraction rfl rfl rfl rfl rfl (au rfl) (cells2:=[_,_,_]) rfl (OL.nil (AW.ret (aH.r ⟨_,.dD rfl rfl ag.fraction (au rfl) .nil,.ag (.cons (.le (aI (by rw[if_neg h,if_pos h2]))) (.cons (.le (aI (by rw[if_neg h,if_pos h2]))) (.cons (.le vR) (.nil))))⟩)))))
  .have h2:¬ b*d1<=a*d2:=λe=>kK h2 (Xl e);refine AW.skip (AW.seq (AW.dg 1 [0,1,2,3,4,5,6,7] aj hE rfl (by kernel_rfl) (OI.aP (os:=[_,_,_,_,_,_,_,_]) rfl ?_)))
   refine aF fd.lY rfl rfl (ak ce.bool rfl rfl rfl (ah rfl (ah rfl (cl (Bq (bG _) (bG _) (by omega) (by rw[bF,bF];omega)) rfl vL ?_))))
   rw[bF,bF];exact ah rfl (bd z.fraction pl.fraction (cs:=[_,_,_]) rfl (dA sz.fraction rfl rfl rfl rfl rfl (au rfl) (cells2:=[_,_,_]) rfl (OL.nil (AW.ret (aH.r ⟨_,.dD rfl rfl ag.fraction (au rfl) .nil,.ag (.cons (.le (aI (by rw[if_neg h,if_neg h2]))) (.cons (.le (aI (by rw[if_neg h,if_neg h2]))) (.cons (.le vR) (.nil))))⟩)))))
theorem yX {s:Bool}{n d:Nat}(nn:(lim n).length<=1099511627776)(nd:(lim d).length<=1099511627776)(hd:d≠0):ai P F.l9 [vFr s n d] (vw (eU (fr s n d))):=by
 refine ai.intro fn.l9 (by rfl) (by rfl) (au (by rfl)) λE hE=>(AW.sg hE rfl (iC rfl rfl λb1=>(al z.Rat rfl λb2=>(OL.nil (AW.seq (AW.sg hE rfl (aF fd.rE rfl rfl ?_)))))))
 refine ak ce.limbs rfl rfl rfl (eH sl.limbs rfl rfl (dm rfl rfl rfl (OL.nil (AW.cond rfl (λh=>?_) (λh=>?_)))))
 .have h:n=0:=dJ.1 (by have:=jC h;omega)
  subst h;rw[RJ,qp];exact AW.sg hE rfl (bd z.Rat pl.Rat (cs:=[_,_,_]) rfl (dA sz.Rat rfl rfl rfl rfl rfl (au rfl) (cells2:=[_,_,_]) rfl (OL.nil (AW.ret (aH.r ⟨_,.dD rfl rfl ag.Rat (au rfl) .nil,.ag (.cons (.le vR) (.cons (.le aZ.mt) (.cons (.le aZ.mt) (.nil))))⟩)))))
 .have h:n≠0:=λe=>by have:=kK h;rw[e,dY] at this;exact this rfl
  have hgp:0<Nat.gcd n d:=Nat.gcd_pos_of_pos_left d (Nat.pos_of_ne_zero h);have hgl:=sW (Nat.gcd_le_left d (Nat.pos_of_ne_zero h));have hdl:=sW (Nat.div_le_self d (Nat.gcd n d));rw[RN h hd];refine AW.skip (AW.seq (AW.dg 1 [0,1,2,3,4,5,6,7] aj hE rfl (by kernel_rfl) (OI.aP (os:=[_,_,_,_,_,_,_,_]) rfl ?_)))
  refine aF fd.rE rfl rfl (ak ce.limbs rfl rfl rfl (cl (LD (by omega)) rfl vL (aF fd.rF rfl rfl (ak ce.limbs rfl rfl rfl (cl (LD (by omega)) rfl vL (ay rfl (ay rfl ?_)))))))
  refine OL.nil ?_;refine AW.mid (α:=Unit) (λ_u=>[(1,.ptr 1 b1 0),(2,.ptr 2 b2 0),(3,.d (aC (lim (n / Nat.gcd n d)))),(4,.d (aC (lim (d / Nat.gcd n d))))]) (λ_u=>[(1,.box b1 T.fraction [.d (dB s),.d (aC (lim n)),.d (aC (lim d))]),(2,.box b2 T.Rat [.d (dB false),.mt,.mt])]) (λ_u=>True) ?_ ?_
  .refine AW.sg hE rfl (ah rfl (ah rfl (cl (Qs nn nd) rfl vL (ay rfl (OL.nil (AW.sg hE rfl (ah rfl ?_)))))));refine cl jA rfl vL (cl (zB (bG _) (bG 1) (by omega) (by have:=rO (g:=1) (by decide);omega)) rfl vL ?_)
   rw[bF,bF];refine bU rfl rfl rfl (OL.nil (AW.cond rfl (λh1=>?_) (λh1=>?_)))
   .have _h1:=h1;refine AW.sg hE rfl (ah rfl (ah rfl (cl (Ij (bG n) nn (by omega) (by omega)) rfl vL ?_)))
    rw[bF];refine BN rfl (ex rfl rfl (ex rfl rfl (ay rfl (OL.nil (AW.rg hE rfl (ah rfl (ah rfl ?_)))))));refine cl (Ij (bG d) nd (by omega) (by omega)) rfl vL ?_
    rw[bF];exact BN rfl (ex rfl rfl (ex rfl rfl (ay rfl (OL.nil (AW.reach () ⟨trivial,.CZ,.cons rfl (.cons rfl .nil)⟩)))))
   .have h1:Nat.gcd n d=1:=zh.1 (J3 h1);exact AW.skip (AW.reach () ⟨trivial,.cons vR (.cons vR (.cons (aI (by rw[h1,Nat.div_one];rfl)) (.cons (aI (by rw[h1,Nat.div_one];rfl)) .nil))),.cons rfl (.cons rfl .nil)⟩)
  rintro⟨⟩ -
  refine AW.seq (AW.sg hE rfl (ah rfl (cl jA rfl vL (cl (zB (bG _) (bG 1) (by omega) (by have:=rO (g:=1) (by decide);omega)) rfl vL ?_))))
  rw[bF,bF];refine dm rfl rfl rfl (OL.nil (AW.cond rfl (λh2=>?_) (λh2=>?_)))
  .have h2:d / Nat.gcd n d=1:=zh.1 (jC h2);refine AW.rg hE rfl (oq rfl (OL.nil (AW.sg hE rfl (aF fd.lY rfl rfl (ak ce.bool rfl rfl rfl (ah rfl (mvM rfl ?_)))))));exact bd z.Rat pl.Rat (cs:=[_,_,_]) rfl (dA sz.Rat rfl rfl rfl rfl rfl (au rfl) (cells2:=[_,_,_]) rfl (OL.nil (AW.ret (aH.r ⟨_,.dD rfl rfl ag.Rat (au rfl) .nil,.ag (.cons (.le vR) (.cons (.le vR) (.cons (.le (by rw[if_pos h2];exact aZ.mt)) (.nil))))⟩))))
  .have h2:d / Nat.gcd n d≠1:=λe=>kK h2 (zh.2 e);refine AW.skip (AW.sg hE rfl (aF fd.lY rfl rfl (ak ce.bool rfl rfl rfl (ah rfl (ah rfl (bd z.Rat pl.Rat (cs:=[_,_,_]) rfl (dA sz.Rat rfl rfl rfl rfl rfl (au rfl) (cells2:=[_,_,_]) rfl ?_)))))));exact OL.nil (AW.ret (aH.r ⟨_,.dD rfl rfl ag.Rat (au rfl) .nil,.ag (.cons (.le vR) (.cons (.le vR) (.cons (.le (aI (by rw[if_neg h2]))) (.nil))))⟩))
theorem lW {v:Int}(hv:-9223372036854775808<=v/\v<=9223372036854775807):ai P F.lW [.d (dI v)] (.jM [.d (dB (decide (v<0))),.d (aC (lim v.natAbs))]):=by
 refine ai.intro fn.lW (by rfl) (by rfl) (au (by rfl)) λE hE=>(AW.sg hE rfl (ay rfl (oq rfl (OL.nil (AW.sg hE rfl (ah rfl (cv it.int it.u64 rfl (c:=v % 18446744073709551616) (Dj _) ?_)))))))
 refine ay rfl (OL.nil (AW.mid (α:=Unit) (λ_u=>[(0,.d (dI v)),(4,.d (dU v.natAbs))]) (λ_u=>[]) (λ_u=>True) ?_ ?_))
 .refine AW.sg hE rfl (ah rfl (aN rfl rfl rfl (OL.nil (AW.cond rfl (λh=>?_) (λh=>?_)))))
  .have h:=jC h;exact AW.rg hE rfl (ah rfl (ng rfl (c:=(v.natAbs:Int)) (by rw[Dj];omega) (ay rfl (OL.nil (AW.reach () ⟨trivial,.dR,.nil⟩)))))
  .have h:=kK h;exact AW.skip (AW.reach () ⟨trivial,.cons vR (.cons (aZ.int (by omega)) .nil),.nil⟩)
 rintro⟨⟩ -
 refine AW.sg hE rfl (ah rfl (aN rfl rfl rfl (ah rfl (cv it.u64 it.u32 rfl (c:=((v.natAbs % 4294967296:Nat):Int)) (by rw[gW];omega) (ah rfl (Lh rfl rfl rfl (cv it.u64 it.u32 rfl (c:=((v.natAbs / 4294967296:Nat):Int)) (by rw[gW];omega) ?_)))))))
 refine lt2 sl.limbs (VC.d _).vd (VC.d _).vd ⟨rfl,rfl⟩ (by decide) (cl (lK (L:=[v.natAbs % 4294967296,v.natAbs / 4294967296]) (.cons (by omega) (.cons (by omega) .nil)) (by simp)) rfl vL ?_)
 rw[show val [v.natAbs % 4294967296,v.natAbs / 4294967296]=v.natAbs by simp only[jr,jq];omega]
 exact ay rfl (ay rfl (OL.nil (AW.ret (aH.r ⟨_,.tmp rfl (.tmp rfl .nil),_,.cons (.le vR) (.cons (.le vR) .nil),rfl⟩))))
theorem nS {n d:Int}(hn:-9223372036854775808<=n/\n<=9223372036854775807)(hd:-9223372036854775808<=d/\d<=9223372036854775807)(h0:d≠0):ai P F.nS [.d (dI n),.d (dI d)] (.jM [vw (eU ((n:Rat) / (d:Rat))),.d (dI 0)]):=by
 have e1:(lim n.natAbs).length<=2:=fK (by show n.natAbs<18446744073709551616;omega)
 have e2:(lim d.natAbs).length<=2:=fK (by show d.natAbs<18446744073709551616;omega)
 refine ai.intro fn.nS (by rfl) (by rfl) (au (by rfl)) λE hE=>(AW.sg hE rfl (al z.Rat rfl λb4=>(ay rfl (OL.nil (AW.seq (AW.sg hE rfl (ah rfl ?_)))))))
 refine dm rfl rfl rfl (OL.nil (AW.cond rfl (λhno=>absurd hno (by simpa using h0)) (λ_=>?_)))
 refine AW.skip (AW.sg hE rfl (ah rfl (cl (lW hn) rfl vL (BN rfl (ex rfl rfl (ex rfl rfl (ay rfl ?_)))))));refine ay rfl (OL.nil (AW.sg hE rfl (ah rfl (cl (lW hd) rfl vL (BN rfl (ex rfl rfl (ex rfl rfl ?_)))))));refine ay rfl (ay rfl (OL.nil (AW.sg hE rfl (ah rfl (ah rfl (neb bt.bool rfl rfl (ah rfl ?_)))))));refine ah rfl (bd z.fraction pl.fraction (cs:=[_,_,_]) rfl (cl (yX (by omega) (by omega) (by omega)) rfl vL ?_))
 rw[show (!(decide (n<0) == decide (d<0)))=(decide (n<0) != decide (d<0)) from rfl,Xq]
 exact dA sz.Rat rfl rfl rfl rfl rfl (au rfl) (cells2:=[_,_,_]) rfl (ay rfl (OL.nil (AW.ret (aH.r ⟨_,.dD rfl rfl ag.Rat (au rfl) (.tmp rfl .nil),[_,_],.cons (.ag (.cons (.le vR) (.cons (.le vR) (.cons (.le vR) (.nil))))) (.cons (.le vR) .nil),rfl⟩))))
theorem pW {x y:Raw}(hx:x.Ok)(hy:y.Ok):ai P F.pW [vw x,vw y] (vw (eU (x.q+y.q))):=by
 have a1:=I9 hx hx.ln hx.ld (by decide)
 have a2:=I9 hy hy.ln hy.ld (by decide)
 have sn1:=oK x.q;have sn2:=oK y.q;have sd1:=oL x.q;have sd2:=oL y.q;have sdd:=ja x.q.den y.q.den;refine ai.intro fn.pW (by rfl) (by rfl) (au (by rfl)) λE hE=>(AW.sg hE rfl (iC rfl rfl λb2=>(iC rfl rfl λb3=>(al z.Rat rfl λb4=>(OL.nil (AW.seq (AW.dg 1 [0,1,2,3,4,5,6] aj hE rfl (by kernel_rfl) (OI.aP (os:=[_,_,_,_,_,_,_]) rfl ?_))))))))
 refine aG ag.Rat rfl rfl (vs:=[_,_,_]) rfl (au rfl) (cl (jF hx) rfl vL (aG ag.Rat rfl rfl (vs:=[_,_,_]) rfl (au rfl) (cl (jF hy) rfl vL (cl (Hu (by omega) (by omega) (by omega) (by omega)) rfl vL (cl (yX (Nat.le_trans (I8 sn1 sn2 sd1 sd2) (by omega)) (by omega) (Nat.mul_ne_zero x.q.den_nz y.q.den_nz)) rfl vL ?_)))))
 rw[MG x.q.den_nz y.q.den_nz,qP,qP];exact dA sz.Rat rfl rfl rfl rfl rfl (au rfl) (cells2:=[_,_,_]) rfl (OL.nil (AW.ret (aH.r ⟨_,.dD rfl rfl ag.Rat (au rfl) .nil,.ag (.cons (.le vR) (.cons (.le vR) (.cons (.le vR) (.nil))))⟩)))
theorem sG {x y:Raw}(hx:x.Ok)(hy:y.Ok):ai P F.sG [vw x,vw y] (vw (eU (x.q-y.q))):=by
 have a1:=I9 hx hx.ln hx.ld (by decide)
 have a2:=I9 hy hy.ln hy.ld (by decide)
 have sn1:=oK x.q;have sn2:=oK y.q;have sd1:=oL x.q;have sd2:=oL y.q;have sdd:=ja x.q.den y.q.den;have snn:=ja x.q.num.natAbs y.q.num.natAbs;have snd:=ja x.q.num.natAbs y.q.den;have sdn:=ja x.q.den y.q.num.natAbs;refine ai.intro fn.sG (by rfl) (by rfl) (au (by rfl)) λE hE=>(AW.sg hE rfl (iC rfl rfl λb2=>(iC rfl rfl λb3=>(al z.Rat rfl λb4=>(OL.nil (AW.seq (AW.dg 1 [0,1,2,3,4,5,6,7] aj hE rfl (by kernel_rfl) (OI.aP (os:=[_,_,_,_,_,_,_,_]) rfl ?_))))))))
 refine aG ag.Rat rfl rfl (vs:=[_,_,_]) rfl (au rfl) (cl (jF hx) rfl vL (aG ag.Rat rfl rfl (vs:=[_,_,_]) rfl (au rfl) (cl (jF hy) rfl vL (cl Jk rfl vL (cl (Hu (by omega) (by omega) (by omega) (by omega)) rfl vL (cl (yX (Nat.le_trans (I8 sn1 sn2 sd1 sd2) (by omega)) (by omega) (Nat.mul_ne_zero x.q.den_nz y.q.den_nz)) rfl vL ?_))))))
 rw[MG x.q.den_nz y.q.den_nz,<- aO4,qP,qP,<- Rat.sub_eq_add_neg];exact dA sz.Rat rfl rfl rfl rfl rfl (au rfl) (cells2:=[_,_,_]) rfl (OL.nil (AW.ret (aH.r ⟨_,.dD rfl rfl ag.Rat (au rfl) .nil,.ag (.cons (.le vR) (.cons (.le vR) (.cons (.le vR) (.nil))))⟩)))
theorem pV {x y:Raw}(hx:x.Ok)(hy:y.Ok):ai P F.pV [vw x,vw y] (vw (eU (x.q*y.q))):=by
 have a1:=I9 hx hx.ln hx.ld (by decide)
 have a2:=I9 hy hy.ln hy.ld (by decide)
 have sn1:=oK x.q;have sn2:=oK y.q;have sd1:=oL x.q;have sd2:=oL y.q;have sdd:=ja x.q.den y.q.den;have snn:=ja x.q.num.natAbs y.q.num.natAbs;have snd:=ja x.q.num.natAbs y.q.den;have sdn:=ja x.q.den y.q.num.natAbs;refine ai.intro fn.pV (by rfl) (by rfl) (au (by rfl)) λE hE=>(AW.sg hE rfl (iC rfl rfl λb2=>(iC rfl rfl λb3=>(al z.Rat rfl λb4=>(OL.nil (AW.seq (AW.dg 1 [0,1,2,3,4,5,6,7] aj hE rfl (by kernel_rfl) (OI.aP (os:=[_,_,_,_,_,_,_,_]) rfl ?_))))))))
 refine aG ag.Rat rfl rfl (vs:=[_,_,_]) rfl (au rfl) (cl (jF hx) rfl vL (aG ag.Rat rfl rfl (vs:=[_,_,_]) rfl (au rfl) (cl (jF hy) rfl vL (al z.fraction rfl λb5=>(al z.fraction rfl λb6=>(dA sz.fraction rfl rfl rfl rfl rfl (au rfl) (cells2:=[_,_,_]) rfl (dA sz.fraction rfl rfl rfl rfl rfl (au rfl) (cells2:=[_,_,_]) rfl ?_)))))));refine OL.nil (AW.seq (AW.dg 1 [0,1,2,3,4,5,6,7,8,9,10,11,12,13,14,15,16,17] aj hE rfl (by kernel_rfl) (OI.aP (os:=[_,_,_,_,_,_,_,_,_,_,_,_,_,_,_,_,_,_]) rfl ?_)))
 refine aF fd.lY rfl rfl (ak ce.bool rfl rfl rfl (aF fd.lY rfl rfl (ak ce.bool rfl rfl rfl (neb bt.bool rfl rfl (aF fd.rE rfl rfl (ak ce.limbs rfl rfl rfl (aF fd.rE rfl rfl ?_)))))));refine ak ce.limbs rfl rfl rfl (cl (uQ (bG _) (bG _) (by omega) (by omega)) rfl vL ?_)
 rw[bF,bF];refine aF fd.rF rfl rfl (ak ce.limbs rfl rfl rfl (aF fd.rF rfl rfl (ak ce.limbs rfl rfl rfl (cl (uQ (bG _) (bG _) (by omega) (by omega)) rfl vL ?_))))
 rw[bF,bF];refine bd z.fraction pl.fraction (cs:=[_,_,_]) rfl (cl (yX (by omega) (by omega) (Nat.mul_ne_zero x.q.den_nz y.q.den_nz)) rfl vL ?_)
 rw[show ∀ p q:Bool,(!(p == q))=(p != q) from λ_ _=>rfl,<- RP,qP,qP]
 exact dA sz.Rat rfl rfl rfl rfl rfl (au rfl) (cells2:=[_,_,_]) rfl (OL.nil (AW.ret (aH.r ⟨_,.dD rfl rfl ag.Rat (au rfl) .nil,.ag (.cons (.le vR) (.cons (.le vR) (.cons (.le vR) (.nil))))⟩)))
theorem lH {x:Raw}(hx:x.Ok):ai P F.lH [vw x] (.d (dI (yN x.q))):=by
 have a1:=I9 hx hx.ln hx.ld (by decide)
 have sn1:=oK x.q;refine ai.intro fn.lH (by rfl) (by rfl) (au (by rfl)) λE hE=>(AW.sg hE rfl (iC rfl rfl λb1=>(ay rfl (OL.nil (AW.seq (AW.sg hE rfl (aG ag.Rat rfl rfl (vs:=[_,_,_]) rfl (au rfl) ?_)))))))
 refine cl (jF hx) rfl vL (al z.fraction rfl λb3=>(dA sz.fraction rfl rfl rfl rfl rfl (au rfl) (cells2:=[_,_,_]) rfl (OL.nil (AW.block (AW.sg hE rfl (aF fd.rE rfl rfl (ak ce.limbs rfl rfl rfl ?_)))))));refine eH sl.limbs rfl rfl (dm rfl rfl rfl (ay rfl (OL.nil (AW.cond rfl (λh=>?_) (λh=>?_)))))
 .have h:x.q.num=0:=by have:=dJ.1 (show (lim x.q.num.natAbs).length=0 by have:=jC h;omega);omega
  exact AW.sg hE rfl (ay rfl (OL.nil (AW.ret (aH.r ⟨_,.tmp rfl .nil,.le (aZ.int ((Ll.2 h).symm))⟩))))
 .have h:x.q.num≠0:=λe=>by have:=kK h;rw[e,show (0:Int).natAbs=0 from rfl,dY] at this;exact this rfl
  refine AW.sg hE rfl (aF fd.lY rfl rfl (ak ce.bool rfl rfl rfl (ay rfl (OL.nil (AW.cond rfl (λh2=>?_) (λh2=>?_))))))
  .have h2:=jC h2;exact AW.sg hE rfl (ay rfl (OL.nil (AW.ret (aH.r ⟨_,.tmp rfl .nil,.le (aZ.int ((Dn.2 h2).symm))⟩))))
  .have h2:=kK h2;exact AW.skip (AW.sg hE rfl (ay rfl (OL.nil (AW.ret (aH.r ⟨_,.tmp rfl .nil,.le (aZ.int (by unfold yN;rw[if_neg h2,if_neg h]))⟩)))))
theorem jO {x y:Raw}(hx:x.Sm)(hy:y.Sm):ai P F.jO [vw x,vw y] (.d (dI (NE x.q y.q))):=by
 have a1:=hx.q;have a2:=hy.q;have a3:=Xp x.q y.q;refine ai.intro fn.jO (by rfl) (by rfl) (au (by rfl)) λE hE=>(AW.sg hE rfl (iC rfl rfl λb2=>(iC rfl rfl λb3=>(ay rfl (OL.nil (AW.sg hE rfl (aG ag.Rat rfl rfl (vs:=[_,_,_]) rfl (au rfl) ?_)))))))
 refine aG ag.Rat rfl rfl (vs:=[_,_,_]) rfl (au rfl) (cl (sG hx.ok hy.ok) rfl vL (cl (lH (qQ (by omega))) rfl vL ?_))
 rw[uM];exact ay rfl (OL.nil (AW.ret (aH.r ⟨_,.tmp rfl .nil,.le vR⟩)))

/-
  Walks of package rational, part 5: sums, products, comparisons (printed by mk.py).
-/
import Derived.Test.YteiohkpjgcioaaaGreatDoorKLimbsC
import Derived.Test.YteiohkpjgcioaaaGreatDoorKNuma
set_option linter.unusedVariables false
set_option linter.unusedSimpArgs false
namespace Go.Proofs.YteiohkpjgcioaaaGreatDoor
open Go Go.AL
theorem rational_one  : FSpec P F.rational_one [] (.d (u32s (lim 1))):=by
 refine FSpec.intro fn.rational_one (by rfl) (by rfl) (nb9 (by rfl)) fun E hE=>?_
 refine AW.sg hE rfl ?_
 refine asM rfl ?_
 refine OL.nil ?_
 refine AW.sg hE rfl ?_
 refine lt1 (y:=d32 1) sl.limbs (VC.d _).vd rfl (by decide) ?_
 refine asD rfl ?_
 exact OL.nil (AW.ret (RetQ.r ⟨_,.tmp rfl .nil,.le (vle_of_eq (by rw [lim_small (by decide) (by decide)];rfl))⟩))
theorem rational_proper {L:List Nat}(nL:L.length≤8796093022208):FSpec P F.rational_proper [.d (u32s L)] (.d (dB (canon L))):=by
 refine FSpec.intro fn.rational_proper (by rfl) (by rfl) (nb9 (by rfl)) fun E hE=>(AW.sg hE rfl (asD rfl (OL.nil (AW.sg hE rfl (mvD rfl (lnL sl.u32s rfl rfl (c_eql rfl rfl rfl ?_)))))))
 refine OL.split 5 rfl (fun h=>?_) (fun h=>?_)
 ·have h:=dt9 h
  refine mvD rfl (OL.nd rfl (OL.nd rfl (OL.nd rfl (OL.nd rfl (OL.nd rfl (OL.nd rfl (OL.nd rfl ?_)))))))
  exact pkT rfl rfl (asD rfl (OL.nil (AW.ret (RetQ.r ⟨_,.tmp rfl .nil,.le (VLe.bool (by rw [en9 (l:=L) (by omega)];rfl))⟩))))
 ·have h:=df9 h
  refine mvD rfl (OL.yes rfl (mvD rfl (OL.yes rfl (mvD rfl (OL.yes rfl (lnL sl.u32s rfl rfl (OL.yes rfl ?_)))))))
  refine sub_i64 rfl rfl (by omega) (OL.yes rfl (ixL sl.u32s 0 rfl rfl (by omega) (by omega) rfl rfl (OL.yes rfl (ldRC ce.u32 rfl (OL.yes rfl (c_neq rfl rfl rfl (pkF rfl rfl ?_)))))))
  exact asD rfl (OL.nil (AW.ret (RetQ.r ⟨_,.tmp rfl .nil,.le (VLe.bool (canon_last (by omega)))⟩)))
theorem clone_limbs {L:List Nat}(nL:L.length≤8796093022208):FSpec P F.slices_Clone_rational_limbs_uint32 [.d (u32s L)] (.d (u32s L)):=by
 refine FSpec.intro fn.slices_Clone_rational_limbs_uint32 (by rfl) (by rfl) (nb9 (by rfl)) fun E hE=>(AW.sg hE rfl (asM rfl (OL.nil (AW.seq (AW.sg hE rfl (mvD rfl (isNil sl.limbs.u rfl (fun y hy=>by obtain ⟨a,_,rfl⟩:=mm9 hy;exact Nat.one_pos) rfl fun b hb=>?_)))))))
 refine OL.nil (AW.cond rfl (fun h=>?_) (fun h=>?_))
 ·have hL:L=[]:=by have:=hb h;simpa using this
  exact AW.sg hE rfl (asM rfl (OL.nil (AW.ret (RetQ.r ⟨_,.tmp rfl .nil,.le (hL ▸ VLe.mt)⟩))))
 ·have _h:=h
  exact AW.skip (AW.sg hE rfl (lt0 sl.limbs (mvD rfl (apMD sl.limbs rfl rfl (VC.d _) (fun y hy=>by obtain ⟨a,_,rfl⟩:=mm9 hy;rfl) (by simp;omega) (by simp;omega) (asD rfl (OL.nil (AW.ret (RetQ.r ⟨_,.tmp rfl .nil,.le vR⟩))))))))
theorem clone_u32s {L:List Nat}(nL:L.length≤8796093022208):FSpec P F.slices_Clone_uint32s_uint32 [.d (u32s L)] (.d (u32s L)):=by
 refine FSpec.intro fn.slices_Clone_uint32s_uint32 (by rfl) (by rfl) (nb9 (by rfl)) fun E hE=>(AW.sg hE rfl (asM rfl (OL.nil (AW.seq (AW.sg hE rfl (mvD rfl (isNil sl.u32s.u rfl (fun y hy=>by obtain ⟨a,_,rfl⟩:=mm9 hy;exact Nat.one_pos) rfl fun b hb=>?_)))))))
 refine OL.nil (AW.cond rfl (fun h=>?_) (fun h=>?_))
 ·have hL:L=[]:=by have:=hb h;simpa using this
  exact AW.sg hE rfl (asM rfl (OL.nil (AW.ret (RetQ.r ⟨_,.tmp rfl .nil,.le (hL ▸ VLe.mt)⟩))))
 ·have _h:=h
  exact AW.skip (AW.sg hE rfl (lt0 sl.u32s (mvD rfl (apMD sl.u32s rfl rfl (VC.d _) (fun y hy=>by obtain ⟨a,_,rfl⟩:=mm9 hy;rfl) (by simp;omega) (by simp;omega) (asD rfl (OL.nil (AW.ret (RetQ.r ⟨_,.tmp rfl .nil,.le vR⟩))))))))
theorem rational_Valid {r:Raw}(hr:r.Ok):FSpec P F.rational_Valid [vRaw r] (.d (dB r.good)):=by
 have n1:=hr.ln
 have n2:=hr.ld
 refine FSpec.intro fn.rational_Valid (by rfl) (by rfl) (nb9 (by rfl)) fun E hE=>(AW.sg hE rfl (bxA rfl rfl fun b1=>(asD rfl (OL.nil (AW.seq (AW.block (AW.sg hE rfl ?_)))))))
 refine faP fd.Rat_1 rfl rfl (ldPC ce.u32s rfl rfl rfl (cl (rational_proper (by omega)) rfl vL (nt rfl (OL.split 7 rfl (fun h1=>?_) (fun h1=>?_)))))
 ·have h1:canon r.num=false:=by simpa using h1
  refine mvD rfl (OL.nd rfl (OL.nd rfl (OL.nd rfl (OL.nd rfl (pkT rfl rfl (asD rfl (OL.nil ?_)))))))
  refine cnT rfl ?_
  exact AW.sg hE rfl (asD rfl (OL.nil (AW.ret (RetQ.r ⟨_,.tmp rfl .nil,.le (VLe.bool (by simp [Raw.good,h1]))⟩))))
 ·have h1:canon r.num=true:=by simpa using h1
  refine mvD rfl (OL.yes rfl (faP fd.Rat_2 rfl rfl (OL.yes rfl (ldPC ce.u32s rfl rfl rfl (OL.yes rfl (cl (rational_proper (by omega)) rfl vL (OL.yes rfl ?_)))))))
  refine nt rfl (pkF rfl rfl (asD rfl (OL.nil (AW.cond rfl (fun h2=>?_) (fun h2=>?_)))))
  ·have h2:canon r.den=false:=by simpa using h2
   exact AW.sg hE rfl (asD rfl (OL.nil (AW.ret (RetQ.r ⟨_,.tmp rfl .nil,.le (VLe.bool (by simp [Raw.good,h2]))⟩))))
  ·have h2:canon r.den=true:=by simpa using h2
   have hL:=canon_eq hr.num h1
   have hD:=canon_eq hr.den h2
   refine AW.sg hE rfl (faP fd.Rat_1 rfl rfl (ldPC ce.u32s rfl rfl rfl (lnL sl.u32s rfl rfl (c_eql rfl rfl rfl (asD rfl (OL.nil (AW.cond rfl (fun h3=>?_) (fun h3=>?_))))))))
   ·have h3:r.num=[]:=en9 (by have:=dt9 h3;omega)
    refine AW.sg hE rfl (faP fd.Rat_0 rfl rfl (ldPC ce.bool rfl rfl rfl (nt rfl (OL.split 21 rfl (fun h4=>?_) (fun h4=>?_)))))
    ·have h4:r.neg=false:=by simpa using h4
     refine mvD rfl (OL.yes rfl (faP fd.Rat_2 rfl rfl (OL.yes rfl (ldPC ce.u32s rfl rfl rfl (OL.yes rfl (lnL sl.u32s rfl rfl (OL.yes rfl ?_)))))))
     exact c_eql rfl rfl rfl (pkT rfl rfl (asD rfl (OL.nil (AW.ret (RetQ.r ⟨_,.tmp rfl .nil,.le (VLe.bool (by rw [show r.good=decide (r.den=[]) by simp [Raw.good,canon_nil,h2,h3,h4]];exact decide_eq_decide.2 (by rw [← List.length_eq_zero_iff];omega)))⟩)))))
    ·have h4:r.neg=true:=by simpa using h4
     refine mvD rfl (OL.nd rfl (OL.nd rfl (OL.nd rfl (OL.nd rfl (pkF rfl rfl (asD rfl (OL.nil ?_)))))))
     exact AW.ret (RetQ.r ⟨_,.tmp rfl .nil,.le (VLe.bool (by simp [Raw.good,h3,h4]))⟩)
   ·have h3:r.num≠[]:=fun e=>by have:=df9 h3;rw [e] at this;exact this rfl
    refine AW.sg hE rfl (faP fd.Rat_2 rfl rfl (ldPC ce.u32s rfl rfl rfl (lnL sl.u32s rfl rfl (c_eql rfl rfl rfl (asD rfl (OL.nil (AW.cond rfl (fun h5=>?_) (fun h5=>?_))))))))
    ·have h5:r.den=[]:=en9 (by have:=dt9 h5;omega)
     exact AW.sg hE rfl (asD rfl (OL.nil (AW.ret (RetQ.r ⟨_,.tmp rfl .nil,.le (VLe.bool (by simp [Raw.good,canon_nil,h1,h3,h5]))⟩))))
    ·have h5:r.den≠[]:=fun e=>by have:=df9 h5;rw [e] at this;exact this rfl
     have hn0:val r.num≠0:=fun e=>h3 (by rw [← hL,e,lim_zero])
     have hgl:=len_le (Nat.gcd_le_left (val r.den) (Nat.pos_of_ne_zero hn0))
     rw [hL] at hgl
     refine AW.skip (AW.seq (AW.dg 1 [0,1,2,3,4,5,6,7,8,9,10,11,12,13,14,15] order_free hE rfl (by kernel_rfl) (OI.of_OL (os:=[_,_,_,_,_,_,_,_,_,_,_,_,_,_,_,_]) rfl ?_)))
     refine faP fd.Rat_2 rfl rfl (ldPC ce.u32s rfl rfl rfl (cl rational_one rfl vL (cl (limbs_cmp hr.den (lim_Lim 1) (by omega) (by have:=len_small (g:=1) (by decide);omega)) rfl vL ?_)))
     rw [val_lim]
     refine c_neq rfl rfl rfl (OL.split 37 rfl (fun h6=>?_) (fun h6=>?_))
     ·have h6:val r.den≠1:=fun e=>nd_t h6 (cmpN_zero.2 e)
      refine mvD rfl (OL.yes rfl (faP fd.Rat_1 rfl rfl (OL.yes rfl (ldPC ce.u32s rfl rfl rfl (OL.yes rfl (faP fd.Rat_2 rfl rfl (OL.yes rfl ?_)))))))
      refine ldPC ce.u32s rfl rfl rfl (OL.yes rfl (cl (limbs_gcd (a:=val r.num) (b:=val r.den) (by rw [hL];omega) (by rw [hD];omega)) rfl (by rw [hL,hD];exact VLes.refl _) (OL.yes rfl (cl rational_one rfl vL (OL.yes rfl (cl (limbs_cmp (lim_Lim _) (lim_Lim 1) (by omega) (by have:=len_small (g:=1) (by decide);omega)) rfl vL ?_))))))
      rw [val_lim,val_lim]
      exact OL.yes rfl (c_eql rfl rfl rfl (pkT rfl rfl (asD rfl (OL.nil (AW.ret (RetQ.r ⟨_,.tmp rfl .nil,.le (VLe.bool (by simp [Raw.good,h1,h2,h3,h5,h6,cmpN_zero]))⟩))))))
     ·have h6:val r.den=1:=cmpN_zero.1 (nd_f h6)
      refine mvD rfl (OL.nd rfl (OL.nd rfl (OL.nd rfl (OL.nd rfl (OL.nd rfl (OL.nd rfl (OL.nd rfl ?_)))))))
      exact OL.nd rfl (pkF rfl rfl (asD rfl (OL.nil (AW.ret (RetQ.r ⟨_,.tmp rfl .nil,.le (VLe.bool (by simp [Raw.good,h3,h5,h6]))⟩)))))
theorem rational_of {r:Raw}(hr:r.Ok):FSpec P F.rational_of [vRaw r] (qFr r.q):=by
 have n1:=hr.ln
 have n2:=hr.ld
 refine FSpec.intro fn.rational_of (by rfl) (by rfl) (nb9 (by rfl)) fun E hE=>(AW.sg hE rfl (bxA rfl rfl fun b1=>(al z.fraction rfl fun b2=>(OL.nil (AW.seq (AW.block (AW.sg hE rfl ?_)))))))
 refine ldPA ag.Rat rfl rfl (vs:=[_,_,_]) rfl (nb9 rfl) (cl (rational_Valid hr) rfl vL (nt rfl (asD rfl (OL.nil (AW.cond rfl (fun h1=>?_) (fun h1=>?_))))))
 ·have h1:r.good=false:=by simpa using h1
  have hq:=q_bad h1
  exact AW.sg hE rfl (cl rational_one rfl vL (bd z.fraction pl.fraction (cs:=[_,_,_]) rfl (sto sz.fraction rfl rfl rfl rfl rfl (nb9 rfl) (cells2:=[_,_,_]) rfl (OL.nil (AW.ret (RetQ.r ⟨_,.cellA rfl rfl ag.fraction (nb9 rfl) .nil,.ag (.cons (.le (vle_of_eq (by rw [hq];rfl))) (.cons (.le (by rw [hq,show (0:Rat).num.natAbs=0 from rfl,lim_zero];exact VLe.mt)) (.cons (.le (vle_of_eq (by rw [hq];rfl))) (.nil))))⟩))))))
 ·have h1:r.good=true:=by simpa using h1
  obtain ⟨f1,f2,f3,f4⟩:=good_fields hr h1
  refine AW.sg hE rfl (faP fd.Rat_2 rfl rfl (ldPC ce.u32s rfl rfl rfl (lnL sl.u32s rfl rfl (c_eql rfl rfl rfl (asD rfl (OL.nil (AW.cond rfl (fun h2=>?_) (fun h2=>?_))))))))
  ·have h2:r.den=[]:=en9 (by have:=dt9 h2;omega)
   refine AW.seq (AW.dg 1 [0,1,2,3,4,5,6] order_free hE rfl (by kernel_rfl) (OI.of_OL (os:=[_,_,_,_,_,_,_]) rfl ?_))
   refine faP fd.Rat_0 rfl rfl (ldPC ce.bool rfl rfl rfl (faP fd.Rat_1 rfl rfl (ldPC ce.u32s rfl rfl rfl (cl rational_one rfl vL (bd z.fraction pl.fraction (cs:=[_,_,_]) rfl (sto sz.fraction rfl rfl rfl rfl rfl (nb9 rfl) (cells2:=[_,_,_]) rfl (OL.nil ?_)))))))
   exact AW.ret (RetQ.r ⟨_,.cellA rfl rfl ag.fraction (nb9 rfl) .nil,.ag (.cons (.le (vle_of_eq (congrArg (fun b=>V.d (dB b)) f1))) (.cons (.le (vle_of_eq (congrArg (fun L=>V.d (u32s L)) f2))) (.cons (.le (vle_of_eq (congrArg (fun d=>V.d (u32s (lim d))) (f3 h2).symm))) (.nil))))⟩)
  ·have h2:r.den≠[]:=fun e=>by have:=df9 h2;rw [e] at this;exact this rfl
   refine AW.skip (AW.sg hE rfl (faP fd.Rat_0 rfl rfl (ldPC ce.bool rfl rfl rfl (faP fd.Rat_1 rfl rfl (ldPC ce.u32s rfl rfl rfl (faP fd.Rat_2 rfl rfl (ldPC ce.u32s rfl rfl rfl ?_)))))))
   refine bd z.fraction pl.fraction (cs:=[_,_,_]) rfl (sto sz.fraction rfl rfl rfl rfl rfl (nb9 rfl) (cells2:=[_,_,_]) rfl (OL.nil ?_))
   exact AW.ret (RetQ.r ⟨_,.cellA rfl rfl ag.fraction (nb9 rfl) .nil,.ag (.cons (.le (vle_of_eq (congrArg (fun b=>V.d (dB b)) f1))) (.cons (.le (vle_of_eq (congrArg (fun L=>V.d (u32s L)) f2))) (.cons (.le (vle_of_eq (congrArg (fun L=>V.d (u32s L)) (f4 h2)))) (.nil))))⟩)
theorem fraction_negative {s:Bool}{n d:Nat}:FSpec P F.rational_fraction_negative [vFr s n d] (vFr (!s) n d):=by
 refine FSpec.intro fn.rational_fraction_negative (by rfl) (by rfl) (nb9 (by rfl)) fun E hE=>(AW.sg hE rfl (bxA rfl rfl fun b1=>(al z.fraction rfl fun b2=>(OL.nil (AW.sg hE rfl (faP fd.fraction_0 rfl rfl (ldPC ce.bool rfl rfl rfl ?_)))))))
 refine nt rfl (faP fd.fraction_1 rfl rfl (ldPC ce.limbs rfl rfl rfl (faP fd.fraction_2 rfl rfl (ldPC ce.limbs rfl rfl rfl (bd z.fraction pl.fraction (cs:=[_,_,_]) rfl (sto sz.fraction rfl rfl rfl rfl rfl (nb9 rfl) (cells2:=[_,_,_]) rfl (OL.nil ?_)))))))
 exact AW.ret (RetQ.r ⟨_,.cellA rfl rfl ag.fraction (nb9 rfl) .nil,.ag (.cons (.le vR) (.cons (.le vR) (.cons (.le vR) (.nil))))⟩)
theorem fraction_plus {s t:Bool}{a b d1 d2:Nat}(na:(lim a).length≤1099511627776)(nb:(lim b).length≤1099511627776)(n1:(lim d1).length≤1099511627776)(n2:(lim d2).length≤1099511627776):FSpec P F.rational_fraction_plus [vFr s a d1,vFr t b d2] (vFr (if s=t then s else if b*d1≤a*d2 then s else t) (if s=t then a*d2+b*d1 else if b*d1≤a*d2 then a*d2-b*d1 else b*d1-a*d2) (d1*d2)):=by
 have e1:=len_mul a d2
 have e2:=len_mul b d1
 have e3:=len_mul d1 d2
 refine FSpec.intro fn.rational_fraction_plus (by rfl) (by rfl) (nb9 (by rfl)) fun E hE=>(AW.sg hE rfl (bxA rfl rfl fun b2=>(bxA rfl rfl fun b3=>(al z.fraction rfl fun b4=>(OL.nil (AW.seq (AW.dg 1 [0,1,2,3,4,5,6,7,8,9,10,11,12,13,14,15,16,17] order_free hE rfl (by kernel_rfl) (OI.of_OL (os:=[_,_,_,_,_,_,_,_,_,_,_,_,_,_,_,_,_,_]) rfl ?_))))))))
 refine faP fd.fraction_1 rfl rfl (ldPC ce.limbs rfl rfl rfl (faP fd.fraction_2 rfl rfl (ldPC ce.limbs rfl rfl rfl (cl (limbs_times (lim_Lim a) (lim_Lim d2) (by omega) (by omega)) rfl vL ?_))))
 rw [val_lim,val_lim]
 refine faP fd.fraction_1 rfl rfl (ldPC ce.limbs rfl rfl rfl (faP fd.fraction_2 rfl rfl (ldPC ce.limbs rfl rfl rfl (cl (limbs_times (lim_Lim b) (lim_Lim d1) (by omega) (by omega)) rfl vL ?_))))
 rw [val_lim,val_lim]
 refine faP fd.fraction_2 rfl rfl (ldPC ce.limbs rfl rfl rfl (faP fd.fraction_2 rfl rfl (ldPC ce.limbs rfl rfl rfl (cl (limbs_times (lim_Lim d1) (lim_Lim d2) (by omega) (by omega)) rfl vL ?_))))
 rw [val_lim,val_lim]
 refine asD rfl (asD rfl (asD rfl (OL.nil (AW.seq (AW.sg hE rfl (faP fd.fraction_0 rfl rfl (ldPC ce.bool rfl rfl rfl ?_)))))))
 refine faP fd.fraction_0 rfl rfl (ldPC ce.bool rfl rfl rfl (eqb bt.bool rfl rfl (OL.nil (AW.cond rfl (fun h=>?_) (fun h=>?_)))))
 ·have h:s=t:=by simpa using h
  refine AW.seq (AW.dg 1 [0,1,2,3,4,5,6,7] order_free hE rfl (by kernel_rfl) (OI.of_OL (os:=[_,_,_,_,_,_,_,_]) rfl ?_))
  refine faP fd.fraction_0 rfl rfl (ldPC ce.bool rfl rfl rfl (mvD rfl (mvD rfl (cl (limbs_plus (lim_Lim _) (lim_Lim _) (by omega) (by omega)) rfl vL ?_))))
  rw [val_lim,val_lim]
  exact mvD rfl (bd z.fraction pl.fraction (cs:=[_,_,_]) rfl (sto sz.fraction rfl rfl rfl rfl rfl (nb9 rfl) (cells2:=[_,_,_]) rfl (OL.nil (AW.ret (RetQ.r ⟨_,.cellA rfl rfl ag.fraction (nb9 rfl) .nil,.ag (.cons (.le (vle_of_eq (by rw [if_pos h]))) (.cons (.le (vle_of_eq (by rw [if_pos h]))) (.cons (.le vR) (.nil))))⟩)))))
 ·have h:s≠t:=by simpa using h
  refine AW.skip (AW.seq (AW.sg hE rfl (mvD rfl (mvD rfl (cl (limbs_cmp (lim_Lim _) (lim_Lim _) (by omega) (by omega)) rfl vL ?_)))))
  rw [val_lim,val_lim]
  refine c_geq rfl rfl rfl (OL.nil (AW.cond rfl (fun h2=>?_) (fun h2=>?_)))
  ·have h2:b*d1≤a*d2:=cmp_nneg (by have:=dt9 h2;omega)
   refine AW.seq (AW.dg 1 [0,1,2,3,4,5,6,7] order_free hE rfl (by kernel_rfl) (OI.of_OL (os:=[_,_,_,_,_,_,_,_]) rfl ?_))
   refine faP fd.fraction_0 rfl rfl (ldPC ce.bool rfl rfl rfl (mvD rfl (mvD rfl (cl (limbs_minus (lim_Lim _) (lim_Lim _) (by omega) (by rw [val_lim,val_lim];exact h2)) rfl vL ?_))))
   rw [val_lim,val_lim]
   exact mvD rfl (bd z.fraction pl.fraction (cs:=[_,_,_]) rfl (sto sz.fraction rfl rfl rfl rfl rfl (nb9 rfl) (cells2:=[_,_,_]) rfl (OL.nil (AW.ret (RetQ.r ⟨_,.cellA rfl rfl ag.fraction (nb9 rfl) .nil,.ag (.cons (.le (vle_of_eq (by rw [if_neg h,if_pos h2]))) (.cons (.le (vle_of_eq (by rw [if_neg h,if_pos h2]))) (.cons (.le vR) (.nil))))⟩)))))
  ·have h2:¬ b*d1≤a*d2:=fun e=>df9 h2 (cmp_ge e)
   refine AW.skip (AW.seq (AW.dg 1 [0,1,2,3,4,5,6,7] order_free hE rfl (by kernel_rfl) (OI.of_OL (os:=[_,_,_,_,_,_,_,_]) rfl ?_)))
   refine faP fd.fraction_0 rfl rfl (ldPC ce.bool rfl rfl rfl (mvD rfl (mvD rfl (cl (limbs_minus (lim_Lim _) (lim_Lim _) (by omega) (by rw [val_lim,val_lim];omega)) rfl vL ?_))))
   rw [val_lim,val_lim]
   exact mvD rfl (bd z.fraction pl.fraction (cs:=[_,_,_]) rfl (sto sz.fraction rfl rfl rfl rfl rfl (nb9 rfl) (cells2:=[_,_,_]) rfl (OL.nil (AW.ret (RetQ.r ⟨_,.cellA rfl rfl ag.fraction (nb9 rfl) .nil,.ag (.cons (.le (vle_of_eq (by rw [if_neg h,if_neg h2]))) (.cons (.le (vle_of_eq (by rw [if_neg h,if_neg h2]))) (.cons (.le vR) (.nil))))⟩)))))
theorem fraction_rat {s:Bool}{n d:Nat}(nn:(lim n).length≤1099511627776)(nd:(lim d).length≤1099511627776)(hd:d≠0):FSpec P F.rational_fraction_rat [vFr s n d] (vRaw (ofQ (fr s n d))):=by
 refine FSpec.intro fn.rational_fraction_rat (by rfl) (by rfl) (nb9 (by rfl)) fun E hE=>(AW.sg hE rfl (bxA rfl rfl fun b1=>(al z.Rat rfl fun b2=>(OL.nil (AW.seq (AW.sg hE rfl (faP fd.fraction_1 rfl rfl ?_)))))))
 refine ldPC ce.limbs rfl rfl rfl (lnL sl.limbs rfl rfl (c_eql rfl rfl rfl (OL.nil (AW.cond rfl (fun h=>?_) (fun h=>?_)))))
 ·have h:n=0:=lim_length_zero.1 (by have:=dt9 h;omega)
  subst h
  rw [fr_zero,ofQ_zero]
  exact AW.sg hE rfl (bd z.Rat pl.Rat (cs:=[_,_,_]) rfl (sto sz.Rat rfl rfl rfl rfl rfl (nb9 rfl) (cells2:=[_,_,_]) rfl (OL.nil (AW.ret (RetQ.r ⟨_,.cellA rfl rfl ag.Rat (nb9 rfl) .nil,.ag (.cons (.le vR) (.cons (.le VLe.mt) (.cons (.le VLe.mt) (.nil))))⟩)))))
 ·have h:n≠0:=fun e=>by have:=df9 h;rw [e,lim_zero] at this;exact this rfl
  have hgp:0<Nat.gcd n d:=Nat.gcd_pos_of_pos_left d (Nat.pos_of_ne_zero h)
  have hgl:=len_le (Nat.gcd_le_left d (Nat.pos_of_ne_zero h))
  have hdl:=len_le (Nat.div_le_self d (Nat.gcd n d))
  rw [ofQ_fr h hd]
  refine AW.skip (AW.seq (AW.dg 1 [0,1,2,3,4,5,6,7] order_free hE rfl (by kernel_rfl) (OI.of_OL (os:=[_,_,_,_,_,_,_,_]) rfl ?_)))
  refine faP fd.fraction_1 rfl rfl (ldPC ce.limbs rfl rfl rfl (cl (clone_limbs (by omega)) rfl vL (faP fd.fraction_2 rfl rfl (ldPC ce.limbs rfl rfl rfl (cl (clone_limbs (by omega)) rfl vL (asD rfl (asD rfl ?_)))))))
  refine OL.nil ?_
  refine AW.mid (α:=Unit) (fun _u=>[(1,.ptr 1 b1 0),(2,.ptr 2 b2 0),(3,.d (u32s (lim (n / Nat.gcd n d)))),(4,.d (u32s (lim (d / Nat.gcd n d))))]) (fun _u=>[(1,.box b1 T.fraction [.d (dB s),.d (u32s (lim n)),.d (u32s (lim d))]),(2,.box b2 T.Rat [.d (dB false),.mt,.mt])]) (fun _u=>True) ?_ ?_
  ·refine AW.sg hE rfl (mvD rfl (mvD rfl (cl (limbs_gcd nn nd) rfl vL (asD rfl (OL.nil (AW.sg hE rfl (mvD rfl ?_)))))))
   refine cl rational_one rfl vL (cl (limbs_cmp (lim_Lim _) (lim_Lim 1) (by omega) (by have:=len_small (g:=1) (by decide);omega)) rfl vL ?_)
   rw [val_lim,val_lim]
   refine c_neq rfl rfl rfl (OL.nil (AW.cond rfl (fun h1=>?_) (fun h1=>?_)))
   ·have _h1:=h1
    refine AW.sg hE rfl (mvD rfl (mvD rfl (cl (limbs_over (lim_Lim n) nn (by omega) (by omega)) rfl vL ?_)))
    rw [val_lim]
    refine mvT rfl (ex rfl rfl (ex rfl rfl (asD rfl (OL.nil (AW.rg hE rfl (mvD rfl (mvD rfl ?_)))))))
    refine cl (limbs_over (lim_Lim d) nd (by omega) (by omega)) rfl vL ?_
    rw [val_lim]
    exact mvT rfl (ex rfl rfl (ex rfl rfl (asD rfl (OL.nil (AW.reach () ⟨trivial,.rq4,.cons rfl (.cons rfl .nil)⟩)))))
   ·have h1:Nat.gcd n d=1:=cmpN_zero.1 (nd_f h1)
    exact AW.skip (AW.reach () ⟨trivial,.cons vR (.cons vR (.cons (vle_of_eq (by rw [h1,Nat.div_one];rfl)) (.cons (vle_of_eq (by rw [h1,Nat.div_one];rfl)) .nil))),.cons rfl (.cons rfl .nil)⟩)
  rintro ⟨⟩ -
  refine AW.seq (AW.sg hE rfl (mvD rfl (cl rational_one rfl vL (cl (limbs_cmp (lim_Lim _) (lim_Lim 1) (by omega) (by have:=len_small (g:=1) (by decide);omega)) rfl vL ?_))))
  rw [val_lim,val_lim]
  refine c_eql rfl rfl rfl (OL.nil (AW.cond rfl (fun h2=>?_) (fun h2=>?_)))
  ·have h2:d / Nat.gcd n d=1:=cmpN_zero.1 (dt9 h2)
   refine AW.rg hE rfl (asM rfl (OL.nil (AW.sg hE rfl (faP fd.fraction_0 rfl rfl (ldPC ce.bool rfl rfl rfl (mvD rfl (mvM rfl ?_)))))))
   exact bd z.Rat pl.Rat (cs:=[_,_,_]) rfl (sto sz.Rat rfl rfl rfl rfl rfl (nb9 rfl) (cells2:=[_,_,_]) rfl (OL.nil (AW.ret (RetQ.r ⟨_,.cellA rfl rfl ag.Rat (nb9 rfl) .nil,.ag (.cons (.le vR) (.cons (.le vR) (.cons (.le (by rw [if_pos h2];exact VLe.mt)) (.nil))))⟩))))
  ·have h2:d / Nat.gcd n d≠1:=fun e=>df9 h2 (cmpN_zero.2 e)
   refine AW.skip (AW.sg hE rfl (faP fd.fraction_0 rfl rfl (ldPC ce.bool rfl rfl rfl (mvD rfl (mvD rfl (bd z.Rat pl.Rat (cs:=[_,_,_]) rfl (sto sz.Rat rfl rfl rfl rfl rfl (nb9 rfl) (cells2:=[_,_,_]) rfl ?_)))))))
   exact OL.nil (AW.ret (RetQ.r ⟨_,.cellA rfl rfl ag.Rat (nb9 rfl) .nil,.ag (.cons (.le vR) (.cons (.le vR) (.cons (.le (vle_of_eq (by rw [if_neg h2]))) (.nil))))⟩))
theorem rational_whole {v:Int}(hv:-9223372036854775808≤v∧v≤9223372036854775807):FSpec P F.rational_whole [.d (dI v)] (.tup [.d (dB (decide (v<0))),.d (u32s (lim v.natAbs))]):=by
 refine FSpec.intro fn.rational_whole (by rfl) (by rfl) (nb9 (by rfl)) fun E hE=>(AW.sg hE rfl (asD rfl (asM rfl (OL.nil (AW.sg hE rfl (mvD rfl (cv it.int it.u64 rfl (c:=v % 18446744073709551616) (wrap_u64_mod _) ?_)))))))
 refine asD rfl (OL.nil (AW.mid (α:=Unit) (fun _u=>[(0,.d (dI v)),(4,.d (dU v.natAbs))]) (fun _u=>[]) (fun _u=>True) ?_ ?_))
 ·refine AW.sg hE rfl (mvD rfl (c_lss rfl rfl rfl (OL.nil (AW.cond rfl (fun h=>?_) (fun h=>?_)))))
  ·have h:=dt9 h
   exact AW.rg hE rfl (mvD rfl (ng rfl (c:=(v.natAbs:Int)) (by rw [wrap_u64_mod];omega) (asD rfl (OL.nil (AW.reach () ⟨trivial,.rq2,.nil⟩)))))
  ·have h:=df9 h
   exact AW.skip (AW.reach () ⟨trivial,.cons vR (.cons (VLe.int (by omega)) .nil),.nil⟩)
 rintro ⟨⟩ -
 refine AW.sg hE rfl (mvD rfl (c_lss rfl rfl rfl (mvD rfl (cv it.u64 it.u32 rfl (c:=((v.natAbs % 4294967296:Nat):Int)) (by rw [wrap_u32_mod];omega) (mvD rfl (shr32 rfl rfl rfl (cv it.u64 it.u32 rfl (c:=((v.natAbs / 4294967296:Nat):Int)) (by rw [wrap_u32_mod];omega) ?_)))))))
 refine lt2 sl.limbs (VC.d _).vd (VC.d _).vd ⟨rfl,rfl⟩ (by decide) (cl (limbs_clean (L:=[v.natAbs % 4294967296,v.natAbs / 4294967296]) (.cons (by omega) (.cons (by omega) .nil)) (by simp)) rfl vL ?_)
 rw [show val [v.natAbs % 4294967296,v.natAbs / 4294967296]=v.natAbs by simp only [val_cons,val_nil];omega]
 exact asD rfl (asD rfl (OL.nil (AW.ret (RetQ.r ⟨_,.tmp rfl (.tmp rfl .nil),_,.cons (.le vR) (.cons (.le vR) .nil),rfl⟩))))
theorem rational_Make {n d:Int}(hn:-9223372036854775808≤n∧n≤9223372036854775807)(hd:-9223372036854775808≤d∧d≤9223372036854775807)(h0:d≠0):FSpec P F.rational_Make [.d (dI n),.d (dI d)] (.tup [vRaw (ofQ ((n:Rat) / (d:Rat))),.d (dI 0)]):=by
 have e1:(lim n.natAbs).length≤2:=lim_length_le (by show n.natAbs<18446744073709551616;omega)
 have e2:(lim d.natAbs).length≤2:=lim_length_le (by show d.natAbs<18446744073709551616;omega)
 refine FSpec.intro fn.rational_Make (by rfl) (by rfl) (nb9 (by rfl)) fun E hE=>(AW.sg hE rfl (al z.Rat rfl fun b4=>(asD rfl (OL.nil (AW.seq (AW.sg hE rfl (mvD rfl ?_)))))))
 refine c_eql rfl rfl rfl (OL.nil (AW.cond rfl (fun hno=>absurd hno (by simpa using h0)) (fun _=>?_)))
 refine AW.skip (AW.sg hE rfl (mvD rfl (cl (rational_whole hn) rfl vL (mvT rfl (ex rfl rfl (ex rfl rfl (asD rfl ?_)))))))
 refine asD rfl (OL.nil (AW.sg hE rfl (mvD rfl (cl (rational_whole hd) rfl vL (mvT rfl (ex rfl rfl (ex rfl rfl ?_)))))))
 refine asD rfl (asD rfl (OL.nil (AW.sg hE rfl (mvD rfl (mvD rfl (neb bt.bool rfl rfl (mvD rfl ?_)))))))
 refine mvD rfl (bd z.fraction pl.fraction (cs:=[_,_,_]) rfl (cl (fraction_rat (by omega) (by omega) (by omega)) rfl vL ?_))
 rw [show (!(decide (n<0) == decide (d<0)))=(decide (n<0) != decide (d<0)) from rfl,fr_int]
 exact sto sz.Rat rfl rfl rfl rfl rfl (nb9 rfl) (cells2:=[_,_,_]) rfl (asD rfl (OL.nil (AW.ret (RetQ.r ⟨_,.cellA rfl rfl ag.Rat (nb9 rfl) (.tmp rfl .nil),[_,_],.cons (.ag (.cons (.le vR) (.cons (.le vR) (.cons (.le vR) (.nil))))) (.cons (.le vR) .nil),rfl⟩))))
theorem rational_Add {x y:Raw}(hx:x.Ok)(hy:y.Ok):FSpec P F.rational_Add [vRaw x,vRaw y] (vRaw (ofQ (x.q+y.q))):=by
 have a1:=q_sz hx hx.ln hx.ld (by decide)
 have a2:=q_sz hy hy.ln hy.ld (by decide)
 have sn1:=sz_num x.q
 have sn2:=sz_num y.q
 have sd1:=sz_den x.q
 have sd2:=sz_den y.q
 have sdd:=len_mul x.q.den y.q.den
 refine FSpec.intro fn.rational_Add (by rfl) (by rfl) (nb9 (by rfl)) fun E hE=>(AW.sg hE rfl (bxA rfl rfl fun b2=>(bxA rfl rfl fun b3=>(al z.Rat rfl fun b4=>(OL.nil (AW.seq (AW.dg 1 [0,1,2,3,4,5,6] order_free hE rfl (by kernel_rfl) (OI.of_OL (os:=[_,_,_,_,_,_,_]) rfl ?_))))))))
 refine ldPA ag.Rat rfl rfl (vs:=[_,_,_]) rfl (nb9 rfl) (cl (rational_of hx) rfl vL (ldPA ag.Rat rfl rfl (vs:=[_,_,_]) rfl (nb9 rfl) (cl (rational_of hy) rfl vL (cl (fraction_plus (by omega) (by omega) (by omega) (by omega)) rfl vL (cl (fraction_rat (Nat.le_trans (len_plus sn1 sn2 sd1 sd2) (by omega)) (by omega) (Nat.mul_ne_zero x.q.den_nz y.q.den_nz)) rfl vL ?_)))))
 rw [fr_plus x.q.den_nz y.q.den_nz,fr_ofQ,fr_ofQ]
 exact sto sz.Rat rfl rfl rfl rfl rfl (nb9 rfl) (cells2:=[_,_,_]) rfl (OL.nil (AW.ret (RetQ.r ⟨_,.cellA rfl rfl ag.Rat (nb9 rfl) .nil,.ag (.cons (.le vR) (.cons (.le vR) (.cons (.le vR) (.nil))))⟩)))
theorem rational_Sub {x y:Raw}(hx:x.Ok)(hy:y.Ok):FSpec P F.rational_Sub [vRaw x,vRaw y] (vRaw (ofQ (x.q-y.q))):=by
 have a1:=q_sz hx hx.ln hx.ld (by decide)
 have a2:=q_sz hy hy.ln hy.ld (by decide)
 have sn1:=sz_num x.q
 have sn2:=sz_num y.q
 have sd1:=sz_den x.q
 have sd2:=sz_den y.q
 have sdd:=len_mul x.q.den y.q.den
 have snn:=len_mul x.q.num.natAbs y.q.num.natAbs
 have snd:=len_mul x.q.num.natAbs y.q.den
 have sdn:=len_mul x.q.den y.q.num.natAbs
 refine FSpec.intro fn.rational_Sub (by rfl) (by rfl) (nb9 (by rfl)) fun E hE=>(AW.sg hE rfl (bxA rfl rfl fun b2=>(bxA rfl rfl fun b3=>(al z.Rat rfl fun b4=>(OL.nil (AW.seq (AW.dg 1 [0,1,2,3,4,5,6,7] order_free hE rfl (by kernel_rfl) (OI.of_OL (os:=[_,_,_,_,_,_,_,_]) rfl ?_))))))))
 refine ldPA ag.Rat rfl rfl (vs:=[_,_,_]) rfl (nb9 rfl) (cl (rational_of hx) rfl vL (ldPA ag.Rat rfl rfl (vs:=[_,_,_]) rfl (nb9 rfl) (cl (rational_of hy) rfl vL (cl fraction_negative rfl vL (cl (fraction_plus (by omega) (by omega) (by omega) (by omega)) rfl vL (cl (fraction_rat (Nat.le_trans (len_plus sn1 sn2 sd1 sd2) (by omega)) (by omega) (Nat.mul_ne_zero x.q.den_nz y.q.den_nz)) rfl vL ?_))))))
 rw [fr_plus x.q.den_nz y.q.den_nz,← fr_neg,fr_ofQ,fr_ofQ,← Rat.sub_eq_add_neg]
 exact sto sz.Rat rfl rfl rfl rfl rfl (nb9 rfl) (cells2:=[_,_,_]) rfl (OL.nil (AW.ret (RetQ.r ⟨_,.cellA rfl rfl ag.Rat (nb9 rfl) .nil,.ag (.cons (.le vR) (.cons (.le vR) (.cons (.le vR) (.nil))))⟩)))
theorem rational_Mul {x y:Raw}(hx:x.Ok)(hy:y.Ok):FSpec P F.rational_Mul [vRaw x,vRaw y] (vRaw (ofQ (x.q*y.q))):=by
 have a1:=q_sz hx hx.ln hx.ld (by decide)
 have a2:=q_sz hy hy.ln hy.ld (by decide)
 have sn1:=sz_num x.q
 have sn2:=sz_num y.q
 have sd1:=sz_den x.q
 have sd2:=sz_den y.q
 have sdd:=len_mul x.q.den y.q.den
 have snn:=len_mul x.q.num.natAbs y.q.num.natAbs
 have snd:=len_mul x.q.num.natAbs y.q.den
 have sdn:=len_mul x.q.den y.q.num.natAbs
 refine FSpec.intro fn.rational_Mul (by rfl) (by rfl) (nb9 (by rfl)) fun E hE=>(AW.sg hE rfl (bxA rfl rfl fun b2=>(bxA rfl rfl fun b3=>(al z.Rat rfl fun b4=>(OL.nil (AW.seq (AW.dg 1 [0,1,2,3,4,5,6,7] order_free hE rfl (by kernel_rfl) (OI.of_OL (os:=[_,_,_,_,_,_,_,_]) rfl ?_))))))))
 refine ldPA ag.Rat rfl rfl (vs:=[_,_,_]) rfl (nb9 rfl) (cl (rational_of hx) rfl vL (ldPA ag.Rat rfl rfl (vs:=[_,_,_]) rfl (nb9 rfl) (cl (rational_of hy) rfl vL (al z.fraction rfl fun b5=>(al z.fraction rfl fun b6=>(sto sz.fraction rfl rfl rfl rfl rfl (nb9 rfl) (cells2:=[_,_,_]) rfl (sto sz.fraction rfl rfl rfl rfl rfl (nb9 rfl) (cells2:=[_,_,_]) rfl ?_)))))))
 refine OL.nil (AW.seq (AW.dg 1 [0,1,2,3,4,5,6,7,8,9,10,11,12,13,14,15,16,17] order_free hE rfl (by kernel_rfl) (OI.of_OL (os:=[_,_,_,_,_,_,_,_,_,_,_,_,_,_,_,_,_,_]) rfl ?_)))
 refine faP fd.fraction_0 rfl rfl (ldPC ce.bool rfl rfl rfl (faP fd.fraction_0 rfl rfl (ldPC ce.bool rfl rfl rfl (neb bt.bool rfl rfl (faP fd.fraction_1 rfl rfl (ldPC ce.limbs rfl rfl rfl (faP fd.fraction_1 rfl rfl ?_)))))))
 refine ldPC ce.limbs rfl rfl rfl (cl (limbs_times (lim_Lim _) (lim_Lim _) (by omega) (by omega)) rfl vL ?_)
 rw [val_lim,val_lim]
 refine faP fd.fraction_2 rfl rfl (ldPC ce.limbs rfl rfl rfl (faP fd.fraction_2 rfl rfl (ldPC ce.limbs rfl rfl rfl (cl (limbs_times (lim_Lim _) (lim_Lim _) (by omega) (by omega)) rfl vL ?_))))
 rw [val_lim,val_lim]
 refine bd z.fraction pl.fraction (cs:=[_,_,_]) rfl (cl (fraction_rat (by omega) (by omega) (Nat.mul_ne_zero x.q.den_nz y.q.den_nz)) rfl vL ?_)
 rw [show ∀ p q:Bool,(!(p == q))=(p != q) from fun _ _=>rfl,← fr_mul,fr_ofQ,fr_ofQ]
 exact sto sz.Rat rfl rfl rfl rfl rfl (nb9 rfl) (cells2:=[_,_,_]) rfl (OL.nil (AW.ret (RetQ.r ⟨_,.cellA rfl rfl ag.Rat (nb9 rfl) .nil,.ag (.cons (.le vR) (.cons (.le vR) (.cons (.le vR) (.nil))))⟩)))
theorem rational_Sign {x:Raw}(hx:x.Ok):FSpec P F.rational_Sign [vRaw x] (.d (dI (sgnQ x.q))):=by
 have a1:=q_sz hx hx.ln hx.ld (by decide)
 have sn1:=sz_num x.q
 refine FSpec.intro fn.rational_Sign (by rfl) (by rfl) (nb9 (by rfl)) fun E hE=>(AW.sg hE rfl (bxA rfl rfl fun b1=>(asD rfl (OL.nil (AW.seq (AW.sg hE rfl (ldPA ag.Rat rfl rfl (vs:=[_,_,_]) rfl (nb9 rfl) ?_)))))))
 refine cl (rational_of hx) rfl vL (al z.fraction rfl fun b3=>(sto sz.fraction rfl rfl rfl rfl rfl (nb9 rfl) (cells2:=[_,_,_]) rfl (OL.nil (AW.block (AW.sg hE rfl (faP fd.fraction_1 rfl rfl (ldPC ce.limbs rfl rfl rfl ?_)))))))
 refine lnL sl.limbs rfl rfl (c_eql rfl rfl rfl (asD rfl (OL.nil (AW.cond rfl (fun h=>?_) (fun h=>?_)))))
 ·have h:x.q.num=0:=by have:=lim_length_zero.1 (show (lim x.q.num.natAbs).length=0 by have:=dt9 h;omega);omega
  exact AW.sg hE rfl (asD rfl (OL.nil (AW.ret (RetQ.r ⟨_,.tmp rfl .nil,.le (VLe.int ((sgnQ_num_eq.2 h).symm))⟩))))
 ·have h:x.q.num≠0:=fun e=>by have:=df9 h;rw [e,show (0:Int).natAbs=0 from rfl,lim_zero] at this;exact this rfl
  refine AW.sg hE rfl (faP fd.fraction_0 rfl rfl (ldPC ce.bool rfl rfl rfl (asD rfl (OL.nil (AW.cond rfl (fun h2=>?_) (fun h2=>?_))))))
  ·have h2:=dt9 h2
   exact AW.sg hE rfl (asD rfl (OL.nil (AW.ret (RetQ.r ⟨_,.tmp rfl .nil,.le (VLe.int ((sgnQ_num_neg.2 h2).symm))⟩))))
  ·have h2:=df9 h2
   exact AW.skip (AW.sg hE rfl (asD rfl (OL.nil (AW.ret (RetQ.r ⟨_,.tmp rfl .nil,.le (VLe.int (by unfold sgnQ;rw [if_neg h2,if_neg h]))⟩)))))
theorem rational_Compare {x y:Raw}(hx:x.Sm)(hy:y.Sm):FSpec P F.rational_Compare [vRaw x,vRaw y] (.d (dI (cmpQ x.q y.q))):=by
 have a1:=hx.q
 have a2:=hy.q
 have a3:=sz_sub x.q y.q
 refine FSpec.intro fn.rational_Compare (by rfl) (by rfl) (nb9 (by rfl)) fun E hE=>(AW.sg hE rfl (bxA rfl rfl fun b2=>(bxA rfl rfl fun b3=>(asD rfl (OL.nil (AW.sg hE rfl (ldPA ag.Rat rfl rfl (vs:=[_,_,_]) rfl (nb9 rfl) ?_)))))))
 refine ldPA ag.Rat rfl rfl (vs:=[_,_,_]) rfl (nb9 rfl) (cl (rational_Sub hx.ok hy.ok) rfl vL (cl (rational_Sign (ofQ_ok (by omega))) rfl vL ?_))
 rw [q_ofQ]
 exact asD rfl (OL.nil (AW.ret (RetQ.r ⟨_,.tmp rfl .nil,.le vR⟩)))
end Go.Proofs.YteiohkpjgcioaaaGreatDoor

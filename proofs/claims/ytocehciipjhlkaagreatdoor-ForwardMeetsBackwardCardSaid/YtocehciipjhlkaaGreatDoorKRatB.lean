/-
  Walks of package rational, part 5: sums, products, comparisons (printed by mk.py).
-/
import Derived.Test.YtocehciipjhlkaaGreatDoorKRatA
import Derived.Test.YtocehciipjhlkaaGreatDoorKNuma
set_option linter.unusedVariables false
set_option linter.unusedSimpArgs false
namespace Go.Proofs.YtocehciipjhlkaaGreatDoor
open Go Go.AL
theorem fraction_rat {s:Bool}{n d:Nat}(nn:(lim n).length≤1099511627776)(nd:(lim d).length≤1099511627776)(hd:d≠0):FSpec P F.rational_fraction_rat [vFr s n d] (vRaw (ofQ (fr s n d))):=by
 refine FSpec.intro fn.rational_fraction_rat (by rfl) (by rfl) (nb9 (by rfl)) fun E hE=>(AW.sg hE rfl (bxA rfl rfl fun b1=>(al z.Rat rfl fun b2=>(OL.nil (AW.seq (AW.sg hE rfl (faP fd.fraction_1 rfl rfl ?_)))))))
 refine ldPC ce.limbs rfl rfl rfl (lnL sl.limbs rfl rfl (c_eql rfl rfl rfl (OL.nil (AW.cond rfl (fun h=>?_) (fun h=>?_)))))
 ·have h:n=0:=lim_length_zero.1 (by have:=dt9 h;omega)
  subst h
  rw [fr_zero,ofQ_zero]
  exact AW.sg hE rfl (bd z.Rat pl.Rat (cs:=[_,_,_]) rfl (sto sz.Rat rfl rfl rfl rfl rfl (nb9 rfl) (cells2:=[_,_,_]) rfl (OL.nil (AW.ret (RetQ.r ⟨_,.cellA rfl rfl ag.Rat (nb9 rfl) .nil,.ag (.cons (.le vR) (.cons (.le VLe.mt) (.cons (.le VLe.mt) (.nil))))⟩)))))
 ·have h:n≠0:=fun e=>by have:=df9 h;rw [e,lim_zero] at this;exact this rfl
  have hgp:0<Nat.gcd n d:=Nat.gcd_pos_of_pos_left d (Nat.pos_of_ne_zero h)
  have hgl:=len_le (Nat.gcd_le_left d (Nat.pos_of_ne_zero h))
  have hdl:=len_le (Nat.div_le_self d (Nat.gcd n d))
  rw [ofQ_fr h hd]
  refine AW.skip (AW.seq (AW.dg 1 [0,1,2,3,4,5,6,7] order_free hE rfl (by kernel_rfl) (OI.of_OL (os:=[_,_,_,_,_,_,_,_]) rfl ?_)))
  refine faP fd.fraction_1 rfl rfl (ldPC ce.limbs rfl rfl rfl (cl (clone_limbs (by omega)) rfl vL (faP fd.fraction_2 rfl rfl (ldPC ce.limbs rfl rfl rfl (cl (clone_limbs (by omega)) rfl vL (asD rfl (asD rfl ?_)))))))
  refine OL.nil ?_
  refine AW.mid (α:=Unit) (fun _u=>[(1,.ptr 1 b1 0),(2,.ptr 2 b2 0),(3,.d (u32s (lim (n / Nat.gcd n d)))),(4,.d (u32s (lim (d / Nat.gcd n d))))]) (fun _u=>[(1,.box b1 T.fraction [.d (dB s),.d (u32s (lim n)),.d (u32s (lim d))]),(2,.box b2 T.Rat [.d (dB false),.mt,.mt])]) (fun _u=>True) ?_ ?_
  ·refine AW.sg hE rfl (mvD rfl (mvD rfl (cl (limbs_gcd nn nd) rfl vL (asD rfl (OL.nil (AW.sg hE rfl (mvD rfl ?_)))))))
   refine cl rational_one rfl vL (cl (limbs_cmp (lim_Lim _) (lim_Lim 1) (by omega) (by have:=len_small (g:=1) (by decide);omega)) rfl vL ?_)
   rw [val_lim,val_lim]
   refine c_neq rfl rfl rfl (OL.nil (AW.cond rfl (fun h1=>?_) (fun h1=>?_)))
   ·have _h1:=h1
    refine AW.sg hE rfl (mvD rfl (mvD rfl (cl (limbs_over (lim_Lim n) nn (by omega) (by omega)) rfl vL ?_)))
    rw [val_lim]
    refine mvT rfl (ex rfl rfl (ex rfl rfl (asD rfl (OL.nil (AW.rg hE rfl (mvD rfl (mvD rfl ?_)))))))
    refine cl (limbs_over (lim_Lim d) nd (by omega) (by omega)) rfl vL ?_
    rw [val_lim]
    exact mvT rfl (ex rfl rfl (ex rfl rfl (asD rfl (OL.nil (AW.reach () ⟨trivial,.rq4,.cons rfl (.cons rfl .nil)⟩)))))
   ·have h1:Nat.gcd n d=1:=cmpN_zero.1 (nd_f h1)
    exact AW.skip (AW.reach () ⟨trivial,.cons vR (.cons vR (.cons (vle_of_eq (by rw [h1,Nat.div_one];rfl)) (.cons (vle_of_eq (by rw [h1,Nat.div_one];rfl)) .nil))),.cons rfl (.cons rfl .nil)⟩)
  rintro ⟨⟩ -
  refine AW.seq (AW.sg hE rfl (mvD rfl (cl rational_one rfl vL (cl (limbs_cmp (lim_Lim _) (lim_Lim 1) (by omega) (by have:=len_small (g:=1) (by decide);omega)) rfl vL ?_))))
  rw [val_lim,val_lim]
  refine c_eql rfl rfl rfl (OL.nil (AW.cond rfl (fun h2=>?_) (fun h2=>?_)))
  ·have h2:d / Nat.gcd n d=1:=cmpN_zero.1 (dt9 h2)
   refine AW.rg hE rfl (asM rfl (OL.nil (AW.sg hE rfl (faP fd.fraction_0 rfl rfl (ldPC ce.bool rfl rfl rfl (mvD rfl (mvM rfl ?_)))))))
   exact bd z.Rat pl.Rat (cs:=[_,_,_]) rfl (sto sz.Rat rfl rfl rfl rfl rfl (nb9 rfl) (cells2:=[_,_,_]) rfl (OL.nil (AW.ret (RetQ.r ⟨_,.cellA rfl rfl ag.Rat (nb9 rfl) .nil,.ag (.cons (.le vR) (.cons (.le vR) (.cons (.le (by rw [if_pos h2];exact VLe.mt)) (.nil))))⟩))))
  ·have h2:d / Nat.gcd n d≠1:=fun e=>df9 h2 (cmpN_zero.2 e)
   refine AW.skip (AW.sg hE rfl (faP fd.fraction_0 rfl rfl (ldPC ce.bool rfl rfl rfl (mvD rfl (mvD rfl (bd z.Rat pl.Rat (cs:=[_,_,_]) rfl (sto sz.Rat rfl rfl rfl rfl rfl (nb9 rfl) (cells2:=[_,_,_]) rfl ?_)))))))
   exact OL.nil (AW.ret (RetQ.r ⟨_,.cellA rfl rfl ag.Rat (nb9 rfl) .nil,.ag (.cons (.le vR) (.cons (.le vR) (.cons (.le (vle_of_eq (by rw [if_neg h2]))) (.nil))))⟩))
theorem rational_whole {v:Int}(hv:-9223372036854775808≤v∧v≤9223372036854775807):FSpec P F.rational_whole [.d (dI v)] (.tup [.d (dB (decide (v<0))),.d (u32s (lim v.natAbs))]):=by
 refine FSpec.intro fn.rational_whole (by rfl) (by rfl) (nb9 (by rfl)) fun E hE=>(AW.sg hE rfl (asD rfl (asM rfl (OL.nil (AW.sg hE rfl (mvD rfl (cv it.int it.u64 rfl (c:=v % 18446744073709551616) (wrap_u64_mod _) ?_)))))))
 refine asD rfl (OL.nil (AW.mid (α:=Unit) (fun _u=>[(0,.d (dI v)),(4,.d (dU v.natAbs))]) (fun _u=>[]) (fun _u=>True) ?_ ?_))
 ·refine AW.sg hE rfl (mvD rfl (c_lss rfl rfl rfl (OL.nil (AW.cond rfl (fun h=>?_) (fun h=>?_)))))
  ·have h:=dt9 h
   exact AW.rg hE rfl (mvD rfl (ng rfl (c:=(v.natAbs:Int)) (by rw [wrap_u64_mod];omega) (asD rfl (OL.nil (AW.reach () ⟨trivial,.rq2,.nil⟩)))))
  ·have h:=df9 h
   exact AW.skip (AW.reach () ⟨trivial,.cons vR (.cons (VLe.int (by omega)) .nil),.nil⟩)
 rintro ⟨⟩ -
 refine AW.sg hE rfl (mvD rfl (c_lss rfl rfl rfl (mvD rfl (cv it.u64 it.u32 rfl (c:=((v.natAbs % 4294967296:Nat):Int)) (by rw [wrap_u32_mod];omega) (mvD rfl (shr32 rfl rfl rfl (cv it.u64 it.u32 rfl (c:=((v.natAbs / 4294967296:Nat):Int)) (by rw [wrap_u32_mod];omega) ?_)))))))
 refine lt2 sl.limbs (VC.d _).vd (VC.d _).vd ⟨rfl,rfl⟩ (by decide) (cl (limbs_clean (L:=[v.natAbs % 4294967296,v.natAbs / 4294967296]) (.cons (by omega) (.cons (by omega) .nil)) (by simp)) rfl vL ?_)
 rw [show val [v.natAbs % 4294967296,v.natAbs / 4294967296]=v.natAbs by simp only [val_cons,val_nil];omega]
 exact asD rfl (asD rfl (OL.nil (AW.ret (RetQ.r ⟨_,.tmp rfl (.tmp rfl .nil),_,.cons (.le vR) (.cons (.le vR) .nil),rfl⟩))))
theorem rational_Make {n d:Int}(hn:-9223372036854775808≤n∧n≤9223372036854775807)(hd:-9223372036854775808≤d∧d≤9223372036854775807)(h0:d≠0):FSpec P F.rational_Make [.d (dI n),.d (dI d)] (.tup [vRaw (ofQ ((n:Rat) / (d:Rat))),.d (dI 0)]):=by
 have e1:(lim n.natAbs).length≤2:=lim_length_le (by show n.natAbs<18446744073709551616;omega)
 have e2:(lim d.natAbs).length≤2:=lim_length_le (by show d.natAbs<18446744073709551616;omega)
 refine FSpec.intro fn.rational_Make (by rfl) (by rfl) (nb9 (by rfl)) fun E hE=>(AW.sg hE rfl (al z.Rat rfl fun b4=>(asD rfl (OL.nil (AW.seq (AW.sg hE rfl (mvD rfl ?_)))))))
 refine c_eql rfl rfl rfl (OL.nil (AW.cond rfl (fun hno=>absurd hno (by simpa using h0)) (fun _=>?_)))
 refine AW.skip (AW.sg hE rfl (mvD rfl (cl (rational_whole hn) rfl vL (mvT rfl (ex rfl rfl (ex rfl rfl (asD rfl ?_)))))))
 refine asD rfl (OL.nil (AW.sg hE rfl (mvD rfl (cl (rational_whole hd) rfl vL (mvT rfl (ex rfl rfl (ex rfl rfl ?_)))))))
 refine asD rfl (asD rfl (OL.nil (AW.sg hE rfl (mvD rfl (mvD rfl (neb bt.bool rfl rfl (mvD rfl ?_)))))))
 refine mvD rfl (bd z.fraction pl.fraction (cs:=[_,_,_]) rfl (cl (fraction_rat (by omega) (by omega) (by omega)) rfl vL ?_))
 rw [show (!(decide (n<0) == decide (d<0)))=(decide (n<0) != decide (d<0)) from rfl,fr_int]
 exact sto sz.Rat rfl rfl rfl rfl rfl (nb9 rfl) (cells2:=[_,_,_]) rfl (asD rfl (OL.nil (AW.ret (RetQ.r ⟨_,.cellA rfl rfl ag.Rat (nb9 rfl) (.tmp rfl .nil),[_,_],.cons (.ag (.cons (.le vR) (.cons (.le vR) (.cons (.le vR) (.nil))))) (.cons (.le vR) .nil),rfl⟩))))
theorem rational_Add {x y:Raw}(hx:x.Ok)(hy:y.Ok):FSpec P F.rational_Add [vRaw x,vRaw y] (vRaw (ofQ (x.q+y.q))):=by
 have a1:=q_sz hx hx.ln hx.ld (by decide)
 have a2:=q_sz hy hy.ln hy.ld (by decide)
 have sn1:=sz_num x.q
 have sn2:=sz_num y.q
 have sd1:=sz_den x.q
 have sd2:=sz_den y.q
 have sdd:=len_mul x.q.den y.q.den
 refine FSpec.intro fn.rational_Add (by rfl) (by rfl) (nb9 (by rfl)) fun E hE=>(AW.sg hE rfl (bxA rfl rfl fun b2=>(bxA rfl rfl fun b3=>(al z.Rat rfl fun b4=>(OL.nil (AW.seq (AW.dg 1 [0,1,2,3,4,5,6] order_free hE rfl (by kernel_rfl) (OI.of_OL (os:=[_,_,_,_,_,_,_]) rfl ?_))))))))
 refine ldPA ag.Rat rfl rfl (vs:=[_,_,_]) rfl (nb9 rfl) (cl (rational_of hx) rfl vL (ldPA ag.Rat rfl rfl (vs:=[_,_,_]) rfl (nb9 rfl) (cl (rational_of hy) rfl vL (cl (fraction_plus (by omega) (by omega) (by omega) (by omega)) rfl vL (cl (fraction_rat (Nat.le_trans (len_plus sn1 sn2 sd1 sd2) (by omega)) (by omega) (Nat.mul_ne_zero x.q.den_nz y.q.den_nz)) rfl vL ?_)))))
 rw [fr_plus x.q.den_nz y.q.den_nz,fr_ofQ,fr_ofQ]
 exact sto sz.Rat rfl rfl rfl rfl rfl (nb9 rfl) (cells2:=[_,_,_]) rfl (OL.nil (AW.ret (RetQ.r ⟨_,.cellA rfl rfl ag.Rat (nb9 rfl) .nil,.ag (.cons (.le vR) (.cons (.le vR) (.cons (.le vR) (.nil))))⟩)))
theorem rational_Sub {x y:Raw}(hx:x.Ok)(hy:y.Ok):FSpec P F.rational_Sub [vRaw x,vRaw y] (vRaw (ofQ (x.q-y.q))):=by
 have a1:=q_sz hx hx.ln hx.ld (by decide)
 have a2:=q_sz hy hy.ln hy.ld (by decide)
 have sn1:=sz_num x.q
 have sn2:=sz_num y.q
 have sd1:=sz_den x.q
 have sd2:=sz_den y.q
 have sdd:=len_mul x.q.den y.q.den
 have snn:=len_mul x.q.num.natAbs y.q.num.natAbs
 have snd:=len_mul x.q.num.natAbs y.q.den
 have sdn:=len_mul x.q.den y.q.num.natAbs
 refine FSpec.intro fn.rational_Sub (by rfl) (by rfl) (nb9 (by rfl)) fun E hE=>(AW.sg hE rfl (bxA rfl rfl fun b2=>(bxA rfl rfl fun b3=>(al z.Rat rfl fun b4=>(OL.nil (AW.seq (AW.dg 1 [0,1,2,3,4,5,6,7] order_free hE rfl (by kernel_rfl) (OI.of_OL (os:=[_,_,_,_,_,_,_,_]) rfl ?_))))))))
 refine ldPA ag.Rat rfl rfl (vs:=[_,_,_]) rfl (nb9 rfl) (cl (rational_of hx) rfl vL (ldPA ag.Rat rfl rfl (vs:=[_,_,_]) rfl (nb9 rfl) (cl (rational_of hy) rfl vL (cl fraction_negative rfl vL (cl (fraction_plus (by omega) (by omega) (by omega) (by omega)) rfl vL (cl (fraction_rat (Nat.le_trans (len_plus sn1 sn2 sd1 sd2) (by omega)) (by omega) (Nat.mul_ne_zero x.q.den_nz y.q.den_nz)) rfl vL ?_))))))
 rw [fr_plus x.q.den_nz y.q.den_nz,← fr_neg,fr_ofQ,fr_ofQ,← Rat.sub_eq_add_neg]
 exact sto sz.Rat rfl rfl rfl rfl rfl (nb9 rfl) (cells2:=[_,_,_]) rfl (OL.nil (AW.ret (RetQ.r ⟨_,.cellA rfl rfl ag.Rat (nb9 rfl) .nil,.ag (.cons (.le vR) (.cons (.le vR) (.cons (.le vR) (.nil))))⟩)))
theorem rational_Mul {x y:Raw}(hx:x.Ok)(hy:y.Ok):FSpec P F.rational_Mul [vRaw x,vRaw y] (vRaw (ofQ (x.q*y.q))):=by
 have a1:=q_sz hx hx.ln hx.ld (by decide)
 have a2:=q_sz hy hy.ln hy.ld (by decide)
 have sn1:=sz_num x.q
 have sn2:=sz_num y.q
 have sd1:=sz_den x.q
 have sd2:=sz_den y.q
 have sdd:=len_mul x.q.den y.q.den
 have snn:=len_mul x.q.num.natAbs y.q.num.natAbs
 have snd:=len_mul x.q.num.natAbs y.q.den
 have sdn:=len_mul x.q.den y.q.num.natAbs
 refine FSpec.intro fn.rational_Mul (by rfl) (by rfl) (nb9 (by rfl)) fun E hE=>(AW.sg hE rfl (bxA rfl rfl fun b2=>(bxA rfl rfl fun b3=>(al z.Rat rfl fun b4=>(OL.nil (AW.seq (AW.dg 1 [0,1,2,3,4,5,6,7] order_free hE rfl (by kernel_rfl) (OI.of_OL (os:=[_,_,_,_,_,_,_,_]) rfl ?_))))))))
 refine ldPA ag.Rat rfl rfl (vs:=[_,_,_]) rfl (nb9 rfl) (cl (rational_of hx) rfl vL (ldPA ag.Rat rfl rfl (vs:=[_,_,_]) rfl (nb9 rfl) (cl (rational_of hy) rfl vL (al z.fraction rfl fun b5=>(al z.fraction rfl fun b6=>(sto sz.fraction rfl rfl rfl rfl rfl (nb9 rfl) (cells2:=[_,_,_]) rfl (sto sz.fraction rfl rfl rfl rfl rfl (nb9 rfl) (cells2:=[_,_,_]) rfl ?_)))))))
 refine OL.nil (AW.seq (AW.dg 1 [0,1,2,3,4,5,6,7,8,9,10,11,12,13,14,15,16,17] order_free hE rfl (by kernel_rfl) (OI.of_OL (os:=[_,_,_,_,_,_,_,_,_,_,_,_,_,_,_,_,_,_]) rfl ?_)))
 refine faP fd.fraction_0 rfl rfl (ldPC ce.bool rfl rfl rfl (faP fd.fraction_0 rfl rfl (ldPC ce.bool rfl rfl rfl (neb bt.bool rfl rfl (faP fd.fraction_1 rfl rfl (ldPC ce.limbs rfl rfl rfl (faP fd.fraction_1 rfl rfl ?_)))))))
 refine ldPC ce.limbs rfl rfl rfl (cl (limbs_times (lim_Lim _) (lim_Lim _) (by omega) (by omega)) rfl vL ?_)
 rw [val_lim,val_lim]
 refine faP fd.fraction_2 rfl rfl (ldPC ce.limbs rfl rfl rfl (faP fd.fraction_2 rfl rfl (ldPC ce.limbs rfl rfl rfl (cl (limbs_times (lim_Lim _) (lim_Lim _) (by omega) (by omega)) rfl vL ?_))))
 rw [val_lim,val_lim]
 refine bd z.fraction pl.fraction (cs:=[_,_,_]) rfl (cl (fraction_rat (by omega) (by omega) (Nat.mul_ne_zero x.q.den_nz y.q.den_nz)) rfl vL ?_)
 rw [show ∀ p q:Bool,(!(p == q))=(p != q) from fun _ _=>rfl,← fr_mul,fr_ofQ,fr_ofQ]
 exact sto sz.Rat rfl rfl rfl rfl rfl (nb9 rfl) (cells2:=[_,_,_]) rfl (OL.nil (AW.ret (RetQ.r ⟨_,.cellA rfl rfl ag.Rat (nb9 rfl) .nil,.ag (.cons (.le vR) (.cons (.le vR) (.cons (.le vR) (.nil))))⟩)))
theorem rational_Div {x y:Raw}(hx:x.Ok)(hy:y.Ok):FSpec P F.rational_Div [vRaw x,vRaw y] (.tup [vRaw (ofQ (if y.q=0 then 0 else x.q / y.q)),.d (dI (if y.q=0 then 11 else 0))]):=by
 have a1:=q_sz hx hx.ln hx.ld (by decide)
 have a2:=q_sz hy hy.ln hy.ld (by decide)
 have sn1:=sz_num x.q
 have sn2:=sz_num y.q
 have sd1:=sz_den x.q
 have sd2:=sz_den y.q
 have sdd:=len_mul x.q.den y.q.den
 have snn:=len_mul x.q.num.natAbs y.q.num.natAbs
 have snd:=len_mul x.q.num.natAbs y.q.den
 have sdn:=len_mul x.q.den y.q.num.natAbs
 refine FSpec.intro fn.rational_Div (by rfl) (by rfl) (nb9 (by rfl)) fun E hE=>(AW.sg hE rfl (bxA rfl rfl fun b2=>(bxA rfl rfl fun b3=>(al z.Rat rfl fun b4=>(asD rfl (OL.nil (AW.seq ?_)))))))
 refine AW.dg 1 [0,1,2,3,4,5,6,7] order_free hE rfl (by kernel_rfl) (OI.of_OL (os:=[_,_,_,_,_,_,_,_]) rfl ?_)
 refine ldPA ag.Rat rfl rfl (vs:=[_,_,_]) rfl (nb9 rfl) (cl (rational_of hx) rfl vL (ldPA ag.Rat rfl rfl (vs:=[_,_,_]) rfl (nb9 rfl) (cl (rational_of hy) rfl vL (al z.fraction rfl fun b6=>(al z.fraction rfl fun b7=>(sto sz.fraction rfl rfl rfl rfl rfl (nb9 rfl) (cells2:=[_,_,_]) rfl (sto sz.fraction rfl rfl rfl rfl rfl (nb9 rfl) (cells2:=[_,_,_]) rfl ?_)))))))
 refine OL.nil (AW.seq (AW.sg hE rfl (faP fd.fraction_1 rfl rfl (ldPC ce.limbs rfl rfl rfl (lnL sl.limbs rfl rfl (c_eql rfl rfl rfl (OL.nil ?_)))))))
 refine AW.cond rfl (fun h=>?_) (fun h=>?_)
 ·have h:y.q=0:=Rat.num_eq_zero.1 (by have:=lim_length_zero.1 (show (lim y.q.num.natAbs).length=0 by have:=dt9 h;omega);omega)
  rw [if_pos h,if_pos h,ofQ_zero]
  exact AW.sg hE rfl (bd z.Rat pl.Rat (cs:=[_,_,_]) rfl (sto sz.Rat rfl rfl rfl rfl rfl (nb9 rfl) (cells2:=[_,_,_]) rfl (asD rfl (OL.nil (AW.ret (RetQ.r ⟨_,.cellA rfl rfl ag.Rat (nb9 rfl) (.tmp rfl .nil),[_,_],.cons (.ag (.cons (.le vR) (.cons (.le VLe.mt) (.cons (.le VLe.mt) (.nil))))) (.cons (.le vR) .nil),rfl⟩))))))
 ·have h:y.q≠0:=fun e=>by have:=df9 h;rw [e,show (0:Rat).num.natAbs=0 from rfl,lim_zero] at this;exact this rfl
  have hn0:y.q.num.natAbs≠0:=fun e=>h (Rat.num_eq_zero.1 (by omega))
  rw [if_neg h,if_neg h]
  refine AW.skip (AW.seq (AW.dg 1 [0,1,2,3,4,5,6,7,8,9,10,11,12,13,14,15,16,17,18] order_free hE rfl (by kernel_rfl) (OI.of_OL (os:=[_,_,_,_,_,_,_,_,_,_,_,_,_,_,_,_,_,_,_]) rfl ?_)))
  refine faP fd.fraction_0 rfl rfl (ldPC ce.bool rfl rfl rfl (faP fd.fraction_0 rfl rfl (ldPC ce.bool rfl rfl rfl (neb bt.bool rfl rfl (faP fd.fraction_1 rfl rfl (ldPC ce.limbs rfl rfl rfl (faP fd.fraction_2 rfl rfl ?_)))))))
  refine ldPC ce.limbs rfl rfl rfl (cl (limbs_times (lim_Lim _) (lim_Lim _) (by omega) (by omega)) rfl vL ?_)
  rw [val_lim,val_lim]
  refine faP fd.fraction_2 rfl rfl (ldPC ce.limbs rfl rfl rfl (faP fd.fraction_1 rfl rfl (ldPC ce.limbs rfl rfl rfl (cl (limbs_times (lim_Lim _) (lim_Lim _) (by omega) (by omega)) rfl vL ?_))))
  rw [val_lim,val_lim]
  refine bd z.fraction pl.fraction (cs:=[_,_,_]) rfl (cl (fraction_rat (by omega) (by omega) (Nat.mul_ne_zero x.q.den_nz hn0)) rfl vL ?_)
  rw [show ∀ p q:Bool,(!(p == q))=(p != q) from fun _ _=>rfl,← fr_div x.q.den_nz y.q.den_nz hn0,fr_ofQ,fr_ofQ]
  exact sto sz.Rat rfl rfl rfl rfl rfl (nb9 rfl) (cells2:=[_,_,_]) rfl (asD rfl (OL.nil (AW.ret (RetQ.r ⟨_,.cellA rfl rfl ag.Rat (nb9 rfl) (.tmp rfl .nil),[_,_],.cons (.ag (.cons (.le vR) (.cons (.le vR) (.cons (.le vR) (.nil))))) (.cons (.le vR) .nil),rfl⟩))))
theorem rational_Sign {x:Raw}(hx:x.Ok):FSpec P F.rational_Sign [vRaw x] (.d (dI (sgnQ x.q))):=by
 have a1:=q_sz hx hx.ln hx.ld (by decide)
 have sn1:=sz_num x.q
 refine FSpec.intro fn.rational_Sign (by rfl) (by rfl) (nb9 (by rfl)) fun E hE=>(AW.sg hE rfl (bxA rfl rfl fun b1=>(asD rfl (OL.nil (AW.seq (AW.sg hE rfl (ldPA ag.Rat rfl rfl (vs:=[_,_,_]) rfl (nb9 rfl) ?_)))))))
 refine cl (rational_of hx) rfl vL (al z.fraction rfl fun b3=>(sto sz.fraction rfl rfl rfl rfl rfl (nb9 rfl) (cells2:=[_,_,_]) rfl (OL.nil (AW.block (AW.sg hE rfl (faP fd.fraction_1 rfl rfl (ldPC ce.limbs rfl rfl rfl ?_)))))))
 refine lnL sl.limbs rfl rfl (c_eql rfl rfl rfl (asD rfl (OL.nil (AW.cond rfl (fun h=>?_) (fun h=>?_)))))
 ·have h:x.q.num=0:=by have:=lim_length_zero.1 (show (lim x.q.num.natAbs).length=0 by have:=dt9 h;omega);omega
  exact AW.sg hE rfl (asD rfl (OL.nil (AW.ret (RetQ.r ⟨_,.tmp rfl .nil,.le (VLe.int ((sgnQ_num_eq.2 h).symm))⟩))))
 ·have h:x.q.num≠0:=fun e=>by have:=df9 h;rw [e,show (0:Int).natAbs=0 from rfl,lim_zero] at this;exact this rfl
  refine AW.sg hE rfl (faP fd.fraction_0 rfl rfl (ldPC ce.bool rfl rfl rfl (asD rfl (OL.nil (AW.cond rfl (fun h2=>?_) (fun h2=>?_))))))
  ·have h2:=dt9 h2
   exact AW.sg hE rfl (asD rfl (OL.nil (AW.ret (RetQ.r ⟨_,.tmp rfl .nil,.le (VLe.int ((sgnQ_num_neg.2 h2).symm))⟩))))
  ·have h2:=df9 h2
   exact AW.skip (AW.sg hE rfl (asD rfl (OL.nil (AW.ret (RetQ.r ⟨_,.tmp rfl .nil,.le (VLe.int (by unfold sgnQ;rw [if_neg h2,if_neg h]))⟩)))))
theorem rational_Compare {x y:Raw}(hx:x.Sm)(hy:y.Sm):FSpec P F.rational_Compare [vRaw x,vRaw y] (.d (dI (cmpQ x.q y.q))):=by
 have a1:=hx.q
 have a2:=hy.q
 have a3:=sz_sub x.q y.q
 refine FSpec.intro fn.rational_Compare (by rfl) (by rfl) (nb9 (by rfl)) fun E hE=>(AW.sg hE rfl (bxA rfl rfl fun b2=>(bxA rfl rfl fun b3=>(asD rfl (OL.nil (AW.sg hE rfl (ldPA ag.Rat rfl rfl (vs:=[_,_,_]) rfl (nb9 rfl) ?_)))))))
 refine ldPA ag.Rat rfl rfl (vs:=[_,_,_]) rfl (nb9 rfl) (cl (rational_Sub hx.ok hy.ok) rfl vL (cl (rational_Sign (ofQ_ok (by omega))) rfl vL ?_))
 rw [q_ofQ]
 exact asD rfl (OL.nil (AW.ret (RetQ.r ⟨_,.tmp rfl .nil,.le vR⟩)))
end Go.Proofs.YtocehciipjhlkaaGreatDoor

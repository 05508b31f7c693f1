/-
  Walks of package rational, part 5: sums, products, comparisons (printed by mk.py).
-/
import Derived.Test.YtnjoncgnjdkaoaaGreatDoorKRatA
set_option linter.unusedVariables false
set_option linter.unusedSimpArgs false
namespace Go.Proofs.YtnjoncgnjdkaoaaGreatDoor
open Go Go.AL
theorem qY {s:Bool}{n d:Nat}(nn:(lim n).length<=1099511627776)(nd:(lim d).length<=1099511627776)(hd:d≠0):aj P F.lG [vFr s n d] (qc (fP (fr s n d))):=by
 refine aj.intro fn.lG (by rfl) (by rfl) (aA (by rfl)) λE hE=>(AW.sg hE rfl (gW rfl rfl λb1=>(al z.Rat rfl λb2=>(OL.nil (AW.seq (AW.sg hE rfl (aV fd.lq rfl rfl ?_)))))))
 refine aG ce.limbs rfl rfl rfl (fJ sl.limbs rfl rfl (dG rfl rfl rfl (OL.nil (AW.cond rfl (λh=>?_) (λh=>?_)))))
 .have h:n=0:=dF.1 (by have:=kK h;omega)
  subst h;rw[QL,rX];exact AW.sg hE rfl (bd z.Rat pl.Rat (cs:=[_,_,_]) rfl (fG sz.Rat rfl rfl rfl rfl rfl (aA rfl) (cells2:=[_,_,_]) rfl (OL.nil (AW.ret (aO.r ⟨_,.dL rfl rfl ag.Rat (aA rfl) .nil,.ag (.cons (.le vR) (.cons (.le bG.mt) (.cons (.le bG.mt) (.nil))))⟩)))))
 .have h:n≠0:=λe=>by have:=lD h;rw[e,dR] at this;exact this rfl
  have hgp:0<Nat.gcd n d:=Nat.gcd_pos_of_pos_left d (Nat.pos_of_ne_zero h);have hgl:=rF (Nat.gcd_le_left d (Nat.pos_of_ne_zero h));have hdl:=rF (Nat.div_le_self d (Nat.gcd n d));rw[QM h hd];refine AW.skip (AW.seq (AW.dg 1 [0,1,2,3,4,5,6,7] au hE rfl (by kernel_rfl) (OI.aS (os:=[_,_,_,_,_,_,_,_]) rfl ?_)))
  refine aV fd.lq rfl rfl (aG ce.limbs rfl rfl rfl (cl (Jy (by omega)) rfl vL (aV fd.nH rfl rfl (aG ce.limbs rfl rfl rfl (cl (Jy (by omega)) rfl vL (aC rfl (aC rfl ?_)))))))
  refine OL.nil ?_;refine AW.mid (α:=Unit) (λ_u=>[(1,.ptr 1 b1 0),(2,.ptr 2 b2 0),(3,.d (aF (lim (n / Nat.gcd n d)))),(4,.d (aF (lim (d / Nat.gcd n d))))]) (λ_u=>[(1,.box b1 T.fraction [.d (dB s),.d (aF (lim n)),.d (aF (lim d))]),(2,.box b2 T.Rat [.d (dB false),.mt,.mt])]) (λ_u=>True) ?_ ?_
  .refine AW.sg hE rfl (ai rfl (ai rfl (cl (O3 nn nd) rfl vL (aC rfl (OL.nil (AW.sg hE rfl (ai rfl ?_)))))));refine cl jb rfl vL (cl (yx (aZ _) (aZ 1) (by omega) (by have:=qM (g:=1) (by decide);omega)) rfl vL ?_)
   rw[bf,bf];refine fC rfl rfl rfl (OL.nil (AW.cond rfl (λh1=>?_) (λh1=>?_)))
   .have _h1:=h1;refine AW.sg hE rfl (ai rfl (ai rfl (cl (F5 (aZ n) nn (by omega) (by omega)) rfl vL ?_)))
    rw[bf];refine yu rfl (ex rfl rfl (ex rfl rfl (aC rfl (OL.nil (AW.rg hE rfl (ai rfl (ai rfl ?_)))))));refine cl (F5 (aZ d) nd (by omega) (by omega)) rfl vL ?_
    rw[bf];exact yu rfl (ex rfl rfl (ex rfl rfl (aC rfl (OL.nil (AW.reach () ⟨trivial,.GL,.cons rfl (.cons rfl .nil)⟩)))))
   .have h1:Nat.gcd n d=1:=yw.1 (BV h1);exact AW.skip (AW.reach () ⟨trivial,.cons vR (.cons vR (.cons (aB (by rw[h1,Nat.div_one];rfl)) (.cons (aB (by rw[h1,Nat.div_one];rfl)) .nil))),.cons rfl (.cons rfl .nil)⟩)
  rintro⟨⟩ -
  refine AW.seq (AW.sg hE rfl (ai rfl (cl jb rfl vL (cl (yx (aZ _) (aZ 1) (by omega) (by have:=qM (g:=1) (by decide);omega)) rfl vL ?_))))
  rw[bf,bf];refine dG rfl rfl rfl (OL.nil (AW.cond rfl (λh2=>?_) (λh2=>?_)))
  .have h2:d / Nat.gcd n d=1:=yw.1 (kK h2);refine AW.rg hE rfl (jg rfl (OL.nil (AW.sg hE rfl (aV fd.jr rfl rfl (aG ce.bool rfl rfl rfl (ai rfl (mvM rfl ?_)))))));exact bd z.Rat pl.Rat (cs:=[_,_,_]) rfl (fG sz.Rat rfl rfl rfl rfl rfl (aA rfl) (cells2:=[_,_,_]) rfl (OL.nil (AW.ret (aO.r ⟨_,.dL rfl rfl ag.Rat (aA rfl) .nil,.ag (.cons (.le vR) (.cons (.le vR) (.cons (.le (by rw[if_pos h2];exact bG.mt)) (.nil))))⟩))))
  .have h2:d / Nat.gcd n d≠1:=λe=>lD h2 (yw.2 e);refine AW.skip (AW.sg hE rfl (aV fd.jr rfl rfl (aG ce.bool rfl rfl rfl (ai rfl (ai rfl (bd z.Rat pl.Rat (cs:=[_,_,_]) rfl (fG sz.Rat rfl rfl rfl rfl rfl (aA rfl) (cells2:=[_,_,_]) rfl ?_)))))));exact OL.nil (AW.ret (aO.r ⟨_,.dL rfl rfl ag.Rat (aA rfl) .nil,.ag (.cons (.le vR) (.cons (.le vR) (.cons (.le (aB (by rw[if_neg h2]))) (.nil))))⟩))
theorem lm {v:Int}(hv:-9223372036854775808<=v/\v<=9223372036854775807):aj P F.lm [.d (dI v)] (.jE [.d (dB (decide (v<0))),.d (aF (lim v.natAbs))]):=by
 refine aj.intro fn.lm (by rfl) (by rfl) (aA (by rfl)) λE hE=>(AW.sg hE rfl (aC rfl (jg rfl (OL.nil (AW.sg hE rfl (ai rfl (cv it.int it.u64 rfl (c:=v % 18446744073709551616) (BU _) ?_)))))))
 refine aC rfl (OL.nil (AW.mid (α:=Unit) (λ_u=>[(0,.d (dI v)),(4,.d (dU v.natAbs))]) (λ_u=>[]) (λ_u=>True) ?_ ?_))
 .refine AW.sg hE rfl (ai rfl (aX rfl rfl rfl (OL.nil (AW.cond rfl (λh=>?_) (λh=>?_)))))
  .have h:=kK h;exact AW.rg hE rfl (ai rfl (ng rfl (c:=(v.natAbs:Int)) (by rw[BU];omega) (aC rfl (OL.nil (AW.reach () ⟨trivial,.gy,.nil⟩)))))
  .have h:=lD h;exact AW.skip (AW.reach () ⟨trivial,.cons vR (.cons (bG.int (by omega)) .nil),.nil⟩)
 rintro⟨⟩ -
 refine AW.sg hE rfl (ai rfl (aX rfl rfl rfl (ai rfl (cv it.u64 it.u32 rfl (c:=((v.natAbs % 4294967296:Nat):Int)) (by rw[gq];omega) (ai rfl (Jq rfl rfl rfl (cv it.u64 it.u32 rfl (c:=((v.natAbs / 4294967296:Nat):Int)) (by rw[gq];omega) ?_)))))))
 refine lt2 sl.limbs (VC.d _).vd (VC.d _).vd ⟨rfl,rfl⟩ (by decide) (cl (kV (L:=[v.natAbs % 4294967296,v.natAbs / 4294967296]) (.cons (by omega) (.cons (by omega) .nil)) (by simp)) rfl vL ?_)
 rw[show val [v.natAbs % 4294967296,v.natAbs / 4294967296]=v.natAbs by simp only[iY,iW];omega]
 exact aC rfl (aC rfl (OL.nil (AW.ret (aO.r ⟨_,.tmp rfl (.tmp rfl .nil),_,.cons (.le vR) (.cons (.le vR) .nil),rfl⟩))))
theorem nD {n d:Int}(hn:-9223372036854775808<=n/\n<=9223372036854775807)(hd:-9223372036854775808<=d/\d<=9223372036854775807)(h0:d≠0):aj P F.nD [.d (dI n),.d (dI d)] (.jE [qc (fP ((n:Rat) / (d:Rat))),.d (dI 0)]):=by
 have e1:(lim n.natAbs).length<=2:=dN (by show n.natAbs<18446744073709551616;omega)
 have e2:(lim d.natAbs).length<=2:=dN (by show d.natAbs<18446744073709551616;omega)
 refine aj.intro fn.nD (by rfl) (by rfl) (aA (by rfl)) λE hE=>(AW.sg hE rfl (al z.Rat rfl λb4=>(aC rfl (OL.nil (AW.seq (AW.sg hE rfl (ai rfl ?_)))))))
 refine dG rfl rfl rfl (OL.nil (AW.cond rfl (λhno=>absurd hno (by simpa using h0)) (λ_=>?_)))
 refine AW.skip (AW.sg hE rfl (ai rfl (cl (lm hn) rfl vL (yu rfl (ex rfl rfl (ex rfl rfl (aC rfl ?_)))))));refine aC rfl (OL.nil (AW.sg hE rfl (ai rfl (cl (lm hd) rfl vL (yu rfl (ex rfl rfl (ex rfl rfl ?_)))))));refine aC rfl (aC rfl (OL.nil (AW.sg hE rfl (ai rfl (ai rfl (neb bt.bool rfl rfl (ai rfl ?_)))))));refine ai rfl (bd z.fraction pl.fraction (cs:=[_,_,_]) rfl (cl (qY (by omega) (by omega) (by omega)) rfl vL ?_))
 rw[show (!(decide (n<0) == decide (d<0)))=(decide (n<0) != decide (d<0)) from rfl,KZ]
 exact fG sz.Rat rfl rfl rfl rfl rfl (aA rfl) (cells2:=[_,_,_]) rfl (aC rfl (OL.nil (AW.ret (aO.r ⟨_,.dL rfl rfl ag.Rat (aA rfl) (.tmp rfl .nil),[_,_],.cons (.ag (.cons (.le vR) (.cons (.le vR) (.cons (.le vR) (.nil))))) (.cons (.le vR) .nil),rfl⟩))))
theorem oO {x y:Raw}(hx:x.Ok)(hy:y.Ok):aj P F.oO [qc x,qc y] (qc (fP (x.q+y.q))):=by
 have a1:=DV hx hx.ln hx.ld (by decide)
 have a2:=DV hy hy.ln hy.ld (by decide)
 have sn1:=jT x.q;have sn2:=jT y.q;have sd1:=jU x.q;have sd2:=jU y.q;have sdd:=fQ x.q.den y.q.den;refine aj.intro fn.oO (by rfl) (by rfl) (aA (by rfl)) λE hE=>(AW.sg hE rfl (gW rfl rfl λb2=>(gW rfl rfl λb3=>(al z.Rat rfl λb4=>(OL.nil (AW.seq (AW.dg 1 [0,1,2,3,4,5,6] au hE rfl (by kernel_rfl) (OI.aS (os:=[_,_,_,_,_,_,_]) rfl ?_))))))))
 refine aN ag.Rat rfl rfl (vs:=[_,_,_]) rfl (aA rfl) (cl (gJ hx) rfl vL (aN ag.Rat rfl rfl (vs:=[_,_,_]) rfl (aA rfl) (cl (gJ hy) rfl vL (cl (FM (by omega) (by omega) (by omega) (by omega)) rfl vL (cl (qY (Nat.le_trans (GX sn1 sn2 sd1 sd2) (by omega)) (by omega) (Nat.mul_ne_zero x.q.den_nz y.q.den_nz)) rfl vL ?_)))))
 rw[J7 x.q.den_nz y.q.den_nz,lT,lT];exact fG sz.Rat rfl rfl rfl rfl rfl (aA rfl) (cells2:=[_,_,_]) rfl (OL.nil (AW.ret (aO.r ⟨_,.dL rfl rfl ag.Rat (aA rfl) .nil,.ag (.cons (.le vR) (.cons (.le vR) (.cons (.le vR) (.nil))))⟩)))
theorem mG {x y:Raw}(hx:x.Ok)(hy:y.Ok):aj P F.mG [qc x,qc y] (qc (fP (x.q-y.q))):=by
 have a1:=DV hx hx.ln hx.ld (by decide)
 have a2:=DV hy hy.ln hy.ld (by decide)
 have sn1:=jT x.q;have sn2:=jT y.q;have sd1:=jU x.q;have sd2:=jU y.q;have sdd:=fQ x.q.den y.q.den;have snn:=fQ x.q.num.natAbs y.q.num.natAbs;have snd:=fQ x.q.num.natAbs y.q.den;have sdn:=fQ x.q.den y.q.num.natAbs;refine aj.intro fn.mG (by rfl) (by rfl) (aA (by rfl)) λE hE=>(AW.sg hE rfl (gW rfl rfl λb2=>(gW rfl rfl λb3=>(al z.Rat rfl λb4=>(OL.nil (AW.seq (AW.dg 1 [0,1,2,3,4,5,6,7] au hE rfl (by kernel_rfl) (OI.aS (os:=[_,_,_,_,_,_,_,_]) rfl ?_))))))))
 refine aN ag.Rat rfl rfl (vs:=[_,_,_]) rfl (aA rfl) (cl (gJ hx) rfl vL (aN ag.Rat rfl rfl (vs:=[_,_,_]) rfl (aA rfl) (cl (gJ hy) rfl vL (cl Aq rfl vL (cl (FM (by omega) (by omega) (by omega) (by omega)) rfl vL (cl (qY (Nat.le_trans (GX sn1 sn2 sd1 sd2) (by omega)) (by omega) (Nat.mul_ne_zero x.q.den_nz y.q.den_nz)) rfl vL ?_))))))
 rw[J7 x.q.den_nz y.q.den_nz,<- ae9,lT,lT,<- Rat.sub_eq_add_neg];exact fG sz.Rat rfl rfl rfl rfl rfl (aA rfl) (cells2:=[_,_,_]) rfl (OL.nil (AW.ret (aO.r ⟨_,.dL rfl rfl ag.Rat (aA rfl) .nil,.ag (.cons (.le vR) (.cons (.le vR) (.cons (.le vR) (.nil))))⟩)))
theorem oL {x y:Raw}(hx:x.Ok)(hy:y.Ok):aj P F.oL [qc x,qc y] (qc (fP (x.q*y.q))):=by
 have a1:=DV hx hx.ln hx.ld (by decide)
 have a2:=DV hy hy.ln hy.ld (by decide)
 have sn1:=jT x.q;have sn2:=jT y.q;have sd1:=jU x.q;have sd2:=jU y.q;have sdd:=fQ x.q.den y.q.den;have snn:=fQ x.q.num.natAbs y.q.num.natAbs;have snd:=fQ x.q.num.natAbs y.q.den;have sdn:=fQ x.q.den y.q.num.natAbs;refine aj.intro fn.oL (by rfl) (by rfl) (aA (by rfl)) λE hE=>(AW.sg hE rfl (gW rfl rfl λb2=>(gW rfl rfl λb3=>(al z.Rat rfl λb4=>(OL.nil (AW.seq (AW.dg 1 [0,1,2,3,4,5,6,7] au hE rfl (by kernel_rfl) (OI.aS (os:=[_,_,_,_,_,_,_,_]) rfl ?_))))))))
 refine aN ag.Rat rfl rfl (vs:=[_,_,_]) rfl (aA rfl) (cl (gJ hx) rfl vL (aN ag.Rat rfl rfl (vs:=[_,_,_]) rfl (aA rfl) (cl (gJ hy) rfl vL (al z.fraction rfl λb5=>(al z.fraction rfl λb6=>(fG sz.fraction rfl rfl rfl rfl rfl (aA rfl) (cells2:=[_,_,_]) rfl (fG sz.fraction rfl rfl rfl rfl rfl (aA rfl) (cells2:=[_,_,_]) rfl ?_)))))));refine OL.nil (AW.seq (AW.dg 1 [0,1,2,3,4,5,6,7,8,9,10,11,12,13,14,15,16,17] au hE rfl (by kernel_rfl) (OI.aS (os:=[_,_,_,_,_,_,_,_,_,_,_,_,_,_,_,_,_,_]) rfl ?_)))
 refine aV fd.jr rfl rfl (aG ce.bool rfl rfl rfl (aV fd.jr rfl rfl (aG ce.bool rfl rfl rfl (neb bt.bool rfl rfl (aV fd.lq rfl rfl (aG ce.limbs rfl rfl rfl (aV fd.lq rfl rfl ?_)))))));refine aG ce.limbs rfl rfl rfl (cl (oD (aZ _) (aZ _) (by omega) (by omega)) rfl vL ?_)
 rw[bf,bf];refine aV fd.nH rfl rfl (aG ce.limbs rfl rfl rfl (aV fd.nH rfl rfl (aG ce.limbs rfl rfl rfl (cl (oD (aZ _) (aZ _) (by omega) (by omega)) rfl vL ?_))))
 rw[bf,bf];refine bd z.fraction pl.fraction (cs:=[_,_,_]) rfl (cl (qY (by omega) (by omega) (Nat.mul_ne_zero x.q.den_nz y.q.den_nz)) rfl vL ?_)
 rw[show ∀ p q:Bool,(!(p == q))=(p != q) from λ_ _=>rfl,<- QN,lT,lT]
 exact fG sz.Rat rfl rfl rfl rfl rfl (aA rfl) (cells2:=[_,_,_]) rfl (OL.nil (AW.ret (aO.r ⟨_,.dL rfl rfl ag.Rat (aA rfl) .nil,.ag (.cons (.le vR) (.cons (.le vR) (.cons (.le vR) (.nil))))⟩)))
theorem oK {x y:Raw}(hx:x.Ok)(hy:y.Ok):aj P F.oK [qc x,qc y] (.jE [qc (fP (if y.q=0 then 0 else x.q / y.q)),.d (dI (if y.q=0 then 11 else 0))]):=by
 have a1:=DV hx hx.ln hx.ld (by decide)
 have a2:=DV hy hy.ln hy.ld (by decide)
 have sn1:=jT x.q;have sn2:=jT y.q;have sd1:=jU x.q;have sd2:=jU y.q;have sdd:=fQ x.q.den y.q.den;have snn:=fQ x.q.num.natAbs y.q.num.natAbs;have snd:=fQ x.q.num.natAbs y.q.den;have sdn:=fQ x.q.den y.q.num.natAbs;refine aj.intro fn.oK (by rfl) (by rfl) (aA (by rfl)) λE hE=>(AW.sg hE rfl (gW rfl rfl λb2=>(gW rfl rfl λb3=>(al z.Rat rfl λb4=>(aC rfl (OL.nil (AW.seq ?_)))))))
 refine AW.dg 1 [0,1,2,3,4,5,6,7] au hE rfl (by kernel_rfl) (OI.aS (os:=[_,_,_,_,_,_,_,_]) rfl ?_)
 refine aN ag.Rat rfl rfl (vs:=[_,_,_]) rfl (aA rfl) (cl (gJ hx) rfl vL (aN ag.Rat rfl rfl (vs:=[_,_,_]) rfl (aA rfl) (cl (gJ hy) rfl vL (al z.fraction rfl λb6=>(al z.fraction rfl λb7=>(fG sz.fraction rfl rfl rfl rfl rfl (aA rfl) (cells2:=[_,_,_]) rfl (fG sz.fraction rfl rfl rfl rfl rfl (aA rfl) (cells2:=[_,_,_]) rfl ?_)))))));refine OL.nil (AW.seq (AW.sg hE rfl (aV fd.lq rfl rfl (aG ce.limbs rfl rfl rfl (fJ sl.limbs rfl rfl (dG rfl rfl rfl (OL.nil ?_)))))));refine AW.cond rfl (λh=>?_) (λh=>?_)
 .have h:y.q=0:=Rat.num_eq_zero.1 (by have:=dF.1 (show (lim y.q.num.natAbs).length=0 by have:=kK h;omega);omega)
  rw[if_pos h,if_pos h,rX];exact AW.sg hE rfl (bd z.Rat pl.Rat (cs:=[_,_,_]) rfl (fG sz.Rat rfl rfl rfl rfl rfl (aA rfl) (cells2:=[_,_,_]) rfl (aC rfl (OL.nil (AW.ret (aO.r ⟨_,.dL rfl rfl ag.Rat (aA rfl) (.tmp rfl .nil),[_,_],.cons (.ag (.cons (.le vR) (.cons (.le bG.mt) (.cons (.le bG.mt) (.nil))))) (.cons (.le vR) .nil),rfl⟩))))))
 .have h:y.q≠0:=λe=>by have:=lD h;rw[e,show (0:Rat).num.natAbs=0 from rfl,dR] at this;exact this rfl
  have hn0:y.q.num.natAbs≠0:=λe=>h (Rat.num_eq_zero.1 (by omega))
  rw[if_neg h,if_neg h];refine AW.skip (AW.seq (AW.dg 1 [0,1,2,3,4,5,6,7,8,9,10,11,12,13,14,15,16,17,18] au hE rfl (by kernel_rfl) (OI.aS (os:=[_,_,_,_,_,_,_,_,_,_,_,_,_,_,_,_,_,_,_]) rfl ?_)))
  refine aV fd.jr rfl rfl (aG ce.bool rfl rfl rfl (aV fd.jr rfl rfl (aG ce.bool rfl rfl rfl (neb bt.bool rfl rfl (aV fd.lq rfl rfl (aG ce.limbs rfl rfl rfl (aV fd.nH rfl rfl ?_)))))));refine aG ce.limbs rfl rfl rfl (cl (oD (aZ _) (aZ _) (by omega) (by omega)) rfl vL ?_)
  rw[bf,bf];refine aV fd.nH rfl rfl (aG ce.limbs rfl rfl rfl (aV fd.lq rfl rfl (aG ce.limbs rfl rfl rfl (cl (oD (aZ _) (aZ _) (by omega) (by omega)) rfl vL ?_))))
  rw[bf,bf];refine bd z.fraction pl.fraction (cs:=[_,_,_]) rfl (cl (qY (by omega) (by omega) (Nat.mul_ne_zero x.q.den_nz hn0)) rfl vL ?_)
  rw[show ∀ p q:Bool,(!(p == q))=(p != q) from λ_ _=>rfl,<- VN x.q.den_nz y.q.den_nz hn0,lT,lT]
  exact fG sz.Rat rfl rfl rfl rfl rfl (aA rfl) (cells2:=[_,_,_]) rfl (aC rfl (OL.nil (AW.ret (aO.r ⟨_,.dL rfl rfl ag.Rat (aA rfl) (.tmp rfl .nil),[_,_],.cons (.ag (.cons (.le vR) (.cons (.le vR) (.cons (.le vR) (.nil))))) (.cons (.le vR) .nil),rfl⟩))))
theorem kU {x:Raw}(hx:x.Ok):aj P F.kU [qc x] (.d (dI (Iz x.q))):=by
 have a1:=DV hx hx.ln hx.ld (by decide)
 have sn1:=jT x.q;refine aj.intro fn.kU (by rfl) (by rfl) (aA (by rfl)) λE hE=>(AW.sg hE rfl (gW rfl rfl λb1=>(aC rfl (OL.nil (AW.seq (AW.sg hE rfl (aN ag.Rat rfl rfl (vs:=[_,_,_]) rfl (aA rfl) ?_)))))))
 refine cl (gJ hx) rfl vL (al z.fraction rfl λb3=>(fG sz.fraction rfl rfl rfl rfl rfl (aA rfl) (cells2:=[_,_,_]) rfl (OL.nil (AW.block (AW.sg hE rfl (aV fd.lq rfl rfl (aG ce.limbs rfl rfl rfl ?_)))))));refine fJ sl.limbs rfl rfl (dG rfl rfl rfl (aC rfl (OL.nil (AW.cond rfl (λh=>?_) (λh=>?_)))))
 .have h:x.q.num=0:=by have:=dF.1 (show (lim x.q.num.natAbs).length=0 by have:=kK h;omega);omega
  exact AW.sg hE rfl (aC rfl (OL.nil (AW.ret (aO.r ⟨_,.tmp rfl .nil,.le (bG.int ((Js.2 h).symm))⟩))))
 .have h:x.q.num≠0:=λe=>by have:=lD h;rw[e,show (0:Int).natAbs=0 from rfl,dR] at this;exact this rfl
  refine AW.sg hE rfl (aV fd.jr rfl rfl (aG ce.bool rfl rfl rfl (aC rfl (OL.nil (AW.cond rfl (λh2=>?_) (λh2=>?_))))))
  .have h2:=kK h2;exact AW.sg hE rfl (aC rfl (OL.nil (AW.ret (aO.r ⟨_,.tmp rfl .nil,.le (bG.int ((GV.2 h2).symm))⟩))))
  .have h2:=lD h2;exact AW.skip (AW.sg hE rfl (aC rfl (OL.nil (AW.ret (aO.r ⟨_,.tmp rfl .nil,.le (bG.int (by unfold Iz;rw[if_neg h2,if_neg h]))⟩)))))
theorem jq {x y:Raw}(hx:x.Sm)(hy:y.Sm):aj P F.jq [qc x,qc y] (.d (dI (YU x.q y.q))):=by
 have a1:=hx.q;have a2:=hy.q;have a3:=QR x.q y.q;refine aj.intro fn.jq (by rfl) (by rfl) (aA (by rfl)) λE hE=>(AW.sg hE rfl (gW rfl rfl λb2=>(gW rfl rfl λb3=>(aC rfl (OL.nil (AW.sg hE rfl (aN ag.Rat rfl rfl (vs:=[_,_,_]) rfl (aA rfl) ?_)))))))
 refine aN ag.Rat rfl rfl (vs:=[_,_,_]) rfl (aA rfl) (cl (mG hx.ok hy.ok) rfl vL (cl (kU (jo (by omega))) rfl vL ?_))
 rw[kz];exact aC rfl (OL.nil (AW.ret (aO.r ⟨_,.tmp rfl .nil,.le vR⟩)))

/-
  Walks of the reference's numbers, part 3: rational numbers (printed by mk2.py).
-/
import Derived.Test.YtnjoncgnjdkaoaaGreatDoorKRefB
set_option linter.unusedVariables false
set_option linter.unusedSimpArgs false
namespace Go.Proofs.YtnjoncgnjdkaoaaGreatDoor
open Go Go.AL
theorem G9 {v:Int}(hv:-9223372036854775808<=v/\v<=9223372036854775807):aj P F.uK [.d (dI v)] (.d (dU v.natAbs)):=by
 refine aj.intro fn.uK (by rfl) (by rfl) (aA (by rfl)) λE hE=>(AW.sg hE rfl (aC rfl (OL.nil (AW.seq (AW.sg hE rfl (ai rfl (aX rfl rfl rfl ?_)))))))
 refine OL.nil (AW.cond rfl (λh4=>?_) (λh4=>?_))
 .try simp only[eG] at h4
  refine AW.sg hE rfl (ai rfl (aH rfl rfl (by omega) (ng rfl (c:=((v.natAbs-1:Nat):Int)) (by rw[wrap_i64 (by omega)];omega) (cv it.int it.u64 rfl (wrap_u64 (by omega)) (wC rfl rfl (by omega) (aC rfl (OL.nil ?_)))))))
  exact AW.ret (aO.r ⟨_,.tmp rfl .nil,.le (bG.int (by omega))⟩)
 .try simp only[eG] at h4
  exact AW.skip (AW.sg hE rfl (ai rfl (cv it.int it.u64 rfl (wrap_u64 (by omega)) (aC rfl (OL.nil (AW.ret (aO.r ⟨_,.tmp rfl .nil,.le (bG.int (by omega))⟩)))))))
theorem O4 {r:Raw}(hr:r.Ok):aj P F.xk [qc r] (.d (dB r.good)):=by
 have n1:=hr.ln;have n2:=hr.ld;have l1:=hr.num;have l2:=hr.den;have cn0:∀ L:List Nat,L.length=0->canon L=true:=λL h=>by rw[Gt h];rfl
 have dn0:∀ L:List Nat,L.length=0->decide (L=[1])=false:=λL h=>by rw[Gt h];rfl
 refine aj.intro fn.xk (by rfl) (by rfl) (aA (by rfl)) λE hE=>(AW.sg hE rfl (gW rfl rfl λb1=>(aC rfl (OL.nil (AW.seq (AW.JU (α:=Unit) [(1,_),(2,_)] [(1,_)] (λ_u=>[(39,.d (dB (!canon r.num || !canon r.den || decide (r.den=[1]))))]) (λ_u=>[]) (λ_u=>True) (.cons (iJ rfl) (.cons (bY rfl) .nil)) (.cons (kC rfl) .nil) ?_ ?_))))))
 .refine AW.rg hE rfl (aV fd.pW rfl rfl (aG ce.aF rfl rfl rfl (fJ sl.aF rfl rfl (gV rfl rfl rfl (ai rfl (OL.split 7 rfl (λg7=>?_) (λg7=>?_)))))))
  .try simp only[eG] at g7
   refine OL.yes rfl (aV fd.pW rfl rfl (OL.yes rfl (aG ce.aF rfl rfl rfl (OL.yes rfl (aV fd.pW rfl rfl (OL.yes rfl (aG ce.aF rfl rfl rfl ?_)))))));refine OL.yes rfl (fJ sl.aF rfl rfl (OL.yes rfl (gu rfl rfl (by omega) (OL.yes rfl (Z9 sl.aF 0 rfl rfl (by omega) (by omega) rfl rfl (OL.yes rfl (iE ce.u32 rfl ?_)))))))
   refine OL.yes rfl (dG rfl rfl rfl (lJ rfl rfl (ai rfl (OL.split 18 rfl (λg18=>?_) (λg18=>?_)))))
   .have g18:canon r.num=false:=by rw[<- tJ (by omega),g18];rfl
    refine OL.nd rfl (OL.nd rfl (OL.nd rfl (OL.nd rfl (OL.nd rfl (OL.nd rfl (OL.nd rfl (OL.nd rfl ?_)))))));refine OL.nd rfl (OL.nd rfl (OL.nd rfl (OL.nd rfl (OL.nd rfl (OL.nd rfl (OL.nd rfl (lJ rfl rfl ?_)))))));exact ai rfl (OL.nd rfl (OL.nd rfl (OL.nd rfl (lJ rfl rfl (OL.nil (AW.reach () ⟨trivial,Knows.app .gy (.cons (bG.bool (by rw[g18];rfl)) .nil),dw.app (.cons rfl .nil) (.nil)⟩))))))
   .have g18:canon r.num=true:=by rw[<- tJ (by omega),g18];rfl
    refine OL.yes rfl (aV fd.nK rfl rfl (OL.yes rfl (aG ce.aF rfl rfl rfl (OL.yes rfl (fJ sl.aF rfl rfl (OL.yes rfl (gV rfl rfl rfl ?_)))))));refine OL.yes rfl (ai rfl (OL.split 23 rfl (λg23=>?_) (λg23=>?_)))
    .try simp only[eG] at g23
     refine OL.yes rfl (aV fd.nK rfl rfl (OL.yes rfl (aG ce.aF rfl rfl rfl (OL.yes rfl (aV fd.nK rfl rfl (OL.yes rfl (aG ce.aF rfl rfl rfl ?_)))))));refine OL.yes rfl (fJ sl.aF rfl rfl (OL.yes rfl (gu rfl rfl (by omega) (OL.yes rfl (Z9 sl.aF 0 rfl rfl (by omega) (by omega) rfl rfl (OL.yes rfl (iE ce.u32 rfl ?_)))))))
     refine OL.yes rfl (dG rfl rfl rfl (OL.yes rfl (lJ rfl rfl (jZ rfl rfl (ai rfl (OL.split 35 rfl (λV5=>?_) (λV5=>?_)))))))
     .have V5:canon r.den=false:=by rw[<- tJ (by omega),V5];rfl
      exact OL.nd rfl (OL.nd rfl (OL.nd rfl (lJ rfl rfl (OL.nil (AW.reach () ⟨trivial,Knows.app .gy (.cons (bG.bool (by rw[g18,V5];rfl)) .nil),dw.app (.cons rfl .nil) (.nil)⟩)))))
     .have V5:canon r.den=true:=by rw[<- tJ (by omega),V5];rfl
      refine OL.yes rfl (aV fd.nK rfl rfl (OL.yes rfl (aG ce.aF rfl rfl rfl (OL.yes rfl (bF rfl .di (D7 l2) (jZ rfl rfl (OL.nil ?_)))))));exact AW.reach () ⟨trivial,Knows.app .gy (.cons (bG.bool (by rw[g18,V5];rfl)) .nil),dw.app (.cons rfl .nil) (.nil)⟩
    .try simp only[eG] at g23
     refine OL.nd rfl (OL.nd rfl (OL.nd rfl (OL.nd rfl (OL.nd rfl (OL.nd rfl (OL.nd rfl (OL.nd rfl ?_)))))));refine OL.nd rfl (OL.yes rfl (jZ rfl rfl (jZ rfl rfl (ai rfl (OL.yes rfl (aV fd.nK rfl rfl (OL.yes rfl ?_)))))));exact aG ce.aF rfl rfl rfl (OL.yes rfl (bF rfl .di (D7 l2) (jZ rfl rfl (OL.nil (AW.reach () ⟨trivial,Knows.app .gy (.cons (bG.bool (by rw[g18,cn0 _ (by omega)];rfl)) .nil),dw.app (.cons rfl .nil) (.nil)⟩)))))
  .try simp only[eG] at g7
   refine OL.nd rfl (OL.nd rfl (OL.nd rfl (OL.nd rfl (OL.nd rfl (OL.nd rfl (OL.nd rfl (OL.nd rfl ?_)))))));refine OL.nd rfl (jZ rfl rfl (ai rfl (OL.yes rfl (aV fd.nK rfl rfl (OL.yes rfl (aG ce.aF rfl rfl rfl (OL.yes rfl ?_)))))));refine fJ sl.aF rfl rfl (OL.yes rfl (gV rfl rfl rfl (OL.yes rfl (ai rfl (OL.split 23 rfl (λg23=>?_) (λg23=>?_))))))
   .try simp only[eG] at g23
    refine OL.yes rfl (aV fd.nK rfl rfl (OL.yes rfl (aG ce.aF rfl rfl rfl (OL.yes rfl (aV fd.nK rfl rfl (OL.yes rfl (aG ce.aF rfl rfl rfl ?_)))))));refine OL.yes rfl (fJ sl.aF rfl rfl (OL.yes rfl (gu rfl rfl (by omega) (OL.yes rfl (Z9 sl.aF 0 rfl rfl (by omega) (by omega) rfl rfl (OL.yes rfl (iE ce.u32 rfl ?_)))))))
    refine OL.yes rfl (dG rfl rfl rfl (OL.yes rfl (lJ rfl rfl (jZ rfl rfl (ai rfl (OL.split 35 rfl (λV5=>?_) (λV5=>?_)))))))
    .have V5:canon r.den=false:=by rw[<- tJ (by omega),V5];rfl
     exact OL.nd rfl (OL.nd rfl (OL.nd rfl (lJ rfl rfl (OL.nil (AW.reach () ⟨trivial,Knows.app .gy (.cons (bG.bool (by rw[cn0 r.num (by omega),V5];rfl)) .nil),dw.app (.cons rfl .nil) (.nil)⟩)))))
    .have V5:canon r.den=true:=by rw[<- tJ (by omega),V5];rfl
     refine OL.yes rfl (aV fd.nK rfl rfl (OL.yes rfl (aG ce.aF rfl rfl rfl (OL.yes rfl (bF rfl .di (D7 l2) (jZ rfl rfl (OL.nil ?_)))))));exact AW.reach () ⟨trivial,Knows.app .gy (.cons (bG.bool (by rw[cn0 r.num (by omega),V5];rfl)) .nil),dw.app (.cons rfl .nil) (.nil)⟩
   .try simp only[eG] at g23
    refine OL.nd rfl (OL.nd rfl (OL.nd rfl (OL.nd rfl (OL.nd rfl (OL.nd rfl (OL.nd rfl (OL.nd rfl ?_)))))));refine OL.nd rfl (OL.yes rfl (jZ rfl rfl (jZ rfl rfl (ai rfl (OL.yes rfl (aV fd.nK rfl rfl (OL.yes rfl ?_)))))));exact aG ce.aF rfl rfl rfl (OL.yes rfl (bF rfl .di (D7 l2) (jZ rfl rfl (OL.nil (AW.reach () ⟨trivial,Knows.app .gy (.cons (bG.bool (by rw[cn0 r.num (by omega),cn0 r.den (by omega)];rfl)) .nil),dw.app (.cons rfl .nil) (.nil)⟩)))))
 rintro⟨⟩ hφ
 refine AW.cond rfl (λh1=>?_) (λh1=>?_)
 .have hg:r.good=false:=by unfold Raw.good;cases e1:canon r.num with
    | false=>simp
    | true =>
     cases e2:canon r.den with
     | false=>simp
     | true =>
      rw[e1,e2] at h1;have e3:r.den=[1]:=by simpa using h1
      rw[e3];cases r.num <;> simp[iY,iW]
  exact AW.sg hE rfl (aC rfl (OL.nil (AW.ret (aO.r ⟨_,.tmp rfl .nil,.le (aB (by rw[hg];rfl))⟩))))
 .have h1a:canon r.num=true:=by cases e1:canon r.num <;> simp[e1] at h1;rfl
  have h1b:canon r.den=true:=by cases e1:canon r.den <;> simp[e1] at h1;rfl
  have h1c:r.den≠[1]:=by intro e;simp[e] at h1
  have hN:=AU hr.num h1a;have hD:=AU hr.den h1b;have hd1:val r.den≠1:=λe=>h1c (by rw[<- hD,e];exact FY.2 rfl)
  refine AW.skip (AW.seq (AW.sg hE rfl (aV fd.pW rfl rfl (aG ce.aF rfl rfl rfl (fJ sl.aF rfl rfl (dG rfl rfl rfl (OL.nil ?_)))))));refine AW.cond rfl (λh2=>?_) (λh2=>?_)
  .have h2:r.num=[]:=Gt (by have:=kK h2;omega)
   have hg:r.good=(!r.neg && decide (r.den=[])):=by unfold Raw.good;rw[h1a,h1b,decide_eq_true h2];rfl
   refine AW.sg hE rfl (aV fd.qE rfl rfl (aG ce.bool rfl rfl rfl (nt rfl (ai rfl (OL.split 47 rfl (λg47=>?_) (λg47=>?_))))))
   .have g47:=g47;refine OL.yes rfl (aV fd.nK rfl rfl (OL.yes rfl (aG ce.aF rfl rfl rfl (OL.yes rfl (fJ sl.aF rfl rfl (OL.yes rfl (dG rfl rfl rfl ?_)))))));exact lJ rfl rfl (aC rfl (OL.nil (AW.ret (aO.r ⟨_,.tmp rfl .nil,.le (bG.bool (by rw[hg,g47,Bool.true_and];exact decide_eq_decide.2 (by rw[<- List.length_eq_zero_iff];omega)))⟩))))
   .have g47:=g47;exact OL.nd rfl (OL.nd rfl (OL.nd rfl (OL.nd rfl (jZ rfl rfl (aC rfl (OL.nil (AW.ret (aO.r ⟨_,.tmp rfl .nil,.le (bG.bool (by rw[hg,g47];rfl))⟩))))))))
  .have h2:r.num≠[]:=λe=>by have:=lD h2;rw[e] at this;exact this rfl
   refine AW.skip (AW.sg hE rfl (aV fd.nK rfl rfl (aG ce.aF rfl rfl rfl (fJ sl.aF rfl rfl (dG rfl rfl rfl (ai rfl (OL.split 57 rfl (λg57=>?_) (λg57=>?_))))))))
   .have g57:r.den=[]:=Gt (by have:=kK g57;omega)
    refine OL.nd rfl (OL.nd rfl (OL.nd rfl (OL.nd rfl (OL.nd rfl (OL.nd rfl (lJ rfl rfl (aC rfl ?_)))))));exact OL.nil (AW.ret (aO.r ⟨_,.tmp rfl .nil,.le (bG.bool (by simp[Raw.good,h1a,h1b,h2,g57];rfl))⟩))
   .have g57:r.den≠[]:=λe=>by have:=lD g57;rw[e] at this;exact this rfl
    have hn0:val r.num≠0:=λe=>h2 (by rw[<- hN,e,dR])
    refine OL.yes rfl (aV fd.pW rfl rfl (OL.yes rfl (aG ce.aF rfl rfl rfl (OL.yes rfl (aV fd.nK rfl rfl (OL.yes rfl (aG ce.aF rfl rfl rfl ?_)))))));exact OL.yes rfl (cl (JB (a:=val r.num) (b:=val r.den) (by rw[hN];omega) (by rw[hD];omega)) rfl (by rw[hN,hD];exact fH.refl _) (OL.yes rfl (bF rfl .di (XH) (jZ rfl rfl (aC rfl (OL.nil (AW.ret (aO.r ⟨_,.tmp rfl .nil,.le (bG.bool (by simp[Raw.good,h1a,h1b,h2,g57,hd1]))⟩))))))))
theorem Ar {q:Rat}:aj P F.EL [vQ q] (.d (aF (lim q.den))):=by
 refine aj.intro fn.EL (by rfl) (by rfl) (aA (by rfl)) λE hE=>(AW.sg hE rfl (gW rfl rfl λb1=>(jg rfl (OL.nil (AW.seq (AW.sg hE rfl (aV fd.nK rfl rfl ?_)))))))
 refine aG ce.aF rfl rfl rfl (fJ sl.aF rfl rfl (dG rfl rfl rfl (OL.nil (AW.cond rfl (λh1=>?_) (λh1=>?_)))))
 .have h1:q.den=1:=by
    have h2:=kK h1;by_cases e:q.den=1
    .exact e
    .have e2:(fP q).den=lim q.den:=by simp[fP,e]
     rw[e2] at h2;exact absurd (dF.1 (by omega)) q.den_nz
  exact AW.sg hE rfl (xe sl.aF (VC.d _).vd rfl (by decide) (aC rfl (OL.nil (AW.ret (aO.r ⟨_,.tmp rfl .nil,.le (aB (by rw[h1,FY.2 rfl];rfl))⟩)))))
 .have h1:q.den≠1:=λe=>by
    have h2:=lD h1;have e2:(fP q).den=[]:=by simp[fP,e]
    rw[e2] at h2;exact h2 rfl
  exact AW.skip (AW.sg hE rfl (aV fd.nK rfl rfl (aG ce.aF rfl rfl rfl (aC rfl (OL.nil (AW.ret (aO.r ⟨_,.tmp rfl .nil,.le (aB (by rw[show (fP q).den=lim q.den by simp[fP,h1]];rfl))⟩)))))))
theorem ve {r:Raw}(hr:r.Ok):aj P F.yQ [qc r] (vQ r.q):=by
 have n1:=hr.ln;have n2:=hr.ld;refine aj.intro fn.yQ (by rfl) (by rfl) (aA (by rfl)) λE hE=>(AW.sg hE rfl (gW rfl rfl λb1=>(al z.Rat rfl λb2=>(OL.nil (AW.seq (AW.sg hE rfl (aN ag.Rat rfl rfl (vs:=[_,_,_]) rfl (aA rfl) ?_)))))))
 refine bF rfl .di (O4 (by assumption)) (nt rfl (OL.nil (AW.cond rfl (λh1=>?_) (λh1=>?_))))
 .have hq:=ae8 (r:=r) (by simpa using h1)
  refine AW.sg hE rfl (bd z.Rat pl.Rat (cs:=[_,_,_]) rfl (fG sz.Rat rfl rfl rfl rfl rfl (aA rfl) (cells2:=[_,_,_]) rfl (OL.nil ?_)));rw[hq,Xy];exact AW.ret (aO.r ⟨_,.dL rfl rfl ag.Rat (aA rfl) .nil,.ag (.cons (.le vR) (.cons (.le (bG.mt)) (.cons (.le (bG.mt)) .nil)))⟩)
 .have hq:=Xv hr (by simpa using h1)
  refine AW.skip (AW.seq (AW.dg 2 [0,1,2,3,5,6,4,7,8,9] au hE rfl (by kernel_rfl) (OI.aS (os:=[_,_,_,_,_,_,_,_,_,_]) rfl ?_)))
  refine aV fd.qE rfl rfl (aG ce.bool rfl rfl rfl (aV fd.pW rfl rfl (aG ce.aF rfl rfl rfl (aV fd.nK rfl rfl (aG ce.aF rfl rfl rfl (YL sl.aF rfl rfl (VC.d _) (by simp[D.cells]) (by simp;omega) (by simp;omega) (YL sl.aF rfl rfl (VC.d _) (by simp[D.cells]) (by simp;omega) (by simp;omega) ?_)))))))
  refine Vk (cs:=[_,_,_]) z.Rat pl.Rat (rG (by exact zC rfl) (rG (by exact zC rfl) (rG (by exact zC rfl) (Vj)))) (by rfl) (fG sz.Rat rfl rfl rfl rfl rfl (aA rfl) (cells2:=[_,_,_]) rfl (OL.nil ?_))
  rw[aK6 hq];exact AW.ret (aO.r ⟨_,.dL rfl rfl ag.Rat (aA rfl) .nil,.ag (.cons (.le vR) (.cons (.le vR) (.cons (.le vR) .nil)))⟩)
theorem Bg {s:Bool}{n d:Nat}(nn:(lim n).length<=1099511627776)(nd:(lim d).length<=1099511627776)(hd:d≠0):aj P F.Ci [.d (dB s),.d (aF (lim n)),.d (aF (lim d))] (vQ (fr s n d)):=by
 refine aj.intro fn.Ci (by rfl) (by rfl) (aA (by rfl)) λE hE=>(AW.sg hE rfl (al z.Rat rfl λb6=>(OL.nil (AW.seq (AW.sg hE rfl (ai rfl (fJ sl.aF rfl rfl ?_)))))))
 refine dG rfl rfl rfl (OL.nil (AW.cond rfl (λh=>?_) (λh=>?_)))
 .have h:n=0:=dF.1 (by have:=kK h;omega)
  subst h;rw[QL,Xy];exact AW.sg hE rfl (bd z.Rat pl.Rat (cs:=[_,_,_]) rfl (fG sz.Rat rfl rfl rfl rfl rfl (aA rfl) (cells2:=[_,_,_]) rfl (OL.nil (AW.ret (aO.r ⟨_,.dL rfl rfl ag.Rat (aA rfl) .nil,.ag (.cons (.le vR) (.cons (.le (bG.mt)) (.cons (.le (bG.mt)) .nil)))⟩)))))
 .have h:n≠0:=λe=>by have:=lD h;rw[e,dR] at this;exact this rfl
  have hgp:0<Nat.gcd n d:=Nat.gcd_pos_of_pos_left d (Nat.pos_of_ne_zero h);have hgl:=rF (Nat.gcd_le_left d (Nat.pos_of_ne_zero h));have hdl:=rF (Nat.div_le_self d (Nat.gcd n d));rw[aV1 h hd];refine AW.skip (AW.sg hE rfl (ai rfl (ai rfl (bF rfl .gy (JB (by assumption) (by assumption)) (aC rfl (OL.nil (AW.sg hE rfl ?_)))))))
  refine ai rfl (ai rfl (bF rfl .gy (F7 (by omega) (by assumption) (by omega)) (yu rfl (ex rfl rfl (ex rfl rfl (aC rfl (aC rfl ?_)))))))
  refine OL.nil (AW.sg hE rfl (ai rfl (ai rfl (bF rfl .gy (F7 (by omega) (by assumption) (by omega)) (yu rfl (ex rfl rfl (ex rfl rfl ?_)))))))
  refine aC rfl (aC rfl (OL.nil (AW.seq (AW.sg hE rfl (ai rfl (bF rfl .di (XH) (OL.nil ?_)))))));refine AW.cond rfl (λh2=>?_) (λh2=>?_)
  .try simp only[eG] at h2
   refine AW.rg hE rfl (jg rfl (OL.nil (AW.sg hE rfl (ai rfl (ai rfl (mvM rfl (Vk (cs:=[_,_,_]) z.Rat pl.Rat (rG (by exact zC rfl) (rG (by exact zC rfl) (rG (by exact evM rfl) (Vj)))) (by rfl) ?_)))))))
   exact fG sz.Rat rfl rfl rfl rfl rfl (aA rfl) (cells2:=[_,_,_]) rfl (OL.nil (AW.ret (aO.r ⟨_,.dL rfl rfl ag.Rat (aA rfl) .nil,.ag (.cons (.le vR) (.cons (.le vR) (.cons (.le (by rw[if_pos h2];exact bG.mt)) .nil)))⟩)))
  .try simp only[eG] at h2
   refine AW.skip (AW.sg hE rfl (ai rfl (ai rfl (ai rfl (Vk (cs:=[_,_,_]) z.Rat pl.Rat (rG (by exact zC rfl) (rG (by exact zC rfl) (rG (by exact zC rfl) (Vj)))) (by rfl) (fG sz.Rat rfl rfl rfl rfl rfl (aA rfl) (cells2:=[_,_,_]) rfl (OL.nil ?_)))))))
   exact AW.ret (aO.r ⟨_,.dL rfl rfl ag.Rat (aA rfl) .nil,.ag (.cons (.le vR) (.cons (.le vR) (.cons (.le (aB (by rw[if_neg h2]))) .nil)))⟩)
theorem TA {n d:Int}(hn:-9223372036854775808<=n/\n<=9223372036854775807)(hd:-9223372036854775808<=d/\d<=9223372036854775807)(h0:d≠0):aj P F.Cj [.d (dI n),.d (dI d)] (.jE [vQ ((n:Rat) / (d:Rat)),.d (dI 0)]):=by
 have e1:(lim n.natAbs).length<=2:=dN (by show n.natAbs<18446744073709551616;omega)
 have e2:(lim d.natAbs).length<=2:=dN (by show d.natAbs<18446744073709551616;omega)
 refine aj.intro fn.Cj (by rfl) (by rfl) (aA (by rfl)) λE hE=>(AW.sg hE rfl (al z.Rat rfl λb4=>(aC rfl (OL.nil (AW.seq (AW.sg hE rfl (ai rfl ?_)))))))
 refine dG rfl rfl rfl (OL.nil (AW.cond rfl (λhno=>absurd hno (by simpa using h0)) (λ_=>?_)))
 refine AW.skip (AW.sg hE rfl (ai rfl (aX rfl rfl rfl (ai rfl (aX rfl rfl rfl (neb bt.bool rfl rfl (ai rfl ?_)))))));refine bF rfl .di (G9 (by assumption)) (bF rfl .di (Jz (by omega)) (ai rfl (bF rfl .di (G9 (by assumption)) (bF rfl .di (Jz (by omega)) (bF rfl .xf (Bg (by omega) (by omega) (by omega)) ?_)))))
 rw[show (!(decide (n<0) == decide (d<0)))=(decide (n<0) != decide (d<0)) from rfl,KZ]
 exact fG sz.Rat rfl rfl rfl rfl rfl (aA rfl) (cells2:=[_,_,_]) rfl (aC rfl (OL.nil (AW.ret (aO.r ⟨_,.dL rfl rfl ag.Rat (aA rfl) (.tmp rfl .nil),_,.cons (.ag (.cons (.le vR) (.cons (.le vR) (.cons (.le vR) .nil)))) (.cons (.le vR) .nil),rfl⟩))))
theorem TB {r:Raw}(hr:r.Ok):aj P F.yS [qc r] (.d (dI (Iz r.q))):=by
 refine aj.intro fn.yS (by rfl) (by rfl) (aA (by rfl)) λE hE=>(AW.sg hE rfl (gW rfl rfl λb1=>(aC rfl (OL.nil (AW.sg hE rfl (aN ag.Rat rfl rfl (vs:=[_,_,_]) rfl (aA rfl) (bF rfl .di (ve (by assumption)) ?_)))))))
 refine fG sz.Rat rfl rfl rfl rfl rfl (aA rfl) (cells2:=[_,_,_]) rfl (OL.nil (AW.seq (AW.block (AW.sg hE rfl (aV fd.qE rfl rfl (aG ce.bool rfl rfl rfl (aC rfl ?_)))))));refine OL.nil (AW.cond rfl (λh1=>?_) (λh1=>?_))
 .have h1:r.q.num<0:=kK h1;exact AW.sg hE rfl (aC rfl (OL.nil (AW.ret (aO.r ⟨_,.tmp rfl .nil,.le (bG.int ((GV.2 h1).symm))⟩))))
 .have h1:¬ r.q.num<0:=lD h1;refine AW.sg hE rfl (aV fd.pW rfl rfl (aG ce.aF rfl rfl rfl (fJ sl.aF rfl rfl (gV rfl rfl rfl (aC rfl (OL.nil (AW.cond rfl (λh2=>?_) (λh2=>?_))))))))
  .have h2:r.q.num≠0:=λe=>by have h3:=kK h2;rw[show (fP r.q).num=lim r.q.num.natAbs from rfl,e,show (0:Int).natAbs=0 from rfl,dR] at h3;exact absurd h3 (by decide)
   exact AW.sg hE rfl (aC rfl (OL.nil (AW.ret (aO.r ⟨_,.tmp rfl .nil,.le (bG.int (by unfold Iz;rw[if_neg h1,if_neg h2]))⟩))))
  .have h2:r.q.num=0:=by have h3:=lD h2;rw[show (fP r.q).num=lim r.q.num.natAbs from rfl] at h3;have:=dF.1 (show (lim r.q.num.natAbs).length=0 by omega);omega
   exact AW.skip (AW.sg hE rfl (aC rfl (OL.nil (AW.ret (aO.r ⟨_,.tmp rfl .nil,.le (bG.int (by unfold Iz;rw[if_neg h1,if_pos h2]))⟩)))))
theorem ay1 {r:Raw}(hr:r.Ok):aj P F.EO [qc r] (vQ (-r.q)):=by
 have e1:(fP (-r.q)).num=(fP r.q).num:=by simp[fP]
 have e2:(fP (-r.q)).den=(fP r.q).den:=by simp[fP]
 rw[show vQ (-r.q)=.ag [.d (dB (fP (-r.q)).neg),.d (aF (fP r.q).num),.d (aF (fP r.q).den)] by rw[<- e1,<- e2]]
 refine aj.intro fn.EO (by rfl) (by rfl) (aA (by rfl)) λE hE=>(AW.sg hE rfl (gW rfl rfl λb1=>(al z.Rat rfl λb2=>(OL.nil (AW.sg hE rfl (aN ag.Rat rfl rfl (vs:=[_,_,_]) rfl (aA rfl) (bF rfl .di (ve (by assumption)) ?_)))))))
 refine fG sz.Rat rfl rfl rfl rfl rfl (aA rfl) (cells2:=[_,_,_]) rfl (OL.nil (AW.sg hE rfl (aV fd.pW rfl rfl (aG ce.aF rfl rfl rfl (fJ sl.aF rfl rfl (gV rfl rfl rfl (ai rfl ?_)))))));refine OL.split 9 rfl (λh2=>?_) (λh2=>?_)
 .have h2:r.q.num≠0:=λe=>by have h3:=kK h2;rw[show (fP r.q).num=lim r.q.num.natAbs from rfl,e,show (0:Int).natAbs=0 from rfl,dR] at h3;exact absurd h3 (by decide)
  refine OL.yes rfl (aV fd.qE rfl rfl (OL.yes rfl (aG ce.bool rfl rfl rfl (OL.yes rfl (nt rfl (lJ rfl rfl (aV fd.qE rfl rfl ?_)))))));refine fG sz.bool rfl rfl rfl rfl rfl (aA rfl) (cells2:=[_,_,_]) rfl (OL.nil (AW.sg hE rfl (aN ag.Rat rfl rfl (vs:=[_,_,_]) rfl (aA rfl) (fG sz.Rat rfl rfl rfl rfl rfl (aA rfl) (cells2:=[_,_,_]) rfl (OL.nil ?_)))));exact AW.ret (aO.r ⟨_,.dL rfl rfl ag.Rat (aA rfl) .nil,.ag (.cons (.le (bG.bool (by show (!decide (r.q.num<0))=decide ((-r.q).num<0);rw[Rat.neg_num];by_cases h:r.q.num<0;simp[h];omega;simp[h];omega))) (.cons (.le vR) (.cons (.le vR) .nil)))⟩)
 .have h2:r.q.num=0:=by have h3:=lD h2;rw[show (fP r.q).num=lim r.q.num.natAbs from rfl] at h3;have:=dF.1 (show (lim r.q.num.natAbs).length=0 by omega);omega
  refine OL.nd rfl (OL.nd rfl (OL.nd rfl (jZ rfl rfl (aV fd.qE rfl rfl (fG sz.bool rfl rfl rfl rfl rfl (aA rfl) (cells2:=[_,_,_]) rfl (OL.nil (AW.sg hE rfl ?_)))))));exact aN ag.Rat rfl rfl (vs:=[_,_,_]) rfl (aA rfl) (fG sz.Rat rfl rfl rfl rfl rfl (aA rfl) (cells2:=[_,_,_]) rfl (OL.nil (AW.ret (aO.r ⟨_,.dL rfl rfl ag.Rat (aA rfl) .nil,.ag (.cons (.le (bG.bool (by show false=decide ((-r.q).num<0);rw[Rat.neg_num,h2];rfl))) (.cons (.le vR) (.cons (.le vR) .nil)))⟩))))
theorem XI {x y:Raw}(hx:x.Ok)(hy:y.Ok):aj P F.AY [qc x,qc y] (vQ (x.q+y.q)):=by
 have a1:=DV hx hx.ln hx.ld (by decide)
 have a2:=DV hy hy.ln hy.ld (by decide)
 have sn1:=jT x.q;have sn2:=jT y.q;have sd1:=jU x.q;have sd2:=jU y.q;have sdd:=fQ x.q.den y.q.den;have dd0:=Nat.mul_ne_zero x.q.den_nz y.q.den_nz;have e1:=fQ x.q.num.natAbs y.q.den;have e2:=fQ y.q.num.natAbs x.q.den;have hp:=J7 (s:=decide (x.q.num<0)) (t:=decide (y.q.num<0)) (a:=x.q.num.natAbs) (b:=y.q.num.natAbs) x.q.den_nz y.q.den_nz;rw[lT,lT] at hp;have hl:=λk l h1 h2 h3 h4=>GX (s:=decide (x.q.num<0)) (t:=decide (y.q.num<0)) (a:=x.q.num.natAbs) (b:=y.q.num.natAbs) (d1:=x.q.den) (d2:=y.q.den) (k:=k) (l:=l) h1 h2 h3 h4;have hl:=hl _ _ sn1 sn2 sd1 sd2;refine aj.intro fn.AY (by rfl) (by rfl) (aA (by rfl)) λE hE=>(AW.sg hE rfl (gW rfl rfl λb2=>(gW rfl rfl λb3=>(al z.Rat rfl λb4=>(OL.nil (AW.seq (AW.dg 1 [0,1,2,3,4,5] au hE rfl (by kernel_rfl) (OI.aS (os:=[_,_,_,_,_,_]) rfl ?_))))))))
 refine aN ag.Rat rfl rfl (vs:=[_,_,_]) rfl (aA rfl) (bF rfl .di (ve (by assumption)) (aN ag.Rat rfl rfl (vs:=[_,_,_]) rfl (aA rfl) (bF rfl .di (ve (by assumption)) (fG sz.Rat rfl rfl rfl rfl rfl (aA rfl) (cells2:=[_,_,_]) rfl (fG sz.Rat rfl rfl rfl rfl rfl (aA rfl) (cells2:=[_,_,_]) rfl (OL.nil (AW.seq ?_)))))))
 refine AW.dg 1 [0,1,2,3,4,5,6,7,8,9,10,11,12,13,14,15,16,17] au hE rfl (by kernel_rfl) (OI.aS (os:=[_,_,_,_,_,_,_,_,_,_,_,_,_,_,_,_,_,_]) rfl ?_)
 refine aV fd.pW rfl rfl (aG ce.aF rfl rfl rfl (aN ag.Rat rfl rfl (vs:=[_,_,_]) rfl (aA rfl) (bF rfl .di (Ar) (bF rfl .gy (tV (a:=x.q.num.natAbs) (b:=y.q.den) (by omega) (by omega)) (aV fd.pW rfl rfl (aG ce.aF rfl rfl rfl (aN ag.Rat rfl rfl (vs:=[_,_,_]) rfl (aA rfl) ?_)))))))
 refine bF rfl .di (Ar) (bF rfl .gy (tV (a:=y.q.num.natAbs) (b:=x.q.den) (by omega) (by omega)) (aN ag.Rat rfl rfl (vs:=[_,_,_]) rfl (aA rfl) (bF rfl .di (Ar) (aN ag.Rat rfl rfl (vs:=[_,_,_]) rfl (aA rfl) (bF rfl .di (Ar) (bF rfl .gy (tV (a:=x.q.den) (b:=y.q.den) (by omega) (by omega)) (aC rfl ?_)))))))
 refine aC rfl (aC rfl (OL.nil (AW.seq (AW.block (AW.sg hE rfl (aV fd.qE rfl rfl (aG ce.bool rfl rfl rfl ?_)))))));refine aV fd.qE rfl rfl (aG ce.bool rfl rfl rfl (eqb bt.bool rfl rfl (aC rfl (OL.nil (AW.cond rfl (λh=>?_) (λh=>?_))))))
 .have h:decide (x.q.num<0)=decide (y.q.num<0):=by exact beq_iff_eq.1 h
  rw[if_pos h] at hp;rw[if_pos h] at hp hl;refine AW.seq (AW.dg 1 [0,1,2,3,4,5,6,7] au hE rfl (by kernel_rfl) (OI.aS (os:=[_,_,_,_,_,_,_,_]) rfl ?_))
  refine aV fd.qE rfl rfl (aG ce.bool rfl rfl rfl (ai rfl (ai rfl (bF rfl .gy (IE (by omega) (by omega)) (ai rfl (bF rfl .xf (Bg (s:=decide (x.q.num<0)) (by omega) (by omega) dd0) ?_))))))
  rw[hp];exact fG sz.Rat rfl rfl rfl rfl rfl (aA rfl) (cells2:=[_,_,_]) rfl (OL.nil (AW.ret (aO.r ⟨_,.dL rfl rfl ag.Rat (aA rfl) .nil,.ag (.cons (.le vR) (.cons (.le vR) (.cons (.le vR) .nil)))⟩)))
 .have h:¬ decide (x.q.num<0)=decide (y.q.num<0):=λe=>by have e2:=beq_iff_eq.2 e;exact absurd (h.symm.trans e2) (by decide)
  rw[if_neg h,if_neg h] at hp;rw[if_neg h] at hl;refine AW.sg hE rfl (ai rfl (ai rfl (bF rfl .gy (JA (by omega) (by omega)) (ql rfl rfl rfl (aC rfl (OL.nil (AW.cond rfl (λh2=>?_) (λh2=>?_))))))))
  .have h2:y.q.num.natAbs*x.q.den<=x.q.num.natAbs*y.q.den:=GU (by have:=kK h2;omega)
   rw[if_pos h2,if_pos h2] at hp;rw[if_pos h2] at hl;refine AW.seq (AW.dg 1 [0,1,2,3,4,5,6,7] au hE rfl (by kernel_rfl) (OI.aS (os:=[_,_,_,_,_,_,_,_]) rfl ?_))
   refine aV fd.qE rfl rfl (aG ce.bool rfl rfl rfl (ai rfl (ai rfl (bF rfl .gy (F6 (by omega) (by assumption)) (ai rfl (bF rfl .xf (Bg (s:=decide (x.q.num<0)) (by omega) (by omega) dd0) ?_))))))
   rw[hp];exact fG sz.Rat rfl rfl rfl rfl rfl (aA rfl) (cells2:=[_,_,_]) rfl (OL.nil (AW.ret (aO.r ⟨_,.dL rfl rfl ag.Rat (aA rfl) .nil,.ag (.cons (.le vR) (.cons (.le vR) (.cons (.le vR) .nil)))⟩)))
  .have h2:¬ y.q.num.natAbs*x.q.den<=x.q.num.natAbs*y.q.den:=λe=>lD h2 (VJ e);rw[if_neg h2,if_neg h2] at hp;rw[if_neg h2] at hl;refine AW.skip (AW.seq (AW.dg 1 [0,1,2,3,4,5,6,7] au hE rfl (by kernel_rfl) (OI.aS (os:=[_,_,_,_,_,_,_,_]) rfl ?_)))
   refine aV fd.qE rfl rfl (aG ce.bool rfl rfl rfl (ai rfl (ai rfl (bF rfl .gy (F6 (by omega) (by omega)) (ai rfl (bF rfl .xf (Bg (s:=decide (y.q.num<0)) (by omega) (by omega) dd0) ?_))))))
   rw[hp];exact fG sz.Rat rfl rfl rfl rfl rfl (aA rfl) (cells2:=[_,_,_]) rfl (OL.nil (AW.ret (aO.r ⟨_,.dL rfl rfl ag.Rat (aA rfl) .nil,.ag (.cons (.le vR) (.cons (.le vR) (.cons (.le vR) .nil)))⟩)))
theorem LM {x y:Rat}(hx:sz x<=68719476736)(hy:sz y<=68719476736):aj P F.AY [vQ x,vQ y] (vQ (x+y)):=by
 have h:=XI (x:=fP x) (y:=fP y) (jo (by omega)) (jo (by omega))
 rw[kz,kz] at h;exact h
theorem ER {x:Rat}(hx:sz x<=274877906944):aj P F.yS [vQ x] (.d (dI (Iz x))):=by
 have h:=TB (r:=fP x) (jo hx);rw[kz] at h;exact h
theorem XJ {x y:Raw}(hx:x.Ok)(hy:y.Ok):aj P F.AZ [qc x,qc y] (vQ (x.q-y.q)):=by
 have a2:=DV hy hy.ln hy.ld (by decide)
 refine aj.intro fn.AZ (by rfl) (by rfl) (aA (by rfl)) λE hE=>(AW.sg hE rfl (gW rfl rfl λb2=>(gW rfl rfl λb3=>(al z.Rat rfl λb4=>(OL.nil (AW.seq (AW.dg 1 [0,1,2,3,4] au hE rfl (by kernel_rfl) (OI.aS (os:=[_,_,_,_,_]) rfl ?_))))))))
 refine aN ag.Rat rfl rfl (vs:=[_,_,_]) rfl (aA rfl) (aN ag.Rat rfl rfl (vs:=[_,_,_]) rfl (aA rfl) (bF rfl .di (ay1 hy) (bF rfl .gy (XI hx (jo (by rw[IA];omega))) ?_)))
 rw[kz,<- Rat.sub_eq_add_neg];exact fG sz.Rat rfl rfl rfl rfl rfl (aA rfl) (cells2:=[_,_,_]) rfl (OL.nil (AW.ret (aO.r ⟨_,.dL rfl rfl ag.Rat (aA rfl) .nil,.ag (.cons (.le vR) (.cons (.le vR) (.cons (.le vR) .nil)))⟩)))
theorem TD {x y:Rat}(hx:sz x<=68719476736)(hy:sz y<=68719476736):aj P F.AZ [vQ x,vQ y] (vQ (x-y)):=by
 have h:=XJ (x:=fP x) (y:=fP y) (jo (by omega)) (jo (by omega))
 rw[kz,kz] at h;exact h
theorem TF {x y:Raw}(hx:x.Sm)(hy:y.Sm):aj P F.rZ [qc x,qc y] (.d (dI (YU x.q y.q))):=by
 have a1:=hx.q;have a2:=hy.q;have a3:=QR x.q y.q;refine aj.intro fn.rZ (by rfl) (by rfl) (aA (by rfl)) λE hE=>(AW.sg hE rfl (gW rfl rfl λb2=>(gW rfl rfl λb3=>(aC rfl (OL.nil (AW.sg hE rfl (aN ag.Rat rfl rfl (vs:=[_,_,_]) rfl (aA rfl) ?_)))))))
 exact aN ag.Rat rfl rfl (vs:=[_,_,_]) rfl (aA rfl) (bF rfl .gy (XJ hx.ok hy.ok) (bF rfl .di (ER (by omega)) (aC rfl (OL.nil (AW.ret (aO.r ⟨_,.tmp rfl .nil,.le vR⟩))))))
theorem QW {x y:Rat}(hx:sz x<=68719476736)(hy:sz y<=68719476736):aj P F.rZ [vQ x,vQ y] (.d (dI (YU x y))):=by
 have h:=TF (x:=fP x) (y:=fP y) (DW hx) (DW hy);rw[kz,kz] at h;exact h

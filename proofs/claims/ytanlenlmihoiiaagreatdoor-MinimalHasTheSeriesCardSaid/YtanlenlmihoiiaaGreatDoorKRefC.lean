/-
  Walks of the reference's numbers, part 3: rational numbers (printed by mk2.py).
-/
import Derived.Test.YtanlenlmihoiiaaGreatDoorKRefB
set_option linter.unusedVariables false
set_option linter.unusedSimpArgs false
namespace Go.Proofs.YtanlenlmihoiiaaGreatDoor
open Go Go.AL
theorem Jl {v:Int}(hv:-9223372036854775808<=v/\v<=9223372036854775807):ai P F.wG [.d (dI v)] (.d (dU v.natAbs)):=by
 refine ai.intro fn.wG (by rfl) (by rfl) (au (by rfl)) λE hE=>(AW.sg hE rfl (aG rfl (OL.nil (AW.seq (AW.sg hE rfl (aj rfl (bD rfl rfl rfl ?_)))))))
 refine OL.nil (AW.cond rfl (λh4=>?_) (λh4=>?_))
 .try simp only[fG] at h4
  refine AW.sg hE rfl (aj rfl (aJ rfl rfl (by omega) (ng rfl (c:=((v.natAbs-1:Nat):Int)) (by rw[wrap_i64 (by omega)];omega) (cv it.int it.u64 rfl (wrap_u64 (by omega)) (xF rfl rfl (by omega) (aG rfl (OL.nil ?_)))))))
  exact AW.ret (aT.r ⟨_,.tmp rfl .nil,.le (bV.int (by omega))⟩)
 .try simp only[fG] at h4
  exact AW.skip (AW.sg hE rfl (aj rfl (cv it.int it.u64 rfl (wrap_u64 (by omega)) (aG rfl (OL.nil (AW.ret (aT.r ⟨_,.tmp rfl .nil,.le (bV.int (by omega))⟩)))))))
theorem QO {r:Raw}(hr:r.Ok):ai P F.yj [uo r] (.d (dB r.good)):=by
 have n1:=hr.ln;have n2:=hr.ld;have l1:=hr.num;have l2:=hr.den;have cn0:∀ L:List Nat,L.length=0->canon L=true:=λL h=>by rw[EQ h];rfl
 have dn0:∀ L:List Nat,L.length=0->decide (L=[1])=false:=λL h=>by rw[EQ h];rfl
 refine ai.intro fn.yj (by rfl) (by rfl) (au (by rfl)) λE hE=>(AW.sg hE rfl (iG rfl rfl λb1=>(aG rfl (OL.nil (AW.seq (AW.XR (α:=Unit) [(1,_),(2,_)] [(1,_)] (λ_u=>[(39,.d (dB (!canon r.num || !canon r.den || decide (r.den=[1]))))]) (λ_u=>[]) (λ_u=>True) (.cons (iF rfl) (.cons (dA rfl) .nil)) (.cons (jc rfl) .nil) ?_ ?_))))))
 .refine AW.rg hE rfl (aV fd.rU rfl rfl (aA ce.aI rfl rfl rfl (fO sl.aI rfl rfl (kS rfl rfl rfl (aj rfl (OL.split 7 rfl (λg7=>?_) (λg7=>?_)))))))
  .try simp only[fG] at g7
   refine OL.yes rfl (aV fd.rU rfl rfl (OL.yes rfl (aA ce.aI rfl rfl rfl (OL.yes rfl (aV fd.rU rfl rfl (OL.yes rfl (aA ce.aI rfl rfl rfl ?_)))))));refine OL.yes rfl (fO sl.aI rfl rfl (OL.yes rfl (iW rfl rfl (by omega) (OL.yes rfl (ixL sl.aI 0 rfl rfl (by omega) (by omega) rfl rfl (OL.yes rfl (jb ce.u32 rfl ?_)))))))
   refine OL.yes rfl (fE rfl rfl rfl (nJ rfl rfl (aj rfl (OL.split 18 rfl (λg18=>?_) (λg18=>?_)))))
   .have g18:canon r.num=false:=by rw[<- uQ (by omega),g18];rfl
    refine OL.nd rfl (OL.nd rfl (OL.nd rfl (OL.nd rfl (OL.nd rfl (OL.nd rfl (OL.nd rfl (OL.nd rfl ?_)))))));refine OL.nd rfl (OL.nd rfl (OL.nd rfl (OL.nd rfl (OL.nd rfl (OL.nd rfl (OL.nd rfl (nJ rfl rfl ?_)))))));exact aj rfl (OL.nd rfl (OL.nd rfl (OL.nd rfl (nJ rfl rfl (OL.nil (AW.reach () ⟨trivial,Knows.app .jm (.cons (bV.bool (by rw[g18];rfl)) .nil),dP.app (.cons rfl .nil) (.nil)⟩))))))
   .have g18:canon r.num=true:=by rw[<- uQ (by omega),g18];rfl
    refine OL.yes rfl (aV fd.o9 rfl rfl (OL.yes rfl (aA ce.aI rfl rfl rfl (OL.yes rfl (fO sl.aI rfl rfl (OL.yes rfl (kS rfl rfl rfl ?_)))))));refine OL.yes rfl (aj rfl (OL.split 23 rfl (λg23=>?_) (λg23=>?_)))
    .try simp only[fG] at g23
     refine OL.yes rfl (aV fd.o9 rfl rfl (OL.yes rfl (aA ce.aI rfl rfl rfl (OL.yes rfl (aV fd.o9 rfl rfl (OL.yes rfl (aA ce.aI rfl rfl rfl ?_)))))));refine OL.yes rfl (fO sl.aI rfl rfl (OL.yes rfl (iW rfl rfl (by omega) (OL.yes rfl (ixL sl.aI 0 rfl rfl (by omega) (by omega) rfl rfl (OL.yes rfl (jb ce.u32 rfl ?_)))))))
     refine OL.yes rfl (fE rfl rfl rfl (OL.yes rfl (nJ rfl rfl (oI rfl rfl (aj rfl (OL.split 35 rfl (λX7=>?_) (λX7=>?_)))))))
     .have X7:canon r.den=false:=by rw[<- uQ (by omega),X7];rfl
      exact OL.nd rfl (OL.nd rfl (OL.nd rfl (nJ rfl rfl (OL.nil (AW.reach () ⟨trivial,Knows.app .jm (.cons (bV.bool (by rw[g18,X7];rfl)) .nil),dP.app (.cons rfl .nil) (.nil)⟩)))))
     .have X7:canon r.den=true:=by rw[<- uQ (by omega),X7];rfl
      refine OL.yes rfl (aV fd.o9 rfl rfl (OL.yes rfl (aA ce.aI rfl rfl rfl (OL.yes rfl (bP rfl .dw (Fh l2) (oI rfl rfl (OL.nil ?_)))))));exact AW.reach () ⟨trivial,Knows.app .jm (.cons (bV.bool (by rw[g18,X7];rfl)) .nil),dP.app (.cons rfl .nil) (.nil)⟩
    .try simp only[fG] at g23
     refine OL.nd rfl (OL.nd rfl (OL.nd rfl (OL.nd rfl (OL.nd rfl (OL.nd rfl (OL.nd rfl (OL.nd rfl ?_)))))));refine OL.nd rfl (OL.yes rfl (oI rfl rfl (oI rfl rfl (aj rfl (OL.yes rfl (aV fd.o9 rfl rfl (OL.yes rfl ?_)))))));exact aA ce.aI rfl rfl rfl (OL.yes rfl (bP rfl .dw (Fh l2) (oI rfl rfl (OL.nil (AW.reach () ⟨trivial,Knows.app .jm (.cons (bV.bool (by rw[g18,cn0 _ (by omega)];rfl)) .nil),dP.app (.cons rfl .nil) (.nil)⟩)))))
  .try simp only[fG] at g7
   refine OL.nd rfl (OL.nd rfl (OL.nd rfl (OL.nd rfl (OL.nd rfl (OL.nd rfl (OL.nd rfl (OL.nd rfl ?_)))))));refine OL.nd rfl (oI rfl rfl (aj rfl (OL.yes rfl (aV fd.o9 rfl rfl (OL.yes rfl (aA ce.aI rfl rfl rfl (OL.yes rfl ?_)))))));refine fO sl.aI rfl rfl (OL.yes rfl (kS rfl rfl rfl (OL.yes rfl (aj rfl (OL.split 23 rfl (λg23=>?_) (λg23=>?_))))))
   .try simp only[fG] at g23
    refine OL.yes rfl (aV fd.o9 rfl rfl (OL.yes rfl (aA ce.aI rfl rfl rfl (OL.yes rfl (aV fd.o9 rfl rfl (OL.yes rfl (aA ce.aI rfl rfl rfl ?_)))))));refine OL.yes rfl (fO sl.aI rfl rfl (OL.yes rfl (iW rfl rfl (by omega) (OL.yes rfl (ixL sl.aI 0 rfl rfl (by omega) (by omega) rfl rfl (OL.yes rfl (jb ce.u32 rfl ?_)))))))
    refine OL.yes rfl (fE rfl rfl rfl (OL.yes rfl (nJ rfl rfl (oI rfl rfl (aj rfl (OL.split 35 rfl (λX7=>?_) (λX7=>?_)))))))
    .have X7:canon r.den=false:=by rw[<- uQ (by omega),X7];rfl
     exact OL.nd rfl (OL.nd rfl (OL.nd rfl (nJ rfl rfl (OL.nil (AW.reach () ⟨trivial,Knows.app .jm (.cons (bV.bool (by rw[cn0 r.num (by omega),X7];rfl)) .nil),dP.app (.cons rfl .nil) (.nil)⟩)))))
    .have X7:canon r.den=true:=by rw[<- uQ (by omega),X7];rfl
     refine OL.yes rfl (aV fd.o9 rfl rfl (OL.yes rfl (aA ce.aI rfl rfl rfl (OL.yes rfl (bP rfl .dw (Fh l2) (oI rfl rfl (OL.nil ?_)))))));exact AW.reach () ⟨trivial,Knows.app .jm (.cons (bV.bool (by rw[cn0 r.num (by omega),X7];rfl)) .nil),dP.app (.cons rfl .nil) (.nil)⟩
   .try simp only[fG] at g23
    refine OL.nd rfl (OL.nd rfl (OL.nd rfl (OL.nd rfl (OL.nd rfl (OL.nd rfl (OL.nd rfl (OL.nd rfl ?_)))))));refine OL.nd rfl (OL.yes rfl (oI rfl rfl (oI rfl rfl (aj rfl (OL.yes rfl (aV fd.o9 rfl rfl (OL.yes rfl ?_)))))));exact aA ce.aI rfl rfl rfl (OL.yes rfl (bP rfl .dw (Fh l2) (oI rfl rfl (OL.nil (AW.reach () ⟨trivial,Knows.app .jm (.cons (bV.bool (by rw[cn0 r.num (by omega),cn0 r.den (by omega)];rfl)) .nil),dP.app (.cons rfl .nil) (.nil)⟩)))))
 rintro⟨⟩ hφ
 refine AW.cond rfl (λh1=>?_) (λh1=>?_)
 .have hg:r.good=false:=by unfold Raw.good;cases e1:canon r.num with
    | false=>simp
    | true =>
     cases e2:canon r.den with
     | false=>simp
     | true =>
      rw[e1,e2] at h1;have e3:r.den=[1]:=by simpa using h1
      rw[e3];cases r.num <;> simp[jC,jB]
  exact AW.sg hE rfl (aG rfl (OL.nil (AW.ret (aT.r ⟨_,.tmp rfl .nil,.le (aC (by rw[hg];rfl))⟩))))
 .have h1a:canon r.num=true:=by cases e1:canon r.num <;> simp[e1] at h1;rfl
  have h1b:canon r.den=true:=by cases e1:canon r.den <;> simp[e1] at h1;rfl
  have h1c:r.den≠[1]:=by intro e;simp[e] at h1
  have hN:=BN hr.num h1a;have hD:=BN hr.den h1b;have hd1:val r.den≠1:=λe=>h1c (by rw[<- hD,e];exact H9.2 rfl)
  refine AW.skip (AW.seq (AW.sg hE rfl (aV fd.rU rfl rfl (aA ce.aI rfl rfl rfl (fO sl.aI rfl rfl (fE rfl rfl rfl (OL.nil ?_)))))));refine AW.cond rfl (λh2=>?_) (λh2=>?_)
  .have h2:r.num=[]:=EQ (by have:=mX h2;omega)
   have hg:r.good=(!r.neg && decide (r.den=[])):=by unfold Raw.good;rw[h1a,h1b,decide_eq_true h2];rfl
   refine AW.sg hE rfl (aV fd.tN rfl rfl (aA ce.bool rfl rfl rfl (nt rfl (aj rfl (OL.split 47 rfl (λg47=>?_) (λg47=>?_))))))
   .have g47:=g47;refine OL.yes rfl (aV fd.o9 rfl rfl (OL.yes rfl (aA ce.aI rfl rfl rfl (OL.yes rfl (fO sl.aI rfl rfl (OL.yes rfl (fE rfl rfl rfl ?_)))))));exact nJ rfl rfl (aG rfl (OL.nil (AW.ret (aT.r ⟨_,.tmp rfl .nil,.le (bV.bool (by rw[hg,g47,Bool.true_and];exact decide_eq_decide.2 (by rw[<- List.length_eq_zero_iff];omega)))⟩))))
   .have g47:=g47;exact OL.nd rfl (OL.nd rfl (OL.nd rfl (OL.nd rfl (oI rfl rfl (aG rfl (OL.nil (AW.ret (aT.r ⟨_,.tmp rfl .nil,.le (bV.bool (by rw[hg,g47];rfl))⟩))))))))
  .have h2:r.num≠[]:=λe=>by have:=oN h2;rw[e] at this;exact this rfl
   refine AW.skip (AW.sg hE rfl (aV fd.o9 rfl rfl (aA ce.aI rfl rfl rfl (fO sl.aI rfl rfl (fE rfl rfl rfl (aj rfl (OL.split 57 rfl (λg57=>?_) (λg57=>?_))))))))
   .have g57:r.den=[]:=EQ (by have:=mX g57;omega)
    refine OL.nd rfl (OL.nd rfl (OL.nd rfl (OL.nd rfl (OL.nd rfl (OL.nd rfl (nJ rfl rfl (aG rfl ?_)))))));exact OL.nil (AW.ret (aT.r ⟨_,.tmp rfl .nil,.le (bV.bool (by simp[Raw.good,h1a,h1b,h2,g57];rfl))⟩))
   .have g57:r.den≠[]:=λe=>by have:=oN g57;rw[e] at this;exact this rfl
    have hn0:val r.num≠0:=λe=>h2 (by rw[<- hN,e,eX])
    refine OL.yes rfl (aV fd.rU rfl rfl (OL.yes rfl (aA ce.aI rfl rfl rfl (OL.yes rfl (aV fd.o9 rfl rfl (OL.yes rfl (aA ce.aI rfl rfl rfl ?_)))))));exact OL.yes rfl (cl (LP (a:=val r.num) (b:=val r.den) (by rw[hN];omega) (by rw[hD];omega)) rfl (by rw[hN,hD];exact fK.refl _) (OL.yes rfl (bP rfl .dw (ZN) (oI rfl rfl (aG rfl (OL.nil (AW.ret (aT.r ⟨_,.tmp rfl .nil,.le (bV.bool (by simp[Raw.good,h1a,h1b,h2,g57,hd1]))⟩))))))))
theorem Bq {q:Rat}:ai P F.Gp [vQ q] (.d (aI (lim q.den))):=by
 refine ai.intro fn.Gp (by rfl) (by rfl) (au (by rfl)) λE hE=>(AW.sg hE rfl (iG rfl rfl λb1=>(nI rfl (OL.nil (AW.seq (AW.sg hE rfl (aV fd.o9 rfl rfl ?_)))))))
 refine aA ce.aI rfl rfl rfl (fO sl.aI rfl rfl (fE rfl rfl rfl (OL.nil (AW.cond rfl (λh1=>?_) (λh1=>?_)))))
 .have h1:q.den=1:=by
    have h2:=mX h1;by_cases e:q.den=1
    .exact e
    .have e2:(iD q).den=lim q.den:=by simp[iD,e]
     rw[e2] at h2;exact absurd (dO.1 (by omega)) q.den_nz
  exact AW.sg hE rfl (xG sl.aI (VC.d _).vd rfl (by decide) (aG rfl (OL.nil (AW.ret (aT.r ⟨_,.tmp rfl .nil,.le (aC (by rw[h1,H9.2 rfl];rfl))⟩)))))
 .have h1:q.den≠1:=λe=>by
    have h2:=oN h1;have e2:(iD q).den=[]:=by simp[iD,e]
    rw[e2] at h2;exact h2 rfl
  exact AW.skip (AW.sg hE rfl (aV fd.o9 rfl rfl (aA ce.aI rfl rfl rfl (aG rfl (OL.nil (AW.ret (aT.r ⟨_,.tmp rfl .nil,.le (aC (by rw[show (iD q).den=lim q.den by simp[iD,h1]];rfl))⟩)))))))
theorem wJ {r:Raw}(hr:r.Ok):ai P F.zX [uo r] (vQ r.q):=by
 have n1:=hr.ln;have n2:=hr.ld;refine ai.intro fn.zX (by rfl) (by rfl) (au (by rfl)) λE hE=>(AW.sg hE rfl (iG rfl rfl λb1=>(al z.Rat rfl λb2=>(OL.nil (AW.seq (AW.sg hE rfl (aQ ag.Rat rfl rfl (vs:=[_,_,_]) rfl (au rfl) ?_)))))))
 refine bP rfl .dw (QO (by assumption)) (nt rfl (OL.nil (AW.cond rfl (λh1=>?_) (λh1=>?_))))
 .have hq:=as2 (r:=r) (by simpa using h1)
  refine AW.sg hE rfl (bd z.Rat pl.Rat (cs:=[_,_,_]) rfl (eG sz.Rat rfl rfl rfl rfl rfl (au rfl) (cells2:=[_,_,_]) rfl (OL.nil ?_)));rw[hq,Zy];exact AW.ret (aT.r ⟨_,.dK rfl rfl ag.Rat (au rfl) .nil,.ag (.cons (.le vR) (.cons (.le (bV.mt)) (.cons (.le (bV.mt)) .nil)))⟩)
 .have hq:=Zv hr (by simpa using h1)
  refine AW.skip (AW.seq (AW.dg 2 [0,1,2,3,5,6,4,7,8,9] ak hE rfl (by kernel_rfl) (OI.aP (os:=[_,_,_,_,_,_,_,_,_,_]) rfl ?_)))
  refine aV fd.tN rfl rfl (aA ce.bool rfl rfl rfl (aV fd.rU rfl rfl (aA ce.aI rfl rfl rfl (aV fd.o9 rfl rfl (aA ce.aI rfl rfl rfl (aq5 sl.aI rfl rfl (VC.d _) (by simp[D.cells]) (by simp;omega) (by simp;omega) (aq5 sl.aI rfl rfl (VC.d _) (by simp[D.cells]) (by simp;omega) (by simp;omega) ?_)))))))
  refine Ko (cs:=[_,_,_]) z.Rat pl.Rat (jR (by exact rq rfl) (jR (by exact rq rfl) (jR (by exact rq rfl) (J9)))) (by rfl) (eG sz.Rat rfl rfl rfl rfl rfl (au rfl) (cells2:=[_,_,_]) rfl (OL.nil ?_))
  rw[ba5 hq];exact AW.ret (aT.r ⟨_,.dK rfl rfl ag.Rat (au rfl) .nil,.ag (.cons (.le vR) (.cons (.le vR) (.cons (.le vR) .nil)))⟩)
theorem Cm {s:Bool}{n d:Nat}(nn:(lim n).length<=1099511627776)(nd:(lim d).length<=1099511627776)(hd:d≠0):ai P F.Ea [.d (dB s),.d (aI (lim n)),.d (aI (lim d))] (vQ (fr s n d)):=by
 refine ai.intro fn.Ea (by rfl) (by rfl) (au (by rfl)) λE hE=>(AW.sg hE rfl (al z.Rat rfl λb6=>(OL.nil (AW.seq (AW.sg hE rfl (aj rfl (fO sl.aI rfl rfl ?_)))))))
 refine fE rfl rfl rfl (OL.nil (AW.cond rfl (λh=>?_) (λh=>?_)))
 .have h:n=0:=dO.1 (by have:=mX h;omega)
  subst h;rw[Tt,Zy];exact AW.sg hE rfl (bd z.Rat pl.Rat (cs:=[_,_,_]) rfl (eG sz.Rat rfl rfl rfl rfl rfl (au rfl) (cells2:=[_,_,_]) rfl (OL.nil (AW.ret (aT.r ⟨_,.dK rfl rfl ag.Rat (au rfl) .nil,.ag (.cons (.le vR) (.cons (.le (bV.mt)) (.cons (.le (bV.mt)) .nil)))⟩)))))
 .have h:n≠0:=λe=>by have:=oN h;rw[e,eX] at this;exact this rfl
  have hgp:0<Nat.gcd n d:=Nat.gcd_pos_of_pos_left d (Nat.pos_of_ne_zero h);have hgl:=ug (Nat.gcd_le_left d (Nat.pos_of_ne_zero h));have hdl:=ug (Nat.div_le_self d (Nat.gcd n d));rw[bl7 h hd];refine AW.skip (AW.sg hE rfl (aj rfl (aj rfl (bP rfl .jm (LP (by assumption) (by assumption)) (aG rfl (OL.nil (AW.sg hE rfl ?_)))))))
  refine aj rfl (aj rfl (bP rfl .jm (Ig (by omega) (by assumption) (by omega)) (ES rfl (ex rfl rfl (ex rfl rfl (aG rfl (aG rfl ?_)))))))
  refine OL.nil (AW.sg hE rfl (aj rfl (aj rfl (bP rfl .jm (Ig (by omega) (by assumption) (by omega)) (ES rfl (ex rfl rfl (ex rfl rfl ?_)))))))
  refine aG rfl (aG rfl (OL.nil (AW.seq (AW.sg hE rfl (aj rfl (bP rfl .dw (ZN) (OL.nil ?_)))))));refine AW.cond rfl (λh2=>?_) (λh2=>?_)
  .try simp only[fG] at h2
   refine AW.rg hE rfl (nI rfl (OL.nil (AW.sg hE rfl (aj rfl (aj rfl (mvM rfl (Ko (cs:=[_,_,_]) z.Rat pl.Rat (jR (by exact rq rfl) (jR (by exact rq rfl) (jR (by exact evM rfl) (J9)))) (by rfl) ?_)))))))
   exact eG sz.Rat rfl rfl rfl rfl rfl (au rfl) (cells2:=[_,_,_]) rfl (OL.nil (AW.ret (aT.r ⟨_,.dK rfl rfl ag.Rat (au rfl) .nil,.ag (.cons (.le vR) (.cons (.le vR) (.cons (.le (by rw[if_pos h2];exact bV.mt)) .nil)))⟩)))
  .try simp only[fG] at h2
   refine AW.skip (AW.sg hE rfl (aj rfl (aj rfl (aj rfl (Ko (cs:=[_,_,_]) z.Rat pl.Rat (jR (by exact rq rfl) (jR (by exact rq rfl) (jR (by exact rq rfl) (J9)))) (by rfl) (eG sz.Rat rfl rfl rfl rfl rfl (au rfl) (cells2:=[_,_,_]) rfl (OL.nil ?_)))))))
   exact AW.ret (aT.r ⟨_,.dK rfl rfl ag.Rat (au rfl) .nil,.ag (.cons (.le vR) (.cons (.le vR) (.cons (.le (aC (by rw[if_neg h2]))) .nil)))⟩)
theorem av8 {n d:Int}(hn:-9223372036854775808<=n/\n<=9223372036854775807)(hd:-9223372036854775808<=d/\d<=9223372036854775807)(h0:d≠0):ai P F.DX [.d (dI n),.d (dI d)] (.oM [vQ ((n:Rat) / (d:Rat)),.d (dI 0)]):=by
 have e1:(lim n.natAbs).length<=2:=dZ (by show n.natAbs<18446744073709551616;omega)
 have e2:(lim d.natAbs).length<=2:=dZ (by show d.natAbs<18446744073709551616;omega)
 refine ai.intro fn.DX (by rfl) (by rfl) (au (by rfl)) λE hE=>(AW.sg hE rfl (al z.Rat rfl λb4=>(aG rfl (OL.nil (AW.seq (AW.sg hE rfl (aj rfl ?_)))))))
 refine fE rfl rfl rfl (OL.nil (AW.cond rfl (λhno=>absurd hno (by simpa using h0)) (λ_=>?_)))
 refine AW.skip (AW.sg hE rfl (aj rfl (bD rfl rfl rfl (aj rfl (bD rfl rfl rfl (neb bt.bool rfl rfl (aj rfl ?_)))))));refine bP rfl .dw (Jl (by assumption)) (bP rfl .dw (LK (by omega)) (aj rfl (bP rfl .dw (Jl (by assumption)) (bP rfl .dw (LK (by omega)) (bP rfl .yI (Cm (by omega) (by omega) (by omega)) ?_)))))
 rw[show (!(decide (n<0) == decide (d<0)))=(decide (n<0) != decide (d<0)) from rfl,NZ]
 exact eG sz.Rat rfl rfl rfl rfl rfl (au rfl) (cells2:=[_,_,_]) rfl (aG rfl (OL.nil (AW.ret (aT.r ⟨_,.dK rfl rfl ag.Rat (au rfl) (.tmp rfl .nil),_,.cons (.ag (.cons (.le vR) (.cons (.le vR) (.cons (.le vR) .nil)))) (.cons (.le vR) .nil),rfl⟩))))
theorem Vq {r:Raw}(hr:r.Ok):ai P F.zW [uo r] (.d (dI (MC r.q))):=by
 refine ai.intro fn.zW (by rfl) (by rfl) (au (by rfl)) λE hE=>(AW.sg hE rfl (iG rfl rfl λb1=>(aG rfl (OL.nil (AW.sg hE rfl (aQ ag.Rat rfl rfl (vs:=[_,_,_]) rfl (au rfl) (bP rfl .dw (wJ (by assumption)) ?_)))))))
 refine eG sz.Rat rfl rfl rfl rfl rfl (au rfl) (cells2:=[_,_,_]) rfl (OL.nil (AW.seq (AW.block (AW.sg hE rfl (aV fd.tN rfl rfl (aA ce.bool rfl rfl rfl (aG rfl ?_)))))));refine OL.nil (AW.cond rfl (λh1=>?_) (λh1=>?_))
 .have h1:r.q.num<0:=mX h1;exact AW.sg hE rfl (aG rfl (OL.nil (AW.ret (aT.r ⟨_,.tmp rfl .nil,.le (bV.int ((Jb.2 h1).symm))⟩))))
 .have h1:¬ r.q.num<0:=oN h1;refine AW.sg hE rfl (aV fd.rU rfl rfl (aA ce.aI rfl rfl rfl (fO sl.aI rfl rfl (kS rfl rfl rfl (aG rfl (OL.nil (AW.cond rfl (λh2=>?_) (λh2=>?_))))))))
  .have h2:r.q.num≠0:=λe=>by have h3:=mX h2;rw[show (iD r.q).num=lim r.q.num.natAbs from rfl,e,show (0:Int).natAbs=0 from rfl,eX] at h3;exact absurd h3 (by decide)
   exact AW.sg hE rfl (aG rfl (OL.nil (AW.ret (aT.r ⟨_,.tmp rfl .nil,.le (bV.int (by unfold MC;rw[if_neg h1,if_neg h2]))⟩))))
  .have h2:r.q.num=0:=by have h3:=oN h2;rw[show (iD r.q).num=lim r.q.num.natAbs from rfl] at h3;have:=dO.1 (show (lim r.q.num.natAbs).length=0 by omega);omega
   exact AW.skip (AW.sg hE rfl (aG rfl (OL.nil (AW.ret (aT.r ⟨_,.tmp rfl .nil,.le (bV.int (by unfold MC;rw[if_neg h1,if_pos h2]))⟩)))))
theorem aN8 {r:Raw}(hr:r.Ok):ai P F.Gm [uo r] (vQ (-r.q)):=by
 have e1:(iD (-r.q)).num=(iD r.q).num:=by simp[iD]
 have e2:(iD (-r.q)).den=(iD r.q).den:=by simp[iD]
 rw[show vQ (-r.q)=.ag [.d (dB (iD (-r.q)).neg),.d (aI (iD r.q).num),.d (aI (iD r.q).den)] by rw[<- e1,<- e2]]
 refine ai.intro fn.Gm (by rfl) (by rfl) (au (by rfl)) λE hE=>(AW.sg hE rfl (iG rfl rfl λb1=>(al z.Rat rfl λb2=>(OL.nil (AW.sg hE rfl (aQ ag.Rat rfl rfl (vs:=[_,_,_]) rfl (au rfl) (bP rfl .dw (wJ (by assumption)) ?_)))))))
 refine eG sz.Rat rfl rfl rfl rfl rfl (au rfl) (cells2:=[_,_,_]) rfl (OL.nil (AW.sg hE rfl (aV fd.rU rfl rfl (aA ce.aI rfl rfl rfl (fO sl.aI rfl rfl (kS rfl rfl rfl (aj rfl ?_)))))));refine OL.split 9 rfl (λh2=>?_) (λh2=>?_)
 .have h2:r.q.num≠0:=λe=>by have h3:=mX h2;rw[show (iD r.q).num=lim r.q.num.natAbs from rfl,e,show (0:Int).natAbs=0 from rfl,eX] at h3;exact absurd h3 (by decide)
  refine OL.yes rfl (aV fd.tN rfl rfl (OL.yes rfl (aA ce.bool rfl rfl rfl (OL.yes rfl (nt rfl (nJ rfl rfl (aV fd.tN rfl rfl ?_)))))));refine eG sz.bool rfl rfl rfl rfl rfl (au rfl) (cells2:=[_,_,_]) rfl (OL.nil (AW.sg hE rfl (aQ ag.Rat rfl rfl (vs:=[_,_,_]) rfl (au rfl) (eG sz.Rat rfl rfl rfl rfl rfl (au rfl) (cells2:=[_,_,_]) rfl (OL.nil ?_)))));exact AW.ret (aT.r ⟨_,.dK rfl rfl ag.Rat (au rfl) .nil,.ag (.cons (.le (bV.bool (by show (!decide (r.q.num<0))=decide ((-r.q).num<0);rw[Rat.neg_num];by_cases h:r.q.num<0;simp[h];omega;simp[h];omega))) (.cons (.le vR) (.cons (.le vR) .nil)))⟩)
 .have h2:r.q.num=0:=by have h3:=oN h2;rw[show (iD r.q).num=lim r.q.num.natAbs from rfl] at h3;have:=dO.1 (show (lim r.q.num.natAbs).length=0 by omega);omega
  refine OL.nd rfl (OL.nd rfl (OL.nd rfl (oI rfl rfl (aV fd.tN rfl rfl (eG sz.bool rfl rfl rfl rfl rfl (au rfl) (cells2:=[_,_,_]) rfl (OL.nil (AW.sg hE rfl ?_)))))));exact aQ ag.Rat rfl rfl (vs:=[_,_,_]) rfl (au rfl) (eG sz.Rat rfl rfl rfl rfl rfl (au rfl) (cells2:=[_,_,_]) rfl (OL.nil (AW.ret (aT.r ⟨_,.dK rfl rfl ag.Rat (au rfl) .nil,.ag (.cons (.le (bV.bool (by show false=decide ((-r.q).num<0);rw[Rat.neg_num,h2];rfl))) (.cons (.le vR) (.cons (.le vR) .nil)))⟩))))
theorem ZO {x y:Raw}(hx:x.Ok)(hy:y.Ok):ai P F.BU [uo x,uo y] (vQ (x.q+y.q)):=by
 have a1:=EZ hx hx.ln hx.ld (by decide)
 have a2:=EZ hy hy.ln hy.ld (by decide)
 have sn1:=lI x.q;have sn2:=lI y.q;have sd1:=lJ x.q;have sd2:=lJ y.q;have sdd:=gI x.q.den y.q.den;have dd0:=Nat.mul_ne_zero x.q.den_nz y.q.den_nz;have e1:=gI x.q.num.natAbs y.q.den;have e2:=gI y.q.num.natAbs x.q.den;have hp:=MR (s:=decide (x.q.num<0)) (t:=decide (y.q.num<0)) (a:=x.q.num.natAbs) (b:=y.q.num.natAbs) x.q.den_nz y.q.den_nz;rw[mY,mY] at hp;have hl:=λk l h1 h2 h3 h4=>Jc (s:=decide (x.q.num<0)) (t:=decide (y.q.num<0)) (a:=x.q.num.natAbs) (b:=y.q.num.natAbs) (d1:=x.q.den) (d2:=y.q.den) (k:=k) (l:=l) h1 h2 h3 h4;have hl:=hl _ _ sn1 sn2 sd1 sd2;refine ai.intro fn.BU (by rfl) (by rfl) (au (by rfl)) λE hE=>(AW.sg hE rfl (iG rfl rfl λb2=>(iG rfl rfl λb3=>(al z.Rat rfl λb4=>(OL.nil (AW.seq (AW.dg 1 [0,1,2,3,4,5] ak hE rfl (by kernel_rfl) (OI.aP (os:=[_,_,_,_,_,_]) rfl ?_))))))))
 refine aQ ag.Rat rfl rfl (vs:=[_,_,_]) rfl (au rfl) (bP rfl .dw (wJ (by assumption)) (aQ ag.Rat rfl rfl (vs:=[_,_,_]) rfl (au rfl) (bP rfl .dw (wJ (by assumption)) (eG sz.Rat rfl rfl rfl rfl rfl (au rfl) (cells2:=[_,_,_]) rfl (eG sz.Rat rfl rfl rfl rfl rfl (au rfl) (cells2:=[_,_,_]) rfl (OL.nil (AW.seq ?_)))))))
 refine AW.dg 1 [0,1,2,3,4,5,6,7,8,9,10,11,12,13,14,15,16,17] ak hE rfl (by kernel_rfl) (OI.aP (os:=[_,_,_,_,_,_,_,_,_,_,_,_,_,_,_,_,_,_]) rfl ?_)
 refine aV fd.rU rfl rfl (aA ce.aI rfl rfl rfl (aQ ag.Rat rfl rfl (vs:=[_,_,_]) rfl (au rfl) (bP rfl .dw (Bq) (bP rfl .jm (uV (a:=x.q.num.natAbs) (b:=y.q.den) (by omega) (by omega)) (aV fd.rU rfl rfl (aA ce.aI rfl rfl rfl (aQ ag.Rat rfl rfl (vs:=[_,_,_]) rfl (au rfl) ?_)))))))
 refine bP rfl .dw (Bq) (bP rfl .jm (uV (a:=y.q.num.natAbs) (b:=x.q.den) (by omega) (by omega)) (aQ ag.Rat rfl rfl (vs:=[_,_,_]) rfl (au rfl) (bP rfl .dw (Bq) (aQ ag.Rat rfl rfl (vs:=[_,_,_]) rfl (au rfl) (bP rfl .dw (Bq) (bP rfl .jm (uV (a:=x.q.den) (b:=y.q.den) (by omega) (by omega)) (aG rfl ?_)))))))
 refine aG rfl (aG rfl (OL.nil (AW.seq (AW.block (AW.sg hE rfl (aV fd.tN rfl rfl (aA ce.bool rfl rfl rfl ?_)))))));refine aV fd.tN rfl rfl (aA ce.bool rfl rfl rfl (eqb bt.bool rfl rfl (aG rfl (OL.nil (AW.cond rfl (λh=>?_) (λh=>?_))))))
 .have h:decide (x.q.num<0)=decide (y.q.num<0):=by exact beq_iff_eq.1 h
  rw[if_pos h] at hp;rw[if_pos h] at hp hl;refine AW.seq (AW.dg 1 [0,1,2,3,4,5,6,7] ak hE rfl (by kernel_rfl) (OI.aP (os:=[_,_,_,_,_,_,_,_]) rfl ?_))
  refine aV fd.tN rfl rfl (aA ce.bool rfl rfl rfl (aj rfl (aj rfl (bP rfl .jm (Kr (by omega) (by omega)) (aj rfl (bP rfl .yI (Cm (s:=decide (x.q.num<0)) (by omega) (by omega) dd0) ?_))))))
  rw[hp];exact eG sz.Rat rfl rfl rfl rfl rfl (au rfl) (cells2:=[_,_,_]) rfl (OL.nil (AW.ret (aT.r ⟨_,.dK rfl rfl ag.Rat (au rfl) .nil,.ag (.cons (.le vR) (.cons (.le vR) (.cons (.le vR) .nil)))⟩)))
 .have h:¬ decide (x.q.num<0)=decide (y.q.num<0):=λe=>by have e2:=beq_iff_eq.2 e;exact absurd (h.symm.trans e2) (by decide)
  rw[if_neg h,if_neg h] at hp;rw[if_neg h] at hl;refine AW.sg hE rfl (aj rfl (aj rfl (bP rfl .jm (LM (by omega) (by omega)) (tH rfl rfl rfl (aG rfl (OL.nil (AW.cond rfl (λh2=>?_) (λh2=>?_))))))))
  .have h2:y.q.num.natAbs*x.q.den<=x.q.num.natAbs*y.q.den:=Ja (by have:=mX h2;omega)
   rw[if_pos h2,if_pos h2] at hp;rw[if_pos h2] at hl;refine AW.seq (AW.dg 1 [0,1,2,3,4,5,6,7] ak hE rfl (by kernel_rfl) (OI.aP (os:=[_,_,_,_,_,_,_,_]) rfl ?_))
   refine aV fd.tN rfl rfl (aA ce.bool rfl rfl rfl (aj rfl (aj rfl (bP rfl .jm (Ie (by omega) (by assumption)) (aj rfl (bP rfl .yI (Cm (s:=decide (x.q.num<0)) (by omega) (by omega) dd0) ?_))))))
   rw[hp];exact eG sz.Rat rfl rfl rfl rfl rfl (au rfl) (cells2:=[_,_,_]) rfl (OL.nil (AW.ret (aT.r ⟨_,.dK rfl rfl ag.Rat (au rfl) .nil,.ag (.cons (.le vR) (.cons (.le vR) (.cons (.le vR) .nil)))⟩)))
  .have h2:¬ y.q.num.natAbs*x.q.den<=x.q.num.natAbs*y.q.den:=λe=>oN h2 (XM e);rw[if_neg h2,if_neg h2] at hp;rw[if_neg h2] at hl;refine AW.skip (AW.seq (AW.dg 1 [0,1,2,3,4,5,6,7] ak hE rfl (by kernel_rfl) (OI.aP (os:=[_,_,_,_,_,_,_,_]) rfl ?_)))
   refine aV fd.tN rfl rfl (aA ce.bool rfl rfl rfl (aj rfl (aj rfl (bP rfl .jm (Ie (by omega) (by omega)) (aj rfl (bP rfl .yI (Cm (s:=decide (y.q.num<0)) (by omega) (by omega) dd0) ?_))))))
   rw[hp];exact eG sz.Rat rfl rfl rfl rfl rfl (au rfl) (cells2:=[_,_,_]) rfl (OL.nil (AW.ret (aT.r ⟨_,.dK rfl rfl ag.Rat (au rfl) .nil,.ag (.cons (.le vR) (.cons (.le vR) (.cons (.le vR) .nil)))⟩)))
theorem Oj {x y:Rat}(hx:sz x<=68719476736)(hy:sz y<=68719476736):ai P F.BU [vQ x,vQ y] (vQ (x+y)):=by
 have h:=ZO (x:=iD x) (y:=iD y) (kD (by omega)) (kD (by omega))
 rw[oK,oK] at h;exact h
theorem Gq {x:Rat}(hx:sz x<=274877906944):ai P F.zW [vQ x] (.d (dI (MC x))):=by
 have h:=Vq (r:=iD x) (kD hx);rw[oK] at h;exact h
theorem aN9 {x y:Raw}(hx:x.Ok)(hy:y.Ok):ai P F.Cb [uo x,uo y] (vQ (x.q-y.q)):=by
 have a2:=EZ hy hy.ln hy.ld (by decide)
 refine ai.intro fn.Cb (by rfl) (by rfl) (au (by rfl)) λE hE=>(AW.sg hE rfl (iG rfl rfl λb2=>(iG rfl rfl λb3=>(al z.Rat rfl λb4=>(OL.nil (AW.seq (AW.dg 1 [0,1,2,3,4] ak hE rfl (by kernel_rfl) (OI.aP (os:=[_,_,_,_,_]) rfl ?_))))))))
 refine aQ ag.Rat rfl rfl (vs:=[_,_,_]) rfl (au rfl) (aQ ag.Rat rfl rfl (vs:=[_,_,_]) rfl (au rfl) (bP rfl .dw (aN8 hy) (bP rfl .jm (ZO hx (kD (by rw[EY];omega))) ?_)))
 rw[oK,<- Rat.sub_eq_add_neg];exact eG sz.Rat rfl rfl rfl rfl rfl (au rfl) (cells2:=[_,_,_]) rfl (OL.nil (AW.ret (aT.r ⟨_,.dK rfl rfl ag.Rat (au rfl) .nil,.ag (.cons (.le vR) (.cons (.le vR) (.cons (.le vR) .nil)))⟩)))
theorem Vr {x y:Rat}(hx:sz x<=68719476736)(hy:sz y<=68719476736):ai P F.Cb [vQ x,vQ y] (vQ (x-y)):=by
 have h:=aN9 (x:=iD x) (y:=iD y) (kD (by omega)) (kD (by omega))
 rw[oK,oK] at h;exact h

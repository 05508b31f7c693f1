/-
  Walks of the reference's numbers, part 3: rational numbers (printed by mk2.py).
-/
import Derived.Test.YteiohkpjgcioaaaGreatDoorKRefB
set_option linter.unusedVariables false
set_option linter.unusedSimpArgs false
namespace Go.Proofs.YteiohkpjgcioaaaGreatDoor
open Go Go.AL
theorem Jm {v:Int}(hv:-9223372036854775808<=v/\v<=9223372036854775807):ai P F.vT [.d (dI v)] (.d (dU v.natAbs)):=by
 refine ai.intro fn.vT (by rfl) (by rfl) (au (by rfl)) λE hE=>(AW.sg hE rfl (ay rfl (OL.nil (AW.seq (AW.sg hE rfl (ah rfl (aN rfl rfl rfl ?_)))))))
 refine OL.nil (AW.cond rfl (λh4=>?_) (λh4=>?_))
 .try simp only[bY] at h4
  refine AW.sg hE rfl (ah rfl (aB rfl rfl (by omega) (ng rfl (c:=((v.natAbs-1:Nat):Int)) (by rw[wrap_i64 (by omega)];omega) (cv it.int it.u64 rfl (wrap_u64 (by omega)) (xB rfl rfl (by omega) (ay rfl (OL.nil ?_)))))))
  exact AW.ret (aH.r ⟨_,.tmp rfl .nil,.le (aZ.int (by omega))⟩)
 .try simp only[bY] at h4
  exact AW.skip (AW.sg hE rfl (ah rfl (cv it.int it.u64 rfl (wrap_u64 (by omega)) (ay rfl (OL.nil (AW.ret (aH.r ⟨_,.tmp rfl .nil,.le (aZ.int (by omega))⟩)))))))
theorem J7 {r:Raw}(hr:r.Ok):ai P F.uN [vw r] (.d (dB r.good)):=by
 have n1:=hr.ln;have n2:=hr.ld;have l1:=hr.num;have l2:=hr.den;have cn0:∀ L:List Nat,L.length=0->canon L=true:=λL h=>by rw[KZ h];rfl
 have dn0:∀ L:List Nat,L.length=0->decide (L=[1])=false:=λL h=>by rw[KZ h];rfl
 refine ai.intro fn.uN (by rfl) (by rfl) (au (by rfl)) λE hE=>(AW.sg hE rfl (iC rfl rfl λb1=>(ay rfl (OL.nil (AW.seq (AW.AP (α:=Unit) [(1,_),(2,_)] [(1,_)] (λ_u=>[(39,.d (dB (!canon r.num || !canon r.den || decide (r.den=[1]))))]) (λ_u=>[]) (λ_u=>True) (.cons (fG rfl) (.cons (bM rfl) .nil)) (.cons (iJ rfl) .nil) ?_ ?_))))))
 .refine AW.rg hE rfl (aF fd.sO rfl rfl (ak ce.aC rfl rfl rfl (eH sl.aC rfl rfl (iI rfl rfl rfl (ah rfl (OL.split 7 rfl (λg7=>?_) (λg7=>?_)))))))
  .try simp only[bY] at g7
   refine OL.yes rfl (aF fd.sO rfl rfl (OL.yes rfl (ak ce.aC rfl rfl rfl (OL.yes rfl (aF fd.sO rfl rfl (OL.yes rfl (ak ce.aC rfl rfl rfl ?_)))))));refine OL.yes rfl (eH sl.aC rfl rfl (OL.yes rfl (fC rfl rfl (by omega) (OL.yes rfl (ixL sl.aC 0 rfl rfl (by omega) (by omega) rfl rfl (OL.yes rfl (bP ce.u32 rfl ?_)))))))
   refine OL.yes rfl (dm rfl rfl rfl (iV rfl rfl (ah rfl (OL.split 18 rfl (λg18=>?_) (λg18=>?_)))))
   .have g18:canon r.num=false:=by rw[<- uG (by omega),g18];rfl
    refine OL.nd rfl (OL.nd rfl (OL.nd rfl (OL.nd rfl (OL.nd rfl (OL.nd rfl (OL.nd rfl (OL.nd rfl ?_)))))));refine OL.nd rfl (OL.nd rfl (OL.nd rfl (OL.nd rfl (OL.nd rfl (OL.nd rfl (OL.nd rfl (iV rfl rfl ?_)))))));exact ah rfl (OL.nd rfl (OL.nd rfl (OL.nd rfl (iV rfl rfl (OL.nil (AW.reach () ⟨trivial,Knows.app .dR (.cons (aZ.bool (by rw[g18];rfl)) .nil),bn.app (.cons rfl .nil) (.nil)⟩))))))
   .have g18:canon r.num=true:=by rw[<- uG (by omega),g18];rfl
    refine OL.yes rfl (aF fd.nZ rfl rfl (OL.yes rfl (ak ce.aC rfl rfl rfl (OL.yes rfl (eH sl.aC rfl rfl (OL.yes rfl (iI rfl rfl rfl ?_)))))));refine OL.yes rfl (ah rfl (OL.split 23 rfl (λg23=>?_) (λg23=>?_)))
    .try simp only[bY] at g23
     refine OL.yes rfl (aF fd.nZ rfl rfl (OL.yes rfl (ak ce.aC rfl rfl rfl (OL.yes rfl (aF fd.nZ rfl rfl (OL.yes rfl (ak ce.aC rfl rfl rfl ?_)))))));refine OL.yes rfl (eH sl.aC rfl rfl (OL.yes rfl (fC rfl rfl (by omega) (OL.yes rfl (ixL sl.aC 0 rfl rfl (by omega) (by omega) rfl rfl (OL.yes rfl (bP ce.u32 rfl ?_)))))))
     refine OL.yes rfl (dm rfl rfl rfl (OL.yes rfl (iV rfl rfl (eG rfl rfl (ah rfl (OL.split 35 rfl (λXC=>?_) (λXC=>?_)))))))
     .have XC:canon r.den=false:=by rw[<- uG (by omega),XC];rfl
      exact OL.nd rfl (OL.nd rfl (OL.nd rfl (iV rfl rfl (OL.nil (AW.reach () ⟨trivial,Knows.app .dR (.cons (aZ.bool (by rw[g18,XC];rfl)) .nil),bn.app (.cons rfl .nil) (.nil)⟩)))))
     .have XC:canon r.den=true:=by rw[<- uG (by omega),XC];rfl
      refine OL.yes rfl (aF fd.nZ rfl rfl (OL.yes rfl (ak ce.aC rfl rfl rfl (OL.yes rfl (aY rfl .bC (Ff l2) (eG rfl rfl (OL.nil ?_)))))));exact AW.reach () ⟨trivial,Knows.app .dR (.cons (aZ.bool (by rw[g18,XC];rfl)) .nil),bn.app (.cons rfl .nil) (.nil)⟩
    .try simp only[bY] at g23
     refine OL.nd rfl (OL.nd rfl (OL.nd rfl (OL.nd rfl (OL.nd rfl (OL.nd rfl (OL.nd rfl (OL.nd rfl ?_)))))));refine OL.nd rfl (OL.yes rfl (eG rfl rfl (eG rfl rfl (ah rfl (OL.yes rfl (aF fd.nZ rfl rfl (OL.yes rfl ?_)))))));exact ak ce.aC rfl rfl rfl (OL.yes rfl (aY rfl .bC (Ff l2) (eG rfl rfl (OL.nil (AW.reach () ⟨trivial,Knows.app .dR (.cons (aZ.bool (by rw[g18,cn0 _ (by omega)];rfl)) .nil),bn.app (.cons rfl .nil) (.nil)⟩)))))
  .try simp only[bY] at g7
   refine OL.nd rfl (OL.nd rfl (OL.nd rfl (OL.nd rfl (OL.nd rfl (OL.nd rfl (OL.nd rfl (OL.nd rfl ?_)))))));refine OL.nd rfl (eG rfl rfl (ah rfl (OL.yes rfl (aF fd.nZ rfl rfl (OL.yes rfl (ak ce.aC rfl rfl rfl (OL.yes rfl ?_)))))));refine eH sl.aC rfl rfl (OL.yes rfl (iI rfl rfl rfl (OL.yes rfl (ah rfl (OL.split 23 rfl (λg23=>?_) (λg23=>?_))))))
   .try simp only[bY] at g23
    refine OL.yes rfl (aF fd.nZ rfl rfl (OL.yes rfl (ak ce.aC rfl rfl rfl (OL.yes rfl (aF fd.nZ rfl rfl (OL.yes rfl (ak ce.aC rfl rfl rfl ?_)))))));refine OL.yes rfl (eH sl.aC rfl rfl (OL.yes rfl (fC rfl rfl (by omega) (OL.yes rfl (ixL sl.aC 0 rfl rfl (by omega) (by omega) rfl rfl (OL.yes rfl (bP ce.u32 rfl ?_)))))))
    refine OL.yes rfl (dm rfl rfl rfl (OL.yes rfl (iV rfl rfl (eG rfl rfl (ah rfl (OL.split 35 rfl (λXC=>?_) (λXC=>?_)))))))
    .have XC:canon r.den=false:=by rw[<- uG (by omega),XC];rfl
     exact OL.nd rfl (OL.nd rfl (OL.nd rfl (iV rfl rfl (OL.nil (AW.reach () ⟨trivial,Knows.app .dR (.cons (aZ.bool (by rw[cn0 r.num (by omega),XC];rfl)) .nil),bn.app (.cons rfl .nil) (.nil)⟩)))))
    .have XC:canon r.den=true:=by rw[<- uG (by omega),XC];rfl
     refine OL.yes rfl (aF fd.nZ rfl rfl (OL.yes rfl (ak ce.aC rfl rfl rfl (OL.yes rfl (aY rfl .bC (Ff l2) (eG rfl rfl (OL.nil ?_)))))));exact AW.reach () ⟨trivial,Knows.app .dR (.cons (aZ.bool (by rw[cn0 r.num (by omega),XC];rfl)) .nil),bn.app (.cons rfl .nil) (.nil)⟩
   .try simp only[bY] at g23
    refine OL.nd rfl (OL.nd rfl (OL.nd rfl (OL.nd rfl (OL.nd rfl (OL.nd rfl (OL.nd rfl (OL.nd rfl ?_)))))));refine OL.nd rfl (OL.yes rfl (eG rfl rfl (eG rfl rfl (ah rfl (OL.yes rfl (aF fd.nZ rfl rfl (OL.yes rfl ?_)))))));exact ak ce.aC rfl rfl rfl (OL.yes rfl (aY rfl .bC (Ff l2) (eG rfl rfl (OL.nil (AW.reach () ⟨trivial,Knows.app .dR (.cons (aZ.bool (by rw[cn0 r.num (by omega),cn0 r.den (by omega)];rfl)) .nil),bn.app (.cons rfl .nil) (.nil)⟩)))))
 rintro⟨⟩ hφ
 refine AW.cond rfl (λh1=>?_) (λh1=>?_)
 .have hg:r.good=false:=by unfold Raw.good;cases e1:canon r.num with
    | false=>simp
    | true =>
     cases e2:canon r.den with
     | false=>simp
     | true =>
      rw[e1,e2] at h1;have e3:r.den=[1]:=by simpa using h1
      rw[e3];cases r.num <;> simp[jr,jq]
  exact AW.sg hE rfl (ay rfl (OL.nil (AW.ret (aH.r ⟨_,.tmp rfl .nil,.le (aI (by rw[hg];rfl))⟩))))
 .have h1a:canon r.num=true:=by cases e1:canon r.num <;> simp[e1] at h1;rfl
  have h1b:canon r.den=true:=by cases e1:canon r.den <;> simp[e1] at h1;rfl
  have h1c:r.den≠[1]:=by intro e;simp[e] at h1
  have hN:=BR hr.num h1a;have hD:=BR hr.den h1b;have hd1:val r.den≠1:=λe=>h1c (by rw[<- hD,e];exact Ie.2 rfl)
  refine AW.skip (AW.seq (AW.sg hE rfl (aF fd.sO rfl rfl (ak ce.aC rfl rfl rfl (eH sl.aC rfl rfl (dm rfl rfl rfl (OL.nil ?_)))))));refine AW.cond rfl (λh2=>?_) (λh2=>?_)
  .have h2:r.num=[]:=KZ (by have:=jC h2;omega)
   have hg:r.good=(!r.neg && decide (r.den=[])):=by unfold Raw.good;rw[h1a,h1b,decide_eq_true h2];rfl
   refine AW.sg hE rfl (aF fd.tV rfl rfl (ak ce.bool rfl rfl rfl (nt rfl (ah rfl (OL.split 47 rfl (λg47=>?_) (λg47=>?_))))))
   .have g47:=g47;refine OL.yes rfl (aF fd.nZ rfl rfl (OL.yes rfl (ak ce.aC rfl rfl rfl (OL.yes rfl (eH sl.aC rfl rfl (OL.yes rfl (dm rfl rfl rfl ?_)))))));exact iV rfl rfl (ay rfl (OL.nil (AW.ret (aH.r ⟨_,.tmp rfl .nil,.le (aZ.bool (by rw[hg,g47,Bool.true_and];exact decide_eq_decide.2 (by rw[<- List.length_eq_zero_iff];omega)))⟩))))
   .have g47:=g47;exact OL.nd rfl (OL.nd rfl (OL.nd rfl (OL.nd rfl (eG rfl rfl (ay rfl (OL.nil (AW.ret (aH.r ⟨_,.tmp rfl .nil,.le (aZ.bool (by rw[hg,g47];rfl))⟩))))))))
  .have h2:r.num≠[]:=λe=>by have:=kK h2;rw[e] at this;exact this rfl
   refine AW.skip (AW.sg hE rfl (aF fd.nZ rfl rfl (ak ce.aC rfl rfl rfl (eH sl.aC rfl rfl (dm rfl rfl rfl (ah rfl (OL.split 57 rfl (λg57=>?_) (λg57=>?_))))))))
   .have g57:r.den=[]:=KZ (by have:=jC g57;omega)
    refine OL.nd rfl (OL.nd rfl (OL.nd rfl (OL.nd rfl (OL.nd rfl (OL.nd rfl (iV rfl rfl (ay rfl ?_)))))));exact OL.nil (AW.ret (aH.r ⟨_,.tmp rfl .nil,.le (aZ.bool (by simp[Raw.good,h1a,h1b,h2,g57];rfl))⟩))
   .have g57:r.den≠[]:=λe=>by have:=kK g57;rw[e] at this;exact this rfl
    have hn0:val r.num≠0:=λe=>h2 (by rw[<- hN,e,dY])
    refine OL.yes rfl (aF fd.sO rfl rfl (OL.yes rfl (ak ce.aC rfl rfl rfl (OL.yes rfl (aF fd.nZ rfl rfl (OL.yes rfl (ak ce.aC rfl rfl rfl ?_)))))));exact OL.yes rfl (cl (LJ (a:=val r.num) (b:=val r.den) (by rw[hN];omega) (by rw[hD];omega)) rfl (by rw[hN,hD];exact iy.refl _) (OL.yes rfl (aY rfl .bC (YX) (eG rfl rfl (ay rfl (OL.nil (AW.ret (aH.r ⟨_,.tmp rfl .nil,.le (aZ.bool (by simp[Raw.good,h1a,h1b,h2,g57,hd1]))⟩))))))))
theorem Gj {q:Rat}:ai P F.Gg [vQ q] (.d (aC (lim q.den))):=by
 refine ai.intro fn.Gg (by rfl) (by rfl) (au (by rfl)) λE hE=>(AW.sg hE rfl (iC rfl rfl λb1=>(oq rfl (OL.nil (AW.seq (AW.sg hE rfl (aF fd.nZ rfl rfl ?_)))))))
 refine ak ce.aC rfl rfl rfl (eH sl.aC rfl rfl (dm rfl rfl rfl (OL.nil (AW.cond rfl (λh1=>?_) (λh1=>?_)))))
 .have h1:q.den=1:=by
    have h2:=jC h1;by_cases e:q.den=1
    .exact e
    .have e2:(eU q).den=lim q.den:=by simp[eU,e]
     rw[e2] at h2;exact absurd (dJ.1 (by omega)) q.den_nz
  exact AW.sg hE rfl (tC sl.aC (VC.d _).vd rfl (by decide) (ay rfl (OL.nil (AW.ret (aH.r ⟨_,.tmp rfl .nil,.le (aI (by rw[h1,Ie.2 rfl];rfl))⟩)))))
 .have h1:q.den≠1:=λe=>by
    have h2:=kK h1;have e2:(eU q).den=[]:=by simp[eU,e]
    rw[e2] at h2;exact h2 rfl
  exact AW.skip (AW.sg hE rfl (aF fd.nZ rfl rfl (ak ce.aC rfl rfl rfl (ay rfl (OL.nil (AW.ret (aH.r ⟨_,.tmp rfl .nil,.le (aI (by rw[show (eU q).den=lim q.den by simp[eU,h1]];rfl))⟩)))))))
theorem Ai {r:Raw}(hr:r.Ok):ai P F.zZ [vw r] (vQ r.q):=by
 have n1:=hr.ln;have n2:=hr.ld;refine ai.intro fn.zZ (by rfl) (by rfl) (au (by rfl)) λE hE=>(AW.sg hE rfl (iC rfl rfl λb1=>(al z.Rat rfl λb2=>(OL.nil (AW.seq (AW.sg hE rfl (aG ag.Rat rfl rfl (vs:=[_,_,_]) rfl (au rfl) ?_)))))))
 refine aY rfl .bC (J7 (by assumption)) (nt rfl (OL.nil (AW.cond rfl (λh1=>?_) (λh1=>?_))))
 .have hq:=am3 (r:=r) (by simpa using h1)
  refine AW.sg hE rfl (bd z.Rat pl.Rat (cs:=[_,_,_]) rfl (dA sz.Rat rfl rfl rfl rfl rfl (au rfl) (cells2:=[_,_,_]) rfl (OL.nil ?_)));rw[hq,YM];exact AW.ret (aH.r ⟨_,.dD rfl rfl ag.Rat (au rfl) .nil,.ag (.cons (.le vR) (.cons (.le (aZ.mt)) (.cons (.le (aZ.mt)) .nil)))⟩)
 .have hq:=YI hr (by simpa using h1)
  refine AW.skip (AW.seq (AW.dg 2 [0,1,2,3,5,6,4,7,8,9] aj hE rfl (by kernel_rfl) (OI.aP (os:=[_,_,_,_,_,_,_,_,_,_]) rfl ?_)))
  refine aF fd.tV rfl rfl (ak ce.bool rfl rfl rfl (aF fd.sO rfl rfl (ak ce.aC rfl rfl rfl (aF fd.nZ rfl rfl (ak ce.aC rfl rfl rfl (UD sl.aC rfl rfl (VC.d _) (by simp[D.cells]) (by simp;omega) (by simp;omega) (UD sl.aC rfl rfl (VC.d _) (by simp[D.cells]) (by simp;omega) (by simp;omega) ?_)))))))
  refine WL (cs:=[_,_,_]) z.Rat pl.Rat (qA (by exact AX rfl) (qA (by exact AX rfl) (qA (by exact AX rfl) (WJ)))) (by rfl) (dA sz.Rat rfl rfl rfl rfl rfl (au rfl) (cells2:=[_,_,_]) rfl (OL.nil ?_))
  rw[aO9 hq];exact AW.ret (aH.r ⟨_,.dD rfl rfl ag.Rat (au rfl) .nil,.ag (.cons (.le vR) (.cons (.le vR) (.cons (.le vR) .nil)))⟩)
theorem Fg {s:Bool}{n d:Nat}(nn:(lim n).length<=1099511627776)(nd:(lim d).length<=1099511627776)(hd:d≠0):ai P F.Dy [.d (dB s),.d (aC (lim n)),.d (aC (lim d))] (vQ (fr s n d)):=by
 refine ai.intro fn.Dy (by rfl) (by rfl) (au (by rfl)) λE hE=>(AW.sg hE rfl (al z.Rat rfl λb6=>(OL.nil (AW.seq (AW.sg hE rfl (ah rfl (eH sl.aC rfl rfl ?_)))))))
 refine dm rfl rfl rfl (OL.nil (AW.cond rfl (λh=>?_) (λh=>?_)))
 .have h:n=0:=dJ.1 (by have:=jC h;omega)
  subst h;rw[RJ,YM];exact AW.sg hE rfl (bd z.Rat pl.Rat (cs:=[_,_,_]) rfl (dA sz.Rat rfl rfl rfl rfl rfl (au rfl) (cells2:=[_,_,_]) rfl (OL.nil (AW.ret (aH.r ⟨_,.dD rfl rfl ag.Rat (au rfl) .nil,.ag (.cons (.le vR) (.cons (.le (aZ.mt)) (.cons (.le (aZ.mt)) .nil)))⟩)))))
 .have h:n≠0:=λe=>by have:=kK h;rw[e,dY] at this;exact this rfl
  have hgp:0<Nat.gcd n d:=Nat.gcd_pos_of_pos_left d (Nat.pos_of_ne_zero h);have hgl:=sW (Nat.gcd_le_left d (Nat.pos_of_ne_zero h));have hdl:=sW (Nat.div_le_self d (Nat.gcd n d));rw[aZ6 h hd];refine AW.skip (AW.sg hE rfl (ah rfl (ah rfl (aY rfl .dR (LJ (by assumption) (by assumption)) (ay rfl (OL.nil (AW.sg hE rfl ?_)))))))
  refine ah rfl (ah rfl (aY rfl .dR (Il (by omega) (by assumption) (by omega)) (BN rfl (ex rfl rfl (ex rfl rfl (ay rfl (ay rfl ?_)))))))
  refine OL.nil (AW.sg hE rfl (ah rfl (ah rfl (aY rfl .dR (Il (by omega) (by assumption) (by omega)) (BN rfl (ex rfl rfl (ex rfl rfl ?_)))))))
  refine ay rfl (ay rfl (OL.nil (AW.seq (AW.sg hE rfl (ah rfl (aY rfl .bC (YX) (OL.nil ?_)))))));refine AW.cond rfl (λh2=>?_) (λh2=>?_)
  .try simp only[bY] at h2
   refine AW.rg hE rfl (oq rfl (OL.nil (AW.sg hE rfl (ah rfl (ah rfl (mvM rfl (WL (cs:=[_,_,_]) z.Rat pl.Rat (qA (by exact AX rfl) (qA (by exact AX rfl) (qA (by exact evM rfl) (WJ)))) (by rfl) ?_)))))))
   exact dA sz.Rat rfl rfl rfl rfl rfl (au rfl) (cells2:=[_,_,_]) rfl (OL.nil (AW.ret (aH.r ⟨_,.dD rfl rfl ag.Rat (au rfl) .nil,.ag (.cons (.le vR) (.cons (.le vR) (.cons (.le (by rw[if_pos h2];exact aZ.mt)) .nil)))⟩)))
  .try simp only[bY] at h2
   refine AW.skip (AW.sg hE rfl (ah rfl (ah rfl (ah rfl (WL (cs:=[_,_,_]) z.Rat pl.Rat (qA (by exact AX rfl) (qA (by exact AX rfl) (qA (by exact AX rfl) (WJ)))) (by rfl) (dA sz.Rat rfl rfl rfl rfl rfl (au rfl) (cells2:=[_,_,_]) rfl (OL.nil ?_)))))))
   exact AW.ret (aH.r ⟨_,.dD rfl rfl ag.Rat (au rfl) .nil,.ag (.cons (.le vR) (.cons (.le vR) (.cons (.le (aI (by rw[if_neg h2]))) .nil)))⟩)
theorem Cj {n d:Int}(hn:-9223372036854775808<=n/\n<=9223372036854775807)(hd:-9223372036854775808<=d/\d<=9223372036854775807)(h0:d≠0):ai P F.uJ [.d (dI n),.d (dI d)] (.jM [vQ ((n:Rat) / (d:Rat)),.d (dI 0)]):=by
 have e1:(lim n.natAbs).length<=2:=fK (by show n.natAbs<18446744073709551616;omega)
 have e2:(lim d.natAbs).length<=2:=fK (by show d.natAbs<18446744073709551616;omega)
 refine ai.intro fn.uJ (by rfl) (by rfl) (au (by rfl)) λE hE=>(AW.sg hE rfl (al z.Rat rfl λb4=>(ay rfl (OL.nil (AW.seq (AW.sg hE rfl (ah rfl ?_)))))))
 refine dm rfl rfl rfl (OL.nil (AW.cond rfl (λhno=>absurd hno (by simpa using h0)) (λ_=>?_)))
 refine AW.skip (AW.sg hE rfl (ah rfl (aN rfl rfl rfl (ah rfl (aN rfl rfl rfl (neb bt.bool rfl rfl (ah rfl ?_)))))));refine aY rfl .bC (Jm (by assumption)) (aY rfl .bC (LG (by omega)) (ah rfl (aY rfl .bC (Jm (by assumption)) (aY rfl .bC (LG (by omega)) (aY rfl .wL (Fg (by omega) (by omega) (by omega)) ?_)))))
 rw[show (!(decide (n<0) == decide (d<0)))=(decide (n<0) != decide (d<0)) from rfl,Xq]
 exact dA sz.Rat rfl rfl rfl rfl rfl (au rfl) (cells2:=[_,_,_]) rfl (ay rfl (OL.nil (AW.ret (aH.r ⟨_,.dD rfl rfl ag.Rat (au rfl) (.tmp rfl .nil),_,.cons (.ag (.cons (.le vR) (.cons (.le vR) (.cons (.le vR) .nil)))) (.cons (.le vR) .nil),rfl⟩))))
theorem ao2 {r:Raw}(hr:r.Ok):ai P F.zY [vw r] (.d (dI (yN r.q))):=by
 refine ai.intro fn.zY (by rfl) (by rfl) (au (by rfl)) λE hE=>(AW.sg hE rfl (iC rfl rfl λb1=>(ay rfl (OL.nil (AW.sg hE rfl (aG ag.Rat rfl rfl (vs:=[_,_,_]) rfl (au rfl) (aY rfl .bC (Ai (by assumption)) ?_)))))))
 refine dA sz.Rat rfl rfl rfl rfl rfl (au rfl) (cells2:=[_,_,_]) rfl (OL.nil (AW.seq (AW.block (AW.sg hE rfl (aF fd.tV rfl rfl (ak ce.bool rfl rfl rfl (ay rfl ?_)))))));refine OL.nil (AW.cond rfl (λh1=>?_) (λh1=>?_))
 .have h1:r.q.num<0:=jC h1;exact AW.sg hE rfl (ay rfl (OL.nil (AW.ret (aH.r ⟨_,.tmp rfl .nil,.le (aZ.int ((Dn.2 h1).symm))⟩))))
 .have h1:¬ r.q.num<0:=kK h1;refine AW.sg hE rfl (aF fd.sO rfl rfl (ak ce.aC rfl rfl rfl (eH sl.aC rfl rfl (iI rfl rfl rfl (ay rfl (OL.nil (AW.cond rfl (λh2=>?_) (λh2=>?_))))))))
  .have h2:r.q.num≠0:=λe=>by have h3:=jC h2;rw[show (eU r.q).num=lim r.q.num.natAbs from rfl,e,show (0:Int).natAbs=0 from rfl,dY] at h3;exact absurd h3 (by decide)
   exact AW.sg hE rfl (ay rfl (OL.nil (AW.ret (aH.r ⟨_,.tmp rfl .nil,.le (aZ.int (by unfold yN;rw[if_neg h1,if_neg h2]))⟩))))
  .have h2:r.q.num=0:=by have h3:=kK h2;rw[show (eU r.q).num=lim r.q.num.natAbs from rfl] at h3;have:=dJ.1 (show (lim r.q.num.natAbs).length=0 by omega);omega
   exact AW.skip (AW.sg hE rfl (ay rfl (OL.nil (AW.ret (aH.r ⟨_,.tmp rfl .nil,.le (aZ.int (by unfold yN;rw[if_neg h1,if_pos h2]))⟩)))))
theorem aD7 {r:Raw}(hr:r.Ok):ai P F.Gi [vw r] (vQ (-r.q)):=by
 have e1:(eU (-r.q)).num=(eU r.q).num:=by simp[eU]
 have e2:(eU (-r.q)).den=(eU r.q).den:=by simp[eU]
 rw[show vQ (-r.q)=.ag [.d (dB (eU (-r.q)).neg),.d (aC (eU r.q).num),.d (aC (eU r.q).den)] by rw[<- e1,<- e2]]
 refine ai.intro fn.Gi (by rfl) (by rfl) (au (by rfl)) λE hE=>(AW.sg hE rfl (iC rfl rfl λb1=>(al z.Rat rfl λb2=>(OL.nil (AW.sg hE rfl (aG ag.Rat rfl rfl (vs:=[_,_,_]) rfl (au rfl) (aY rfl .bC (Ai (by assumption)) ?_)))))))
 refine dA sz.Rat rfl rfl rfl rfl rfl (au rfl) (cells2:=[_,_,_]) rfl (OL.nil (AW.sg hE rfl (aF fd.sO rfl rfl (ak ce.aC rfl rfl rfl (eH sl.aC rfl rfl (iI rfl rfl rfl (ah rfl ?_)))))));refine OL.split 9 rfl (λh2=>?_) (λh2=>?_)
 .have h2:r.q.num≠0:=λe=>by have h3:=jC h2;rw[show (eU r.q).num=lim r.q.num.natAbs from rfl,e,show (0:Int).natAbs=0 from rfl,dY] at h3;exact absurd h3 (by decide)
  refine OL.yes rfl (aF fd.tV rfl rfl (OL.yes rfl (ak ce.bool rfl rfl rfl (OL.yes rfl (nt rfl (iV rfl rfl (aF fd.tV rfl rfl ?_)))))));refine dA sz.bool rfl rfl rfl rfl rfl (au rfl) (cells2:=[_,_,_]) rfl (OL.nil (AW.sg hE rfl (aG ag.Rat rfl rfl (vs:=[_,_,_]) rfl (au rfl) (dA sz.Rat rfl rfl rfl rfl rfl (au rfl) (cells2:=[_,_,_]) rfl (OL.nil ?_)))));exact AW.ret (aH.r ⟨_,.dD rfl rfl ag.Rat (au rfl) .nil,.ag (.cons (.le (aZ.bool (by show (!decide (r.q.num<0))=decide ((-r.q).num<0);rw[Rat.neg_num];by_cases h:r.q.num<0;simp[h];omega;simp[h];omega))) (.cons (.le vR) (.cons (.le vR) .nil)))⟩)
 .have h2:r.q.num=0:=by have h3:=kK h2;rw[show (eU r.q).num=lim r.q.num.natAbs from rfl] at h3;have:=dJ.1 (show (lim r.q.num.natAbs).length=0 by omega);omega
  refine OL.nd rfl (OL.nd rfl (OL.nd rfl (eG rfl rfl (aF fd.tV rfl rfl (dA sz.bool rfl rfl rfl rfl rfl (au rfl) (cells2:=[_,_,_]) rfl (OL.nil (AW.sg hE rfl ?_)))))));exact aG ag.Rat rfl rfl (vs:=[_,_,_]) rfl (au rfl) (dA sz.Rat rfl rfl rfl rfl rfl (au rfl) (cells2:=[_,_,_]) rfl (OL.nil (AW.ret (aH.r ⟨_,.dD rfl rfl ag.Rat (au rfl) .nil,.ag (.cons (.le (aZ.bool (by show false=decide ((-r.q).num<0);rw[Rat.neg_num,h2];rfl))) (.cons (.le vR) (.cons (.le vR) .nil)))⟩))))
theorem YZ {x y:Raw}(hx:x.Ok)(hy:y.Ok):ai P F.BX [vw x,vw y] (vQ (x.q+y.q)):=by
 have a1:=I9 hx hx.ln hx.ld (by decide)
 have a2:=I9 hy hy.ln hy.ld (by decide)
 have sn1:=oK x.q;have sn2:=oK y.q;have sd1:=oL x.q;have sd2:=oL y.q;have sdd:=ja x.q.den y.q.den;have dd0:=Nat.mul_ne_zero x.q.den_nz y.q.den_nz;have e1:=ja x.q.num.natAbs y.q.den;have e2:=ja y.q.num.natAbs x.q.den;have hp:=MG (s:=decide (x.q.num<0)) (t:=decide (y.q.num<0)) (a:=x.q.num.natAbs) (b:=y.q.num.natAbs) x.q.den_nz y.q.den_nz;rw[qP,qP] at hp;have hl:=λk l h1 h2 h3 h4=>I8 (s:=decide (x.q.num<0)) (t:=decide (y.q.num<0)) (a:=x.q.num.natAbs) (b:=y.q.num.natAbs) (d1:=x.q.den) (d2:=y.q.den) (k:=k) (l:=l) h1 h2 h3 h4;have hl:=hl _ _ sn1 sn2 sd1 sd2;refine ai.intro fn.BX (by rfl) (by rfl) (au (by rfl)) λE hE=>(AW.sg hE rfl (iC rfl rfl λb2=>(iC rfl rfl λb3=>(al z.Rat rfl λb4=>(OL.nil (AW.seq (AW.dg 1 [0,1,2,3,4,5] aj hE rfl (by kernel_rfl) (OI.aP (os:=[_,_,_,_,_,_]) rfl ?_))))))))
 refine aG ag.Rat rfl rfl (vs:=[_,_,_]) rfl (au rfl) (aY rfl .bC (Ai (by assumption)) (aG ag.Rat rfl rfl (vs:=[_,_,_]) rfl (au rfl) (aY rfl .bC (Ai (by assumption)) (dA sz.Rat rfl rfl rfl rfl rfl (au rfl) (cells2:=[_,_,_]) rfl (dA sz.Rat rfl rfl rfl rfl rfl (au rfl) (cells2:=[_,_,_]) rfl (OL.nil (AW.seq ?_)))))))
 refine AW.dg 1 [0,1,2,3,4,5,6,7,8,9,10,11,12,13,14,15,16,17] aj hE rfl (by kernel_rfl) (OI.aP (os:=[_,_,_,_,_,_,_,_,_,_,_,_,_,_,_,_,_,_]) rfl ?_)
 refine aF fd.sO rfl rfl (ak ce.aC rfl rfl rfl (aG ag.Rat rfl rfl (vs:=[_,_,_]) rfl (au rfl) (aY rfl .bC (Gj) (aY rfl .dR (Ah (a:=x.q.num.natAbs) (b:=y.q.den) (by omega) (by omega)) (aF fd.sO rfl rfl (ak ce.aC rfl rfl rfl (aG ag.Rat rfl rfl (vs:=[_,_,_]) rfl (au rfl) ?_)))))))
 refine aY rfl .bC (Gj) (aY rfl .dR (Ah (a:=y.q.num.natAbs) (b:=x.q.den) (by omega) (by omega)) (aG ag.Rat rfl rfl (vs:=[_,_,_]) rfl (au rfl) (aY rfl .bC (Gj) (aG ag.Rat rfl rfl (vs:=[_,_,_]) rfl (au rfl) (aY rfl .bC (Gj) (aY rfl .dR (Ah (a:=x.q.den) (b:=y.q.den) (by omega) (by omega)) (ay rfl ?_)))))))
 refine ay rfl (ay rfl (OL.nil (AW.seq (AW.block (AW.sg hE rfl (aF fd.tV rfl rfl (ak ce.bool rfl rfl rfl ?_)))))));refine aF fd.tV rfl rfl (ak ce.bool rfl rfl rfl (eqb bt.bool rfl rfl (ay rfl (OL.nil (AW.cond rfl (λh=>?_) (λh=>?_))))))
 .have h:decide (x.q.num<0)=decide (y.q.num<0):=by exact beq_iff_eq.1 h
  rw[if_pos h] at hp;rw[if_pos h] at hp hl;refine AW.seq (AW.dg 1 [0,1,2,3,4,5,6,7] aj hE rfl (by kernel_rfl) (OI.aP (os:=[_,_,_,_,_,_,_,_]) rfl ?_))
  refine aF fd.tV rfl rfl (ak ce.bool rfl rfl rfl (ah rfl (ah rfl (aY rfl .dR (J6 (by omega) (by omega)) (ah rfl (aY rfl .wL (Fg (s:=decide (x.q.num<0)) (by omega) (by omega) dd0) ?_))))))
  rw[hp];exact dA sz.Rat rfl rfl rfl rfl rfl (au rfl) (cells2:=[_,_,_]) rfl (OL.nil (AW.ret (aH.r ⟨_,.dD rfl rfl ag.Rat (au rfl) .nil,.ag (.cons (.le vR) (.cons (.le vR) (.cons (.le vR) .nil)))⟩)))
 .have h:¬ decide (x.q.num<0)=decide (y.q.num<0):=λe=>by have e2:=beq_iff_eq.2 e;exact absurd (h.symm.trans e2) (by decide)
  rw[if_neg h,if_neg h] at hp;rw[if_neg h] at hl;refine AW.sg hE rfl (ah rfl (ah rfl (aY rfl .dR (LH (by omega) (by omega)) (lG rfl rfl rfl (ay rfl (OL.nil (AW.cond rfl (λh2=>?_) (λh2=>?_))))))))
  .have h2:y.q.num.natAbs*x.q.den<=x.q.num.natAbs*y.q.den:=I4 (by have:=jC h2;omega)
   rw[if_pos h2,if_pos h2] at hp;rw[if_pos h2] at hl;refine AW.seq (AW.dg 1 [0,1,2,3,4,5,6,7] aj hE rfl (by kernel_rfl) (OI.aP (os:=[_,_,_,_,_,_,_,_]) rfl ?_))
   refine aF fd.tV rfl rfl (ak ce.bool rfl rfl rfl (ah rfl (ah rfl (aY rfl .dR (Ik (by omega) (by assumption)) (ah rfl (aY rfl .wL (Fg (s:=decide (x.q.num<0)) (by omega) (by omega) dd0) ?_))))))
   rw[hp];exact dA sz.Rat rfl rfl rfl rfl rfl (au rfl) (cells2:=[_,_,_]) rfl (OL.nil (AW.ret (aH.r ⟨_,.dD rfl rfl ag.Rat (au rfl) .nil,.ag (.cons (.le vR) (.cons (.le vR) (.cons (.le vR) .nil)))⟩)))
  .have h2:¬ y.q.num.natAbs*x.q.den<=x.q.num.natAbs*y.q.den:=λe=>kK h2 (Xl e);rw[if_neg h2,if_neg h2] at hp;rw[if_neg h2] at hl;refine AW.skip (AW.seq (AW.dg 1 [0,1,2,3,4,5,6,7] aj hE rfl (by kernel_rfl) (OI.aP (os:=[_,_,_,_,_,_,_,_]) rfl ?_)))
   refine aF fd.tV rfl rfl (ak ce.bool rfl rfl rfl (ah rfl (ah rfl (aY rfl .dR (Ik (by omega) (by omega)) (ah rfl (aY rfl .wL (Fg (s:=decide (y.q.num<0)) (by omega) (by omega) dd0) ?_))))))
   rw[hp];exact dA sz.Rat rfl rfl rfl rfl rfl (au rfl) (cells2:=[_,_,_]) rfl (OL.nil (AW.ret (aH.r ⟨_,.dD rfl rfl ag.Rat (au rfl) .nil,.ag (.cons (.le vR) (.cons (.le vR) (.cons (.le vR) .nil)))⟩)))
theorem Cm {x y:Rat}(hx:sz x<=68719476736)(hy:sz y<=68719476736):ai P F.BX [vQ x,vQ y] (vQ (x+y)):=by
 have h:=YZ (x:=eU x) (y:=eU y) (qQ (by omega)) (qQ (by omega))
 rw[uM,uM] at h;exact h
theorem Gl {x:Rat}(hx:sz x<=274877906944):ai P F.zY [vQ x] (.d (dI (yN x))):=by
 have h:=ao2 (r:=eU x) (qQ hx);rw[uM] at h;exact h
theorem aD8 {x y:Raw}(hx:x.Ok)(hy:y.Ok):ai P F.F9 [vw x,vw y] (vQ (x.q-y.q)):=by
 have a2:=I9 hy hy.ln hy.ld (by decide)
 refine ai.intro fn.F9 (by rfl) (by rfl) (au (by rfl)) λE hE=>(AW.sg hE rfl (iC rfl rfl λb2=>(iC rfl rfl λb3=>(al z.Rat rfl λb4=>(OL.nil (AW.seq (AW.dg 1 [0,1,2,3,4] aj hE rfl (by kernel_rfl) (OI.aP (os:=[_,_,_,_,_]) rfl ?_))))))))
 refine aG ag.Rat rfl rfl (vs:=[_,_,_]) rfl (au rfl) (aG ag.Rat rfl rfl (vs:=[_,_,_]) rfl (au rfl) (aY rfl .bC (aD7 hy) (aY rfl .dR (YZ hx (qQ (by rw[Xo];omega))) ?_)))
 rw[uM,<- Rat.sub_eq_add_neg];exact dA sz.Rat rfl rfl rfl rfl rfl (au rfl) (cells2:=[_,_,_]) rfl (OL.nil (AW.ret (aH.r ⟨_,.dD rfl rfl ag.Rat (au rfl) .nil,.ag (.cons (.le vR) (.cons (.le vR) (.cons (.le vR) .nil)))⟩)))
theorem U1 {x y:Raw}(hx:x.Sm)(hy:y.Sm):ai P F.tK [vw x,vw y] (.d (dI (NE x.q y.q))):=by
 have a1:=hx.q;have a2:=hy.q;have a3:=Xp x.q y.q;refine ai.intro fn.tK (by rfl) (by rfl) (au (by rfl)) λE hE=>(AW.sg hE rfl (iC rfl rfl λb2=>(iC rfl rfl λb3=>(ay rfl (OL.nil (AW.sg hE rfl (aG ag.Rat rfl rfl (vs:=[_,_,_]) rfl (au rfl) ?_)))))))
 exact aG ag.Rat rfl rfl (vs:=[_,_,_]) rfl (au rfl) (aY rfl .dR (aD8 hx.ok hy.ok) (aY rfl .bC (Gl (by omega)) (ay rfl (OL.nil (AW.ret (aH.r ⟨_,.tmp rfl .nil,.le vR⟩))))))
theorem sJ {x y:Rat}(hx:sz x<=68719476736)(hy:sz y<=68719476736):ai P F.tK [vQ x,vQ y] (.d (dI (NE x y))):=by
 have h:=U1 (x:=eU x) (y:=eU y) (EX hx) (EX hy);rw[uM,uM] at h;exact h

/-
  Walks of the reference's numbers, part 3: rational numbers (printed by mk2.py).
-/
import Derived.Test.YtanlenlmihoiiaaGreatDoorKRefB
set_option linter.unusedVariables false
set_option linter.unusedSimpArgs false
namespace Go.Proofs.YtanlenlmihoiiaaGreatDoor
open Go Go.AL
theorem Jv {v:Int}(hv:-9223372036854775808<=v/\v<=9223372036854775807):ai P F.wP [.d (dI v)] (.d (dU v.natAbs)):=by
 refine ai.intro fn.wP (by rfl) (by rfl) (ay (by rfl)) λE hE=>(AW.sg hE rfl (aF rfl (OL.nil (AW.seq (AW.sg hE rfl (aj rfl (bG rfl rfl rfl ?_)))))))
 refine OL.nil (AW.cond rfl (λh4=>?_) (λh4=>?_))
 .try simp only[fD] at h4
  refine AW.sg hE rfl (aj rfl (aI rfl rfl (by omega) (ng rfl (c:=((v.natAbs-1:Nat):Int)) (by rw[wrap_i64 (by omega)];omega) (cv it.int it.u64 rfl (wrap_u64 (by omega)) (xY rfl rfl (by omega) (aF rfl (OL.nil ?_)))))))
  exact AW.ret (aP.r ⟨_,.tmp rfl .nil,.le (bW.int (by omega))⟩)
 .try simp only[fD] at h4
  exact AW.skip (AW.sg hE rfl (aj rfl (cv it.int it.u64 rfl (wrap_u64 (by omega)) (aF rfl (OL.nil (AW.ret (aP.r ⟨_,.tmp rfl .nil,.le (bW.int (by omega))⟩)))))))
theorem RJ {r:Raw}(hr:r.Ok):ai P F.yP [uF r] (.d (dB r.good)):=by
 have n1:=hr.ln;have n2:=hr.ld;have l1:=hr.num;have l2:=hr.den;have cn0:∀ L:List Nat,L.length=0->canon L=true:=λL h=>by rw[Hl h];rfl
 have dn0:∀ L:List Nat,L.length=0->decide (L=[1])=false:=λL h=>by rw[Hl h];rfl
 refine ai.intro fn.yP (by rfl) (by rfl) (ay (by rfl)) λE hE=>(AW.sg hE rfl (iO rfl rfl λb1=>(aF rfl (OL.nil (AW.seq (AW.YC (α:=Unit) [(1,_),(2,_)] [(1,_)] (λ_u=>[(39,.d (dB (!canon r.num || !canon r.den || decide (r.den=[1]))))]) (λ_u=>[]) (λ_u=>True) (.cons (iw rfl) (.cons (di rfl) .nil)) (.cons (je rfl) .nil) ?_ ?_))))))
 .refine AW.rg hE rfl (bC fd.rZ rfl rfl (aG ce.aH rfl rfl rfl (fF sl.aH rfl rfl (jI rfl rfl rfl (aj rfl (OL.split 7 rfl (λg7=>?_) (λg7=>?_)))))))
  .try simp only[fD] at g7
   refine OL.yes rfl (bC fd.rZ rfl rfl (OL.yes rfl (aG ce.aH rfl rfl rfl (OL.yes rfl (bC fd.rZ rfl rfl (OL.yes rfl (aG ce.aH rfl rfl rfl ?_)))))));refine OL.yes rfl (fF sl.aH rfl rfl (OL.yes rfl (iZ rfl rfl (by omega) (OL.yes rfl (ixL sl.aH 0 rfl rfl (by omega) (by omega) rfl rfl (OL.yes rfl (iE ce.u32 rfl ?_)))))))
   refine OL.yes rfl (fG rfl rfl rfl (oK rfl rfl (aj rfl (OL.split 18 rfl (λg18=>?_) (λg18=>?_)))))
   .have g18:canon r.num=false:=by rw[<- ve (by omega),g18];rfl
    refine OL.nd rfl (OL.nd rfl (OL.nd rfl (OL.nd rfl (OL.nd rfl (OL.nd rfl (OL.nd rfl (OL.nd rfl ?_)))))));refine OL.nd rfl (OL.nd rfl (OL.nd rfl (OL.nd rfl (OL.nd rfl (OL.nd rfl (OL.nd rfl (oK rfl rfl ?_)))))));exact aj rfl (OL.nd rfl (OL.nd rfl (OL.nd rfl (oK rfl rfl (OL.nil (AW.reach () ⟨trivial,Knows.app .iW (.cons (bW.bool (by rw[g18];rfl)) .nil),dL.app (.cons rfl .nil) (.nil)⟩))))))
   .have g18:canon r.num=true:=by rw[<- ve (by omega),g18];rfl
    refine OL.yes rfl (bC fd.o6 rfl rfl (OL.yes rfl (aG ce.aH rfl rfl rfl (OL.yes rfl (fF sl.aH rfl rfl (OL.yes rfl (jI rfl rfl rfl ?_)))))));refine OL.yes rfl (aj rfl (OL.split 23 rfl (λg23=>?_) (λg23=>?_)))
    .try simp only[fD] at g23
     refine OL.yes rfl (bC fd.o6 rfl rfl (OL.yes rfl (aG ce.aH rfl rfl rfl (OL.yes rfl (bC fd.o6 rfl rfl (OL.yes rfl (aG ce.aH rfl rfl rfl ?_)))))));refine OL.yes rfl (fF sl.aH rfl rfl (OL.yes rfl (iZ rfl rfl (by omega) (OL.yes rfl (ixL sl.aH 0 rfl rfl (by omega) (by omega) rfl rfl (OL.yes rfl (iE ce.u32 rfl ?_)))))))
     refine OL.yes rfl (fG rfl rfl rfl (OL.yes rfl (oK rfl rfl (oI rfl rfl (aj rfl (OL.split 35 rfl (λYO=>?_) (λYO=>?_)))))))
     .have YO:canon r.den=false:=by rw[<- ve (by omega),YO];rfl
      exact OL.nd rfl (OL.nd rfl (OL.nd rfl (oK rfl rfl (OL.nil (AW.reach () ⟨trivial,Knows.app .iW (.cons (bW.bool (by rw[g18,YO];rfl)) .nil),dL.app (.cons rfl .nil) (.nil)⟩)))))
     .have YO:canon r.den=true:=by rw[<- ve (by omega),YO];rfl
      refine OL.yes rfl (bC fd.o6 rfl rfl (OL.yes rfl (aG ce.aH rfl rfl rfl (OL.yes rfl (bH rfl .dD (FY l2) (oI rfl rfl (OL.nil ?_)))))));exact AW.reach () ⟨trivial,Knows.app .iW (.cons (bW.bool (by rw[g18,YO];rfl)) .nil),dL.app (.cons rfl .nil) (.nil)⟩
    .try simp only[fD] at g23
     refine OL.nd rfl (OL.nd rfl (OL.nd rfl (OL.nd rfl (OL.nd rfl (OL.nd rfl (OL.nd rfl (OL.nd rfl ?_)))))));refine OL.nd rfl (OL.yes rfl (oI rfl rfl (oI rfl rfl (aj rfl (OL.yes rfl (bC fd.o6 rfl rfl (OL.yes rfl ?_)))))));exact aG ce.aH rfl rfl rfl (OL.yes rfl (bH rfl .dD (FY l2) (oI rfl rfl (OL.nil (AW.reach () ⟨trivial,Knows.app .iW (.cons (bW.bool (by rw[g18,cn0 _ (by omega)];rfl)) .nil),dL.app (.cons rfl .nil) (.nil)⟩)))))
  .try simp only[fD] at g7
   refine OL.nd rfl (OL.nd rfl (OL.nd rfl (OL.nd rfl (OL.nd rfl (OL.nd rfl (OL.nd rfl (OL.nd rfl ?_)))))));refine OL.nd rfl (oI rfl rfl (aj rfl (OL.yes rfl (bC fd.o6 rfl rfl (OL.yes rfl (aG ce.aH rfl rfl rfl (OL.yes rfl ?_)))))));refine fF sl.aH rfl rfl (OL.yes rfl (jI rfl rfl rfl (OL.yes rfl (aj rfl (OL.split 23 rfl (λg23=>?_) (λg23=>?_))))))
   .try simp only[fD] at g23
    refine OL.yes rfl (bC fd.o6 rfl rfl (OL.yes rfl (aG ce.aH rfl rfl rfl (OL.yes rfl (bC fd.o6 rfl rfl (OL.yes rfl (aG ce.aH rfl rfl rfl ?_)))))));refine OL.yes rfl (fF sl.aH rfl rfl (OL.yes rfl (iZ rfl rfl (by omega) (OL.yes rfl (ixL sl.aH 0 rfl rfl (by omega) (by omega) rfl rfl (OL.yes rfl (iE ce.u32 rfl ?_)))))))
    refine OL.yes rfl (fG rfl rfl rfl (OL.yes rfl (oK rfl rfl (oI rfl rfl (aj rfl (OL.split 35 rfl (λYO=>?_) (λYO=>?_)))))))
    .have YO:canon r.den=false:=by rw[<- ve (by omega),YO];rfl
     exact OL.nd rfl (OL.nd rfl (OL.nd rfl (oK rfl rfl (OL.nil (AW.reach () ⟨trivial,Knows.app .iW (.cons (bW.bool (by rw[cn0 r.num (by omega),YO];rfl)) .nil),dL.app (.cons rfl .nil) (.nil)⟩)))))
    .have YO:canon r.den=true:=by rw[<- ve (by omega),YO];rfl
     refine OL.yes rfl (bC fd.o6 rfl rfl (OL.yes rfl (aG ce.aH rfl rfl rfl (OL.yes rfl (bH rfl .dD (FY l2) (oI rfl rfl (OL.nil ?_)))))));exact AW.reach () ⟨trivial,Knows.app .iW (.cons (bW.bool (by rw[cn0 r.num (by omega),YO];rfl)) .nil),dL.app (.cons rfl .nil) (.nil)⟩
   .try simp only[fD] at g23
    refine OL.nd rfl (OL.nd rfl (OL.nd rfl (OL.nd rfl (OL.nd rfl (OL.nd rfl (OL.nd rfl (OL.nd rfl ?_)))))));refine OL.nd rfl (OL.yes rfl (oI rfl rfl (oI rfl rfl (aj rfl (OL.yes rfl (bC fd.o6 rfl rfl (OL.yes rfl ?_)))))));exact aG ce.aH rfl rfl rfl (OL.yes rfl (bH rfl .dD (FY l2) (oI rfl rfl (OL.nil (AW.reach () ⟨trivial,Knows.app .iW (.cons (bW.bool (by rw[cn0 r.num (by omega),cn0 r.den (by omega)];rfl)) .nil),dL.app (.cons rfl .nil) (.nil)⟩)))))
 rintro⟨⟩ hφ
 refine AW.cond rfl (λh1=>?_) (λh1=>?_)
 .have hg:r.good=false:=by unfold Raw.good;cases e1:canon r.num with
    | false=>simp
    | true =>
     cases e2:canon r.den with
     | false=>simp
     | true =>
      rw[e1,e2] at h1;have e3:r.den=[1]:=by simpa using h1
      rw[e3];cases r.num <;> simp[jy,jw]
  exact AW.sg hE rfl (aF rfl (OL.nil (AW.ret (aP.r ⟨_,.tmp rfl .nil,.le (au (by rw[hg];rfl))⟩))))
 .have h1a:canon r.num=true:=by cases e1:canon r.num <;> simp[e1] at h1;rfl
  have h1b:canon r.den=true:=by cases e1:canon r.den <;> simp[e1] at h1;rfl
  have h1c:r.den≠[1]:=by intro e;simp[e] at h1
  have hN:=Dp hr.num h1a;have hD:=Dp hr.den h1b;have hd1:val r.den≠1:=λe=>h1c (by rw[<- hD,e];exact Iq.2 rfl)
  refine AW.skip (AW.seq (AW.sg hE rfl (bC fd.rZ rfl rfl (aG ce.aH rfl rfl rfl (fF sl.aH rfl rfl (fG rfl rfl rfl (OL.nil ?_)))))));refine AW.cond rfl (λh2=>?_) (λh2=>?_)
  .have h2:r.num=[]:=Hl (by have:=lK h2;omega)
   have hg:r.good=(!r.neg && decide (r.den=[])):=by unfold Raw.good;rw[h1a,h1b,decide_eq_true h2];rfl
   refine AW.sg hE rfl (bC fd.uh rfl rfl (aG ce.bool rfl rfl rfl (nt rfl (aj rfl (OL.split 47 rfl (λg47=>?_) (λg47=>?_))))))
   .have g47:=g47;refine OL.yes rfl (bC fd.o6 rfl rfl (OL.yes rfl (aG ce.aH rfl rfl rfl (OL.yes rfl (fF sl.aH rfl rfl (OL.yes rfl (fG rfl rfl rfl ?_)))))));exact oK rfl rfl (aF rfl (OL.nil (AW.ret (aP.r ⟨_,.tmp rfl .nil,.le (bW.bool (by rw[hg,g47,Bool.true_and];exact decide_eq_decide.2 (by rw[<- List.length_eq_zero_iff];omega)))⟩))))
   .have g47:=g47;exact OL.nd rfl (OL.nd rfl (OL.nd rfl (OL.nd rfl (oI rfl rfl (aF rfl (OL.nil (AW.ret (aP.r ⟨_,.tmp rfl .nil,.le (bW.bool (by rw[hg,g47];rfl))⟩))))))))
  .have h2:r.num≠[]:=λe=>by have:=nZ h2;rw[e] at this;exact this rfl
   refine AW.skip (AW.sg hE rfl (bC fd.o6 rfl rfl (aG ce.aH rfl rfl rfl (fF sl.aH rfl rfl (fG rfl rfl rfl (aj rfl (OL.split 57 rfl (λg57=>?_) (λg57=>?_))))))))
   .have g57:r.den=[]:=Hl (by have:=lK g57;omega)
    refine OL.nd rfl (OL.nd rfl (OL.nd rfl (OL.nd rfl (OL.nd rfl (OL.nd rfl (oK rfl rfl (aF rfl ?_)))))));exact OL.nil (AW.ret (aP.r ⟨_,.tmp rfl .nil,.le (bW.bool (by simp[Raw.good,h1a,h1b,h2,g57];rfl))⟩))
   .have g57:r.den≠[]:=λe=>by have:=nZ g57;rw[e] at this;exact this rfl
    have hn0:val r.num≠0:=λe=>h2 (by rw[<- hN,e,eY])
    refine OL.yes rfl (bC fd.rZ rfl rfl (OL.yes rfl (aG ce.aH rfl rfl rfl (OL.yes rfl (bC fd.o6 rfl rfl (OL.yes rfl (aG ce.aH rfl rfl rfl ?_)))))));exact OL.yes rfl (cl (MG (a:=val r.num) (b:=val r.den) (by rw[hN];omega) (by rw[hD];omega)) rfl (by rw[hN,hD];exact fK.refl _) (OL.yes rfl (bH rfl .dD (ab4) (oI rfl rfl (aF rfl (OL.nil (AW.ret (aP.r ⟨_,.tmp rfl .nil,.le (bW.bool (by simp[Raw.good,h1a,h1b,h2,g57,hd1]))⟩))))))))
theorem CP {q:Rat}:ai P F.GL [vQ q] (.d (aH (lim q.den))):=by
 refine ai.intro fn.GL (by rfl) (by rfl) (ay (by rfl)) λE hE=>(AW.sg hE rfl (iO rfl rfl λb1=>(jK rfl (OL.nil (AW.seq (AW.sg hE rfl (bC fd.o6 rfl rfl ?_)))))))
 refine aG ce.aH rfl rfl rfl (fF sl.aH rfl rfl (fG rfl rfl rfl (OL.nil (AW.cond rfl (λh1=>?_) (λh1=>?_)))))
 .have h1:q.den=1:=by
    have h2:=lK h1;by_cases e:q.den=1
    .exact e
    .have e2:(fZ q).den=lim q.den:=by simp[fZ,e]
     rw[e2] at h2;exact absurd (dO.1 (by omega)) q.den_nz
  exact AW.sg hE rfl (rF sl.aH (VC.d _).vd rfl (by decide) (aF rfl (OL.nil (AW.ret (aP.r ⟨_,.tmp rfl .nil,.le (au (by rw[h1,Iq.2 rfl];rfl))⟩)))))
 .have h1:q.den≠1:=λe=>by
    have h2:=nZ h1;have e2:(fZ q).den=[]:=by simp[fZ,e]
    rw[e2] at h2;exact h2 rfl
  exact AW.skip (AW.sg hE rfl (bC fd.o6 rfl rfl (aG ce.aH rfl rfl rfl (aF rfl (OL.nil (AW.ret (aP.r ⟨_,.tmp rfl .nil,.le (au (by rw[show (fZ q).den=lim q.den by simp[fZ,h1]];rfl))⟩)))))))
theorem wS {r:Raw}(hr:r.Ok):ai P F.Bd [uF r] (vQ r.q):=by
 have n1:=hr.ln;have n2:=hr.ld;refine ai.intro fn.Bd (by rfl) (by rfl) (ay (by rfl)) λE hE=>(AW.sg hE rfl (iO rfl rfl λb1=>(al z.Rat rfl λb2=>(OL.nil (AW.seq (AW.sg hE rfl (aQ ag.Rat rfl rfl (vs:=[_,_,_]) rfl (ay rfl) ?_)))))))
 refine bH rfl .dD (RJ (by assumption)) (nt rfl (OL.nil (AW.cond rfl (λh1=>?_) (λh1=>?_))))
 .have hq:=av5 (r:=r) (by simpa using h1)
  refine AW.sg hE rfl (bd z.Rat pl.Rat (cs:=[_,_,_]) rfl (fA sz.Rat rfl rfl rfl rfl rfl (ay rfl) (cells2:=[_,_,_]) rfl (OL.nil ?_)));rw[hq,Z9];exact AW.ret (aP.r ⟨_,.dN rfl rfl ag.Rat (ay rfl) .nil,.ag (.cons (.le vR) (.cons (.le (bW.mt)) (.cons (.le (bW.mt)) .nil)))⟩)
 .have hq:=Z4 hr (by simpa using h1)
  refine AW.skip (AW.seq (AW.dg 2 [0,1,2,3,5,6,4,7,8,9] ak hE rfl (by kernel_rfl) (OI.aK (os:=[_,_,_,_,_,_,_,_,_,_]) rfl ?_)))
  refine bC fd.uh rfl rfl (aG ce.bool rfl rfl rfl (bC fd.rZ rfl rfl (aG ce.aH rfl rfl rfl (bC fd.o6 rfl rfl (aG ce.aH rfl rfl rfl (au1 sl.aH rfl rfl (VC.d _) (by simp[D.cells]) (by simp;omega) (by simp;omega) (au1 sl.aH rfl rfl (VC.d _) (by simp[D.cells]) (by simp;omega) (by simp;omega) ?_)))))))
  refine L6 (cs:=[_,_,_]) z.Rat pl.Rat (lI (by exact uG rfl) (lI (by exact uG rfl) (lI (by exact uG rfl) (LZ)))) (by rfl) (fA sz.Rat rfl rfl rfl rfl rfl (ay rfl) (cells2:=[_,_,_]) rfl (OL.nil ?_))
  rw[ba7 hq];exact AW.ret (aP.r ⟨_,.dN rfl rfl ag.Rat (ay rfl) .nil,.ag (.cons (.le vR) (.cons (.le vR) (.cons (.le vR) .nil)))⟩)
theorem DL {s:Bool}{n d:Nat}(nn:(lim n).length<=1099511627776)(nd:(lim d).length<=1099511627776)(hd:d≠0):ai P F.EO [.d (dB s),.d (aH (lim n)),.d (aH (lim d))] (vQ (fr s n d)):=by
 refine ai.intro fn.EO (by rfl) (by rfl) (ay (by rfl)) λE hE=>(AW.sg hE rfl (al z.Rat rfl λb6=>(OL.nil (AW.seq (AW.sg hE rfl (aj rfl (fF sl.aH rfl rfl ?_)))))))
 refine fG rfl rfl rfl (OL.nil (AW.cond rfl (λh=>?_) (λh=>?_)))
 .have h:n=0:=dO.1 (by have:=lK h;omega)
  subst h;rw[Us,Z9];exact AW.sg hE rfl (bd z.Rat pl.Rat (cs:=[_,_,_]) rfl (fA sz.Rat rfl rfl rfl rfl rfl (ay rfl) (cells2:=[_,_,_]) rfl (OL.nil (AW.ret (aP.r ⟨_,.dN rfl rfl ag.Rat (ay rfl) .nil,.ag (.cons (.le vR) (.cons (.le (bW.mt)) (.cons (.le (bW.mt)) .nil)))⟩)))))
 .have h:n≠0:=λe=>by have:=nZ h;rw[e,eY] at this;exact this rfl
  have hgp:0<Nat.gcd n d:=Nat.gcd_pos_of_pos_left d (Nat.pos_of_ne_zero h);have hgl:=uo (Nat.gcd_le_left d (Nat.pos_of_ne_zero h));have hdl:=uo (Nat.div_le_self d (Nat.gcd n d));rw[bl7 h hd];refine AW.skip (AW.sg hE rfl (aj rfl (aj rfl (bH rfl .iW (MG (by assumption) (by assumption)) (aF rfl (OL.nil (AW.sg hE rfl ?_)))))))
  refine aj rfl (aj rfl (bH rfl .iW (Iz (by omega) (by assumption) (by omega)) (Di rfl (ex rfl rfl (ex rfl rfl (aF rfl (aF rfl ?_)))))))
  refine OL.nil (AW.sg hE rfl (aj rfl (aj rfl (bH rfl .iW (Iz (by omega) (by assumption) (by omega)) (Di rfl (ex rfl rfl (ex rfl rfl ?_)))))))
  refine aF rfl (aF rfl (OL.nil (AW.seq (AW.sg hE rfl (aj rfl (bH rfl .dD (ab4) (OL.nil ?_)))))));refine AW.cond rfl (λh2=>?_) (λh2=>?_)
  .try simp only[fD] at h2
   refine AW.rg hE rfl (jK rfl (OL.nil (AW.sg hE rfl (aj rfl (aj rfl (mvM rfl (L6 (cs:=[_,_,_]) z.Rat pl.Rat (lI (by exact uG rfl) (lI (by exact uG rfl) (lI (by exact evM rfl) (LZ)))) (by rfl) ?_)))))))
   exact fA sz.Rat rfl rfl rfl rfl rfl (ay rfl) (cells2:=[_,_,_]) rfl (OL.nil (AW.ret (aP.r ⟨_,.dN rfl rfl ag.Rat (ay rfl) .nil,.ag (.cons (.le vR) (.cons (.le vR) (.cons (.le (by rw[if_pos h2];exact bW.mt)) .nil)))⟩)))
  .try simp only[fD] at h2
   refine AW.skip (AW.sg hE rfl (aj rfl (aj rfl (aj rfl (L6 (cs:=[_,_,_]) z.Rat pl.Rat (lI (by exact uG rfl) (lI (by exact uG rfl) (lI (by exact uG rfl) (LZ)))) (by rfl) (fA sz.Rat rfl rfl rfl rfl rfl (ay rfl) (cells2:=[_,_,_]) rfl (OL.nil ?_)))))))
   exact AW.ret (aP.r ⟨_,.dN rfl rfl ag.Rat (ay rfl) .nil,.ag (.cons (.le vR) (.cons (.le vR) (.cons (.le (au (by rw[if_neg h2]))) .nil)))⟩)
theorem ay0 {n d:Int}(hn:-9223372036854775808<=n/\n<=9223372036854775807)(hd:-9223372036854775808<=d/\d<=9223372036854775807)(h0:d≠0):ai P F.EF [.d (dI n),.d (dI d)] (.mM [vQ ((n:Rat) / (d:Rat)),.d (dI 0)]):=by
 have e1:(lim n.natAbs).length<=2:=gm (by show n.natAbs<18446744073709551616;omega)
 have e2:(lim d.natAbs).length<=2:=gm (by show d.natAbs<18446744073709551616;omega)
 refine ai.intro fn.EF (by rfl) (by rfl) (ay (by rfl)) λE hE=>(AW.sg hE rfl (al z.Rat rfl λb4=>(aF rfl (OL.nil (AW.seq (AW.sg hE rfl (aj rfl ?_)))))))
 refine fG rfl rfl rfl (OL.nil (AW.cond rfl (λhno=>absurd hno (by simpa using h0)) (λ_=>?_)))
 refine AW.skip (AW.sg hE rfl (aj rfl (bG rfl rfl rfl (aj rfl (bG rfl rfl rfl (neb bt.bool rfl rfl (aj rfl ?_)))))));refine bH rfl .dD (Jv (by assumption)) (bH rfl .dD (MC (by omega)) (aj rfl (bH rfl .dD (Jv (by assumption)) (bH rfl .dD (MC (by omega)) (bH rfl .yU (DL (by omega) (by omega) (by omega)) ?_)))))
 rw[show (!(decide (n<0) == decide (d<0)))=(decide (n<0) != decide (d<0)) from rfl,YB]
 exact fA sz.Rat rfl rfl rfl rfl rfl (ay rfl) (cells2:=[_,_,_]) rfl (aF rfl (OL.nil (AW.ret (aP.r ⟨_,.dN rfl rfl ag.Rat (ay rfl) (.tmp rfl .nil),_,.cons (.ag (.cons (.le vR) (.cons (.le vR) (.cons (.le vR) .nil)))) (.cons (.le vR) .nil),rfl⟩))))
theorem V9 {r:Raw}(hr:r.Ok):ai P F.Bc [uF r] (.d (dI (Nc r.q))):=by
 refine ai.intro fn.Bc (by rfl) (by rfl) (ay (by rfl)) λE hE=>(AW.sg hE rfl (iO rfl rfl λb1=>(aF rfl (OL.nil (AW.sg hE rfl (aQ ag.Rat rfl rfl (vs:=[_,_,_]) rfl (ay rfl) (bH rfl .dD (wS (by assumption)) ?_)))))))
 refine fA sz.Rat rfl rfl rfl rfl rfl (ay rfl) (cells2:=[_,_,_]) rfl (OL.nil (AW.seq (AW.block (AW.sg hE rfl (bC fd.uh rfl rfl (aG ce.bool rfl rfl rfl (aF rfl ?_)))))));refine OL.nil (AW.cond rfl (λh1=>?_) (λh1=>?_))
 .have h1:r.q.num<0:=lK h1;exact AW.sg hE rfl (aF rfl (OL.nil (AW.ret (aP.r ⟨_,.tmp rfl .nil,.le (bW.int ((Ji.2 h1).symm))⟩))))
 .have h1:¬ r.q.num<0:=nZ h1;refine AW.sg hE rfl (bC fd.rZ rfl rfl (aG ce.aH rfl rfl rfl (fF sl.aH rfl rfl (jI rfl rfl rfl (aF rfl (OL.nil (AW.cond rfl (λh2=>?_) (λh2=>?_))))))))
  .have h2:r.q.num≠0:=λe=>by have h3:=lK h2;rw[show (fZ r.q).num=lim r.q.num.natAbs from rfl,e,show (0:Int).natAbs=0 from rfl,eY] at h3;exact absurd h3 (by decide)
   exact AW.sg hE rfl (aF rfl (OL.nil (AW.ret (aP.r ⟨_,.tmp rfl .nil,.le (bW.int (by unfold Nc;rw[if_neg h1,if_neg h2]))⟩))))
  .have h2:r.q.num=0:=by have h3:=nZ h2;rw[show (fZ r.q).num=lim r.q.num.natAbs from rfl] at h3;have:=dO.1 (show (lim r.q.num.natAbs).length=0 by omega);omega
   exact AW.skip (AW.sg hE rfl (aF rfl (OL.nil (AW.ret (aP.r ⟨_,.tmp rfl .nil,.le (bW.int (by unfold Nc;rw[if_neg h1,if_pos h2]))⟩)))))
theorem ab5 {r:Raw}(hr:r.Ok):ai P F.Du [uF r] (vQ (-r.q)):=by
 have e1:(fZ (-r.q)).num=(fZ r.q).num:=by simp[fZ]
 have e2:(fZ (-r.q)).den=(fZ r.q).den:=by simp[fZ]
 rw[show vQ (-r.q)=.ag [.d (dB (fZ (-r.q)).neg),.d (aH (fZ r.q).num),.d (aH (fZ r.q).den)] by rw[<- e1,<- e2]]
 refine ai.intro fn.Du (by rfl) (by rfl) (ay (by rfl)) λE hE=>(AW.sg hE rfl (iO rfl rfl λb1=>(al z.Rat rfl λb2=>(OL.nil (AW.sg hE rfl (aQ ag.Rat rfl rfl (vs:=[_,_,_]) rfl (ay rfl) (bH rfl .dD (wS (by assumption)) ?_)))))))
 refine fA sz.Rat rfl rfl rfl rfl rfl (ay rfl) (cells2:=[_,_,_]) rfl (OL.nil (AW.sg hE rfl (bC fd.rZ rfl rfl (aG ce.aH rfl rfl rfl (fF sl.aH rfl rfl (jI rfl rfl rfl (aj rfl ?_)))))));refine OL.split 9 rfl (λh2=>?_) (λh2=>?_)
 .have h2:r.q.num≠0:=λe=>by have h3:=lK h2;rw[show (fZ r.q).num=lim r.q.num.natAbs from rfl,e,show (0:Int).natAbs=0 from rfl,eY] at h3;exact absurd h3 (by decide)
  refine OL.yes rfl (bC fd.uh rfl rfl (OL.yes rfl (aG ce.bool rfl rfl rfl (OL.yes rfl (nt rfl (oK rfl rfl (bC fd.uh rfl rfl ?_)))))));refine fA sz.bool rfl rfl rfl rfl rfl (ay rfl) (cells2:=[_,_,_]) rfl (OL.nil (AW.sg hE rfl (aQ ag.Rat rfl rfl (vs:=[_,_,_]) rfl (ay rfl) (fA sz.Rat rfl rfl rfl rfl rfl (ay rfl) (cells2:=[_,_,_]) rfl (OL.nil ?_)))));exact AW.ret (aP.r ⟨_,.dN rfl rfl ag.Rat (ay rfl) .nil,.ag (.cons (.le (bW.bool (by show (!decide (r.q.num<0))=decide ((-r.q).num<0);rw[Rat.neg_num];by_cases h:r.q.num<0;simp[h];omega;simp[h];omega))) (.cons (.le vR) (.cons (.le vR) .nil)))⟩)
 .have h2:r.q.num=0:=by have h3:=nZ h2;rw[show (fZ r.q).num=lim r.q.num.natAbs from rfl] at h3;have:=dO.1 (show (lim r.q.num.natAbs).length=0 by omega);omega
  refine OL.nd rfl (OL.nd rfl (OL.nd rfl (oI rfl rfl (bC fd.uh rfl rfl (fA sz.bool rfl rfl rfl rfl rfl (ay rfl) (cells2:=[_,_,_]) rfl (OL.nil (AW.sg hE rfl ?_)))))));exact aQ ag.Rat rfl rfl (vs:=[_,_,_]) rfl (ay rfl) (fA sz.Rat rfl rfl rfl rfl rfl (ay rfl) (cells2:=[_,_,_]) rfl (OL.nil (AW.ret (aP.r ⟨_,.dN rfl rfl ag.Rat (ay rfl) .nil,.ag (.cons (.le (bW.bool (by show false=decide ((-r.q).num<0);rw[Rat.neg_num,h2];rfl))) (.cons (.le vR) (.cons (.le vR) .nil)))⟩))))
theorem ab6 {x y:Raw}(hx:x.Ok)(hy:y.Ok):ai P F.Dv [uF x,uF y] (vQ (x.q+y.q)):=by
 have a1:=FM hx hx.ln hx.ld (by decide)
 have a2:=FM hy hy.ln hy.ld (by decide)
 have sn1:=lm x.q;have sn2:=lm y.q;have sd1:=lq x.q;have sd2:=lq y.q;have sdd:=gG x.q.den y.q.den;have dd0:=Nat.mul_ne_zero x.q.den_nz y.q.den_nz;have e1:=gG x.q.num.natAbs y.q.den;have e2:=gG y.q.num.natAbs x.q.den;have hp:=Nz (s:=decide (x.q.num<0)) (t:=decide (y.q.num<0)) (a:=x.q.num.natAbs) (b:=y.q.num.natAbs) x.q.den_nz y.q.den_nz;rw[mP,mP] at hp;have hl:=λk l h1 h2 h3 h4=>Jj (s:=decide (x.q.num<0)) (t:=decide (y.q.num<0)) (a:=x.q.num.natAbs) (b:=y.q.num.natAbs) (d1:=x.q.den) (d2:=y.q.den) (k:=k) (l:=l) h1 h2 h3 h4;have hl:=hl _ _ sn1 sn2 sd1 sd2;refine ai.intro fn.Dv (by rfl) (by rfl) (ay (by rfl)) λE hE=>(AW.sg hE rfl (iO rfl rfl λb2=>(iO rfl rfl λb3=>(al z.Rat rfl λb4=>(OL.nil (AW.seq (AW.dg 1 [0,1,2,3,4,5] ak hE rfl (by kernel_rfl) (OI.aK (os:=[_,_,_,_,_,_]) rfl ?_))))))))
 refine aQ ag.Rat rfl rfl (vs:=[_,_,_]) rfl (ay rfl) (bH rfl .dD (wS (by assumption)) (aQ ag.Rat rfl rfl (vs:=[_,_,_]) rfl (ay rfl) (bH rfl .dD (wS (by assumption)) (fA sz.Rat rfl rfl rfl rfl rfl (ay rfl) (cells2:=[_,_,_]) rfl (fA sz.Rat rfl rfl rfl rfl rfl (ay rfl) (cells2:=[_,_,_]) rfl (OL.nil (AW.seq ?_)))))))
 refine AW.dg 1 [0,1,2,3,4,5,6,7,8,9,10,11,12,13,14,15,16,17] ak hE rfl (by kernel_rfl) (OI.aK (os:=[_,_,_,_,_,_,_,_,_,_,_,_,_,_,_,_,_,_]) rfl ?_)
 refine bC fd.rZ rfl rfl (aG ce.aH rfl rfl rfl (aQ ag.Rat rfl rfl (vs:=[_,_,_]) rfl (ay rfl) (bH rfl .dD (CP) (bH rfl .iW (vC (a:=x.q.num.natAbs) (b:=y.q.den) (by omega) (by omega)) (bC fd.rZ rfl rfl (aG ce.aH rfl rfl rfl (aQ ag.Rat rfl rfl (vs:=[_,_,_]) rfl (ay rfl) ?_)))))))
 refine bH rfl .dD (CP) (bH rfl .iW (vC (a:=y.q.num.natAbs) (b:=x.q.den) (by omega) (by omega)) (aQ ag.Rat rfl rfl (vs:=[_,_,_]) rfl (ay rfl) (bH rfl .dD (CP) (aQ ag.Rat rfl rfl (vs:=[_,_,_]) rfl (ay rfl) (bH rfl .dD (CP) (bH rfl .iW (vC (a:=x.q.den) (b:=y.q.den) (by omega) (by omega)) (aF rfl ?_)))))))
 refine aF rfl (aF rfl (OL.nil (AW.seq (AW.block (AW.sg hE rfl (bC fd.uh rfl rfl (aG ce.bool rfl rfl rfl ?_)))))));refine bC fd.uh rfl rfl (aG ce.bool rfl rfl rfl (eqb bt.bool rfl rfl (aF rfl (OL.nil (AW.cond rfl (λh=>?_) (λh=>?_))))))
 .have h:decide (x.q.num<0)=decide (y.q.num<0):=by exact beq_iff_eq.1 h
  rw[if_pos h] at hp;rw[if_pos h] at hp hl;refine AW.seq (AW.dg 1 [0,1,2,3,4,5,6,7] ak hE rfl (by kernel_rfl) (OI.aK (os:=[_,_,_,_,_,_,_,_]) rfl ?_))
  refine bC fd.uh rfl rfl (aG ce.bool rfl rfl rfl (aj rfl (aj rfl (bH rfl .iW (KI (by omega) (by omega)) (aj rfl (bH rfl .yU (DL (s:=decide (x.q.num<0)) (by omega) (by omega) dd0) ?_))))))
  rw[hp];exact fA sz.Rat rfl rfl rfl rfl rfl (ay rfl) (cells2:=[_,_,_]) rfl (OL.nil (AW.ret (aP.r ⟨_,.dN rfl rfl ag.Rat (ay rfl) .nil,.ag (.cons (.le vR) (.cons (.le vR) (.cons (.le vR) .nil)))⟩)))
 .have h:¬ decide (x.q.num<0)=decide (y.q.num<0):=λe=>by have e2:=beq_iff_eq.2 e;exact absurd (h.symm.trans e2) (by decide)
  rw[if_neg h,if_neg h] at hp;rw[if_neg h] at hl;refine AW.sg hE rfl (aj rfl (aj rfl (bH rfl .iW (MF (by omega) (by omega)) (qX rfl rfl rfl (aF rfl (OL.nil (AW.cond rfl (λh2=>?_) (λh2=>?_))))))))
  .have h2:y.q.num.natAbs*x.q.den<=x.q.num.natAbs*y.q.den:=Jh (by have:=lK h2;omega)
   rw[if_pos h2,if_pos h2] at hp;rw[if_pos h2] at hl;refine AW.seq (AW.dg 1 [0,1,2,3,4,5,6,7] ak hE rfl (by kernel_rfl) (OI.aK (os:=[_,_,_,_,_,_,_,_]) rfl ?_))
   refine bC fd.uh rfl rfl (aG ce.bool rfl rfl rfl (aj rfl (aj rfl (bH rfl .iW (Iy (by omega) (by assumption)) (aj rfl (bH rfl .yU (DL (s:=decide (x.q.num<0)) (by omega) (by omega) dd0) ?_))))))
   rw[hp];exact fA sz.Rat rfl rfl rfl rfl rfl (ay rfl) (cells2:=[_,_,_]) rfl (OL.nil (AW.ret (aP.r ⟨_,.dN rfl rfl ag.Rat (ay rfl) .nil,.ag (.cons (.le vR) (.cons (.le vR) (.cons (.le vR) .nil)))⟩)))
  .have h2:¬ y.q.num.natAbs*x.q.den<=x.q.num.natAbs*y.q.den:=λe=>nZ h2 (Yx e);rw[if_neg h2,if_neg h2] at hp;rw[if_neg h2] at hl;refine AW.skip (AW.seq (AW.dg 1 [0,1,2,3,4,5,6,7] ak hE rfl (by kernel_rfl) (OI.aK (os:=[_,_,_,_,_,_,_,_]) rfl ?_)))
   refine bC fd.uh rfl rfl (aG ce.bool rfl rfl rfl (aj rfl (aj rfl (bH rfl .iW (Iy (by omega) (by omega)) (aj rfl (bH rfl .yU (DL (s:=decide (y.q.num<0)) (by omega) (by omega) dd0) ?_))))))
   rw[hp];exact fA sz.Rat rfl rfl rfl rfl rfl (ay rfl) (cells2:=[_,_,_]) rfl (OL.nil (AW.ret (aP.r ⟨_,.dN rfl rfl ag.Rat (ay rfl) .nil,.ag (.cons (.le vR) (.cons (.le vR) (.cons (.le vR) .nil)))⟩)))
theorem OV {x y:Rat}(hx:sz x<=68719476736)(hy:sz y<=68719476736):ai P F.Dv [vQ x,vQ y] (vQ (x+y)):=by
 have h:=ab6 (x:=fZ x) (y:=fZ y) (jQ (by omega)) (jQ (by omega))
 rw[ny,ny] at h;exact h
theorem KJ {x:Rat}(hx:sz x<=274877906944):ai P F.Bc [vQ x] (.d (dI (Nc x))):=by
 have h:=V9 (r:=fZ x) (jQ hx);rw[ny] at h;exact h
theorem ay1 {x:Rat}(hx:sz x<=274877906944):ai P F.Du [vQ x] (vQ (-x)):=by
 have h:=ab5 (r:=fZ x) (jQ hx);rw[ny] at h;exact h
theorem aO4 {x y:Raw}(hx:x.Ok)(hy:y.Ok):ai P F.Dz [uF x,uF y] (vQ (x.q-y.q)):=by
 have a2:=FM hy hy.ln hy.ld (by decide)
 refine ai.intro fn.Dz (by rfl) (by rfl) (ay (by rfl)) λE hE=>(AW.sg hE rfl (iO rfl rfl λb2=>(iO rfl rfl λb3=>(al z.Rat rfl λb4=>(OL.nil (AW.seq (AW.dg 1 [0,1,2,3,4] ak hE rfl (by kernel_rfl) (OI.aK (os:=[_,_,_,_,_]) rfl ?_))))))))
 refine aQ ag.Rat rfl rfl (vs:=[_,_,_]) rfl (ay rfl) (aQ ag.Rat rfl rfl (vs:=[_,_,_]) rfl (ay rfl) (bH rfl .dD (ab5 hy) (bH rfl .iW (ab6 hx (jQ (by rw[OC];omega))) ?_)))
 rw[ny,<- Rat.sub_eq_add_neg];exact fA sz.Rat rfl rfl rfl rfl rfl (ay rfl) (cells2:=[_,_,_]) rfl (OL.nil (AW.ret (aP.r ⟨_,.dN rfl rfl ag.Rat (ay rfl) .nil,.ag (.cons (.le vR) (.cons (.le vR) (.cons (.le vR) .nil)))⟩)))
theorem OX {x y:Rat}(hx:sz x<=68719476736)(hy:sz y<=68719476736):ai P F.Dz [vQ x,vQ y] (vQ (x-y)):=by
 have h:=aO4 (x:=fZ x) (y:=fZ y) (jQ (by omega)) (jQ (by omega))
 rw[ny,ny] at h;exact h

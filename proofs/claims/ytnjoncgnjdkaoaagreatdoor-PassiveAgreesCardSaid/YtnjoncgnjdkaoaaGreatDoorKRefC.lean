/-
  Walks of the reference's numbers, part 3: rational numbers (printed by mk2.py).
-/
import Derived.Test.YtnjoncgnjdkaoaaGreatDoorKRefB
set_option linter.unusedVariables false
set_option linter.unusedSimpArgs false
namespace Go.Proofs.YtnjoncgnjdkaoaaGreatDoor
open Go Go.AL
theorem Hw {v:Int}(hv:-9223372036854775808<=v/\v<=9223372036854775807):aj P F.vF [.d (dI v)] (.d (dU v.natAbs)):=by
 refine aj.intro fn.vF (by rfl) (by rfl) (aB (by rfl)) λE hE=>(AW.sg hE rfl (aF rfl (OL.nil (AW.seq (AW.sg hE rfl (ai rfl (aY rfl rfl rfl ?_)))))))
 refine OL.nil (AW.cond rfl (λh4=>?_) (λh4=>?_))
 .try simp only[dX] at h4
  refine AW.sg hE rfl (ai rfl (aI rfl rfl (by omega) (ng rfl (c:=((v.natAbs-1:Nat):Int)) (by rw[wrap_i64 (by omega)];omega) (cv it.int it.u64 rfl (wrap_u64 (by omega)) (xg rfl rfl (by omega) (aF rfl (OL.nil ?_)))))))
  exact AW.ret (aP.r ⟨_,.tmp rfl .nil,.le (bG.int (by omega))⟩)
 .try simp only[dX] at h4
  exact AW.skip (AW.sg hE rfl (ai rfl (cv it.int it.u64 rfl (wrap_u64 (by omega)) (aF rfl (OL.nil (AW.ret (aP.r ⟨_,.tmp rfl .nil,.le (bG.int (by omega))⟩)))))))
theorem Ph {r:Raw}(hr:r.Ok):aj P F.xW [tN r] (.d (dB r.good)):=by
 have n1:=hr.ln;have n2:=hr.ld;have l1:=hr.num;have l2:=hr.den;have cn0:∀ L:List Nat,L.length=0->canon L=true:=λL h=>by rw[IK h];rfl
 have dn0:∀ L:List Nat,L.length=0->decide (L=[1])=false:=λL h=>by rw[IK h];rfl
 refine aj.intro fn.xW (by rfl) (by rfl) (aB (by rfl)) λE hE=>(AW.sg hE rfl (iI rfl rfl λb1=>(aF rfl (OL.nil (AW.seq (AW.J7 (α:=Unit) [(1,_),(2,_)] [(1,_)] (λ_u=>[(39,.d (dB (!canon r.num || !canon r.den || decide (r.den=[1]))))]) (λ_u=>[]) (λ_u=>True) (.cons (gB rfl) (.cons (bK rfl) .nil)) (.cons (iR rfl) .nil) ?_ ?_))))))
 .refine AW.rg hE rfl (aW fd.sQ rfl rfl (aG ce.aH rfl rfl rfl (fJ sl.aH rfl rfl (iO rfl rfl rfl (ai rfl (OL.split 7 rfl (λg7=>?_) (λg7=>?_)))))))
  .try simp only[dX] at g7
   refine OL.yes rfl (aW fd.sQ rfl rfl (OL.yes rfl (aG ce.aH rfl rfl rfl (OL.yes rfl (aW fd.sQ rfl rfl (OL.yes rfl (aG ce.aH rfl rfl rfl ?_)))))));refine OL.yes rfl (fJ sl.aH rfl rfl (OL.yes rfl (gI rfl rfl (by omega) (OL.yes rfl (ixL sl.aH 0 rfl rfl (by omega) (by omega) rfl rfl (OL.yes rfl (iH ce.u32 rfl ?_)))))))
   refine OL.yes rfl (dR rfl rfl rfl (oC rfl rfl (ai rfl (OL.split 18 rfl (λg18=>?_) (λg18=>?_)))))
   .have g18:canon r.num=false:=by rw[<- uH (by omega),g18];rfl
    refine OL.nd rfl (OL.nd rfl (OL.nd rfl (OL.nd rfl (OL.nd rfl (OL.nd rfl (OL.nd rfl (OL.nd rfl ?_)))))));refine OL.nd rfl (OL.nd rfl (OL.nd rfl (OL.nd rfl (OL.nd rfl (OL.nd rfl (OL.nd rfl (oC rfl rfl ?_)))))));exact ai rfl (OL.nd rfl (OL.nd rfl (OL.nd rfl (oC rfl rfl (OL.nil (AW.reach () ⟨trivial,Knows.app .iq (.cons (bG.bool (by rw[g18];rfl)) .nil),dw.app (.cons rfl .nil) (.nil)⟩))))))
   .have g18:canon r.num=true:=by rw[<- uH (by omega),g18];rfl
    refine OL.yes rfl (aW fd.oD rfl rfl (OL.yes rfl (aG ce.aH rfl rfl rfl (OL.yes rfl (fJ sl.aH rfl rfl (OL.yes rfl (iO rfl rfl rfl ?_)))))));refine OL.yes rfl (ai rfl (OL.split 23 rfl (λg23=>?_) (λg23=>?_)))
    .try simp only[dX] at g23
     refine OL.yes rfl (aW fd.oD rfl rfl (OL.yes rfl (aG ce.aH rfl rfl rfl (OL.yes rfl (aW fd.oD rfl rfl (OL.yes rfl (aG ce.aH rfl rfl rfl ?_)))))));refine OL.yes rfl (fJ sl.aH rfl rfl (OL.yes rfl (gI rfl rfl (by omega) (OL.yes rfl (ixL sl.aH 0 rfl rfl (by omega) (by omega) rfl rfl (OL.yes rfl (iH ce.u32 rfl ?_)))))))
     refine OL.yes rfl (dR rfl rfl rfl (OL.yes rfl (oC rfl rfl (kL rfl rfl (ai rfl (OL.split 35 rfl (λWs=>?_) (λWs=>?_)))))))
     .have Ws:canon r.den=false:=by rw[<- uH (by omega),Ws];rfl
      exact OL.nd rfl (OL.nd rfl (OL.nd rfl (oC rfl rfl (OL.nil (AW.reach () ⟨trivial,Knows.app .iq (.cons (bG.bool (by rw[g18,Ws];rfl)) .nil),dw.app (.cons rfl .nil) (.nil)⟩)))))
     .have Ws:canon r.den=true:=by rw[<- uH (by omega),Ws];rfl
      refine OL.yes rfl (aW fd.oD rfl rfl (OL.yes rfl (aG ce.aH rfl rfl rfl (OL.yes rfl (bJ rfl .bZ (Ei l2) (kL rfl rfl (OL.nil ?_)))))));exact AW.reach () ⟨trivial,Knows.app .iq (.cons (bG.bool (by rw[g18,Ws];rfl)) .nil),dw.app (.cons rfl .nil) (.nil)⟩
    .try simp only[dX] at g23
     refine OL.nd rfl (OL.nd rfl (OL.nd rfl (OL.nd rfl (OL.nd rfl (OL.nd rfl (OL.nd rfl (OL.nd rfl ?_)))))));refine OL.nd rfl (OL.yes rfl (kL rfl rfl (kL rfl rfl (ai rfl (OL.yes rfl (aW fd.oD rfl rfl (OL.yes rfl ?_)))))));exact aG ce.aH rfl rfl rfl (OL.yes rfl (bJ rfl .bZ (Ei l2) (kL rfl rfl (OL.nil (AW.reach () ⟨trivial,Knows.app .iq (.cons (bG.bool (by rw[g18,cn0 _ (by omega)];rfl)) .nil),dw.app (.cons rfl .nil) (.nil)⟩)))))
  .try simp only[dX] at g7
   refine OL.nd rfl (OL.nd rfl (OL.nd rfl (OL.nd rfl (OL.nd rfl (OL.nd rfl (OL.nd rfl (OL.nd rfl ?_)))))));refine OL.nd rfl (kL rfl rfl (ai rfl (OL.yes rfl (aW fd.oD rfl rfl (OL.yes rfl (aG ce.aH rfl rfl rfl (OL.yes rfl ?_)))))));refine fJ sl.aH rfl rfl (OL.yes rfl (iO rfl rfl rfl (OL.yes rfl (ai rfl (OL.split 23 rfl (λg23=>?_) (λg23=>?_))))))
   .try simp only[dX] at g23
    refine OL.yes rfl (aW fd.oD rfl rfl (OL.yes rfl (aG ce.aH rfl rfl rfl (OL.yes rfl (aW fd.oD rfl rfl (OL.yes rfl (aG ce.aH rfl rfl rfl ?_)))))));refine OL.yes rfl (fJ sl.aH rfl rfl (OL.yes rfl (gI rfl rfl (by omega) (OL.yes rfl (ixL sl.aH 0 rfl rfl (by omega) (by omega) rfl rfl (OL.yes rfl (iH ce.u32 rfl ?_)))))))
    refine OL.yes rfl (dR rfl rfl rfl (OL.yes rfl (oC rfl rfl (kL rfl rfl (ai rfl (OL.split 35 rfl (λWs=>?_) (λWs=>?_)))))))
    .have Ws:canon r.den=false:=by rw[<- uH (by omega),Ws];rfl
     exact OL.nd rfl (OL.nd rfl (OL.nd rfl (oC rfl rfl (OL.nil (AW.reach () ⟨trivial,Knows.app .iq (.cons (bG.bool (by rw[cn0 r.num (by omega),Ws];rfl)) .nil),dw.app (.cons rfl .nil) (.nil)⟩)))))
    .have Ws:canon r.den=true:=by rw[<- uH (by omega),Ws];rfl
     refine OL.yes rfl (aW fd.oD rfl rfl (OL.yes rfl (aG ce.aH rfl rfl rfl (OL.yes rfl (bJ rfl .bZ (Ei l2) (kL rfl rfl (OL.nil ?_)))))));exact AW.reach () ⟨trivial,Knows.app .iq (.cons (bG.bool (by rw[cn0 r.num (by omega),Ws];rfl)) .nil),dw.app (.cons rfl .nil) (.nil)⟩
   .try simp only[dX] at g23
    refine OL.nd rfl (OL.nd rfl (OL.nd rfl (OL.nd rfl (OL.nd rfl (OL.nd rfl (OL.nd rfl (OL.nd rfl ?_)))))));refine OL.nd rfl (OL.yes rfl (kL rfl rfl (kL rfl rfl (ai rfl (OL.yes rfl (aW fd.oD rfl rfl (OL.yes rfl ?_)))))));exact aG ce.aH rfl rfl rfl (OL.yes rfl (bJ rfl .bZ (Ei l2) (kL rfl rfl (OL.nil (AW.reach () ⟨trivial,Knows.app .iq (.cons (bG.bool (by rw[cn0 r.num (by omega),cn0 r.den (by omega)];rfl)) .nil),dw.app (.cons rfl .nil) (.nil)⟩)))))
 rintro⟨⟩ hφ
 refine AW.cond rfl (λh1=>?_) (λh1=>?_)
 .have hg:r.good=false:=by unfold Raw.good;cases e1:canon r.num with
    | false=>simp
    | true =>
     cases e2:canon r.den with
     | false=>simp
     | true =>
      rw[e1,e2] at h1;have e3:r.den=[1]:=by simpa using h1
      rw[e3];cases r.num <;> simp[jf,je]
  exact AW.sg hE rfl (aF rfl (OL.nil (AW.ret (aP.r ⟨_,.tmp rfl .nil,.le (au (by rw[hg];rfl))⟩))))
 .have h1a:canon r.num=true:=by cases e1:canon r.num <;> simp[e1] at h1;rfl
  have h1b:canon r.den=true:=by cases e1:canon r.den <;> simp[e1] at h1;rfl
  have h1c:r.den≠[1]:=by intro e;simp[e] at h1
  have hN:=Bl hr.num h1a;have hD:=Bl hr.den h1b;have hd1:val r.den≠1:=λe=>h1c (by rw[<- hD,e];exact Gj.2 rfl)
  refine AW.skip (AW.seq (AW.sg hE rfl (aW fd.sQ rfl rfl (aG ce.aH rfl rfl rfl (fJ sl.aH rfl rfl (dR rfl rfl rfl (OL.nil ?_)))))));refine AW.cond rfl (λh2=>?_) (λh2=>?_)
  .have h2:r.num=[]:=IK (by have:=lq h2;omega)
   have hg:r.good=(!r.neg && decide (r.den=[])):=by unfold Raw.good;rw[h1a,h1b,decide_eq_true h2];rfl
   refine AW.sg hE rfl (aW fd.tZ rfl rfl (aG ce.bool rfl rfl rfl (nt rfl (ai rfl (OL.split 47 rfl (λg47=>?_) (λg47=>?_))))))
   .have g47:=g47;refine OL.yes rfl (aW fd.oD rfl rfl (OL.yes rfl (aG ce.aH rfl rfl rfl (OL.yes rfl (fJ sl.aH rfl rfl (OL.yes rfl (dR rfl rfl rfl ?_)))))));exact oC rfl rfl (aF rfl (OL.nil (AW.ret (aP.r ⟨_,.tmp rfl .nil,.le (bG.bool (by rw[hg,g47,Bool.true_and];exact decide_eq_decide.2 (by rw[<- List.length_eq_zero_iff];omega)))⟩))))
   .have g47:=g47;exact OL.nd rfl (OL.nd rfl (OL.nd rfl (OL.nd rfl (kL rfl rfl (aF rfl (OL.nil (AW.ret (aP.r ⟨_,.tmp rfl .nil,.le (bG.bool (by rw[hg,g47];rfl))⟩))))))))
  .have h2:r.num≠[]:=λe=>by have:=nS h2;rw[e] at this;exact this rfl
   refine AW.skip (AW.sg hE rfl (aW fd.oD rfl rfl (aG ce.aH rfl rfl rfl (fJ sl.aH rfl rfl (dR rfl rfl rfl (ai rfl (OL.split 57 rfl (λg57=>?_) (λg57=>?_))))))))
   .have g57:r.den=[]:=IK (by have:=lq g57;omega)
    refine OL.nd rfl (OL.nd rfl (OL.nd rfl (OL.nd rfl (OL.nd rfl (OL.nd rfl (oC rfl rfl (aF rfl ?_)))))));exact OL.nil (AW.ret (aP.r ⟨_,.tmp rfl .nil,.le (bG.bool (by simp[Raw.good,h1a,h1b,h2,g57];rfl))⟩))
   .have g57:r.den≠[]:=λe=>by have:=nS g57;rw[e] at this;exact this rfl
    have hn0:val r.num≠0:=λe=>h2 (by rw[<- hN,e,dY])
    refine OL.yes rfl (aW fd.sQ rfl rfl (OL.yes rfl (aG ce.aH rfl rfl rfl (OL.yes rfl (aW fd.oD rfl rfl (OL.yes rfl (aG ce.aH rfl rfl rfl ?_)))))));exact OL.yes rfl (cl (JK (a:=val r.num) (b:=val r.den) (by rw[hN];omega) (by rw[hD];omega)) rfl (by rw[hN,hD];exact fH.refl _) (OL.yes rfl (bJ rfl .bZ (XW) (kL rfl rfl (aF rfl (OL.nil (AW.ret (aP.r ⟨_,.tmp rfl .nil,.le (bG.bool (by simp[Raw.good,h1a,h1b,h2,g57,hd1]))⟩))))))))
theorem EY {q:Rat}:aj P F.ES [vQ q] (.d (aH (lim q.den))):=by
 refine aj.intro fn.ES (by rfl) (by rfl) (aB (by rfl)) λE hE=>(AW.sg hE rfl (iI rfl rfl λb1=>(oK rfl (OL.nil (AW.seq (AW.sg hE rfl (aW fd.oD rfl rfl ?_)))))))
 refine aG ce.aH rfl rfl rfl (fJ sl.aH rfl rfl (dR rfl rfl rfl (OL.nil (AW.cond rfl (λh1=>?_) (λh1=>?_)))))
 .have h1:q.den=1:=by
    have h2:=lq h1;by_cases e:q.den=1
    .exact e
    .have e2:(fZ q).den=lim q.den:=by simp[fZ,e]
     rw[e2] at h2;exact absurd (dK.1 (by omega)) q.den_nz
  exact AW.sg hE rfl (zX sl.aH (VC.d _).vd rfl (by decide) (aF rfl (OL.nil (AW.ret (aP.r ⟨_,.tmp rfl .nil,.le (au (by rw[h1,Gj.2 rfl];rfl))⟩)))))
 .have h1:q.den≠1:=λe=>by
    have h2:=nS h1;have e2:(fZ q).den=[]:=by simp[fZ,e]
    rw[e2] at h2;exact h2 rfl
  exact AW.skip (AW.sg hE rfl (aW fd.oD rfl rfl (aG ce.aH rfl rfl rfl (aF rfl (OL.nil (AW.ret (aP.r ⟨_,.tmp rfl .nil,.le (au (by rw[show (fZ q).den=lim q.den by simp[fZ,h1]];rfl))⟩)))))))
theorem zH {r:Raw}(hr:r.Ok):aj P F.y8 [tN r] (vQ r.q):=by
 have n1:=hr.ln;have n2:=hr.ld;refine aj.intro fn.y8 (by rfl) (by rfl) (aB (by rfl)) λE hE=>(AW.sg hE rfl (iI rfl rfl λb1=>(al z.Rat rfl λb2=>(OL.nil (AW.seq (AW.sg hE rfl (aO ag.Rat rfl rfl (vs:=[_,_,_]) rfl (aB rfl) ?_)))))))
 refine bJ rfl .bZ (Ph (by assumption)) (nt rfl (OL.nil (AW.cond rfl (λh1=>?_) (λh1=>?_))))
 .have hq:=af5 (r:=r) (by simpa using h1)
  refine AW.sg hE rfl (bd z.Rat pl.Rat (cs:=[_,_,_]) rfl (eH sz.Rat rfl rfl rfl rfl rfl (aB rfl) (cells2:=[_,_,_]) rfl (OL.nil ?_)));rw[hq,XI];exact AW.ret (aP.r ⟨_,.dV rfl rfl ag.Rat (aB rfl) .nil,.ag (.cons (.le vR) (.cons (.le (bG.mt)) (.cons (.le (bG.mt)) .nil)))⟩)
 .have hq:=XF hr (by simpa using h1)
  refine AW.skip (AW.seq (AW.dg 2 [0,1,2,3,5,6,4,7,8,9] ay hE rfl (by kernel_rfl) (OI.aK (os:=[_,_,_,_,_,_,_,_,_,_]) rfl ?_)))
  refine aW fd.tZ rfl rfl (aG ce.bool rfl rfl rfl (aW fd.sQ rfl rfl (aG ce.aH rfl rfl rfl (aW fd.oD rfl rfl (aG ce.aH rfl rfl rfl (YX sl.aH rfl rfl (VC.d _) (by simp[D.cells]) (by simp;omega) (by simp;omega) (YX sl.aH rfl rfl (VC.d _) (by simp[D.cells]) (by simp;omega) (by simp;omega) ?_)))))))
  refine VX (cs:=[_,_,_]) z.Rat pl.Rat (ve (by exact DV rfl) (ve (by exact DV rfl) (ve (by exact DV rfl) (VW)))) (by rfl) (eH sz.Rat rfl rfl rfl rfl rfl (aB rfl) (cells2:=[_,_,_]) rfl (OL.nil ?_))
  rw[aO3 hq];exact AW.ret (aP.r ⟨_,.dV rfl rfl ag.Rat (aB rfl) .nil,.ag (.cons (.le vR) (.cons (.le vR) (.cons (.le vR) .nil)))⟩)
theorem Ej {s:Bool}{n d:Nat}(nn:(lim n).length<=1099511627776)(nd:(lim d).length<=1099511627776)(hd:d≠0):aj P F.CV [.d (dB s),.d (aH (lim n)),.d (aH (lim d))] (vQ (fr s n d)):=by
 refine aj.intro fn.CV (by rfl) (by rfl) (aB (by rfl)) λE hE=>(AW.sg hE rfl (al z.Rat rfl λb6=>(OL.nil (AW.seq (AW.sg hE rfl (ai rfl (fJ sl.aH rfl rfl ?_)))))))
 refine dR rfl rfl rfl (OL.nil (AW.cond rfl (λh=>?_) (λh=>?_)))
 .have h:n=0:=dK.1 (by have:=lq h;omega)
  subst h;rw[QS,XI];exact AW.sg hE rfl (bd z.Rat pl.Rat (cs:=[_,_,_]) rfl (eH sz.Rat rfl rfl rfl rfl rfl (aB rfl) (cells2:=[_,_,_]) rfl (OL.nil (AW.ret (aP.r ⟨_,.dV rfl rfl ag.Rat (aB rfl) .nil,.ag (.cons (.le vR) (.cons (.le (bG.mt)) (.cons (.le (bG.mt)) .nil)))⟩)))))
 .have h:n≠0:=λe=>by have:=nS h;rw[e,dY] at this;exact this rfl
  have hgp:0<Nat.gcd n d:=Nat.gcd_pos_of_pos_left d (Nat.pos_of_ne_zero h);have hgl:=sZ (Nat.gcd_le_left d (Nat.pos_of_ne_zero h));have hdl:=sZ (Nat.div_le_self d (Nat.gcd n d));rw[a00 h hd];refine AW.skip (AW.sg hE rfl (ai rfl (ai rfl (bJ rfl .iq (JK (by assumption) (by assumption)) (aF rfl (OL.nil (AW.sg hE rfl ?_)))))))
  refine ai rfl (ai rfl (bJ rfl .iq (Gp (by omega) (by assumption) (by omega)) (zW rfl (ex rfl rfl (ex rfl rfl (aF rfl (aF rfl ?_)))))))
  refine OL.nil (AW.sg hE rfl (ai rfl (ai rfl (bJ rfl .iq (Gp (by omega) (by assumption) (by omega)) (zW rfl (ex rfl rfl (ex rfl rfl ?_)))))))
  refine aF rfl (aF rfl (OL.nil (AW.seq (AW.sg hE rfl (ai rfl (bJ rfl .bZ (XW) (OL.nil ?_)))))));refine AW.cond rfl (λh2=>?_) (λh2=>?_)
  .try simp only[dX] at h2
   refine AW.rg hE rfl (oK rfl (OL.nil (AW.sg hE rfl (ai rfl (ai rfl (mvM rfl (VX (cs:=[_,_,_]) z.Rat pl.Rat (ve (by exact DV rfl) (ve (by exact DV rfl) (ve (by exact evM rfl) (VW)))) (by rfl) ?_)))))))
   exact eH sz.Rat rfl rfl rfl rfl rfl (aB rfl) (cells2:=[_,_,_]) rfl (OL.nil (AW.ret (aP.r ⟨_,.dV rfl rfl ag.Rat (aB rfl) .nil,.ag (.cons (.le vR) (.cons (.le vR) (.cons (.le (by rw[if_pos h2];exact bG.mt)) .nil)))⟩)))
  .try simp only[dX] at h2
   refine AW.skip (AW.sg hE rfl (ai rfl (ai rfl (ai rfl (VX (cs:=[_,_,_]) z.Rat pl.Rat (ve (by exact DV rfl) (ve (by exact DV rfl) (ve (by exact DV rfl) (VW)))) (by rfl) (eH sz.Rat rfl rfl rfl rfl rfl (aB rfl) (cells2:=[_,_,_]) rfl (OL.nil ?_)))))))
   exact AW.ret (aP.r ⟨_,.dV rfl rfl ag.Rat (aB rfl) .nil,.ag (.cons (.le vR) (.cons (.le vR) (.cons (.le (au (by rw[if_neg h2]))) .nil)))⟩)
theorem TM {n d:Int}(hn:-9223372036854775808<=n/\n<=9223372036854775807)(hd:-9223372036854775808<=d/\d<=9223372036854775807)(h0:d≠0):aj P F.CW [.d (dI n),.d (dI d)] (.jS [vQ ((n:Rat) / (d:Rat)),.d (dI 0)]):=by
 have e1:(lim n.natAbs).length<=2:=dO (by show n.natAbs<18446744073709551616;omega)
 have e2:(lim d.natAbs).length<=2:=dO (by show d.natAbs<18446744073709551616;omega)
 refine aj.intro fn.CW (by rfl) (by rfl) (aB (by rfl)) λE hE=>(AW.sg hE rfl (al z.Rat rfl λb4=>(aF rfl (OL.nil (AW.seq (AW.sg hE rfl (ai rfl ?_)))))))
 refine dR rfl rfl rfl (OL.nil (AW.cond rfl (λhno=>absurd hno (by simpa using h0)) (λ_=>?_)))
 refine AW.skip (AW.sg hE rfl (ai rfl (aY rfl rfl rfl (ai rfl (aY rfl rfl rfl (neb bt.bool rfl rfl (ai rfl ?_)))))));refine bJ rfl .bZ (Hw (by assumption)) (bJ rfl .bZ (JI (by omega)) (ai rfl (bJ rfl .bZ (Hw (by assumption)) (bJ rfl .bZ (JI (by omega)) (bJ rfl .Ah (Ej (by omega) (by omega) (by omega)) ?_)))))
 rw[show (!(decide (n<0) == decide (d<0)))=(decide (n<0) != decide (d<0)) from rfl,LG]
 exact eH sz.Rat rfl rfl rfl rfl rfl (aB rfl) (cells2:=[_,_,_]) rfl (aF rfl (OL.nil (AW.ret (aP.r ⟨_,.dV rfl rfl ag.Rat (aB rfl) (.tmp rfl .nil),_,.cons (.ag (.cons (.le vR) (.cons (.le vR) (.cons (.le vR) .nil)))) (.cons (.le vR) .nil),rfl⟩))))
theorem ah5 {r:Raw}(hr:r.Ok):aj P F.zh [tN r] (.d (dI (IW r.q))):=by
 refine aj.intro fn.zh (by rfl) (by rfl) (aB (by rfl)) λE hE=>(AW.sg hE rfl (iI rfl rfl λb1=>(aF rfl (OL.nil (AW.sg hE rfl (aO ag.Rat rfl rfl (vs:=[_,_,_]) rfl (aB rfl) (bJ rfl .bZ (zH (by assumption)) ?_)))))))
 refine eH sz.Rat rfl rfl rfl rfl rfl (aB rfl) (cells2:=[_,_,_]) rfl (OL.nil (AW.seq (AW.block (AW.sg hE rfl (aW fd.tZ rfl rfl (aG ce.bool rfl rfl rfl (aF rfl ?_)))))));refine OL.nil (AW.cond rfl (λh1=>?_) (λh1=>?_))
 .have h1:r.q.num<0:=lq h1;exact AW.sg hE rfl (aF rfl (OL.nil (AW.ret (aP.r ⟨_,.tmp rfl .nil,.le (bG.int ((He.2 h1).symm))⟩))))
 .have h1:¬ r.q.num<0:=nS h1;refine AW.sg hE rfl (aW fd.sQ rfl rfl (aG ce.aH rfl rfl rfl (fJ sl.aH rfl rfl (iO rfl rfl rfl (aF rfl (OL.nil (AW.cond rfl (λh2=>?_) (λh2=>?_))))))))
  .have h2:r.q.num≠0:=λe=>by have h3:=lq h2;rw[show (fZ r.q).num=lim r.q.num.natAbs from rfl,e,show (0:Int).natAbs=0 from rfl,dY] at h3;exact absurd h3 (by decide)
   exact AW.sg hE rfl (aF rfl (OL.nil (AW.ret (aP.r ⟨_,.tmp rfl .nil,.le (bG.int (by unfold IW;rw[if_neg h1,if_neg h2]))⟩))))
  .have h2:r.q.num=0:=by have h3:=nS h2;rw[show (fZ r.q).num=lim r.q.num.natAbs from rfl] at h3;have:=dK.1 (show (lim r.q.num.natAbs).length=0 by omega);omega
   exact AW.skip (AW.sg hE rfl (aF rfl (OL.nil (AW.ret (aP.r ⟨_,.tmp rfl .nil,.le (bG.int (by unfold IW;rw[if_neg h1,if_pos h2]))⟩)))))
theorem aA1 {r:Raw}(hr:r.Ok):aj P F.EW [tN r] (vQ (-r.q)):=by
 have e1:(fZ (-r.q)).num=(fZ r.q).num:=by simp[fZ]
 have e2:(fZ (-r.q)).den=(fZ r.q).den:=by simp[fZ]
 rw[show vQ (-r.q)=.ag [.d (dB (fZ (-r.q)).neg),.d (aH (fZ r.q).num),.d (aH (fZ r.q).den)] by rw[<- e1,<- e2]]
 refine aj.intro fn.EW (by rfl) (by rfl) (aB (by rfl)) λE hE=>(AW.sg hE rfl (iI rfl rfl λb1=>(al z.Rat rfl λb2=>(OL.nil (AW.sg hE rfl (aO ag.Rat rfl rfl (vs:=[_,_,_]) rfl (aB rfl) (bJ rfl .bZ (zH (by assumption)) ?_)))))))
 refine eH sz.Rat rfl rfl rfl rfl rfl (aB rfl) (cells2:=[_,_,_]) rfl (OL.nil (AW.sg hE rfl (aW fd.sQ rfl rfl (aG ce.aH rfl rfl rfl (fJ sl.aH rfl rfl (iO rfl rfl rfl (ai rfl ?_)))))));refine OL.split 9 rfl (λh2=>?_) (λh2=>?_)
 .have h2:r.q.num≠0:=λe=>by have h3:=lq h2;rw[show (fZ r.q).num=lim r.q.num.natAbs from rfl,e,show (0:Int).natAbs=0 from rfl,dY] at h3;exact absurd h3 (by decide)
  refine OL.yes rfl (aW fd.tZ rfl rfl (OL.yes rfl (aG ce.bool rfl rfl rfl (OL.yes rfl (nt rfl (oC rfl rfl (aW fd.tZ rfl rfl ?_)))))));refine eH sz.bool rfl rfl rfl rfl rfl (aB rfl) (cells2:=[_,_,_]) rfl (OL.nil (AW.sg hE rfl (aO ag.Rat rfl rfl (vs:=[_,_,_]) rfl (aB rfl) (eH sz.Rat rfl rfl rfl rfl rfl (aB rfl) (cells2:=[_,_,_]) rfl (OL.nil ?_)))));exact AW.ret (aP.r ⟨_,.dV rfl rfl ag.Rat (aB rfl) .nil,.ag (.cons (.le (bG.bool (by show (!decide (r.q.num<0))=decide ((-r.q).num<0);rw[Rat.neg_num];by_cases h:r.q.num<0;simp[h];omega;simp[h];omega))) (.cons (.le vR) (.cons (.le vR) .nil)))⟩)
 .have h2:r.q.num=0:=by have h3:=nS h2;rw[show (fZ r.q).num=lim r.q.num.natAbs from rfl] at h3;have:=dK.1 (show (lim r.q.num.natAbs).length=0 by omega);omega
  refine OL.nd rfl (OL.nd rfl (OL.nd rfl (kL rfl rfl (aW fd.tZ rfl rfl (eH sz.bool rfl rfl rfl rfl rfl (aB rfl) (cells2:=[_,_,_]) rfl (OL.nil (AW.sg hE rfl ?_)))))));exact aO ag.Rat rfl rfl (vs:=[_,_,_]) rfl (aB rfl) (eH sz.Rat rfl rfl rfl rfl rfl (aB rfl) (cells2:=[_,_,_]) rfl (OL.nil (AW.ret (aP.r ⟨_,.dV rfl rfl ag.Rat (aB rfl) .nil,.ag (.cons (.le (bG.bool (by show false=decide ((-r.q).num<0);rw[Rat.neg_num,h2];rfl))) (.cons (.le vR) (.cons (.le vR) .nil)))⟩))))
theorem XY {x y:Raw}(hx:x.Ok)(hy:y.Ok):aj P F.Bv [tN x,tN y] (vQ (x.q+y.q)):=by
 have a1:=Gh hx hx.ln hx.ld (by decide)
 have a2:=Gh hy hy.ln hy.ld (by decide)
 have sn1:=lF x.q;have sn2:=lF y.q;have sd1:=lG x.q;have sd2:=lG y.q;have sdd:=gJ x.q.den y.q.den;have dd0:=Nat.mul_ne_zero x.q.den_nz y.q.den_nz;have e1:=gJ x.q.num.natAbs y.q.den;have e2:=gJ y.q.num.natAbs x.q.den;have hp:=KD (s:=decide (x.q.num<0)) (t:=decide (y.q.num<0)) (a:=x.q.num.natAbs) (b:=y.q.num.natAbs) x.q.den_nz y.q.den_nz;rw[o5,o5] at hp;have hl:=λk l h1 h2 h3 h4=>Hf (s:=decide (x.q.num<0)) (t:=decide (y.q.num<0)) (a:=x.q.num.natAbs) (b:=y.q.num.natAbs) (d1:=x.q.den) (d2:=y.q.den) (k:=k) (l:=l) h1 h2 h3 h4;have hl:=hl _ _ sn1 sn2 sd1 sd2;refine aj.intro fn.Bv (by rfl) (by rfl) (aB (by rfl)) λE hE=>(AW.sg hE rfl (iI rfl rfl λb2=>(iI rfl rfl λb3=>(al z.Rat rfl λb4=>(OL.nil (AW.seq (AW.dg 1 [0,1,2,3,4,5] ay hE rfl (by kernel_rfl) (OI.aK (os:=[_,_,_,_,_,_]) rfl ?_))))))))
 refine aO ag.Rat rfl rfl (vs:=[_,_,_]) rfl (aB rfl) (bJ rfl .bZ (zH (by assumption)) (aO ag.Rat rfl rfl (vs:=[_,_,_]) rfl (aB rfl) (bJ rfl .bZ (zH (by assumption)) (eH sz.Rat rfl rfl rfl rfl rfl (aB rfl) (cells2:=[_,_,_]) rfl (eH sz.Rat rfl rfl rfl rfl rfl (aB rfl) (cells2:=[_,_,_]) rfl (OL.nil (AW.seq ?_)))))))
 refine AW.dg 1 [0,1,2,3,4,5,6,7,8,9,10,11,12,13,14,15,16,17] ay hE rfl (by kernel_rfl) (OI.aK (os:=[_,_,_,_,_,_,_,_,_,_,_,_,_,_,_,_,_,_]) rfl ?_)
 refine aW fd.sQ rfl rfl (aG ce.aH rfl rfl rfl (aO ag.Rat rfl rfl (vs:=[_,_,_]) rfl (aB rfl) (bJ rfl .bZ (EY) (bJ rfl .iq (zG (a:=x.q.num.natAbs) (b:=y.q.den) (by omega) (by omega)) (aW fd.sQ rfl rfl (aG ce.aH rfl rfl rfl (aO ag.Rat rfl rfl (vs:=[_,_,_]) rfl (aB rfl) ?_)))))))
 refine bJ rfl .bZ (EY) (bJ rfl .iq (zG (a:=y.q.num.natAbs) (b:=x.q.den) (by omega) (by omega)) (aO ag.Rat rfl rfl (vs:=[_,_,_]) rfl (aB rfl) (bJ rfl .bZ (EY) (aO ag.Rat rfl rfl (vs:=[_,_,_]) rfl (aB rfl) (bJ rfl .bZ (EY) (bJ rfl .iq (zG (a:=x.q.den) (b:=y.q.den) (by omega) (by omega)) (aF rfl ?_)))))))
 refine aF rfl (aF rfl (OL.nil (AW.seq (AW.block (AW.sg hE rfl (aW fd.tZ rfl rfl (aG ce.bool rfl rfl rfl ?_)))))));refine aW fd.tZ rfl rfl (aG ce.bool rfl rfl rfl (eqb bt.bool rfl rfl (aF rfl (OL.nil (AW.cond rfl (λh=>?_) (λh=>?_))))))
 .have h:decide (x.q.num<0)=decide (y.q.num<0):=by exact beq_iff_eq.1 h
  rw[if_pos h] at hp;rw[if_pos h] at hp hl;refine AW.seq (AW.dg 1 [0,1,2,3,4,5,6,7] ay hE rfl (by kernel_rfl) (OI.aK (os:=[_,_,_,_,_,_,_,_]) rfl ?_))
  refine aW fd.tZ rfl rfl (aG ce.bool rfl rfl rfl (ai rfl (ai rfl (bJ rfl .iq (IZ (by omega) (by omega)) (ai rfl (bJ rfl .Ah (Ej (s:=decide (x.q.num<0)) (by omega) (by omega) dd0) ?_))))))
  rw[hp];exact eH sz.Rat rfl rfl rfl rfl rfl (aB rfl) (cells2:=[_,_,_]) rfl (OL.nil (AW.ret (aP.r ⟨_,.dV rfl rfl ag.Rat (aB rfl) .nil,.ag (.cons (.le vR) (.cons (.le vR) (.cons (.le vR) .nil)))⟩)))
 .have h:¬ decide (x.q.num<0)=decide (y.q.num<0):=λe=>by have e2:=beq_iff_eq.2 e;exact absurd (h.symm.trans e2) (by decide)
  rw[if_neg h,if_neg h] at hp;rw[if_neg h] at hl;refine AW.sg hE rfl (ai rfl (ai rfl (bJ rfl .iq (JJ (by omega) (by omega)) (qY rfl rfl rfl (aF rfl (OL.nil (AW.cond rfl (λh2=>?_) (λh2=>?_))))))))
  .have h2:y.q.num.natAbs*x.q.den<=x.q.num.natAbs*y.q.den:=G9 (by have:=lq h2;omega)
   rw[if_pos h2,if_pos h2] at hp;rw[if_pos h2] at hl;refine AW.seq (AW.dg 1 [0,1,2,3,4,5,6,7] ay hE rfl (by kernel_rfl) (OI.aK (os:=[_,_,_,_,_,_,_,_]) rfl ?_))
   refine aW fd.tZ rfl rfl (aG ce.bool rfl rfl rfl (ai rfl (ai rfl (bJ rfl .iq (Gn (by omega) (by assumption)) (ai rfl (bJ rfl .Ah (Ej (s:=decide (x.q.num<0)) (by omega) (by omega) dd0) ?_))))))
   rw[hp];exact eH sz.Rat rfl rfl rfl rfl rfl (aB rfl) (cells2:=[_,_,_]) rfl (OL.nil (AW.ret (aP.r ⟨_,.dV rfl rfl ag.Rat (aB rfl) .nil,.ag (.cons (.le vR) (.cons (.le vR) (.cons (.le vR) .nil)))⟩)))
  .have h2:¬ y.q.num.natAbs*x.q.den<=x.q.num.natAbs*y.q.den:=λe=>nS h2 (VS e);rw[if_neg h2,if_neg h2] at hp;rw[if_neg h2] at hl;refine AW.skip (AW.seq (AW.dg 1 [0,1,2,3,4,5,6,7] ay hE rfl (by kernel_rfl) (OI.aK (os:=[_,_,_,_,_,_,_,_]) rfl ?_)))
   refine aW fd.tZ rfl rfl (aG ce.bool rfl rfl rfl (ai rfl (ai rfl (bJ rfl .iq (Gn (by omega) (by omega)) (ai rfl (bJ rfl .Ah (Ej (s:=decide (y.q.num<0)) (by omega) (by omega) dd0) ?_))))))
   rw[hp];exact eH sz.Rat rfl rfl rfl rfl rfl (aB rfl) (cells2:=[_,_,_]) rfl (OL.nil (AW.ret (aP.r ⟨_,.dV rfl rfl ag.Rat (aB rfl) .nil,.ag (.cons (.le vR) (.cons (.le vR) (.cons (.le vR) .nil)))⟩)))
theorem TN {x y:Rat}(hx:sz x<=68719476736)(hy:sz y<=68719476736):aj P F.Bv [vQ x,vQ y] (vQ (x+y)):=by
 have h:=XY (x:=fZ x) (y:=fZ y) (nT (by omega)) (nT (by omega))
 rw[qy,qy] at h;exact h
theorem Zk {x:Rat}(hx:sz x<=274877906944):aj P F.zh [vQ x] (.d (dI (IW x))):=by
 have h:=ah5 (r:=fZ x) (nT hx);rw[qy] at h;exact h
theorem aA2 {x y:Raw}(hx:x.Ok)(hy:y.Ok):aj P F.EU [tN x,tN y] (vQ (x.q-y.q)):=by
 have a2:=Gh hy hy.ln hy.ld (by decide)
 refine aj.intro fn.EU (by rfl) (by rfl) (aB (by rfl)) λE hE=>(AW.sg hE rfl (iI rfl rfl λb2=>(iI rfl rfl λb3=>(al z.Rat rfl λb4=>(OL.nil (AW.seq (AW.dg 1 [0,1,2,3,4] ay hE rfl (by kernel_rfl) (OI.aK (os:=[_,_,_,_,_]) rfl ?_))))))))
 refine aO ag.Rat rfl rfl (vs:=[_,_,_]) rfl (aB rfl) (aO ag.Rat rfl rfl (vs:=[_,_,_]) rfl (aB rfl) (bJ rfl .bZ (aA1 hy) (bJ rfl .iq (XY hx (nT (by rw[IX];omega))) ?_)))
 rw[qy,<- Rat.sub_eq_add_neg];exact eH sz.Rat rfl rfl rfl rfl rfl (aB rfl) (cells2:=[_,_,_]) rfl (OL.nil (AW.ret (aP.r ⟨_,.dV rfl rfl ag.Rat (aB rfl) .nil,.ag (.cons (.le vR) (.cons (.le vR) (.cons (.le vR) .nil)))⟩)))
theorem TP {x y:Raw}(hx:x.Sm)(hy:y.Sm):aj P F.tX [tN x,tN y] (.d (dI (Y8 x.q y.q))):=by
 have a1:=hx.q;have a2:=hy.q;have a3:=QW x.q y.q;refine aj.intro fn.tX (by rfl) (by rfl) (aB (by rfl)) λE hE=>(AW.sg hE rfl (iI rfl rfl λb2=>(iI rfl rfl λb3=>(aF rfl (OL.nil (AW.sg hE rfl (aO ag.Rat rfl rfl (vs:=[_,_,_]) rfl (aB rfl) ?_)))))))
 exact aO ag.Rat rfl rfl (vs:=[_,_,_]) rfl (aB rfl) (bJ rfl .iq (aA2 hx.ok hy.ok) (bJ rfl .bZ (Zk (by omega)) (aF rfl (OL.nil (AW.ret (aP.r ⟨_,.tmp rfl .nil,.le vR⟩))))))
theorem Q8 {x y:Rat}(hx:sz x<=68719476736)(hy:sz y<=68719476736):aj P F.tX [vQ x,vQ y] (.d (dI (Y8 x y))):=by
 have h:=TP (x:=fZ x) (y:=fZ y) (D9 hx) (D9 hy);rw[qy,qy] at h;exact h

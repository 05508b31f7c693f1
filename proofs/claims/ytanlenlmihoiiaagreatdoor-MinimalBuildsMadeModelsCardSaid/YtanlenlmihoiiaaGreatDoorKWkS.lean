/-
  Walks of the specification of semirings, over the rational numbers (printed by mk2.py).
-/
import Derived.Test.YtanlenlmihoiiaaGreatDoorKWkQ
set_option linter.unusedVariables false
set_option linter.unusedSimpArgs false
namespace Go.Proofs.YtanlenlmihoiiaaGreatDoor
open Go Go.AL
structure Au.Take (a:Au) (s:Nat):Prop where
 fit:Au.Fit a s
 few:a.Few
 st1:1<=a.st
theorem an1 {a:Au}{s:Nat}(f:Au.Fit a s):∀ x,x ∈ [a]->Au.Fit x s:=λx hx=>by rw[jJ hx];exact f
theorem JD {a:Au}{s:Nat}(t:Au.Take a s)(s4:s<=4):(ah [a]).Ok/\(ah [a]).Full/\(ah [a]).Sz 24/\(ah [a]).n=a.st :=
 ⟨Wu t.fit.ok,IE _,WT (λx hx=>by rw[jJ hx];exact t.few) (by rw[kG];have:=t.few.st;omega) (by show a.sym<=4;rw[t.fit.sym];exact s4),kG⟩
theorem aT5 {x y:Raw}(hx:x.Ok)(hy:y.Ok):ai P F.Dw [uF x,uF y] (vQ (x.q*y.q)):=by
 have a1:=FM hx hx.ln hx.ld (by decide)
 have a2:=FM hy hy.ln hy.ld (by decide)
 have sn1:=lm x.q;have sn2:=lm y.q;have sd1:=lq x.q;have sd2:=lq y.q;have sdd:=gG x.q.den y.q.den;have dd0:=Nat.mul_ne_zero x.q.den_nz y.q.den_nz;have snn:=gG x.q.num.natAbs y.q.num.natAbs;have hp:=Uu (s:=decide (x.q.num<0)) (t:=decide (y.q.num<0)) (a:=x.q.num.natAbs) (b:=y.q.num.natAbs) (d1:=x.q.den) (d2:=y.q.den);rw[mP,mP] at hp;refine ai.intro fn.Dw (by rfl) (by rfl) (ay (by rfl)) λE hE=>(AW.sg hE rfl (iO rfl rfl λb2=>(iO rfl rfl λb3=>(al z.Rat rfl λb4=>(OL.nil (AW.seq (AW.dg 1 [0,1,2,3,4,5] ak hE rfl (by kernel_rfl) (OI.aK (os:=[_,_,_,_,_,_]) rfl ?_))))))))
 refine aQ ag.Rat rfl rfl (vs:=[_,_,_]) rfl (ay rfl) (bH rfl .dD (wS (by assumption)) (aQ ag.Rat rfl rfl (vs:=[_,_,_]) rfl (ay rfl) (bH rfl .dD (wS (by assumption)) (fA sz.Rat rfl rfl rfl rfl rfl (ay rfl) (cells2:=[_,_,_]) rfl (fA sz.Rat rfl rfl rfl rfl rfl (ay rfl) (cells2:=[_,_,_]) rfl (OL.nil (AW.seq ?_)))))))
 refine AW.dg 1 [0,1,2,3,4,5,6,7,8,9,10,11,12,13,14,15,16] ak hE rfl (by kernel_rfl) (OI.aK (os:=[_,_,_,_,_,_,_,_,_,_,_,_,_,_,_,_,_]) rfl ?_)
 refine bC fd.uh rfl rfl (aG ce.bool rfl rfl rfl (bC fd.uh rfl rfl (aG ce.bool rfl rfl rfl (neb bt.bool rfl rfl (bC fd.rZ rfl rfl (aG ce.aH rfl rfl rfl (bC fd.rZ rfl rfl ?_)))))));refine aG ce.aH rfl rfl rfl (bH rfl .iW (vC (a:=x.q.num.natAbs) (b:=y.q.num.natAbs) (by omega) (by omega)) (aQ ag.Rat rfl rfl (vs:=[_,_,_]) rfl (ay rfl) (bH rfl .dD (CP) (aQ ag.Rat rfl rfl (vs:=[_,_,_]) rfl (ay rfl) (bH rfl .dD (CP) (bH rfl .iW (vC (a:=x.q.den) (b:=y.q.den) (by omega) (by omega)) (bH rfl .yU (DL (s:=(decide (x.q.num<0) != decide (y.q.num<0))) (by omega) (by omega) dd0) ?_)))))))
 rw[<- hp];exact fA sz.Rat rfl rfl rfl rfl rfl (ay rfl) (cells2:=[_,_,_]) rfl (OL.nil (AW.ret (aP.r ⟨_,.dN rfl rfl ag.Rat (ay rfl) .nil,.ag (.cons (.le vR) (.cons (.le vR) (.cons (.le vR) .nil)))⟩)))
theorem Ea {x y:Rat}(hx:sz x<=68719476736)(hy:sz y<=68719476736):ai P F.Dw [vQ x,vQ y] (vQ (x*y)):=by
 have h:=aT5 (x:=fZ x) (y:=fZ y) (jQ (by omega)) (jQ (by omega))
 rw[ny,ny] at h;exact h
theorem TA {q:Rat}(hz:sz q<=68719476736):ai P F.Bd [vQ q] (vQ q):=by
 have h:=wS (r:=fZ q) (jQ (by omega))
 rw[ny] at h;exact h
theorem Zh {q:Rat}(hz:sz q<=68719476736):ai P F.yP [vQ q] (.d (dB true)):=by
 have h:=RJ (r:=fZ q) (jQ (by omega))
 rw[OB] at h;exact h
theorem bf8 {q:Rat}:bW (.ag [.d (dB (fZ q).neg),.d (aH (fZ q).num),.d (aH (fZ q).den),.d (dI 0),.d (dB false),.d (dU 0),.d (.sl []),.mt]) (vW q) :=
 bW.ag (.cons vR (.cons vR (.cons vR (.cons vR (.cons vR (.cons vR (.cons vR (.cons bW.mt .nil))))))))
theorem Xr {l m:List Nat}(nl:l.length<=8796093022208)(nm:m.length<=8796093022208):ai P F.Ey [.d (aH l),.d (aH m)] (.d (dB (decide (l=m)))):=by
 refine ai.intro fn.Ey (by rfl) (by rfl) (ay (by rfl)) λE hE=>(AW.sg hE rfl (aF rfl (OL.nil (AW.seq (AW.sg hE rfl (aj rfl (fF sl.aH rfl rfl ?_)))))))
 refine aj rfl (fF sl.aH rfl rfl (eX rfl rfl rfl (OL.nil (AW.cond rfl (λh10=>?_) (λh10=>?_)))))
 .have hl:l.length≠m.length:=by have:=BI h10;omega
  exact AW.sg hE rfl (aF rfl (OL.nil (AW.ret (aP.r ⟨_,.tmp rfl .nil,.le (bW.bool ((decide_eq_false λe=>hl (by rw[e])).symm))⟩))))
 .have hl:l.length=m.length:=by have:=yY h10;omega
  refine AW.skip (AW.seq (AW.sg hE rfl (aF rfl (OL.nil (AW.block ?_)))));refine AW.aY (α:=Nat) [(0,_),(1,_)] [] (λi=>[(5,.d (dI i))]) (λi=>[]) (λi=>i<=l.length/\∀ j,j<i->l.getD j 0=m.getD j 0) (λi=>l.length-i) 0 (.cons (di rfl) (.cons (di rfl) .nil)) .nil ⟨⟨Nat.zero_le _,λj hj=>by omega⟩,.dD,.nil⟩ ?_
  rintro i ⟨h1,h2⟩
  refine AW.seq (AW.sg hE rfl (aj rfl (aj rfl (fF sl.aH rfl rfl (bG rfl rfl rfl (OL.nil (AW.cond rfl (λCO=>?_) (λCO=>?_))))))))
  .try simp only[fD] at CO
   refine AW.skip (AW.seq (AW.block (AW.seq (AW.dg 1 [0,1,2,3,4,5,6,7,8] ak hE rfl (by kernel_rfl) (OI.aK (os:=[_,_,_,_,_,_,_,_,_]) rfl ?_)))))
   refine aj rfl (aj rfl (dR sl.aH 0 rfl rfl (by omega) rfl rfl (iE ce.u32 rfl (aj rfl (aj rfl (dR sl.aH 0 rfl rfl (by omega) rfl rfl (iE ce.u32 rfl ?_)))))))
   refine eX rfl rfl rfl (OL.nil (AW.cond rfl (λhc=>?_) (λhc=>?_)))
   .have hc:l.getD i 0≠m.getD i 0:=by have:=BI hc;omega
    exact AW.sg hE rfl (aF rfl (OL.nil (AW.ret (aP.r ⟨_,.tmp rfl .nil,.le (bW.bool ((decide_eq_false λe=>hc (by rw[e])).symm))⟩))))
   .have hc:l.getD i 0=m.getD i 0:=by have:=yY hc;omega
    exact AW.skip (AW.rg hE rfl (aj rfl (aI rfl rfl (by omega) (aF rfl (OL.nil (AW.again (x:=i) (i+1) (by omega) ⟨⟨by omega,λj hj=>by rcases Nat.lt_or_ge j i with h|h;exact h2 j h;obtain rfl:j=i:=(by omega);exact hc⟩,Knows.app .iW .dD,.nil⟩))))))
  .try simp only[fD] at CO
   exact AW.exit (AW.sg hE rfl (aF rfl (OL.nil (AW.ret (aP.r ⟨_,.tmp rfl .nil,.le (bW.bool ((decide_eq_true (zC hl 0 λj hj=>h2 j (by omega))).symm))⟩)))))
theorem Ll {p q:Rat}(hp:sz p<=68719476736)(hq:sz q<=68719476736):ai P F.AZ [vQ p,vQ q] (.d (dB (decide (p=q)))):=by
 have sp:=Uw hp;have sq:=Uw hq;have l1:=sp.ln;have l2:=sp.ld;have l3:=sq.ln;have l4:=sq.ld;refine ai.intro fn.AZ (by rfl) (by rfl) (ay (by rfl)) λE hE=>(AW.sg hE rfl (iO rfl rfl λb2=>(iO rfl rfl λb3=>(aF rfl (OL.nil (AW.sg hE rfl (bC fd.uh rfl rfl ?_)))))))
 refine aG ce.bool rfl rfl rfl (bC fd.uh rfl rfl (aG ce.bool rfl rfl rfl (eqb bt.bool rfl rfl (OL.split 9 rfl (λg=>?_) (λg=>?_)))))
 .have g:=lK g;refine aj rfl (OL.yes rfl (bC fd.rZ rfl rfl (OL.yes rfl (aG ce.aH rfl rfl rfl (OL.yes rfl (bC fd.rZ rfl rfl (OL.yes rfl ?_)))))));refine aG ce.aH rfl rfl rfl (OL.yes rfl (bH rfl .iW (Xr (by omega) (by omega)) (OL.split 15 rfl (λk=>?_) (λk=>?_))))
  .have k:=lK k;refine oK rfl rfl (aj rfl (OL.yes rfl (bC fd.o6 rfl rfl (OL.yes rfl (aG ce.aH rfl rfl rfl (OL.yes rfl (bC fd.o6 rfl rfl ?_)))))));exact OL.yes rfl (aG ce.aH rfl rfl rfl (OL.yes rfl (bH rfl .iW (Xr (by omega) (by omega)) (oK rfl rfl (aF rfl (OL.nil (AW.ret (aP.r ⟨_,.tmp rfl .nil,.le (bW.bool (decide_eq_decide.2 ⟨λe=>ac6 (aA2 g k e),λe=>by rw[e]⟩))⟩))))))))
  .have k:=nZ k;refine oK rfl rfl (aj rfl (OL.nd rfl (OL.nd rfl (OL.nd rfl (OL.nd rfl (OL.nd rfl (oI rfl rfl ?_)))))));exact aF rfl (OL.nil (AW.ret (aP.r ⟨_,.tmp rfl .nil,.le (bW.bool ((decide_eq_false λe=>k (by rw[e])).symm))⟩)))
 .have g:=nZ g;refine aj rfl (OL.nd rfl (OL.nd rfl (OL.nd rfl (OL.nd rfl (OL.nd rfl (oI rfl rfl (aj rfl ?_)))))));refine OL.nd rfl (OL.nd rfl (OL.nd rfl (OL.nd rfl (OL.nd rfl (oI rfl rfl (aF rfl (OL.nil ?_)))))));exact AW.ret (aP.r ⟨_,.tmp rfl .nil,.le (bW.bool ((decide_eq_false λe=>g (by rw[e])).symm))⟩)
theorem U2  : ai P F.CB [.d (.sl [])] (.d (dB true)):=by
 refine ai.intro fn.CB (by rfl) (by rfl) (ay (by rfl)) λE hE=>(AW.sg hE rfl (aF rfl (OL.nil (AW.seq (AW.sg hE rfl (aF rfl (OL.nil ?_)))))))
 refine AW.block (AW.aY (α:=Unit) [(0,_)] [] (λ_u=>[(3,.d (dI 0))]) (λ_u=>[]) (λ_u=>True) (λ_u=>0) () (.cons (di rfl) .nil) .nil ⟨trivial,.dD,.nil⟩ ?_);intro _ _;refine AW.seq (AW.sg hE rfl (aj rfl (aj rfl (LP sl.iR rfl rfl rfl (bG rfl rfl rfl (OL.nil (AW.cond rfl (λhno=>absurd hno (by simp)) (λ_=>?_))))))))
 exact AW.exit (AW.sg hE rfl (aF rfl (OL.nil (AW.ret (aP.r ⟨_,.tmp rfl .nil,.le vR⟩)))))
theorem Xt  : ai P F.ER [.d (.sl [])] (.d (.sl [])):=by
 refine ai.intro fn.ER (by rfl) (by rfl) (ay (by rfl)) λE hE=>(AW.sg hE rfl (jK rfl (OL.nil (AW.seq (AW.sg hE rfl (aj rfl (bH rfl .dD (U2) ?_)))))))
 refine nt rfl (OL.nil (oH rfl ?_));refine AW.skip (AW.sg hE rfl (jK rfl (OL.nil (AW.seq (AW.sg hE rfl (aF rfl (OL.nil ?_)))))));refine AW.block (AW.aY (α:=Unit) [(0,_),(2,_)] [] (λ_u=>[(3,.mt),(4,.d (dI 0))]) (λ_u=>[]) (λ_u=>True) (λ_u=>0) () (.cons (di rfl) (.cons (xK rfl) .nil)) .nil ⟨trivial,.iW,.nil⟩ ?_);intro _ _;refine AW.seq (AW.sg hE rfl (aj rfl (aj rfl (LP sl.iR rfl rfl rfl (bG rfl rfl rfl (OL.nil (AW.cond rfl (λhno=>absurd hno (by simp)) (λ_=>?_))))))))
 exact AW.exit (AW.sg hE rfl (mvM rfl (jK rfl (OL.nil (AW.ret (aP.r ⟨_,.tmp rfl .nil,.le (bW.mt)⟩))))))
theorem Xu  : ai P F.EJ [.d (.sl []),.d (.sl [])] (.d (dB true)):=by
 refine ai.intro fn.EJ (by rfl) (by rfl) (ay (by rfl)) λE hE=>(AW.sg hE rfl (aF rfl (OL.nil (AW.seq (AW.sg hE rfl (aj rfl (LP sl.iR rfl rfl rfl ?_)))))))
 refine aj rfl (LP sl.iR rfl rfl rfl (eX rfl rfl (c:=false) (kY rfl) (OL.nil (oH rfl ?_))));refine AW.skip (AW.seq (AW.sg hE rfl (aF rfl (OL.nil (AW.block (AW.aY (α:=Unit) [(0,_),(1,_)] [] (λ_u=>[(5,.d (dI 0))]) (λ_u=>[]) (λ_u=>True) (λ_u=>0) () (.cons (di rfl) (.cons (di rfl) .nil)) .nil ⟨trivial,.dD,.nil⟩ ?_))))));intro _ _;refine AW.seq (AW.sg hE rfl (aj rfl (aj rfl (LP sl.iR rfl rfl rfl (bG rfl rfl rfl (OL.nil (AW.cond rfl (λhno=>absurd hno (by simp)) (λ_=>?_))))))))
 exact AW.exit (AW.sg hE rfl (aF rfl (OL.nil (AW.ret (aP.r ⟨_,.tmp rfl .nil,.le vR⟩)))))
theorem CW {n d:Int}(hn:-9223372036854775808<=n/\n<=9223372036854775807)(hd:-9223372036854775808<=d/\d<=9223372036854775807)(h0:d≠0):ai P F.FW [.d (dI n),.d (dI d)] (vQ ((n:Rat) / (d:Rat))):=by
 refine ai.intro fn.FW (by rfl) (by rfl) (ay (by rfl)) λE hE=>(AW.sg hE rfl (al z.Rat rfl λb4=>(OL.nil (AW.sg hE rfl (aj rfl (aj rfl (bH rfl .iW (ay0 hn hd h0) ?_)))))))
 refine Di rfl (ex rfl rfl (ex rfl rfl (al z.Rat rfl λb5=>(fA sz.Rat rfl rfl rfl rfl rfl (ay rfl) (cells2:=[_,_,_]) rfl (aF rfl (OL.nil (AW.sg hE rfl ?_)))))));exact aQ ag.Rat rfl rfl (vs:=[_,_,_]) rfl (ay rfl) (fA sz.Rat rfl rfl rfl rfl rfl (ay rfl) (cells2:=[_,_,_]) rfl (OL.nil (AW.ret (aP.r ⟨_,.dN rfl rfl ag.Rat (ay rfl) .nil,.ag (.cons (.le vR) (.cons (.le vR) (.cons (.le vR) .nil)))⟩))))
theorem G5  : ai P F.Ce [kS] (.d (dB true)):=by
 refine ai.intro fn.Ce (by rfl) (by rfl) (ay (by rfl)) λE hE=>(AW.sg hE rfl (iO rfl rfl λb1=>(aF rfl (OL.nil (AW.seq (AW.sg hE rfl (bC fd.lD rfl rfl ?_)))))))
 refine aG ce.int rfl rfl rfl (eX rfl rfl (c:=true) (by exact Jk (by omega)) (OL.nil (Hr rfl ?_)))
 refine AW.sg hE rfl (bC fd.lD rfl rfl (aG ce.int rfl rfl rfl (qX rfl rfl (c:=true) (by exact decide_eq_true (by omega)) (aj rfl (OL.yes rfl (bC fd.lD rfl rfl (OL.yes rfl ?_)))))))
 refine aG ce.int rfl rfl rfl (OL.yes rfl (yM rfl rfl (c:=true) (by exact decide_eq_true (by omega)) (oK rfl rfl (aj rfl (OL.yes rfl (bC fd.EW rfl rfl (OL.yes rfl ?_)))))))
 refine aG ce.ints rfl rfl rfl (OL.yes rfl (LP sl.ints rfl rfl rfl (OL.yes rfl (fG rfl rfl (c:=true) (decide_eq_true rfl) (oK rfl rfl (aF rfl (OL.nil ?_)))))));exact AW.ret (aP.r ⟨_,.tmp rfl .nil,.le vR⟩)
theorem aE8 {q:Rat}(hz:sz q<=68719476736):ai P F.zO [.d (dI 1),vW q] (.d (dB true)):=by
 refine ai.intro fn.zO (by rfl) (by rfl) (ay (by rfl)) λE hE=>(AW.sg hE rfl (iO rfl rfl λb3=>(aF rfl (OL.nil (AW.sg hE rfl (bC fd.iC rfl rfl (aQ ag.Rat rfl rfl (vs:=[_,_,_]) rfl (ay rfl) ?_)))))))
 refine bd z.Rat pl.Rat (cs:=[_,_,_]) rfl (bH rfl (.cons vR (.cons (aw2) .nil)) (Ll hz z0K) (aF rfl (OL.nil (AW.seq (AW.sg hE rfl (bC fd.Bh rfl rfl (aG ce.aW rfl rfl rfl ?_)))))));refine LP sl.aW rfl rfl rfl (jI rfl rfl (c:=false) (decide_eq_false (by simp)) (aj rfl (OL.yes rfl (aj rfl (OL.yes rfl (eX rfl rfl (c:=false) (by exact kY (by omega)) (OL.yes rfl ?_)))))))
 refine aj rfl (OL.nd rfl (OL.nd rfl (OL.yes rfl (oI rfl rfl (OL.yes rfl (aj rfl (OL.nd rfl ?_)))))));refine OL.nd rfl (OL.yes rfl (oI rfl rfl (oI rfl rfl (aj rfl (OL.yes rfl (aj rfl (OL.yes rfl ?_)))))));refine eX rfl rfl (c:=true) (by exact Jk (by omega)) (OL.yes rfl (aj rfl (OL.yes rfl (bC fd.Bg rfl rfl (OL.yes rfl (aG ce.bool rfl rfl rfl (OL.yes rfl ?_)))))))
 refine aj rfl (OL.yes rfl (bC fd.DF rfl rfl (OL.yes rfl (aG ce.int rfl rfl rfl (OL.yes rfl (eX rfl rfl (c:=false) (by exact kY (by omega)) (OL.yes rfl ?_)))))))
 refine oI rfl rfl (OL.yes rfl (oK rfl rfl (oI rfl rfl (aj rfl (OL.yes rfl (aj rfl (OL.yes rfl ?_)))))));refine eX rfl rfl (c:=true) (by exact Jk (by omega)) (OL.yes rfl (aj rfl (OL.yes rfl (bC fd.DI rfl rfl (OL.yes rfl (aG ce.u64 rfl rfl rfl (OL.yes rfl ?_)))))))
 refine eX rfl rfl (c:=false) (by exact kY (by omega)) (OL.yes rfl (oK rfl rfl (oI rfl rfl (aj rfl (OL.yes rfl (aj rfl (OL.yes rfl ?_)))))))
 refine eX rfl rfl (c:=true) (by exact Jk (by omega)) (OL.yes rfl (aj rfl (OL.yes rfl (bC fd.DJ rfl rfl (OL.yes rfl (aG ce.iR rfl rfl rfl (OL.yes rfl ?_)))))))
 refine LP sl.iR rfl rfl rfl (OL.yes rfl (jI rfl rfl (c:=false) (decide_eq_false (by simp)) (OL.yes rfl (oK rfl rfl (oI rfl rfl (OL.nil (oH rfl ?_)))))))
 refine AW.skip (AW.seq (AW.sg hE rfl (aj rfl (OL.nil (AW.block (AW.sg hE rfl (fG rfl rfl (c:=true) (by exact decide_eq_true (by omega)) ?_)))))))
 refine aF rfl (OL.nil (Hr rfl ?_));exact AW.sg hE rfl (bC fd.iC rfl rfl (aQ ag.Rat rfl rfl (vs:=[_,_,_]) rfl (ay rfl) (bH rfl vL (Zh hz) (aF rfl (OL.nil (AW.ret (aP.r ⟨_,.tmp rfl .nil,.le vR⟩)))))))
theorem U3 {q:Rat}(hz:sz q<=68719476736):ai P F.Cf [kS,vW q] (.d (dB true)):=by
 refine ai.intro fn.Cf (by rfl) (by rfl) (ay (by rfl)) λE hE=>(AW.sg hE rfl (iO rfl rfl λb2=>(iO rfl rfl λb3=>(aF rfl (OL.nil (AW.seq (AW.sg hE rfl ?_)))))))
 refine aQ ag.Ring rfl rfl (vs:=[_,_]) rfl (ay rfl) (bH rfl .dD (G5) (nt rfl (OL.nil (oH rfl ?_))));refine AW.skip (AW.seq (AW.sg hE rfl (bC fd.lD rfl rfl (aG ce.int rfl rfl rfl (eX rfl rfl (c:=true) (by exact Jk (by omega)) (OL.nil (Hr rfl ?_)))))))
 exact AW.sg hE rfl (bC fd.lD rfl rfl (aG ce.int rfl rfl rfl (aQ ag.aC rfl rfl (vs:=[_,_,_,_,_,_,_,_]) rfl (ay rfl) (bH rfl vL (aE8 hz) (aF rfl (OL.nil (AW.ret (aP.r ⟨_,.tmp rfl .nil,.le vR⟩))))))))
theorem U4  : ai P F.EL [kS] (vW 0):=by
 refine ai.intro fn.EL (by rfl) (by rfl) (ay (by rfl)) λE hE=>(AW.sg hE rfl (iO rfl rfl λb1=>(al z.aC rfl λb2=>(OL.nil (AW.sg hE rfl (bd z.aC pl.aC (cs:=[_,_,_,_,_,_,_,_]) rfl (al z.aC rfl λb3=>?_)))))))
 refine fA sz.aC rfl rfl rfl rfl rfl (ay rfl) (cells2:=[_,_,_,_,_,_,_,_]) rfl (OL.nil (AW.seq (AW.sg hE rfl (aQ ag.Ring rfl rfl (vs:=[_,_]) rfl (ay rfl) (bH rfl .dD (G5) (nt rfl (OL.nil ?_)))))));refine oH rfl ?_;refine AW.skip (AW.sg hE rfl (bC fd.lD rfl rfl (aG ce.int rfl rfl rfl (fG rfl rfl (c:=false) (by exact decide_eq_false (by omega)) (bC fd.Bg rfl rfl (fA sz.bool rfl rfl rfl rfl rfl (ay rfl) (cells2:=[_,_,_,_,_,_,_,_]) rfl (OL.nil ?_)))))))
 refine AW.seq (AW.sg hE rfl (aF rfl (OL.nil (AW.block ?_))));refine AW.aY (α:=Unit) [(1,_),(2,_),(3,_)] [(1,_),(2,_)] (λ_u=>[(4,.d (dI 0))]) (λ_u=>[(3,.box b3 T.aC [.d (dB false),.mt,.mt,.d (dI 0),.d (dB false),.d (dU 0),.mt,.mt])]) (λ_u=>True) (λ_u=>0) () (.cons (iw rfl) (.cons (iw rfl) (.cons (iw rfl) .nil))) (.cons (je rfl) (.cons (je rfl) .nil)) ⟨trivial,.dD,.cons rfl .nil⟩ ?_;intro _ _;refine AW.seq (AW.sg hE rfl (aj rfl (bC fd.EW rfl rfl (aG ce.ints rfl rfl rfl (LP sl.ints rfl rfl rfl (bG rfl rfl rfl (OL.nil ?_)))))));refine AW.cond rfl (λhno=>absurd hno (by simp)) (λ_=>?_)
 exact AW.exit (AW.sg hE rfl (aQ ag.aC rfl rfl (vs:=[_,_,_,_,_,_,_,_]) rfl (ay rfl) (fA sz.aC rfl rfl rfl rfl rfl (ay rfl) (cells2:=[_,_,_,_,_,_,_,_]) rfl (OL.nil (AW.ret (aP.r ⟨_,.dN rfl rfl ag.aC (ay rfl) .nil,.le aA1⟩))))))
theorem br4  : ai P F.GK [kS] (vW 1):=by
 refine ai.intro fn.GK (by rfl) (by rfl) (ay (by rfl)) λE hE=>(AW.sg hE rfl (iO rfl rfl λb1=>(al z.aC rfl λb2=>(OL.nil (AW.sg hE rfl (bd z.aC pl.aC (cs:=[_,_,_,_,_,_,_,_]) rfl (al z.aC rfl λb3=>?_)))))))
 refine fA sz.aC rfl rfl rfl rfl rfl (ay rfl) (cells2:=[_,_,_,_,_,_,_,_]) rfl (OL.nil (AW.seq (AW.sg hE rfl (aQ ag.Ring rfl rfl (vs:=[_,_]) rfl (ay rfl) (bH rfl .dD (G5) (nt rfl (OL.nil ?_)))))));refine oH rfl ?_;refine AW.skip (AW.seq (AW.sg hE rfl (bC fd.lD rfl rfl (aG ce.int rfl rfl rfl (OL.nil (AW.block (AW.seq ?_)))))));refine AW.sg hE rfl (fG rfl rfl (c:=true) (by exact decide_eq_true (by omega)) (aF rfl (OL.nil (Hr rfl ?_))))
 refine AW.skip (Hr rfl ?_);refine AW.rg hE rfl (bH rfl .iW (CW (n:=1) (d:=1) (by decide) (by decide) (by decide)) ?_)
 rw[q11];refine bC fd.iC rfl rfl (fA sz.Rat rfl rfl rfl rfl rfl (ay rfl) (cells2:=[_,_,_,_,_,_,_,_]) rfl (OL.nil (AW.seq (AW.sg hE rfl (aF rfl (OL.nil (AW.block ?_)))))));refine AW.aY (α:=Unit) [(1,_),(2,_),(3,_)] [(1,_),(2,_)] (λ_u=>[(4,.d (dI 0))]) (λ_u=>[(3,.box b3 T.aC [.d (dB (fZ 1).neg),.d (aH (fZ 1).num),.d (aH (fZ 1).den),.d (dI 0),.d (dB false),.d (dU 0),.mt,.mt])]) (λ_u=>True) (λ_u=>0) () (.cons (iw rfl) (.cons (iw rfl) (.cons (iw rfl) .nil))) (.cons (je rfl) (.cons (je rfl) .nil)) ⟨trivial,.dD,.cons rfl .nil⟩ ?_;intro _ _;refine AW.seq (AW.sg hE rfl (aj rfl (bC fd.EW rfl rfl (aG ce.ints rfl rfl rfl (LP sl.ints rfl rfl rfl (bG rfl rfl rfl (OL.nil ?_)))))));refine AW.cond rfl (λhno=>absurd hno (by simp)) (λ_=>?_)
 exact AW.exit (AW.sg hE rfl (aQ ag.aC rfl rfl (vs:=[_,_,_,_,_,_,_,_]) rfl (ay rfl) (fA sz.aC rfl rfl rfl rfl rfl (ay rfl) (cells2:=[_,_,_,_,_,_,_,_]) rfl (OL.nil (AW.ret (aP.r ⟨_,.dN rfl rfl ag.aC (ay rfl) .nil,.le IC⟩))))))
theorem Lm {q:Rat}(hz:sz q<=68719476736):ai P F.EP [kS,vW q] (vW q):=by
 refine ai.intro fn.EP (by rfl) (by rfl) (ay (by rfl)) λE hE=>(AW.sg hE rfl (iO rfl rfl λb2=>(iO rfl rfl λb3=>(al z.aC rfl λb4=>(OL.nil (AW.seq (AW.sg hE rfl ?_)))))))
 refine aQ ag.Ring rfl rfl (vs:=[_,_]) rfl (ay rfl) (aQ ag.aC rfl rfl (vs:=[_,_,_,_,_,_,_,_]) rfl (ay rfl) (bH rfl .iW (U3 hz) (nt rfl (OL.nil (oH rfl ?_)))));refine AW.skip (AW.seq (AW.dg 1 [0,1,2,3,4,5,6,7,8,9,10,11,12,13,14] ak hE rfl (by kernel_rfl) (OI.aK (os:=[_,_,_,_,_,_,_,_,_,_,_,_,_,_,_]) rfl ?_)))
 refine bC fd.iC rfl rfl (aQ ag.Rat rfl rfl (vs:=[_,_,_]) rfl (ay rfl) (bH rfl .dD (TA hz) (bC fd.DF rfl rfl (aG ce.int rfl rfl rfl (bC fd.Bg rfl rfl (aG ce.bool rfl rfl rfl (bC fd.DI rfl rfl ?_)))))));refine aG ce.u64 rfl rfl rfl (bC fd.DJ rfl rfl (aG ce.iR rfl rfl rfl (bH rfl .dD (Xt) (L6 (cs:=[_,_,_,_,_,_,_,_]) z.aC pl.aC (lI (by exact X5 rfl) (lI (by exact uG rfl) (lI (by exact uG rfl) (lI (by exact uG rfl) (lI (by exact uG rfl) (LZ)))))) (by rfl) (al z.aC rfl λb5=>(fA sz.aC rfl rfl rfl rfl rfl (ay rfl) (cells2:=[_,_,_,_,_,_,_,_]) rfl (OL.nil ?_)))))))
 refine AW.seq (AW.sg hE rfl (aF rfl (OL.nil (AW.block ?_))));refine AW.aY (α:=Unit) [(2,_),(3,_),(4,_),(5,_)] [(2,_),(3,_),(4,_)] (λ_u=>[(6,.d (dI 0))]) (λ_u=>[(5,.box b5 T.aC [.d (dB (fZ q).neg),.d (aH (fZ q).num),.d (aH (fZ q).den),.d (dI 0),.d (dB false),.d (dU 0),.d (.sl []),.mt])]) (λ_u=>True) (λ_u=>0) () (.cons (iw rfl) (.cons (iw rfl) (.cons (iw rfl) (.cons (iw rfl) .nil)))) (.cons (je rfl) (.cons (je rfl) (.cons (je rfl) .nil))) ⟨trivial,.dD,.cons rfl .nil⟩ ?_;intro _ _;refine AW.seq (AW.sg hE rfl (aj rfl (bC fd.Bh rfl rfl (aG ce.aW rfl rfl rfl (LP sl.aW rfl rfl rfl (bG rfl rfl rfl (OL.nil ?_)))))));refine AW.cond rfl (λhno=>absurd hno (by simp)) (λ_=>?_)
 exact AW.exit (AW.sg hE rfl (aQ ag.aC rfl rfl (vs:=[_,_,_,_,_,_,_,_]) rfl (ay rfl) (fA sz.aC rfl rfl rfl rfl rfl (ay rfl) (cells2:=[_,_,_,_,_,_,_,_]) rfl (OL.nil (AW.ret (aP.r ⟨_,.dN rfl rfl ag.aC (ay rfl) .nil,.le bf8⟩))))))
theorem U5 {p q:Rat}(hp:sz p<=68719476736)(hq:sz q<=68719476736):ai P F.BO [vW p,vW q] (.d (dB (decide (p=q)))):=by
 refine ai.intro fn.BO (by rfl) (by rfl) (ay (by rfl)) λE hE=>(AW.sg hE rfl (iO rfl rfl λb2=>(iO rfl rfl λb3=>(aF rfl (OL.nil (AW.seq (AW.sg hE rfl ?_)))))))
 refine bC fd.iC rfl rfl (aQ ag.Rat rfl rfl (vs:=[_,_,_]) rfl (ay rfl) (bC fd.iC rfl rfl (aQ ag.Rat rfl rfl (vs:=[_,_,_]) rfl (ay rfl) (bH rfl .iW (Ll hp hq) (OL.split 10 rfl (λg=>?_) (λg=>?_))))))
 .have g:=lK g;refine nt rfl (aj rfl (OL.yes rfl (bC fd.DF rfl rfl (OL.yes rfl (aG ce.int rfl rfl rfl (OL.yes rfl (bC fd.DF rfl rfl ?_)))))));refine OL.yes rfl (aG ce.int rfl rfl rfl (OL.yes rfl (eX rfl rfl (c:=false) (by exact kY (by omega)) (oI rfl rfl (aj rfl (OL.yes rfl (bC fd.Bg rfl rfl ?_)))))))
  refine OL.yes rfl (aG ce.bool rfl rfl rfl (OL.yes rfl (bC fd.Bg rfl rfl (OL.yes rfl (aG ce.bool rfl rfl rfl (OL.yes rfl (neb bt.bool rfl rfl ?_)))))));refine oI rfl rfl (aj rfl (OL.yes rfl (bC fd.DI rfl rfl (OL.yes rfl (aG ce.u64 rfl rfl rfl (OL.yes rfl (bC fd.DI rfl rfl ?_)))))));refine OL.yes rfl (aG ce.u64 rfl rfl rfl (OL.yes rfl (eX rfl rfl (c:=false) (by exact kY (by omega)) (oI rfl rfl (aj rfl (OL.yes rfl (bC fd.DJ rfl rfl ?_)))))))
  refine OL.yes rfl (aG ce.iR rfl rfl rfl (OL.yes rfl (bC fd.DJ rfl rfl (OL.yes rfl (aG ce.iR rfl rfl rfl (OL.yes rfl (bH rfl .iW (Xu) ?_)))))));refine OL.yes rfl (nt rfl (oI rfl rfl (aj rfl (OL.yes rfl (bC fd.Bh rfl rfl (OL.yes rfl (aG ce.aW rfl rfl rfl ?_)))))));refine OL.yes rfl (LP sl.aW rfl rfl rfl (OL.yes rfl (bC fd.Bh rfl rfl (OL.yes rfl (aG ce.aW rfl rfl rfl (OL.yes rfl (LP sl.aW rfl rfl rfl ?_)))))));refine OL.yes rfl (eX rfl rfl (c:=false) (kY rfl) (oI rfl rfl (OL.nil (oH rfl ?_))));refine AW.skip (AW.seq (AW.sg hE rfl (aF rfl (OL.nil (AW.block (AW.aY (α:=Unit) [(2,_),(3,_)] [(2,_),(3,_)] (λ_u=>[(5,.d (dI 0))]) (λ_u=>[]) (λ_u=>True) (λ_u=>0) () (.cons (iw rfl) (.cons (iw rfl) .nil)) (.cons (je rfl) (.cons (je rfl) .nil)) ⟨trivial,.dD,.nil⟩ ?_))))));intro _ _;refine AW.seq (AW.sg hE rfl (aj rfl (bC fd.Bh rfl rfl (aG ce.aW rfl rfl rfl (LP sl.aW rfl rfl rfl (bG rfl rfl rfl (OL.nil ?_)))))));refine AW.cond rfl (λhno=>absurd hno (by simp)) (λ_=>?_)
  exact AW.exit (AW.sg hE rfl (aF rfl (OL.nil (AW.ret (aP.r ⟨_,.tmp rfl .nil,.le (bW.bool ((decide_eq_true g).symm))⟩)))))
 .have g:=nZ g;refine nt rfl (aj rfl (OL.nd rfl (OL.nd rfl (OL.nd rfl (OL.nd rfl (OL.nd rfl (oK rfl rfl ?_)))))));refine aj rfl (OL.nd rfl (OL.nd rfl (OL.nd rfl (OL.nd rfl (OL.nd rfl (oK rfl rfl (aj rfl ?_)))))));refine OL.nd rfl (OL.nd rfl (OL.nd rfl (OL.nd rfl (OL.nd rfl (oK rfl rfl (aj rfl (OL.nd rfl ?_)))))));refine OL.nd rfl (OL.nd rfl (OL.nd rfl (OL.nd rfl (OL.nd rfl (oK rfl rfl (aj rfl (OL.nd rfl ?_)))))));refine OL.nd rfl (OL.nd rfl (OL.nd rfl (OL.nd rfl (OL.nd rfl (OL.nd rfl (oK rfl rfl (OL.nil ?_)))))));refine Hr rfl ?_;exact AW.sg hE rfl (aF rfl (OL.nil (AW.ret (aP.r ⟨_,.tmp rfl .nil,.le (bW.bool ((decide_eq_false g).symm))⟩))))
theorem aE9 {q:Rat}(hz:sz q<=68719476736):ai P F.zN [kS,vW q] (.d (dB (decide (q=0)))):=by
 refine ai.intro fn.zN (by rfl) (by rfl) (ay (by rfl)) λE hE=>(AW.sg hE rfl (iO rfl rfl λb2=>(iO rfl rfl λb3=>(aF rfl (OL.nil (AW.seq (AW.dg 1 [0,1,2,3,4] ak hE rfl (by kernel_rfl) (OI.aK (os:=[_,_,_,_,_]) rfl ?_))))))))
 exact aQ ag.aC rfl rfl (vs:=[_,_,_,_,_,_,_,_]) rfl (ay rfl) (aQ ag.Ring rfl rfl (vs:=[_,_]) rfl (ay rfl) (bH rfl .dD (U4) (bH rfl .iW (U5 hz z0K) (aF rfl (OL.nil (AW.ret (aP.r ⟨_,.tmp rfl .nil,.le vR⟩)))))))
theorem Zi {p q:Rat}(hp:sz p<=68719476736)(hq:sz q<=68719476736):ai P F.EM [kS,vW p,vW q] (vW (p+q)):=by
 refine ai.intro fn.EM (by rfl) (by rfl) (ay (by rfl)) λE hE=>(AW.sg hE rfl (iO rfl rfl λb3=>(iO rfl rfl λb4=>(iO rfl rfl λb5=>(al z.aC rfl λb6=>(OL.nil (AW.seq ?_)))))))
 refine AW.sg hE rfl (aQ ag.Ring rfl rfl (vs:=[_,_]) rfl (ay rfl) (bH rfl .dD (G5) (nt rfl (OL.nil (oH rfl ?_)))));refine AW.skip (AW.seq (AW.dg 1 [0,1,2,3,4,5,6,7] ak hE rfl (by kernel_rfl) (OI.aK (os:=[_,_,_,_,_,_,_,_]) rfl ?_)))
 refine aQ ag.Ring rfl rfl (vs:=[_,_]) rfl (ay rfl) (aQ ag.aC rfl rfl (vs:=[_,_,_,_,_,_,_,_]) rfl (ay rfl) (bH rfl vL (Lm hp) (aQ ag.Ring rfl rfl (vs:=[_,_]) rfl (ay rfl) (aQ ag.aC rfl rfl (vs:=[_,_,_,_,_,_,_,_]) rfl (ay rfl) (bH rfl vL (Lm hq) (fA sz.aC rfl rfl rfl rfl rfl (ay rfl) (cells2:=[_,_,_,_,_,_,_,_]) rfl (fA sz.aC rfl rfl rfl rfl rfl (ay rfl) (cells2:=[_,_,_,_,_,_,_,_]) rfl ?_)))))));refine OL.nil (AW.seq (AW.sg hE rfl (bC fd.lD rfl rfl (aG ce.int rfl rfl rfl (OL.nil (AW.block (AW.sg hE rfl ?_)))))));refine fG rfl rfl (c:=true) (by exact decide_eq_true (by omega)) (aF rfl (OL.nil (Hr rfl ?_)))
 refine AW.sg hE rfl (bC fd.iC rfl rfl (aQ ag.Rat rfl rfl (vs:=[_,_,_]) rfl (ay rfl) (bC fd.iC rfl rfl (aQ ag.Rat rfl rfl (vs:=[_,_,_]) rfl (ay rfl) (bH rfl vL (OV (x:=p) (y:=q) hp hq) (bd z.aC pl.aC (cs:=[_,_,_,_,_,_,_,_]) rfl (fA sz.aC rfl rfl rfl rfl rfl (ay rfl) (cells2:=[_,_,_,_,_,_,_,_]) rfl ?_)))))));exact OL.nil (AW.ret (aP.r ⟨_,.dN rfl rfl ag.aC (ay rfl) .nil,.le IC⟩))

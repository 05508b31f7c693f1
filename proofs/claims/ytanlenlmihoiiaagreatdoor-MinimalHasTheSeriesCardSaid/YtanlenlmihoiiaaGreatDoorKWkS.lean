/-
  Walks of the specification of semirings, over the rational numbers (printed by mk2.py).
-/
import Derived.Test.YtanlenlmihoiiaaGreatDoorKWkQ
set_option linter.unusedVariables false
set_option linter.unusedSimpArgs false
namespace Go.Proofs.YtanlenlmihoiiaaGreatDoor
open Go Go.AL
structure Au.Take (a:Au) (s:Nat):Prop where
 fit:Au.Fit a s
 few:a.QR
theorem br9 {a:Au}{s:Nat}(f:Au.Fit a s):∀ x,x ∈ [a]->Au.Fit x s:=λx hx=>by rw[lV hx];exact f
theorem EK {a:Au}{s:Nat}(t:Au.Take a s)(s4:s<=4):(ah [a]).Ok/\(ah [a]).Full/\(ah [a]).Sz 24/\(ah [a]).n=a.st :=
 ⟨Vz t.fit.ok,Il _,V4 (λx hx=>by rw[lV hx];exact t.few) (by rw[dN];have:=t.few.st;omega) (by show a.sym<=4;rw[t.fit.sym];exact s4),dN⟩
theorem aT3 {x y:Raw}(hx:x.Ok)(hy:y.Ok):ai P F.BV [uo x,uo y] (vQ (x.q*y.q)):=by
 have a1:=EZ hx hx.ln hx.ld (by decide)
 have a2:=EZ hy hy.ln hy.ld (by decide)
 have sn1:=lI x.q;have sn2:=lI y.q;have sd1:=lJ x.q;have sd2:=lJ y.q;have sdd:=gI x.q.den y.q.den;have dd0:=Nat.mul_ne_zero x.q.den_nz y.q.den_nz;have snn:=gI x.q.num.natAbs y.q.num.natAbs;have hp:=Tz (s:=decide (x.q.num<0)) (t:=decide (y.q.num<0)) (a:=x.q.num.natAbs) (b:=y.q.num.natAbs) (d1:=x.q.den) (d2:=y.q.den);rw[mY,mY] at hp;refine ai.intro fn.BV (by rfl) (by rfl) (au (by rfl)) λE hE=>(AW.sg hE rfl (iG rfl rfl λb2=>(iG rfl rfl λb3=>(al z.Rat rfl λb4=>(OL.nil (AW.seq (AW.dg 1 [0,1,2,3,4,5] ak hE rfl (by kernel_rfl) (OI.aP (os:=[_,_,_,_,_,_]) rfl ?_))))))))
 refine aQ ag.Rat rfl rfl (vs:=[_,_,_]) rfl (au rfl) (bP rfl .dw (wJ (by assumption)) (aQ ag.Rat rfl rfl (vs:=[_,_,_]) rfl (au rfl) (bP rfl .dw (wJ (by assumption)) (eG sz.Rat rfl rfl rfl rfl rfl (au rfl) (cells2:=[_,_,_]) rfl (eG sz.Rat rfl rfl rfl rfl rfl (au rfl) (cells2:=[_,_,_]) rfl (OL.nil (AW.seq ?_)))))))
 refine AW.dg 1 [0,1,2,3,4,5,6,7,8,9,10,11,12,13,14,15,16] ak hE rfl (by kernel_rfl) (OI.aP (os:=[_,_,_,_,_,_,_,_,_,_,_,_,_,_,_,_,_]) rfl ?_)
 refine aV fd.tN rfl rfl (aA ce.bool rfl rfl rfl (aV fd.tN rfl rfl (aA ce.bool rfl rfl rfl (neb bt.bool rfl rfl (aV fd.rU rfl rfl (aA ce.aI rfl rfl rfl (aV fd.rU rfl rfl ?_)))))));refine aA ce.aI rfl rfl rfl (bP rfl .jm (uV (a:=x.q.num.natAbs) (b:=y.q.num.natAbs) (by omega) (by omega)) (aQ ag.Rat rfl rfl (vs:=[_,_,_]) rfl (au rfl) (bP rfl .dw (Bq) (aQ ag.Rat rfl rfl (vs:=[_,_,_]) rfl (au rfl) (bP rfl .dw (Bq) (bP rfl .jm (uV (a:=x.q.den) (b:=y.q.den) (by omega) (by omega)) (bP rfl .yI (Cm (s:=(decide (x.q.num<0) != decide (y.q.num<0))) (by omega) (by omega) dd0) ?_)))))))
 rw[<- hp];exact eG sz.Rat rfl rfl rfl rfl rfl (au rfl) (cells2:=[_,_,_]) rfl (OL.nil (AW.ret (aT.r ⟨_,.dK rfl rfl ag.Rat (au rfl) .nil,.ag (.cons (.le vR) (.cons (.le vR) (.cons (.le vR) .nil)))⟩)))
theorem FU {x y:Rat}(hx:sz x<=68719476736)(hy:sz y<=68719476736):ai P F.BV [vQ x,vQ y] (vQ (x*y)):=by
 have h:=aT3 (x:=iD x) (y:=iD y) (kD (by omega)) (kD (by omega))
 rw[oK,oK] at h;exact h
theorem RP {q:Rat}(hz:sz q<=68719476736):ai P F.zX [vQ q] (vQ q):=by
 have h:=wJ (r:=iD q) (kD (by omega))
 rw[oK] at h;exact h
theorem YH {q:Rat}(hz:sz q<=68719476736):ai P F.yj [vQ q] (.d (dB true)):=by
 have h:=QO (r:=iD q) (kD (by omega))
 rw[NY] at h;exact h
theorem bf7 {q:Rat}:bV (.ag [.d (dB (iD q).neg),.d (aI (iD q).num),.d (aI (iD q).den),.d (dI 0),.d (dB false),.d (dU 0),.d (.sl []),.mt]) (vW q) :=
 bV.ag (.cons vR (.cons vR (.cons vR (.cons vR (.cons vR (.cons vR (.cons vR (.cons bV.mt .nil))))))))
theorem WL {l m:List Nat}(nl:l.length<=8796093022208)(nm:m.length<=8796093022208):ai P F.DT [.d (aI l),.d (aI m)] (.d (dB (decide (l=m)))):=by
 refine ai.intro fn.DT (by rfl) (by rfl) (au (by rfl)) λE hE=>(AW.sg hE rfl (aG rfl (OL.nil (AW.seq (AW.sg hE rfl (aj rfl (fO sl.aI rfl rfl ?_)))))))
 refine aj rfl (fO sl.aI rfl rfl (fJ rfl rfl rfl (OL.nil (AW.cond rfl (λh10=>?_) (λh10=>?_)))))
 .have hl:l.length≠m.length:=by have:=zH h10;omega
  exact AW.sg hE rfl (aG rfl (OL.nil (AW.ret (aT.r ⟨_,.tmp rfl .nil,.le (bV.bool ((decide_eq_false λe=>hl (by rw[e])).symm))⟩))))
 .have hl:l.length=m.length:=by have:=yc h10;omega
  refine AW.skip (AW.seq (AW.sg hE rfl (aG rfl (OL.nil (AW.block ?_)))));refine AW.aX (α:=Nat) [(0,_),(1,_)] [] (λi=>[(5,.d (dI i))]) (λi=>[]) (λi=>i<=l.length/\∀ j,j<i->l.getD j 0=m.getD j 0) (λi=>l.length-i) 0 (.cons (dA rfl) (.cons (dA rfl) .nil)) .nil ⟨⟨Nat.zero_le _,λj hj=>by omega⟩,.dw,.nil⟩ ?_
  rintro i ⟨h1,h2⟩
  refine AW.seq (AW.sg hE rfl (aj rfl (aj rfl (fO sl.aI rfl rfl (bD rfl rfl rfl (OL.nil (AW.cond rfl (λDp=>?_) (λDp=>?_))))))))
  .try simp only[fG] at Dp
   refine AW.skip (AW.seq (AW.block (AW.seq (AW.dg 1 [0,1,2,3,4,5,6,7,8] ak hE rfl (by kernel_rfl) (OI.aP (os:=[_,_,_,_,_,_,_,_,_]) rfl ?_)))))
   refine aj rfl (aj rfl (fD sl.aI 0 rfl rfl (by omega) rfl rfl (jb ce.u32 rfl (aj rfl (aj rfl (fD sl.aI 0 rfl rfl (by omega) rfl rfl (jb ce.u32 rfl ?_)))))))
   refine fJ rfl rfl rfl (OL.nil (AW.cond rfl (λhc=>?_) (λhc=>?_)))
   .have hc:l.getD i 0≠m.getD i 0:=by have:=zH hc;omega
    exact AW.sg hE rfl (aG rfl (OL.nil (AW.ret (aT.r ⟨_,.tmp rfl .nil,.le (bV.bool ((decide_eq_false λe=>hc (by rw[e])).symm))⟩))))
   .have hc:l.getD i 0=m.getD i 0:=by have:=yc hc;omega
    exact AW.skip (AW.rg hE rfl (aj rfl (aJ rfl rfl (by omega) (aG rfl (OL.nil (AW.again (x:=i) (i+1) (by omega) ⟨⟨by omega,λj hj=>by rcases Nat.lt_or_ge j i with h|h;exact h2 j h;obtain rfl:j=i:=(by omega);exact hc⟩,Knows.app .jm .dw,.nil⟩))))))
  .try simp only[fG] at Dp
   exact AW.exit (AW.sg hE rfl (aG rfl (OL.nil (AW.ret (aT.r ⟨_,.tmp rfl .nil,.le (bV.bool ((decide_eq_true (yO hl 0 λj hj=>h2 j (by omega))).symm))⟩)))))
theorem GI {p q:Rat}(hp:sz p<=68719476736)(hq:sz q<=68719476736):ai P F.xe [vQ p,vQ q] (.d (dB (decide (p=q)))):=by
 have sp:=TA hp;have sq:=TA hq;have l1:=sp.ln;have l2:=sp.ld;have l3:=sq.ln;have l4:=sq.ld;refine ai.intro fn.xe (by rfl) (by rfl) (au (by rfl)) λE hE=>(AW.sg hE rfl (iG rfl rfl λb2=>(iG rfl rfl λb3=>(aG rfl (OL.nil (AW.sg hE rfl (aV fd.tN rfl rfl ?_)))))))
 refine aA ce.bool rfl rfl rfl (aV fd.tN rfl rfl (aA ce.bool rfl rfl rfl (eqb bt.bool rfl rfl (OL.split 9 rfl (λg=>?_) (λg=>?_)))))
 .have g:=mX g;refine aj rfl (OL.yes rfl (aV fd.rU rfl rfl (OL.yes rfl (aA ce.aI rfl rfl rfl (OL.yes rfl (aV fd.rU rfl rfl (OL.yes rfl ?_)))))));refine aA ce.aI rfl rfl rfl (OL.yes rfl (bP rfl .jm (WL (by omega) (by omega)) (OL.split 15 rfl (λk=>?_) (λk=>?_))))
  .have k:=mX k;refine nJ rfl rfl (aj rfl (OL.yes rfl (aV fd.o9 rfl rfl (OL.yes rfl (aA ce.aI rfl rfl rfl (OL.yes rfl (aV fd.o9 rfl rfl ?_)))))));exact OL.yes rfl (aA ce.aI rfl rfl rfl (OL.yes rfl (bP rfl .jm (WL (by omega) (by omega)) (nJ rfl rfl (aG rfl (OL.nil (AW.ret (aT.r ⟨_,.tmp rfl .nil,.le (bV.bool (decide_eq_decide.2 ⟨λe=>Z4 (ax9 g k e),λe=>by rw[e]⟩))⟩))))))))
  .have k:=oN k;refine nJ rfl rfl (aj rfl (OL.nd rfl (OL.nd rfl (OL.nd rfl (OL.nd rfl (OL.nd rfl (oI rfl rfl ?_)))))));exact aG rfl (OL.nil (AW.ret (aT.r ⟨_,.tmp rfl .nil,.le (bV.bool ((decide_eq_false λe=>k (by rw[e])).symm))⟩)))
 .have g:=oN g;refine aj rfl (OL.nd rfl (OL.nd rfl (OL.nd rfl (OL.nd rfl (OL.nd rfl (oI rfl rfl (aj rfl ?_)))))));refine OL.nd rfl (OL.nd rfl (OL.nd rfl (OL.nd rfl (OL.nd rfl (oI rfl rfl (aG rfl (OL.nil ?_)))))));exact AW.ret (aT.r ⟨_,.tmp rfl .nil,.le (bV.bool ((decide_eq_false λe=>g (by rw[e])).symm))⟩)
theorem Ui  : ai P F.Bh [.d (.sl [])] (.d (dB true)):=by
 refine ai.intro fn.Bh (by rfl) (by rfl) (au (by rfl)) λE hE=>(AW.sg hE rfl (aG rfl (OL.nil (AW.seq (AW.sg hE rfl (aG rfl (OL.nil ?_)))))))
 refine AW.block (AW.aX (α:=Unit) [(0,_)] [] (λ_u=>[(3,.d (dI 0))]) (λ_u=>[]) (λ_u=>True) (λ_u=>0) () (.cons (dA rfl) .nil) .nil ⟨trivial,.dw,.nil⟩ ?_);intro _ _;refine AW.seq (AW.sg hE rfl (aj rfl (aj rfl (Lp sl.iQ rfl rfl rfl (bD rfl rfl rfl (OL.nil (AW.cond rfl (λhno=>absurd hno (by simp)) (λ_=>?_))))))))
 exact AW.exit (AW.sg hE rfl (aG rfl (OL.nil (AW.ret (aT.r ⟨_,.tmp rfl .nil,.le vR⟩)))))
theorem WM  : ai P F.Ee [.d (.sl [])] (.d (.sl [])):=by
 refine ai.intro fn.Ee (by rfl) (by rfl) (au (by rfl)) λE hE=>(AW.sg hE rfl (nI rfl (OL.nil (AW.seq (AW.sg hE rfl (aj rfl (bP rfl .dw (Ui) ?_)))))))
 refine nt rfl (OL.nil (pW rfl ?_));refine AW.skip (AW.sg hE rfl (nI rfl (OL.nil (AW.seq (AW.sg hE rfl (aG rfl (OL.nil ?_)))))));refine AW.block (AW.aX (α:=Unit) [(0,_),(2,_)] [] (λ_u=>[(3,.mt),(4,.d (dI 0))]) (λ_u=>[]) (λ_u=>True) (λ_u=>0) () (.cons (dA rfl) (.cons (BO rfl) .nil)) .nil ⟨trivial,.jm,.nil⟩ ?_);intro _ _;refine AW.seq (AW.sg hE rfl (aj rfl (aj rfl (Lp sl.iQ rfl rfl rfl (bD rfl rfl rfl (OL.nil (AW.cond rfl (λhno=>absurd hno (by simp)) (λ_=>?_))))))))
 exact AW.exit (AW.sg hE rfl (mvM rfl (nI rfl (OL.nil (AW.ret (aT.r ⟨_,.tmp rfl .nil,.le (bV.mt)⟩))))))
theorem WN  : ai P F.D5 [.d (.sl []),.d (.sl [])] (.d (dB true)):=by
 refine ai.intro fn.D5 (by rfl) (by rfl) (au (by rfl)) λE hE=>(AW.sg hE rfl (aG rfl (OL.nil (AW.seq (AW.sg hE rfl (aj rfl (Lp sl.iQ rfl rfl rfl ?_)))))))
 refine aj rfl (Lp sl.iQ rfl rfl rfl (fJ rfl rfl (c:=false) (o6 rfl) (OL.nil (pW rfl ?_))));refine AW.skip (AW.seq (AW.sg hE rfl (aG rfl (OL.nil (AW.block (AW.aX (α:=Unit) [(0,_),(1,_)] [] (λ_u=>[(5,.d (dI 0))]) (λ_u=>[]) (λ_u=>True) (λ_u=>0) () (.cons (dA rfl) (.cons (dA rfl) .nil)) .nil ⟨trivial,.dw,.nil⟩ ?_))))));intro _ _;refine AW.seq (AW.sg hE rfl (aj rfl (aj rfl (Lp sl.iQ rfl rfl rfl (bD rfl rfl rfl (OL.nil (AW.cond rfl (λhno=>absurd hno (by simp)) (λ_=>?_))))))))
 exact AW.exit (AW.sg hE rfl (aG rfl (OL.nil (AW.ret (aT.r ⟨_,.tmp rfl .nil,.le vR⟩)))))
theorem GK {n d:Int}(hn:-9223372036854775808<=n/\n<=9223372036854775807)(hd:-9223372036854775808<=d/\d<=9223372036854775807)(h0:d≠0):ai P F.Jg [.d (dI n),.d (dI d)] (vQ ((n:Rat) / (d:Rat))):=by
 refine ai.intro fn.Jg (by rfl) (by rfl) (au (by rfl)) λE hE=>(AW.sg hE rfl (al z.Rat rfl λb4=>(OL.nil (AW.sg hE rfl (aj rfl (aj rfl (bP rfl .jm (av8 hn hd h0) ?_)))))))
 refine ES rfl (ex rfl rfl (ex rfl rfl (al z.Rat rfl λb5=>(eG sz.Rat rfl rfl rfl rfl rfl (au rfl) (cells2:=[_,_,_]) rfl (aG rfl (OL.nil (AW.sg hE rfl ?_)))))));exact aQ ag.Rat rfl rfl (vs:=[_,_,_]) rfl (au rfl) (eG sz.Rat rfl rfl rfl rfl rfl (au rfl) (cells2:=[_,_,_]) rfl (OL.nil (AW.ret (aT.r ⟨_,.dK rfl rfl ag.Rat (au rfl) .nil,.ag (.cons (.le vR) (.cons (.le vR) (.cons (.le vR) .nil)))⟩))))
theorem GL  : ai P F.Bd [jG] (.d (dB true)):=by
 refine ai.intro fn.Bd (by rfl) (by rfl) (au (by rfl)) λE hE=>(AW.sg hE rfl (iG rfl rfl λb1=>(aG rfl (OL.nil (AW.seq (AW.sg hE rfl (aV fd.kK rfl rfl ?_)))))))
 refine aA ce.int rfl rfl rfl (fJ rfl rfl (c:=true) (by exact Jd (by omega)) (OL.nil (F6 rfl ?_)))
 refine AW.sg hE rfl (aV fd.kK rfl rfl (aA ce.int rfl rfl rfl (tH rfl rfl (c:=true) (by exact decide_eq_true (by omega)) (aj rfl (OL.yes rfl (aV fd.kK rfl rfl (OL.yes rfl ?_)))))))
 refine aA ce.int rfl rfl rfl (OL.yes rfl (Aw rfl rfl (c:=true) (by exact decide_eq_true (by omega)) (nJ rfl rfl (aj rfl (OL.yes rfl (aV fd.Ei rfl rfl (OL.yes rfl ?_)))))))
 refine aA ce.ints rfl rfl rfl (OL.yes rfl (Lp sl.ints rfl rfl rfl (OL.yes rfl (fE rfl rfl (c:=true) (decide_eq_true rfl) (nJ rfl rfl (aG rfl (OL.nil ?_)))))));exact AW.ret (aT.r ⟨_,.tmp rfl .nil,.le vR⟩)
theorem aC9 {q:Rat}(hz:sz q<=68719476736):ai P F.yX [.d (dI 1),vW q] (.d (dB true)):=by
 refine ai.intro fn.yX (by rfl) (by rfl) (au (by rfl)) λE hE=>(AW.sg hE rfl (iG rfl rfl λb3=>(aG rfl (OL.nil (AW.sg hE rfl (aV fd.gG rfl rfl (aQ ag.Rat rfl rfl (vs:=[_,_,_]) rfl (au rfl) ?_)))))))
 refine bd z.Rat pl.Rat (cs:=[_,_,_]) rfl (bP rfl (.cons vR (.cons (as9) .nil)) (GI hz z0K) (aG rfl (OL.nil (AW.seq (AW.sg hE rfl (aV fd.Ac rfl rfl (aA ce.aS rfl rfl rfl ?_)))))));refine Lp sl.aS rfl rfl rfl (kS rfl rfl (c:=false) (decide_eq_false (by simp)) (aj rfl (OL.yes rfl (aj rfl (OL.yes rfl (fJ rfl rfl (c:=false) (by exact o6 (by omega)) (OL.yes rfl ?_)))))))
 refine aj rfl (OL.nd rfl (OL.nd rfl (OL.yes rfl (oI rfl rfl (OL.yes rfl (aj rfl (OL.nd rfl ?_)))))));refine OL.nd rfl (OL.yes rfl (oI rfl rfl (oI rfl rfl (aj rfl (OL.yes rfl (aj rfl (OL.yes rfl ?_)))))));refine fJ rfl rfl (c:=true) (by exact Jd (by omega)) (OL.yes rfl (aj rfl (OL.yes rfl (aV fd.Aa rfl rfl (OL.yes rfl (aA ce.bool rfl rfl rfl (OL.yes rfl ?_)))))))
 refine aj rfl (OL.yes rfl (aV fd.Ce rfl rfl (OL.yes rfl (aA ce.int rfl rfl rfl (OL.yes rfl (fJ rfl rfl (c:=false) (by exact o6 (by omega)) (OL.yes rfl ?_)))))))
 refine oI rfl rfl (OL.yes rfl (nJ rfl rfl (oI rfl rfl (aj rfl (OL.yes rfl (aj rfl (OL.yes rfl ?_)))))));refine fJ rfl rfl (c:=true) (by exact Jd (by omega)) (OL.yes rfl (aj rfl (OL.yes rfl (aV fd.Cf rfl rfl (OL.yes rfl (aA ce.u64 rfl rfl rfl (OL.yes rfl ?_)))))))
 refine fJ rfl rfl (c:=false) (by exact o6 (by omega)) (OL.yes rfl (nJ rfl rfl (oI rfl rfl (aj rfl (OL.yes rfl (aj rfl (OL.yes rfl ?_)))))))
 refine fJ rfl rfl (c:=true) (by exact Jd (by omega)) (OL.yes rfl (aj rfl (OL.yes rfl (aV fd.Ci rfl rfl (OL.yes rfl (aA ce.iQ rfl rfl rfl (OL.yes rfl ?_)))))))
 refine Lp sl.iQ rfl rfl rfl (OL.yes rfl (kS rfl rfl (c:=false) (decide_eq_false (by simp)) (OL.yes rfl (nJ rfl rfl (oI rfl rfl (OL.nil (pW rfl ?_)))))))
 refine AW.skip (AW.seq (AW.sg hE rfl (aj rfl (OL.nil (AW.block (AW.sg hE rfl (fE rfl rfl (c:=true) (by exact decide_eq_true (by omega)) ?_)))))))
 refine aG rfl (OL.nil (F6 rfl ?_));exact AW.sg hE rfl (aV fd.gG rfl rfl (aQ ag.Rat rfl rfl (vs:=[_,_,_]) rfl (au rfl) (bP rfl vL (YH hz) (aG rfl (OL.nil (AW.ret (aT.r ⟨_,.tmp rfl .nil,.le vR⟩)))))))
theorem Uj {q:Rat}(hz:sz q<=68719476736):ai P F.Be [jG,vW q] (.d (dB true)):=by
 refine ai.intro fn.Be (by rfl) (by rfl) (au (by rfl)) λE hE=>(AW.sg hE rfl (iG rfl rfl λb2=>(iG rfl rfl λb3=>(aG rfl (OL.nil (AW.seq (AW.sg hE rfl ?_)))))))
 refine aQ ag.Ring rfl rfl (vs:=[_,_]) rfl (au rfl) (bP rfl .dw (GL) (nt rfl (OL.nil (pW rfl ?_))));refine AW.skip (AW.seq (AW.sg hE rfl (aV fd.kK rfl rfl (aA ce.int rfl rfl rfl (fJ rfl rfl (c:=true) (by exact Jd (by omega)) (OL.nil (F6 rfl ?_)))))))
 exact AW.sg hE rfl (aV fd.kK rfl rfl (aA ce.int rfl rfl rfl (aQ ag.ay rfl rfl (vs:=[_,_,_,_,_,_,_,_]) rfl (au rfl) (bP rfl vL (aC9 hz) (aG rfl (OL.nil (AW.ret (aT.r ⟨_,.tmp rfl .nil,.le vR⟩))))))))
theorem Uk  : ai P F.D7 [jG] (vW 0):=by
 refine ai.intro fn.D7 (by rfl) (by rfl) (au (by rfl)) λE hE=>(AW.sg hE rfl (iG rfl rfl λb1=>(al z.ay rfl λb2=>(OL.nil (AW.sg hE rfl (bd z.ay pl.ay (cs:=[_,_,_,_,_,_,_,_]) rfl (al z.ay rfl λb3=>?_)))))))
 refine eG sz.ay rfl rfl rfl rfl rfl (au rfl) (cells2:=[_,_,_,_,_,_,_,_]) rfl (OL.nil (AW.seq (AW.sg hE rfl (aQ ag.Ring rfl rfl (vs:=[_,_]) rfl (au rfl) (bP rfl .dw (GL) (nt rfl (OL.nil ?_)))))));refine pW rfl ?_;refine AW.skip (AW.sg hE rfl (aV fd.kK rfl rfl (aA ce.int rfl rfl rfl (fE rfl rfl (c:=false) (by exact decide_eq_false (by omega)) (aV fd.Aa rfl rfl (eG sz.bool rfl rfl rfl rfl rfl (au rfl) (cells2:=[_,_,_,_,_,_,_,_]) rfl (OL.nil ?_)))))))
 refine AW.seq (AW.sg hE rfl (aG rfl (OL.nil (AW.block ?_))));refine AW.aX (α:=Unit) [(1,_),(2,_),(3,_)] [(1,_),(2,_)] (λ_u=>[(4,.d (dI 0))]) (λ_u=>[(3,.box b3 T.ay [.d (dB false),.mt,.mt,.d (dI 0),.d (dB false),.d (dU 0),.mt,.mt])]) (λ_u=>True) (λ_u=>0) () (.cons (iF rfl) (.cons (iF rfl) (.cons (iF rfl) .nil))) (.cons (jc rfl) (.cons (jc rfl) .nil)) ⟨trivial,.dw,.cons rfl .nil⟩ ?_;intro _ _;refine AW.seq (AW.sg hE rfl (aj rfl (aV fd.Ei rfl rfl (aA ce.ints rfl rfl rfl (Lp sl.ints rfl rfl rfl (bD rfl rfl rfl (OL.nil ?_)))))));refine AW.cond rfl (λhno=>absurd hno (by simp)) (λ_=>?_)
 exact AW.exit (AW.sg hE rfl (aQ ag.ay rfl rfl (vs:=[_,_,_,_,_,_,_,_]) rfl (au rfl) (eG sz.ay rfl rfl rfl rfl rfl (au rfl) (cells2:=[_,_,_,_,_,_,_,_]) rfl (OL.nil (AW.ret (aT.r ⟨_,.dK rfl rfl ag.ay (au rfl) .nil,.le ax8⟩))))))
theorem bs0  : ai P F.Gn [jG] (vW 1):=by
 refine ai.intro fn.Gn (by rfl) (by rfl) (au (by rfl)) λE hE=>(AW.sg hE rfl (iG rfl rfl λb1=>(al z.ay rfl λb2=>(OL.nil (AW.sg hE rfl (bd z.ay pl.ay (cs:=[_,_,_,_,_,_,_,_]) rfl (al z.ay rfl λb3=>?_)))))))
 refine eG sz.ay rfl rfl rfl rfl rfl (au rfl) (cells2:=[_,_,_,_,_,_,_,_]) rfl (OL.nil (AW.seq (AW.sg hE rfl (aQ ag.Ring rfl rfl (vs:=[_,_]) rfl (au rfl) (bP rfl .dw (GL) (nt rfl (OL.nil ?_)))))));refine pW rfl ?_;refine AW.skip (AW.seq (AW.sg hE rfl (aV fd.kK rfl rfl (aA ce.int rfl rfl rfl (OL.nil (AW.block (AW.seq ?_)))))));refine AW.sg hE rfl (fE rfl rfl (c:=true) (by exact decide_eq_true (by omega)) (aG rfl (OL.nil (F6 rfl ?_))))
 refine AW.skip (F6 rfl ?_);refine AW.rg hE rfl (bP rfl .jm (GK (n:=1) (d:=1) (by decide) (by decide) (by decide)) ?_)
 rw[q11];refine aV fd.gG rfl rfl (eG sz.Rat rfl rfl rfl rfl rfl (au rfl) (cells2:=[_,_,_,_,_,_,_,_]) rfl (OL.nil (AW.seq (AW.sg hE rfl (aG rfl (OL.nil (AW.block ?_)))))));refine AW.aX (α:=Unit) [(1,_),(2,_),(3,_)] [(1,_),(2,_)] (λ_u=>[(4,.d (dI 0))]) (λ_u=>[(3,.box b3 T.ay [.d (dB (iD 1).neg),.d (aI (iD 1).num),.d (aI (iD 1).den),.d (dI 0),.d (dB false),.d (dU 0),.mt,.mt])]) (λ_u=>True) (λ_u=>0) () (.cons (iF rfl) (.cons (iF rfl) (.cons (iF rfl) .nil))) (.cons (jc rfl) (.cons (jc rfl) .nil)) ⟨trivial,.dw,.cons rfl .nil⟩ ?_;intro _ _;refine AW.seq (AW.sg hE rfl (aj rfl (aV fd.Ei rfl rfl (aA ce.ints rfl rfl rfl (Lp sl.ints rfl rfl rfl (bD rfl rfl rfl (OL.nil ?_)))))));refine AW.cond rfl (λhno=>absurd hno (by simp)) (λ_=>?_)
 exact AW.exit (AW.sg hE rfl (aQ ag.ay rfl rfl (vs:=[_,_,_,_,_,_,_,_]) rfl (au rfl) (eG sz.ay rfl rfl rfl rfl rfl (au rfl) (cells2:=[_,_,_,_,_,_,_,_]) rfl (OL.nil (AW.ret (aT.r ⟨_,.dK rfl rfl ag.ay (au rfl) .nil,.le FM⟩))))))
theorem KT {q:Rat}(hz:sz q<=68719476736):ai P F.Ec [jG,vW q] (vW q):=by
 refine ai.intro fn.Ec (by rfl) (by rfl) (au (by rfl)) λE hE=>(AW.sg hE rfl (iG rfl rfl λb2=>(iG rfl rfl λb3=>(al z.ay rfl λb4=>(OL.nil (AW.seq (AW.sg hE rfl ?_)))))))
 refine aQ ag.Ring rfl rfl (vs:=[_,_]) rfl (au rfl) (aQ ag.ay rfl rfl (vs:=[_,_,_,_,_,_,_,_]) rfl (au rfl) (bP rfl .jm (Uj hz) (nt rfl (OL.nil (pW rfl ?_)))));refine AW.skip (AW.seq (AW.dg 1 [0,1,2,3,4,5,6,7,8,9,10,11,12,13,14] ak hE rfl (by kernel_rfl) (OI.aP (os:=[_,_,_,_,_,_,_,_,_,_,_,_,_,_,_]) rfl ?_)))
 refine aV fd.gG rfl rfl (aQ ag.Rat rfl rfl (vs:=[_,_,_]) rfl (au rfl) (bP rfl .dw (RP hz) (aV fd.Ce rfl rfl (aA ce.int rfl rfl rfl (aV fd.Aa rfl rfl (aA ce.bool rfl rfl rfl (aV fd.Cf rfl rfl ?_)))))));refine aA ce.u64 rfl rfl rfl (aV fd.Ci rfl rfl (aA ce.iQ rfl rfl rfl (bP rfl .dw (WM) (Ko (cs:=[_,_,_,_,_,_,_,_]) z.ay pl.ay (jR (by exact U7 rfl) (jR (by exact rq rfl) (jR (by exact rq rfl) (jR (by exact rq rfl) (jR (by exact rq rfl) (J9)))))) (by rfl) (al z.ay rfl λb5=>(eG sz.ay rfl rfl rfl rfl rfl (au rfl) (cells2:=[_,_,_,_,_,_,_,_]) rfl (OL.nil ?_)))))))
 refine AW.seq (AW.sg hE rfl (aG rfl (OL.nil (AW.block ?_))));refine AW.aX (α:=Unit) [(2,_),(3,_),(4,_),(5,_)] [(2,_),(3,_),(4,_)] (λ_u=>[(6,.d (dI 0))]) (λ_u=>[(5,.box b5 T.ay [.d (dB (iD q).neg),.d (aI (iD q).num),.d (aI (iD q).den),.d (dI 0),.d (dB false),.d (dU 0),.d (.sl []),.mt])]) (λ_u=>True) (λ_u=>0) () (.cons (iF rfl) (.cons (iF rfl) (.cons (iF rfl) (.cons (iF rfl) .nil)))) (.cons (jc rfl) (.cons (jc rfl) (.cons (jc rfl) .nil))) ⟨trivial,.dw,.cons rfl .nil⟩ ?_;intro _ _;refine AW.seq (AW.sg hE rfl (aj rfl (aV fd.Ac rfl rfl (aA ce.aS rfl rfl rfl (Lp sl.aS rfl rfl rfl (bD rfl rfl rfl (OL.nil ?_)))))));refine AW.cond rfl (λhno=>absurd hno (by simp)) (λ_=>?_)
 exact AW.exit (AW.sg hE rfl (aQ ag.ay rfl rfl (vs:=[_,_,_,_,_,_,_,_]) rfl (au rfl) (eG sz.ay rfl rfl rfl rfl rfl (au rfl) (cells2:=[_,_,_,_,_,_,_,_]) rfl (OL.nil (AW.ret (aT.r ⟨_,.dK rfl rfl ag.ay (au rfl) .nil,.le bf7⟩))))))
theorem Ul {p q:Rat}(hp:sz p<=68719476736)(hq:sz q<=68719476736):ai P F.AP [vW p,vW q] (.d (dB (decide (p=q)))):=by
 refine ai.intro fn.AP (by rfl) (by rfl) (au (by rfl)) λE hE=>(AW.sg hE rfl (iG rfl rfl λb2=>(iG rfl rfl λb3=>(aG rfl (OL.nil (AW.seq (AW.sg hE rfl ?_)))))))
 refine aV fd.gG rfl rfl (aQ ag.Rat rfl rfl (vs:=[_,_,_]) rfl (au rfl) (aV fd.gG rfl rfl (aQ ag.Rat rfl rfl (vs:=[_,_,_]) rfl (au rfl) (bP rfl .jm (GI hp hq) (OL.split 10 rfl (λg=>?_) (λg=>?_))))))
 .have g:=mX g;refine nt rfl (aj rfl (OL.yes rfl (aV fd.Ce rfl rfl (OL.yes rfl (aA ce.int rfl rfl rfl (OL.yes rfl (aV fd.Ce rfl rfl ?_)))))));refine OL.yes rfl (aA ce.int rfl rfl rfl (OL.yes rfl (fJ rfl rfl (c:=false) (by exact o6 (by omega)) (oI rfl rfl (aj rfl (OL.yes rfl (aV fd.Aa rfl rfl ?_)))))))
  refine OL.yes rfl (aA ce.bool rfl rfl rfl (OL.yes rfl (aV fd.Aa rfl rfl (OL.yes rfl (aA ce.bool rfl rfl rfl (OL.yes rfl (neb bt.bool rfl rfl ?_)))))));refine oI rfl rfl (aj rfl (OL.yes rfl (aV fd.Cf rfl rfl (OL.yes rfl (aA ce.u64 rfl rfl rfl (OL.yes rfl (aV fd.Cf rfl rfl ?_)))))));refine OL.yes rfl (aA ce.u64 rfl rfl rfl (OL.yes rfl (fJ rfl rfl (c:=false) (by exact o6 (by omega)) (oI rfl rfl (aj rfl (OL.yes rfl (aV fd.Ci rfl rfl ?_)))))))
  refine OL.yes rfl (aA ce.iQ rfl rfl rfl (OL.yes rfl (aV fd.Ci rfl rfl (OL.yes rfl (aA ce.iQ rfl rfl rfl (OL.yes rfl (bP rfl .jm (WN) ?_)))))));refine OL.yes rfl (nt rfl (oI rfl rfl (aj rfl (OL.yes rfl (aV fd.Ac rfl rfl (OL.yes rfl (aA ce.aS rfl rfl rfl ?_)))))));refine OL.yes rfl (Lp sl.aS rfl rfl rfl (OL.yes rfl (aV fd.Ac rfl rfl (OL.yes rfl (aA ce.aS rfl rfl rfl (OL.yes rfl (Lp sl.aS rfl rfl rfl ?_)))))));refine OL.yes rfl (fJ rfl rfl (c:=false) (o6 rfl) (oI rfl rfl (OL.nil (pW rfl ?_))));refine AW.skip (AW.seq (AW.sg hE rfl (aG rfl (OL.nil (AW.block (AW.aX (α:=Unit) [(2,_),(3,_)] [(2,_),(3,_)] (λ_u=>[(5,.d (dI 0))]) (λ_u=>[]) (λ_u=>True) (λ_u=>0) () (.cons (iF rfl) (.cons (iF rfl) .nil)) (.cons (jc rfl) (.cons (jc rfl) .nil)) ⟨trivial,.dw,.nil⟩ ?_))))));intro _ _;refine AW.seq (AW.sg hE rfl (aj rfl (aV fd.Ac rfl rfl (aA ce.aS rfl rfl rfl (Lp sl.aS rfl rfl rfl (bD rfl rfl rfl (OL.nil ?_)))))));refine AW.cond rfl (λhno=>absurd hno (by simp)) (λ_=>?_)
  exact AW.exit (AW.sg hE rfl (aG rfl (OL.nil (AW.ret (aT.r ⟨_,.tmp rfl .nil,.le (bV.bool ((decide_eq_true g).symm))⟩)))))
 .have g:=oN g;refine nt rfl (aj rfl (OL.nd rfl (OL.nd rfl (OL.nd rfl (OL.nd rfl (OL.nd rfl (nJ rfl rfl ?_)))))));refine aj rfl (OL.nd rfl (OL.nd rfl (OL.nd rfl (OL.nd rfl (OL.nd rfl (nJ rfl rfl (aj rfl ?_)))))));refine OL.nd rfl (OL.nd rfl (OL.nd rfl (OL.nd rfl (OL.nd rfl (nJ rfl rfl (aj rfl (OL.nd rfl ?_)))))));refine OL.nd rfl (OL.nd rfl (OL.nd rfl (OL.nd rfl (OL.nd rfl (nJ rfl rfl (aj rfl (OL.nd rfl ?_)))))));refine OL.nd rfl (OL.nd rfl (OL.nd rfl (OL.nd rfl (OL.nd rfl (OL.nd rfl (nJ rfl rfl (OL.nil ?_)))))));refine F6 rfl ?_;exact AW.sg hE rfl (aG rfl (OL.nil (AW.ret (aT.r ⟨_,.tmp rfl .nil,.le (bV.bool ((decide_eq_false g).symm))⟩))))
theorem aD0 {q:Rat}(hz:sz q<=68719476736):ai P F.yV [jG,vW q] (.d (dB (decide (q=0)))):=by
 refine ai.intro fn.yV (by rfl) (by rfl) (au (by rfl)) λE hE=>(AW.sg hE rfl (iG rfl rfl λb2=>(iG rfl rfl λb3=>(aG rfl (OL.nil (AW.seq (AW.dg 1 [0,1,2,3,4] ak hE rfl (by kernel_rfl) (OI.aP (os:=[_,_,_,_,_]) rfl ?_))))))))
 exact aQ ag.ay rfl rfl (vs:=[_,_,_,_,_,_,_,_]) rfl (au rfl) (aQ ag.Ring rfl rfl (vs:=[_,_]) rfl (au rfl) (bP rfl .dw (Uk) (bP rfl .jm (Ul hz z0K) (aG rfl (OL.nil (AW.ret (aT.r ⟨_,.tmp rfl .nil,.le vR⟩)))))))
theorem YI {p q:Rat}(hp:sz p<=68719476736)(hq:sz q<=68719476736):ai P F.D8 [jG,vW p,vW q] (vW (p+q)):=by
 refine ai.intro fn.D8 (by rfl) (by rfl) (au (by rfl)) λE hE=>(AW.sg hE rfl (iG rfl rfl λb3=>(iG rfl rfl λb4=>(iG rfl rfl λb5=>(al z.ay rfl λb6=>(OL.nil (AW.seq ?_)))))))
 refine AW.sg hE rfl (aQ ag.Ring rfl rfl (vs:=[_,_]) rfl (au rfl) (bP rfl .dw (GL) (nt rfl (OL.nil (pW rfl ?_)))));refine AW.skip (AW.seq (AW.dg 1 [0,1,2,3,4,5,6,7] ak hE rfl (by kernel_rfl) (OI.aP (os:=[_,_,_,_,_,_,_,_]) rfl ?_)))
 refine aQ ag.Ring rfl rfl (vs:=[_,_]) rfl (au rfl) (aQ ag.ay rfl rfl (vs:=[_,_,_,_,_,_,_,_]) rfl (au rfl) (bP rfl vL (KT hp) (aQ ag.Ring rfl rfl (vs:=[_,_]) rfl (au rfl) (aQ ag.ay rfl rfl (vs:=[_,_,_,_,_,_,_,_]) rfl (au rfl) (bP rfl vL (KT hq) (eG sz.ay rfl rfl rfl rfl rfl (au rfl) (cells2:=[_,_,_,_,_,_,_,_]) rfl (eG sz.ay rfl rfl rfl rfl rfl (au rfl) (cells2:=[_,_,_,_,_,_,_,_]) rfl ?_)))))));refine OL.nil (AW.seq (AW.sg hE rfl (aV fd.kK rfl rfl (aA ce.int rfl rfl rfl (OL.nil (AW.block (AW.sg hE rfl ?_)))))));refine fE rfl rfl (c:=true) (by exact decide_eq_true (by omega)) (aG rfl (OL.nil (F6 rfl ?_)))
 refine AW.sg hE rfl (aV fd.gG rfl rfl (aQ ag.Rat rfl rfl (vs:=[_,_,_]) rfl (au rfl) (aV fd.gG rfl rfl (aQ ag.Rat rfl rfl (vs:=[_,_,_]) rfl (au rfl) (bP rfl vL (Oj (x:=p) (y:=q) hp hq) (bd z.ay pl.ay (cs:=[_,_,_,_,_,_,_,_]) rfl (eG sz.ay rfl rfl rfl rfl rfl (au rfl) (cells2:=[_,_,_,_,_,_,_,_]) rfl ?_)))))));exact OL.nil (AW.ret (aT.r ⟨_,.dK rfl rfl ag.ay (au rfl) .nil,.le FM⟩))

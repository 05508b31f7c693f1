/-
  Walks of package semiring, over the rational numbers, part 2 (printed by mk2.py).
-/
import Derived.Test.YtanlenlmihoiiaaGreatDoorKMod82
set_option linter.unusedVariables false
set_option linter.unusedSimpArgs false
namespace Go.Proofs.YtanlenlmihoiiaaGreatDoor
open Go Go.AL
theorem Z4 {p q:Rat}(h:iD p=iD q):p=q:=by rw[<- oK p,h,oK]
theorem ax9 {r s:Raw}(h1:r.neg=s.neg)(h2:r.num=s.num)(h3:r.den=s.den):r=s:=by cases r;cases s;simp_all
theorem Q7 {l m:List Nat}(nl:l.length<=8796093022208)(nm:m.length<=8796093022208):ai P F.jq [.d (aI l),.d (aI m)] (.d (dB (decide (l=m)))):=by
 refine ai.intro fn.jq (by rfl) (by rfl) (au (by rfl)) λE hE=>(AW.sg hE rfl (aG rfl (OL.nil (AW.seq (AW.sg hE rfl (aj rfl (fO sl.aI rfl rfl ?_)))))))
 refine aj rfl (fO sl.aI rfl rfl (fJ rfl rfl rfl (OL.nil (AW.cond rfl (λh10=>?_) (λh10=>?_)))))
 .have hl:l.length≠m.length:=by have:=zH h10;omega
  exact AW.sg hE rfl (aG rfl (OL.nil (AW.ret (aT.r ⟨_,.tmp rfl .nil,.le (bV.bool ((decide_eq_false λe=>hl (by rw[e])).symm))⟩))))
 .have hl:l.length=m.length:=by have:=yc h10;omega
  refine AW.skip (AW.seq (AW.sg hE rfl (aj rfl (fO sl.aI rfl rfl (aj rfl (OL.nil (AW.block ?_)))))));refine AW.aX (α:=Nat) [(0,_),(1,_),(12,_)] [] (λi=>[(13,.d (dI i))]) (λi=>[]) (λi=>i<=l.length/\∀ j,j<i->l.getD j 0=m.getD j 0) (λi=>l.length-i) 0 (.cons (dA rfl) (.cons (dA rfl) (.cons (dA rfl) .nil))) .nil ⟨⟨Nat.zero_le _,λj hj=>by omega⟩,.dw,.nil⟩ ?_
  rintro i ⟨h1,h2⟩
  refine AW.sg hE rfl (bD rfl rfl rfl (OL.nil (AW.seq (AW.cond rfl (λDp=>?_) (λDp=>?_)))))
  .try simp only[fG] at Dp
   refine AW.skip (AW.seq (AW.block (AW.sg hE rfl (aj rfl (aG rfl (OL.nil (AW.seq ?_)))))));refine AW.dg 1 [0,1,2,3,4,5,6,7,8] ak hE rfl (by kernel_rfl) (OI.aP (os:=[_,_,_,_,_,_,_,_,_]) rfl ?_)
   refine aj rfl (aj rfl (fD sl.aI 0 rfl rfl (by omega) rfl rfl (jb ce.u32 rfl (aj rfl (aj rfl (fD sl.aI 0 rfl rfl (by omega) rfl rfl (jb ce.u32 rfl ?_)))))))
   refine fJ rfl rfl rfl (OL.nil (AW.cond rfl (λhc=>?_) (λhc=>?_)))
   .have hc:l.getD i 0≠m.getD i 0:=by have:=zH hc;omega
    exact AW.sg hE rfl (aG rfl (OL.nil (AW.ret (aT.r ⟨_,.tmp rfl .nil,.le (bV.bool ((decide_eq_false λe=>hc (by rw[e])).symm))⟩))))
   .have hc:l.getD i 0=m.getD i 0:=by have:=yc hc;omega
    refine AW.skip (AW.rg hE rfl (aJ rfl rfl (by omega) (aj rfl (OL.nil ?_))))
    exact AW.again (x:=i) (i+1) (by omega) ⟨⟨by omega,λj hj=>by rcases Nat.lt_or_ge j i with h|h;exact h2 j h;obtain rfl:j=i:=(by omega);exact hc⟩,Knows.app .yI .dw,.nil⟩
  .try simp only[fG] at Dp
   exact AW.exit (AW.sg hE rfl (aG rfl (OL.nil (AW.ret (aT.r ⟨_,.tmp rfl .nil,.le (bV.bool ((decide_eq_true (yO hl 0 λj hj=>h2 j (by omega))).symm))⟩)))))
theorem aP2 {p q:Rat}(hp:sz p<=68719476736)(hq:sz q<=68719476736):ai P F.sU [vQ p,vQ q] (.d (dB (decide (p=q)))):=by
 have sp:=TA hp;have sq:=TA hq;have l1:=sp.ln;have l2:=sp.ld;have l3:=sq.ln;have l4:=sq.ld;refine ai.intro fn.sU (by rfl) (by rfl) (au (by rfl)) λE hE=>(AW.sg hE rfl (iG rfl rfl λb2=>(iG rfl rfl λb3=>(aG rfl (OL.nil (AW.sg hE rfl (aV fd.tN rfl rfl ?_)))))))
 refine aA ce.bool rfl rfl rfl (aV fd.tN rfl rfl (aA ce.bool rfl rfl rfl (eqb bt.bool rfl rfl (OL.split 9 rfl (λg=>?_) (λg=>?_)))))
 .have g:=mX g;refine aj rfl (OL.yes rfl (aV fd.rU rfl rfl (OL.yes rfl (aA ce.aI rfl rfl rfl (OL.yes rfl (aV fd.rU rfl rfl (OL.yes rfl ?_)))))));refine aA ce.aI rfl rfl rfl (OL.yes rfl (bP rfl .jm (Q7 (by omega) (by omega)) (OL.split 15 rfl (λk=>?_) (λk=>?_))))
  .have k:=mX k;refine nJ rfl rfl (aj rfl (OL.yes rfl (aV fd.o9 rfl rfl (OL.yes rfl (aA ce.aI rfl rfl rfl (OL.yes rfl (aV fd.o9 rfl rfl ?_)))))));exact OL.yes rfl (aA ce.aI rfl rfl rfl (OL.yes rfl (bP rfl .jm (Q7 (by omega) (by omega)) (nJ rfl rfl (aG rfl (OL.nil (AW.ret (aT.r ⟨_,.tmp rfl .nil,.le (bV.bool (decide_eq_decide.2 ⟨λe=>Z4 (ax9 g k e),λe=>by rw[e]⟩))⟩))))))))
  .have k:=oN k;refine nJ rfl rfl (aj rfl (OL.nd rfl (OL.nd rfl (OL.nd rfl (OL.nd rfl (OL.nd rfl (oI rfl rfl ?_)))))));exact aG rfl (OL.nil (AW.ret (aT.r ⟨_,.tmp rfl .nil,.le (bV.bool ((decide_eq_false λe=>k (by rw[e])).symm))⟩)))
 .have g:=oN g;refine aj rfl (OL.nd rfl (OL.nd rfl (OL.nd rfl (OL.nd rfl (OL.nd rfl (oI rfl rfl (aj rfl ?_)))))));refine OL.nd rfl (OL.nd rfl (OL.nd rfl (OL.nd rfl (OL.nd rfl (oI rfl rfl (aG rfl (OL.nil ?_)))))));exact AW.ret (aT.r ⟨_,.tmp rfl .nil,.le (bV.bool ((decide_eq_false λe=>g (by rw[e])).symm))⟩)
theorem KF {f:Nat}:ai P F.dH [.d (.sl []),.d (.sl []),.fn f []] (.d (dB true)):=by
 refine ai.intro fn.dH (by rfl) (by rfl) (au (by rfl)) λE hE=>(AW.sg hE rfl (aG rfl (OL.nil (AW.seq (AW.sg hE rfl (aj rfl (Lp sl.iQ rfl rfl rfl ?_)))))))
 refine aj rfl (Lp sl.iQ rfl rfl rfl (fJ rfl rfl (c:=false) (o6 rfl) (OL.nil (pW rfl ?_))));refine AW.skip (AW.seq (AW.sg hE rfl (aj rfl (Lp sl.iQ rfl rfl rfl (aj rfl (OL.nil (AW.block ?_)))))));refine AW.aX (α:=Unit) [(1,_),(2,_),(15,_),(16,_)] [] (λ_u=>[(17,.d (dI 0))]) (λ_u=>[]) (λ_u=>True) (λ_u=>0) () (.cons (dA rfl) (.cons (N7 rfl) (.cons (dA rfl) (.cons (dA rfl) .nil)))) .nil ⟨trivial,.dw,.nil⟩ ?_;intro _ _;refine AW.sg hE rfl (bD rfl rfl rfl (OL.nil (AW.seq (AW.cond rfl (λhno=>absurd hno (by simp)) (λ_=>?_)))))
 exact AW.exit (AW.sg hE rfl (aG rfl (OL.nil (AW.ret (aT.r ⟨_,.tmp rfl .nil,.le vR⟩)))))
theorem OV {f:Nat}:ai P F.dY [.d (.sl []),.d (.sl []),.fn f []] (.d (dB true)):=by
 refine ai.intro fn.dY (by rfl) (by rfl) (au (by rfl)) λE hE=>(AW.sg hE rfl (aG rfl (OL.nil (AW.seq (AW.sg hE rfl (aj rfl (Lp sl.aS rfl rfl rfl ?_)))))))
 refine aj rfl (Lp sl.aS rfl rfl rfl (fJ rfl rfl (c:=false) (o6 rfl) (OL.nil (pW rfl ?_))));refine AW.skip (AW.seq (AW.sg hE rfl (aj rfl (Lp sl.aS rfl rfl rfl (aj rfl (OL.nil (AW.block ?_)))))));refine AW.aX (α:=Unit) [(1,_),(2,_),(15,_),(16,_)] [] (λ_u=>[(17,.d (dI 0))]) (λ_u=>[]) (λ_u=>True) (λ_u=>0) () (.cons (dA rfl) (.cons (N7 rfl) (.cons (dA rfl) (.cons (dA rfl) .nil)))) .nil ⟨trivial,.dw,.nil⟩ ?_;intro _ _;refine AW.sg hE rfl (bD rfl rfl rfl (OL.nil (AW.seq (AW.cond rfl (λhno=>absurd hno (by simp)) (λ_=>?_)))))
 exact AW.exit (AW.sg hE rfl (aG rfl (OL.nil (AW.ret (aT.r ⟨_,.tmp rfl .nil,.le vR⟩)))))
theorem ay0 {p q:Rat}(hp:sz p<=68719476736)(hq:sz q<=68719476736):ai P F.wF [vW p,vW q] (.d (dB (decide (p=q)))):=by
 refine ai.intro fn.wF (by rfl) (by rfl) (au (by rfl)) λE hE=>(AW.sg hE rfl (iG rfl rfl λb2=>(iG rfl rfl λb3=>(aG rfl (OL.nil (AW.sg hE rfl (asF rfl ?_)))))))
 refine OL.nil (AW.sg hE rfl (aV fd.gG rfl rfl (aQ ag.Rat rfl rfl (vs:=[_,_,_]) rfl (au rfl) (aV fd.gG rfl rfl (aQ ag.Rat rfl rfl (vs:=[_,_,_]) rfl (au rfl) (bP rfl .jm (aP2 hp hq) (OL.split 10 rfl (λg=>?_) (λg=>?_))))))))
 .have g:=mX g;refine aj rfl (OL.yes rfl (aV fd.Ce rfl rfl (OL.yes rfl (aA ce.int rfl rfl rfl (OL.yes rfl (aV fd.Ce rfl rfl (OL.yes rfl ?_)))))));refine aA ce.int rfl rfl rfl (OL.yes rfl (fE rfl rfl (c:=true) (decide_eq_true rfl) (nJ rfl rfl (aj rfl (OL.yes rfl (aV fd.Aa rfl rfl (OL.yes rfl ?_)))))));refine aA ce.bool rfl rfl rfl (OL.yes rfl (aV fd.Aa rfl rfl (OL.yes rfl (aA ce.bool rfl rfl rfl (OL.yes rfl (eqb bt.bool rfl rfl (nJ rfl rfl ?_)))))));refine aj rfl (OL.yes rfl (aV fd.Cf rfl rfl (OL.yes rfl (aA ce.u64 rfl rfl rfl (OL.yes rfl (aV fd.Cf rfl rfl (OL.yes rfl ?_)))))));refine aA ce.u64 rfl rfl rfl (OL.yes rfl (fE rfl rfl (c:=true) (decide_eq_true rfl) (nJ rfl rfl (aj rfl (OL.yes rfl (aV fd.Ci rfl rfl (OL.yes rfl ?_)))))));refine aA ce.iQ rfl rfl rfl (OL.yes rfl (aV fd.Ci rfl rfl (OL.yes rfl (aA ce.iQ rfl rfl rfl (OL.yes rfl (Qv rfl (OL.yes rfl ?_)))))));refine bP rfl .yI (KF) (nJ rfl rfl (aj rfl (OL.yes rfl (aV fd.Ac rfl rfl (OL.yes rfl (aA ce.aS rfl rfl rfl (OL.yes rfl ?_)))))));refine aV fd.Ac rfl rfl (OL.yes rfl (aA ce.aS rfl rfl rfl (OL.yes rfl (bP rfl .yI (OV) (nJ rfl rfl (aG rfl (OL.nil ?_)))))));exact AW.ret (aT.r ⟨_,.tmp rfl .nil,.le (bV.bool ((decide_eq_true g).symm))⟩)
 .have g:=oN g;refine aj rfl (OL.nd rfl (OL.nd rfl (OL.nd rfl (OL.nd rfl (OL.nd rfl (oI rfl rfl (aj rfl ?_)))))));refine OL.nd rfl (OL.nd rfl (OL.nd rfl (OL.nd rfl (OL.nd rfl (oI rfl rfl (aj rfl (OL.nd rfl ?_)))))));refine OL.nd rfl (OL.nd rfl (OL.nd rfl (OL.nd rfl (oI rfl rfl (aj rfl (OL.nd rfl (OL.nd rfl ?_)))))));refine OL.nd rfl (OL.nd rfl (OL.nd rfl (OL.nd rfl (oI rfl rfl (aj rfl (OL.nd rfl (OL.nd rfl ?_)))))));exact OL.nd rfl (OL.nd rfl (OL.nd rfl (oI rfl rfl (aG rfl (OL.nil (AW.ret (aT.r ⟨_,.tmp rfl .nil,.le (bV.bool ((decide_eq_false g).symm))⟩)))))))
abbrev bo7:V:=.ag [.fn F.kG [],.fn F.kH [],.fn F.rO [],.fn F.kJ [],.fn F.rP [],.fn F.wI [],.fn F.zZ [],.fn F.rQ [],.fn F.uh []]
theorem rationals  : ai P F.qB [] (bo7):=by
 refine ai.intro fn.qB (by rfl) (by rfl) (au (by rfl)) λE hE=>(AW.sg hE rfl (al z.algebra rfl λb0=>(OL.nil (AW.sg hE rfl ?_))))
 refine Ko (cs:=[_,_,_,_,_,_,_,_,_]) z.algebra pl.algebra (jR (by exact evF rfl) (jR (by exact evF rfl) (jR (by exact evF rfl) (jR (by exact evF rfl) (jR (by exact evF rfl) (jR (by exact evF rfl) (jR (by exact evF rfl) (jR (by exact evF rfl) (jR (by exact evF rfl) (J9)))))))))) (by rfl) ?_
 refine eG sz.algebra rfl rfl rfl rfl rfl (au rfl) (cells2:=[_,_,_,_,_,_,_,_,_]) rfl (OL.nil ?_);exact AW.ret (aT.r ⟨_,.dK rfl rfl ag.algebra (au rfl) .nil,.ag (.cons (.le vR) (.cons (.le vR) (.cons (.le vR) (.cons (.le vR) (.cons (.le vR) (.cons (.le vR) (.cons (.le vR) (.cons (.le vR) (.cons (.le vR) .nil)))))))))⟩)
theorem ay1  : ai P F.xQ [.d (dI 1)] (bo7):=by
 refine ai.intro fn.xQ (by rfl) (by rfl) (au (by rfl)) λE hE=>(AW.sg hE rfl (al z.algebra rfl λb2=>(OL.nil (AW.seq (AW.sg hE rfl (aj rfl (OL.nil ?_)))))))
 refine AW.block (AW.sg hE rfl (fE rfl rfl (c:=true) (by exact decide_eq_true (by omega)) (aG rfl (OL.nil (F6 rfl ?_)))))
 refine AW.sg hE rfl (bP rfl (.nil) (rationals) (eG sz.algebra rfl rfl rfl rfl rfl (au rfl) (cells2:=[_,_,_,_,_,_,_,_,_]) rfl (OL.nil ?_)));exact AW.ret (aT.r ⟨_,.dK rfl rfl ag.algebra (au rfl) .nil,.ag (.cons (.le vR) (.cons (.le vR) (.cons (.le vR) (.cons (.le vR) (.cons (.le vR) (.cons (.le vR) (.cons (.le vR) (.cons (.le vR) (.cons (.le vR) .nil)))))))))⟩)
theorem aP3  : ai P F.uK [.d (dI 1)] (.d (dB true)):=by
 refine ai.intro fn.uK (by rfl) (by rfl) (au (by rfl)) λE hE=>(AW.sg hE rfl (aG rfl (OL.nil (AW.sg hE rfl (aj rfl (tH rfl rfl (c:=true) (by exact decide_eq_true (by omega)) (aj rfl ?_)))))))
 exact OL.yes rfl (aj rfl (OL.yes rfl (Aw rfl rfl (c:=true) (by exact decide_eq_true (by omega)) (nJ rfl rfl (aG rfl (OL.nil (AW.ret (aT.r ⟨_,.tmp rfl .nil,.le vR⟩))))))))
theorem TV  : ai P F.wB [jG] (.d (dB true)):=by
 refine ai.intro fn.wB (by rfl) (by rfl) (au (by rfl)) λE hE=>(AW.sg hE rfl (iG rfl rfl λb1=>(aG rfl (OL.nil (AW.seq (AW.sg hE rfl (aV fd.kK rfl rfl ?_)))))))
 refine aA ce.int rfl rfl rfl (fJ rfl rfl (c:=true) (by exact Jd (by omega)) (OL.nil (F6 rfl ?_)))
 refine AW.sg hE rfl (aV fd.kK rfl rfl (aA ce.int rfl rfl rfl (bP rfl .dw (aP3) (aj rfl (OL.yes rfl (aV fd.Ei rfl rfl (OL.yes rfl ?_)))))));refine aA ce.ints rfl rfl rfl (OL.yes rfl (Lp sl.ints rfl rfl rfl (OL.yes rfl (fE rfl rfl (c:=true) (decide_eq_true rfl) (nJ rfl rfl (aG rfl (OL.nil ?_)))))));exact AW.ret (aT.r ⟨_,.tmp rfl .nil,.le vR⟩)
theorem bd1 {q:Rat}(hz:sz q<=68719476736):ai P F.kG [vW q] (.d (dB true)):=by
 refine ai.intro fn.kG (by rfl) (by rfl) (au (by rfl)) λE hE=>(AW.sg hE rfl (iG rfl rfl λb1=>(aG rfl (OL.nil (AW.sg hE rfl (aV fd.gG rfl rfl (aQ ag.Rat rfl rfl (vs:=[_,_,_]) rfl (au rfl) ?_)))))))
 refine bP rfl .dw (MH (by omega)) (aj rfl (OL.yes rfl (aQ ag.ay rfl rfl (vs:=[_,_,_,_,_,_,_,_]) rfl (au rfl) (OL.yes rfl (aV fd.gG rfl rfl (OL.yes rfl (aQ ag.Rat rfl rfl (vs:=[_,_,_]) rfl (au rfl) ?_)))))))
 exact OL.yes rfl (bd z.ay pl.ay (cs:=[_,_,_,_,_,_,_,_]) rfl (OL.yes rfl (bP rfl (.cons vR (.cons (FM) .nil)) (ay0 hz hz) (nJ rfl rfl (aG rfl (OL.nil (AW.ret (aT.r ⟨_,.tmp rfl .nil,.le (bV.bool (decide_eq_true rfl))⟩))))))))
theorem bo8  : ai P F.kH [] (vW 0):=by
 refine ai.intro fn.kH (by rfl) (by rfl) (au (by rfl)) λE hE=>(AW.sg hE rfl (al z.ay rfl λb0=>(OL.nil (AW.sg hE rfl (bd z.ay pl.ay (cs:=[_,_,_,_,_,_,_,_]) rfl (eG sz.ay rfl rfl rfl rfl rfl (au rfl) (cells2:=[_,_,_,_,_,_,_,_]) rfl (OL.nil ?_)))))))
 exact AW.ret (aT.r ⟨_,.dK rfl rfl ag.ay (au rfl) .nil,.le ax8⟩)
theorem bo9 {p q:Rat}(hp:sz p<=68719476736)(hq:sz q<=68719476736):ai P F.kJ [vW p,vW q] (vW (p+q)):=by
 refine ai.intro fn.kJ (by rfl) (by rfl) (au (by rfl)) λE hE=>(AW.sg hE rfl (iG rfl rfl λb2=>(iG rfl rfl λb3=>(al z.ay rfl λb4=>(OL.nil (AW.sg hE rfl (aV fd.gG rfl rfl ?_)))))))
 exact aQ ag.Rat rfl rfl (vs:=[_,_,_]) rfl (au rfl) (aV fd.gG rfl rfl (aQ ag.Rat rfl rfl (vs:=[_,_,_]) rfl (au rfl) (bP rfl .jm (uw (by assumption) (by assumption)) (bd z.ay pl.ay (cs:=[_,_,_,_,_,_,_,_]) rfl (eG sz.ay rfl rfl rfl rfl rfl (au rfl) (cells2:=[_,_,_,_,_,_,_,_]) rfl (OL.nil (AW.ret (aT.r ⟨_,.dK rfl rfl ag.ay (au rfl) .nil,.le FM⟩))))))))
theorem Ye {q:Rat}(hz:sz q<=68719476736):ai P F.wH [jG,vW q] (.d (dB true)):=by
 refine ai.intro fn.wH (by rfl) (by rfl) (au (by rfl)) λE hE=>(AW.sg hE rfl (iG rfl rfl λb2=>(iG rfl rfl λb3=>(aG rfl (OL.nil (AW.seq (AW.sg hE rfl ?_)))))))
 refine aQ ag.Ring rfl rfl (vs:=[_,_]) rfl (au rfl) (bP rfl .dw (TV) (nt rfl (OL.nil (pW rfl ?_))));refine AW.skip (AW.seq (AW.sg hE rfl (aV fd.kK rfl rfl (aA ce.int rfl rfl rfl (fJ rfl rfl (c:=true) (by exact Jd (by omega)) (OL.nil (F6 rfl ?_)))))))
 refine AW.seq (AW.dg 1 [0,1,2,3,4,5,6] ak hE rfl (by kernel_rfl) (OI.aP (os:=[_,_,_,_,_,_,_]) rfl ?_))
 refine aV fd.kK rfl rfl (aA ce.int rfl rfl rfl (bP rfl .dw (ay1) (fdC fc.QK rfl rfl (aQ ag.ay rfl rfl (vs:=[_,_,_,_,_,_,_,_]) rfl (au rfl) (bP rfl vL (bd1 hz) (aG rfl (OL.nil ?_)))))));exact AW.ret (aT.r ⟨_,.tmp rfl .nil,.le vR⟩)
theorem Z5  : ai P F.xN [jG] (vW 0):=by
 refine ai.intro fn.xN (by rfl) (by rfl) (au (by rfl)) λE hE=>(AW.sg hE rfl (iG rfl rfl λb1=>(al z.ay rfl λb2=>(OL.nil (AW.seq (AW.block (AW.sg hE rfl ?_)))))))
 refine aQ ag.Ring rfl rfl (vs:=[_,_]) rfl (au rfl) (bP rfl .dw (TV) (nt rfl (aG rfl (OL.nil (pW rfl ?_)))));refine AW.sg hE rfl (aV fd.kK rfl rfl (aA ce.int rfl rfl rfl (fJ rfl rfl (c:=true) (by exact Jd (by omega)) (aG rfl (OL.nil (F6 rfl ?_))))))
 refine AW.sg hE rfl (aV fd.kK rfl rfl (aA ce.int rfl rfl rfl (bP rfl .dw (ay1) (fdC fc.QL rfl rfl (bP rfl (.nil) (bo8) (eG sz.ay rfl rfl rfl rfl rfl (au rfl) (cells2:=[_,_,_,_,_,_,_,_]) rfl (OL.nil ?_)))))));exact AW.ret (aT.r ⟨_,.dK rfl rfl ag.ay (au rfl) .nil,.ag (.cons (.le vR) (.cons (.le vR) (.cons (.le vR) (.cons (.le vR) (.cons (.le vR) (.cons (.le vR) (.cons (.le vR) (.cons (.le vR) .nil))))))))⟩)
theorem valueR {q:Rat}(hz:sz q<=68719476736):ai P F.wE [jG,vW q] (vW q):=by
 refine ai.intro fn.wE (by rfl) (by rfl) (au (by rfl)) λE hE=>(AW.sg hE rfl (iG rfl rfl λb2=>(iG rfl rfl λb3=>(al z.ay rfl λb4=>(OL.nil (AW.seq (AW.sg hE rfl ?_)))))))
 refine aQ ag.Ring rfl rfl (vs:=[_,_]) rfl (au rfl) (aQ ag.ay rfl rfl (vs:=[_,_,_,_,_,_,_,_]) rfl (au rfl) (bP rfl .jm (Ye hz) (OL.nil (F6 rfl ?_))));refine AW.sg hE rfl (aQ ag.ay rfl rfl (vs:=[_,_,_,_,_,_,_,_]) rfl (au rfl) (eG sz.ay rfl rfl rfl rfl rfl (au rfl) (cells2:=[_,_,_,_,_,_,_,_]) rfl (OL.nil ?_)));exact AW.ret (aT.r ⟨_,.dK rfl rfl ag.ay (au rfl) .nil,.ag (.cons (.le vR) (.cons (.le vR) (.cons (.le vR) (.cons (.le vR) (.cons (.le vR) (.cons (.le vR) (.cons (.le vR) (.cons (.le vR) .nil))))))))⟩)
theorem Z7 {p q:Rat}(hp:sz p<=68719476736)(hq:sz q<=68719476736):ai P F.xM [jG,vW p,vW q] (vW (p+q)):=by
 refine ai.intro fn.xM (by rfl) (by rfl) (au (by rfl)) λE hE=>(AW.sg hE rfl (iG rfl rfl λb3=>(iG rfl rfl λb4=>(iG rfl rfl λb5=>(al z.ay rfl λb6=>(OL.nil (AW.seq ?_)))))))
 refine AW.sg hE rfl (aQ ag.Ring rfl rfl (vs:=[_,_]) rfl (au rfl) (bP rfl .dw (TV) (nt rfl (OL.nil (pW rfl ?_)))));refine AW.skip (AW.seq (AW.dg 1 [0,1,2,3,4,5,6,7] ak hE rfl (by kernel_rfl) (OI.aP (os:=[_,_,_,_,_,_,_,_]) rfl ?_)))
 refine aQ ag.Ring rfl rfl (vs:=[_,_]) rfl (au rfl) (aQ ag.ay rfl rfl (vs:=[_,_,_,_,_,_,_,_]) rfl (au rfl) (bP rfl .jm (valueR (by assumption)) (aQ ag.Ring rfl rfl (vs:=[_,_]) rfl (au rfl) (aQ ag.ay rfl rfl (vs:=[_,_,_,_,_,_,_,_]) rfl (au rfl) (bP rfl .jm (valueR (by assumption)) (eG sz.ay rfl rfl rfl rfl rfl (au rfl) (cells2:=[_,_,_,_,_,_,_,_]) rfl (eG sz.ay rfl rfl rfl rfl rfl (au rfl) (cells2:=[_,_,_,_,_,_,_,_]) rfl ?_)))))))
 refine OL.nil (AW.seq (AW.sg hE rfl (aV fd.kK rfl rfl (aA ce.int rfl rfl rfl (fJ rfl rfl (c:=true) (by exact Jd (by omega)) (OL.nil (F6 rfl ?_)))))))
 refine AW.seq (AW.dg 1 [0,1,2,3,4,5,6,7] ak hE rfl (by kernel_rfl) (OI.aP (os:=[_,_,_,_,_,_,_,_]) rfl ?_))
 refine aV fd.kK rfl rfl (aA ce.int rfl rfl rfl (bP rfl .dw (ay1) (fdC fc.QM rfl rfl (aQ ag.ay rfl rfl (vs:=[_,_,_,_,_,_,_,_]) rfl (au rfl) (aQ ag.ay rfl rfl (vs:=[_,_,_,_,_,_,_,_]) rfl (au rfl) (bP rfl vL (bo9 hp hq) (eG sz.ay rfl rfl rfl rfl rfl (au rfl) (cells2:=[_,_,_,_,_,_,_,_]) rfl ?_)))))));refine OL.nil ?_;exact AW.ret (aT.r ⟨_,.dK rfl rfl ag.ay (au rfl) .nil,.ag (.cons (.le vR) (.cons (.le vR) (.cons (.le vR) (.cons (.le vR) (.cons (.le vR) (.cons (.le vR) (.cons (.le vR) (.cons (.le vR) .nil))))))))⟩)
theorem aP4 {q:Rat}(hz:sz q<=68719476736):ai P F.sO [jG,vW q] (.d (dB (decide (q=0)))):=by
 have h0K:=z0K;refine ai.intro fn.sO (by rfl) (by rfl) (au (by rfl)) λE hE=>(AW.sg hE rfl (iG rfl rfl λb2=>(iG rfl rfl λb3=>(aG rfl (OL.nil (AW.seq (AW.dg 1 [0,1,2,3,4] ak hE rfl (by kernel_rfl) (OI.aP (os:=[_,_,_,_,_]) rfl ?_))))))))
 exact aQ ag.ay rfl rfl (vs:=[_,_,_,_,_,_,_,_]) rfl (au rfl) (aQ ag.Ring rfl rfl (vs:=[_,_]) rfl (au rfl) (bP rfl .dw (Z5) (bP rfl .jm (ay0 hz h0K) (aG rfl (OL.nil (AW.ret (aT.r ⟨_,.tmp rfl .nil,.le vR⟩)))))))

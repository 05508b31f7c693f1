/-
  Walks of the specification of semirings, over the rational numbers (printed by mk2.py).
-/
import Derived.Test.YtnjoncgnjdkaoaaGreatDoorKMul
set_option linter.unusedVariables false
set_option linter.unusedSimpArgs false
namespace Go.Proofs.YtnjoncgnjdkaoaaGreatDoor
open Go Go.AL
theorem Qi {q:Rat}(hz:sz q<=68719476736):aj P F.yQ [vQ q] (vQ q):=by
 have h:=ve (r:=fP q) (jo (by omega))
 rw[kz] at h;exact h
theorem UZ {q:Rat}(hz:sz q<=68719476736):aj P F.xk [vQ q] (.d (dB true)):=by
 have h:=O4 (r:=fP q) (jo (by omega))
 rw[KY] at h;exact h
theorem aP5 {q:Rat}:bG (.ag [.d (dB (fP q).neg),.d (aF (fP q).num),.d (aF (fP q).den),.d (dI 0),.d (dB false),.d (dU 0),.d (.sl []),.mt]) (vW q) :=
 bG.ag (.cons vR (.cons vR (.cons vR (.cons vR (.cons vR (.cons vR (.cons vR (.cons bG.mt .nil))))))))
theorem U0 {l m:List Nat}(nl:l.length<=8796093022208)(nm:m.length<=8796093022208):aj P F.Dk [.d (aF l),.d (aF m)] (.d (dB (decide (l=m)))):=by
 refine aj.intro fn.Dk (by rfl) (by rfl) (aA (by rfl)) λE hE=>(AW.sg hE rfl (aC rfl (OL.nil (AW.seq (AW.sg hE rfl (ai rfl (fJ sl.aF rfl rfl ?_)))))))
 refine ai rfl (fJ sl.aF rfl rfl (fC rfl rfl rfl (OL.nil (AW.cond rfl (λh10=>?_) (λh10=>?_)))))
 .have hl:l.length≠m.length:=by have:=DC h10;omega
  exact AW.sg hE rfl (aC rfl (OL.nil (AW.ret (aO.r ⟨_,.tmp rfl .nil,.le (bG.bool ((decide_eq_false λe=>hl (by rw[e])).symm))⟩))))
 .have hl:l.length=m.length:=by have:=BV h10;omega
  refine AW.skip (AW.seq (AW.sg hE rfl (aC rfl (OL.nil (AW.block ?_)))));refine AW.aU (α:=Nat) [(0,_),(1,_)] [] (λi=>[(5,.d (dI i))]) (λi=>[]) (λi=>i<=l.length/\∀ j,j<i->l.getD j 0=m.getD j 0) (λi=>l.length-i) 0 (.cons (bY rfl) (.cons (bY rfl) .nil)) .nil ⟨⟨Nat.zero_le _,λj hj=>by omega⟩,.di,.nil⟩ ?_
  rintro i ⟨h1,h2⟩
  refine AW.seq (AW.sg hE rfl (ai rfl (ai rfl (fJ sl.aF rfl rfl (aX rfl rfl rfl (OL.nil (AW.cond rfl (λEQ=>?_) (λEQ=>?_))))))))
  .try simp only[eG] at EQ
   refine AW.skip (AW.seq (AW.block (AW.seq (AW.dg 1 [0,1,2,3,4,5,6,7,8] au hE rfl (by kernel_rfl) (OI.aS (os:=[_,_,_,_,_,_,_,_,_]) rfl ?_)))))
   refine ai rfl (ai rfl (fM sl.aF 0 rfl rfl (by omega) rfl rfl (iE ce.u32 rfl (ai rfl (ai rfl (fM sl.aF 0 rfl rfl (by omega) rfl rfl (iE ce.u32 rfl ?_)))))))
   refine fC rfl rfl rfl (OL.nil (AW.cond rfl (λhc=>?_) (λhc=>?_)))
   .have hc:l.getD i 0≠m.getD i 0:=by have:=DC hc;omega
    exact AW.sg hE rfl (aC rfl (OL.nil (AW.ret (aO.r ⟨_,.tmp rfl .nil,.le (bG.bool ((decide_eq_false λe=>hc (by rw[e])).symm))⟩))))
   .have hc:l.getD i 0=m.getD i 0:=by have:=BV hc;omega
    exact AW.skip (AW.rg hE rfl (ai rfl (aH rfl rfl (by omega) (aC rfl (OL.nil (AW.again (x:=i) (i+1) (by omega) ⟨⟨by omega,λj hj=>by rcases Nat.lt_or_ge j i with h|h;exact h2 j h;obtain rfl:j=i:=(by omega);exact hc⟩,Knows.app .gy .di,.nil⟩))))))
  .try simp only[eG] at EQ
   exact AW.exit (AW.sg hE rfl (aC rfl (OL.nil (AW.ret (aO.r ⟨_,.tmp rfl .nil,.le (bG.bool ((decide_eq_true (xP hl 0 λj hj=>h2 j (by omega))).symm))⟩)))))
theorem Qj {p q:Rat}(hp:sz p<=68719476736)(hq:sz q<=68719476736):aj P F.Dh [vQ p,vQ q] (.d (dB (decide (p=q)))):=by
 have sp:=DW hp;have sq:=DW hq;have l1:=sp.ln;have l2:=sp.ld;have l3:=sq.ln;have l4:=sq.ld;refine aj.intro fn.Dh (by rfl) (by rfl) (aA (by rfl)) λE hE=>(AW.sg hE rfl (gW rfl rfl λb2=>(gW rfl rfl λb3=>(aC rfl (OL.nil (AW.sg hE rfl (aV fd.qE rfl rfl ?_)))))))
 refine aG ce.bool rfl rfl rfl (aV fd.qE rfl rfl (aG ce.bool rfl rfl rfl (eqb bt.bool rfl rfl (OL.split 9 rfl (λg=>?_) (λg=>?_)))))
 .have g:=kK g;refine ai rfl (OL.yes rfl (aV fd.pW rfl rfl (OL.yes rfl (aG ce.aF rfl rfl rfl (OL.yes rfl (aV fd.pW rfl rfl (OL.yes rfl ?_)))))));refine aG ce.aF rfl rfl rfl (OL.yes rfl (bF rfl .gy (U0 (by omega) (by omega)) (OL.split 15 rfl (λk=>?_) (λk=>?_))))
  .have k:=kK k;refine lJ rfl rfl (ai rfl (OL.yes rfl (aV fd.nK rfl rfl (OL.yes rfl (aG ce.aF rfl rfl rfl (OL.yes rfl (aV fd.nK rfl rfl ?_)))))));exact OL.yes rfl (aG ce.aF rfl rfl rfl (OL.yes rfl (bF rfl .gy (U0 (by omega) (by omega)) (lJ rfl rfl (aC rfl (OL.nil (AW.ret (aO.r ⟨_,.tmp rfl .nil,.le (bG.bool (decide_eq_decide.2 ⟨λe=>XT (ai5 g k e),λe=>by rw[e]⟩))⟩))))))))
  .have k:=lD k;refine lJ rfl rfl (ai rfl (OL.nd rfl (OL.nd rfl (OL.nd rfl (OL.nd rfl (OL.nd rfl (jZ rfl rfl ?_)))))));exact aC rfl (OL.nil (AW.ret (aO.r ⟨_,.tmp rfl .nil,.le (bG.bool ((decide_eq_false λe=>k (by rw[e])).symm))⟩)))
 .have g:=lD g;refine ai rfl (OL.nd rfl (OL.nd rfl (OL.nd rfl (OL.nd rfl (OL.nd rfl (jZ rfl rfl (ai rfl ?_)))))));refine OL.nd rfl (OL.nd rfl (OL.nd rfl (OL.nd rfl (OL.nd rfl (jZ rfl rfl (aC rfl (OL.nil ?_)))))));exact AW.ret (aO.r ⟨_,.tmp rfl .nil,.le (bG.bool ((decide_eq_false λe=>g (by rw[e])).symm))⟩)
theorem Ry  : aj P F.Ak [.d (.sl [])] (.d (dB true)):=by
 refine aj.intro fn.Ak (by rfl) (by rfl) (aA (by rfl)) λE hE=>(AW.sg hE rfl (aC rfl (OL.nil (AW.seq (AW.sg hE rfl (aC rfl (OL.nil ?_)))))))
 refine AW.block (AW.aU (α:=Unit) [(0,_)] [] (λ_u=>[(3,.d (dI 0))]) (λ_u=>[]) (λ_u=>True) (λ_u=>0) () (.cons (bY rfl) .nil) .nil ⟨trivial,.di,.nil⟩ ?_);intro _ _;refine AW.seq (AW.sg hE rfl (ai rfl (ai rfl (N9 sl.gZ rfl rfl rfl (aX rfl rfl rfl (OL.nil (AW.cond rfl (λhno=>absurd hno (by simp)) (λ_=>?_))))))))
 exact AW.exit (AW.sg hE rfl (aC rfl (OL.nil (AW.ret (aO.r ⟨_,.tmp rfl .nil,.le vR⟩)))))
theorem U1  : aj P F.Dj [.d (.sl [])] (.d (.sl [])):=by
 refine aj.intro fn.Dj (by rfl) (by rfl) (aA (by rfl)) λE hE=>(AW.sg hE rfl (jg rfl (OL.nil (AW.seq (AW.sg hE rfl (ai rfl (bF rfl .di (Ry) ?_)))))))
 refine nt rfl (OL.nil (oz rfl ?_));refine AW.skip (AW.sg hE rfl (jg rfl (OL.nil (AW.seq (AW.sg hE rfl (aC rfl (OL.nil ?_)))))));refine AW.block (AW.aU (α:=Unit) [(0,_),(2,_)] [] (λ_u=>[(3,.mt),(4,.d (dI 0))]) (λ_u=>[]) (λ_u=>True) (λ_u=>0) () (.cons (bY rfl) (.cons (AO rfl) .nil)) .nil ⟨trivial,.gy,.nil⟩ ?_);intro _ _;refine AW.seq (AW.sg hE rfl (ai rfl (ai rfl (N9 sl.gZ rfl rfl rfl (aX rfl rfl rfl (OL.nil (AW.cond rfl (λhno=>absurd hno (by simp)) (λ_=>?_))))))))
 exact AW.exit (AW.sg hE rfl (mvM rfl (jg rfl (OL.nil (AW.ret (aO.r ⟨_,.tmp rfl .nil,.le (bG.mt)⟩))))))
theorem U2  : aj P F.Di [.d (.sl []),.d (.sl [])] (.d (dB true)):=by
 refine aj.intro fn.Di (by rfl) (by rfl) (aA (by rfl)) λE hE=>(AW.sg hE rfl (aC rfl (OL.nil (AW.seq (AW.sg hE rfl (ai rfl (N9 sl.gZ rfl rfl rfl ?_)))))))
 refine ai rfl (N9 sl.gZ rfl rfl rfl (fC rfl rfl (c:=false) (nZ rfl) (OL.nil (oz rfl ?_))));refine AW.skip (AW.seq (AW.sg hE rfl (aC rfl (OL.nil (AW.block (AW.aU (α:=Unit) [(0,_),(1,_)] [] (λ_u=>[(5,.d (dI 0))]) (λ_u=>[]) (λ_u=>True) (λ_u=>0) () (.cons (bY rfl) (.cons (bY rfl) .nil)) .nil ⟨trivial,.di,.nil⟩ ?_))))));intro _ _;refine AW.seq (AW.sg hE rfl (ai rfl (ai rfl (N9 sl.gZ rfl rfl rfl (aX rfl rfl rfl (OL.nil (AW.cond rfl (λhno=>absurd hno (by simp)) (λ_=>?_))))))))
 exact AW.exit (AW.sg hE rfl (aC rfl (OL.nil (AW.ret (aO.r ⟨_,.tmp rfl .nil,.le vR⟩)))))
theorem Ih  : aj P F.zX [lN] (.d (dB true)):=by
 refine aj.intro fn.zX (by rfl) (by rfl) (aA (by rfl)) λE hE=>(AW.sg hE rfl (gW rfl rfl λb1=>(aC rfl (OL.nil (AW.seq (AW.sg hE rfl (aV fd.nG rfl rfl ?_)))))))
 refine aG ce.int rfl rfl rfl (fC rfl rfl (c:=true) (by exact FK (by omega)) (OL.nil (J4 rfl ?_)))
 refine AW.sg hE rfl (aV fd.nG rfl rfl (aG ce.int rfl rfl rfl (ql rfl rfl (c:=true) (by exact decide_eq_true (by omega)) (ai rfl (OL.yes rfl (aV fd.nG rfl rfl (OL.yes rfl ?_)))))))
 refine aG ce.int rfl rfl rfl (OL.yes rfl (wZ rfl rfl (c:=true) (by exact decide_eq_true (by omega)) (lJ rfl rfl (ai rfl (OL.yes rfl (aV fd.Ls rfl rfl (OL.yes rfl ?_)))))))
 refine aG ce.ints rfl rfl rfl (OL.yes rfl (N9 sl.ints rfl rfl rfl (OL.yes rfl (dG rfl rfl (c:=true) (decide_eq_true rfl) (lJ rfl rfl (aC rfl (OL.nil ?_)))))));exact AW.ret (aO.r ⟨_,.tmp rfl .nil,.le vR⟩)
theorem an9 {q:Rat}(hz:sz q<=68719476736):aj P F.x8 [.d (dI 1),vW q] (.d (dB true)):=by
 refine aj.intro fn.x8 (by rfl) (by rfl) (aA (by rfl)) λE hE=>(AW.sg hE rfl (gW rfl rfl λb3=>(aC rfl (OL.nil (AW.sg hE rfl (aV fd.gK rfl rfl (aN ag.Rat rfl rfl (vs:=[_,_,_]) rfl (aA rfl) ?_)))))))
 refine bd z.Rat pl.Rat (cs:=[_,_,_]) rfl (bF rfl (.cons vR (.cons (aK7) .nil)) (Qj hz z0K) (aC rfl (OL.nil (AW.seq (AW.sg hE rfl (aV fd.yY rfl rfl (aG ce.aT rfl rfl rfl ?_)))))));refine N9 sl.aT rfl rfl rfl (gV rfl rfl (c:=false) (decide_eq_false (by simp)) (ai rfl (OL.yes rfl (ai rfl (OL.yes rfl (fC rfl rfl (c:=false) (by exact nZ (by omega)) (OL.yes rfl ?_)))))))
 refine ai rfl (OL.nd rfl (OL.nd rfl (OL.yes rfl (jZ rfl rfl (OL.yes rfl (ai rfl (OL.nd rfl ?_)))))));refine OL.nd rfl (OL.yes rfl (jZ rfl rfl (jZ rfl rfl (ai rfl (OL.yes rfl (ai rfl (OL.yes rfl ?_)))))));refine fC rfl rfl (c:=true) (by exact FK (by omega)) (OL.yes rfl (ai rfl (OL.yes rfl (aV fd.yX rfl rfl (OL.yes rfl (aG ce.bool rfl rfl rfl (OL.yes rfl ?_)))))))
 refine ai rfl (OL.yes rfl (aV fd.Bd rfl rfl (OL.yes rfl (aG ce.int rfl rfl rfl (OL.yes rfl (fC rfl rfl (c:=false) (by exact nZ (by omega)) (OL.yes rfl ?_)))))))
 refine jZ rfl rfl (OL.yes rfl (lJ rfl rfl (jZ rfl rfl (ai rfl (OL.yes rfl (ai rfl (OL.yes rfl ?_)))))));refine fC rfl rfl (c:=true) (by exact FK (by omega)) (OL.yes rfl (ai rfl (OL.yes rfl (aV fd.Be rfl rfl (OL.yes rfl (aG ce.u64 rfl rfl rfl (OL.yes rfl ?_)))))))
 refine fC rfl rfl (c:=false) (by exact nZ (by omega)) (OL.yes rfl (lJ rfl rfl (jZ rfl rfl (ai rfl (OL.yes rfl (ai rfl (OL.yes rfl ?_)))))))
 refine fC rfl rfl (c:=true) (by exact FK (by omega)) (OL.yes rfl (ai rfl (OL.yes rfl (aV fd.Bf rfl rfl (OL.yes rfl (aG ce.gZ rfl rfl rfl (OL.yes rfl ?_)))))))
 refine N9 sl.gZ rfl rfl rfl (OL.yes rfl (gV rfl rfl (c:=false) (decide_eq_false (by simp)) (OL.yes rfl (lJ rfl rfl (jZ rfl rfl (OL.nil (oz rfl ?_)))))))
 refine AW.skip (AW.seq (AW.sg hE rfl (ai rfl (OL.nil (AW.block (AW.sg hE rfl (dG rfl rfl (c:=true) (by exact decide_eq_true (by omega)) ?_)))))))
 refine aC rfl (OL.nil (J4 rfl ?_));exact AW.sg hE rfl (aV fd.gK rfl rfl (aN ag.Rat rfl rfl (vs:=[_,_,_]) rfl (aA rfl) (bF rfl vL (UZ hz) (aC rfl (OL.nil (AW.ret (aO.r ⟨_,.tmp rfl .nil,.le vR⟩)))))))
theorem Rz {q:Rat}(hz:sz q<=68719476736):aj P F.Ac [lN,vW q] (.d (dB true)):=by
 refine aj.intro fn.Ac (by rfl) (by rfl) (aA (by rfl)) λE hE=>(AW.sg hE rfl (gW rfl rfl λb2=>(gW rfl rfl λb3=>(aC rfl (OL.nil (AW.seq (AW.sg hE rfl ?_)))))))
 refine aN ag.Ring rfl rfl (vs:=[_,_]) rfl (aA rfl) (bF rfl .di (Ih) (nt rfl (OL.nil (oz rfl ?_))));refine AW.skip (AW.seq (AW.sg hE rfl (aV fd.nG rfl rfl (aG ce.int rfl rfl rfl (fC rfl rfl (c:=true) (by exact FK (by omega)) (OL.nil (J4 rfl ?_)))))))
 exact AW.sg hE rfl (aV fd.nG rfl rfl (aG ce.int rfl rfl rfl (aN ag.ak rfl rfl (vs:=[_,_,_,_,_,_,_,_]) rfl (aA rfl) (bF rfl vL (an9 hz) (aC rfl (OL.nil (AW.ret (aO.r ⟨_,.tmp rfl .nil,.le vR⟩))))))))
theorem NP  : aj P F.Cf [lN] (vW 0):=by
 refine aj.intro fn.Cf (by rfl) (by rfl) (aA (by rfl)) λE hE=>(AW.sg hE rfl (gW rfl rfl λb1=>(al z.ak rfl λb2=>(OL.nil (AW.sg hE rfl (bd z.ak pl.ak (cs:=[_,_,_,_,_,_,_,_]) rfl (al z.ak rfl λb3=>?_)))))))
 refine fG sz.ak rfl rfl rfl rfl rfl (aA rfl) (cells2:=[_,_,_,_,_,_,_,_]) rfl (OL.nil (AW.seq (AW.sg hE rfl (aN ag.Ring rfl rfl (vs:=[_,_]) rfl (aA rfl) (bF rfl .di (Ih) (nt rfl (OL.nil ?_)))))));refine oz rfl ?_;refine AW.skip (AW.sg hE rfl (aV fd.nG rfl rfl (aG ce.int rfl rfl rfl (dG rfl rfl (c:=false) (by exact decide_eq_false (by omega)) (aV fd.yX rfl rfl (fG sz.bool rfl rfl rfl rfl rfl (aA rfl) (cells2:=[_,_,_,_,_,_,_,_]) rfl (OL.nil ?_)))))))
 refine AW.seq (AW.sg hE rfl (aC rfl (OL.nil (AW.block ?_))));refine AW.aU (α:=Unit) [(1,_),(2,_),(3,_)] [(1,_),(2,_)] (λ_u=>[(4,.d (dI 0))]) (λ_u=>[(3,.box b3 T.ak [.d (dB false),.mt,.mt,.d (dI 0),.d (dB false),.d (dU 0),.mt,.mt])]) (λ_u=>True) (λ_u=>0) () (.cons (iJ rfl) (.cons (iJ rfl) (.cons (iJ rfl) .nil))) (.cons (kC rfl) (.cons (kC rfl) .nil)) ⟨trivial,.di,.cons rfl .nil⟩ ?_;intro _ _;refine AW.seq (AW.sg hE rfl (ai rfl (aV fd.Ls rfl rfl (aG ce.ints rfl rfl rfl (N9 sl.ints rfl rfl rfl (aX rfl rfl rfl (OL.nil ?_)))))));refine AW.cond rfl (λhno=>absurd hno (by simp)) (λ_=>?_)
 exact AW.exit (AW.sg hE rfl (aN ag.ak rfl rfl (vs:=[_,_,_,_,_,_,_,_]) rfl (aA rfl) (fG sz.ak rfl rfl rfl rfl rfl (aA rfl) (cells2:=[_,_,_,_,_,_,_,_]) rfl (OL.nil (AW.ret (aO.r ⟨_,.dL rfl rfl ag.ak (aA rfl) .nil,.le ai4⟩))))))
theorem Jg {q:Rat}(hz:sz q<=68719476736):aj P F.Dc [lN,vW q] (vW q):=by
 refine aj.intro fn.Dc (by rfl) (by rfl) (aA (by rfl)) λE hE=>(AW.sg hE rfl (gW rfl rfl λb2=>(gW rfl rfl λb3=>(al z.ak rfl λb4=>(OL.nil (AW.seq (AW.sg hE rfl ?_)))))))
 refine aN ag.Ring rfl rfl (vs:=[_,_]) rfl (aA rfl) (aN ag.ak rfl rfl (vs:=[_,_,_,_,_,_,_,_]) rfl (aA rfl) (bF rfl .gy (Rz hz) (nt rfl (OL.nil (oz rfl ?_)))));refine AW.skip (AW.seq (AW.dg 1 [0,1,2,3,4,5,6,7,8,9,10,11,12,13,14] au hE rfl (by kernel_rfl) (OI.aS (os:=[_,_,_,_,_,_,_,_,_,_,_,_,_,_,_]) rfl ?_)))
 refine aV fd.gK rfl rfl (aN ag.Rat rfl rfl (vs:=[_,_,_]) rfl (aA rfl) (bF rfl .di (Qi hz) (aV fd.Bd rfl rfl (aG ce.int rfl rfl rfl (aV fd.yX rfl rfl (aG ce.bool rfl rfl rfl (aV fd.Be rfl rfl ?_)))))));refine aG ce.u64 rfl rfl rfl (aV fd.Bf rfl rfl (aG ce.gZ rfl rfl rfl (bF rfl .di (U1) (Vk (cs:=[_,_,_,_,_,_,_,_]) z.ak pl.ak (rG (by exact evA rfl) (rG (by exact zC rfl) (rG (by exact zC rfl) (rG (by exact zC rfl) (rG (by exact zC rfl) (Vj)))))) (by rfl) (al z.ak rfl λb5=>(fG sz.ak rfl rfl rfl rfl rfl (aA rfl) (cells2:=[_,_,_,_,_,_,_,_]) rfl (OL.nil ?_)))))))
 refine AW.seq (AW.sg hE rfl (aC rfl (OL.nil (AW.block ?_))));refine AW.aU (α:=Unit) [(2,_),(3,_),(4,_),(5,_)] [(2,_),(3,_),(4,_)] (λ_u=>[(6,.d (dI 0))]) (λ_u=>[(5,.box b5 T.ak [.d (dB (fP q).neg),.d (aF (fP q).num),.d (aF (fP q).den),.d (dI 0),.d (dB false),.d (dU 0),.d (.sl []),.mt])]) (λ_u=>True) (λ_u=>0) () (.cons (iJ rfl) (.cons (iJ rfl) (.cons (iJ rfl) (.cons (iJ rfl) .nil)))) (.cons (kC rfl) (.cons (kC rfl) (.cons (kC rfl) .nil))) ⟨trivial,.di,.cons rfl .nil⟩ ?_;intro _ _;refine AW.seq (AW.sg hE rfl (ai rfl (aV fd.yY rfl rfl (aG ce.aT rfl rfl rfl (N9 sl.aT rfl rfl rfl (aX rfl rfl rfl (OL.nil ?_)))))));refine AW.cond rfl (λhno=>absurd hno (by simp)) (λ_=>?_)
 exact AW.exit (AW.sg hE rfl (aN ag.ak rfl rfl (vs:=[_,_,_,_,_,_,_,_]) rfl (aA rfl) (fG sz.ak rfl rfl rfl rfl rfl (aA rfl) (cells2:=[_,_,_,_,_,_,_,_]) rfl (OL.nil (AW.ret (aO.r ⟨_,.dL rfl rfl ag.ak (aA rfl) .nil,.le aP5⟩))))))
theorem aD1 {p q:Rat}(hp:sz p<=68719476736)(hq:sz q<=68719476736):aj P F.Ag [vW p,vW q] (.d (dB (decide (p=q)))):=by
 refine aj.intro fn.Ag (by rfl) (by rfl) (aA (by rfl)) λE hE=>(AW.sg hE rfl (gW rfl rfl λb2=>(gW rfl rfl λb3=>(aC rfl (OL.nil (AW.seq (AW.sg hE rfl ?_)))))))
 refine aV fd.gK rfl rfl (aN ag.Rat rfl rfl (vs:=[_,_,_]) rfl (aA rfl) (aV fd.gK rfl rfl (aN ag.Rat rfl rfl (vs:=[_,_,_]) rfl (aA rfl) (bF rfl .gy (Qj hp hq) (OL.split 10 rfl (λg=>?_) (λg=>?_))))))
 .have g:=kK g;refine nt rfl (ai rfl (OL.yes rfl (aV fd.Bd rfl rfl (OL.yes rfl (aG ce.int rfl rfl rfl (OL.yes rfl (aV fd.Bd rfl rfl ?_)))))));refine OL.yes rfl (aG ce.int rfl rfl rfl (OL.yes rfl (fC rfl rfl (c:=false) (by exact nZ (by omega)) (jZ rfl rfl (ai rfl (OL.yes rfl (aV fd.yX rfl rfl ?_)))))))
  refine OL.yes rfl (aG ce.bool rfl rfl rfl (OL.yes rfl (aV fd.yX rfl rfl (OL.yes rfl (aG ce.bool rfl rfl rfl (OL.yes rfl (neb bt.bool rfl rfl ?_)))))));refine jZ rfl rfl (ai rfl (OL.yes rfl (aV fd.Be rfl rfl (OL.yes rfl (aG ce.u64 rfl rfl rfl (OL.yes rfl (aV fd.Be rfl rfl ?_)))))));refine OL.yes rfl (aG ce.u64 rfl rfl rfl (OL.yes rfl (fC rfl rfl (c:=false) (by exact nZ (by omega)) (jZ rfl rfl (ai rfl (OL.yes rfl (aV fd.Bf rfl rfl ?_)))))))
  refine OL.yes rfl (aG ce.gZ rfl rfl rfl (OL.yes rfl (aV fd.Bf rfl rfl (OL.yes rfl (aG ce.gZ rfl rfl rfl (OL.yes rfl (bF rfl .gy (U2) ?_)))))));refine OL.yes rfl (nt rfl (jZ rfl rfl (ai rfl (OL.yes rfl (aV fd.yY rfl rfl (OL.yes rfl (aG ce.aT rfl rfl rfl ?_)))))));refine OL.yes rfl (N9 sl.aT rfl rfl rfl (OL.yes rfl (aV fd.yY rfl rfl (OL.yes rfl (aG ce.aT rfl rfl rfl (OL.yes rfl (N9 sl.aT rfl rfl rfl ?_)))))));refine OL.yes rfl (fC rfl rfl (c:=false) (nZ rfl) (jZ rfl rfl (OL.nil (oz rfl ?_))));refine AW.skip (AW.seq (AW.sg hE rfl (aC rfl (OL.nil (AW.block (AW.aU (α:=Unit) [(2,_),(3,_)] [(2,_),(3,_)] (λ_u=>[(5,.d (dI 0))]) (λ_u=>[]) (λ_u=>True) (λ_u=>0) () (.cons (iJ rfl) (.cons (iJ rfl) .nil)) (.cons (kC rfl) (.cons (kC rfl) .nil)) ⟨trivial,.di,.nil⟩ ?_))))));intro _ _;refine AW.seq (AW.sg hE rfl (ai rfl (aV fd.yY rfl rfl (aG ce.aT rfl rfl rfl (N9 sl.aT rfl rfl rfl (aX rfl rfl rfl (OL.nil ?_)))))));refine AW.cond rfl (λhno=>absurd hno (by simp)) (λ_=>?_)
  exact AW.exit (AW.sg hE rfl (aC rfl (OL.nil (AW.ret (aO.r ⟨_,.tmp rfl .nil,.le (bG.bool ((decide_eq_true g).symm))⟩)))))
 .have g:=lD g;refine nt rfl (ai rfl (OL.nd rfl (OL.nd rfl (OL.nd rfl (OL.nd rfl (OL.nd rfl (lJ rfl rfl ?_)))))));refine ai rfl (OL.nd rfl (OL.nd rfl (OL.nd rfl (OL.nd rfl (OL.nd rfl (lJ rfl rfl (ai rfl ?_)))))));refine OL.nd rfl (OL.nd rfl (OL.nd rfl (OL.nd rfl (OL.nd rfl (lJ rfl rfl (ai rfl (OL.nd rfl ?_)))))));refine OL.nd rfl (OL.nd rfl (OL.nd rfl (OL.nd rfl (OL.nd rfl (lJ rfl rfl (ai rfl (OL.nd rfl ?_)))))));refine OL.nd rfl (OL.nd rfl (OL.nd rfl (OL.nd rfl (OL.nd rfl (OL.nd rfl (lJ rfl rfl (OL.nil ?_)))))));refine J4 rfl ?_;exact AW.sg hE rfl (aC rfl (OL.nil (AW.ret (aO.r ⟨_,.tmp rfl .nil,.le (bG.bool ((decide_eq_false g).symm))⟩))))
theorem ao0 {q:Rat}(hz:sz q<=68719476736):aj P F.x9 [lN,vW q] (.d (dB (decide (q=0)))):=by
 refine aj.intro fn.x9 (by rfl) (by rfl) (aA (by rfl)) λE hE=>(AW.sg hE rfl (gW rfl rfl λb2=>(gW rfl rfl λb3=>(aC rfl (OL.nil (AW.seq (AW.dg 1 [0,1,2,3,4] au hE rfl (by kernel_rfl) (OI.aS (os:=[_,_,_,_,_]) rfl ?_))))))))
 exact aN ag.ak rfl rfl (vs:=[_,_,_,_,_,_,_,_]) rfl (aA rfl) (aN ag.Ring rfl rfl (vs:=[_,_]) rfl (aA rfl) (bF rfl .di (NP) (bF rfl .gy (aD1 hz z0K) (aC rfl (OL.nil (AW.ret (aO.r ⟨_,.tmp rfl .nil,.le vR⟩)))))))
theorem WQ {p q:Rat}(hp:sz p<=68719476736)(hq:sz q<=68719476736):aj P F.CZ [lN,vW p,vW q] (vW (p+q)):=by
 refine aj.intro fn.CZ (by rfl) (by rfl) (aA (by rfl)) λE hE=>(AW.sg hE rfl (gW rfl rfl λb3=>(gW rfl rfl λb4=>(gW rfl rfl λb5=>(al z.ak rfl λb6=>(OL.nil (AW.seq ?_)))))))
 refine AW.sg hE rfl (aN ag.Ring rfl rfl (vs:=[_,_]) rfl (aA rfl) (bF rfl .di (Ih) (nt rfl (OL.nil (oz rfl ?_)))));refine AW.skip (AW.seq (AW.dg 1 [0,1,2,3,4,5,6,7] au hE rfl (by kernel_rfl) (OI.aS (os:=[_,_,_,_,_,_,_,_]) rfl ?_)))
 refine aN ag.Ring rfl rfl (vs:=[_,_]) rfl (aA rfl) (aN ag.ak rfl rfl (vs:=[_,_,_,_,_,_,_,_]) rfl (aA rfl) (bF rfl vL (Jg hp) (aN ag.Ring rfl rfl (vs:=[_,_]) rfl (aA rfl) (aN ag.ak rfl rfl (vs:=[_,_,_,_,_,_,_,_]) rfl (aA rfl) (bF rfl vL (Jg hq) (fG sz.ak rfl rfl rfl rfl rfl (aA rfl) (cells2:=[_,_,_,_,_,_,_,_]) rfl (fG sz.ak rfl rfl rfl rfl rfl (aA rfl) (cells2:=[_,_,_,_,_,_,_,_]) rfl ?_)))))));refine OL.nil (AW.seq (AW.sg hE rfl (aV fd.nG rfl rfl (aG ce.int rfl rfl rfl (OL.nil (AW.block (AW.sg hE rfl ?_)))))));refine dG rfl rfl (c:=true) (by exact decide_eq_true (by omega)) (aC rfl (OL.nil (J4 rfl ?_)))
 refine AW.sg hE rfl (aV fd.gK rfl rfl (aN ag.Rat rfl rfl (vs:=[_,_,_]) rfl (aA rfl) (aV fd.gK rfl rfl (aN ag.Rat rfl rfl (vs:=[_,_,_]) rfl (aA rfl) (bF rfl vL (LM (x:=p) (y:=q) hp hq) (bd z.ak pl.ak (cs:=[_,_,_,_,_,_,_,_]) rfl (fG sz.ak rfl rfl rfl rfl rfl (aA rfl) (cells2:=[_,_,_,_,_,_,_,_]) rfl ?_)))))));exact OL.nil (AW.ret (aO.r ⟨_,.dL rfl rfl ag.ak (aA rfl) .nil,.le IX⟩))

/-
  Walks of the specification of semirings, over the rational numbers (printed by mk2.py).
-/
import Derived.Test.YtnjoncgnjdkaoaaGreatDoorKWkQ
set_option linter.unusedVariables false
set_option linter.unusedSimpArgs false
namespace Go.Proofs.YtnjoncgnjdkaoaaGreatDoor
open Go Go.AL
theorem ar1 {α:Type}(o:Option α):(!o.isSome)=o.isNone:=by cases o <;> rfl
structure Au.Take (a:Au) (s:Nat):Prop where
 fit:Au.Fit a s
 few:a.Pj
theorem bf8 {a:Au}{s:Nat}(f:Au.Fit a s):∀ x,x ∈ [a]->Au.Fit x s:=λx hx=>by rw[lW hx];exact f
theorem aj6 {a:Au}{s:Nat}(t:Au.Take a s)(s4:s<=4):(cZ [a]).Ok/\(cZ [a]).Full/\(cZ [a]).Sz 24/\(cZ [a]).n=a.st :=
 ⟨Ub t.fit.ok,Gt _,Ii (λx hx=>by rw[lW hx];exact t.few) (by rw[jm];have:=t.few.st;omega) (by show a.sym<=4;rw[t.fit.sym];exact s4),jm⟩
theorem aG0 {x y:Raw}(hx:x.Ok)(hy:y.Ok):aj P F.BA [tN x,tN y] (vQ (x.q*y.q)):=by
 have a1:=Gh hx hx.ln hx.ld (by decide)
 have a2:=Gh hy hy.ln hy.ld (by decide)
 have sn1:=lF x.q;have sn2:=lF y.q;have sd1:=lG x.q;have sd2:=lG y.q;have sdd:=gJ x.q.den y.q.den;have dd0:=Nat.mul_ne_zero x.q.den_nz y.q.den_nz;have snn:=gJ x.q.num.natAbs y.q.num.natAbs;have hp:=QU (s:=decide (x.q.num<0)) (t:=decide (y.q.num<0)) (a:=x.q.num.natAbs) (b:=y.q.num.natAbs) (d1:=x.q.den) (d2:=y.q.den);rw[o5,o5] at hp;refine aj.intro fn.BA (by rfl) (by rfl) (aB (by rfl)) λE hE=>(AW.sg hE rfl (iI rfl rfl λb2=>(iI rfl rfl λb3=>(al z.Rat rfl λb4=>(OL.nil (AW.seq (AW.dg 1 [0,1,2,3,4,5] ay hE rfl (by kernel_rfl) (OI.aK (os:=[_,_,_,_,_,_]) rfl ?_))))))))
 refine aO ag.Rat rfl rfl (vs:=[_,_,_]) rfl (aB rfl) (bJ rfl .bZ (zH (by assumption)) (aO ag.Rat rfl rfl (vs:=[_,_,_]) rfl (aB rfl) (bJ rfl .bZ (zH (by assumption)) (eH sz.Rat rfl rfl rfl rfl rfl (aB rfl) (cells2:=[_,_,_]) rfl (eH sz.Rat rfl rfl rfl rfl rfl (aB rfl) (cells2:=[_,_,_]) rfl (OL.nil (AW.seq ?_)))))))
 refine AW.dg 1 [0,1,2,3,4,5,6,7,8,9,10,11,12,13,14,15,16] ay hE rfl (by kernel_rfl) (OI.aK (os:=[_,_,_,_,_,_,_,_,_,_,_,_,_,_,_,_,_]) rfl ?_)
 refine aW fd.tZ rfl rfl (aG ce.bool rfl rfl rfl (aW fd.tZ rfl rfl (aG ce.bool rfl rfl rfl (neb bt.bool rfl rfl (aW fd.sQ rfl rfl (aG ce.aH rfl rfl rfl (aW fd.sQ rfl rfl ?_)))))));refine aG ce.aH rfl rfl rfl (bJ rfl .iq (zG (a:=x.q.num.natAbs) (b:=y.q.num.natAbs) (by omega) (by omega)) (aO ag.Rat rfl rfl (vs:=[_,_,_]) rfl (aB rfl) (bJ rfl .bZ (EY) (aO ag.Rat rfl rfl (vs:=[_,_,_]) rfl (aB rfl) (bJ rfl .bZ (EY) (bJ rfl .iq (zG (a:=x.q.den) (b:=y.q.den) (by omega) (by omega)) (bJ rfl .Ah (Ej (s:=(decide (x.q.num<0) != decide (y.q.num<0))) (by omega) (by omega) dd0) ?_)))))))
 rw[<- hp];exact eH sz.Rat rfl rfl rfl rfl rfl (aB rfl) (cells2:=[_,_,_]) rfl (OL.nil (AW.ret (aP.r ⟨_,.dV rfl rfl ag.Rat (aB rfl) .nil,.ag (.cons (.le vR) (.cons (.le vR) (.cons (.le vR) .nil)))⟩)))
theorem ar2 {x y:Rat}(hx:sz x<=68719476736)(hy:sz y<=68719476736):aj P F.BA [vQ x,vQ y] (vQ (x*y)):=by
 have h:=aG0 (x:=fZ x) (y:=fZ y) (nT (by omega)) (nT (by omega))
 rw[qy,qy] at h;exact h
theorem Z5 {q:Rat}(hz:sz q<=68719476736):aj P F.y8 [vQ q] (vQ q):=by
 have h:=zH (r:=fZ q) (nT (by omega))
 rw[qy] at h;exact h
theorem Va {q:Rat}(hz:sz q<=68719476736):aj P F.xW [vQ q] (.d (dB true)):=by
 have h:=Ph (r:=fZ q) (nT (by omega))
 rw[LD] at h;exact h
theorem aU2 {q:Rat}:bG (.ag [.d (dB (fZ q).neg),.d (aH (fZ q).num),.d (aH (fZ q).den),.d (dI 0),.d (dB false),.d (dU 0),.d (.sl []),.mt]) (vW q) :=
 bG.ag (.cons vR (.cons vR (.cons vR (.cons vR (.cons vR (.cons vR (.cons vR (.cons bG.mt .nil))))))))
theorem Vb {l m:List Nat}(nl:l.length<=8796093022208)(nm:m.length<=8796093022208):aj P F.Dv [.d (aH l),.d (aH m)] (.d (dB (decide (l=m)))):=by
 refine aj.intro fn.Dv (by rfl) (by rfl) (aB (by rfl)) λE hE=>(AW.sg hE rfl (aF rfl (OL.nil (AW.seq (AW.sg hE rfl (ai rfl (fJ sl.aH rfl rfl ?_)))))))
 refine ai rfl (fJ sl.aH rfl rfl (eG rfl rfl rfl (OL.nil (AW.cond rfl (λh10=>?_) (λh10=>?_)))))
 .have hl:l.length≠m.length:=by have:=D7 h10;omega
  exact AW.sg hE rfl (aF rfl (OL.nil (AW.ret (aP.r ⟨_,.tmp rfl .nil,.le (bG.bool ((decide_eq_false λe=>hl (by rw[e])).symm))⟩))))
 .have hl:l.length=m.length:=by have:=Bc h10;omega
  refine AW.skip (AW.seq (AW.sg hE rfl (aF rfl (OL.nil (AW.block ?_)))));refine AW.aV (α:=Nat) [(0,_),(1,_)] [] (λi=>[(5,.d (dI i))]) (λi=>[]) (λi=>i<=l.length/\∀ j,j<i->l.getD j 0=m.getD j 0) (λi=>l.length-i) 0 (.cons (bK rfl) (.cons (bK rfl) .nil)) .nil ⟨⟨Nat.zero_le _,λj hj=>by omega⟩,.bZ,.nil⟩ ?_
  rintro i ⟨h1,h2⟩
  refine AW.seq (AW.sg hE rfl (ai rfl (ai rfl (fJ sl.aH rfl rfl (aY rfl rfl rfl (OL.nil (AW.cond rfl (λBf=>?_) (λBf=>?_))))))))
  .try simp only[dX] at Bf
   refine AW.skip (AW.seq (AW.block (AW.seq (AW.dg 1 [0,1,2,3,4,5,6,7,8] ay hE rfl (by kernel_rfl) (OI.aK (os:=[_,_,_,_,_,_,_,_,_]) rfl ?_)))))
   refine ai rfl (ai rfl (fO sl.aH 0 rfl rfl (by omega) rfl rfl (iH ce.u32 rfl (ai rfl (ai rfl (fO sl.aH 0 rfl rfl (by omega) rfl rfl (iH ce.u32 rfl ?_)))))))
   refine eG rfl rfl rfl (OL.nil (AW.cond rfl (λhc=>?_) (λhc=>?_)))
   .have hc:l.getD i 0≠m.getD i 0:=by have:=D7 hc;omega
    exact AW.sg hE rfl (aF rfl (OL.nil (AW.ret (aP.r ⟨_,.tmp rfl .nil,.le (bG.bool ((decide_eq_false λe=>hc (by rw[e])).symm))⟩))))
   .have hc:l.getD i 0=m.getD i 0:=by have:=Bc hc;omega
    exact AW.skip (AW.rg hE rfl (ai rfl (aI rfl rfl (by omega) (aF rfl (OL.nil (AW.again (x:=i) (i+1) (by omega) ⟨⟨by omega,λj hj=>by rcases Nat.lt_or_ge j i with h|h;exact h2 j h;obtain rfl:j=i:=(by omega);exact hc⟩,Knows.app .iq .bZ,.nil⟩))))))
  .try simp only[dX] at Bf
   exact AW.exit (AW.sg hE rfl (aF rfl (OL.nil (AW.ret (aP.r ⟨_,.tmp rfl .nil,.le (bG.bool ((decide_eq_true (yA hl 0 λj hj=>h2 j (by omega))).symm))⟩)))))
theorem Qw {p q:Rat}(hp:sz p<=68719476736)(hq:sz q<=68719476736):aj P F.Dq [vQ p,vQ q] (.d (dB (decide (p=q)))):=by
 have sp:=D9 hp;have sq:=D9 hq;have l1:=sp.ln;have l2:=sp.ld;have l3:=sq.ln;have l4:=sq.ld;refine aj.intro fn.Dq (by rfl) (by rfl) (aB (by rfl)) λE hE=>(AW.sg hE rfl (iI rfl rfl λb2=>(iI rfl rfl λb3=>(aF rfl (OL.nil (AW.sg hE rfl (aW fd.tZ rfl rfl ?_)))))))
 refine aG ce.bool rfl rfl rfl (aW fd.tZ rfl rfl (aG ce.bool rfl rfl rfl (eqb bt.bool rfl rfl (OL.split 9 rfl (λg=>?_) (λg=>?_)))))
 .have g:=lq g;refine ai rfl (OL.yes rfl (aW fd.sQ rfl rfl (OL.yes rfl (aG ce.aH rfl rfl rfl (OL.yes rfl (aW fd.sQ rfl rfl (OL.yes rfl ?_)))))));refine aG ce.aH rfl rfl rfl (OL.yes rfl (bJ rfl .iq (Vb (by omega) (by omega)) (OL.split 15 rfl (λk=>?_) (λk=>?_))))
  .have k:=lq k;refine oC rfl rfl (ai rfl (OL.yes rfl (aW fd.oD rfl rfl (OL.yes rfl (aG ce.aH rfl rfl rfl (OL.yes rfl (aW fd.oD rfl rfl ?_)))))));exact OL.yes rfl (aG ce.aH rfl rfl rfl (OL.yes rfl (bJ rfl .iq (Vb (by omega) (by omega)) (oC rfl rfl (aF rfl (OL.nil (AW.ret (aP.r ⟨_,.tmp rfl .nil,.le (bG.bool (decide_eq_decide.2 ⟨λe=>X8 (aj9 g k e),λe=>by rw[e]⟩))⟩))))))))
  .have k:=nS k;refine oC rfl rfl (ai rfl (OL.nd rfl (OL.nd rfl (OL.nd rfl (OL.nd rfl (OL.nd rfl (kL rfl rfl ?_)))))));exact aF rfl (OL.nil (AW.ret (aP.r ⟨_,.tmp rfl .nil,.le (bG.bool ((decide_eq_false λe=>k (by rw[e])).symm))⟩)))
 .have g:=nS g;refine ai rfl (OL.nd rfl (OL.nd rfl (OL.nd rfl (OL.nd rfl (OL.nd rfl (kL rfl rfl (ai rfl ?_)))))));refine OL.nd rfl (OL.nd rfl (OL.nd rfl (OL.nd rfl (OL.nd rfl (kL rfl rfl (aF rfl (OL.nil ?_)))))));exact AW.ret (aP.r ⟨_,.tmp rfl .nil,.le (bG.bool ((decide_eq_false λe=>g (by rw[e])).symm))⟩)
theorem RP  : aj P F.AV [.d (.sl [])] (.d (dB true)):=by
 refine aj.intro fn.AV (by rfl) (by rfl) (aB (by rfl)) λE hE=>(AW.sg hE rfl (aF rfl (OL.nil (AW.seq (AW.sg hE rfl (aF rfl (OL.nil ?_)))))))
 refine AW.block (AW.aV (α:=Unit) [(0,_)] [] (λ_u=>[(3,.d (dI 0))]) (λ_u=>[]) (λ_u=>True) (λ_u=>0) () (.cons (bK rfl) .nil) .nil ⟨trivial,.bZ,.nil⟩ ?_);intro _ _;refine AW.seq (AW.sg hE rfl (ai rfl (ai rfl (Ov sl.iC rfl rfl rfl (aY rfl rfl rfl (OL.nil (AW.cond rfl (λhno=>absurd hno (by simp)) (λ_=>?_))))))))
 exact AW.exit (AW.sg hE rfl (aF rfl (OL.nil (AW.ret (aP.r ⟨_,.tmp rfl .nil,.le vR⟩)))))
theorem Vd  : aj P F.Du [.d (.sl [])] (.d (.sl [])):=by
 refine aj.intro fn.Du (by rfl) (by rfl) (aB (by rfl)) λE hE=>(AW.sg hE rfl (oK rfl (OL.nil (AW.seq (AW.sg hE rfl (ai rfl (bJ rfl .bZ (RP) ?_)))))))
 refine nt rfl (OL.nil (qW rfl ?_));refine AW.skip (AW.sg hE rfl (oK rfl (OL.nil (AW.seq (AW.sg hE rfl (aF rfl (OL.nil ?_)))))));refine AW.block (AW.aV (α:=Unit) [(0,_),(2,_)] [] (λ_u=>[(3,.mt),(4,.d (dI 0))]) (λ_u=>[]) (λ_u=>True) (λ_u=>0) () (.cons (bK rfl) (.cons (Ea rfl) .nil)) .nil ⟨trivial,.iq,.nil⟩ ?_);intro _ _;refine AW.seq (AW.sg hE rfl (ai rfl (ai rfl (Ov sl.iC rfl rfl rfl (aY rfl rfl rfl (OL.nil (AW.cond rfl (λhno=>absurd hno (by simp)) (λ_=>?_))))))))
 exact AW.exit (AW.sg hE rfl (mvM rfl (oK rfl (OL.nil (AW.ret (aP.r ⟨_,.tmp rfl .nil,.le (bG.mt)⟩))))))
theorem Ve  : aj P F.Dt [.d (.sl []),.d (.sl [])] (.d (dB true)):=by
 refine aj.intro fn.Dt (by rfl) (by rfl) (aB (by rfl)) λE hE=>(AW.sg hE rfl (aF rfl (OL.nil (AW.seq (AW.sg hE rfl (ai rfl (Ov sl.iC rfl rfl rfl ?_)))))))
 refine ai rfl (Ov sl.iC rfl rfl rfl (eG rfl rfl (c:=false) (lY rfl) (OL.nil (qW rfl ?_))));refine AW.skip (AW.seq (AW.sg hE rfl (aF rfl (OL.nil (AW.block (AW.aV (α:=Unit) [(0,_),(1,_)] [] (λ_u=>[(5,.d (dI 0))]) (λ_u=>[]) (λ_u=>True) (λ_u=>0) () (.cons (bK rfl) (.cons (bK rfl) .nil)) .nil ⟨trivial,.bZ,.nil⟩ ?_))))));intro _ _;refine AW.seq (AW.sg hE rfl (ai rfl (ai rfl (Ov sl.iC rfl rfl rfl (aY rfl rfl rfl (OL.nil (AW.cond rfl (λhno=>absurd hno (by simp)) (λ_=>?_))))))))
 exact AW.exit (AW.sg hE rfl (aF rfl (OL.nil (AW.ret (aP.r ⟨_,.tmp rfl .nil,.le vR⟩)))))
theorem Iy  : aj P F.Ap [l7] (.d (dB true)):=by
 refine aj.intro fn.Ap (by rfl) (by rfl) (aB (by rfl)) λE hE=>(AW.sg hE rfl (iI rfl rfl λb1=>(aF rfl (OL.nil (AW.seq (AW.sg hE rfl (aW fd.nZ rfl rfl ?_)))))))
 refine aG ce.int rfl rfl rfl (eG rfl rfl (c:=true) (by exact FV (by omega)) (OL.nil (Ot rfl ?_)))
 refine AW.sg hE rfl (aW fd.nZ rfl rfl (aG ce.int rfl rfl rfl (qY rfl rfl (c:=true) (by exact decide_eq_true (by omega)) (ai rfl (OL.yes rfl (aW fd.nZ rfl rfl (OL.yes rfl ?_)))))))
 refine aG ce.int rfl rfl rfl (OL.yes rfl (xN rfl rfl (c:=true) (by exact decide_eq_true (by omega)) (oC rfl rfl (ai rfl (OL.yes rfl (aW fd.LZ rfl rfl (OL.yes rfl ?_)))))))
 refine aG ce.ints rfl rfl rfl (OL.yes rfl (Ov sl.ints rfl rfl rfl (OL.yes rfl (dR rfl rfl (c:=true) (decide_eq_true rfl) (oC rfl rfl (aF rfl (OL.nil ?_)))))));exact AW.ret (aP.r ⟨_,.tmp rfl .nil,.le vR⟩)
theorem ar4 {q:Rat}(hz:sz q<=68719476736):aj P F.yH [.d (dI 1),vW q] (.d (dB true)):=by
 refine aj.intro fn.yH (by rfl) (by rfl) (aB (by rfl)) λE hE=>(AW.sg hE rfl (iI rfl rfl λb3=>(aF rfl (OL.nil (AW.sg hE rfl (aW fd.gK rfl rfl (aO ag.Rat rfl rfl (vs:=[_,_,_]) rfl (aB rfl) ?_)))))))
 refine bd z.Rat pl.Rat (cs:=[_,_,_]) rfl (bJ rfl (.cons vR (.cons (ag0) .nil)) (Qw hz z0K) (aF rfl (OL.nil (AW.seq (AW.sg hE rfl (aW fd.zB rfl rfl (aG ce.aU rfl rfl rfl ?_)))))));refine Ov sl.aU rfl rfl rfl (iO rfl rfl (c:=false) (decide_eq_false (by simp)) (ai rfl (OL.yes rfl (ai rfl (OL.yes rfl (eG rfl rfl (c:=false) (by exact lY (by omega)) (OL.yes rfl ?_)))))))
 refine ai rfl (OL.nd rfl (OL.nd rfl (OL.yes rfl (kL rfl rfl (OL.yes rfl (ai rfl (OL.nd rfl ?_)))))));refine OL.nd rfl (OL.yes rfl (kL rfl rfl (kL rfl rfl (ai rfl (OL.yes rfl (ai rfl (OL.yes rfl ?_)))))));refine eG rfl rfl (c:=true) (by exact FV (by omega)) (OL.yes rfl (ai rfl (OL.yes rfl (aW fd.zA rfl rfl (OL.yes rfl (aG ce.bool rfl rfl rfl (OL.yes rfl ?_)))))))
 refine ai rfl (OL.yes rfl (aW fd.BB rfl rfl (OL.yes rfl (aG ce.int rfl rfl rfl (OL.yes rfl (eG rfl rfl (c:=false) (by exact lY (by omega)) (OL.yes rfl ?_)))))))
 refine kL rfl rfl (OL.yes rfl (oC rfl rfl (kL rfl rfl (ai rfl (OL.yes rfl (ai rfl (OL.yes rfl ?_)))))));refine eG rfl rfl (c:=true) (by exact FV (by omega)) (OL.yes rfl (ai rfl (OL.yes rfl (aW fd.BD rfl rfl (OL.yes rfl (aG ce.u64 rfl rfl rfl (OL.yes rfl ?_)))))))
 refine eG rfl rfl (c:=false) (by exact lY (by omega)) (OL.yes rfl (oC rfl rfl (kL rfl rfl (ai rfl (OL.yes rfl (ai rfl (OL.yes rfl ?_)))))))
 refine eG rfl rfl (c:=true) (by exact FV (by omega)) (OL.yes rfl (ai rfl (OL.yes rfl (aW fd.BF rfl rfl (OL.yes rfl (aG ce.iC rfl rfl rfl (OL.yes rfl ?_)))))))
 refine Ov sl.iC rfl rfl rfl (OL.yes rfl (iO rfl rfl (c:=false) (decide_eq_false (by simp)) (OL.yes rfl (oC rfl rfl (kL rfl rfl (OL.nil (qW rfl ?_)))))))
 refine AW.skip (AW.seq (AW.sg hE rfl (ai rfl (OL.nil (AW.block (AW.sg hE rfl (dR rfl rfl (c:=true) (by exact decide_eq_true (by omega)) ?_)))))))
 refine aF rfl (OL.nil (Ot rfl ?_));exact AW.sg hE rfl (aW fd.gK rfl rfl (aO ag.Rat rfl rfl (vs:=[_,_,_]) rfl (aB rfl) (bJ rfl vL (Va hz) (aF rfl (OL.nil (AW.ret (aP.r ⟨_,.tmp rfl .nil,.le vR⟩)))))))
theorem RQ {q:Rat}(hz:sz q<=68719476736):aj P F.Az [l7,vW q] (.d (dB true)):=by
 refine aj.intro fn.Az (by rfl) (by rfl) (aB (by rfl)) λE hE=>(AW.sg hE rfl (iI rfl rfl λb2=>(iI rfl rfl λb3=>(aF rfl (OL.nil (AW.seq (AW.sg hE rfl ?_)))))))
 refine aO ag.Ring rfl rfl (vs:=[_,_]) rfl (aB rfl) (bJ rfl .bZ (Iy) (nt rfl (OL.nil (qW rfl ?_))));refine AW.skip (AW.seq (AW.sg hE rfl (aW fd.nZ rfl rfl (aG ce.int rfl rfl rfl (eG rfl rfl (c:=true) (by exact FV (by omega)) (OL.nil (Ot rfl ?_)))))))
 exact AW.sg hE rfl (aW fd.nZ rfl rfl (aG ce.int rfl rfl rfl (aO ag.aA rfl rfl (vs:=[_,_,_,_,_,_,_,_]) rfl (aB rfl) (bJ rfl vL (ar4 hz) (aF rfl (OL.nil (AW.ret (aP.r ⟨_,.tmp rfl .nil,.le vR⟩))))))))
theorem Ol  : aj P F.CS [l7] (vW 0):=by
 refine aj.intro fn.CS (by rfl) (by rfl) (aB (by rfl)) λE hE=>(AW.sg hE rfl (iI rfl rfl λb1=>(al z.aA rfl λb2=>(OL.nil (AW.sg hE rfl (bd z.aA pl.aA (cs:=[_,_,_,_,_,_,_,_]) rfl (al z.aA rfl λb3=>?_)))))))
 refine eH sz.aA rfl rfl rfl rfl rfl (aB rfl) (cells2:=[_,_,_,_,_,_,_,_]) rfl (OL.nil (AW.seq (AW.sg hE rfl (aO ag.Ring rfl rfl (vs:=[_,_]) rfl (aB rfl) (bJ rfl .bZ (Iy) (nt rfl (OL.nil ?_)))))));refine qW rfl ?_;refine AW.skip (AW.sg hE rfl (aW fd.nZ rfl rfl (aG ce.int rfl rfl rfl (dR rfl rfl (c:=false) (by exact decide_eq_false (by omega)) (aW fd.zA rfl rfl (eH sz.bool rfl rfl rfl rfl rfl (aB rfl) (cells2:=[_,_,_,_,_,_,_,_]) rfl (OL.nil ?_)))))))
 refine AW.seq (AW.sg hE rfl (aF rfl (OL.nil (AW.block ?_))));refine AW.aV (α:=Unit) [(1,_),(2,_),(3,_)] [(1,_),(2,_)] (λ_u=>[(4,.d (dI 0))]) (λ_u=>[(3,.box b3 T.aA [.d (dB false),.mt,.mt,.d (dI 0),.d (dB false),.d (dU 0),.mt,.mt])]) (λ_u=>True) (λ_u=>0) () (.cons (gB rfl) (.cons (gB rfl) (.cons (gB rfl) .nil))) (.cons (iR rfl) (.cons (iR rfl) .nil)) ⟨trivial,.bZ,.cons rfl .nil⟩ ?_;intro _ _;refine AW.seq (AW.sg hE rfl (ai rfl (aW fd.LZ rfl rfl (aG ce.ints rfl rfl rfl (Ov sl.ints rfl rfl rfl (aY rfl rfl rfl (OL.nil ?_)))))));refine AW.cond rfl (λhno=>absurd hno (by simp)) (λ_=>?_)
 exact AW.exit (AW.sg hE rfl (aO ag.aA rfl rfl (vs:=[_,_,_,_,_,_,_,_]) rfl (aB rfl) (eH sz.aA rfl rfl rfl rfl rfl (aB rfl) (cells2:=[_,_,_,_,_,_,_,_]) rfl (OL.nil (AW.ret (aP.r ⟨_,.dV rfl rfl ag.aA (aB rfl) .nil,.le aj8⟩))))))
theorem Jr {q:Rat}(hz:sz q<=68719476736):aj P F.Dl [l7,vW q] (vW q):=by
 refine aj.intro fn.Dl (by rfl) (by rfl) (aB (by rfl)) λE hE=>(AW.sg hE rfl (iI rfl rfl λb2=>(iI rfl rfl λb3=>(al z.aA rfl λb4=>(OL.nil (AW.seq (AW.sg hE rfl ?_)))))))
 refine aO ag.Ring rfl rfl (vs:=[_,_]) rfl (aB rfl) (aO ag.aA rfl rfl (vs:=[_,_,_,_,_,_,_,_]) rfl (aB rfl) (bJ rfl .iq (RQ hz) (nt rfl (OL.nil (qW rfl ?_)))));refine AW.skip (AW.seq (AW.dg 1 [0,1,2,3,4,5,6,7,8,9,10,11,12,13,14] ay hE rfl (by kernel_rfl) (OI.aK (os:=[_,_,_,_,_,_,_,_,_,_,_,_,_,_,_]) rfl ?_)))
 refine aW fd.gK rfl rfl (aO ag.Rat rfl rfl (vs:=[_,_,_]) rfl (aB rfl) (bJ rfl .bZ (Z5 hz) (aW fd.BB rfl rfl (aG ce.int rfl rfl rfl (aW fd.zA rfl rfl (aG ce.bool rfl rfl rfl (aW fd.BD rfl rfl ?_)))))));refine aG ce.u64 rfl rfl rfl (aW fd.BF rfl rfl (aG ce.iC rfl rfl rfl (bJ rfl .bZ (Vd) (VX (cs:=[_,_,_,_,_,_,_,_]) z.aA pl.aA (ve (by exact evA rfl) (ve (by exact DV rfl) (ve (by exact DV rfl) (ve (by exact DV rfl) (ve (by exact DV rfl) (VW)))))) (by rfl) (al z.aA rfl λb5=>(eH sz.aA rfl rfl rfl rfl rfl (aB rfl) (cells2:=[_,_,_,_,_,_,_,_]) rfl (OL.nil ?_)))))))
 refine AW.seq (AW.sg hE rfl (aF rfl (OL.nil (AW.block ?_))));refine AW.aV (α:=Unit) [(2,_),(3,_),(4,_),(5,_)] [(2,_),(3,_),(4,_)] (λ_u=>[(6,.d (dI 0))]) (λ_u=>[(5,.box b5 T.aA [.d (dB (fZ q).neg),.d (aH (fZ q).num),.d (aH (fZ q).den),.d (dI 0),.d (dB false),.d (dU 0),.d (.sl []),.mt])]) (λ_u=>True) (λ_u=>0) () (.cons (gB rfl) (.cons (gB rfl) (.cons (gB rfl) (.cons (gB rfl) .nil)))) (.cons (iR rfl) (.cons (iR rfl) (.cons (iR rfl) .nil))) ⟨trivial,.bZ,.cons rfl .nil⟩ ?_;intro _ _;refine AW.seq (AW.sg hE rfl (ai rfl (aW fd.zB rfl rfl (aG ce.aU rfl rfl rfl (Ov sl.aU rfl rfl rfl (aY rfl rfl rfl (OL.nil ?_)))))));refine AW.cond rfl (λhno=>absurd hno (by simp)) (λ_=>?_)
 exact AW.exit (AW.sg hE rfl (aO ag.aA rfl rfl (vs:=[_,_,_,_,_,_,_,_]) rfl (aB rfl) (eH sz.aA rfl rfl rfl rfl rfl (aB rfl) (cells2:=[_,_,_,_,_,_,_,_]) rfl (OL.nil (AW.ret (aP.r ⟨_,.dV rfl rfl ag.aA (aB rfl) .nil,.le aU2⟩))))))
theorem aG1 {p q:Rat}(hp:sz p<=68719476736)(hq:sz q<=68719476736):aj P F.AO [vW p,vW q] (.d (dB (decide (p=q)))):=by
 refine aj.intro fn.AO (by rfl) (by rfl) (aB (by rfl)) λE hE=>(AW.sg hE rfl (iI rfl rfl λb2=>(iI rfl rfl λb3=>(aF rfl (OL.nil (AW.seq (AW.sg hE rfl ?_)))))))
 refine aW fd.gK rfl rfl (aO ag.Rat rfl rfl (vs:=[_,_,_]) rfl (aB rfl) (aW fd.gK rfl rfl (aO ag.Rat rfl rfl (vs:=[_,_,_]) rfl (aB rfl) (bJ rfl .iq (Qw hp hq) (OL.split 10 rfl (λg=>?_) (λg=>?_))))))
 .have g:=lq g;refine nt rfl (ai rfl (OL.yes rfl (aW fd.BB rfl rfl (OL.yes rfl (aG ce.int rfl rfl rfl (OL.yes rfl (aW fd.BB rfl rfl ?_)))))));refine OL.yes rfl (aG ce.int rfl rfl rfl (OL.yes rfl (eG rfl rfl (c:=false) (by exact lY (by omega)) (kL rfl rfl (ai rfl (OL.yes rfl (aW fd.zA rfl rfl ?_)))))))
  refine OL.yes rfl (aG ce.bool rfl rfl rfl (OL.yes rfl (aW fd.zA rfl rfl (OL.yes rfl (aG ce.bool rfl rfl rfl (OL.yes rfl (neb bt.bool rfl rfl ?_)))))));refine kL rfl rfl (ai rfl (OL.yes rfl (aW fd.BD rfl rfl (OL.yes rfl (aG ce.u64 rfl rfl rfl (OL.yes rfl (aW fd.BD rfl rfl ?_)))))));refine OL.yes rfl (aG ce.u64 rfl rfl rfl (OL.yes rfl (eG rfl rfl (c:=false) (by exact lY (by omega)) (kL rfl rfl (ai rfl (OL.yes rfl (aW fd.BF rfl rfl ?_)))))))
  refine OL.yes rfl (aG ce.iC rfl rfl rfl (OL.yes rfl (aW fd.BF rfl rfl (OL.yes rfl (aG ce.iC rfl rfl rfl (OL.yes rfl (bJ rfl .iq (Ve) ?_)))))));refine OL.yes rfl (nt rfl (kL rfl rfl (ai rfl (OL.yes rfl (aW fd.zB rfl rfl (OL.yes rfl (aG ce.aU rfl rfl rfl ?_)))))));refine OL.yes rfl (Ov sl.aU rfl rfl rfl (OL.yes rfl (aW fd.zB rfl rfl (OL.yes rfl (aG ce.aU rfl rfl rfl (OL.yes rfl (Ov sl.aU rfl rfl rfl ?_)))))));refine OL.yes rfl (eG rfl rfl (c:=false) (lY rfl) (kL rfl rfl (OL.nil (qW rfl ?_))));refine AW.skip (AW.seq (AW.sg hE rfl (aF rfl (OL.nil (AW.block (AW.aV (α:=Unit) [(2,_),(3,_)] [(2,_),(3,_)] (λ_u=>[(5,.d (dI 0))]) (λ_u=>[]) (λ_u=>True) (λ_u=>0) () (.cons (gB rfl) (.cons (gB rfl) .nil)) (.cons (iR rfl) (.cons (iR rfl) .nil)) ⟨trivial,.bZ,.nil⟩ ?_))))));intro _ _;refine AW.seq (AW.sg hE rfl (ai rfl (aW fd.zB rfl rfl (aG ce.aU rfl rfl rfl (Ov sl.aU rfl rfl rfl (aY rfl rfl rfl (OL.nil ?_)))))));refine AW.cond rfl (λhno=>absurd hno (by simp)) (λ_=>?_)
  exact AW.exit (AW.sg hE rfl (aF rfl (OL.nil (AW.ret (aP.r ⟨_,.tmp rfl .nil,.le (bG.bool ((decide_eq_true g).symm))⟩)))))
 .have g:=nS g;refine nt rfl (ai rfl (OL.nd rfl (OL.nd rfl (OL.nd rfl (OL.nd rfl (OL.nd rfl (oC rfl rfl ?_)))))));refine ai rfl (OL.nd rfl (OL.nd rfl (OL.nd rfl (OL.nd rfl (OL.nd rfl (oC rfl rfl (ai rfl ?_)))))));refine OL.nd rfl (OL.nd rfl (OL.nd rfl (OL.nd rfl (OL.nd rfl (oC rfl rfl (ai rfl (OL.nd rfl ?_)))))));refine OL.nd rfl (OL.nd rfl (OL.nd rfl (OL.nd rfl (OL.nd rfl (oC rfl rfl (ai rfl (OL.nd rfl ?_)))))));refine OL.nd rfl (OL.nd rfl (OL.nd rfl (OL.nd rfl (OL.nd rfl (OL.nd rfl (oC rfl rfl (OL.nil ?_)))))));refine Ot rfl ?_;exact AW.sg hE rfl (aF rfl (OL.nil (AW.ret (aP.r ⟨_,.tmp rfl .nil,.le (bG.bool ((decide_eq_false g).symm))⟩))))
theorem ar5 {q:Rat}(hz:sz q<=68719476736):aj P F.yI [l7,vW q] (.d (dB (decide (q=0)))):=by
 refine aj.intro fn.yI (by rfl) (by rfl) (aB (by rfl)) λE hE=>(AW.sg hE rfl (iI rfl rfl λb2=>(iI rfl rfl λb3=>(aF rfl (OL.nil (AW.seq (AW.dg 1 [0,1,2,3,4] ay hE rfl (by kernel_rfl) (OI.aK (os:=[_,_,_,_,_]) rfl ?_))))))))
 exact aO ag.aA rfl rfl (vs:=[_,_,_,_,_,_,_,_]) rfl (aB rfl) (aO ag.Ring rfl rfl (vs:=[_,_]) rfl (aB rfl) (bJ rfl .bZ (Ol) (bJ rfl .iq (aG1 hz z0K) (aF rfl (OL.nil (AW.ret (aP.r ⟨_,.tmp rfl .nil,.le vR⟩)))))))
theorem Xi {p q:Rat}(hp:sz p<=68719476736)(hq:sz q<=68719476736):aj P F.Dj [l7,vW p,vW q] (vW (p+q)):=by
 refine aj.intro fn.Dj (by rfl) (by rfl) (aB (by rfl)) λE hE=>(AW.sg hE rfl (iI rfl rfl λb3=>(iI rfl rfl λb4=>(iI rfl rfl λb5=>(al z.aA rfl λb6=>(OL.nil (AW.seq ?_)))))))
 refine AW.sg hE rfl (aO ag.Ring rfl rfl (vs:=[_,_]) rfl (aB rfl) (bJ rfl .bZ (Iy) (nt rfl (OL.nil (qW rfl ?_)))));refine AW.skip (AW.seq (AW.dg 1 [0,1,2,3,4,5,6,7] ay hE rfl (by kernel_rfl) (OI.aK (os:=[_,_,_,_,_,_,_,_]) rfl ?_)))
 refine aO ag.Ring rfl rfl (vs:=[_,_]) rfl (aB rfl) (aO ag.aA rfl rfl (vs:=[_,_,_,_,_,_,_,_]) rfl (aB rfl) (bJ rfl vL (Jr hp) (aO ag.Ring rfl rfl (vs:=[_,_]) rfl (aB rfl) (aO ag.aA rfl rfl (vs:=[_,_,_,_,_,_,_,_]) rfl (aB rfl) (bJ rfl vL (Jr hq) (eH sz.aA rfl rfl rfl rfl rfl (aB rfl) (cells2:=[_,_,_,_,_,_,_,_]) rfl (eH sz.aA rfl rfl rfl rfl rfl (aB rfl) (cells2:=[_,_,_,_,_,_,_,_]) rfl ?_)))))));refine OL.nil (AW.seq (AW.sg hE rfl (aW fd.nZ rfl rfl (aG ce.int rfl rfl rfl (OL.nil (AW.block (AW.sg hE rfl ?_)))))));refine dR rfl rfl (c:=true) (by exact decide_eq_true (by omega)) (aF rfl (OL.nil (Ot rfl ?_)))
 refine AW.sg hE rfl (aW fd.gK rfl rfl (aO ag.Rat rfl rfl (vs:=[_,_,_]) rfl (aB rfl) (aW fd.gK rfl rfl (aO ag.Rat rfl rfl (vs:=[_,_,_]) rfl (aB rfl) (bJ rfl vL (TN (x:=p) (y:=q) hp hq) (bd z.aA pl.aA (cs:=[_,_,_,_,_,_,_,_]) rfl (eH sz.aA rfl rfl rfl rfl rfl (aB rfl) (cells2:=[_,_,_,_,_,_,_,_]) rfl ?_)))))));exact OL.nil (AW.ret (aP.r ⟨_,.dV rfl rfl ag.aA (aB rfl) .nil,.le Jb⟩))

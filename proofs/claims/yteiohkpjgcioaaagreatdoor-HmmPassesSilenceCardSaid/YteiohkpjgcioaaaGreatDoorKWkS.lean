/-
  Walks of the specification of semirings, over the rational numbers (printed by mk2.py).
-/
import Derived.Test.YteiohkpjgcioaaaGreatDoorKWkI
set_option linter.unusedVariables false
set_option linter.unusedSimpArgs false
namespace Go.Proofs.YteiohkpjgcioaaaGreatDoor
open Go Go.AL
theorem aG9 {x y:Raw}(hx:x.Ok)(hy:y.Ok):ai P F.Cb [vw x,vw y] (vQ (x.q*y.q)):=by
 have a1:=I9 hx hx.ln hx.ld (by decide)
 have a2:=I9 hy hy.ln hy.ld (by decide)
 have sn1:=oK x.q;have sn2:=oK y.q;have sd1:=oL x.q;have sd2:=oL y.q;have sdd:=ja x.q.den y.q.den;have dd0:=Nat.mul_ne_zero x.q.den_nz y.q.den_nz;have snn:=ja x.q.num.natAbs y.q.num.natAbs;have hp:=RP (s:=decide (x.q.num<0)) (t:=decide (y.q.num<0)) (a:=x.q.num.natAbs) (b:=y.q.num.natAbs) (d1:=x.q.den) (d2:=y.q.den);rw[qP,qP] at hp;refine ai.intro fn.Cb (by rfl) (by rfl) (au (by rfl)) λE hE=>(AW.sg hE rfl (iC rfl rfl λb2=>(iC rfl rfl λb3=>(al z.Rat rfl λb4=>(OL.nil (AW.seq (AW.dg 1 [0,1,2,3,4,5] aj hE rfl (by kernel_rfl) (OI.aP (os:=[_,_,_,_,_,_]) rfl ?_))))))))
 refine aG ag.Rat rfl rfl (vs:=[_,_,_]) rfl (au rfl) (aY rfl .bC (Ai (by assumption)) (aG ag.Rat rfl rfl (vs:=[_,_,_]) rfl (au rfl) (aY rfl .bC (Ai (by assumption)) (dA sz.Rat rfl rfl rfl rfl rfl (au rfl) (cells2:=[_,_,_]) rfl (dA sz.Rat rfl rfl rfl rfl rfl (au rfl) (cells2:=[_,_,_]) rfl (OL.nil (AW.seq ?_)))))))
 refine AW.dg 1 [0,1,2,3,4,5,6,7,8,9,10,11,12,13,14,15,16] aj hE rfl (by kernel_rfl) (OI.aP (os:=[_,_,_,_,_,_,_,_,_,_,_,_,_,_,_,_,_]) rfl ?_)
 refine aF fd.tV rfl rfl (ak ce.bool rfl rfl rfl (aF fd.tV rfl rfl (ak ce.bool rfl rfl rfl (neb bt.bool rfl rfl (aF fd.sO rfl rfl (ak ce.aC rfl rfl rfl (aF fd.sO rfl rfl ?_)))))));refine ak ce.aC rfl rfl rfl (aY rfl .dR (Ah (a:=x.q.num.natAbs) (b:=y.q.num.natAbs) (by omega) (by omega)) (aG ag.Rat rfl rfl (vs:=[_,_,_]) rfl (au rfl) (aY rfl .bC (Gj) (aG ag.Rat rfl rfl (vs:=[_,_,_]) rfl (au rfl) (aY rfl .bC (Gj) (aY rfl .dR (Ah (a:=x.q.den) (b:=y.q.den) (by omega) (by omega)) (aY rfl .wL (Fg (s:=(decide (x.q.num<0) != decide (y.q.num<0))) (by omega) (by omega) dd0) ?_)))))))
 rw[<- hp];exact dA sz.Rat rfl rfl rfl rfl rfl (au rfl) (cells2:=[_,_,_]) rfl (OL.nil (AW.ret (aH.r ⟨_,.dD rfl rfl ag.Rat (au rfl) .nil,.ag (.cons (.le vR) (.cons (.le vR) (.cons (.le vR) .nil)))⟩)))
theorem OY {x y:Rat}(hx:sz x<=68719476736)(hy:sz y<=68719476736):ai P F.Cb [vQ x,vQ y] (vQ (x*y)):=by
 have h:=aG9 (x:=eU x) (y:=eU y) (qQ (by omega)) (qQ (by omega))
 rw[uM,uM] at h;exact h
theorem ae7 {q:Rat}(hz:sz q<=68719476736):ai P F.zZ [vQ q] (vQ q):=by
 have h:=Ai (r:=eU q) (qQ (by omega))
 rw[uM] at h;exact h
theorem VN {q:Rat}(hz:sz q<=68719476736):ai P F.uN [vQ q] (.d (dB true)):=by
 have h:=J7 (r:=eU q) (qQ (by omega))
 rw[I5] at h;exact h
theorem aT0 {q:Rat}:aZ (.ag [.d (dB (eU q).neg),.d (aC (eU q).num),.d (aC (eU q).den),.d (dI 0),.d (dB false),.d (dU 0),.d (.sl []),.mt]) (vW q) :=
 aZ.ag (.cons vR (.cons vR (.cons vR (.cons vR (.cons vR (.cons vR (.cons vR (.cons aZ.mt .nil))))))))
theorem VO {l m:List Nat}(nl:l.length<=8796093022208)(nm:m.length<=8796093022208):ai P F.D5 [.d (aC l),.d (aC m)] (.d (dB (decide (l=m)))):=by
 refine ai.intro fn.D5 (by rfl) (by rfl) (au (by rfl)) λE hE=>(AW.sg hE rfl (ay rfl (OL.nil (AW.seq (AW.sg hE rfl (ah rfl (eH sl.aC rfl rfl ?_)))))))
 refine ah rfl (eH sl.aC rfl rfl (bU rfl rfl rfl (OL.nil (AW.cond rfl (λh10=>?_) (λh10=>?_)))))
 .have hl:l.length≠m.length:=by have:=L6 h10;omega
  exact AW.sg hE rfl (ay rfl (OL.nil (AW.ret (aH.r ⟨_,.tmp rfl .nil,.le (aZ.bool ((decide_eq_false λe=>hl (by rw[e])).symm))⟩))))
 .have hl:l.length=m.length:=by have:=J3 h10;omega
  refine AW.skip (AW.seq (AW.sg hE rfl (ay rfl (OL.nil (AW.block ?_)))));refine AW.aK (α:=Nat) [(0,_),(1,_)] [] (λi=>[(5,.d (dI i))]) (λi=>[]) (λi=>i<=l.length/\∀ j,j<i->l.getD j 0=m.getD j 0) (λi=>l.length-i) 0 (.cons (bM rfl) (.cons (bM rfl) .nil)) .nil ⟨⟨Nat.zero_le _,λj hj=>by omega⟩,.bC,.nil⟩ ?_
  rintro i ⟨h1,h2⟩
  refine AW.seq (AW.sg hE rfl (ah rfl (ah rfl (eH sl.aC rfl rfl (aN rfl rfl rfl (OL.nil (AW.cond rfl (λAO=>?_) (λAO=>?_))))))))
  .try simp only[bY] at AO
   refine AW.skip (AW.seq (AW.block (AW.seq (AW.dg 1 [0,1,2,3,4,5,6,7,8] aj hE rfl (by kernel_rfl) (OI.aP (os:=[_,_,_,_,_,_,_,_,_]) rfl ?_)))))
   refine ah rfl (ah rfl (bg sl.aC 0 rfl rfl (by omega) rfl rfl (bP ce.u32 rfl (ah rfl (ah rfl (bg sl.aC 0 rfl rfl (by omega) rfl rfl (bP ce.u32 rfl ?_)))))))
   refine bU rfl rfl rfl (OL.nil (AW.cond rfl (λhc=>?_) (λhc=>?_)))
   .have hc:l.getD i 0≠m.getD i 0:=by have:=L6 hc;omega
    exact AW.sg hE rfl (ay rfl (OL.nil (AW.ret (aH.r ⟨_,.tmp rfl .nil,.le (aZ.bool ((decide_eq_false λe=>hc (by rw[e])).symm))⟩))))
   .have hc:l.getD i 0=m.getD i 0:=by have:=J3 hc;omega
    exact AW.skip (AW.rg hE rfl (ah rfl (aB rfl rfl (by omega) (ay rfl (OL.nil (AW.again (x:=i) (i+1) (by omega) ⟨⟨by omega,λj hj=>by rcases Nat.lt_or_ge j i with h|h;exact h2 j h;obtain rfl:j=i:=(by omega);exact hc⟩,Knows.app .dR .bC,.nil⟩))))))
  .try simp only[bY] at AO
   exact AW.exit (AW.sg hE rfl (ay rfl (OL.nil (AW.ret (aH.r ⟨_,.tmp rfl .nil,.le (aZ.bool ((decide_eq_true (iK hl 0 λj hj=>h2 j (by omega))).symm))⟩)))))
theorem QV {p q:Rat}(hp:sz p<=68719476736)(hq:sz q<=68719476736):ai P F.DY [vQ p,vQ q] (.d (dB (decide (p=q)))):=by
 have sp:=EX hp;have sq:=EX hq;have l1:=sp.ln;have l2:=sp.ld;have l3:=sq.ln;have l4:=sq.ld;refine ai.intro fn.DY (by rfl) (by rfl) (au (by rfl)) λE hE=>(AW.sg hE rfl (iC rfl rfl λb2=>(iC rfl rfl λb3=>(ay rfl (OL.nil (AW.sg hE rfl (aF fd.tV rfl rfl ?_)))))))
 refine ak ce.bool rfl rfl rfl (aF fd.tV rfl rfl (ak ce.bool rfl rfl rfl (eqb bt.bool rfl rfl (OL.split 9 rfl (λg=>?_) (λg=>?_)))))
 .have g:=jC g;refine ah rfl (OL.yes rfl (aF fd.sO rfl rfl (OL.yes rfl (ak ce.aC rfl rfl rfl (OL.yes rfl (aF fd.sO rfl rfl (OL.yes rfl ?_)))))));refine ak ce.aC rfl rfl rfl (OL.yes rfl (aY rfl .dR (VO (by omega) (by omega)) (OL.split 15 rfl (λk=>?_) (λk=>?_))))
  .have k:=jC k;refine iV rfl rfl (ah rfl (OL.yes rfl (aF fd.nZ rfl rfl (OL.yes rfl (ak ce.aC rfl rfl rfl (OL.yes rfl (aF fd.nZ rfl rfl ?_)))))));exact OL.yes rfl (ak ce.aC rfl rfl rfl (OL.yes rfl (aY rfl .dR (VO (by omega) (by omega)) (iV rfl rfl (ay rfl (OL.nil (AW.ret (aH.r ⟨_,.tmp rfl .nil,.le (aZ.bool (decide_eq_decide.2 ⟨λe=>Y8 (aq2 g k e),λe=>by rw[e]⟩))⟩))))))))
  .have k:=kK k;refine iV rfl rfl (ah rfl (OL.nd rfl (OL.nd rfl (OL.nd rfl (OL.nd rfl (OL.nd rfl (eG rfl rfl ?_)))))));exact ay rfl (OL.nil (AW.ret (aH.r ⟨_,.tmp rfl .nil,.le (aZ.bool ((decide_eq_false λe=>k (by rw[e])).symm))⟩)))
 .have g:=kK g;refine ah rfl (OL.nd rfl (OL.nd rfl (OL.nd rfl (OL.nd rfl (OL.nd rfl (eG rfl rfl (ah rfl ?_)))))));refine OL.nd rfl (OL.nd rfl (OL.nd rfl (OL.nd rfl (OL.nd rfl (eG rfl rfl (ay rfl (OL.nil ?_)))))));exact AW.ret (aH.r ⟨_,.tmp rfl .nil,.le (aZ.bool ((decide_eq_false λe=>g (by rw[e])).symm))⟩)
theorem Tq  : ai P F.Bo [.d (.sl [])] (.d (dB true)):=by
 refine ai.intro fn.Bo (by rfl) (by rfl) (au (by rfl)) λE hE=>(AW.sg hE rfl (ay rfl (OL.nil (AW.seq (AW.sg hE rfl (ay rfl (OL.nil ?_)))))))
 refine AW.block (AW.aK (α:=Unit) [(0,_)] [] (λ_u=>[(3,.d (dI 0))]) (λ_u=>[]) (λ_u=>True) (λ_u=>0) () (.cons (bM rfl) .nil) .nil ⟨trivial,.bC,.nil⟩ ?_);intro _ _;refine AW.seq (AW.sg hE rfl (ah rfl (ah rfl (Pz sl.iM rfl rfl rfl (aN rfl rfl rfl (OL.nil (AW.cond rfl (λhno=>absurd hno (by simp)) (λ_=>?_))))))))
 exact AW.exit (AW.sg hE rfl (ay rfl (OL.nil (AW.ret (aH.r ⟨_,.tmp rfl .nil,.le vR⟩)))))
theorem VP  : ai P F.DX [.d (.sl [])] (.d (.sl [])):=by
 refine ai.intro fn.DX (by rfl) (by rfl) (au (by rfl)) λE hE=>(AW.sg hE rfl (oq rfl (OL.nil (AW.seq (AW.sg hE rfl (ah rfl (aY rfl .bC (Tq) ?_)))))))
 refine nt rfl (OL.nil (jD rfl ?_));refine AW.skip (AW.sg hE rfl (oq rfl (OL.nil (AW.seq (AW.sg hE rfl (ay rfl (OL.nil ?_)))))));refine AW.block (AW.aK (α:=Unit) [(0,_),(2,_)] [] (λ_u=>[(3,.mt),(4,.d (dI 0))]) (λ_u=>[]) (λ_u=>True) (λ_u=>0) () (.cons (bM rfl) (.cons (zi rfl) .nil)) .nil ⟨trivial,.dR,.nil⟩ ?_);intro _ _;refine AW.seq (AW.sg hE rfl (ah rfl (ah rfl (Pz sl.iM rfl rfl rfl (aN rfl rfl rfl (OL.nil (AW.cond rfl (λhno=>absurd hno (by simp)) (λ_=>?_))))))))
 exact AW.exit (AW.sg hE rfl (mvM rfl (oq rfl (OL.nil (AW.ret (aH.r ⟨_,.tmp rfl .nil,.le (aZ.mt)⟩))))))
theorem VQ  : ai P F.DZ [.d (.sl []),.d (.sl [])] (.d (dB true)):=by
 refine ai.intro fn.DZ (by rfl) (by rfl) (au (by rfl)) λE hE=>(AW.sg hE rfl (ay rfl (OL.nil (AW.seq (AW.sg hE rfl (ah rfl (Pz sl.iM rfl rfl rfl ?_)))))))
 refine ah rfl (Pz sl.iM rfl rfl rfl (bU rfl rfl (c:=false) (eF rfl) (OL.nil (jD rfl ?_))));refine AW.skip (AW.seq (AW.sg hE rfl (ay rfl (OL.nil (AW.block (AW.aK (α:=Unit) [(0,_),(1,_)] [] (λ_u=>[(5,.d (dI 0))]) (λ_u=>[]) (λ_u=>True) (λ_u=>0) () (.cons (bM rfl) (.cons (bM rfl) .nil)) .nil ⟨trivial,.bC,.nil⟩ ?_))))));intro _ _;refine AW.seq (AW.sg hE rfl (ah rfl (ah rfl (Pz sl.iM rfl rfl rfl (aN rfl rfl rfl (OL.nil (AW.cond rfl (λhno=>absurd hno (by simp)) (λ_=>?_))))))))
 exact AW.exit (AW.sg hE rfl (ay rfl (OL.nil (AW.ret (aH.r ⟨_,.tmp rfl .nil,.le vR⟩)))))
theorem aH0 {n d:Int}(hn:-9223372036854775808<=n/\n<=9223372036854775807)(hd:-9223372036854775808<=d/\d<=9223372036854775807)(h0:d≠0):ai P F.Ji [.d (dI n),.d (dI d)] (vQ ((n:Rat) / (d:Rat))):=by
 refine ai.intro fn.Ji (by rfl) (by rfl) (au (by rfl)) λE hE=>(AW.sg hE rfl (al z.Rat rfl λb4=>(OL.nil (AW.sg hE rfl (ah rfl (ah rfl (aY rfl .dR (Cj hn hd h0) ?_)))))))
 refine BN rfl (ex rfl rfl (ex rfl rfl (al z.Rat rfl λb5=>(dA sz.Rat rfl rfl rfl rfl rfl (au rfl) (cells2:=[_,_,_]) rfl (ay rfl (OL.nil (AW.sg hE rfl ?_)))))));exact aG ag.Rat rfl rfl (vs:=[_,_,_]) rfl (au rfl) (dA sz.Rat rfl rfl rfl rfl rfl (au rfl) (cells2:=[_,_,_]) rfl (OL.nil (AW.ret (aH.r ⟨_,.dD rfl rfl ag.Rat (au rfl) .nil,.ag (.cons (.le vR) (.cons (.le vR) (.cons (.le vR) .nil)))⟩))))
theorem GK  : ai P F.A8 [l7] (.d (dB true)):=by
 refine ai.intro fn.A8 (by rfl) (by rfl) (au (by rfl)) λE hE=>(AW.sg hE rfl (iC rfl rfl λb1=>(ay rfl (OL.nil (AW.seq (AW.sg hE rfl (aF fd.nX rfl rfl ?_)))))))
 refine ak ce.int rfl rfl rfl (bU rfl rfl (c:=true) (by exact Eu (by omega)) (OL.nil (Hl rfl ?_)))
 refine AW.sg hE rfl (aF fd.nX rfl rfl (ak ce.int rfl rfl rfl (lG rfl rfl (c:=true) (by exact decide_eq_true (by omega)) (ah rfl (OL.yes rfl (aF fd.nX rfl rfl (OL.yes rfl ?_)))))))
 refine ak ce.int rfl rfl rfl (OL.yes rfl (x8 rfl rfl (c:=true) (by exact decide_eq_true (by omega)) (iV rfl rfl (ah rfl (OL.yes rfl (aF fd.J5 rfl rfl (OL.yes rfl ?_)))))))
 refine ak ce.ints rfl rfl rfl (OL.yes rfl (Pz sl.ints rfl rfl rfl (OL.yes rfl (dm rfl rfl (c:=true) (decide_eq_true rfl) (iV rfl rfl (ay rfl (OL.nil ?_)))))));exact AW.ret (aH.r ⟨_,.tmp rfl .nil,.le vR⟩)
theorem au0 {q:Rat}(hz:sz q<=68719476736):ai P F.yV [.d (dI 1),vW q] (.d (dB true)):=by
 refine ai.intro fn.yV (by rfl) (by rfl) (au (by rfl)) λE hE=>(AW.sg hE rfl (iC rfl rfl λb3=>(ay rfl (OL.nil (AW.sg hE rfl (aF fd.iP rfl rfl (aG ag.Rat rfl rfl (vs:=[_,_,_]) rfl (au rfl) ?_)))))))
 refine bd z.Rat pl.Rat (cs:=[_,_,_]) rfl (aY rfl (.cons vR (.cons (RS) .nil)) (QV hz z0K) (ay rfl (OL.nil (AW.seq (AW.sg hE rfl (aF fd.Ag rfl rfl (ak ce.aS rfl rfl rfl ?_)))))));refine Pz sl.aS rfl rfl rfl (iI rfl rfl (c:=false) (decide_eq_false (by simp)) (ah rfl (OL.yes rfl (ah rfl (OL.yes rfl (bU rfl rfl (c:=false) (by exact eF (by omega)) (OL.yes rfl ?_)))))))
 refine ah rfl (OL.nd rfl (OL.nd rfl (OL.yes rfl (eG rfl rfl (OL.yes rfl (ah rfl (OL.nd rfl ?_)))))));refine OL.nd rfl (OL.yes rfl (eG rfl rfl (eG rfl rfl (ah rfl (OL.yes rfl (ah rfl (OL.yes rfl ?_)))))));refine bU rfl rfl (c:=true) (by exact Eu (by omega)) (OL.yes rfl (ah rfl (OL.yes rfl (aF fd.Af rfl rfl (OL.yes rfl (ak ce.bool rfl rfl rfl (OL.yes rfl ?_)))))))
 refine ah rfl (OL.yes rfl (aF fd.Ce rfl rfl (OL.yes rfl (ak ce.int rfl rfl rfl (OL.yes rfl (bU rfl rfl (c:=false) (by exact eF (by omega)) (OL.yes rfl ?_)))))))
 refine eG rfl rfl (OL.yes rfl (iV rfl rfl (eG rfl rfl (ah rfl (OL.yes rfl (ah rfl (OL.yes rfl ?_)))))));refine bU rfl rfl (c:=true) (by exact Eu (by omega)) (OL.yes rfl (ah rfl (OL.yes rfl (aF fd.Cf rfl rfl (OL.yes rfl (ak ce.u64 rfl rfl rfl (OL.yes rfl ?_)))))))
 refine bU rfl rfl (c:=false) (by exact eF (by omega)) (OL.yes rfl (iV rfl rfl (eG rfl rfl (ah rfl (OL.yes rfl (ah rfl (OL.yes rfl ?_)))))))
 refine bU rfl rfl (c:=true) (by exact Eu (by omega)) (OL.yes rfl (ah rfl (OL.yes rfl (aF fd.Ci rfl rfl (OL.yes rfl (ak ce.iM rfl rfl rfl (OL.yes rfl ?_)))))))
 refine Pz sl.iM rfl rfl rfl (OL.yes rfl (iI rfl rfl (c:=false) (decide_eq_false (by simp)) (OL.yes rfl (iV rfl rfl (eG rfl rfl (OL.nil (jD rfl ?_)))))))
 refine AW.skip (AW.seq (AW.sg hE rfl (ah rfl (OL.nil (AW.block (AW.sg hE rfl (dm rfl rfl (c:=true) (by exact decide_eq_true (by omega)) ?_)))))))
 refine ay rfl (OL.nil (Hl rfl ?_));exact AW.sg hE rfl (aF fd.iP rfl rfl (aG ag.Rat rfl rfl (vs:=[_,_,_]) rfl (au rfl) (aY rfl vL (VN hz) (ay rfl (OL.nil (AW.ret (aH.r ⟨_,.tmp rfl .nil,.le vR⟩)))))))
theorem Tt {q:Rat}(hz:sz q<=68719476736):ai P F.Bg [l7,vW q] (.d (dB true)):=by
 refine ai.intro fn.Bg (by rfl) (by rfl) (au (by rfl)) λE hE=>(AW.sg hE rfl (iC rfl rfl λb2=>(iC rfl rfl λb3=>(ay rfl (OL.nil (AW.seq (AW.sg hE rfl ?_)))))))
 refine aG ag.Ring rfl rfl (vs:=[_,_]) rfl (au rfl) (aY rfl .bC (GK) (nt rfl (OL.nil (jD rfl ?_))));refine AW.skip (AW.seq (AW.sg hE rfl (aF fd.nX rfl rfl (ak ce.int rfl rfl rfl (bU rfl rfl (c:=true) (by exact Eu (by omega)) (OL.nil (Hl rfl ?_)))))))
 exact AW.sg hE rfl (aF fd.nX rfl rfl (ak ce.int rfl rfl rfl (aG ag.aA rfl rfl (vs:=[_,_,_,_,_,_,_,_]) rfl (au rfl) (aY rfl vL (au0 hz) (ay rfl (OL.nil (AW.ret (aH.r ⟨_,.tmp rfl .nil,.le vR⟩))))))))
theorem XZ  : ai P F.DI [l7] (vW 0):=by
 refine ai.intro fn.DI (by rfl) (by rfl) (au (by rfl)) λE hE=>(AW.sg hE rfl (iC rfl rfl λb1=>(al z.aA rfl λb2=>(OL.nil (AW.sg hE rfl (bd z.aA pl.aA (cs:=[_,_,_,_,_,_,_,_]) rfl (al z.aA rfl λb3=>?_)))))))
 refine dA sz.aA rfl rfl rfl rfl rfl (au rfl) (cells2:=[_,_,_,_,_,_,_,_]) rfl (OL.nil (AW.seq (AW.sg hE rfl (aG ag.Ring rfl rfl (vs:=[_,_]) rfl (au rfl) (aY rfl .bC (GK) (nt rfl (OL.nil ?_)))))));refine jD rfl ?_;refine AW.skip (AW.sg hE rfl (aF fd.nX rfl rfl (ak ce.int rfl rfl rfl (dm rfl rfl (c:=false) (by exact decide_eq_false (by omega)) (aF fd.Af rfl rfl (dA sz.bool rfl rfl rfl rfl rfl (au rfl) (cells2:=[_,_,_,_,_,_,_,_]) rfl (OL.nil ?_)))))))
 refine AW.seq (AW.sg hE rfl (ay rfl (OL.nil (AW.block ?_))));refine AW.aK (α:=Unit) [(1,_),(2,_),(3,_)] [(1,_),(2,_)] (λ_u=>[(4,.d (dI 0))]) (λ_u=>[(3,.box b3 T.aA [.d (dB false),.mt,.mt,.d (dI 0),.d (dB false),.d (dU 0),.mt,.mt])]) (λ_u=>True) (λ_u=>0) () (.cons (fG rfl) (.cons (fG rfl) (.cons (fG rfl) .nil))) (.cons (iJ rfl) (.cons (iJ rfl) .nil)) ⟨trivial,.bC,.cons rfl .nil⟩ ?_;intro _ _;refine AW.seq (AW.sg hE rfl (ah rfl (aF fd.J5 rfl rfl (ak ce.ints rfl rfl rfl (Pz sl.ints rfl rfl rfl (aN rfl rfl rfl (OL.nil ?_)))))));refine AW.cond rfl (λhno=>absurd hno (by simp)) (λ_=>?_)
 exact AW.exit (AW.sg hE rfl (aG ag.aA rfl rfl (vs:=[_,_,_,_,_,_,_,_]) rfl (au rfl) (dA sz.aA rfl rfl rfl rfl rfl (au rfl) (cells2:=[_,_,_,_,_,_,_,_]) rfl (OL.nil (AW.ret (aH.r ⟨_,.dD rfl rfl ag.aA (au rfl) .nil,.le aq1⟩))))))
theorem aM5  : ai P F.F8 [l7] (vW 1):=by
 refine ai.intro fn.F8 (by rfl) (by rfl) (au (by rfl)) λE hE=>(AW.sg hE rfl (iC rfl rfl λb1=>(al z.aA rfl λb2=>(OL.nil (AW.sg hE rfl (bd z.aA pl.aA (cs:=[_,_,_,_,_,_,_,_]) rfl (al z.aA rfl λb3=>?_)))))))
 refine dA sz.aA rfl rfl rfl rfl rfl (au rfl) (cells2:=[_,_,_,_,_,_,_,_]) rfl (OL.nil (AW.seq (AW.sg hE rfl (aG ag.Ring rfl rfl (vs:=[_,_]) rfl (au rfl) (aY rfl .bC (GK) (nt rfl (OL.nil ?_)))))));refine jD rfl ?_;refine AW.skip (AW.seq (AW.sg hE rfl (aF fd.nX rfl rfl (ak ce.int rfl rfl rfl (OL.nil (AW.block (AW.seq ?_)))))));refine AW.sg hE rfl (dm rfl rfl (c:=true) (by exact decide_eq_true (by omega)) (ay rfl (OL.nil (Hl rfl ?_))))
 refine AW.skip (Hl rfl ?_);refine AW.rg hE rfl (aY rfl .dR (aH0 (n:=1) (d:=1) (by decide) (by decide) (by decide)) ?_)
 rw[q11];refine aF fd.iP rfl rfl (dA sz.Rat rfl rfl rfl rfl rfl (au rfl) (cells2:=[_,_,_,_,_,_,_,_]) rfl (OL.nil (AW.seq (AW.sg hE rfl (ay rfl (OL.nil (AW.block ?_)))))));refine AW.aK (α:=Unit) [(1,_),(2,_),(3,_)] [(1,_),(2,_)] (λ_u=>[(4,.d (dI 0))]) (λ_u=>[(3,.box b3 T.aA [.d (dB (eU 1).neg),.d (aC (eU 1).num),.d (aC (eU 1).den),.d (dI 0),.d (dB false),.d (dU 0),.mt,.mt])]) (λ_u=>True) (λ_u=>0) () (.cons (fG rfl) (.cons (fG rfl) (.cons (fG rfl) .nil))) (.cons (iJ rfl) (.cons (iJ rfl) .nil)) ⟨trivial,.bC,.cons rfl .nil⟩ ?_;intro _ _;refine AW.seq (AW.sg hE rfl (ah rfl (aF fd.J5 rfl rfl (ak ce.ints rfl rfl rfl (Pz sl.ints rfl rfl rfl (aN rfl rfl rfl (OL.nil ?_)))))));refine AW.cond rfl (λhno=>absurd hno (by simp)) (λ_=>?_)
 exact AW.exit (AW.sg hE rfl (aG ag.aA rfl rfl (vs:=[_,_,_,_,_,_,_,_]) rfl (au rfl) (dA sz.aA rfl rfl rfl rfl rfl (au rfl) (cells2:=[_,_,_,_,_,_,_,_]) rfl (OL.nil (AW.ret (aH.r ⟨_,.dD rfl rfl ag.aA (au rfl) .nil,.le KH⟩))))))
theorem KQ {q:Rat}(hz:sz q<=68719476736):ai P F.DV [l7,vW q] (vW q):=by
 refine ai.intro fn.DV (by rfl) (by rfl) (au (by rfl)) λE hE=>(AW.sg hE rfl (iC rfl rfl λb2=>(iC rfl rfl λb3=>(al z.aA rfl λb4=>(OL.nil (AW.seq (AW.sg hE rfl ?_)))))))
 refine aG ag.Ring rfl rfl (vs:=[_,_]) rfl (au rfl) (aG ag.aA rfl rfl (vs:=[_,_,_,_,_,_,_,_]) rfl (au rfl) (aY rfl .dR (Tt hz) (nt rfl (OL.nil (jD rfl ?_)))));refine AW.skip (AW.seq (AW.dg 1 [0,1,2,3,4,5,6,7,8,9,10,11,12,13,14] aj hE rfl (by kernel_rfl) (OI.aP (os:=[_,_,_,_,_,_,_,_,_,_,_,_,_,_,_]) rfl ?_)))
 refine aF fd.iP rfl rfl (aG ag.Rat rfl rfl (vs:=[_,_,_]) rfl (au rfl) (aY rfl .bC (ae7 hz) (aF fd.Ce rfl rfl (ak ce.int rfl rfl rfl (aF fd.Af rfl rfl (ak ce.bool rfl rfl rfl (aF fd.Cf rfl rfl ?_)))))));refine ak ce.u64 rfl rfl rfl (aF fd.Ci rfl rfl (ak ce.iM rfl rfl rfl (aY rfl .bC (VP) (WL (cs:=[_,_,_,_,_,_,_,_]) z.aA pl.aA (qA (by exact evA rfl) (qA (by exact AX rfl) (qA (by exact AX rfl) (qA (by exact AX rfl) (qA (by exact AX rfl) (WJ)))))) (by rfl) (al z.aA rfl λb5=>(dA sz.aA rfl rfl rfl rfl rfl (au rfl) (cells2:=[_,_,_,_,_,_,_,_]) rfl (OL.nil ?_)))))))
 refine AW.seq (AW.sg hE rfl (ay rfl (OL.nil (AW.block ?_))));refine AW.aK (α:=Unit) [(2,_),(3,_),(4,_),(5,_)] [(2,_),(3,_),(4,_)] (λ_u=>[(6,.d (dI 0))]) (λ_u=>[(5,.box b5 T.aA [.d (dB (eU q).neg),.d (aC (eU q).num),.d (aC (eU q).den),.d (dI 0),.d (dB false),.d (dU 0),.d (.sl []),.mt])]) (λ_u=>True) (λ_u=>0) () (.cons (fG rfl) (.cons (fG rfl) (.cons (fG rfl) (.cons (fG rfl) .nil)))) (.cons (iJ rfl) (.cons (iJ rfl) (.cons (iJ rfl) .nil))) ⟨trivial,.bC,.cons rfl .nil⟩ ?_;intro _ _;refine AW.seq (AW.sg hE rfl (ah rfl (aF fd.Ag rfl rfl (ak ce.aS rfl rfl rfl (Pz sl.aS rfl rfl rfl (aN rfl rfl rfl (OL.nil ?_)))))));refine AW.cond rfl (λhno=>absurd hno (by simp)) (λ_=>?_)
 exact AW.exit (AW.sg hE rfl (aG ag.aA rfl rfl (vs:=[_,_,_,_,_,_,_,_]) rfl (au rfl) (dA sz.aA rfl rfl rfl rfl rfl (au rfl) (cells2:=[_,_,_,_,_,_,_,_]) rfl (OL.nil (AW.ret (aH.r ⟨_,.dD rfl rfl ag.aA (au rfl) .nil,.le aT0⟩))))))
theorem aH1 {p q:Rat}(hp:sz p<=68719476736)(hq:sz q<=68719476736):ai P F.Bl [vW p,vW q] (.d (dB (decide (p=q)))):=by
 refine ai.intro fn.Bl (by rfl) (by rfl) (au (by rfl)) λE hE=>(AW.sg hE rfl (iC rfl rfl λb2=>(iC rfl rfl λb3=>(ay rfl (OL.nil (AW.seq (AW.sg hE rfl ?_)))))))
 refine aF fd.iP rfl rfl (aG ag.Rat rfl rfl (vs:=[_,_,_]) rfl (au rfl) (aF fd.iP rfl rfl (aG ag.Rat rfl rfl (vs:=[_,_,_]) rfl (au rfl) (aY rfl .dR (QV hp hq) (OL.split 10 rfl (λg=>?_) (λg=>?_))))))
 .have g:=jC g;refine nt rfl (ah rfl (OL.yes rfl (aF fd.Ce rfl rfl (OL.yes rfl (ak ce.int rfl rfl rfl (OL.yes rfl (aF fd.Ce rfl rfl ?_)))))));refine OL.yes rfl (ak ce.int rfl rfl rfl (OL.yes rfl (bU rfl rfl (c:=false) (by exact eF (by omega)) (eG rfl rfl (ah rfl (OL.yes rfl (aF fd.Af rfl rfl ?_)))))))
  refine OL.yes rfl (ak ce.bool rfl rfl rfl (OL.yes rfl (aF fd.Af rfl rfl (OL.yes rfl (ak ce.bool rfl rfl rfl (OL.yes rfl (neb bt.bool rfl rfl ?_)))))));refine eG rfl rfl (ah rfl (OL.yes rfl (aF fd.Cf rfl rfl (OL.yes rfl (ak ce.u64 rfl rfl rfl (OL.yes rfl (aF fd.Cf rfl rfl ?_)))))));refine OL.yes rfl (ak ce.u64 rfl rfl rfl (OL.yes rfl (bU rfl rfl (c:=false) (by exact eF (by omega)) (eG rfl rfl (ah rfl (OL.yes rfl (aF fd.Ci rfl rfl ?_)))))))
  refine OL.yes rfl (ak ce.iM rfl rfl rfl (OL.yes rfl (aF fd.Ci rfl rfl (OL.yes rfl (ak ce.iM rfl rfl rfl (OL.yes rfl (aY rfl .dR (VQ) ?_)))))));refine OL.yes rfl (nt rfl (eG rfl rfl (ah rfl (OL.yes rfl (aF fd.Ag rfl rfl (OL.yes rfl (ak ce.aS rfl rfl rfl ?_)))))));refine OL.yes rfl (Pz sl.aS rfl rfl rfl (OL.yes rfl (aF fd.Ag rfl rfl (OL.yes rfl (ak ce.aS rfl rfl rfl (OL.yes rfl (Pz sl.aS rfl rfl rfl ?_)))))));refine OL.yes rfl (bU rfl rfl (c:=false) (eF rfl) (eG rfl rfl (OL.nil (jD rfl ?_))));refine AW.skip (AW.seq (AW.sg hE rfl (ay rfl (OL.nil (AW.block (AW.aK (α:=Unit) [(2,_),(3,_)] [(2,_),(3,_)] (λ_u=>[(5,.d (dI 0))]) (λ_u=>[]) (λ_u=>True) (λ_u=>0) () (.cons (fG rfl) (.cons (fG rfl) .nil)) (.cons (iJ rfl) (.cons (iJ rfl) .nil)) ⟨trivial,.bC,.nil⟩ ?_))))));intro _ _;refine AW.seq (AW.sg hE rfl (ah rfl (aF fd.Ag rfl rfl (ak ce.aS rfl rfl rfl (Pz sl.aS rfl rfl rfl (aN rfl rfl rfl (OL.nil ?_)))))));refine AW.cond rfl (λhno=>absurd hno (by simp)) (λ_=>?_)
  exact AW.exit (AW.sg hE rfl (ay rfl (OL.nil (AW.ret (aH.r ⟨_,.tmp rfl .nil,.le (aZ.bool ((decide_eq_true g).symm))⟩)))))
 .have g:=kK g;refine nt rfl (ah rfl (OL.nd rfl (OL.nd rfl (OL.nd rfl (OL.nd rfl (OL.nd rfl (iV rfl rfl ?_)))))));refine ah rfl (OL.nd rfl (OL.nd rfl (OL.nd rfl (OL.nd rfl (OL.nd rfl (iV rfl rfl (ah rfl ?_)))))));refine OL.nd rfl (OL.nd rfl (OL.nd rfl (OL.nd rfl (OL.nd rfl (iV rfl rfl (ah rfl (OL.nd rfl ?_)))))));refine OL.nd rfl (OL.nd rfl (OL.nd rfl (OL.nd rfl (OL.nd rfl (iV rfl rfl (ah rfl (OL.nd rfl ?_)))))));refine OL.nd rfl (OL.nd rfl (OL.nd rfl (OL.nd rfl (OL.nd rfl (OL.nd rfl (iV rfl rfl (OL.nil ?_)))))));refine Hl rfl ?_;exact AW.sg hE rfl (ay rfl (OL.nil (AW.ret (aH.r ⟨_,.tmp rfl .nil,.le (aZ.bool ((decide_eq_false g).symm))⟩))))
theorem au1 {q:Rat}(hz:sz q<=68719476736):ai P F.yU [l7,vW q] (.d (dB (decide (q=0)))):=by
 refine ai.intro fn.yU (by rfl) (by rfl) (au (by rfl)) λE hE=>(AW.sg hE rfl (iC rfl rfl λb2=>(iC rfl rfl λb3=>(ay rfl (OL.nil (AW.seq (AW.dg 1 [0,1,2,3,4] aj hE rfl (by kernel_rfl) (OI.aP (os:=[_,_,_,_,_]) rfl ?_))))))))
 exact aG ag.aA rfl rfl (vs:=[_,_,_,_,_,_,_,_]) rfl (au rfl) (aG ag.Ring rfl rfl (vs:=[_,_]) rfl (au rfl) (aY rfl .bC (XZ) (aY rfl .dR (aH1 hz z0K) (ay rfl (OL.nil (AW.ret (aH.r ⟨_,.tmp rfl .nil,.le vR⟩)))))))
theorem X0 {p q:Rat}(hp:sz p<=68719476736)(hq:sz q<=68719476736):ai P F.DJ [l7,vW p,vW q] (vW (p+q)):=by
 refine ai.intro fn.DJ (by rfl) (by rfl) (au (by rfl)) λE hE=>(AW.sg hE rfl (iC rfl rfl λb3=>(iC rfl rfl λb4=>(iC rfl rfl λb5=>(al z.aA rfl λb6=>(OL.nil (AW.seq ?_)))))))
 refine AW.sg hE rfl (aG ag.Ring rfl rfl (vs:=[_,_]) rfl (au rfl) (aY rfl .bC (GK) (nt rfl (OL.nil (jD rfl ?_)))));refine AW.skip (AW.seq (AW.dg 1 [0,1,2,3,4,5,6,7] aj hE rfl (by kernel_rfl) (OI.aP (os:=[_,_,_,_,_,_,_,_]) rfl ?_)))
 refine aG ag.Ring rfl rfl (vs:=[_,_]) rfl (au rfl) (aG ag.aA rfl rfl (vs:=[_,_,_,_,_,_,_,_]) rfl (au rfl) (aY rfl vL (KQ hp) (aG ag.Ring rfl rfl (vs:=[_,_]) rfl (au rfl) (aG ag.aA rfl rfl (vs:=[_,_,_,_,_,_,_,_]) rfl (au rfl) (aY rfl vL (KQ hq) (dA sz.aA rfl rfl rfl rfl rfl (au rfl) (cells2:=[_,_,_,_,_,_,_,_]) rfl (dA sz.aA rfl rfl rfl rfl rfl (au rfl) (cells2:=[_,_,_,_,_,_,_,_]) rfl ?_)))))));refine OL.nil (AW.seq (AW.sg hE rfl (aF fd.nX rfl rfl (ak ce.int rfl rfl rfl (OL.nil (AW.block (AW.sg hE rfl ?_)))))));refine dm rfl rfl (c:=true) (by exact decide_eq_true (by omega)) (ay rfl (OL.nil (Hl rfl ?_)))
 refine AW.sg hE rfl (aF fd.iP rfl rfl (aG ag.Rat rfl rfl (vs:=[_,_,_]) rfl (au rfl) (aF fd.iP rfl rfl (aG ag.Rat rfl rfl (vs:=[_,_,_]) rfl (au rfl) (aY rfl vL (Cm (x:=p) (y:=q) hp hq) (bd z.aA pl.aA (cs:=[_,_,_,_,_,_,_,_]) rfl (dA sz.aA rfl rfl rfl rfl rfl (au rfl) (cells2:=[_,_,_,_,_,_,_,_]) rfl ?_)))))));exact OL.nil (AW.ret (aH.r ⟨_,.dD rfl rfl ag.aA (au rfl) .nil,.le KH⟩))

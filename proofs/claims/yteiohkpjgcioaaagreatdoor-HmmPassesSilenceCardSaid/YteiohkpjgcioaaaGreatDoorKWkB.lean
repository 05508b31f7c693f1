/-
  Walks of package semiring, over the rational numbers, part 2 (printed by mk2.py).
-/
import Derived.Test.YteiohkpjgcioaaaGreatDoorKMod78
set_option linter.unusedVariables false
set_option linter.unusedSimpArgs false
namespace Go.AL
open Go Go.BigFrame
structure Fv (a b:Au):Prop where
 st:a.st=b.st
 sym:a.sym=b.sym
 ini:a.ini=b.ini
 fin:a.fin=b.fin
 ent:∀ s i j,gV a.aX s i j=gV b.aX s i j
def kH (a:Au):Au:={ a with aX:=uT a.aX }
section
variable {a b c d:Au}{w:List Int}{s i j:Nat}
theorem ac6 {n:Nat}{f g:Nat->Nat->Rat}(h:∀ i j,i<n->j<n->f i j=g i j):mtx n f=mtx n g:=by
 unfold mtx;refine List.map_congr_left λi hi=>List.map_congr_left λj hj=>h i j (List.mem_range.1 hi) (List.mem_range.1 hj)
theorem Fv.bj1 (h:Fv a b)(r q:List Au)(hr:∀ s i j,Ob r s i j=Ob q s i j):Ob (a::r) s i j=Ob (b::q) s i j:=by
 rw[Ob,Ob,h.st,h.ent,hr]
theorem Fv.Vl (h:Fv a b):iR [a]=iR [b]:=by
 unfold iR;have e:(λs=>mtx (Hz [a]) (Ob [a] s))=λs=>mtx (Hz [b]) (Ob [b] s):=by
  funext s;rw[kG,kG,h.st];exact ac6 λi j _ _=>h.bj1 [] [] λ_ _ _=>rfl
 rw[e,kG,kG,h.st];simp only[List.flatMap_cons,List.flatMap_nil,aQ9,List.getD_cons_zero,h.ini,h.fin,h.sym]
theorem Fv.ser (h:Fv a b):G7 a=G7 b:=by unfold G7;rw[h.Vl]
theorem Fv.refl (a:Au):Fv a a:=⟨rfl,rfl,rfl,rfl,λ_ _ _=>rfl⟩
theorem QD (a:Au):Fv (kH a) a:=⟨rfl,rfl,rfl,rfl,λ_ _ _=>Gw⟩
theorem Au.Ok.form (h:a.Ok):(kH a).Ok:=⟨h.qR,h.ini,h.fin,gu.form (p:=λf l t=>f<a.st/\t<a.st/\1<=l/\l<=a.sym) h.arc⟩
end
structure aq0 where
 st:Int
 ini:List Int
 fin:List Int
 aX:List Int
instance:Inhabited aq0:=⟨⟨0,[],[],[]⟩⟩
section
variable {m:aq0}{sym most:Nat}{k v:Int}{l:List Int}
structure Au.Sz (a:Au) (B N:Nat):Prop where
 ini:Small B a.ini
 fin:Small B a.fin
 arc:∀ x,x ∈ a.aX->sz x.q<=B
 num:a.aX.length<=N
end
abbrev dW (q:Rat):D:=.ag [dB (eU q).neg,aC (eU q).num,aC (eU q).den,dI 0,dB false,dU 0,.sl [],.sl []]
abbrev vW (q:Rat):V:=.ag [.d (dB (eU q).neg),.d (aC (eU q).num),.d (aC (eU q).den),.d (dI 0),.d (dB false),.d (dU 0),.d (.sl []),.d (.sl [])]
abbrev yE (l:List Rat):D:=.sl (l.map dW)
abbrev iO (x:aT):D:=.ag [dI x.f,dI x.l,dI x.t,dB (eU x.q).neg,aC (eU x.q).num,aC (eU x.q).den,dI 0,dB false,dU 0,.sl [],.sl []]
abbrev KG (x:aT):V:=.ag [.d (dI x.f),.d (dI x.l),.d (dI x.t),.d (dB (eU x.q).neg),.d (aC (eU x.q).num),.d (aC (eU x.q).den),.d (dI 0),.d (dB false),.d (dU 0),.d (.sl []),.d (.sl [])]
abbrev oW (l:List aT):D:=.sl (l.map iO)
abbrev l7:V:=.ag [.d (dI 1),.d (.sl [])]
abbrev Gx (a:Au):V:=.ag [.d (dI 1),.d (.sl []),.d (dI a.sym),.d (dI a.st),.d (yE a.ini),.d (yE a.fin),.d (oW a.aX)]
section
variable {q:Rat}{x:aT}
theorem aq1:aZ (.ag [.d (dB false),.mt,.mt,.d (dI 0),.d (dB false),.d (dU 0),.mt,.mt]) (vW 0):=by
 unfold vW;rw[qp];exact aZ.ag (.cons vR (.cons aZ.mt (.cons aZ.mt (.cons vR (.cons vR (.cons vR (.cons aZ.mt (.cons aZ.mt .nil))))))))
theorem KH:aZ (.ag [.d (dB (eU q).neg),.d (aC (eU q).num),.d (aC (eU q).den),.d (dI 0),.d (dB false),.d (dU 0),.mt,.mt]) (vW q) :=
 aZ.ag (.cons vR (.cons vR (.cons vR (.cons vR (.cons vR (.cons vR (.cons aZ.mt (.cons aZ.mt .nil))))))))
end
end Go.AL
namespace Go.Proofs.YteiohkpjgcioaaaGreatDoor
open Go Go.AL
theorem Y8 {p q:Rat}(h:eU p=eU q):p=q:=by rw[<- uM p,h,uM]
theorem aq2 {r s:Raw}(h1:r.neg=s.neg)(h2:r.num=s.num)(h3:r.den=s.den):r=s:=by cases r;cases s;simp_all
theorem QE {l m:List Nat}(nl:l.length<=8796093022208)(nm:m.length<=8796093022208):ai P F.jk [.d (aC l),.d (aC m)] (.d (dB (decide (l=m)))):=by
 refine ai.intro fn.jk (by rfl) (by rfl) (au (by rfl)) λE hE=>(AW.sg hE rfl (ay rfl (OL.nil (AW.seq (AW.sg hE rfl (ah rfl (eH sl.aC rfl rfl ?_)))))))
 refine ah rfl (eH sl.aC rfl rfl (bU rfl rfl rfl (OL.nil (AW.cond rfl (λh10=>?_) (λh10=>?_)))))
 .have hl:l.length≠m.length:=by have:=L6 h10;omega
  exact AW.sg hE rfl (ay rfl (OL.nil (AW.ret (aH.r ⟨_,.tmp rfl .nil,.le (aZ.bool ((decide_eq_false λe=>hl (by rw[e])).symm))⟩))))
 .have hl:l.length=m.length:=by have:=J3 h10;omega
  refine AW.skip (AW.seq (AW.sg hE rfl (ah rfl (eH sl.aC rfl rfl (ah rfl (OL.nil (AW.block ?_)))))));refine AW.aK (α:=Nat) [(0,_),(1,_),(12,_)] [] (λi=>[(13,.d (dI i))]) (λi=>[]) (λi=>i<=l.length/\∀ j,j<i->l.getD j 0=m.getD j 0) (λi=>l.length-i) 0 (.cons (bM rfl) (.cons (bM rfl) (.cons (bM rfl) .nil))) .nil ⟨⟨Nat.zero_le _,λj hj=>by omega⟩,.bC,.nil⟩ ?_
  rintro i ⟨h1,h2⟩
  refine AW.sg hE rfl (aN rfl rfl rfl (OL.nil (AW.seq (AW.cond rfl (λAO=>?_) (λAO=>?_)))))
  .try simp only[bY] at AO
   refine AW.skip (AW.seq (AW.block (AW.sg hE rfl (ah rfl (ay rfl (OL.nil (AW.seq ?_)))))));refine AW.dg 1 [0,1,2,3,4,5,6,7,8] aj hE rfl (by kernel_rfl) (OI.aP (os:=[_,_,_,_,_,_,_,_,_]) rfl ?_)
   refine ah rfl (ah rfl (bg sl.aC 0 rfl rfl (by omega) rfl rfl (bP ce.u32 rfl (ah rfl (ah rfl (bg sl.aC 0 rfl rfl (by omega) rfl rfl (bP ce.u32 rfl ?_)))))))
   refine bU rfl rfl rfl (OL.nil (AW.cond rfl (λhc=>?_) (λhc=>?_)))
   .have hc:l.getD i 0≠m.getD i 0:=by have:=L6 hc;omega
    exact AW.sg hE rfl (ay rfl (OL.nil (AW.ret (aH.r ⟨_,.tmp rfl .nil,.le (aZ.bool ((decide_eq_false λe=>hc (by rw[e])).symm))⟩))))
   .have hc:l.getD i 0=m.getD i 0:=by have:=J3 hc;omega
    refine AW.skip (AW.rg hE rfl (aB rfl rfl (by omega) (ah rfl (OL.nil ?_))))
    exact AW.again (x:=i) (i+1) (by omega) ⟨⟨by omega,λj hj=>by rcases Nat.lt_or_ge j i with h|h;exact h2 j h;obtain rfl:j=i:=(by omega);exact hc⟩,Knows.app .wL .bC,.nil⟩
  .try simp only[bY] at AO
   exact AW.exit (AW.sg hE rfl (ay rfl (OL.nil (AW.ret (aH.r ⟨_,.tmp rfl .nil,.le (aZ.bool ((decide_eq_true (iK hl 0 λj hj=>h2 j (by omega))).symm))⟩)))))
theorem aE7 {p q:Rat}(hp:sz p<=68719476736)(hq:sz q<=68719476736):ai P F.sH [vQ p,vQ q] (.d (dB (decide (p=q)))):=by
 have sp:=EX hp;have sq:=EX hq;have l1:=sp.ln;have l2:=sp.ld;have l3:=sq.ln;have l4:=sq.ld;refine ai.intro fn.sH (by rfl) (by rfl) (au (by rfl)) λE hE=>(AW.sg hE rfl (iC rfl rfl λb2=>(iC rfl rfl λb3=>(ay rfl (OL.nil (AW.sg hE rfl (aF fd.tV rfl rfl ?_)))))))
 refine ak ce.bool rfl rfl rfl (aF fd.tV rfl rfl (ak ce.bool rfl rfl rfl (eqb bt.bool rfl rfl (OL.split 9 rfl (λg=>?_) (λg=>?_)))))
 .have g:=jC g;refine ah rfl (OL.yes rfl (aF fd.sO rfl rfl (OL.yes rfl (ak ce.aC rfl rfl rfl (OL.yes rfl (aF fd.sO rfl rfl (OL.yes rfl ?_)))))));refine ak ce.aC rfl rfl rfl (OL.yes rfl (aY rfl .dR (QE (by omega) (by omega)) (OL.split 15 rfl (λk=>?_) (λk=>?_))))
  .have k:=jC k;refine iV rfl rfl (ah rfl (OL.yes rfl (aF fd.nZ rfl rfl (OL.yes rfl (ak ce.aC rfl rfl rfl (OL.yes rfl (aF fd.nZ rfl rfl ?_)))))));exact OL.yes rfl (ak ce.aC rfl rfl rfl (OL.yes rfl (aY rfl .dR (QE (by omega) (by omega)) (iV rfl rfl (ay rfl (OL.nil (AW.ret (aH.r ⟨_,.tmp rfl .nil,.le (aZ.bool (decide_eq_decide.2 ⟨λe=>Y8 (aq2 g k e),λe=>by rw[e]⟩))⟩))))))))
  .have k:=kK k;refine iV rfl rfl (ah rfl (OL.nd rfl (OL.nd rfl (OL.nd rfl (OL.nd rfl (OL.nd rfl (eG rfl rfl ?_)))))));exact ay rfl (OL.nil (AW.ret (aH.r ⟨_,.tmp rfl .nil,.le (aZ.bool ((decide_eq_false λe=>k (by rw[e])).symm))⟩)))
 .have g:=kK g;refine ah rfl (OL.nd rfl (OL.nd rfl (OL.nd rfl (OL.nd rfl (OL.nd rfl (eG rfl rfl (ah rfl ?_)))))));refine OL.nd rfl (OL.nd rfl (OL.nd rfl (OL.nd rfl (OL.nd rfl (eG rfl rfl (ay rfl (OL.nil ?_)))))));exact AW.ret (aH.r ⟨_,.tmp rfl .nil,.le (aZ.bool ((decide_eq_false λe=>g (by rw[e])).symm))⟩)
theorem KI {f:Nat}:ai P F.cO [.d (.sl []),.d (.sl []),.fn f []] (.d (dB true)):=by
 refine ai.intro fn.cO (by rfl) (by rfl) (au (by rfl)) λE hE=>(AW.sg hE rfl (ay rfl (OL.nil (AW.seq (AW.sg hE rfl (ah rfl (Pz sl.iM rfl rfl rfl ?_)))))))
 refine ah rfl (Pz sl.iM rfl rfl rfl (bU rfl rfl (c:=false) (eF rfl) (OL.nil (jD rfl ?_))));refine AW.skip (AW.seq (AW.sg hE rfl (ah rfl (Pz sl.iM rfl rfl rfl (ah rfl (OL.nil (AW.block ?_)))))));refine AW.aK (α:=Unit) [(1,_),(2,_),(15,_),(16,_)] [] (λ_u=>[(17,.d (dI 0))]) (λ_u=>[]) (λ_u=>True) (λ_u=>0) () (.cons (bM rfl) (.cons (EM rfl) (.cons (bM rfl) (.cons (bM rfl) .nil)))) .nil ⟨trivial,.bC,.nil⟩ ?_;intro _ _;refine AW.sg hE rfl (aN rfl rfl rfl (OL.nil (AW.seq (AW.cond rfl (λhno=>absurd hno (by simp)) (λ_=>?_)))))
 exact AW.exit (AW.sg hE rfl (ay rfl (OL.nil (AW.ret (aH.r ⟨_,.tmp rfl .nil,.le vR⟩)))))
theorem Om {f:Nat}:ai P F.dH [.d (.sl []),.d (.sl []),.fn f []] (.d (dB true)):=by
 refine ai.intro fn.dH (by rfl) (by rfl) (au (by rfl)) λE hE=>(AW.sg hE rfl (ay rfl (OL.nil (AW.seq (AW.sg hE rfl (ah rfl (Pz sl.aS rfl rfl rfl ?_)))))))
 refine ah rfl (Pz sl.aS rfl rfl rfl (bU rfl rfl (c:=false) (eF rfl) (OL.nil (jD rfl ?_))));refine AW.skip (AW.seq (AW.sg hE rfl (ah rfl (Pz sl.aS rfl rfl rfl (ah rfl (OL.nil (AW.block ?_)))))));refine AW.aK (α:=Unit) [(1,_),(2,_),(15,_),(16,_)] [] (λ_u=>[(17,.d (dI 0))]) (λ_u=>[]) (λ_u=>True) (λ_u=>0) () (.cons (bM rfl) (.cons (EM rfl) (.cons (bM rfl) (.cons (bM rfl) .nil)))) .nil ⟨trivial,.bC,.nil⟩ ?_;intro _ _;refine AW.sg hE rfl (aN rfl rfl rfl (OL.nil (AW.seq (AW.cond rfl (λhno=>absurd hno (by simp)) (λ_=>?_)))))
 exact AW.exit (AW.sg hE rfl (ay rfl (OL.nil (AW.ret (aH.r ⟨_,.tmp rfl .nil,.le vR⟩)))))
theorem aq3 {p q:Rat}(hp:sz p<=68719476736)(hq:sz q<=68719476736):ai P F.wo [vW p,vW q] (.d (dB (decide (p=q)))):=by
 refine ai.intro fn.wo (by rfl) (by rfl) (au (by rfl)) λE hE=>(AW.sg hE rfl (iC rfl rfl λb2=>(iC rfl rfl λb3=>(ay rfl (OL.nil (AW.sg hE rfl (asF rfl ?_)))))))
 refine OL.nil (AW.sg hE rfl (aF fd.iP rfl rfl (aG ag.Rat rfl rfl (vs:=[_,_,_]) rfl (au rfl) (aF fd.iP rfl rfl (aG ag.Rat rfl rfl (vs:=[_,_,_]) rfl (au rfl) (aY rfl .dR (aE7 hp hq) (OL.split 10 rfl (λg=>?_) (λg=>?_))))))))
 .have g:=jC g;refine ah rfl (OL.yes rfl (aF fd.Ce rfl rfl (OL.yes rfl (ak ce.int rfl rfl rfl (OL.yes rfl (aF fd.Ce rfl rfl (OL.yes rfl ?_)))))));refine ak ce.int rfl rfl rfl (OL.yes rfl (dm rfl rfl (c:=true) (decide_eq_true rfl) (iV rfl rfl (ah rfl (OL.yes rfl (aF fd.Af rfl rfl (OL.yes rfl ?_)))))));refine ak ce.bool rfl rfl rfl (OL.yes rfl (aF fd.Af rfl rfl (OL.yes rfl (ak ce.bool rfl rfl rfl (OL.yes rfl (eqb bt.bool rfl rfl (iV rfl rfl ?_)))))));refine ah rfl (OL.yes rfl (aF fd.Cf rfl rfl (OL.yes rfl (ak ce.u64 rfl rfl rfl (OL.yes rfl (aF fd.Cf rfl rfl (OL.yes rfl ?_)))))));refine ak ce.u64 rfl rfl rfl (OL.yes rfl (dm rfl rfl (c:=true) (decide_eq_true rfl) (iV rfl rfl (ah rfl (OL.yes rfl (aF fd.Ci rfl rfl (OL.yes rfl ?_)))))));refine ak ce.iM rfl rfl rfl (OL.yes rfl (aF fd.Ci rfl rfl (OL.yes rfl (ak ce.iM rfl rfl rfl (OL.yes rfl (EL rfl (OL.yes rfl ?_)))))));refine aY rfl .wL (KI) (iV rfl rfl (ah rfl (OL.yes rfl (aF fd.Ag rfl rfl (OL.yes rfl (ak ce.aS rfl rfl rfl (OL.yes rfl ?_)))))));refine aF fd.Ag rfl rfl (OL.yes rfl (ak ce.aS rfl rfl rfl (OL.yes rfl (aY rfl .wL (Om) (iV rfl rfl (ay rfl (OL.nil ?_)))))));exact AW.ret (aH.r ⟨_,.tmp rfl .nil,.le (aZ.bool ((decide_eq_true g).symm))⟩)
 .have g:=kK g;refine ah rfl (OL.nd rfl (OL.nd rfl (OL.nd rfl (OL.nd rfl (OL.nd rfl (eG rfl rfl (ah rfl ?_)))))));refine OL.nd rfl (OL.nd rfl (OL.nd rfl (OL.nd rfl (OL.nd rfl (eG rfl rfl (ah rfl (OL.nd rfl ?_)))))));refine OL.nd rfl (OL.nd rfl (OL.nd rfl (OL.nd rfl (eG rfl rfl (ah rfl (OL.nd rfl (OL.nd rfl ?_)))))));refine OL.nd rfl (OL.nd rfl (OL.nd rfl (OL.nd rfl (eG rfl rfl (ah rfl (OL.nd rfl (OL.nd rfl ?_)))))));exact OL.nd rfl (OL.nd rfl (OL.nd rfl (eG rfl rfl (ay rfl (OL.nil (AW.ret (aH.r ⟨_,.tmp rfl .nil,.le (aZ.bool ((decide_eq_false g).symm))⟩)))))))
abbrev a95:V:=.ag [.fn F.kC [],.fn F.kD [],.fn F.ru [],.fn F.kE [],.fn F.kF [],.fn F.wu [],.fn F.Ae [],.fn F.rC [],.fn F.tq []]
theorem rationals  : ai P F.qg [] (a95):=by
 refine ai.intro fn.qg (by rfl) (by rfl) (au (by rfl)) λE hE=>(AW.sg hE rfl (al z.algebra rfl λb0=>(OL.nil (AW.sg hE rfl ?_))))
 refine WL (cs:=[_,_,_,_,_,_,_,_,_]) z.algebra pl.algebra (qA (by exact evF rfl) (qA (by exact evF rfl) (qA (by exact evF rfl) (qA (by exact evF rfl) (qA (by exact evF rfl) (qA (by exact evF rfl) (qA (by exact evF rfl) (qA (by exact evF rfl) (qA (by exact evF rfl) (WJ)))))))))) (by rfl) ?_
 refine dA sz.algebra rfl rfl rfl rfl rfl (au rfl) (cells2:=[_,_,_,_,_,_,_,_,_]) rfl (OL.nil ?_);exact AW.ret (aH.r ⟨_,.dD rfl rfl ag.algebra (au rfl) .nil,.ag (.cons (.le vR) (.cons (.le vR) (.cons (.le vR) (.cons (.le vR) (.cons (.le vR) (.cons (.le vR) (.cons (.le vR) (.cons (.le vR) (.cons (.le vR) .nil)))))))))⟩)
theorem Y9  : ai P F.xO [.d (dI 1)] (a95):=by
 refine ai.intro fn.xO (by rfl) (by rfl) (au (by rfl)) λE hE=>(AW.sg hE rfl (al z.algebra rfl λb2=>(OL.nil (AW.seq (AW.sg hE rfl (ah rfl (OL.nil ?_)))))))
 refine AW.block (AW.sg hE rfl (dm rfl rfl (c:=true) (by exact decide_eq_true (by omega)) (ay rfl (OL.nil (Hl rfl ?_)))))
 refine AW.sg hE rfl (aY rfl (.nil) (rationals) (dA sz.algebra rfl rfl rfl rfl rfl (au rfl) (cells2:=[_,_,_,_,_,_,_,_,_]) rfl (OL.nil ?_)));exact AW.ret (aH.r ⟨_,.dD rfl rfl ag.algebra (au rfl) .nil,.ag (.cons (.le vR) (.cons (.le vR) (.cons (.le vR) (.cons (.le vR) (.cons (.le vR) (.cons (.le vR) (.cons (.le vR) (.cons (.le vR) (.cons (.le vR) .nil)))))))))⟩)
theorem aE8  : ai P F.uw [.d (dI 1)] (.d (dB true)):=by
 refine ai.intro fn.uw (by rfl) (by rfl) (au (by rfl)) λE hE=>(AW.sg hE rfl (ay rfl (OL.nil (AW.sg hE rfl (ah rfl (lG rfl rfl (c:=true) (by exact decide_eq_true (by omega)) (ah rfl ?_)))))))
 exact OL.yes rfl (ah rfl (OL.yes rfl (x8 rfl rfl (c:=true) (by exact decide_eq_true (by omega)) (iV rfl rfl (ay rfl (OL.nil (AW.ret (aH.r ⟨_,.tmp rfl .nil,.le vR⟩))))))))
theorem Oo  : ai P F.vV [l7] (.d (dB true)):=by
 refine ai.intro fn.vV (by rfl) (by rfl) (au (by rfl)) λE hE=>(AW.sg hE rfl (iC rfl rfl λb1=>(ay rfl (OL.nil (AW.seq (AW.sg hE rfl (aF fd.nX rfl rfl ?_)))))))
 refine ak ce.int rfl rfl rfl (bU rfl rfl (c:=true) (by exact Eu (by omega)) (OL.nil (Hl rfl ?_)))
 refine AW.sg hE rfl (aF fd.nX rfl rfl (ak ce.int rfl rfl rfl (aY rfl .bC (aE8) (ah rfl (OL.yes rfl (aF fd.J5 rfl rfl (OL.yes rfl ?_)))))));refine ak ce.ints rfl rfl rfl (OL.yes rfl (Pz sl.ints rfl rfl rfl (OL.yes rfl (dm rfl rfl (c:=true) (decide_eq_true rfl) (iV rfl rfl (ay rfl (OL.nil ?_)))))));exact AW.ret (aH.r ⟨_,.tmp rfl .nil,.le vR⟩)
theorem aR0 {q:Rat}(hz:sz q<=68719476736):ai P F.kC [vW q] (.d (dB true)):=by
 refine ai.intro fn.kC (by rfl) (by rfl) (au (by rfl)) λE hE=>(AW.sg hE rfl (iC rfl rfl λb1=>(ay rfl (OL.nil (AW.sg hE rfl (aF fd.iP rfl rfl (aG ag.Rat rfl rfl (vs:=[_,_,_]) rfl (au rfl) ?_)))))))
 refine aY rfl .bC (Ez (by omega)) (ah rfl (OL.yes rfl (aG ag.aA rfl rfl (vs:=[_,_,_,_,_,_,_,_]) rfl (au rfl) (OL.yes rfl (aF fd.iP rfl rfl (OL.yes rfl (aG ag.Rat rfl rfl (vs:=[_,_,_]) rfl (au rfl) ?_)))))))
 exact OL.yes rfl (bd z.aA pl.aA (cs:=[_,_,_,_,_,_,_,_]) rfl (OL.yes rfl (aY rfl (.cons vR (.cons (KH) .nil)) (aq3 hz hz) (iV rfl rfl (ay rfl (OL.nil (AW.ret (aH.r ⟨_,.tmp rfl .nil,.le (aZ.bool (decide_eq_true rfl))⟩))))))))
theorem a96  : ai P F.kD [] (vW 0):=by
 refine ai.intro fn.kD (by rfl) (by rfl) (au (by rfl)) λE hE=>(AW.sg hE rfl (al z.aA rfl λb0=>(OL.nil (AW.sg hE rfl (bd z.aA pl.aA (cs:=[_,_,_,_,_,_,_,_]) rfl (dA sz.aA rfl rfl rfl rfl rfl (au rfl) (cells2:=[_,_,_,_,_,_,_,_]) rfl (OL.nil ?_)))))))
 exact AW.ret (aH.r ⟨_,.dD rfl rfl ag.aA (au rfl) .nil,.le aq1⟩)
theorem a97 {p q:Rat}(hp:sz p<=68719476736)(hq:sz q<=68719476736):ai P F.kE [vW p,vW q] (vW (p+q)):=by
 refine ai.intro fn.kE (by rfl) (by rfl) (au (by rfl)) λE hE=>(AW.sg hE rfl (iC rfl rfl λb2=>(iC rfl rfl λb3=>(al z.aA rfl λb4=>(OL.nil (AW.sg hE rfl (aF fd.iP rfl rfl ?_)))))))
 exact aG ag.Rat rfl rfl (vs:=[_,_,_]) rfl (au rfl) (aF fd.iP rfl rfl (aG ag.Rat rfl rfl (vs:=[_,_,_]) rfl (au rfl) (aY rfl .dR (xP (by assumption) (by assumption)) (bd z.aA pl.aA (cs:=[_,_,_,_,_,_,_,_]) rfl (dA sz.aA rfl rfl rfl rfl rfl (au rfl) (cells2:=[_,_,_,_,_,_,_,_]) rfl (OL.nil (AW.ret (aH.r ⟨_,.dD rfl rfl ag.aA (au rfl) .nil,.le KH⟩))))))))
theorem aR1 {p q:Rat}(hp:sz p<=68719476736)(hq:sz q<=68719476736):ai P F.kF [vW p,vW q] (vW (p*q)):=by
 refine ai.intro fn.kF (by rfl) (by rfl) (au (by rfl)) λE hE=>(AW.sg hE rfl (iC rfl rfl λb2=>(iC rfl rfl λb3=>(al z.aA rfl λb4=>(OL.nil (AW.sg hE rfl (aF fd.iP rfl rfl ?_)))))))
 exact aG ag.Rat rfl rfl (vs:=[_,_,_]) rfl (au rfl) (aF fd.iP rfl rfl (aG ag.Rat rfl rfl (vs:=[_,_,_]) rfl (au rfl) (aY rfl .dR (xQ (by assumption) (by assumption)) (bd z.aA pl.aA (cs:=[_,_,_,_,_,_,_,_]) rfl (dA sz.aA rfl rfl rfl rfl rfl (au rfl) (cells2:=[_,_,_,_,_,_,_,_]) rfl (OL.nil (AW.ret (aH.r ⟨_,.dD rfl rfl ag.aA (au rfl) .nil,.le KH⟩))))))))
theorem XJ {q:Rat}(hz:sz q<=68719476736):ai P F.vZ [l7,vW q] (.d (dB true)):=by
 refine ai.intro fn.vZ (by rfl) (by rfl) (au (by rfl)) λE hE=>(AW.sg hE rfl (iC rfl rfl λb2=>(iC rfl rfl λb3=>(ay rfl (OL.nil (AW.seq (AW.sg hE rfl ?_)))))))
 refine aG ag.Ring rfl rfl (vs:=[_,_]) rfl (au rfl) (aY rfl .bC (Oo) (nt rfl (OL.nil (jD rfl ?_))));refine AW.skip (AW.seq (AW.sg hE rfl (aF fd.nX rfl rfl (ak ce.int rfl rfl rfl (bU rfl rfl (c:=true) (by exact Eu (by omega)) (OL.nil (Hl rfl ?_)))))))
 refine AW.seq (AW.dg 1 [0,1,2,3,4,5,6] aj hE rfl (by kernel_rfl) (OI.aP (os:=[_,_,_,_,_,_,_]) rfl ?_))
 refine aF fd.nX rfl rfl (ak ce.int rfl rfl rfl (aY rfl .bC (Y9) (fdC fc.Qo rfl rfl (aG ag.aA rfl rfl (vs:=[_,_,_,_,_,_,_,_]) rfl (au rfl) (aY rfl vL (aR0 hz) (ay rfl (OL.nil ?_)))))));exact AW.ret (aH.r ⟨_,.tmp rfl .nil,.le vR⟩)
theorem QF  : ai P F.xJ [l7] (vW 0):=by
 refine ai.intro fn.xJ (by rfl) (by rfl) (au (by rfl)) λE hE=>(AW.sg hE rfl (iC rfl rfl λb1=>(al z.aA rfl λb2=>(OL.nil (AW.seq (AW.block (AW.sg hE rfl ?_)))))))
 refine aG ag.Ring rfl rfl (vs:=[_,_]) rfl (au rfl) (aY rfl .bC (Oo) (nt rfl (ay rfl (OL.nil (jD rfl ?_)))));refine AW.sg hE rfl (aF fd.nX rfl rfl (ak ce.int rfl rfl rfl (bU rfl rfl (c:=true) (by exact Eu (by omega)) (ay rfl (OL.nil (Hl rfl ?_))))))
 refine AW.sg hE rfl (aF fd.nX rfl rfl (ak ce.int rfl rfl rfl (aY rfl .bC (Y9) (fdC fc.Qp rfl rfl (aY rfl (.nil) (a96) (dA sz.aA rfl rfl rfl rfl rfl (au rfl) (cells2:=[_,_,_,_,_,_,_,_]) rfl (OL.nil ?_)))))));exact AW.ret (aH.r ⟨_,.dD rfl rfl ag.aA (au rfl) .nil,.ag (.cons (.le vR) (.cons (.le vR) (.cons (.le vR) (.cons (.le vR) (.cons (.le vR) (.cons (.le vR) (.cons (.le vR) (.cons (.le vR) .nil))))))))⟩)
theorem valueR {q:Rat}(hz:sz q<=68719476736):ai P F.vY [l7,vW q] (vW q):=by
 refine ai.intro fn.vY (by rfl) (by rfl) (au (by rfl)) λE hE=>(AW.sg hE rfl (iC rfl rfl λb2=>(iC rfl rfl λb3=>(al z.aA rfl λb4=>(OL.nil (AW.seq (AW.sg hE rfl ?_)))))))
 refine aG ag.Ring rfl rfl (vs:=[_,_]) rfl (au rfl) (aG ag.aA rfl rfl (vs:=[_,_,_,_,_,_,_,_]) rfl (au rfl) (aY rfl .dR (XJ hz) (OL.nil (Hl rfl ?_))));refine AW.sg hE rfl (aG ag.aA rfl rfl (vs:=[_,_,_,_,_,_,_,_]) rfl (au rfl) (dA sz.aA rfl rfl rfl rfl rfl (au rfl) (cells2:=[_,_,_,_,_,_,_,_]) rfl (OL.nil ?_)));exact AW.ret (aH.r ⟨_,.dD rfl rfl ag.aA (au rfl) .nil,.ag (.cons (.le vR) (.cons (.le vR) (.cons (.le vR) (.cons (.le vR) (.cons (.le vR) (.cons (.le vR) (.cons (.le vR) (.cons (.le vR) .nil))))))))⟩)
theorem QG {p q:Rat}(hp:sz p<=68719476736)(hq:sz q<=68719476736):ai P F.xK [l7,vW p,vW q] (vW (p+q)):=by
 refine ai.intro fn.xK (by rfl) (by rfl) (au (by rfl)) λE hE=>(AW.sg hE rfl (iC rfl rfl λb3=>(iC rfl rfl λb4=>(iC rfl rfl λb5=>(al z.aA rfl λb6=>(OL.nil (AW.seq ?_)))))))
 refine AW.sg hE rfl (aG ag.Ring rfl rfl (vs:=[_,_]) rfl (au rfl) (aY rfl .bC (Oo) (nt rfl (OL.nil (jD rfl ?_)))));refine AW.skip (AW.seq (AW.dg 1 [0,1,2,3,4,5,6,7] aj hE rfl (by kernel_rfl) (OI.aP (os:=[_,_,_,_,_,_,_,_]) rfl ?_)))
 refine aG ag.Ring rfl rfl (vs:=[_,_]) rfl (au rfl) (aG ag.aA rfl rfl (vs:=[_,_,_,_,_,_,_,_]) rfl (au rfl) (aY rfl .dR (valueR (by assumption)) (aG ag.Ring rfl rfl (vs:=[_,_]) rfl (au rfl) (aG ag.aA rfl rfl (vs:=[_,_,_,_,_,_,_,_]) rfl (au rfl) (aY rfl .dR (valueR (by assumption)) (dA sz.aA rfl rfl rfl rfl rfl (au rfl) (cells2:=[_,_,_,_,_,_,_,_]) rfl (dA sz.aA rfl rfl rfl rfl rfl (au rfl) (cells2:=[_,_,_,_,_,_,_,_]) rfl ?_)))))))
 refine OL.nil (AW.seq (AW.sg hE rfl (aF fd.nX rfl rfl (ak ce.int rfl rfl rfl (bU rfl rfl (c:=true) (by exact Eu (by omega)) (OL.nil (Hl rfl ?_)))))))
 refine AW.seq (AW.dg 1 [0,1,2,3,4,5,6,7] aj hE rfl (by kernel_rfl) (OI.aP (os:=[_,_,_,_,_,_,_,_]) rfl ?_))
 refine aF fd.nX rfl rfl (ak ce.int rfl rfl rfl (aY rfl .bC (Y9) (fdC fc.Qq rfl rfl (aG ag.aA rfl rfl (vs:=[_,_,_,_,_,_,_,_]) rfl (au rfl) (aG ag.aA rfl rfl (vs:=[_,_,_,_,_,_,_,_]) rfl (au rfl) (aY rfl vL (a97 hp hq) (dA sz.aA rfl rfl rfl rfl rfl (au rfl) (cells2:=[_,_,_,_,_,_,_,_]) rfl ?_)))))));refine OL.nil ?_;exact AW.ret (aH.r ⟨_,.dD rfl rfl ag.aA (au rfl) .nil,.ag (.cons (.le vR) (.cons (.le vR) (.cons (.le vR) (.cons (.le vR) (.cons (.le vR) (.cons (.le vR) (.cons (.le vR) (.cons (.le vR) .nil))))))))⟩)
theorem aq4 {p q:Rat}(hp:sz p<=68719476736)(hq:sz q<=68719476736):ai P F.vU [l7,vW p,vW q] (vW (p*q)):=by
 refine ai.intro fn.vU (by rfl) (by rfl) (au (by rfl)) λE hE=>(AW.sg hE rfl (iC rfl rfl λb3=>(iC rfl rfl λb4=>(iC rfl rfl λb5=>(al z.aA rfl λb6=>(OL.nil (AW.seq ?_)))))))
 refine AW.sg hE rfl (aG ag.Ring rfl rfl (vs:=[_,_]) rfl (au rfl) (aY rfl .bC (Oo) (nt rfl (OL.nil (jD rfl ?_)))));refine AW.skip (AW.seq (AW.dg 1 [0,1,2,3,4,5,6,7] aj hE rfl (by kernel_rfl) (OI.aP (os:=[_,_,_,_,_,_,_,_]) rfl ?_)))
 refine aG ag.Ring rfl rfl (vs:=[_,_]) rfl (au rfl) (aG ag.aA rfl rfl (vs:=[_,_,_,_,_,_,_,_]) rfl (au rfl) (aY rfl .dR (valueR (by assumption)) (aG ag.Ring rfl rfl (vs:=[_,_]) rfl (au rfl) (aG ag.aA rfl rfl (vs:=[_,_,_,_,_,_,_,_]) rfl (au rfl) (aY rfl .dR (valueR (by assumption)) (dA sz.aA rfl rfl rfl rfl rfl (au rfl) (cells2:=[_,_,_,_,_,_,_,_]) rfl (dA sz.aA rfl rfl rfl rfl rfl (au rfl) (cells2:=[_,_,_,_,_,_,_,_]) rfl ?_)))))))
 refine OL.nil (AW.seq (AW.sg hE rfl (aF fd.nX rfl rfl (ak ce.int rfl rfl rfl (bU rfl rfl (c:=true) (by exact Eu (by omega)) (OL.nil (Hl rfl ?_)))))))
 refine AW.seq (AW.dg 1 [0,1,2,3,4,5,6,7] aj hE rfl (by kernel_rfl) (OI.aP (os:=[_,_,_,_,_,_,_,_]) rfl ?_))
 refine aF fd.nX rfl rfl (ak ce.int rfl rfl rfl (aY rfl .bC (Y9) (fdC fc.Qr rfl rfl (aG ag.aA rfl rfl (vs:=[_,_,_,_,_,_,_,_]) rfl (au rfl) (aG ag.aA rfl rfl (vs:=[_,_,_,_,_,_,_,_]) rfl (au rfl) (aY rfl vL (aR1 hp hq) (dA sz.aA rfl rfl rfl rfl rfl (au rfl) (cells2:=[_,_,_,_,_,_,_,_]) rfl ?_)))))));refine OL.nil ?_;exact AW.ret (aH.r ⟨_,.dD rfl rfl ag.aA (au rfl) .nil,.ag (.cons (.le vR) (.cons (.le vR) (.cons (.le vR) (.cons (.le vR) (.cons (.le vR) (.cons (.le vR) (.cons (.le vR) (.cons (.le vR) .nil))))))))⟩)
theorem aE9 {q:Rat}(hz:sz q<=68719476736):ai P F.sF [l7,vW q] (.d (dB (decide (q=0)))):=by
 have h0K:=z0K;refine ai.intro fn.sF (by rfl) (by rfl) (au (by rfl)) λE hE=>(AW.sg hE rfl (iC rfl rfl λb2=>(iC rfl rfl λb3=>(ay rfl (OL.nil (AW.seq (AW.dg 1 [0,1,2,3,4] aj hE rfl (by kernel_rfl) (OI.aP (os:=[_,_,_,_,_]) rfl ?_))))))))
 exact aG ag.aA rfl rfl (vs:=[_,_,_,_,_,_,_,_]) rfl (au rfl) (aG ag.Ring rfl rfl (vs:=[_,_]) rfl (au rfl) (aY rfl .bC (QF) (aY rfl .dR (aq3 hz h0K) (ay rfl (OL.nil (AW.ret (aH.r ⟨_,.tmp rfl .nil,.le vR⟩)))))))

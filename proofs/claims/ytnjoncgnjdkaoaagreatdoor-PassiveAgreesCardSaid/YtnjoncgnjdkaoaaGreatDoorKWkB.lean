/-
  Walks of package semiring, over the rational numbers, part 2 (printed by mk2.py).
-/
import Derived.Test.YtnjoncgnjdkaoaaGreatDoorKMod78
set_option linter.unusedVariables false
set_option linter.unusedSimpArgs false
namespace Go.AL
open Go Go.BigFrame
structure Ia (a b:Au):Prop where
 st:a.st=b.st
 sym:a.sym=b.sym
 ini:a.ini=b.ini
 fin:a.fin=b.fin
 ent:∀ s i j,iU a.aS s i j=iU b.aS s i j
def Gs (a:Au):Au:={ a with aS:=uh a.aS }
def Ul (a:Au):Au:=⟨a.sym,a.st,a.fin,a.ini,uh (a.aS.map λx=>⟨x.t,x.l,x.f,x.q⟩)⟩
section
variable {a b c d:Au}{w:List Int}{s i j:Nat}
theorem Zr {n:Nat}{f g:Nat->Nat->Rat}(h:∀ i j,i<n->j<n->f i j=g i j):GK n f=GK n g:=by
 unfold GK;refine List.map_congr_left λi hi=>List.map_congr_left λj hj=>h i j (List.mem_range.1 hi) (List.mem_range.1 hj)
theorem Ia.bn2 (h:Ia a b)(r q:List Au)(hr:∀ s i j,uJ r s i j=uJ q s i j):uJ (a::r) s i j=uJ (b::q) s i j:=by
 rw[uJ,uJ,h.st,h.ent,hr]
theorem Ia.aj6 (h:Ia a b):cZ [a]=cZ [b]:=by
 unfold cZ;have e:(λs=>GK (aJ [a]) (uJ [a] s))=λs=>GK (aJ [b]) (uJ [b] s):=by
  funext s;rw[jm,jm,h.st];exact Zr λi j _ _=>h.bn2 [] [] λ_ _ _=>rfl
 rw[e,jm,jm,h.st];simp only[List.flatMap_cons,List.flatMap_nil,Rj,List.getD_cons_zero,h.ini,h.fin,h.sym]
theorem Ia.ser (h:Ia a b):iD a=iD b:=by unfold iD;rw[h.aj6]
theorem Ia.refl (a:Au):Ia a a:=⟨rfl,rfl,rfl,rfl,λ_ _ _=>rfl⟩
theorem Au.Ok.form (h:a.Ok):(Gs a).Ok:=⟨h.Gi,h.ini,h.fin,gZ.form (p:=λf l t=>f<a.st/\t<a.st/\1<=l/\l<=a.sym) h.arc⟩
theorem Au.Ok.rev (h:a.Ok):(Ul a).Ok:=⟨h.Gi,h.fin,h.ini,gZ.form (p:=λf l t=>f<a.st/\t<a.st/\1<=l/\l<=a.sym) λy hy=>by
 obtain⟨x,hx,rfl⟩:=mM hy;have:=h.arc x hx;exact⟨this.2.1,this.1,this.2.2⟩⟩
theorem aj7 {l:List bH}{n:Nat}(h:∀ x,x ∈ l->x.f<n/\x.t<n)(hij:n<=i \/ n<=j):iU l s i j=0:=X5 λx hx=>if_neg (by have:=h x hx;omega)
theorem X7 {m:dP}(hw:kC m.k w):wV (dA m) w=wV m w.reverse:=by
 have h:=Ff w [] hw;rw[List.nil_append] at h;rw[<- h];unfold wV lZ vZ;exact aN λi _=>Rat.mul_comm ..
end
noncomputable def zeA (a:Au):Option (List Int):=sJ (cZ [a])
section
variable {a b c:Au}{w:List Int}{q:Rat}
theorem aB3 {x y:Rat}(h:x-y=0):x=y:=by
 rw[<- Rat.sub_add_cancel (a:=x) (b:=y),h,Rat.zero_add]
end
def aQ2 (k n:Int):Nat:=(k % n).toNat
def bn5 (v:Int):Int:=v % 13-6
def bn6 (v:Int):Int:=1+IntKind.i64.wrap (v.tdiv 13) % 3
def bn7 (v:Int):Rat:=((bn5 v:Int):Rat) / ((bn6 v:Int):Rat)
structure Rq where
 st:Int
 ini:List Int
 fin:List Int
 aS:List Int
instance:Inhabited Rq:=⟨⟨0,[],[],[]⟩⟩
def ba9 (l:List Int)(sym n g:Nat):bH:=⟨aQ2 (l.getD (4*g) 0) n,1+aQ2 (l.getD (4*g+1) 0) sym,aQ2 (l.getD (4*g+2) 0) n,bn7 (l.getD (4*g+3) 0)⟩
section
variable {m:Rq}{sym most:Nat}{k v:Int}{l:List Int}
structure Au.Sz (a:Au) (B N:Nat):Prop where
 ini:Small B a.ini
 fin:Small B a.fin
 arc:∀ x,x ∈ a.aS->sz x.q<=B
 num:a.aS.length<=N
end
abbrev dW (q:Rat):D:=.ag [dB (fZ q).neg,aH (fZ q).num,aH (fZ q).den,dI 0,dB false,dU 0,.sl [],.sl []]
abbrev vW (q:Rat):V:=.ag [.d (dB (fZ q).neg),.d (aH (fZ q).num),.d (aH (fZ q).den),.d (dI 0),.d (dB false),.d (dU 0),.d (.sl []),.d (.sl [])]
abbrev wG (l:List Rat):D:=.sl (l.map dW)
abbrev jy (x:bH):D:=.ag [dI x.f,dI x.l,dI x.t,dB (fZ x.q).neg,aH (fZ x.q).num,aH (fZ x.q).den,dI 0,dB false,dU 0,.sl [],.sl []]
abbrev Ib (x:bH):V:=.ag [.d (dI x.f),.d (dI x.l),.d (dI x.t),.d (dB (fZ x.q).neg),.d (aH (fZ x.q).num),.d (aH (fZ x.q).den),.d (dI 0),.d (dB false),.d (dU 0),.d (.sl []),.d (.sl [])]
abbrev oI (l:List bH):D:=.sl (l.map jy)
abbrev l7:V:=.ag [.d (dI 1),.d (.sl [])]
abbrev zL (a:Au):V:=.ag [.d (dI 1),.d (.sl []),.d (dI a.sym),.d (dI a.st),.d (wG a.ini),.d (wG a.fin),.d (oI a.aS)]
abbrev Ic (m:dP):V:=.ag [.d (iQ m.ini),.d (iQ m.fin),.d (.sl (m.qL.map vz))]
abbrev BN (m:dP)(w:List Int):D:=.ag [ints w,iQ (bP m w)]
abbrev WB (m:dP)(w:List Int):V:=.ag [.d (ints w),.d (iQ (bP m w))]
section
variable {q:Rat}{x:bH}
theorem aj8:bG (.ag [.d (dB false),.mt,.mt,.d (dI 0),.d (dB false),.d (dU 0),.mt,.mt]) (vW 0):=by
 unfold vW;rw[tV];exact bG.ag (.cons vR (.cons bG.mt (.cons bG.mt (.cons vR (.cons vR (.cons vR (.cons bG.mt (.cons bG.mt .nil))))))))
theorem Jb:bG (.ag [.d (dB (fZ q).neg),.d (aH (fZ q).num),.d (aH (fZ q).den),.d (dI 0),.d (dB false),.d (dU 0),.mt,.mt]) (vW q) :=
 bG.ag (.cons vR (.cons vR (.cons vR (.cons vR (.cons vR (.cons vR (.cons bG.mt (.cons bG.mt .nil))))))))
end
end Go.AL
namespace Go.Proofs.YtnjoncgnjdkaoaaGreatDoor
open Go Go.AL
theorem X8 {p q:Rat}(h:fZ p=fZ q):p=q:=by rw[<- qy p,h,qy]
theorem aj9 {r s:Raw}(h1:r.neg=s.neg)(h2:r.num=s.num)(h3:r.den=s.den):r=s:=by cases r;cases s;simp_all
theorem PN {l m:List Nat}(nl:l.length<=8796093022208)(nm:m.length<=8796093022208):aj P F.iY [.d (aH l),.d (aH m)] (.d (dB (decide (l=m)))):=by
 refine aj.intro fn.iY (by rfl) (by rfl) (aB (by rfl)) λE hE=>(AW.sg hE rfl (aF rfl (OL.nil (AW.seq (AW.sg hE rfl (ai rfl (fJ sl.aH rfl rfl ?_)))))))
 refine ai rfl (fJ sl.aH rfl rfl (eG rfl rfl rfl (OL.nil (AW.cond rfl (λh10=>?_) (λh10=>?_)))))
 .have hl:l.length≠m.length:=by have:=D7 h10;omega
  exact AW.sg hE rfl (aF rfl (OL.nil (AW.ret (aP.r ⟨_,.tmp rfl .nil,.le (bG.bool ((decide_eq_false λe=>hl (by rw[e])).symm))⟩))))
 .have hl:l.length=m.length:=by have:=Bc h10;omega
  refine AW.skip (AW.seq (AW.sg hE rfl (ai rfl (fJ sl.aH rfl rfl (ai rfl (OL.nil (AW.block ?_)))))));refine AW.aV (α:=Nat) [(0,_),(1,_),(12,_)] [] (λi=>[(13,.d (dI i))]) (λi=>[]) (λi=>i<=l.length/\∀ j,j<i->l.getD j 0=m.getD j 0) (λi=>l.length-i) 0 (.cons (bK rfl) (.cons (bK rfl) (.cons (bK rfl) .nil))) .nil ⟨⟨Nat.zero_le _,λj hj=>by omega⟩,.bZ,.nil⟩ ?_
  rintro i ⟨h1,h2⟩
  refine AW.sg hE rfl (aY rfl rfl rfl (OL.nil (AW.seq (AW.cond rfl (λBf=>?_) (λBf=>?_)))))
  .try simp only[dX] at Bf
   refine AW.skip (AW.seq (AW.block (AW.sg hE rfl (ai rfl (aF rfl (OL.nil (AW.seq ?_)))))));refine AW.dg 1 [0,1,2,3,4,5,6,7,8] ay hE rfl (by kernel_rfl) (OI.aK (os:=[_,_,_,_,_,_,_,_,_]) rfl ?_)
   refine ai rfl (ai rfl (fO sl.aH 0 rfl rfl (by omega) rfl rfl (iH ce.u32 rfl (ai rfl (ai rfl (fO sl.aH 0 rfl rfl (by omega) rfl rfl (iH ce.u32 rfl ?_)))))))
   refine eG rfl rfl rfl (OL.nil (AW.cond rfl (λhc=>?_) (λhc=>?_)))
   .have hc:l.getD i 0≠m.getD i 0:=by have:=D7 hc;omega
    exact AW.sg hE rfl (aF rfl (OL.nil (AW.ret (aP.r ⟨_,.tmp rfl .nil,.le (bG.bool ((decide_eq_false λe=>hc (by rw[e])).symm))⟩))))
   .have hc:l.getD i 0=m.getD i 0:=by have:=Bc hc;omega
    refine AW.skip (AW.rg hE rfl (aI rfl rfl (by omega) (ai rfl (OL.nil ?_))))
    exact AW.again (x:=i) (i+1) (by omega) ⟨⟨by omega,λj hj=>by rcases Nat.lt_or_ge j i with h|h;exact h2 j h;obtain rfl:j=i:=(by omega);exact hc⟩,Knows.app .Ah .bZ,.nil⟩
  .try simp only[dX] at Bf
   exact AW.exit (AW.sg hE rfl (aF rfl (OL.nil (AW.ret (aP.r ⟨_,.tmp rfl .nil,.le (bG.bool ((decide_eq_true (yA hl 0 λj hj=>h2 j (by omega))).symm))⟩)))))
theorem aB4 {p q:Rat}(hp:sz p<=68719476736)(hq:sz q<=68719476736):aj P F.su [vQ p,vQ q] (.d (dB (decide (p=q)))):=by
 have sp:=D9 hp;have sq:=D9 hq;have l1:=sp.ln;have l2:=sp.ld;have l3:=sq.ln;have l4:=sq.ld;refine aj.intro fn.su (by rfl) (by rfl) (aB (by rfl)) λE hE=>(AW.sg hE rfl (iI rfl rfl λb2=>(iI rfl rfl λb3=>(aF rfl (OL.nil (AW.sg hE rfl (aW fd.tZ rfl rfl ?_)))))))
 refine aG ce.bool rfl rfl rfl (aW fd.tZ rfl rfl (aG ce.bool rfl rfl rfl (eqb bt.bool rfl rfl (OL.split 9 rfl (λg=>?_) (λg=>?_)))))
 .have g:=lq g;refine ai rfl (OL.yes rfl (aW fd.sQ rfl rfl (OL.yes rfl (aG ce.aH rfl rfl rfl (OL.yes rfl (aW fd.sQ rfl rfl (OL.yes rfl ?_)))))));refine aG ce.aH rfl rfl rfl (OL.yes rfl (bJ rfl .iq (PN (by omega) (by omega)) (OL.split 15 rfl (λk=>?_) (λk=>?_))))
  .have k:=lq k;refine oC rfl rfl (ai rfl (OL.yes rfl (aW fd.oD rfl rfl (OL.yes rfl (aG ce.aH rfl rfl rfl (OL.yes rfl (aW fd.oD rfl rfl ?_)))))));exact OL.yes rfl (aG ce.aH rfl rfl rfl (OL.yes rfl (bJ rfl .iq (PN (by omega) (by omega)) (oC rfl rfl (aF rfl (OL.nil (AW.ret (aP.r ⟨_,.tmp rfl .nil,.le (bG.bool (decide_eq_decide.2 ⟨λe=>X8 (aj9 g k e),λe=>by rw[e]⟩))⟩))))))))
  .have k:=nS k;refine oC rfl rfl (ai rfl (OL.nd rfl (OL.nd rfl (OL.nd rfl (OL.nd rfl (OL.nd rfl (kL rfl rfl ?_)))))));exact aF rfl (OL.nil (AW.ret (aP.r ⟨_,.tmp rfl .nil,.le (bG.bool ((decide_eq_false λe=>k (by rw[e])).symm))⟩)))
 .have g:=nS g;refine ai rfl (OL.nd rfl (OL.nd rfl (OL.nd rfl (OL.nd rfl (OL.nd rfl (kL rfl rfl (ai rfl ?_)))))));refine OL.nd rfl (OL.nd rfl (OL.nd rfl (OL.nd rfl (OL.nd rfl (kL rfl rfl (aF rfl (OL.nil ?_)))))));exact AW.ret (aP.r ⟨_,.tmp rfl .nil,.le (bG.bool ((decide_eq_false λe=>g (by rw[e])).symm))⟩)
theorem Jc {f:Nat}:aj P F.dD [.d (.sl []),.d (.sl []),.fn f []] (.d (dB true)):=by
 refine aj.intro fn.dD (by rfl) (by rfl) (aB (by rfl)) λE hE=>(AW.sg hE rfl (aF rfl (OL.nil (AW.seq (AW.sg hE rfl (ai rfl (Ov sl.iC rfl rfl rfl ?_)))))))
 refine ai rfl (Ov sl.iC rfl rfl rfl (eG rfl rfl (c:=false) (lY rfl) (OL.nil (qW rfl ?_))));refine AW.skip (AW.seq (AW.sg hE rfl (ai rfl (Ov sl.iC rfl rfl rfl (ai rfl (OL.nil (AW.block ?_)))))));refine AW.aV (α:=Unit) [(1,_),(2,_),(15,_),(16,_)] [] (λ_u=>[(17,.d (dI 0))]) (λ_u=>[]) (λ_u=>True) (λ_u=>0) () (.cons (bK rfl) (.cons (LH rfl) (.cons (bK rfl) (.cons (bK rfl) .nil)))) .nil ⟨trivial,.bZ,.nil⟩ ?_;intro _ _;refine AW.sg hE rfl (aY rfl rfl rfl (OL.nil (AW.seq (AW.cond rfl (λhno=>absurd hno (by simp)) (λ_=>?_)))))
 exact AW.exit (AW.sg hE rfl (aF rfl (OL.nil (AW.ret (aP.r ⟨_,.tmp rfl .nil,.le vR⟩)))))
theorem Nq {f:Nat}:aj P F.dN [.d (.sl []),.d (.sl []),.fn f []] (.d (dB true)):=by
 refine aj.intro fn.dN (by rfl) (by rfl) (aB (by rfl)) λE hE=>(AW.sg hE rfl (aF rfl (OL.nil (AW.seq (AW.sg hE rfl (ai rfl (Ov sl.aU rfl rfl rfl ?_)))))))
 refine ai rfl (Ov sl.aU rfl rfl rfl (eG rfl rfl (c:=false) (lY rfl) (OL.nil (qW rfl ?_))));refine AW.skip (AW.seq (AW.sg hE rfl (ai rfl (Ov sl.aU rfl rfl rfl (ai rfl (OL.nil (AW.block ?_)))))));refine AW.aV (α:=Unit) [(1,_),(2,_),(15,_),(16,_)] [] (λ_u=>[(17,.d (dI 0))]) (λ_u=>[]) (λ_u=>True) (λ_u=>0) () (.cons (bK rfl) (.cons (LH rfl) (.cons (bK rfl) (.cons (bK rfl) .nil)))) .nil ⟨trivial,.bZ,.nil⟩ ?_;intro _ _;refine AW.sg hE rfl (aY rfl rfl rfl (OL.nil (AW.seq (AW.cond rfl (λhno=>absurd hno (by simp)) (λ_=>?_)))))
 exact AW.exit (AW.sg hE rfl (aF rfl (OL.nil (AW.ret (aP.r ⟨_,.tmp rfl .nil,.le vR⟩)))))
theorem ak0 {p q:Rat}(hp:sz p<=68719476736)(hq:sz q<=68719476736):aj P F.vT [vW p,vW q] (.d (dB (decide (p=q)))):=by
 refine aj.intro fn.vT (by rfl) (by rfl) (aB (by rfl)) λE hE=>(AW.sg hE rfl (iI rfl rfl λb2=>(iI rfl rfl λb3=>(aF rfl (OL.nil (AW.sg hE rfl (asF rfl ?_)))))))
 refine OL.nil (AW.sg hE rfl (aW fd.gK rfl rfl (aO ag.Rat rfl rfl (vs:=[_,_,_]) rfl (aB rfl) (aW fd.gK rfl rfl (aO ag.Rat rfl rfl (vs:=[_,_,_]) rfl (aB rfl) (bJ rfl .iq (aB4 hp hq) (OL.split 10 rfl (λg=>?_) (λg=>?_))))))))
 .have g:=lq g;refine ai rfl (OL.yes rfl (aW fd.BB rfl rfl (OL.yes rfl (aG ce.int rfl rfl rfl (OL.yes rfl (aW fd.BB rfl rfl (OL.yes rfl ?_)))))));refine aG ce.int rfl rfl rfl (OL.yes rfl (dR rfl rfl (c:=true) (decide_eq_true rfl) (oC rfl rfl (ai rfl (OL.yes rfl (aW fd.zA rfl rfl (OL.yes rfl ?_)))))));refine aG ce.bool rfl rfl rfl (OL.yes rfl (aW fd.zA rfl rfl (OL.yes rfl (aG ce.bool rfl rfl rfl (OL.yes rfl (eqb bt.bool rfl rfl (oC rfl rfl ?_)))))));refine ai rfl (OL.yes rfl (aW fd.BD rfl rfl (OL.yes rfl (aG ce.u64 rfl rfl rfl (OL.yes rfl (aW fd.BD rfl rfl (OL.yes rfl ?_)))))));refine aG ce.u64 rfl rfl rfl (OL.yes rfl (dR rfl rfl (c:=true) (decide_eq_true rfl) (oC rfl rfl (ai rfl (OL.yes rfl (aW fd.BF rfl rfl (OL.yes rfl ?_)))))));refine aG ce.iC rfl rfl rfl (OL.yes rfl (aW fd.BF rfl rfl (OL.yes rfl (aG ce.iC rfl rfl rfl (OL.yes rfl (Ky rfl (OL.yes rfl ?_)))))));refine bJ rfl .Ah (Jc) (oC rfl rfl (ai rfl (OL.yes rfl (aW fd.zB rfl rfl (OL.yes rfl (aG ce.aU rfl rfl rfl (OL.yes rfl ?_)))))));refine aW fd.zB rfl rfl (OL.yes rfl (aG ce.aU rfl rfl rfl (OL.yes rfl (bJ rfl .Ah (Nq) (oC rfl rfl (aF rfl (OL.nil ?_)))))));exact AW.ret (aP.r ⟨_,.tmp rfl .nil,.le (bG.bool ((decide_eq_true g).symm))⟩)
 .have g:=nS g;refine ai rfl (OL.nd rfl (OL.nd rfl (OL.nd rfl (OL.nd rfl (OL.nd rfl (kL rfl rfl (ai rfl ?_)))))));refine OL.nd rfl (OL.nd rfl (OL.nd rfl (OL.nd rfl (OL.nd rfl (kL rfl rfl (ai rfl (OL.nd rfl ?_)))))));refine OL.nd rfl (OL.nd rfl (OL.nd rfl (OL.nd rfl (kL rfl rfl (ai rfl (OL.nd rfl (OL.nd rfl ?_)))))));refine OL.nd rfl (OL.nd rfl (OL.nd rfl (OL.nd rfl (kL rfl rfl (ai rfl (OL.nd rfl (OL.nd rfl ?_)))))));exact OL.nd rfl (OL.nd rfl (OL.nd rfl (kL rfl rfl (aF rfl (OL.nil (AW.ret (aP.r ⟨_,.tmp rfl .nil,.le (bG.bool ((decide_eq_false g).symm))⟩)))))))
abbrev bb4:V:=.ag [.fn F.jV [],.fn F.jW [],.fn F.rD [],.fn F.jX [],.fn F.jY [],.fn F.vU [],.fn F.zo [],.fn F.rE [],.fn F.tq []]
theorem rationals  : aj P F.qo [] (bb4):=by
 refine aj.intro fn.qo (by rfl) (by rfl) (aB (by rfl)) λE hE=>(AW.sg hE rfl (al z.algebra rfl λb0=>(OL.nil (AW.sg hE rfl ?_))))
 refine VX (cs:=[_,_,_,_,_,_,_,_,_]) z.algebra pl.algebra (ve (by exact evF rfl) (ve (by exact evF rfl) (ve (by exact evF rfl) (ve (by exact evF rfl) (ve (by exact evF rfl) (ve (by exact evF rfl) (ve (by exact evF rfl) (ve (by exact evF rfl) (ve (by exact evF rfl) (VW)))))))))) (by rfl) ?_
 refine eH sz.algebra rfl rfl rfl rfl rfl (aB rfl) (cells2:=[_,_,_,_,_,_,_,_,_]) rfl (OL.nil ?_);exact AW.ret (aP.r ⟨_,.dV rfl rfl ag.algebra (aB rfl) .nil,.ag (.cons (.le vR) (.cons (.le vR) (.cons (.le vR) (.cons (.le vR) (.cons (.le vR) (.cons (.le vR) (.cons (.le vR) (.cons (.le vR) (.cons (.le vR) .nil)))))))))⟩)
theorem X9  : aj P F.xF [.d (dI 1)] (bb4):=by
 refine aj.intro fn.xF (by rfl) (by rfl) (aB (by rfl)) λE hE=>(AW.sg hE rfl (al z.algebra rfl λb2=>(OL.nil (AW.seq (AW.sg hE rfl (ai rfl (OL.nil ?_)))))))
 refine AW.block (AW.sg hE rfl (dR rfl rfl (c:=true) (by exact decide_eq_true (by omega)) (aF rfl (OL.nil (Ot rfl ?_)))))
 refine AW.sg hE rfl (bJ rfl (.nil) (rationals) (eH sz.algebra rfl rfl rfl rfl rfl (aB rfl) (cells2:=[_,_,_,_,_,_,_,_,_]) rfl (OL.nil ?_)));exact AW.ret (aP.r ⟨_,.dV rfl rfl ag.algebra (aB rfl) .nil,.ag (.cons (.le vR) (.cons (.le vR) (.cons (.le vR) (.cons (.le vR) (.cons (.le vR) (.cons (.le vR) (.cons (.le vR) (.cons (.le vR) (.cons (.le vR) .nil)))))))))⟩)
theorem aB5  : aj P F.uz [.d (dI 1)] (.d (dB true)):=by
 refine aj.intro fn.uz (by rfl) (by rfl) (aB (by rfl)) λE hE=>(AW.sg hE rfl (aF rfl (OL.nil (AW.sg hE rfl (ai rfl (qY rfl rfl (c:=true) (by exact decide_eq_true (by omega)) (ai rfl ?_)))))))
 exact OL.yes rfl (ai rfl (OL.yes rfl (xN rfl rfl (c:=true) (by exact decide_eq_true (by omega)) (oC rfl rfl (aF rfl (OL.nil (AW.ret (aP.r ⟨_,.tmp rfl .nil,.le vR⟩))))))))
theorem Nr  : aj P F.vN [l7] (.d (dB true)):=by
 refine aj.intro fn.vN (by rfl) (by rfl) (aB (by rfl)) λE hE=>(AW.sg hE rfl (iI rfl rfl λb1=>(aF rfl (OL.nil (AW.seq (AW.sg hE rfl (aW fd.nZ rfl rfl ?_)))))))
 refine aG ce.int rfl rfl rfl (eG rfl rfl (c:=true) (by exact FV (by omega)) (OL.nil (Ot rfl ?_)))
 refine AW.sg hE rfl (aW fd.nZ rfl rfl (aG ce.int rfl rfl rfl (bJ rfl .bZ (aB5) (ai rfl (OL.yes rfl (aW fd.LZ rfl rfl (OL.yes rfl ?_)))))));refine aG ce.ints rfl rfl rfl (OL.yes rfl (Ov sl.ints rfl rfl rfl (OL.yes rfl (dR rfl rfl (c:=true) (decide_eq_true rfl) (oC rfl rfl (aF rfl (OL.nil ?_)))))));exact AW.ret (aP.r ⟨_,.tmp rfl .nil,.le vR⟩)
theorem aQ3 {q:Rat}(hz:sz q<=68719476736):aj P F.jV [vW q] (.d (dB true)):=by
 refine aj.intro fn.jV (by rfl) (by rfl) (aB (by rfl)) λE hE=>(AW.sg hE rfl (iI rfl rfl λb1=>(aF rfl (OL.nil (AW.sg hE rfl (aW fd.gK rfl rfl (aO ag.Rat rfl rfl (vs:=[_,_,_]) rfl (aB rfl) ?_)))))))
 refine bJ rfl .bZ (yu (by omega)) (ai rfl (OL.yes rfl (aO ag.aA rfl rfl (vs:=[_,_,_,_,_,_,_,_]) rfl (aB rfl) (OL.yes rfl (aW fd.gK rfl rfl (OL.yes rfl (aO ag.Rat rfl rfl (vs:=[_,_,_]) rfl (aB rfl) ?_)))))))
 exact OL.yes rfl (bd z.aA pl.aA (cs:=[_,_,_,_,_,_,_,_]) rfl (OL.yes rfl (bJ rfl (.cons vR (.cons (Jb) .nil)) (ak0 hz hz) (oC rfl rfl (aF rfl (OL.nil (AW.ret (aP.r ⟨_,.tmp rfl .nil,.le (bG.bool (decide_eq_true rfl))⟩))))))))
theorem bb5  : aj P F.jW [] (vW 0):=by
 refine aj.intro fn.jW (by rfl) (by rfl) (aB (by rfl)) λE hE=>(AW.sg hE rfl (al z.aA rfl λb0=>(OL.nil (AW.sg hE rfl (bd z.aA pl.aA (cs:=[_,_,_,_,_,_,_,_]) rfl (eH sz.aA rfl rfl rfl rfl rfl (aB rfl) (cells2:=[_,_,_,_,_,_,_,_]) rfl (OL.nil ?_)))))))
 exact AW.ret (aP.r ⟨_,.dV rfl rfl ag.aA (aB rfl) .nil,.le aj8⟩)
theorem bb6 {p q:Rat}(hp:sz p<=68719476736)(hq:sz q<=68719476736):aj P F.jX [vW p,vW q] (vW (p+q)):=by
 refine aj.intro fn.jX (by rfl) (by rfl) (aB (by rfl)) λE hE=>(AW.sg hE rfl (iI rfl rfl λb2=>(iI rfl rfl λb3=>(al z.aA rfl λb4=>(OL.nil (AW.sg hE rfl (aW fd.gK rfl rfl ?_)))))))
 exact aO ag.Rat rfl rfl (vs:=[_,_,_]) rfl (aB rfl) (aW fd.gK rfl rfl (aO ag.Rat rfl rfl (vs:=[_,_,_]) rfl (aB rfl) (bJ rfl .iq (uf (by assumption) (by assumption)) (bd z.aA pl.aA (cs:=[_,_,_,_,_,_,_,_]) rfl (eH sz.aA rfl rfl rfl rfl rfl (aB rfl) (cells2:=[_,_,_,_,_,_,_,_]) rfl (OL.nil (AW.ret (aP.r ⟨_,.dV rfl rfl ag.aA (aB rfl) .nil,.le Jb⟩))))))))
theorem aQ4 {p q:Rat}(hp:sz p<=68719476736)(hq:sz q<=68719476736):aj P F.jY [vW p,vW q] (vW (p*q)):=by
 refine aj.intro fn.jY (by rfl) (by rfl) (aB (by rfl)) λE hE=>(AW.sg hE rfl (iI rfl rfl λb2=>(iI rfl rfl λb3=>(al z.aA rfl λb4=>(OL.nil (AW.sg hE rfl (aW fd.gK rfl rfl ?_)))))))
 exact aO ag.Rat rfl rfl (vs:=[_,_,_]) rfl (aB rfl) (aW fd.gK rfl rfl (aO ag.Rat rfl rfl (vs:=[_,_,_]) rfl (aB rfl) (bJ rfl .iq (kY (by assumption) (by assumption)) (bd z.aA pl.aA (cs:=[_,_,_,_,_,_,_,_]) rfl (eH sz.aA rfl rfl rfl rfl rfl (aB rfl) (cells2:=[_,_,_,_,_,_,_,_]) rfl (OL.nil (AW.ret (aP.r ⟨_,.dV rfl rfl ag.aA (aB rfl) .nil,.le Jb⟩))))))))
theorem WC {q:Rat}(hz:sz q<=68719476736):aj P F.vP [l7,vW q] (.d (dB true)):=by
 refine aj.intro fn.vP (by rfl) (by rfl) (aB (by rfl)) λE hE=>(AW.sg hE rfl (iI rfl rfl λb2=>(iI rfl rfl λb3=>(aF rfl (OL.nil (AW.seq (AW.sg hE rfl ?_)))))))
 refine aO ag.Ring rfl rfl (vs:=[_,_]) rfl (aB rfl) (bJ rfl .bZ (Nr) (nt rfl (OL.nil (qW rfl ?_))));refine AW.skip (AW.seq (AW.sg hE rfl (aW fd.nZ rfl rfl (aG ce.int rfl rfl rfl (eG rfl rfl (c:=true) (by exact FV (by omega)) (OL.nil (Ot rfl ?_)))))))
 refine AW.seq (AW.dg 1 [0,1,2,3,4,5,6] ay hE rfl (by kernel_rfl) (OI.aK (os:=[_,_,_,_,_,_,_]) rfl ?_))
 refine aW fd.nZ rfl rfl (aG ce.int rfl rfl rfl (bJ rfl .bZ (X9) (fdC fc.O6 rfl rfl (aO ag.aA rfl rfl (vs:=[_,_,_,_,_,_,_,_]) rfl (aB rfl) (bJ rfl vL (aQ3 hz) (aF rfl (OL.nil ?_)))))));exact AW.ret (aP.r ⟨_,.tmp rfl .nil,.le vR⟩)
theorem PO  : aj P F.xE [l7] (vW 0):=by
 refine aj.intro fn.xE (by rfl) (by rfl) (aB (by rfl)) λE hE=>(AW.sg hE rfl (iI rfl rfl λb1=>(al z.aA rfl λb2=>(OL.nil (AW.seq (AW.block (AW.sg hE rfl ?_)))))))
 refine aO ag.Ring rfl rfl (vs:=[_,_]) rfl (aB rfl) (bJ rfl .bZ (Nr) (nt rfl (aF rfl (OL.nil (qW rfl ?_)))));refine AW.sg hE rfl (aW fd.nZ rfl rfl (aG ce.int rfl rfl rfl (eG rfl rfl (c:=true) (by exact FV (by omega)) (aF rfl (OL.nil (Ot rfl ?_))))))
 refine AW.sg hE rfl (aW fd.nZ rfl rfl (aG ce.int rfl rfl rfl (bJ rfl .bZ (X9) (fdC fc.O7 rfl rfl (bJ rfl (.nil) (bb5) (eH sz.aA rfl rfl rfl rfl rfl (aB rfl) (cells2:=[_,_,_,_,_,_,_,_]) rfl (OL.nil ?_)))))));exact AW.ret (aP.r ⟨_,.dV rfl rfl ag.aA (aB rfl) .nil,.ag (.cons (.le vR) (.cons (.le vR) (.cons (.le vR) (.cons (.le vR) (.cons (.le vR) (.cons (.le vR) (.cons (.le vR) (.cons (.le vR) .nil))))))))⟩)
theorem valueR {q:Rat}(hz:sz q<=68719476736):aj P F.vS [l7,vW q] (vW q):=by
 refine aj.intro fn.vS (by rfl) (by rfl) (aB (by rfl)) λE hE=>(AW.sg hE rfl (iI rfl rfl λb2=>(iI rfl rfl λb3=>(al z.aA rfl λb4=>(OL.nil (AW.seq (AW.sg hE rfl ?_)))))))
 refine aO ag.Ring rfl rfl (vs:=[_,_]) rfl (aB rfl) (aO ag.aA rfl rfl (vs:=[_,_,_,_,_,_,_,_]) rfl (aB rfl) (bJ rfl .iq (WC hz) (OL.nil (Ot rfl ?_))));refine AW.sg hE rfl (aO ag.aA rfl rfl (vs:=[_,_,_,_,_,_,_,_]) rfl (aB rfl) (eH sz.aA rfl rfl rfl rfl rfl (aB rfl) (cells2:=[_,_,_,_,_,_,_,_]) rfl (OL.nil ?_)));exact AW.ret (aP.r ⟨_,.dV rfl rfl ag.aA (aB rfl) .nil,.ag (.cons (.le vR) (.cons (.le vR) (.cons (.le vR) (.cons (.le vR) (.cons (.le vR) (.cons (.le vR) (.cons (.le vR) (.cons (.le vR) .nil))))))))⟩)
theorem PS {p q:Rat}(hp:sz p<=68719476736)(hq:sz q<=68719476736):aj P F.xC [l7,vW p,vW q] (vW (p+q)):=by
 refine aj.intro fn.xC (by rfl) (by rfl) (aB (by rfl)) λE hE=>(AW.sg hE rfl (iI rfl rfl λb3=>(iI rfl rfl λb4=>(iI rfl rfl λb5=>(al z.aA rfl λb6=>(OL.nil (AW.seq ?_)))))))
 refine AW.sg hE rfl (aO ag.Ring rfl rfl (vs:=[_,_]) rfl (aB rfl) (bJ rfl .bZ (Nr) (nt rfl (OL.nil (qW rfl ?_)))));refine AW.skip (AW.seq (AW.dg 1 [0,1,2,3,4,5,6,7] ay hE rfl (by kernel_rfl) (OI.aK (os:=[_,_,_,_,_,_,_,_]) rfl ?_)))
 refine aO ag.Ring rfl rfl (vs:=[_,_]) rfl (aB rfl) (aO ag.aA rfl rfl (vs:=[_,_,_,_,_,_,_,_]) rfl (aB rfl) (bJ rfl .iq (valueR (by assumption)) (aO ag.Ring rfl rfl (vs:=[_,_]) rfl (aB rfl) (aO ag.aA rfl rfl (vs:=[_,_,_,_,_,_,_,_]) rfl (aB rfl) (bJ rfl .iq (valueR (by assumption)) (eH sz.aA rfl rfl rfl rfl rfl (aB rfl) (cells2:=[_,_,_,_,_,_,_,_]) rfl (eH sz.aA rfl rfl rfl rfl rfl (aB rfl) (cells2:=[_,_,_,_,_,_,_,_]) rfl ?_)))))))
 refine OL.nil (AW.seq (AW.sg hE rfl (aW fd.nZ rfl rfl (aG ce.int rfl rfl rfl (eG rfl rfl (c:=true) (by exact FV (by omega)) (OL.nil (Ot rfl ?_)))))))
 refine AW.seq (AW.dg 1 [0,1,2,3,4,5,6,7] ay hE rfl (by kernel_rfl) (OI.aK (os:=[_,_,_,_,_,_,_,_]) rfl ?_))
 refine aW fd.nZ rfl rfl (aG ce.int rfl rfl rfl (bJ rfl .bZ (X9) (fdC fc.O8 rfl rfl (aO ag.aA rfl rfl (vs:=[_,_,_,_,_,_,_,_]) rfl (aB rfl) (aO ag.aA rfl rfl (vs:=[_,_,_,_,_,_,_,_]) rfl (aB rfl) (bJ rfl vL (bb6 hp hq) (eH sz.aA rfl rfl rfl rfl rfl (aB rfl) (cells2:=[_,_,_,_,_,_,_,_]) rfl ?_)))))));refine OL.nil ?_;exact AW.ret (aP.r ⟨_,.dV rfl rfl ag.aA (aB rfl) .nil,.ag (.cons (.le vR) (.cons (.le vR) (.cons (.le vR) (.cons (.le vR) (.cons (.le vR) (.cons (.le vR) (.cons (.le vR) (.cons (.le vR) .nil))))))))⟩)
theorem ak1 {p q:Rat}(hp:sz p<=68719476736)(hq:sz q<=68719476736):aj P F.vO [l7,vW p,vW q] (vW (p*q)):=by
 refine aj.intro fn.vO (by rfl) (by rfl) (aB (by rfl)) λE hE=>(AW.sg hE rfl (iI rfl rfl λb3=>(iI rfl rfl λb4=>(iI rfl rfl λb5=>(al z.aA rfl λb6=>(OL.nil (AW.seq ?_)))))))
 refine AW.sg hE rfl (aO ag.Ring rfl rfl (vs:=[_,_]) rfl (aB rfl) (bJ rfl .bZ (Nr) (nt rfl (OL.nil (qW rfl ?_)))));refine AW.skip (AW.seq (AW.dg 1 [0,1,2,3,4,5,6,7] ay hE rfl (by kernel_rfl) (OI.aK (os:=[_,_,_,_,_,_,_,_]) rfl ?_)))
 refine aO ag.Ring rfl rfl (vs:=[_,_]) rfl (aB rfl) (aO ag.aA rfl rfl (vs:=[_,_,_,_,_,_,_,_]) rfl (aB rfl) (bJ rfl .iq (valueR (by assumption)) (aO ag.Ring rfl rfl (vs:=[_,_]) rfl (aB rfl) (aO ag.aA rfl rfl (vs:=[_,_,_,_,_,_,_,_]) rfl (aB rfl) (bJ rfl .iq (valueR (by assumption)) (eH sz.aA rfl rfl rfl rfl rfl (aB rfl) (cells2:=[_,_,_,_,_,_,_,_]) rfl (eH sz.aA rfl rfl rfl rfl rfl (aB rfl) (cells2:=[_,_,_,_,_,_,_,_]) rfl ?_)))))))
 refine OL.nil (AW.seq (AW.sg hE rfl (aW fd.nZ rfl rfl (aG ce.int rfl rfl rfl (eG rfl rfl (c:=true) (by exact FV (by omega)) (OL.nil (Ot rfl ?_)))))))
 refine AW.seq (AW.dg 1 [0,1,2,3,4,5,6,7] ay hE rfl (by kernel_rfl) (OI.aK (os:=[_,_,_,_,_,_,_,_]) rfl ?_))
 refine aW fd.nZ rfl rfl (aG ce.int rfl rfl rfl (bJ rfl .bZ (X9) (fdC fc.O9 rfl rfl (aO ag.aA rfl rfl (vs:=[_,_,_,_,_,_,_,_]) rfl (aB rfl) (aO ag.aA rfl rfl (vs:=[_,_,_,_,_,_,_,_]) rfl (aB rfl) (bJ rfl vL (aQ4 hp hq) (eH sz.aA rfl rfl rfl rfl rfl (aB rfl) (cells2:=[_,_,_,_,_,_,_,_]) rfl ?_)))))));refine OL.nil ?_;exact AW.ret (aP.r ⟨_,.dV rfl rfl ag.aA (aB rfl) .nil,.ag (.cons (.le vR) (.cons (.le vR) (.cons (.le vR) (.cons (.le vR) (.cons (.le vR) (.cons (.le vR) (.cons (.le vR) (.cons (.le vR) .nil))))))))⟩)
theorem aB6 {q:Rat}(hz:sz q<=68719476736):aj P F.rZ [l7,vW q] (.d (dB (decide (q=0)))):=by
 have h0K:=z0K;refine aj.intro fn.rZ (by rfl) (by rfl) (aB (by rfl)) λE hE=>(AW.sg hE rfl (iI rfl rfl λb2=>(iI rfl rfl λb3=>(aF rfl (OL.nil (AW.seq (AW.dg 1 [0,1,2,3,4] ay hE rfl (by kernel_rfl) (OI.aK (os:=[_,_,_,_,_]) rfl ?_))))))))
 exact aO ag.aA rfl rfl (vs:=[_,_,_,_,_,_,_,_]) rfl (aB rfl) (aO ag.Ring rfl rfl (vs:=[_,_]) rfl (aB rfl) (bJ rfl .bZ (PO) (bJ rfl .iq (ak0 hz h0K) (aF rfl (OL.nil (AW.ret (aP.r ⟨_,.tmp rfl .nil,.le vR⟩)))))))

/-
  Walks of package semiring, over the rational numbers (printed by mk2.py).
-/
import Derived.Test.YtanlenlmihoiiaaGreatDoorKMod78
set_option linter.unusedVariables false
set_option linter.unusedSimpArgs false
namespace Go.AL
open Go Go.BigFrame
structure PL (a b:Au):Prop where
 st:a.st=b.st
 sym:a.sym=b.sym
 ini:a.ini=b.ini
 fin:a.fin=b.fin
 ent:∀ s i j,jf a.aN s i j=jf b.aN s i j
def lF (a:Au):Au:={ a with aN:=pX a.aN }
def pJ (a:Au):Au:=⟨a.sym,a.st,a.fin,a.ini,pX (a.aN.map λx=>⟨x.t,x.l,x.f,x.q⟩)⟩
section
variable {a b c d:Au}{w:List Int}{s i j:Nat}
theorem Sl {n:Nat}{f g:Nat->Nat->Rat}(h:∀ i j,i<n->j<n->f i j=g i j):Ig n f=Ig n g:=by
 unfold Ig;refine List.map_congr_left λi hi=>List.map_congr_left λj hj=>h i j (List.mem_range.1 hi) (List.mem_range.1 hj)
theorem PL.bB4 (h:PL a b)(r q:List Au)(hr:∀ s i j,uM r s i j=uM q s i j):uM (a::r) s i j=uM (b::q) s i j:=by
 rw[uM,uM,h.st,h.ent,hr]
theorem PL.JD (h:PL a b):ah [a]=ah [b]:=by
 unfold ah;have e:(λs=>Ig (aS [a]) (uM [a] s))=λs=>Ig (aS [b]) (uM [b] s):=by
  funext s;rw[kG,kG,h.st];exact Sl λi j _ _=>h.bB4 [] [] λ_ _ _=>rfl
 rw[e,kG,kG,h.st];simp only[List.flatMap_cons,List.flatMap_nil,UH,List.getD_cons_zero,h.ini,h.fin,h.sym]
theorem PL.refl (a:Au):PL a a:=⟨rfl,rfl,rfl,rfl,λ_ _ _=>rfl⟩
theorem Sr (a:Au):PL (lF a) a:=⟨rfl,rfl,rfl,rfl,λ_ _ _=>DY⟩
theorem Au.Ok.form (h:a.Ok):(lF a).Ok:=⟨h.Jl,h.ini,h.fin,gQ.form (p:=λf l t=>f<a.st/\t<a.st/\1<=l/\l<=a.sym) h.arc⟩
theorem Au.Ok.rev (h:a.Ok):(pJ a).Ok:=⟨h.Jl,h.fin,h.ini,gQ.form (p:=λf l t=>f<a.st/\t<a.st/\1<=l/\l<=a.sym) λy hy=>by
 obtain⟨x,hx,rfl⟩:=kK hy;have:=h.arc x hx;exact⟨this.2.1,this.1,this.2.2⟩⟩
theorem aA0 {l:List bU}{n:Nat}(h:∀ x,x ∈ l->x.f<n/\x.t<n)(hij:n<=i \/ n<=j):jf l s i j=0:=PK λx hx=>if_neg (by have:=h x hx;omega)
theorem ac2 {m:bV}(hw:iV m.k w):yH (aA m) w=yH m w.reverse:=by
 have h:=CQ w [] hw;rw[List.nil_append] at h;rw[<- h];unfold yH jP vX;exact aJ λi _=>Rat.mul_comm ..
end
noncomputable def rkA (a:Au):Nat:=Ih a.sym (xA a)
section
variable {a b c:Au}{w:List Int}{q:Rat}
theorem aP6 {x y:Rat}(h:x-y=0):x=y:=by
 rw[<- Rat.sub_add_cancel (a:=x) (b:=y),h,Rat.zero_add]
theorem xE:(ah [a]).k=a.sym:=GV
end
def Gf (k n:Int):Nat:=(k % n).toNat
def UL (v:Int):Int:=v % 13-6
def UM (v:Int):Int:=1+IntKind.i64.wrap (v.tdiv 13) % 3
def YU (v:Int):Rat:=((UL v:Int):Rat) / ((UM v:Int):Rat)
structure lZ where
 st:Int
 ini:List Int
 fin:List Int
 aN:List Int
instance:Inhabited lZ:=⟨⟨0,[],[],[]⟩⟩
def gU (m:lZ)(most:Nat):Nat:=1+Gf (IntKind.i64.wrap (m.st-1)) most
def Fp (l:List Int)(i one:Nat):Rat:=if i<l.length then YU (l.getD i 0) else if i=one then 1 else 0
def WG (l:List Int)(sym n g:Nat):bU:=⟨Gf (l.getD (4*g) 0) n,1+Gf (l.getD (4*g+1) 0) sym,Gf (l.getD (4*g+2) 0) n,YU (l.getD (4*g+3) 0)⟩
def groups (l:List Int):Nat:=min (l.length / 4) 10
def dZ (m:lZ)(sym most:Nat):Au:=⟨sym,gU m most,(List.range (gU m most)).map λi=>Fp m.ini i 0,(List.range (gU m most)).map λi=>Fp m.fin i (gU m most-1),(List.range (groups m.aN)).map (WG m.aN sym (gU m most))⟩
section
variable {m:lZ}{sym most:Nat}{k v:Int}{l:List Int}
theorem JE {n:Nat}(k:Int)(h:1<=n):Gf k n<n:=by
 have h1:=Int.emod_lt_of_pos k (show (0:Int)<n by omega)
 have h2:=Int.emod_nonneg k (show (n:Int)≠0 by omega)
 unfold Gf;omega
theorem PN {n:Nat}(k:Int)(h:1<=n):(Gf k n:Int)=k % n:=by
 have h2:=Int.emod_nonneg k (show (n:Int)≠0 by omega)
 unfold Gf;omega
theorem ac3 (v:Int):-6<=UL v/\UL v<=6:=by unfold UL;omega
theorem ac4 (v:Int):1<=UM v/\UM v<=3:=by unfold UM;omega
theorem ac5 (v:Int):sz (YU v)<=1:=by
 have h1:=ac3 v;have h2:=ac4 v;exact ax1 (by omega) (by omega) (by omega)
theorem WH (l:List Int)(i one:Nat):sz (Fp l i one)<=1:=by
 unfold Fp
 split
 .exact ac5 _
 .split
  .rw[FO];exact Nat.le_refl _
  .rw[fH];exact Nat.le_refl _
theorem NM (h:1<=most):1<=gU m most/\gU m most<=most:=by
 have:=JE (IntKind.i64.wrap (m.st-1)) h;unfold gU;omega
theorem aP7 (hs:1<=sym)(h:1<=most):(dZ m sym most).Ok:=by
 have hst:=NM (m:=m) h;refine⟨hs,by simp[dZ],by simp[dZ],λx hx=>?_⟩
 obtain⟨g,_,rfl⟩:=kK hx;have h1:=JE (m.aN.getD (4*g) 0) hst.1;have h2:=JE (m.aN.getD (4*g+1) 0) hs;have h3:=JE (m.aN.getD (4*g+2) 0) hst.1;refine⟨h1,h3,?_,?_⟩
 .show 1<=1+Gf _ _;omega
 .show 1+Gf _ _<=sym;omega
structure Au.Sz (a:Au) (B N:Nat):Prop where
 ini:Small B a.ini
 fin:Small B a.fin
 arc:∀ x,x ∈ a.aN->sz x.q<=B
 num:a.aN.length<=N
theorem zV:(dZ m sym most).Sz 1 10:=by
 refine⟨λq hq=>?_,λq hq=>?_,λx hx=>?_,?_⟩
 .obtain⟨i,_,rfl⟩:=kK hq;exact WH ..
 .obtain⟨i,_,rfl⟩:=kK hq;exact WH ..
 .obtain⟨g,_,rfl⟩:=kK hx;exact ac5 _
 .show ((List.range (groups m.aN)).map _).length<=10
  rw[dA,List.length_range];exact Nat.min_le_right ..
end
abbrev dW (q:Rat):D:=.ag [dB (fZ q).neg,aH (fZ q).num,aH (fZ q).den,dI 0,dB false,dU 0,.sl [],.sl []]
abbrev vW (q:Rat):V:=.ag [.d (dB (fZ q).neg),.d (aH (fZ q).num),.d (aH (fZ q).den),.d (dI 0),.d (dB false),.d (dU 0),.d (.sl []),.d (.sl [])]
abbrev qG (l:List Rat):D:=.sl (l.map dW)
abbrev jG (x:bU):D:=.ag [dI x.f,dI x.l,dI x.t,dB (fZ x.q).neg,aH (fZ x.q).num,aH (fZ x.q).den,dI 0,dB false,dU 0,.sl [],.sl []]
abbrev KU (x:bU):V:=.ag [.d (dI x.f),.d (dI x.l),.d (dI x.t),.d (dB (fZ x.q).neg),.d (aH (fZ x.q).num),.d (aH (fZ x.q).den),.d (dI 0),.d (dB false),.d (dU 0),.d (.sl []),.d (.sl [])]
abbrev jW (l:List bU):D:=.sl (l.map jG)
abbrev kS:V:=.ag [.d (dI 1),.d (.sl [])]
abbrev yV (a:Au):V:=.ag [.d (dI 1),.d (.sl []),.d (dI a.sym),.d (dI a.st),.d (qG a.ini),.d (qG a.fin),.d (jW a.aN)]
abbrev wZ (m:bV):V:=.ag [.d (dJ m.ini),.d (dJ m.fin),.d (.sl (m.jb.map qg))]
abbrev y5 (m:bV)(w:List Int):D:=.ag [ints w,dJ (bF m w)]
abbrev ak9 (m:bV)(w:List Int):V:=.ag [.d (ints w),.d (dJ (bF m w))]
section
variable {q:Rat}{x:bU}
theorem aA1:bW (.ag [.d (dB false),.mt,.mt,.d (dI 0),.d (dB false),.d (dU 0),.mt,.mt]) (vW 0):=by
 unfold vW;rw[rO];exact bW.ag (.cons vR (.cons bW.mt (.cons bW.mt (.cons vR (.cons vR (.cons vR (.cons bW.mt (.cons bW.mt .nil))))))))
theorem IC:bW (.ag [.d (dB (fZ q).neg),.d (aH (fZ q).num),.d (aH (fZ q).den),.d (dI 0),.d (dB false),.d (dU 0),.mt,.mt]) (vW q) :=
 bW.ag (.cons vR (.cons vR (.cons vR (.cons vR (.cons vR (.cons vR (.cons bW.mt (.cons bW.mt .nil))))))))
end
end Go.AL
namespace Go.Proofs.YtanlenlmihoiiaaGreatDoor
open Go Go.AL
theorem ac6 {p q:Rat}(h:fZ p=fZ q):p=q:=by rw[<- ny p,h,ny]
theorem aA2 {r s:Raw}(h1:r.neg=s.neg)(h2:r.num=s.num)(h3:r.den=s.den):r=s:=by cases r;cases s;simp_all
theorem Sv {l m:List Nat}(nl:l.length<=8796093022208)(nm:m.length<=8796093022208):ai P F.jq [.d (aH l),.d (aH m)] (.d (dB (decide (l=m)))):=by
 refine ai.intro fn.jq (by rfl) (by rfl) (ay (by rfl)) λE hE=>(AW.sg hE rfl (aF rfl (OL.nil (AW.seq (AW.sg hE rfl (aj rfl (fF sl.aH rfl rfl ?_)))))))
 refine aj rfl (fF sl.aH rfl rfl (eX rfl rfl rfl (OL.nil (AW.cond rfl (λh10=>?_) (λh10=>?_)))))
 .have hl:l.length≠m.length:=by have:=BI h10;omega
  exact AW.sg hE rfl (aF rfl (OL.nil (AW.ret (aP.r ⟨_,.tmp rfl .nil,.le (bW.bool ((decide_eq_false λe=>hl (by rw[e])).symm))⟩))))
 .have hl:l.length=m.length:=by have:=yY h10;omega
  refine AW.skip (AW.seq (AW.sg hE rfl (aj rfl (fF sl.aH rfl rfl (aj rfl (OL.nil (AW.block ?_)))))));refine AW.aY (α:=Nat) [(0,_),(1,_),(12,_)] [] (λi=>[(13,.d (dI i))]) (λi=>[]) (λi=>i<=l.length/\∀ j,j<i->l.getD j 0=m.getD j 0) (λi=>l.length-i) 0 (.cons (di rfl) (.cons (di rfl) (.cons (di rfl) .nil))) .nil ⟨⟨Nat.zero_le _,λj hj=>by omega⟩,.dD,.nil⟩ ?_
  rintro i ⟨h1,h2⟩
  refine AW.sg hE rfl (bG rfl rfl rfl (OL.nil (AW.seq (AW.cond rfl (λCO=>?_) (λCO=>?_)))))
  .try simp only[fD] at CO
   refine AW.skip (AW.seq (AW.block (AW.sg hE rfl (aj rfl (aF rfl (OL.nil (AW.seq ?_)))))));refine AW.dg 1 [0,1,2,3,4,5,6,7,8] ak hE rfl (by kernel_rfl) (OI.aK (os:=[_,_,_,_,_,_,_,_,_]) rfl ?_)
   refine aj rfl (aj rfl (dR sl.aH 0 rfl rfl (by omega) rfl rfl (iE ce.u32 rfl (aj rfl (aj rfl (dR sl.aH 0 rfl rfl (by omega) rfl rfl (iE ce.u32 rfl ?_)))))))
   refine eX rfl rfl rfl (OL.nil (AW.cond rfl (λhc=>?_) (λhc=>?_)))
   .have hc:l.getD i 0≠m.getD i 0:=by have:=BI hc;omega
    exact AW.sg hE rfl (aF rfl (OL.nil (AW.ret (aP.r ⟨_,.tmp rfl .nil,.le (bW.bool ((decide_eq_false λe=>hc (by rw[e])).symm))⟩))))
   .have hc:l.getD i 0=m.getD i 0:=by have:=yY hc;omega
    refine AW.skip (AW.rg hE rfl (aI rfl rfl (by omega) (aj rfl (OL.nil ?_))))
    exact AW.again (x:=i) (i+1) (by omega) ⟨⟨by omega,λj hj=>by rcases Nat.lt_or_ge j i with h|h;exact h2 j h;obtain rfl:j=i:=(by omega);exact hc⟩,Knows.app .yU .dD,.nil⟩
  .try simp only[fD] at CO
   exact AW.exit (AW.sg hE rfl (aF rfl (OL.nil (AW.ret (aP.r ⟨_,.tmp rfl .nil,.le (bW.bool ((decide_eq_true (zC hl 0 λj hj=>h2 j (by omega))).symm))⟩)))))
theorem aP8 {p q:Rat}(hp:sz p<=68719476736)(hq:sz q<=68719476736):ai P F.tJ [vQ p,vQ q] (.d (dB (decide (p=q)))):=by
 have sp:=Uw hp;have sq:=Uw hq;have l1:=sp.ln;have l2:=sp.ld;have l3:=sq.ln;have l4:=sq.ld;refine ai.intro fn.tJ (by rfl) (by rfl) (ay (by rfl)) λE hE=>(AW.sg hE rfl (iO rfl rfl λb2=>(iO rfl rfl λb3=>(aF rfl (OL.nil (AW.sg hE rfl (bC fd.uh rfl rfl ?_)))))))
 refine aG ce.bool rfl rfl rfl (bC fd.uh rfl rfl (aG ce.bool rfl rfl rfl (eqb bt.bool rfl rfl (OL.split 9 rfl (λg=>?_) (λg=>?_)))))
 .have g:=lK g;refine aj rfl (OL.yes rfl (bC fd.rZ rfl rfl (OL.yes rfl (aG ce.aH rfl rfl rfl (OL.yes rfl (bC fd.rZ rfl rfl (OL.yes rfl ?_)))))));refine aG ce.aH rfl rfl rfl (OL.yes rfl (bH rfl .iW (Sv (by omega) (by omega)) (OL.split 15 rfl (λk=>?_) (λk=>?_))))
  .have k:=lK k;refine oK rfl rfl (aj rfl (OL.yes rfl (bC fd.o6 rfl rfl (OL.yes rfl (aG ce.aH rfl rfl rfl (OL.yes rfl (bC fd.o6 rfl rfl ?_)))))));exact OL.yes rfl (aG ce.aH rfl rfl rfl (OL.yes rfl (bH rfl .iW (Sv (by omega) (by omega)) (oK rfl rfl (aF rfl (OL.nil (AW.ret (aP.r ⟨_,.tmp rfl .nil,.le (bW.bool (decide_eq_decide.2 ⟨λe=>ac6 (aA2 g k e),λe=>by rw[e]⟩))⟩))))))))
  .have k:=nZ k;refine oK rfl rfl (aj rfl (OL.nd rfl (OL.nd rfl (OL.nd rfl (OL.nd rfl (OL.nd rfl (oI rfl rfl ?_)))))));exact aF rfl (OL.nil (AW.ret (aP.r ⟨_,.tmp rfl .nil,.le (bW.bool ((decide_eq_false λe=>k (by rw[e])).symm))⟩)))
 .have g:=nZ g;refine aj rfl (OL.nd rfl (OL.nd rfl (OL.nd rfl (OL.nd rfl (OL.nd rfl (oI rfl rfl (aj rfl ?_)))))));refine OL.nd rfl (OL.nd rfl (OL.nd rfl (OL.nd rfl (OL.nd rfl (oI rfl rfl (aF rfl (OL.nil ?_)))))));exact AW.ret (aP.r ⟨_,.tmp rfl .nil,.le (bW.bool ((decide_eq_false λe=>g (by rw[e])).symm))⟩)
theorem KW {f:Nat}:ai P F.dG [.d (.sl []),.d (.sl []),.fn f []] (.d (dB true)):=by
 refine ai.intro fn.dG (by rfl) (by rfl) (ay (by rfl)) λE hE=>(AW.sg hE rfl (aF rfl (OL.nil (AW.seq (AW.sg hE rfl (aj rfl (LP sl.iR rfl rfl rfl ?_)))))))
 refine aj rfl (LP sl.iR rfl rfl rfl (eX rfl rfl (c:=false) (kY rfl) (OL.nil (oH rfl ?_))));refine AW.skip (AW.seq (AW.sg hE rfl (aj rfl (LP sl.iR rfl rfl rfl (aj rfl (OL.nil (AW.block ?_)))))));refine AW.aY (α:=Unit) [(1,_),(2,_),(15,_),(16,_)] [] (λ_u=>[(17,.d (dI 0))]) (λ_u=>[]) (λ_u=>True) (λ_u=>0) () (.cons (di rfl) (.cons (KF rfl) (.cons (di rfl) (.cons (di rfl) .nil)))) .nil ⟨trivial,.dD,.nil⟩ ?_;intro _ _;refine AW.sg hE rfl (bG rfl rfl rfl (OL.nil (AW.seq (AW.cond rfl (λhno=>absurd hno (by simp)) (λ_=>?_)))))
 exact AW.exit (AW.sg hE rfl (aF rfl (OL.nil (AW.ret (aP.r ⟨_,.tmp rfl .nil,.le vR⟩)))))
theorem PO {f:Nat}:ai P F.eF [.d (.sl []),.d (.sl []),.fn f []] (.d (dB true)):=by
 refine ai.intro fn.eF (by rfl) (by rfl) (ay (by rfl)) λE hE=>(AW.sg hE rfl (aF rfl (OL.nil (AW.seq (AW.sg hE rfl (aj rfl (LP sl.aW rfl rfl rfl ?_)))))))
 refine aj rfl (LP sl.aW rfl rfl rfl (eX rfl rfl (c:=false) (kY rfl) (OL.nil (oH rfl ?_))));refine AW.skip (AW.seq (AW.sg hE rfl (aj rfl (LP sl.aW rfl rfl rfl (aj rfl (OL.nil (AW.block ?_)))))));refine AW.aY (α:=Unit) [(1,_),(2,_),(15,_),(16,_)] [] (λ_u=>[(17,.d (dI 0))]) (λ_u=>[]) (λ_u=>True) (λ_u=>0) () (.cons (di rfl) (.cons (KF rfl) (.cons (di rfl) (.cons (di rfl) .nil)))) .nil ⟨trivial,.dD,.nil⟩ ?_;intro _ _;refine AW.sg hE rfl (bG rfl rfl rfl (OL.nil (AW.seq (AW.cond rfl (λhno=>absurd hno (by simp)) (λ_=>?_)))))
 exact AW.exit (AW.sg hE rfl (aF rfl (OL.nil (AW.ret (aP.r ⟨_,.tmp rfl .nil,.le vR⟩)))))
theorem aA3 {p q:Rat}(hp:sz p<=68719476736)(hq:sz q<=68719476736):ai P F.wO [vW p,vW q] (.d (dB (decide (p=q)))):=by
 refine ai.intro fn.wO (by rfl) (by rfl) (ay (by rfl)) λE hE=>(AW.sg hE rfl (iO rfl rfl λb2=>(iO rfl rfl λb3=>(aF rfl (OL.nil (AW.sg hE rfl (asF rfl ?_)))))))
 refine OL.nil (AW.sg hE rfl (bC fd.iC rfl rfl (aQ ag.Rat rfl rfl (vs:=[_,_,_]) rfl (ay rfl) (bC fd.iC rfl rfl (aQ ag.Rat rfl rfl (vs:=[_,_,_]) rfl (ay rfl) (bH rfl .iW (aP8 hp hq) (OL.split 10 rfl (λg=>?_) (λg=>?_))))))))
 .have g:=lK g;refine aj rfl (OL.yes rfl (bC fd.DF rfl rfl (OL.yes rfl (aG ce.int rfl rfl rfl (OL.yes rfl (bC fd.DF rfl rfl (OL.yes rfl ?_)))))));refine aG ce.int rfl rfl rfl (OL.yes rfl (fG rfl rfl (c:=true) (decide_eq_true rfl) (oK rfl rfl (aj rfl (OL.yes rfl (bC fd.Bg rfl rfl (OL.yes rfl ?_)))))));refine aG ce.bool rfl rfl rfl (OL.yes rfl (bC fd.Bg rfl rfl (OL.yes rfl (aG ce.bool rfl rfl rfl (OL.yes rfl (eqb bt.bool rfl rfl (oK rfl rfl ?_)))))));refine aj rfl (OL.yes rfl (bC fd.DI rfl rfl (OL.yes rfl (aG ce.u64 rfl rfl rfl (OL.yes rfl (bC fd.DI rfl rfl (OL.yes rfl ?_)))))));refine aG ce.u64 rfl rfl rfl (OL.yes rfl (fG rfl rfl (c:=true) (decide_eq_true rfl) (oK rfl rfl (aj rfl (OL.yes rfl (bC fd.DJ rfl rfl (OL.yes rfl ?_)))))));refine aG ce.iR rfl rfl rfl (OL.yes rfl (bC fd.DJ rfl rfl (OL.yes rfl (aG ce.iR rfl rfl rfl (OL.yes rfl (QU rfl (OL.yes rfl ?_)))))));refine bH rfl .yU (KW) (oK rfl rfl (aj rfl (OL.yes rfl (bC fd.Bh rfl rfl (OL.yes rfl (aG ce.aW rfl rfl rfl (OL.yes rfl ?_)))))));refine bC fd.Bh rfl rfl (OL.yes rfl (aG ce.aW rfl rfl rfl (OL.yes rfl (bH rfl .yU (PO) (oK rfl rfl (aF rfl (OL.nil ?_)))))));exact AW.ret (aP.r ⟨_,.tmp rfl .nil,.le (bW.bool ((decide_eq_true g).symm))⟩)
 .have g:=nZ g;refine aj rfl (OL.nd rfl (OL.nd rfl (OL.nd rfl (OL.nd rfl (OL.nd rfl (oI rfl rfl (aj rfl ?_)))))));refine OL.nd rfl (OL.nd rfl (OL.nd rfl (OL.nd rfl (OL.nd rfl (oI rfl rfl (aj rfl (OL.nd rfl ?_)))))));refine OL.nd rfl (OL.nd rfl (OL.nd rfl (OL.nd rfl (oI rfl rfl (aj rfl (OL.nd rfl (OL.nd rfl ?_)))))));refine OL.nd rfl (OL.nd rfl (OL.nd rfl (OL.nd rfl (oI rfl rfl (aj rfl (OL.nd rfl (OL.nd rfl ?_)))))));exact OL.nd rfl (OL.nd rfl (OL.nd rfl (oI rfl rfl (aF rfl (OL.nil (AW.ret (aP.r ⟨_,.tmp rfl .nil,.le (bW.bool ((decide_eq_false g).symm))⟩)))))))

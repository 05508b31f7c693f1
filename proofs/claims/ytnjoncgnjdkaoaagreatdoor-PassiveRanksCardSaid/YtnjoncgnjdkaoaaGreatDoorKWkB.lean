/-
  Walks of package semiring, over the rational numbers, part 2 (printed by mk2.py).
-/
import Derived.Test.YtnjoncgnjdkaoaaGreatDoorKMod78
set_option linter.unusedVariables false
set_option linter.unusedSimpArgs false
namespace Go.AL
open Go Go.BigFrame
structure FO (a b:Au):Prop where
 st:a.st=b.st
 sym:a.sym=b.sym
 ini:a.ini=b.ini
 fin:a.fin=b.fin
 ent:∀ s i j,jd a.aP s i j=jd b.aP s i j
def rQ (a:Au):Au:={ a with aP:=qH a.aP }
def sJ (a:Au):Au:=⟨a.sym,a.st,a.fin,a.ini,qH (a.aP.map λx=>⟨x.t,x.l,x.f,x.q⟩)⟩
section
variable {a b c d:Au}{w:List Int}{s i j:Nat}
theorem Pq {n:Nat}{f g:Nat->Nat->Rat}(h:∀ i j,i<n->j<n->f i j=g i j):Gf n f=Gf n g:=by
 unfold Gf;refine List.map_congr_left λi hi=>List.map_congr_left λj hj=>h i j (List.mem_range.1 hi) (List.mem_range.1 hj)
theorem FO.bg1 (h:FO a b)(r q:List Au)(hr:∀ s i j,AP r s i j=AP q s i j):AP (a::r) s i j=AP (b::q) s i j:=by
 rw[AP,AP,h.st,h.ent,hr]
theorem FO.Ue (h:FO a b):aY [a]=aY [b]:=by
 unfold aY;have e:(λs=>Gf (um [a]) (AP [a] s))=λs=>Gf (um [b]) (AP [b] s):=by
  funext s;rw[gG,gG,h.st];exact Pq λi j _ _=>h.bg1 [] [] λ_ _ _=>rfl
 rw[e,gG,gG,h.st];simp only[List.flatMap_cons,List.flatMap_nil,ay8,List.getD_cons_zero,h.ini,h.fin,h.sym]
theorem FO.ser (h:FO a b):jm a=jm b:=by unfold jm;rw[h.Ue]
theorem FO.refl (a:Au):FO a a:=⟨rfl,rfl,rfl,rfl,λ_ _ _=>rfl⟩
theorem IW (a:Au):FO (rQ a) a:=⟨rfl,rfl,rfl,rfl,λ_ _ _=>Fe⟩
theorem Au.Ok.form (h:a.Ok):(rQ a).Ok:=⟨h.GY,h.ini,h.fin,ig.form (p:=λf l t=>f<a.st/\t<a.st/\1<=l/\l<=a.sym) h.arc⟩
theorem Au.Ok.rev (h:a.Ok):(sJ a).Ok:=⟨h.GY,h.fin,h.ini,ig.form (p:=λf l t=>f<a.st/\t<a.st/\1<=l/\l<=a.sym) λy hy=>by
 obtain⟨x,hx,rfl⟩:=jY hy;have:=h.arc x hx;exact⟨this.2.1,this.1,this.2.2⟩⟩
theorem XR {m:dZ}(hw:iV m.k w):wW (bI m) w=wW m w.reverse:=by
 have h:=yg w [] hw;rw[List.nil_append] at h;rw[<- h];unfold wW jP Bl;exact aJ λi _=>Rat.mul_comm ..
end
noncomputable def Wj (a:Au):Nat:=Bz a.sym (jm a)
section
variable {a b c:Au}{w:List Int}{q:Rat}
theorem az4 {x y:Rat}(h:x-y=0):x=y:=by
 rw[<- Rat.sub_add_cancel (a:=x) (b:=y),h,Rat.zero_add]
theorem JG:(aY [a]).k=a.sym:=E8
end
def aM7 (k n:Int):Nat:=(k % n).toNat
def bg2 (v:Int):Int:=v % 13-6
def bg3 (v:Int):Int:=1+IntKind.i64.wrap (v.tdiv 13) % 3
def bg4 (v:Int):Rat:=((bg2 v:Int):Rat) / ((bg3 v:Int):Rat)
structure Rf where
 st:Int
 ini:List Int
 fin:List Int
 aP:List Int
instance:Inhabited Rf:=⟨⟨0,[],[],[]⟩⟩
def aX4 (l:List Int)(sym n g:Nat):bD:=⟨aM7 (l.getD (4*g) 0) n,1+aM7 (l.getD (4*g+1) 0) sym,aM7 (l.getD (4*g+2) 0) n,bg4 (l.getD (4*g+3) 0)⟩
section
variable {m:Rf}{sym most:Nat}{k v:Int}{l:List Int}
structure Au.Sz (a:Au) (B N:Nat):Prop where
 ini:Small B a.ini
 fin:Small B a.fin
 arc:∀ x,x ∈ a.aP->sz x.q<=B
 num:a.aP.length<=N
end
abbrev dW (q:Rat):D:=.ag [dB (fP q).neg,aF (fP q).num,aF (fP q).den,dI 0,dB false,dU 0,.sl [],.sl []]
abbrev vW (q:Rat):V:=.ag [.d (dB (fP q).neg),.d (aF (fP q).num),.d (aF (fP q).den),.d (dI 0),.d (dB false),.d (dU 0),.d (.sl []),.d (.sl [])]
abbrev tH (l:List Rat):D:=.sl (l.map dW)
abbrev je (x:bD):D:=.ag [dI x.f,dI x.l,dI x.t,dB (fP x.q).neg,aF (fP x.q).num,aF (fP x.q).den,dI 0,dB false,dU 0,.sl [],.sl []]
abbrev Hu (x:bD):V:=.ag [.d (dI x.f),.d (dI x.l),.d (dI x.t),.d (dB (fP x.q).neg),.d (aF (fP x.q).num),.d (aF (fP x.q).den),.d (dI 0),.d (dB false),.d (dU 0),.d (.sl []),.d (.sl [])]
abbrev lK (l:List bD):D:=.sl (l.map je)
abbrev lN:V:=.ag [.d (dI 1),.d (.sl [])]
abbrev zG (a:Au):V:=.ag [.d (dI 1),.d (.sl []),.d (dI a.sym),.d (dI a.st),.d (tH a.ini),.d (tH a.fin),.d (lK a.aP)]
section
variable {q:Rat}{x:bD}
theorem ai4:bG (.ag [.d (dB false),.mt,.mt,.d (dI 0),.d (dB false),.d (dU 0),.mt,.mt]) (vW 0):=by
 unfold vW;rw[rX];exact bG.ag (.cons vR (.cons bG.mt (.cons bG.mt (.cons vR (.cons vR (.cons vR (.cons bG.mt (.cons bG.mt .nil))))))))
theorem IX:bG (.ag [.d (dB (fP q).neg),.d (aF (fP q).num),.d (aF (fP q).den),.d (dI 0),.d (dB false),.d (dU 0),.mt,.mt]) (vW q) :=
 bG.ag (.cons vR (.cons vR (.cons vR (.cons vR (.cons vR (.cons vR (.cons bG.mt (.cons bG.mt .nil))))))))
end
end Go.AL
namespace Go.Proofs.YtnjoncgnjdkaoaaGreatDoor
open Go Go.AL
theorem XT {p q:Rat}(h:fP p=fP q):p=q:=by rw[<- kz p,h,kz]
theorem ai5 {r s:Raw}(h1:r.neg=s.neg)(h2:r.num=s.num)(h3:r.den=s.den):r=s:=by cases r;cases s;simp_all
theorem Pv {l m:List Nat}(nl:l.length<=8796093022208)(nm:m.length<=8796093022208):aj P F.iP [.d (aF l),.d (aF m)] (.d (dB (decide (l=m)))):=by
 refine aj.intro fn.iP (by rfl) (by rfl) (aA (by rfl)) λE hE=>(AW.sg hE rfl (aC rfl (OL.nil (AW.seq (AW.sg hE rfl (ai rfl (fJ sl.aF rfl rfl ?_)))))))
 refine ai rfl (fJ sl.aF rfl rfl (fC rfl rfl rfl (OL.nil (AW.cond rfl (λh10=>?_) (λh10=>?_)))))
 .have hl:l.length≠m.length:=by have:=DC h10;omega
  exact AW.sg hE rfl (aC rfl (OL.nil (AW.ret (aO.r ⟨_,.tmp rfl .nil,.le (bG.bool ((decide_eq_false λe=>hl (by rw[e])).symm))⟩))))
 .have hl:l.length=m.length:=by have:=BV h10;omega
  refine AW.skip (AW.seq (AW.sg hE rfl (ai rfl (fJ sl.aF rfl rfl (ai rfl (OL.nil (AW.block ?_)))))));refine AW.aU (α:=Nat) [(0,_),(1,_),(12,_)] [] (λi=>[(13,.d (dI i))]) (λi=>[]) (λi=>i<=l.length/\∀ j,j<i->l.getD j 0=m.getD j 0) (λi=>l.length-i) 0 (.cons (bY rfl) (.cons (bY rfl) (.cons (bY rfl) .nil))) .nil ⟨⟨Nat.zero_le _,λj hj=>by omega⟩,.di,.nil⟩ ?_
  rintro i ⟨h1,h2⟩
  refine AW.sg hE rfl (aX rfl rfl rfl (OL.nil (AW.seq (AW.cond rfl (λEQ=>?_) (λEQ=>?_)))))
  .try simp only[eG] at EQ
   refine AW.skip (AW.seq (AW.block (AW.sg hE rfl (ai rfl (aC rfl (OL.nil (AW.seq ?_)))))));refine AW.dg 1 [0,1,2,3,4,5,6,7,8] au hE rfl (by kernel_rfl) (OI.aS (os:=[_,_,_,_,_,_,_,_,_]) rfl ?_)
   refine ai rfl (ai rfl (fM sl.aF 0 rfl rfl (by omega) rfl rfl (iE ce.u32 rfl (ai rfl (ai rfl (fM sl.aF 0 rfl rfl (by omega) rfl rfl (iE ce.u32 rfl ?_)))))))
   refine fC rfl rfl rfl (OL.nil (AW.cond rfl (λhc=>?_) (λhc=>?_)))
   .have hc:l.getD i 0≠m.getD i 0:=by have:=DC hc;omega
    exact AW.sg hE rfl (aC rfl (OL.nil (AW.ret (aO.r ⟨_,.tmp rfl .nil,.le (bG.bool ((decide_eq_false λe=>hc (by rw[e])).symm))⟩))))
   .have hc:l.getD i 0=m.getD i 0:=by have:=BV hc;omega
    refine AW.skip (AW.rg hE rfl (aH rfl rfl (by omega) (ai rfl (OL.nil ?_))))
    exact AW.again (x:=i) (i+1) (by omega) ⟨⟨by omega,λj hj=>by rcases Nat.lt_or_ge j i with h|h;exact h2 j h;obtain rfl:j=i:=(by omega);exact hc⟩,Knows.app .xf .di,.nil⟩
  .try simp only[eG] at EQ
   exact AW.exit (AW.sg hE rfl (aC rfl (OL.nil (AW.ret (aO.r ⟨_,.tmp rfl .nil,.le (bG.bool ((decide_eq_true (xP hl 0 λj hj=>h2 j (by omega))).symm))⟩)))))
theorem az5 {p q:Rat}(hp:sz p<=68719476736)(hq:sz q<=68719476736):aj P F.qX [vQ p,vQ q] (.d (dB (decide (p=q)))):=by
 have sp:=DW hp;have sq:=DW hq;have l1:=sp.ln;have l2:=sp.ld;have l3:=sq.ln;have l4:=sq.ld;refine aj.intro fn.qX (by rfl) (by rfl) (aA (by rfl)) λE hE=>(AW.sg hE rfl (gW rfl rfl λb2=>(gW rfl rfl λb3=>(aC rfl (OL.nil (AW.sg hE rfl (aV fd.qE rfl rfl ?_)))))))
 refine aG ce.bool rfl rfl rfl (aV fd.qE rfl rfl (aG ce.bool rfl rfl rfl (eqb bt.bool rfl rfl (OL.split 9 rfl (λg=>?_) (λg=>?_)))))
 .have g:=kK g;refine ai rfl (OL.yes rfl (aV fd.pW rfl rfl (OL.yes rfl (aG ce.aF rfl rfl rfl (OL.yes rfl (aV fd.pW rfl rfl (OL.yes rfl ?_)))))));refine aG ce.aF rfl rfl rfl (OL.yes rfl (bF rfl .gy (Pv (by omega) (by omega)) (OL.split 15 rfl (λk=>?_) (λk=>?_))))
  .have k:=kK k;refine lJ rfl rfl (ai rfl (OL.yes rfl (aV fd.nK rfl rfl (OL.yes rfl (aG ce.aF rfl rfl rfl (OL.yes rfl (aV fd.nK rfl rfl ?_)))))));exact OL.yes rfl (aG ce.aF rfl rfl rfl (OL.yes rfl (bF rfl .gy (Pv (by omega) (by omega)) (lJ rfl rfl (aC rfl (OL.nil (AW.ret (aO.r ⟨_,.tmp rfl .nil,.le (bG.bool (decide_eq_decide.2 ⟨λe=>XT (ai5 g k e),λe=>by rw[e]⟩))⟩))))))))
  .have k:=lD k;refine lJ rfl rfl (ai rfl (OL.nd rfl (OL.nd rfl (OL.nd rfl (OL.nd rfl (OL.nd rfl (jZ rfl rfl ?_)))))));exact aC rfl (OL.nil (AW.ret (aO.r ⟨_,.tmp rfl .nil,.le (bG.bool ((decide_eq_false λe=>k (by rw[e])).symm))⟩)))
 .have g:=lD g;refine ai rfl (OL.nd rfl (OL.nd rfl (OL.nd rfl (OL.nd rfl (OL.nd rfl (jZ rfl rfl (ai rfl ?_)))))));refine OL.nd rfl (OL.nd rfl (OL.nd rfl (OL.nd rfl (OL.nd rfl (jZ rfl rfl (aC rfl (OL.nil ?_)))))));exact AW.ret (aO.r ⟨_,.tmp rfl .nil,.le (bG.bool ((decide_eq_false λe=>g (by rw[e])).symm))⟩)
theorem IY {f:Nat}:aj P F.cu [.d (.sl []),.d (.sl []),.fn f []] (.d (dB true)):=by
 refine aj.intro fn.cu (by rfl) (by rfl) (aA (by rfl)) λE hE=>(AW.sg hE rfl (aC rfl (OL.nil (AW.seq (AW.sg hE rfl (ai rfl (N9 sl.gZ rfl rfl rfl ?_)))))))
 refine ai rfl (N9 sl.gZ rfl rfl rfl (fC rfl rfl (c:=false) (nZ rfl) (OL.nil (oz rfl ?_))));refine AW.skip (AW.seq (AW.sg hE rfl (ai rfl (N9 sl.gZ rfl rfl rfl (ai rfl (OL.nil (AW.block ?_)))))));refine AW.aU (α:=Unit) [(1,_),(2,_),(15,_),(16,_)] [] (λ_u=>[(17,.d (dI 0))]) (λ_u=>[]) (λ_u=>True) (λ_u=>0) () (.cons (bY rfl) (.cons (OO rfl) (.cons (bY rfl) (.cons (bY rfl) .nil)))) .nil ⟨trivial,.di,.nil⟩ ?_;intro _ _;refine AW.sg hE rfl (aX rfl rfl rfl (OL.nil (AW.seq (AW.cond rfl (λhno=>absurd hno (by simp)) (λ_=>?_)))))
 exact AW.exit (AW.sg hE rfl (aC rfl (OL.nil (AW.ret (aO.r ⟨_,.tmp rfl .nil,.le vR⟩)))))
theorem MP {f:Nat}:aj P F.dM [.d (.sl []),.d (.sl []),.fn f []] (.d (dB true)):=by
 refine aj.intro fn.dM (by rfl) (by rfl) (aA (by rfl)) λE hE=>(AW.sg hE rfl (aC rfl (OL.nil (AW.seq (AW.sg hE rfl (ai rfl (N9 sl.aT rfl rfl rfl ?_)))))))
 refine ai rfl (N9 sl.aT rfl rfl rfl (fC rfl rfl (c:=false) (nZ rfl) (OL.nil (oz rfl ?_))));refine AW.skip (AW.seq (AW.sg hE rfl (ai rfl (N9 sl.aT rfl rfl rfl (ai rfl (OL.nil (AW.block ?_)))))));refine AW.aU (α:=Unit) [(1,_),(2,_),(15,_),(16,_)] [] (λ_u=>[(17,.d (dI 0))]) (λ_u=>[]) (λ_u=>True) (λ_u=>0) () (.cons (bY rfl) (.cons (OO rfl) (.cons (bY rfl) (.cons (bY rfl) .nil)))) .nil ⟨trivial,.di,.nil⟩ ?_;intro _ _;refine AW.sg hE rfl (aX rfl rfl rfl (OL.nil (AW.seq (AW.cond rfl (λhno=>absurd hno (by simp)) (λ_=>?_)))))
 exact AW.exit (AW.sg hE rfl (aC rfl (OL.nil (AW.ret (aO.r ⟨_,.tmp rfl .nil,.le vR⟩)))))
theorem ai6 {p q:Rat}(hp:sz p<=68719476736)(hq:sz q<=68719476736):aj P F.uX [vW p,vW q] (.d (dB (decide (p=q)))):=by
 refine aj.intro fn.uX (by rfl) (by rfl) (aA (by rfl)) λE hE=>(AW.sg hE rfl (gW rfl rfl λb2=>(gW rfl rfl λb3=>(aC rfl (OL.nil (AW.sg hE rfl (asF rfl ?_)))))))
 refine OL.nil (AW.sg hE rfl (aV fd.gK rfl rfl (aN ag.Rat rfl rfl (vs:=[_,_,_]) rfl (aA rfl) (aV fd.gK rfl rfl (aN ag.Rat rfl rfl (vs:=[_,_,_]) rfl (aA rfl) (bF rfl .gy (az5 hp hq) (OL.split 10 rfl (λg=>?_) (λg=>?_))))))))
 .have g:=kK g;refine ai rfl (OL.yes rfl (aV fd.Bd rfl rfl (OL.yes rfl (aG ce.int rfl rfl rfl (OL.yes rfl (aV fd.Bd rfl rfl (OL.yes rfl ?_)))))));refine aG ce.int rfl rfl rfl (OL.yes rfl (dG rfl rfl (c:=true) (decide_eq_true rfl) (lJ rfl rfl (ai rfl (OL.yes rfl (aV fd.yX rfl rfl (OL.yes rfl ?_)))))));refine aG ce.bool rfl rfl rfl (OL.yes rfl (aV fd.yX rfl rfl (OL.yes rfl (aG ce.bool rfl rfl rfl (OL.yes rfl (eqb bt.bool rfl rfl (lJ rfl rfl ?_)))))));refine ai rfl (OL.yes rfl (aV fd.Be rfl rfl (OL.yes rfl (aG ce.u64 rfl rfl rfl (OL.yes rfl (aV fd.Be rfl rfl (OL.yes rfl ?_)))))));refine aG ce.u64 rfl rfl rfl (OL.yes rfl (dG rfl rfl (c:=true) (decide_eq_true rfl) (lJ rfl rfl (ai rfl (OL.yes rfl (aV fd.Bf rfl rfl (OL.yes rfl ?_)))))));refine aG ce.gZ rfl rfl rfl (OL.yes rfl (aV fd.Bf rfl rfl (OL.yes rfl (aG ce.gZ rfl rfl rfl (OL.yes rfl (NY rfl (OL.yes rfl ?_)))))));refine bF rfl .xf (IY) (lJ rfl rfl (ai rfl (OL.yes rfl (aV fd.yY rfl rfl (OL.yes rfl (aG ce.aT rfl rfl rfl (OL.yes rfl ?_)))))));refine aV fd.yY rfl rfl (OL.yes rfl (aG ce.aT rfl rfl rfl (OL.yes rfl (bF rfl .xf (MP) (lJ rfl rfl (aC rfl (OL.nil ?_)))))));exact AW.ret (aO.r ⟨_,.tmp rfl .nil,.le (bG.bool ((decide_eq_true g).symm))⟩)
 .have g:=lD g;refine ai rfl (OL.nd rfl (OL.nd rfl (OL.nd rfl (OL.nd rfl (OL.nd rfl (jZ rfl rfl (ai rfl ?_)))))));refine OL.nd rfl (OL.nd rfl (OL.nd rfl (OL.nd rfl (OL.nd rfl (jZ rfl rfl (ai rfl (OL.nd rfl ?_)))))));refine OL.nd rfl (OL.nd rfl (OL.nd rfl (OL.nd rfl (jZ rfl rfl (ai rfl (OL.nd rfl (OL.nd rfl ?_)))))));refine OL.nd rfl (OL.nd rfl (OL.nd rfl (OL.nd rfl (jZ rfl rfl (ai rfl (OL.nd rfl (OL.nd rfl ?_)))))));exact OL.nd rfl (OL.nd rfl (OL.nd rfl (jZ rfl rfl (aC rfl (OL.nil (AW.ret (aO.r ⟨_,.tmp rfl .nil,.le (bG.bool ((decide_eq_false g).symm))⟩)))))))
abbrev aX5:V:=.ag [.fn F.jG [],.fn F.jH [],.fn F.qB [],.fn F.jI [],.fn F.jJ [],.fn F.uY [],.fn F.yV [],.fn F.qC [],.fn F.rM []]
theorem rationals  : aj P F.oQ [] (aX5):=by
 refine aj.intro fn.oQ (by rfl) (by rfl) (aA (by rfl)) λE hE=>(AW.sg hE rfl (al z.algebra rfl λb0=>(OL.nil (AW.sg hE rfl ?_))))
 refine Vk (cs:=[_,_,_,_,_,_,_,_,_]) z.algebra pl.algebra (rG (by exact evF rfl) (rG (by exact evF rfl) (rG (by exact evF rfl) (rG (by exact evF rfl) (rG (by exact evF rfl) (rG (by exact evF rfl) (rG (by exact evF rfl) (rG (by exact evF rfl) (rG (by exact evF rfl) (Vj)))))))))) (by rfl) ?_
 refine fG sz.algebra rfl rfl rfl rfl rfl (aA rfl) (cells2:=[_,_,_,_,_,_,_,_,_]) rfl (OL.nil ?_);exact AW.ret (aO.r ⟨_,.dL rfl rfl ag.algebra (aA rfl) .nil,.ag (.cons (.le vR) (.cons (.le vR) (.cons (.le vR) (.cons (.le vR) (.cons (.le vR) (.cons (.le vR) (.cons (.le vR) (.cons (.le vR) (.cons (.le vR) .nil)))))))))⟩)
theorem XU  : aj P F.wS [.d (dI 1)] (aX5):=by
 refine aj.intro fn.wS (by rfl) (by rfl) (aA (by rfl)) λE hE=>(AW.sg hE rfl (al z.algebra rfl λb2=>(OL.nil (AW.seq (AW.sg hE rfl (ai rfl (OL.nil ?_)))))))
 refine AW.block (AW.sg hE rfl (dG rfl rfl (c:=true) (by exact decide_eq_true (by omega)) (aC rfl (OL.nil (J4 rfl ?_)))))
 refine AW.sg hE rfl (bF rfl (.nil) (rationals) (fG sz.algebra rfl rfl rfl rfl rfl (aA rfl) (cells2:=[_,_,_,_,_,_,_,_,_]) rfl (OL.nil ?_)));exact AW.ret (aO.r ⟨_,.dL rfl rfl ag.algebra (aA rfl) .nil,.ag (.cons (.le vR) (.cons (.le vR) (.cons (.le vR) (.cons (.le vR) (.cons (.le vR) (.cons (.le vR) (.cons (.le vR) (.cons (.le vR) (.cons (.le vR) .nil)))))))))⟩)
theorem az6  : aj P F.tq [.d (dI 1)] (.d (dB true)):=by
 refine aj.intro fn.tq (by rfl) (by rfl) (aA (by rfl)) λE hE=>(AW.sg hE rfl (aC rfl (OL.nil (AW.sg hE rfl (ai rfl (ql rfl rfl (c:=true) (by exact decide_eq_true (by omega)) (ai rfl ?_)))))))
 exact OL.yes rfl (ai rfl (OL.yes rfl (wZ rfl rfl (c:=true) (by exact decide_eq_true (by omega)) (lJ rfl rfl (aC rfl (OL.nil (AW.ret (aO.r ⟨_,.tmp rfl .nil,.le vR⟩))))))))
theorem MQ  : aj P F.uS [lN] (.d (dB true)):=by
 refine aj.intro fn.uS (by rfl) (by rfl) (aA (by rfl)) λE hE=>(AW.sg hE rfl (gW rfl rfl λb1=>(aC rfl (OL.nil (AW.seq (AW.sg hE rfl (aV fd.nG rfl rfl ?_)))))))
 refine aG ce.int rfl rfl rfl (fC rfl rfl (c:=true) (by exact FK (by omega)) (OL.nil (J4 rfl ?_)))
 refine AW.sg hE rfl (aV fd.nG rfl rfl (aG ce.int rfl rfl rfl (bF rfl .di (az6) (ai rfl (OL.yes rfl (aV fd.Ls rfl rfl (OL.yes rfl ?_)))))));refine aG ce.ints rfl rfl rfl (OL.yes rfl (N9 sl.ints rfl rfl rfl (OL.yes rfl (dG rfl rfl (c:=true) (decide_eq_true rfl) (lJ rfl rfl (aC rfl (OL.nil ?_)))))));exact AW.ret (aO.r ⟨_,.tmp rfl .nil,.le vR⟩)
theorem aM8 {q:Rat}(hz:sz q<=68719476736):aj P F.jG [vW q] (.d (dB true)):=by
 refine aj.intro fn.jG (by rfl) (by rfl) (aA (by rfl)) λE hE=>(AW.sg hE rfl (gW rfl rfl λb1=>(aC rfl (OL.nil (AW.sg hE rfl (aV fd.gK rfl rfl (aN ag.Rat rfl rfl (vs:=[_,_,_]) rfl (aA rfl) ?_)))))))
 refine bF rfl .di (xK (by omega)) (ai rfl (OL.yes rfl (aN ag.ak rfl rfl (vs:=[_,_,_,_,_,_,_,_]) rfl (aA rfl) (OL.yes rfl (aV fd.gK rfl rfl (OL.yes rfl (aN ag.Rat rfl rfl (vs:=[_,_,_]) rfl (aA rfl) ?_)))))))
 exact OL.yes rfl (bd z.ak pl.ak (cs:=[_,_,_,_,_,_,_,_]) rfl (OL.yes rfl (bF rfl (.cons vR (.cons (IX) .nil)) (ai6 hz hz) (lJ rfl rfl (aC rfl (OL.nil (AW.ret (aO.r ⟨_,.tmp rfl .nil,.le (bG.bool (decide_eq_true rfl))⟩))))))))
theorem aX6  : aj P F.jH [] (vW 0):=by
 refine aj.intro fn.jH (by rfl) (by rfl) (aA (by rfl)) λE hE=>(AW.sg hE rfl (al z.ak rfl λb0=>(OL.nil (AW.sg hE rfl (bd z.ak pl.ak (cs:=[_,_,_,_,_,_,_,_]) rfl (fG sz.ak rfl rfl rfl rfl rfl (aA rfl) (cells2:=[_,_,_,_,_,_,_,_]) rfl (OL.nil ?_)))))))
 exact AW.ret (aO.r ⟨_,.dL rfl rfl ag.ak (aA rfl) .nil,.le ai4⟩)
theorem aX7 {p q:Rat}(hp:sz p<=68719476736)(hq:sz q<=68719476736):aj P F.jI [vW p,vW q] (vW (p+q)):=by
 refine aj.intro fn.jI (by rfl) (by rfl) (aA (by rfl)) λE hE=>(AW.sg hE rfl (gW rfl rfl λb2=>(gW rfl rfl λb3=>(al z.ak rfl λb4=>(OL.nil (AW.sg hE rfl (aV fd.gK rfl rfl ?_)))))))
 exact aN ag.Rat rfl rfl (vs:=[_,_,_]) rfl (aA rfl) (aV fd.gK rfl rfl (aN ag.Rat rfl rfl (vs:=[_,_,_]) rfl (aA rfl) (bF rfl .gy (Oh (by assumption) (by assumption)) (bd z.ak pl.ak (cs:=[_,_,_,_,_,_,_,_]) rfl (fG sz.ak rfl rfl rfl rfl rfl (aA rfl) (cells2:=[_,_,_,_,_,_,_,_]) rfl (OL.nil (AW.ret (aO.r ⟨_,.dL rfl rfl ag.ak (aA rfl) .nil,.le IX⟩))))))))
theorem aM9 {p q:Rat}(hp:sz p<=68719476736)(hq:sz q<=68719476736):aj P F.jJ [vW p,vW q] (vW (p*q)):=by
 refine aj.intro fn.jJ (by rfl) (by rfl) (aA (by rfl)) λE hE=>(AW.sg hE rfl (gW rfl rfl λb2=>(gW rfl rfl λb3=>(al z.ak rfl λb4=>(OL.nil (AW.sg hE rfl (aV fd.gK rfl rfl ?_)))))))
 exact aN ag.Rat rfl rfl (vs:=[_,_,_]) rfl (aA rfl) (aV fd.gK rfl rfl (aN ag.Rat rfl rfl (vs:=[_,_,_]) rfl (aA rfl) (bF rfl .gy (wV (by assumption) (by assumption)) (bd z.ak pl.ak (cs:=[_,_,_,_,_,_,_,_]) rfl (fG sz.ak rfl rfl rfl rfl rfl (aA rfl) (cells2:=[_,_,_,_,_,_,_,_]) rfl (OL.nil (AW.ret (aO.r ⟨_,.dL rfl rfl ag.ak (aA rfl) .nil,.le IX⟩))))))))
theorem Wl {q:Rat}(hz:sz q<=68719476736):aj P F.uU [lN,vW q] (.d (dB true)):=by
 refine aj.intro fn.uU (by rfl) (by rfl) (aA (by rfl)) λE hE=>(AW.sg hE rfl (gW rfl rfl λb2=>(gW rfl rfl λb3=>(aC rfl (OL.nil (AW.seq (AW.sg hE rfl ?_)))))))
 refine aN ag.Ring rfl rfl (vs:=[_,_]) rfl (aA rfl) (bF rfl .di (MQ) (nt rfl (OL.nil (oz rfl ?_))));refine AW.skip (AW.seq (AW.sg hE rfl (aV fd.nG rfl rfl (aG ce.int rfl rfl rfl (fC rfl rfl (c:=true) (by exact FK (by omega)) (OL.nil (J4 rfl ?_)))))))
 refine AW.seq (AW.dg 1 [0,1,2,3,4,5,6] au hE rfl (by kernel_rfl) (OI.aS (os:=[_,_,_,_,_,_,_]) rfl ?_))
 refine aV fd.nG rfl rfl (aG ce.int rfl rfl rfl (bF rfl .di (XU) (fdC fc.OY rfl rfl (aN ag.ak rfl rfl (vs:=[_,_,_,_,_,_,_,_]) rfl (aA rfl) (bF rfl vL (aM8 hz) (aC rfl (OL.nil ?_)))))));exact AW.ret (aO.r ⟨_,.tmp rfl .nil,.le vR⟩)
theorem Px  : aj P F.wR [lN] (vW 0):=by
 refine aj.intro fn.wR (by rfl) (by rfl) (aA (by rfl)) λE hE=>(AW.sg hE rfl (gW rfl rfl λb1=>(al z.ak rfl λb2=>(OL.nil (AW.seq (AW.block (AW.sg hE rfl ?_)))))))
 refine aN ag.Ring rfl rfl (vs:=[_,_]) rfl (aA rfl) (bF rfl .di (MQ) (nt rfl (aC rfl (OL.nil (oz rfl ?_)))));refine AW.sg hE rfl (aV fd.nG rfl rfl (aG ce.int rfl rfl rfl (fC rfl rfl (c:=true) (by exact FK (by omega)) (aC rfl (OL.nil (J4 rfl ?_))))))
 refine AW.sg hE rfl (aV fd.nG rfl rfl (aG ce.int rfl rfl rfl (bF rfl .di (XU) (fdC fc.OZ rfl rfl (bF rfl (.nil) (aX6) (fG sz.ak rfl rfl rfl rfl rfl (aA rfl) (cells2:=[_,_,_,_,_,_,_,_]) rfl (OL.nil ?_)))))));exact AW.ret (aO.r ⟨_,.dL rfl rfl ag.ak (aA rfl) .nil,.ag (.cons (.le vR) (.cons (.le vR) (.cons (.le vR) (.cons (.le vR) (.cons (.le vR) (.cons (.le vR) (.cons (.le vR) (.cons (.le vR) .nil))))))))⟩)
theorem valueR {q:Rat}(hz:sz q<=68719476736):aj P F.uV [lN,vW q] (vW q):=by
 refine aj.intro fn.uV (by rfl) (by rfl) (aA (by rfl)) λE hE=>(AW.sg hE rfl (gW rfl rfl λb2=>(gW rfl rfl λb3=>(al z.ak rfl λb4=>(OL.nil (AW.seq (AW.sg hE rfl ?_)))))))
 refine aN ag.Ring rfl rfl (vs:=[_,_]) rfl (aA rfl) (aN ag.ak rfl rfl (vs:=[_,_,_,_,_,_,_,_]) rfl (aA rfl) (bF rfl .gy (Wl hz) (OL.nil (J4 rfl ?_))));refine AW.sg hE rfl (aN ag.ak rfl rfl (vs:=[_,_,_,_,_,_,_,_]) rfl (aA rfl) (fG sz.ak rfl rfl rfl rfl rfl (aA rfl) (cells2:=[_,_,_,_,_,_,_,_]) rfl (OL.nil ?_)));exact AW.ret (aO.r ⟨_,.dL rfl rfl ag.ak (aA rfl) .nil,.ag (.cons (.le vR) (.cons (.le vR) (.cons (.le vR) (.cons (.le vR) (.cons (.le vR) (.cons (.le vR) (.cons (.le vR) (.cons (.le vR) .nil))))))))⟩)
theorem Py {p q:Rat}(hp:sz p<=68719476736)(hq:sz q<=68719476736):aj P F.wQ [lN,vW p,vW q] (vW (p+q)):=by
 refine aj.intro fn.wQ (by rfl) (by rfl) (aA (by rfl)) λE hE=>(AW.sg hE rfl (gW rfl rfl λb3=>(gW rfl rfl λb4=>(gW rfl rfl λb5=>(al z.ak rfl λb6=>(OL.nil (AW.seq ?_)))))))
 refine AW.sg hE rfl (aN ag.Ring rfl rfl (vs:=[_,_]) rfl (aA rfl) (bF rfl .di (MQ) (nt rfl (OL.nil (oz rfl ?_)))));refine AW.skip (AW.seq (AW.dg 1 [0,1,2,3,4,5,6,7] au hE rfl (by kernel_rfl) (OI.aS (os:=[_,_,_,_,_,_,_,_]) rfl ?_)))
 refine aN ag.Ring rfl rfl (vs:=[_,_]) rfl (aA rfl) (aN ag.ak rfl rfl (vs:=[_,_,_,_,_,_,_,_]) rfl (aA rfl) (bF rfl .gy (valueR (by assumption)) (aN ag.Ring rfl rfl (vs:=[_,_]) rfl (aA rfl) (aN ag.ak rfl rfl (vs:=[_,_,_,_,_,_,_,_]) rfl (aA rfl) (bF rfl .gy (valueR (by assumption)) (fG sz.ak rfl rfl rfl rfl rfl (aA rfl) (cells2:=[_,_,_,_,_,_,_,_]) rfl (fG sz.ak rfl rfl rfl rfl rfl (aA rfl) (cells2:=[_,_,_,_,_,_,_,_]) rfl ?_)))))))
 refine OL.nil (AW.seq (AW.sg hE rfl (aV fd.nG rfl rfl (aG ce.int rfl rfl rfl (fC rfl rfl (c:=true) (by exact FK (by omega)) (OL.nil (J4 rfl ?_)))))))
 refine AW.seq (AW.dg 1 [0,1,2,3,4,5,6,7] au hE rfl (by kernel_rfl) (OI.aS (os:=[_,_,_,_,_,_,_,_]) rfl ?_))
 refine aV fd.nG rfl rfl (aG ce.int rfl rfl rfl (bF rfl .di (XU) (fdC fc.O0 rfl rfl (aN ag.ak rfl rfl (vs:=[_,_,_,_,_,_,_,_]) rfl (aA rfl) (aN ag.ak rfl rfl (vs:=[_,_,_,_,_,_,_,_]) rfl (aA rfl) (bF rfl vL (aX7 hp hq) (fG sz.ak rfl rfl rfl rfl rfl (aA rfl) (cells2:=[_,_,_,_,_,_,_,_]) rfl ?_)))))));refine OL.nil ?_;exact AW.ret (aO.r ⟨_,.dL rfl rfl ag.ak (aA rfl) .nil,.ag (.cons (.le vR) (.cons (.le vR) (.cons (.le vR) (.cons (.le vR) (.cons (.le vR) (.cons (.le vR) (.cons (.le vR) (.cons (.le vR) .nil))))))))⟩)
theorem ai7 {p q:Rat}(hp:sz p<=68719476736)(hq:sz q<=68719476736):aj P F.uT [lN,vW p,vW q] (vW (p*q)):=by
 refine aj.intro fn.uT (by rfl) (by rfl) (aA (by rfl)) λE hE=>(AW.sg hE rfl (gW rfl rfl λb3=>(gW rfl rfl λb4=>(gW rfl rfl λb5=>(al z.ak rfl λb6=>(OL.nil (AW.seq ?_)))))))
 refine AW.sg hE rfl (aN ag.Ring rfl rfl (vs:=[_,_]) rfl (aA rfl) (bF rfl .di (MQ) (nt rfl (OL.nil (oz rfl ?_)))));refine AW.skip (AW.seq (AW.dg 1 [0,1,2,3,4,5,6,7] au hE rfl (by kernel_rfl) (OI.aS (os:=[_,_,_,_,_,_,_,_]) rfl ?_)))
 refine aN ag.Ring rfl rfl (vs:=[_,_]) rfl (aA rfl) (aN ag.ak rfl rfl (vs:=[_,_,_,_,_,_,_,_]) rfl (aA rfl) (bF rfl .gy (valueR (by assumption)) (aN ag.Ring rfl rfl (vs:=[_,_]) rfl (aA rfl) (aN ag.ak rfl rfl (vs:=[_,_,_,_,_,_,_,_]) rfl (aA rfl) (bF rfl .gy (valueR (by assumption)) (fG sz.ak rfl rfl rfl rfl rfl (aA rfl) (cells2:=[_,_,_,_,_,_,_,_]) rfl (fG sz.ak rfl rfl rfl rfl rfl (aA rfl) (cells2:=[_,_,_,_,_,_,_,_]) rfl ?_)))))))
 refine OL.nil (AW.seq (AW.sg hE rfl (aV fd.nG rfl rfl (aG ce.int rfl rfl rfl (fC rfl rfl (c:=true) (by exact FK (by omega)) (OL.nil (J4 rfl ?_)))))))
 refine AW.seq (AW.dg 1 [0,1,2,3,4,5,6,7] au hE rfl (by kernel_rfl) (OI.aS (os:=[_,_,_,_,_,_,_,_]) rfl ?_))
 refine aV fd.nG rfl rfl (aG ce.int rfl rfl rfl (bF rfl .di (XU) (fdC fc.O1 rfl rfl (aN ag.ak rfl rfl (vs:=[_,_,_,_,_,_,_,_]) rfl (aA rfl) (aN ag.ak rfl rfl (vs:=[_,_,_,_,_,_,_,_]) rfl (aA rfl) (bF rfl vL (aM9 hp hq) (fG sz.ak rfl rfl rfl rfl rfl (aA rfl) (cells2:=[_,_,_,_,_,_,_,_]) rfl ?_)))))));refine OL.nil ?_;exact AW.ret (aO.r ⟨_,.dL rfl rfl ag.ak (aA rfl) .nil,.ag (.cons (.le vR) (.cons (.le vR) (.cons (.le vR) (.cons (.le vR) (.cons (.le vR) (.cons (.le vR) (.cons (.le vR) (.cons (.le vR) .nil))))))))⟩)
theorem az7 {q:Rat}(hz:sz q<=68719476736):aj P F.qW [lN,vW q] (.d (dB (decide (q=0)))):=by
 have h0K:=z0K;refine aj.intro fn.qW (by rfl) (by rfl) (aA (by rfl)) λE hE=>(AW.sg hE rfl (gW rfl rfl λb2=>(gW rfl rfl λb3=>(aC rfl (OL.nil (AW.seq (AW.dg 1 [0,1,2,3,4] au hE rfl (by kernel_rfl) (OI.aS (os:=[_,_,_,_,_]) rfl ?_))))))))
 exact aN ag.ak rfl rfl (vs:=[_,_,_,_,_,_,_,_]) rfl (aA rfl) (aN ag.Ring rfl rfl (vs:=[_,_]) rfl (aA rfl) (bF rfl .di (Px) (bF rfl .gy (ai6 hz h0K) (aC rfl (OL.nil (AW.ret (aO.r ⟨_,.tmp rfl .nil,.le vR⟩)))))))

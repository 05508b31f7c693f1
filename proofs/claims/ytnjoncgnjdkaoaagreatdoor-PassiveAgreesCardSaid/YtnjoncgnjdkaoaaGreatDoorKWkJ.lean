/-
  Walks of package equal, part 1: the checks (printed by mk2.py).
-/
import Derived.Test.YtnjoncgnjdkaoaaGreatDoorKMod85
set_option linter.unusedVariables false
set_option linter.unusedSimpArgs false
namespace Go.Proofs.YtnjoncgnjdkaoaaGreatDoor
open Go Go.AL
theorem take_snoc {α:Type}{l:List α}{i:Nat}(d:α)(hi:i<l.length):l.take (i+1)=l.take i++[l.getD i d]:=by
 rw[List.take_succ_eq_append_getElem hi,ig,lu hi];rfl
def ja (a:Au):Au:={ a with aS:=dZ a.aS }
theorem Gu {a:Au}(h:a.Ok):∀ x,x ∈ (ja a).aS->1<=x.l:=gZ.tidy (p:=λ_ l _=>1<=l) λx hx=>(h.arc x hx).2.2.1
theorem BP (l:List bH):(dZ l).length<=l.length:=by
 unfold dZ Sj;refine Nat.le_trans (List.length_filter_le ..) ?_;have h:=Ig (sortA l) (sortA l).length;unfold outA at h;rw[List.take_length] at h;have:(sortA l).length=l.length:=wW ..;omega
abbrev dAu (a:Au):D:=.ag [dI 1,.sl [],dI a.sym,dI a.st,wG a.ini,wG a.fin,oI a.aS]
theorem aC7 {l:List bH}{f:Nat}{caps:List V}{p:bH->Bool}(hf:∀ x,x ∈ l->aj P f (Ib x::caps) (.d (dB (p x))))(nl:l.length<=1099511627776):aj P F.gu [.d (oI l),.fn f caps] (.d (dI (Hl p l))):=by
 refine aj.intro fn.gu (by rfl) (by rfl) (aB (by rfl)) λE hE=>(AW.sg hE rfl (aF rfl (OL.nil (AW.seq (AW.sg hE rfl (ai rfl (fJ sl.dH rfl rfl ?_)))))))
 refine ai rfl (OL.nil (AW.block ?_));refine AW.aV (α:=Nat) [(0,_),(1,_),(7,_)] [] (λi=>[(8,.d (dI i))]) (λi=>[]) (λi=>i<=l.length/\∀ j,j<i->p (l.getD j default)=false) (λi=>l.length-i) 0 (.cons (bK rfl) (.cons (LH rfl) (.cons (bK rfl) .nil))) .nil ⟨⟨Nat.zero_le _,λj hj=>by omega⟩,.bZ,.nil⟩ ?_
 rintro i ⟨h1,h2⟩
 refine AW.sg hE rfl (aY rfl rfl rfl (OL.nil (AW.seq (AW.cond rfl (λh9=>?_) (λh9=>?_)))))
 .try simp only[dX] at h9
  refine AW.skip (AW.seq (AW.block (AW.sg hE rfl (ai rfl (aF rfl (OL.nil (AW.sg hE rfl ?_)))))));refine Ky rfl (ai rfl (ai rfl (fO sl.dH default rfl rfl (by omega) rfl rfl (jH ag.pO rfl (vs:=[_,_,_,_,_,_,_,_,_,_,_]) rfl (aB rfl) (bJ rfl (.cons vR vL) (hf (l.getD i default) (getD_mem (by omega) _)) (OL.nil (AW.cond rfl (λh16=>?_) (λh16=>?_))))))))
  .have h16:=h16;exact AW.sg hE rfl (ai rfl (aF rfl (OL.nil (AW.ret (aP.r ⟨_,.tmp rfl .nil,.le (bG.int ((CO (by omega) default h16 h2).symm))⟩)))))
  .have h16:=h16;refine AW.skip (AW.rg hE rfl (aI rfl rfl (by omega) (ai rfl (OL.nil ?_))))
   exact AW.again (x:=i) (i+1) (by omega) ⟨⟨by omega,λj hj=>by rcases Nat.lt_or_ge j i with h|h;exact h2 j h;obtain rfl:j=i:=(by omega);exact h16⟩,Knows.app .Ah .bZ,.nil⟩
 .try simp only[dX] at h9
  exact AW.exit (AW.sg hE rfl (aF rfl (OL.nil (AW.ret (aP.r ⟨_,.tmp rfl .nil,.le (bG.int ((ER default λj hj=>h2 j (by omega)).symm))⟩)))))
theorem Gv {l:List bH}{f:Nat}{caps:List V}{p:bH->Bool}(hf:∀ x,x ∈ l->aj P f (Ib x::caps) (.d (dB (p x))))(nl:l.length<=1099511627776):aj P F.iV [.d (oI l),.fn f caps] (.d (dB (l.any p))):=by
 refine aj.intro fn.iV (by rfl) (by rfl) (aB (by rfl)) λE hE=>(AW.sg hE rfl (aF rfl (OL.nil (AW.sg hE rfl (ai rfl (Ky rfl (bJ rfl vL (aC7 hf nl) ?_)))))))
 exact qY rfl rfl rfl (aF rfl (OL.nil (AW.ret (aP.r ⟨_,.tmp rfl .nil,.le (bG.bool (Tt p l))⟩))))
theorem aK9 {l:List Rat}(nl:l.length<=64)(hz:∀ x,x ∈ l->sz x<=134217728):aj P F.vH [l7,.d (wG l)] (.d (wG l)):=by
 refine aj.intro fn.vH (by rfl) (by rfl) (aB (by rfl)) λE hE=>(AW.sg hE rfl (iI rfl rfl λb2=>(oK rfl (OL.nil (AW.sg hE rfl (oK rfl (OL.nil ?_)))))))
 refine AW.seq (AW.seq (AW.own 5 21 T.aA 8 rfl rfl (AW.rg hE rfl (ai rfl (fJ sl.aU rfl rfl (ai rfl (OL.nil ?_)))))));refine AW.block ?_;refine AW.aV (α:=Nat × Nat × Nat) [(2,_),(4,_),(8,_),(9,_)] [(2,_)] (λ(i,bq,cq)=>[(5,.bF 21 bq i cq),(10,.d (dI i))]) (λ(i,bq,cq)=>[(21,.row bq cq T.aA 8 ((l.take i).map dW))]) (λ(i,bq,cq)=>i<=l.length) (λ(i,bq,cq)=>l.length-i) (0,0,0) (.cons (gB rfl) (.cons (Ea rfl) (.cons (bK rfl) (.cons (bK rfl) .nil)))) (.cons (iR rfl) .nil) ⟨Nat.zero_le _,.iq,.cons rfl .nil⟩ ?_
 rintro⟨i,bq,cq⟩ h1
 have h1:i<=l.length:=h1;refine AW.sg hE rfl (aY rfl rfl rfl (OL.nil (AW.seq (AW.cond rfl (λh11=>?_) (λh11=>?_)))))
 .try simp only[dX] at h11
  refine AW.skip (AW.seq (AW.block (AW.seq ?_)));have hx:=hz (l.getD i 0) (getD_mem (by omega) 0)
  refine AW.rg hE rfl (fO sl.aU 0 rfl rfl (by omega) rfl rfl (jH ag.aA rfl (vs:=[_,_,_,_,_,_,_,_]) rfl (aB rfl) (al z.aA rfl λb7=>(eH sz.aA rfl rfl rfl rfl rfl (aB rfl) (cells2:=[_,_,_,_,_,_,_,_]) rfl (OL.nil (AW.dg 2 [0,1,2,3,4,5,6,7,8] ay hE rfl (by kernel_rfl) (OI.aK (os:=[_,_,_,_,_,_,_,_,_]) rfl ?_)))))))
  refine jq rfl (aO ag.Ring rfl rfl (vs:=[_,_]) rfl (aB rfl) (aO ag.aA rfl rfl (vs:=[_,_,_,_,_,_,_,_]) rfl (aB rfl) (aO ag.Ring rfl rfl (vs:=[_,_]) rfl (aB rfl) (bJ rfl vL (PO) (bJ rfl vL (PS (p:=(l.getD i 0)) (q:=0) (by omega) z0K) ?_)))))
  rw[Rat.add_zero];refine zX (y:=dW (l.getD i 0)) sl.aU Nu rfl (by decide) ?_
  refine Ce sl.aU rfl rfl rfl (by rw[dJ,List.length_take];omega) (VC.d _) (λy hy=>by rw[lW hy];rfl) (by simp;omega) (by simp;omega) (.inr rfl) (ys:=(l.take (i+1)).map dW) (by rw[take_snoc 0 (show i<l.length by omega),List.map_append];rfl) (n2:=i+1) rfl λb2 c2=>?_
  refine tJ rfl (OL.nil (AW.rg hE rfl (aI rfl rfl (by omega) (ai rfl (OL.nil ?_)))))
  exact AW.again (x:=(i,bq,cq)) (i+1,b2,c2) (by (simp only[];omega)) ⟨by omega,Knows.app .Jz .iq,dw.app (.cons rfl .nil) (.cons rfl .nil)⟩
 .try simp only[dX] at h11
  refine AW.exit (AW.seq ?_);obtain rfl:i=l.length:=by omega
  refine AW.freeze 21 rfl (AW.to [(5,.d (wG l))] [] (.cons (dL (by rw[dJ,List.length_take,Nat.min_self]) (by rw[List.take_length])) .nil) .nil ?_)
  exact AW.rg hE rfl (ai rfl (aF rfl (OL.nil (AW.ret (aP.r ⟨_,.tmp rfl .nil,.le vR⟩)))))
theorem bb8  : aj P F.vG [l7] (l7):=by
 refine aj.intro fn.vG (by rfl) (by rfl) (aB (by rfl)) λE hE=>(AW.sg hE rfl (iI rfl rfl λb1=>(al z.Ring rfl λb2=>(OL.nil (AW.seq (AW.dg 1 [0,1,2,3,4,5,6] ay hE rfl (by kernel_rfl) (OI.aK (os:=[_,_,_,_,_,_,_]) rfl ?_)))))))
 refine aW fd.nZ rfl rfl (aG ce.int rfl rfl rfl (aW fd.LZ rfl rfl (aG ce.ints rfl rfl rfl (bJ rfl vL (Ns (l:=[]) (by decide)) (bd z.Ring pl.Ring (cs:=[_,_]) rfl (eH sz.Ring rfl rfl rfl rfl rfl (aB rfl) (cells2:=[_,_]) rfl (OL.nil ?_)))))))
 exact AW.ret (aP.r ⟨_,.dV rfl rfl ag.Ring (aB rfl) .nil,.ag (.cons (.le vR) (.cons (.le vR) .nil))⟩)
theorem al1 {a:Au}(h:a.Ok)(za:a.Sz 134217728 20)(s1:a.sym<=32)(s2:a.st<=64):aj P F.uy [zL a] (.d (dB true)):=by
 have e0:=h.Gi;have e1:=h.ini;have e2:=h.fin;have e3:=za.num;refine aj.intro fn.uy (by rfl) (by rfl) (aB (by rfl)) λE hE=>(AW.sg hE rfl (iI rfl rfl λb1=>(aF rfl (OL.nil (AW.seq (AW.sg hE rfl (aW fd.iZ rfl rfl ?_)))))))
 refine aO ag.Ring rfl rfl (vs:=[_,_]) rfl (aB rfl) (bJ rfl .bZ (Nr) (nt rfl (ai rfl (OL.yes rfl (aW fd.qp rfl rfl (OL.yes rfl (aG ce.int rfl rfl rfl ?_)))))));refine OL.yes rfl (aY rfl rfl (c:=false) (by exact decide_eq_false (by omega)) (kL rfl rfl (ai rfl (OL.yes rfl (aW fd.qp rfl rfl (OL.yes rfl (aG ce.int rfl rfl rfl ?_)))))))
 refine OL.yes rfl (iO rfl rfl (c:=false) (by exact decide_eq_false (by omega)) (kL rfl rfl (ai rfl (OL.yes rfl (aW fd.mF rfl rfl (OL.yes rfl (aG ce.int rfl rfl rfl ?_)))))))
 refine OL.yes rfl (aY rfl rfl (c:=false) (by exact decide_eq_false (by omega)) (kL rfl rfl (ai rfl (OL.yes rfl (aW fd.mF rfl rfl (OL.yes rfl (aG ce.int rfl rfl rfl ?_)))))))
 refine OL.yes rfl (iO rfl rfl (c:=false) (by exact decide_eq_false (by omega)) (kL rfl rfl (ai rfl (OL.yes rfl (aW fd.vV rfl rfl (OL.yes rfl (aG ce.aU rfl rfl rfl ?_)))))))
 refine OL.yes rfl (fJ sl.aU rfl rfl (OL.yes rfl (aW fd.mF rfl rfl (OL.yes rfl (aG ce.int rfl rfl rfl (OL.yes rfl (eG rfl rfl (c:=false) (by exact lY (by omega)) ?_)))))))
 refine kL rfl rfl (ai rfl (OL.yes rfl (aW fd.wR rfl rfl (OL.yes rfl (aG ce.aU rfl rfl rfl (OL.yes rfl (fJ sl.aU rfl rfl ?_)))))));refine OL.yes rfl (aW fd.mF rfl rfl (OL.yes rfl (aG ce.int rfl rfl rfl (OL.yes rfl (eG rfl rfl (c:=false) (by exact lY (by omega)) (kL rfl rfl (ai rfl ?_)))))))
 refine OL.yes rfl (aW fd.jJ rfl rfl (OL.yes rfl (aG ce.dH rfl rfl rfl (OL.yes rfl (fJ sl.dH rfl rfl (OL.yes rfl (iO rfl rfl (c:=false) (by exact decide_eq_false (by omega)) ?_)))))))
 refine kL rfl rfl (OL.nil (qW rfl ?_));refine AW.skip (AW.seq (AW.seq (AW.Bq 1 [dI 1,.sl [],dI a.sym,dI a.st,wG a.ini,wG a.fin,oI a.aS] rfl (VCs.Sr [dI 1,.sl [],dI a.sym,dI a.st,wG a.ini,wG a.fin,oI a.aS]) (AW.to [(1,rAu a),(2,.d (dB false))] [] (.cons (au (show V.Vq 1 b1 [dI 1,.sl [],dI a.sym,dI a.st,wG a.ini,wG a.fin,oI a.aS] (.ptr 1 b1 0)=rAu a from Ec)) .bZ) .nil (AW.rg hE rfl (Vp fd.jJ rfl rfl (iH ce.dH rfl ?_)))))))
 refine mkF (vs:=[_]) rfl (bJ rfl vL (Gv (l:=a.aS) (f:=F.nD) (caps:=[rAu a]) (p:=λ_=>false) (λx hx=>aC3 (h.arc x hx) (Nat.le_trans (za.arc x hx) (by decide))) (by omega)) ?_)
 rw[any_false λx _=>rfl];refine OL.nil (qW rfl ?_);refine AW.skip (AW.sg hE rfl (Vp fd.iZ rfl rfl (jH ag.Ring rfl (vs:=[_,_]) rfl (aB rfl) (Vp fd.vV rfl rfl (iH ce.aU rfl (bJ rfl vL (Us (l:=a.ini) (λx hx=>Nat.le_trans (za.ini x hx) (by decide)) (by omega)) (ai rfl ?_)))))))
 refine OL.yes rfl (Vp fd.iZ rfl rfl (OL.yes rfl (jH ag.Ring rfl (vs:=[_,_]) rfl (aB rfl) (OL.yes rfl (Vp fd.wR rfl rfl (OL.yes rfl (iH ce.aU rfl ?_)))))));exact OL.yes rfl (bJ rfl vL (Us (l:=a.fin) (λx hx=>Nat.le_trans (za.fin x hx) (by decide)) (by omega)) (oC rfl rfl (aF rfl (OL.nil (AW.ret (aP.r ⟨_,.tmp rfl .nil,.le vR⟩))))))
theorem Rx {a:Au}(h:a.Ok)(za:a.Sz 134217728 20)(s1:a.sym<=32)(s2:a.st<=64):aj P F.rX [zL a] (.jS [zL (ja a),.d (dI 0)]):=by
 have e0:=h.Gi;have e1:=h.ini;have e2:=h.fin;have e3:=za.num;refine aj.intro fn.rX (by rfl) (by rfl) (aB (by rfl)) λE hE=>(AW.sg hE rfl (iI rfl rfl λb1=>(al z.Auto rfl λb2=>(aF rfl (OL.nil (AW.seq (AW.sg hE rfl ?_)))))))
 refine aO ag.Auto rfl rfl (vs:=[_,_,_,_,_,_,_]) rfl (aB rfl) (bJ rfl .bZ (al1 h za s1 s2) (nt rfl (OL.nil (qW rfl ?_))));refine AW.skip (AW.seq (AW.dg 1 [0,1,2,3,4,5,6,7,8,9,10,11,12,13,14,15,16,17,18,19,20,21,22,23,24] ay hE rfl (by kernel_rfl) (OI.aK (os:=[_,_,_,_,_,_,_,_,_,_,_,_,_,_,_,_,_,_,_,_,_,_,_,_,_]) rfl ?_)))
 refine aW fd.iZ rfl rfl (aO ag.Ring rfl rfl (vs:=[_,_]) rfl (aB rfl) (bJ rfl .bZ (bb8) (aW fd.qp rfl rfl (aG ce.int rfl rfl rfl (aW fd.mF rfl rfl (aG ce.int rfl rfl rfl (aW fd.iZ rfl rfl ?_)))))));refine aO ag.Ring rfl rfl (vs:=[_,_]) rfl (aB rfl) (aW fd.vV rfl rfl (aG ce.aU rfl rfl rfl (bJ rfl vL (aK9 (l:=a.ini) (by omega) za.ini) (aW fd.iZ rfl rfl (aO ag.Ring rfl rfl (vs:=[_,_]) rfl (aB rfl) (aW fd.wR rfl rfl (aG ce.aU rfl rfl rfl ?_)))))))
 refine bJ rfl vL (aK9 (l:=a.fin) (by omega) za.fin) (aW fd.iZ rfl rfl (aO ag.Ring rfl rfl (vs:=[_,_]) rfl (aB rfl) (aW fd.jJ rfl rfl (aG ce.dH rfl rfl rfl (bJ rfl vL (ak8 (l:=a.aS) e3 za.arc) (VX (cs:=[_,_,_,_,_,_,_]) z.Auto pl.Auto (ve (by exact evA rfl) (ve (by exact DV rfl) (ve (by exact DV rfl) (ve (by exact DV rfl) (ve (by exact DV rfl) (ve (by exact DV rfl) (VW))))))) (by rfl) (eH sz.Auto rfl rfl rfl rfl rfl (aB rfl) (cells2:=[_,_,_,_,_,_,_]) rfl ?_)))))))
 refine aF rfl (OL.nil ?_);exact AW.ret (aP.r ⟨_,.dV rfl rfl ag.Auto (aB rfl) (.tmp rfl .nil),_,.cons (.ag (.cons (.le vR) (.cons (.le vR) (.cons (.le vR) (.cons (.le vR) (.cons (.le vR) (.cons (.le vR) (.cons (.le vR) .nil)))))))) (.cons (.le vR) .nil),rfl⟩)
theorem aC8 {s:Nat}(hs:1<=s/\s<=32):aj P F.nI [.d (ints []),.d (dI s)] (.d (dB true)):=by
 refine aj.intro fn.nI (by rfl) (by rfl) (aB (by rfl)) λE hE=>(AW.sg hE rfl (aF rfl (OL.nil (AW.seq (AW.sg hE rfl (ai rfl (fJ sl.ints rfl rfl ?_)))))))
 refine ai rfl (OL.nil (AW.block ?_));refine AW.aV (α:=Unit) [(0,_),(1,_),(7,_),(8,_)] [] (λ_u=>[(9,.d (dI 0))]) (λ_u=>[]) (λ_u=>True) (λ_u=>0) () (.cons (bK rfl) (.cons (bK rfl) (.cons (bK rfl) (.cons (bK rfl) .nil)))) .nil ⟨trivial,.bZ,.nil⟩ ?_;intro _ _;refine AW.sg hE rfl (aY rfl rfl rfl (OL.nil (AW.seq (AW.cond rfl (λhno=>absurd hno (by simp)) (λ_=>?_)))))
 refine AW.exit (AW.sg hE rfl (ai rfl (qY rfl rfl (c:=true) (by exact decide_eq_true (by omega)) (ai rfl (OL.yes rfl (ai rfl (OL.yes rfl ?_)))))))
 refine xN rfl rfl (c:=true) (by exact decide_eq_true (by omega)) (oC rfl rfl (ai rfl (OL.yes rfl (ai rfl (OL.yes rfl (fJ sl.ints rfl rfl (OL.yes rfl ?_)))))))
 exact xN rfl rfl (c:=true) (by rfl) (oC rfl rfl (aF rfl (OL.nil (AW.ret (aP.r ⟨_,.tmp rfl .nil,.le vR⟩)))))
theorem Yg {x:bH}(hx:1<=x.l):aj P F.qI [Ib x] (.d (dB false)):=by
 refine aj.intro fn.qI (by rfl) (by rfl) (aB (by rfl)) λE hE=>(AW.sg hE rfl (iI rfl rfl λb1=>(aF rfl (OL.nil (AW.sg hE rfl (aW fd.AY rfl rfl (aG ce.int rfl rfl rfl ?_)))))))
 exact dR rfl rfl (c:=false) (by exact decide_eq_false (by omega)) (aF rfl (OL.nil (AW.ret (aP.r ⟨_,.tmp rfl .nil,.le vR⟩))))
theorem aR2 {a:Au}(h:a.Ok)(za:a.Sz 134217728 20)(s1:a.sym<=32)(s2:a.st<=64):aj P F.uQ [zL a,.d (ints [])] (.jS [zL (ja a),.d (dI 0)]):=by
 have e0:=h.Gi;have e1:=h.ini;have e2:=h.fin;have e3:=za.num;have tl:=BP a.aS;refine aj.intro fn.uQ (by rfl) (by rfl) (aB (by rfl)) λE hE=>(AW.sg hE rfl (iI rfl rfl λb2=>(al z.Auto rfl λb4=>(aF rfl (OL.nil (AW.sg hE rfl (aO ag.Auto rfl rfl (vs:=[_,_,_,_,_,_,_]) rfl (aB rfl) ?_)))))))
 refine bJ rfl .bZ (Rx h za s1 s2) (zW rfl (ex rfl rfl (ex rfl rfl (al z.Auto rfl λb6=>(eH sz.Auto rfl rfl rfl rfl rfl (aB rfl) (cells2:=[_,_,_,_,_,_,_]) rfl (aF rfl (OL.nil ?_)))))));refine AW.seq (AW.block (AW.sg hE rfl (ai rfl (eG rfl rfl (c:=false) (by exact lY (by omega)) (aF rfl (OL.nil (qW rfl ?_)))))))
 refine AW.sg hE rfl (aW fd.jJ rfl rfl (aG ce.dH rfl rfl rfl (bJ rfl vL (Gv (l:=(ja a).aS) (f:=F.qI) (caps:=[]) (p:=λ_=>false) (λx hx=>Yg (Gu h x hx)) (by show (dZ a.aS).length<=_;omega)) ?_)))
 rw[any_false λx _=>rfl];refine aF rfl (OL.nil (qW rfl ?_));refine AW.sg hE rfl (ai rfl (aW fd.qp rfl rfl (aG ce.int rfl rfl rfl (bJ rfl vL (aC8 (s:=a.sym) ⟨e0,s1⟩) (nt rfl (aF rfl (OL.nil ?_)))))));refine qW rfl ?_;refine AW.skip (AW.sg hE rfl (aO ag.Auto rfl rfl (vs:=[_,_,_,_,_,_,_]) rfl (aB rfl) (eH sz.Auto rfl rfl rfl rfl rfl (aB rfl) (cells2:=[_,_,_,_,_,_,_]) rfl (aF rfl (OL.nil ?_)))));exact AW.ret (aP.r ⟨_,.dV rfl rfl ag.Auto (aB rfl) (.tmp rfl .nil),_,.cons (.ag (.cons (.le vR) (.cons (.le vR) (.cons (.le vR) (.cons (.le vR) (.cons (.le vR) (.cons (.le vR) (.cons (.le vR) .nil)))))))) (.cons (.le vR) .nil),rfl⟩)
theorem al2 {e:Int}:aj P F.Hq [.d (dB true),.d (dI e)] (.d (dI 0)):=by
 refine aj.intro fn.Hq (by rfl) (by rfl) (aB (by rfl)) λE hE=>(AW.sg hE rfl (aF rfl (OL.nil (AW.seq (AW.sg hE rfl (ai rfl (OL.nil ?_)))))))
 refine Ot rfl ?_;exact AW.sg hE rfl (aF rfl (OL.nil (AW.ret (aP.r ⟨_,.tmp rfl .nil,.le vR⟩))))
theorem aC9 {a:Au}(h:a.Ok)(za:a.Sz 134217728 20)(s1:a.sym<=32)(s2:a.st<=64):aj P F.qE [zL a] (.d (dI 0)):=by
 refine aj.intro fn.qE (by rfl) (by rfl) (aB (by rfl)) λE hE=>(AW.sg hE rfl (iI rfl rfl λb1=>(aF rfl (OL.nil (AW.sg hE rfl (aO ag.Auto rfl rfl (vs:=[_,_,_,_,_,_,_]) rfl (aB rfl) (bJ rfl vL (al1 h za s1 s2) ?_)))))))
 exact bJ rfl vL (al2) (aF rfl (OL.nil (AW.ret (aP.r ⟨_,.tmp rfl .nil,.le vR⟩))))
theorem aD0 {a:Au}(h:a.Ok)(za:a.Sz 134217728 20)(s1:a.sym<=32)(s2:a.st<=64):aj P F.qF [zL a] (.d (dI 0)):=by
 refine aj.intro fn.qF (by rfl) (by rfl) (aB (by rfl)) λE hE=>(AW.sg hE rfl (iI rfl rfl λb1=>(aF rfl (OL.nil (AW.sg hE rfl (aW fd.iZ rfl rfl (aW fd.nZ rfl rfl ?_)))))))
 exact aG ce.int rfl rfl rfl (dR rfl rfl (c:=true) (by exact decide_eq_true (by omega)) (bJ rfl vL (al2) (aF rfl (OL.nil (AW.ret (aP.r ⟨_,.tmp rfl .nil,.le vR⟩))))))
theorem aD1 {a:Au}(h:a.Ok)(za:a.Sz 134217728 20)(s1:a.sym<=32)(s2:a.st<=64):aj P F.qG [zL a] (.d (dI 0)):=by
 refine aj.intro fn.qG (by rfl) (by rfl) (aB (by rfl)) λE hE=>(AW.sg hE rfl (iI rfl rfl λb1=>(aF rfl (OL.nil (AW.sg hE rfl (aO ag.Auto rfl rfl (vs:=[_,_,_,_,_,_,_]) rfl (aB rfl) (bJ rfl (.cons vR (.cons bG.mt .nil)) (aR2 h za s1 s2) ?_)))))))
 refine zW rfl (ex rfl rfl (ex rfl rfl (al z.Auto rfl λb3=>(eH sz.Auto rfl rfl rfl rfl rfl (aB rfl) (cells2:=[_,_,_,_,_,_,_]) rfl (aF rfl (OL.nil (AW.sg hE rfl ?_)))))));exact ai rfl (aF rfl (OL.nil (AW.ret (aP.r ⟨_,.tmp rfl .nil,.le vR⟩))))
theorem eX.frame {P:Program}{f:Nat}{args:List V}{M Mc:Mem}{res:V}(hc:∀ id blk,Mc id=some blk->M id=some blk)(h:eX P f args Mc res Mc):eX P f args M res M :=
 ⟨h.1,λF w vals hS hv=>(h.2 F w vals (Cm hS hc) hv).mono λe w' ⟨v,F',he,ha,hs⟩=>by
  have k:=After.over hS hc (λ_ h=>h) ha;rw[over_self hc] at k;exact⟨v,F',he,k,hs⟩⟩
theorem aj.toM {P:Program}{f:Nat}{args:List V}{M:Mem}{res:V}(h:aj P f args res):eX P f args M res M:=by
 refine eX.frame (Mc:=jO) (λ_ _ h=>by cases h) ⟨h.1,λF w vals hS hv=>(h.2 F w vals hS.rM hv).mono λe w' ⟨v,F',he,hx,hs⟩=>⟨v,F',he,⟨hx.grow.mono (λi h=>h.elim),hx.le,DZ hx.rM,λk a b=>.inl (hx.new k a b),λk ho=>(kH k ho).elim⟩,hs⟩⟩
abbrev fC (f:Nat)(us:List Value):D:=.sc (.func (.func f) #[] us.toArray)
theorem Yh {F:Hp}{v:Value}{f:Nat}{cs:List V}{us:List Value}(h:dm F v (.fn f cs))(he:∀ (xs:List Value),xs.length=cs.length->(∀ (i:Nat) (c:V) (u:Value),cs[i]? = some c->xs[i]? = some u->dm F u c)->xs=us):v=.func (.func f) #[] us.toArray:=by
 cases h with
 | fn hl hr=>rw[he _ hl hr]
theorem WL {f:Nat}:VC (.fn f []) (fC f []):=λF v h=>by
 rw[Yh (us:=[]) h λxs hl _=>IK hl];exact⟨.sc rfl,rfl⟩
theorem aR3 {f id b:Nat}:VC (.fn f [.ptr id b 0]) (fC f [.pointer (some ⟨b,0,none⟩)]):=λF v h=>by
 rw[Yh (us:=[.pointer (some ⟨b,0,none⟩)]) h λxs hl hr=>by
  match xs,hl with
  | [x],_ =>
   have h1:=hr 0 _ x rfl rfl;cases h1;rfl]
 exact⟨.sc rfl,rfl⟩
theorem Ry {f:Nat}:bG (.d (fC f [])) (.fn f []):=λF v h=>by
 cases h with
 | d h _=>cases h;exact .fn (us:=[]) rfl λi c u hc _=>by simp at hc
theorem aD2 {f id b:Nat}:bG (.d (fC f [.pointer (some ⟨b,0,none⟩)])) (.fn f [.ptr id b 0]):=λF v h=>by
 cases h with
 | d h _ =>
  cases h
  refine .fn (us:=[.pointer (some ⟨b,0,none⟩)]) rfl λi c u hc hu=>?_
  match i,hc,hu with
  | 0,hc,hu=>cases hc;cases hu;exact .ptr
  | i+1,hc,hu=>simp at hc
abbrev ZC (l:List Au):D:=.sl (l.map dAu)
theorem aL0 {a:Au}:VD (zL a) (dAu a):=VD.ag (.cons (VC.d _) (.cons (VC.d _) (.cons (VC.d _) (.cons (VC.d _) (.cons (VC.d _) (.cons (VC.d _) (.cons (VC.d _) .nil)))))))
abbrev al3 (b:Nat)(l:List Au):iE:=.box b T.sU [.d (ZC l)]
structure Au.Fit (a:Au) (s:Nat):Prop where
 ok:a.Ok
 sz:a.Sz 134217728 20
 sym:a.sym=s
 s1:a.sym<=32
 st:a.st<=64
def aD3 (b:Nat):List (Nat × List Value):=[(F.qE,[]),(F.qF,[]),(F.qG,[]),(F.qH,[.pointer (some ⟨b,0,none⟩)])]
abbrev bb9 (b:Nat):List D:=(aD3 b).map λp:Nat × List Value=>fC p.1 p.2
def aR4 (i:Nat):Nat:=if i=0 then F.qE else if i=1 then F.qF else if i=2 then F.qG else F.qH
def aD4 (b i:Nat):List V:=if i=3 then [.ptr 1 b 0] else []
theorem aD5 {b i:Nat}(hi:i<4):bG (.d (fC ((aD3 b).getD i default).1 ((aD3 b).getD i default).2)) (.fn (aR4 i) (aD4 b i)):=by
 rcases (by omega:i=0 \/ i=1 \/ i=2 \/ i=3) with rfl|rfl|rfl|rfl
 .exact Ry
 .exact Ry
 .exact Ry
 .exact aD2
theorem aD6 {a:Au}{l:List Au}{b:Nat}(nl:1<=l.length)(hs:a.sym=(l.getD 0 default).sym):eX P F.qH [zL a,.ptr 1 b 0] (mem1 1 (al3 b l)) (.d (dI 0)) (mem1 1 (al3 b l)):=by
 refine eX.intro fn.qH (by rfl) (by rfl) (aB (by rfl)) λE hE=>(AW.sg hE rfl (iI rfl rfl λb2=>(aF rfl (OL.nil (AW.seq (AW.dg 1 [0,1,2,3,4,5,6,7,8] ay hE rfl (by kernel_rfl) (OI.aK (os:=[_,_,_,_,_,_,_,_,_]) rfl ?_)))))))
 refine aW fd.qp rfl rfl (aG ce.int rfl rfl rfl (aG ce.sU rfl rfl rfl (LJ 0 sl.sU default rfl rfl rfl (by omega) rfl rfl (Vp fd.qp rfl rfl (iH ce.int rfl (dR rfl rfl (c:=true) (by exact decide_eq_true (by omega)) (bJ rfl vL (al2) ?_)))))))
 exact aF rfl (OL.nil (AW.ret ⟨⟨_,.tmp rfl .nil,.le vR⟩,dh rfl⟩))
theorem aD7 {a:Au}{s b i:Nat}{l:List Au}(hl:∀ x,x ∈ l->Au.Fit x s)(nl:1<=l.length)(ha:a ∈ l)(hi:i<4):eX P (aR4 i) (zL a::aD4 b i) (mem1 1 (al3 b l)) (.d (dI 0)) (mem1 1 (al3 b l)):=by
 have f:=hl a ha;have f0:=hl _ (getD_mem (show 0<l.length by omega) default)
 rcases (by omega:i=0 \/ i=1 \/ i=2 \/ i=3) with rfl|rfl|rfl|rfl
 .exact aj.toM (aC9 f.ok f.sz f.s1 f.st)
 .exact aj.toM (aD0 f.ok f.sz f.s1 f.st)
 .exact aj.toM (aD1 f.ok f.sz f.s1 f.st)
 .exact aD6 nl (f.sym.trans f0.sym.symm)
set_option maxHeartbeats 800000 in
theorem aR5 {l:List Au}{s:Nat}(hl:∀ a,a ∈ l->Au.Fit a s)(nl:1<=l.length/\l.length<=64):aj P F.Aw [.d (ZC l)] (.d (dI 0)):=by
 have n1:=nl.1;have n2:=nl.2;refine aj.intro fn.Aw (by rfl) (by rfl) (aB (by rfl)) λE hE=>?_
 refine AW.sg hE rfl ?_;refine bxD rfl rfl λb1=>?_;refine aF rfl ?_;refine OL.nil ?_;refine AW.sg hE rfl ?_;refine mkF (vs:=[_]) rfl ?_;refine ltN (ys:=bb9 b1) sl.zF rfl (J8 WL.vd (J8 WL.vd (J8 WL.vd (J8 aR3.vd pdN)))) rfl (by decide) (by decide) (λy hy=>by obtain⟨p,_,rfl⟩:=mM hy;rfl) (aF rfl (OL.nil (AW.seq (AW.sg hE rfl (ai rfl (fJ sl.zF rfl rfl (ai rfl ?_)))))))
 refine OL.nil (AW.block ?_);refine AW.aV (α:=Nat) [(1,_),(11,_),(12,_)] [(1,_)] (λi=>[(13,.d (dI i))]) (λi=>[]) (λi=>i<=4) (λi=>4-i) 0 (.cons (gB rfl) (.cons (bK rfl) (.cons (bK rfl) .nil))) (.cons (iR rfl) .nil) ⟨Nat.zero_le _,.bZ,.nil⟩ ?_;intro i h1;have h1:i<=4:=h1;have hk4:(aD3 b1).length=4:=rfl;refine AW.sg hE rfl (aY rfl rfl rfl (OL.nil (AW.seq (AW.cond rfl (λBf=>?_) (λBf=>?_)))))
 .try simp only[dX] at Bf
  refine AW.skip (AW.seq (AW.block (AW.sg hE rfl (fO sl.zF default rfl rfl (by omega) rfl rfl (iH ce.KH rfl (aF rfl (OL.nil ?_)))))))
  refine AW.seq ?_;refine AW.to [(1,.ptr 1 b1 0),(5,.fn (aR4 i) (aD4 b1 i)),(11,.d (.sl (bb9 b1))),(12,.d (dI 4)),(13,.d (dI i))] [(1,al3 b1 l)] (.cons vR (.cons (aD5 (by omega)) .Ah)) (.cons rfl .nil) ?_
  refine AW.rg hE rfl (aG ce.sU rfl rfl rfl (fJ sl.sU rfl rfl (ai rfl (OL.nil (AW.block ?_)))));refine AW.aV (α:=Nat) [(1,_),(5,_),(11,_),(12,_),(13,_),(17,_),(18,_)] [(1,_)] (λj=>[(19,.d (dI j))]) (λj=>[]) (λj=>j<=l.length) (λj=>l.length-j) 0 (.cons (gB rfl) (.cons (LH rfl) (.cons (bK rfl) (.cons (bK rfl) (.cons (bK rfl) (.cons (bK rfl) (.cons (bK rfl) .nil))))))) (.cons (iR rfl) .nil) ⟨Nat.zero_le _,.bZ,.nil⟩ ?_;intro j h2;have h2:j<=l.length:=h2;refine AW.sg hE rfl (aY rfl rfl rfl (OL.nil (AW.seq (AW.cond rfl (λh20=>?_) (λh20=>?_)))))
  .try simp only[dX] at h20
   refine AW.skip (AW.seq (AW.block (AW.sg hE rfl (fO sl.sU default rfl rfl (by omega) rfl rfl (jH ag.Auto rfl (vs:=[_,_,_,_,_,_,_]) rfl (aB rfl) (al z.Auto rfl λb7=>(eH sz.Auto rfl rfl rfl rfl rfl (aB rfl) (cells2:=[_,_,_,_,_,_,_]) rfl ?_)))))))
   refine OL.nil (AW.sg hE rfl (Ky rfl (aO ag.Auto rfl rfl (vs:=[_,_,_,_,_,_,_]) rfl (aB rfl) (az5 (pR:=zL (l.getD j default)::aD4 b1 i) rfl (.cons vR vL) (aD7 hl n1 (getD_mem (by omega) default) (by omega)) (dh rfl) (aF rfl (OL.nil (AW.sg hE rfl ?_)))))))
   refine ai rfl (eG rfl rfl (c:=false) (by exact lY (by omega)) (OL.nil (qW rfl ?_)))
   refine AW.skip (AW.rg hE rfl (aI rfl rfl (by omega) (ai rfl (OL.nil ?_))))
   exact AW.again (x:=j) (j+1) (by omega) ⟨by omega,Knows.app .rq7 .bZ,dw.app (.cons rfl .nil) (.nil)⟩
  .try simp only[dX] at h20
   exact AW.exit (AW.rg hE rfl (aI rfl rfl (by omega) (ai rfl (OL.nil (AW.again (x:=i) (i+1) (by omega) ⟨by omega,Knows.app .Ah .bZ,dw.app (.cons rfl .nil) (.nil)⟩)))))
 .try simp only[dX] at Bf
  exact AW.exit (AW.sg hE rfl (aF rfl (OL.nil (AW.ret (aP.r ⟨_,.tmp rfl .nil,.le vR⟩)))))

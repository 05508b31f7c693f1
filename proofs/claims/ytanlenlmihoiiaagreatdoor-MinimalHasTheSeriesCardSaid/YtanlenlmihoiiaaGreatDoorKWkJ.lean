/-
  Walks of package equal, part 1: the checks (printed by mk2.py).
-/
import Derived.Test.YtanlenlmihoiiaaGreatDoorKMod85
set_option linter.unusedVariables false
set_option linter.unusedSimpArgs false
namespace Go.Proofs.YtanlenlmihoiiaaGreatDoor
open Go Go.AL
theorem take_snoc {α:Type}{l:List α}{i:Nat}(d:α)(hi:i<l.length):l.take (i+1)=l.take i++[l.getD i d]:=by
 rw[List.take_succ_eq_append_getElem hi,iO,lF hi];rfl
def Ua (a:Au):Au:={ a with aB:=dF a.aB }
theorem Yl {a:Au}(h:a.Ok):∀ x,x ∈ (Ua a).aB->1<=x.l:=gK.tidy (p:=λ_ l _=>1<=l) λx hx=>(h.arc x hx).2.2.1
theorem zn (l:List bM):(dF l).length<=l.length:=by
 unfold dF UF;refine Nat.le_trans (List.length_filter_le ..) ?_;have h:=Jy (sortA l) (sortA l).length;unfold outA at h;rw[List.take_length] at h;have:(sortA l).length=l.length:=vJ ..;omega
abbrev dAu (a:Au):D:=.ag [dI 1,.sl [],dI a.sym,dI a.st,lC a.ini,lC a.fin,iL a.aB]
theorem aQ5 {l:List bM}{f:Nat}{caps:List V}{p:bM->Bool}(hf:∀ x,x ∈ l->ai P f (KE x::caps) (.d (dB (p x))))(nl:l.length<=1099511627776):ai P F.gZ [.d (iL l),.fn f caps] (.d (dI (Je p l))):=by
 refine ai.intro fn.gZ (by rfl) (by rfl) (au (by rfl)) λE hE=>(AW.sg hE rfl (aG rfl (OL.nil (AW.seq (AW.sg hE rfl (aj rfl (fO sl.bZ rfl rfl ?_)))))))
 refine aj rfl (OL.nil (AW.block ?_));refine AW.aX (α:=Nat) [(0,_),(1,_),(7,_)] [] (λi=>[(8,.d (dI i))]) (λi=>[]) (λi=>i<=l.length/\∀ j,j<i->p (l.getD j default)=false) (λi=>l.length-i) 0 (.cons (dA rfl) (.cons (N7 rfl) (.cons (dA rfl) .nil))) .nil ⟨⟨Nat.zero_le _,λj hj=>by omega⟩,.dw,.nil⟩ ?_
 rintro i ⟨h1,h2⟩
 refine AW.sg hE rfl (bD rfl rfl rfl (OL.nil (AW.seq (AW.cond rfl (λh9=>?_) (λh9=>?_)))))
 .try simp only[fG] at h9
  refine AW.skip (AW.seq (AW.block (AW.sg hE rfl (aj rfl (aG rfl (OL.nil (AW.sg hE rfl ?_)))))));refine Qv rfl (aj rfl (aj rfl (fD sl.bZ default rfl rfl (by omega) rfl rfl (iR ag.mQ rfl (vs:=[_,_,_,_,_,_,_,_,_,_,_]) rfl (au rfl) (bP rfl (.cons vR vL) (hf (l.getD i default) (getD_mem (by omega) _)) (OL.nil (AW.cond rfl (λh16=>?_) (λh16=>?_))))))))
  .have h16:=h16;exact AW.sg hE rfl (aj rfl (aG rfl (OL.nil (AW.ret (aT.r ⟨_,.tmp rfl .nil,.le (bV.int ((Dy (by omega) default h16 h2).symm))⟩)))))
  .have h16:=h16;refine AW.skip (AW.rg hE rfl (aJ rfl rfl (by omega) (aj rfl (OL.nil ?_))))
   exact AW.again (x:=i) (i+1) (by omega) ⟨⟨by omega,λj hj=>by rcases Nat.lt_or_ge j i with h|h;exact h2 j h;obtain rfl:j=i:=(by omega);exact h16⟩,Knows.app .yI .dw,.nil⟩
 .try simp only[fG] at h9
  exact AW.exit (AW.sg hE rfl (aG rfl (OL.nil (AW.ret (aT.r ⟨_,.tmp rfl .nil,.le (bV.int ((Gf default λj hj=>h2 j (by omega)).symm))⟩)))))
theorem O1 {l:List bM}{f:Nat}{caps:List V}{p:bM->Bool}(hf:∀ x,x ∈ l->ai P f (KE x::caps) (.d (dB (p x))))(nl:l.length<=1099511627776):ai P F.jo [.d (iL l),.fn f caps] (.d (dB (l.any p))):=by
 refine ai.intro fn.jo (by rfl) (by rfl) (au (by rfl)) λE hE=>(AW.sg hE rfl (aG rfl (OL.nil (AW.sg hE rfl (aj rfl (Qv rfl (bP rfl vL (aQ5 hf nl) ?_)))))))
 exact tH rfl rfl rfl (aG rfl (OL.nil (AW.ret (aT.r ⟨_,.tmp rfl .nil,.le (bV.bool (Va p l))⟩))))
theorem aZ2 {l:List Rat}(nl:l.length<=64)(hz:∀ x,x ∈ l->sz x<=134217728):ai P F.wz [jG,.d (lC l)] (.d (lC l)):=by
 refine ai.intro fn.wz (by rfl) (by rfl) (au (by rfl)) λE hE=>(AW.sg hE rfl (iG rfl rfl λb2=>(nI rfl (OL.nil (AW.sg hE rfl (nI rfl (OL.nil ?_)))))))
 refine AW.seq (AW.seq (AW.own 5 21 T.ay 8 rfl rfl (AW.rg hE rfl (aj rfl (fO sl.aS rfl rfl (aj rfl (OL.nil ?_)))))));refine AW.block ?_;refine AW.aX (α:=Nat × Nat × Nat) [(2,_),(4,_),(8,_),(9,_)] [(2,_)] (λ(i,bq,cq)=>[(5,.bK 21 bq i cq),(10,.d (dI i))]) (λ(i,bq,cq)=>[(21,.row bq cq T.ay 8 ((l.take i).map dW))]) (λ(i,bq,cq)=>i<=l.length) (λ(i,bq,cq)=>l.length-i) (0,0,0) (.cons (iF rfl) (.cons (BO rfl) (.cons (dA rfl) (.cons (dA rfl) .nil)))) (.cons (jc rfl) .nil) ⟨Nat.zero_le _,.jm,.cons rfl .nil⟩ ?_
 rintro⟨i,bq,cq⟩ h1
 have h1:i<=l.length:=h1;refine AW.sg hE rfl (bD rfl rfl rfl (OL.nil (AW.seq (AW.cond rfl (λh11=>?_) (λh11=>?_)))))
 .try simp only[fG] at h11
  refine AW.skip (AW.seq (AW.block (AW.seq ?_)));have hx:=hz (l.getD i 0) (getD_mem (by omega) 0)
  refine AW.rg hE rfl (fD sl.aS 0 rfl rfl (by omega) rfl rfl (iR ag.ay rfl (vs:=[_,_,_,_,_,_,_,_]) rfl (au rfl) (al z.ay rfl λb7=>(eG sz.ay rfl rfl rfl rfl rfl (au rfl) (cells2:=[_,_,_,_,_,_,_,_]) rfl (OL.nil (AW.dg 2 [0,1,2,3,4,5,6,7,8] ak hE rfl (by kernel_rfl) (OI.aP (os:=[_,_,_,_,_,_,_,_,_]) rfl ?_)))))))
  refine jl rfl (aQ ag.Ring rfl rfl (vs:=[_,_]) rfl (au rfl) (aQ ag.ay rfl rfl (vs:=[_,_,_,_,_,_,_,_]) rfl (au rfl) (aQ ag.Ring rfl rfl (vs:=[_,_]) rfl (au rfl) (bP rfl vL (Z5) (bP rfl vL (Z7 (p:=(l.getD i 0)) (q:=0) (by omega) z0K) ?_)))))
  rw[Rat.add_zero];refine xG (y:=dW (l.getD i 0)) sl.aS MK rfl (by decide) ?_
  refine Am sl.aS rfl rfl rfl (by rw[dL,List.length_take];omega) (VC.d _) (λy hy=>by rw[lV hy];rfl) (by simp;omega) (by simp;omega) (.inr rfl) (ys:=(l.take (i+1)).map dW) (by rw[take_snoc 0 (show i<l.length by omega),List.map_append];rfl) (n2:=i+1) rfl λb2 c2=>?_
  refine uf rfl (OL.nil (AW.rg hE rfl (aJ rfl rfl (by omega) (aj rfl (OL.nil ?_)))))
  exact AW.again (x:=(i,bq,cq)) (i+1,b2,c2) (by (simp only[];omega)) ⟨by omega,Knows.app .J5 .jm,dP.app (.cons rfl .nil) (.cons rfl .nil)⟩
 .try simp only[fG] at h11
  refine AW.exit (AW.seq ?_);obtain rfl:i=l.length:=by omega
  refine AW.freeze 21 rfl (AW.to [(5,.d (lC l))] [] (.cons (dM (by rw[dL,List.length_take,Nat.min_self]) (by rw[List.take_length])) .nil) .nil ?_)
  exact AW.rg hE rfl (aj rfl (aG rfl (OL.nil (AW.ret (aT.r ⟨_,.tmp rfl .nil,.le vR⟩)))))
theorem bp1  : ai P F.wu [jG] (jG):=by
 refine ai.intro fn.wu (by rfl) (by rfl) (au (by rfl)) λE hE=>(AW.sg hE rfl (iG rfl rfl λb1=>(al z.Ring rfl λb2=>(OL.nil (AW.seq (AW.dg 1 [0,1,2,3,4,5,6] ak hE rfl (by kernel_rfl) (OI.aP (os:=[_,_,_,_,_,_,_]) rfl ?_)))))))
 refine aV fd.kK rfl rfl (aA ce.int rfl rfl rfl (aV fd.Ei rfl rfl (aA ce.ints rfl rfl rfl (bP rfl vL (Yf (l:=[]) (by decide)) (bd z.Ring pl.Ring (cs:=[_,_]) rfl (eG sz.Ring rfl rfl rfl rfl rfl (au rfl) (cells2:=[_,_]) rfl (OL.nil ?_)))))))
 exact AW.ret (aT.r ⟨_,.dK rfl rfl ag.Ring (au rfl) .nil,.ag (.cons (.le vR) (.cons (.le vR) .nil))⟩)
theorem az3 {a:Au}(h:a.Ok)(za:a.Sz 134217728 20)(s1:a.sym<=32)(s2:a.st<=64):ai P F.uJ [uY a] (.d (dB true)):=by
 have e0:=h.H8;have e1:=h.ini;have e2:=h.fin;have e3:=za.num;refine ai.intro fn.uJ (by rfl) (by rfl) (au (by rfl)) λE hE=>(AW.sg hE rfl (iG rfl rfl λb1=>(aG rfl (OL.nil (AW.seq (AW.sg hE rfl (aV fd.gu rfl rfl ?_)))))))
 refine aQ ag.Ring rfl rfl (vs:=[_,_]) rfl (au rfl) (bP rfl .dw (TV) (nt rfl (aj rfl (OL.yes rfl (aV fd.kZ rfl rfl (OL.yes rfl (aA ce.int rfl rfl rfl ?_)))))));refine OL.yes rfl (bD rfl rfl (c:=false) (by exact decide_eq_false (by omega)) (oI rfl rfl (aj rfl (OL.yes rfl (aV fd.kZ rfl rfl (OL.yes rfl (aA ce.int rfl rfl rfl ?_)))))))
 refine OL.yes rfl (kS rfl rfl (c:=false) (by exact decide_eq_false (by omega)) (oI rfl rfl (aj rfl (OL.yes rfl (aV fd.jf rfl rfl (OL.yes rfl (aA ce.int rfl rfl rfl ?_)))))))
 refine OL.yes rfl (bD rfl rfl (c:=false) (by exact decide_eq_false (by omega)) (oI rfl rfl (aj rfl (OL.yes rfl (aV fd.jf rfl rfl (OL.yes rfl (aA ce.int rfl rfl rfl ?_)))))))
 refine OL.yes rfl (kS rfl rfl (c:=false) (by exact decide_eq_false (by omega)) (oI rfl rfl (aj rfl (OL.yes rfl (aV fd.mg rfl rfl (OL.yes rfl (aA ce.aS rfl rfl rfl ?_)))))))
 refine OL.yes rfl (fO sl.aS rfl rfl (OL.yes rfl (aV fd.jf rfl rfl (OL.yes rfl (aA ce.int rfl rfl rfl (OL.yes rfl (fJ rfl rfl (c:=false) (by exact o6 (by omega)) ?_)))))))
 refine oI rfl rfl (aj rfl (OL.yes rfl (aV fd.o8 rfl rfl (OL.yes rfl (aA ce.aS rfl rfl rfl (OL.yes rfl (fO sl.aS rfl rfl ?_)))))));refine OL.yes rfl (aV fd.jf rfl rfl (OL.yes rfl (aA ce.int rfl rfl rfl (OL.yes rfl (fJ rfl rfl (c:=false) (by exact o6 (by omega)) (oI rfl rfl (aj rfl ?_)))))))
 refine OL.yes rfl (aV fd.fM rfl rfl (OL.yes rfl (aA ce.bZ rfl rfl rfl (OL.yes rfl (fO sl.bZ rfl rfl (OL.yes rfl (kS rfl rfl (c:=false) (by exact decide_eq_false (by omega)) ?_)))))))
 refine oI rfl rfl (OL.nil (pW rfl ?_));refine AW.skip (AW.seq (AW.seq (AW.BP 1 [dI 1,.sl [],dI a.sym,dI a.st,lC a.ini,lC a.fin,iL a.aB] rfl (VCs.UH [dI 1,.sl [],dI a.sym,dI a.st,lC a.ini,lC a.fin,iL a.aB]) (AW.to [(1,rAu a),(2,.d (dB false))] [] (.cons (aC (show V.Xq 1 b1 [dI 1,.sl [],dI a.sym,dI a.st,lC a.ini,lC a.fin,iL a.aB] (.ptr 1 b1 0)=rAu a from E8)) .dw) .nil (AW.rg hE rfl (Qw fd.fM rfl rfl (jb ce.bZ rfl ?_)))))))
 refine mkF (vs:=[_]) rfl (bP rfl vL (O1 (l:=a.aB) (f:=F.nO) (caps:=[rAu a]) (p:=λ_=>false) (λx hx=>aQ2 (h.arc x hx) (Nat.le_trans (za.arc x hx) (by decide))) (by omega)) ?_)
 rw[any_false λx _=>rfl];refine OL.nil (pW rfl ?_);refine AW.skip (AW.sg hE rfl (Qw fd.gu rfl rfl (iR ag.Ring rfl (vs:=[_,_]) rfl (au rfl) (Qw fd.mg rfl rfl (jb ce.aS rfl (bP rfl vL (VU (l:=a.ini) (λx hx=>Nat.le_trans (za.ini x hx) (by decide)) (by omega)) (aj rfl ?_)))))))
 refine OL.yes rfl (Qw fd.gu rfl rfl (OL.yes rfl (iR ag.Ring rfl (vs:=[_,_]) rfl (au rfl) (OL.yes rfl (Qw fd.o8 rfl rfl (OL.yes rfl (jb ce.aS rfl ?_)))))));exact OL.yes rfl (bP rfl vL (VU (l:=a.fin) (λx hx=>Nat.le_trans (za.fin x hx) (by decide)) (by omega)) (nJ rfl rfl (aG rfl (OL.nil (AW.ret (aT.r ⟨_,.tmp rfl .nil,.le vR⟩))))))
theorem aa5 {a:Au}(h:a.Ok)(za:a.Sz 134217728 20)(s1:a.sym<=32)(s2:a.st<=64):ai P F.sH [uY a] (.oM [uY (Ua a),.d (dI 0)]):=by
 have e0:=h.H8;have e1:=h.ini;have e2:=h.fin;have e3:=za.num;refine ai.intro fn.sH (by rfl) (by rfl) (au (by rfl)) λE hE=>(AW.sg hE rfl (iG rfl rfl λb1=>(al z.Auto rfl λb2=>(aG rfl (OL.nil (AW.seq (AW.sg hE rfl ?_)))))))
 refine aQ ag.Auto rfl rfl (vs:=[_,_,_,_,_,_,_]) rfl (au rfl) (bP rfl .dw (az3 h za s1 s2) (nt rfl (OL.nil (pW rfl ?_))));refine AW.skip (AW.seq (AW.dg 1 [0,1,2,3,4,5,6,7,8,9,10,11,12,13,14,15,16,17,18,19,20,21,22,23,24] ak hE rfl (by kernel_rfl) (OI.aP (os:=[_,_,_,_,_,_,_,_,_,_,_,_,_,_,_,_,_,_,_,_,_,_,_,_,_]) rfl ?_)))
 refine aV fd.gu rfl rfl (aQ ag.Ring rfl rfl (vs:=[_,_]) rfl (au rfl) (bP rfl .dw (bp1) (aV fd.kZ rfl rfl (aA ce.int rfl rfl rfl (aV fd.jf rfl rfl (aA ce.int rfl rfl rfl (aV fd.gu rfl rfl ?_)))))));refine aQ ag.Ring rfl rfl (vs:=[_,_]) rfl (au rfl) (aV fd.mg rfl rfl (aA ce.aS rfl rfl rfl (bP rfl vL (aZ2 (l:=a.ini) (by omega) za.ini) (aV fd.gu rfl rfl (aQ ag.Ring rfl rfl (vs:=[_,_]) rfl (au rfl) (aV fd.o8 rfl rfl (aA ce.aS rfl rfl rfl ?_)))))))
 refine bP rfl vL (aZ2 (l:=a.fin) (by omega) za.fin) (aV fd.gu rfl rfl (aQ ag.Ring rfl rfl (vs:=[_,_]) rfl (au rfl) (aV fd.fM rfl rfl (aA ce.bZ rfl rfl rfl (bP rfl vL (aa1 (l:=a.aB) e3 za.arc) (Ko (cs:=[_,_,_,_,_,_,_]) z.Auto pl.Auto (jR (by exact U7 rfl) (jR (by exact rq rfl) (jR (by exact rq rfl) (jR (by exact rq rfl) (jR (by exact rq rfl) (jR (by exact rq rfl) (J9))))))) (by rfl) (eG sz.Auto rfl rfl rfl rfl rfl (au rfl) (cells2:=[_,_,_,_,_,_,_]) rfl ?_)))))))
 refine aG rfl (OL.nil ?_);exact AW.ret (aT.r ⟨_,.dK rfl rfl ag.Auto (au rfl) (.tmp rfl .nil),_,.cons (.ag (.cons (.le vR) (.cons (.le vR) (.cons (.le vR) (.cons (.le vR) (.cons (.le vR) (.cons (.le vR) (.cons (.le vR) .nil)))))))) (.cons (.le vR) .nil),rfl⟩)
theorem aQ6 {s:Nat}(hs:1<=s/\s<=32):ai P F.Bc [.d (ints []),.d (dI s)] (.d (dB true)):=by
 refine ai.intro fn.Bc (by rfl) (by rfl) (au (by rfl)) λE hE=>(AW.sg hE rfl (aG rfl (OL.nil (AW.seq (AW.sg hE rfl (aj rfl (fO sl.ints rfl rfl ?_)))))))
 refine aj rfl (OL.nil (AW.block ?_));refine AW.aX (α:=Unit) [(0,_),(1,_),(7,_),(8,_)] [] (λ_u=>[(9,.d (dI 0))]) (λ_u=>[]) (λ_u=>True) (λ_u=>0) () (.cons (dA rfl) (.cons (dA rfl) (.cons (dA rfl) (.cons (dA rfl) .nil)))) .nil ⟨trivial,.dw,.nil⟩ ?_;intro _ _;refine AW.sg hE rfl (bD rfl rfl rfl (OL.nil (AW.seq (AW.cond rfl (λhno=>absurd hno (by simp)) (λ_=>?_)))))
 refine AW.exit (AW.sg hE rfl (aj rfl (tH rfl rfl (c:=true) (by exact decide_eq_true (by omega)) (aj rfl (OL.yes rfl (aj rfl (OL.yes rfl ?_)))))))
 refine Aw rfl rfl (c:=true) (by exact decide_eq_true (by omega)) (nJ rfl rfl (aj rfl (OL.yes rfl (aj rfl (OL.yes rfl (fO sl.ints rfl rfl (OL.yes rfl ?_)))))))
 exact Aw rfl rfl (c:=true) (by rfl) (nJ rfl rfl (aG rfl (OL.nil (AW.ret (aT.r ⟨_,.tmp rfl .nil,.le vR⟩)))))
theorem aQ7 {x:bM}(hx:1<=x.l):ai P F.uq [KE x] (.d (dB false)):=by
 refine ai.intro fn.uq (by rfl) (by rfl) (au (by rfl)) λE hE=>(AW.sg hE rfl (iG rfl rfl λb1=>(aG rfl (OL.nil (AW.sg hE rfl (aV fd.Bj rfl rfl (aA ce.int rfl rfl rfl ?_)))))))
 exact fE rfl rfl (c:=false) (by exact decide_eq_false (by omega)) (aG rfl (OL.nil (AW.ret (aT.r ⟨_,.tmp rfl .nil,.le vR⟩))))
theorem be0 {a:Au}(h:a.Ok)(za:a.Sz 134217728 20)(s1:a.sym<=32)(s2:a.st<=64):ai P F.AV [uY a,.d (ints [])] (.oM [uY (Ua a),.d (dI 0)]):=by
 have e0:=h.H8;have e1:=h.ini;have e2:=h.fin;have e3:=za.num;have tl:=zn a.aB;refine ai.intro fn.AV (by rfl) (by rfl) (au (by rfl)) λE hE=>(AW.sg hE rfl (iG rfl rfl λb2=>(al z.Auto rfl λb4=>(aG rfl (OL.nil (AW.sg hE rfl (aQ ag.Auto rfl rfl (vs:=[_,_,_,_,_,_,_]) rfl (au rfl) ?_)))))))
 refine bP rfl .dw (aa5 h za s1 s2) (ES rfl (ex rfl rfl (ex rfl rfl (al z.Auto rfl λb6=>(eG sz.Auto rfl rfl rfl rfl rfl (au rfl) (cells2:=[_,_,_,_,_,_,_]) rfl (aG rfl (OL.nil ?_)))))));refine AW.seq (AW.block (AW.sg hE rfl (aj rfl (fJ rfl rfl (c:=false) (by exact o6 (by omega)) (aG rfl (OL.nil (pW rfl ?_)))))))
 refine AW.sg hE rfl (aV fd.fM rfl rfl (aA ce.bZ rfl rfl rfl (bP rfl vL (O1 (l:=(Ua a).aB) (f:=F.uq) (caps:=[]) (p:=λ_=>false) (λx hx=>aQ7 (Yl h x hx)) (by show (dF a.aB).length<=_;omega)) ?_)))
 rw[any_false λx _=>rfl];refine aG rfl (OL.nil (pW rfl ?_));refine AW.sg hE rfl (aj rfl (aV fd.kZ rfl rfl (aA ce.int rfl rfl rfl (bP rfl vL (aQ6 (s:=a.sym) ⟨e0,s1⟩) (nt rfl (aG rfl (OL.nil ?_)))))));refine pW rfl ?_;refine AW.skip (AW.sg hE rfl (aQ ag.Auto rfl rfl (vs:=[_,_,_,_,_,_,_]) rfl (au rfl) (eG sz.Auto rfl rfl rfl rfl rfl (au rfl) (cells2:=[_,_,_,_,_,_,_]) rfl (aG rfl (OL.nil ?_)))));exact AW.ret (aT.r ⟨_,.dK rfl rfl ag.Auto (au rfl) (.tmp rfl .nil),_,.cons (.ag (.cons (.le vR) (.cons (.le vR) (.cons (.le vR) (.cons (.le vR) (.cons (.le vR) (.cons (.le vR) (.cons (.le vR) .nil)))))))) (.cons (.le vR) .nil),rfl⟩)
theorem az4 {e:Int}:ai P F.Jh [.d (dB true),.d (dI e)] (.d (dI 0)):=by
 refine ai.intro fn.Jh (by rfl) (by rfl) (au (by rfl)) λE hE=>(AW.sg hE rfl (aG rfl (OL.nil (AW.seq (AW.sg hE rfl (aj rfl (OL.nil ?_)))))))
 refine F6 rfl ?_;exact AW.sg hE rfl (aG rfl (OL.nil (AW.ret (aT.r ⟨_,.tmp rfl .nil,.le vR⟩))))
theorem aQ8 {a:Au}(h:a.Ok)(za:a.Sz 134217728 20)(s1:a.sym<=32)(s2:a.st<=64):ai P F.qI [uY a] (.d (dI 0)):=by
 refine ai.intro fn.qI (by rfl) (by rfl) (au (by rfl)) λE hE=>(AW.sg hE rfl (iG rfl rfl λb1=>(aG rfl (OL.nil (AW.sg hE rfl (aQ ag.Auto rfl rfl (vs:=[_,_,_,_,_,_,_]) rfl (au rfl) (bP rfl vL (az3 h za s1 s2) ?_)))))))
 exact bP rfl vL (az4) (aG rfl (OL.nil (AW.ret (aT.r ⟨_,.tmp rfl .nil,.le vR⟩))))
theorem aQ9 {a:Au}(h:a.Ok)(za:a.Sz 134217728 20)(s1:a.sym<=32)(s2:a.st<=64):ai P F.qJ [uY a] (.d (dI 0)):=by
 refine ai.intro fn.qJ (by rfl) (by rfl) (au (by rfl)) λE hE=>(AW.sg hE rfl (iG rfl rfl λb1=>(aG rfl (OL.nil (AW.sg hE rfl (aV fd.gu rfl rfl (aV fd.kK rfl rfl ?_)))))))
 exact aA ce.int rfl rfl rfl (fE rfl rfl (c:=true) (by exact decide_eq_true (by omega)) (bP rfl vL (az4) (aG rfl (OL.nil (AW.ret (aT.r ⟨_,.tmp rfl .nil,.le vR⟩))))))
theorem aR0 {a:Au}(h:a.Ok)(za:a.Sz 134217728 20)(s1:a.sym<=32)(s2:a.st<=64):ai P F.qK [uY a] (.d (dI 0)):=by
 refine ai.intro fn.qK (by rfl) (by rfl) (au (by rfl)) λE hE=>(AW.sg hE rfl (iG rfl rfl λb1=>(aG rfl (OL.nil (AW.sg hE rfl (aQ ag.Auto rfl rfl (vs:=[_,_,_,_,_,_,_]) rfl (au rfl) (bP rfl (.cons vR (.cons bV.mt .nil)) (be0 h za s1 s2) ?_)))))))
 refine ES rfl (ex rfl rfl (ex rfl rfl (al z.Auto rfl λb3=>(eG sz.Auto rfl rfl rfl rfl rfl (au rfl) (cells2:=[_,_,_,_,_,_,_]) rfl (aG rfl (OL.nil (AW.sg hE rfl ?_)))))));exact aj rfl (aG rfl (OL.nil (AW.ret (aT.r ⟨_,.tmp rfl .nil,.le vR⟩))))
theorem fQ.frame {P:Program}{f:Nat}{args:List V}{M Mc:Mem}{res:V}(hc:∀ id blk,Mc id=some blk->M id=some blk)(h:fQ P f args Mc res Mc):fQ P f args M res M :=
 ⟨h.1,λF w vals hS hv=>(h.2 F w vals (FZ hS hc) hv).mono λe w' ⟨v,F',he,ha,hs⟩=>by
  have k:=After.over hS hc (λ_ h=>h) ha;rw[over_self hc] at k;exact⟨v,F',he,k,hs⟩⟩
theorem ai.toM {P:Program}{f:Nat}{args:List V}{M:Mem}{res:V}(h:ai P f args res):fQ P f args M res M:=by
 refine fQ.frame (Mc:=jA) (λ_ _ h=>by cases h) ⟨h.1,λF w vals hS hv=>(h.2 F w vals hS.rC hv).mono λe w' ⟨v,F',he,hx,hs⟩=>⟨v,F',he,⟨hx.grow.mono (λi h=>h.elim),hx.le,zB hx.rC,λk a b=>.inl (hx.new k a b),λk ho=>(gq k ho).elim⟩,hs⟩⟩
abbrev fC (f:Nat)(us:List Value):D:=.sc (.func (.func f) #[] us.toArray)
theorem aa6 {F:Hp}{v:Value}{f:Nat}{cs:List V}{us:List Value}(h:dG F v (.fn f cs))(he:∀ (xs:List Value),xs.length=cs.length->(∀ (i:Nat) (c:V) (u:Value),cs[i]? = some c->xs[i]? = some u->dG F u c)->xs=us):v=.func (.func f) #[] us.toArray:=by
 cases h with
 | fn hl hr=>rw[he _ hl hr]
theorem Ym {f:Nat}:VC (.fn f []) (fC f []):=λF v h=>by
 rw[aa6 (us:=[]) h λxs hl _=>EQ hl];exact⟨.sc rfl,rfl⟩
theorem be1 {f id b:Nat}:VC (.fn f [.ptr id b 0]) (fC f [.pointer (some ⟨b,0,none⟩)]):=λF v h=>by
 rw[aa6 (us:=[.pointer (some ⟨b,0,none⟩)]) h λxs hl hr=>by
  match xs,hl with
  | [x],_ =>
   have h1:=hr 0 _ x rfl rfl;cases h1;rfl]
 exact⟨.sc rfl,rfl⟩
theorem Ub {f:Nat}:bV (.d (fC f [])) (.fn f []):=λF v h=>by
 cases h with
 | d h _=>cases h;exact .fn (us:=[]) rfl λi c u hc _=>by simp at hc
theorem aR1 {f id b:Nat}:bV (.d (fC f [.pointer (some ⟨b,0,none⟩)])) (.fn f [.ptr id b 0]):=λF v h=>by
 cases h with
 | d h _ =>
  cases h
  refine .fn (us:=[.pointer (some ⟨b,0,none⟩)]) rfl λi c u hc hu=>?_
  match i,hc,hu with
  | 0,hc,hu=>cases hc;cases hu;exact .ptr
  | i+1,hc,hu=>simp at hc
abbrev ai8 (l:List Au):D:=.sl (l.map dAu)
theorem aZ3 {a:Au}:VD (uY a) (dAu a):=VD.ag (.cons (VC.d _) (.cons (VC.d _) (.cons (VC.d _) (.cons (VC.d _) (.cons (VC.d _) (.cons (VC.d _) (.cons (VC.d _) .nil)))))))
abbrev az5 (b:Nat)(l:List Au):iI:=.box b T.tV [.d (ai8 l)]
structure Au.Fit (a:Au) (s:Nat):Prop where
 ok:a.Ok
 sz:a.Sz 134217728 20
 sym:a.sym=s
 s1:a.sym<=32
 st:a.st<=64
def aR2 (b:Nat):List (Nat × List Value):=[(F.qI,[]),(F.qJ,[]),(F.qK,[]),(F.qL,[.pointer (some ⟨b,0,none⟩)])]
abbrev bp3 (b:Nat):List D:=(aR2 b).map λp:Nat × List Value=>fC p.1 p.2
def be3 (i:Nat):Nat:=if i=0 then F.qI else if i=1 then F.qJ else if i=2 then F.qK else F.qL
def aR3 (b i:Nat):List V:=if i=3 then [.ptr 1 b 0] else []
theorem aR4 {b i:Nat}(hi:i<4):bV (.d (fC ((aR2 b).getD i default).1 ((aR2 b).getD i default).2)) (.fn (be3 i) (aR3 b i)):=by
 rcases (by omega:i=0 \/ i=1 \/ i=2 \/ i=3) with rfl|rfl|rfl|rfl
 .exact Ub
 .exact Ub
 .exact Ub
 .exact aR1
theorem aR5 {a:Au}{l:List Au}{b:Nat}(nl:1<=l.length)(hs:a.sym=(l.getD 0 default).sym):fQ P F.qL [uY a,.ptr 1 b 0] (mem1 1 (az5 b l)) (.d (dI 0)) (mem1 1 (az5 b l)):=by
 refine fQ.intro fn.qL (by rfl) (by rfl) (au (by rfl)) λE hE=>(AW.sg hE rfl (iG rfl rfl λb2=>(aG rfl (OL.nil (AW.seq (AW.dg 1 [0,1,2,3,4,5,6,7,8] ak hE rfl (by kernel_rfl) (OI.aP (os:=[_,_,_,_,_,_,_,_,_]) rfl ?_)))))))
 refine aV fd.kZ rfl rfl (aA ce.int rfl rfl rfl (aA ce.tV rfl rfl rfl (Qa 0 sl.tV default rfl rfl rfl (by omega) rfl rfl (Qw fd.kZ rfl rfl (jb ce.int rfl (fE rfl rfl (c:=true) (by exact decide_eq_true (by omega)) (bP rfl vL (az4) ?_)))))))
 exact aG rfl (OL.nil (AW.ret ⟨⟨_,.tmp rfl .nil,.le vR⟩,fF rfl⟩))
theorem aR6 {a:Au}{s b i:Nat}{l:List Au}(hl:∀ x,x ∈ l->Au.Fit x s)(nl:1<=l.length)(ha:a ∈ l)(hi:i<4):fQ P (be3 i) (uY a::aR3 b i) (mem1 1 (az5 b l)) (.d (dI 0)) (mem1 1 (az5 b l)):=by
 have f:=hl a ha;have f0:=hl _ (getD_mem (show 0<l.length by omega) default)
 rcases (by omega:i=0 \/ i=1 \/ i=2 \/ i=3) with rfl|rfl|rfl|rfl
 .exact ai.toM (aQ8 f.ok f.sz f.s1 f.st)
 .exact ai.toM (aQ9 f.ok f.sz f.s1 f.st)
 .exact ai.toM (aR0 f.ok f.sz f.s1 f.st)
 .exact aR5 nl (f.sym.trans f0.sym.symm)
set_option maxHeartbeats 800000 in
theorem be5 {l:List Au}{s:Nat}(hl:∀ a,a ∈ l->Au.Fit a s)(nl:1<=l.length/\l.length<=64):ai P F.AA [.d (ai8 l)] (.d (dI 0)):=by
 have n1:=nl.1;have n2:=nl.2;refine ai.intro fn.AA (by rfl) (by rfl) (au (by rfl)) λE hE=>?_
 refine AW.sg hE rfl ?_;refine bxD rfl rfl λb1=>?_;refine aG rfl ?_;refine OL.nil ?_;refine AW.sg hE rfl ?_;refine mkF (vs:=[_]) rfl ?_;refine ltN (ys:=bp3 b1) sl.Ad rfl (pdC Ym.vd (pdC Ym.vd (pdC Ym.vd (pdC be1.vd pdN)))) rfl (by decide) (by decide) (λy hy=>by obtain⟨p,_,rfl⟩:=jH hy;rfl) (aG rfl (OL.nil (AW.seq (AW.sg hE rfl (aj rfl (fO sl.Ad rfl rfl (aj rfl ?_)))))))
 refine OL.nil (AW.block ?_);refine AW.aX (α:=Nat) [(1,_),(11,_),(12,_)] [(1,_)] (λi=>[(13,.d (dI i))]) (λi=>[]) (λi=>i<=4) (λi=>4-i) 0 (.cons (iF rfl) (.cons (dA rfl) (.cons (dA rfl) .nil))) (.cons (jc rfl) .nil) ⟨Nat.zero_le _,.dw,.nil⟩ ?_;intro i h1;have h1:i<=4:=h1;have hk4:(aR2 b1).length=4:=rfl;refine AW.sg hE rfl (bD rfl rfl rfl (OL.nil (AW.seq (AW.cond rfl (λDp=>?_) (λDp=>?_)))))
 .try simp only[fG] at Dp
  refine AW.skip (AW.seq (AW.block (AW.sg hE rfl (fD sl.Ad default rfl rfl (by omega) rfl rfl (jb ce.Nb rfl (aG rfl (OL.nil ?_)))))))
  refine AW.seq ?_;refine AW.to [(1,.ptr 1 b1 0),(5,.fn (be3 i) (aR3 b1 i)),(11,.d (.sl (bp3 b1))),(12,.d (dI 4)),(13,.d (dI i))] [(1,az5 b1 l)] (.cons vR (.cons (aR4 (by omega)) .yI)) (.cons rfl .nil) ?_
  refine AW.rg hE rfl (aA ce.tV rfl rfl rfl (fO sl.tV rfl rfl (aj rfl (OL.nil (AW.block ?_)))));refine AW.aX (α:=Nat) [(1,_),(5,_),(11,_),(12,_),(13,_),(17,_),(18,_)] [(1,_)] (λj=>[(19,.d (dI j))]) (λj=>[]) (λj=>j<=l.length) (λj=>l.length-j) 0 (.cons (iF rfl) (.cons (N7 rfl) (.cons (dA rfl) (.cons (dA rfl) (.cons (dA rfl) (.cons (dA rfl) (.cons (dA rfl) .nil))))))) (.cons (jc rfl) .nil) ⟨Nat.zero_le _,.dw,.nil⟩ ?_;intro j h2;have h2:j<=l.length:=h2;refine AW.sg hE rfl (bD rfl rfl rfl (OL.nil (AW.seq (AW.cond rfl (λh20=>?_) (λh20=>?_)))))
  .try simp only[fG] at h20
   refine AW.skip (AW.seq (AW.block (AW.sg hE rfl (fD sl.tV default rfl rfl (by omega) rfl rfl (iR ag.Auto rfl (vs:=[_,_,_,_,_,_,_]) rfl (au rfl) (al z.Auto rfl λb7=>(eG sz.Auto rfl rfl rfl rfl rfl (au rfl) (cells2:=[_,_,_,_,_,_,_]) rfl ?_)))))))
   refine OL.nil (AW.sg hE rfl (Qv rfl (aQ ag.Auto rfl rfl (vs:=[_,_,_,_,_,_,_]) rfl (au rfl) (X3 (oJ:=uY (l.getD j default)::aR3 b1 i) rfl (.cons vR vL) (aR6 hl n1 (getD_mem (by omega) default) (by omega)) (fF rfl) (aG rfl (OL.nil (AW.sg hE rfl ?_)))))))
   refine aj rfl (fJ rfl rfl (c:=false) (by exact o6 (by omega)) (OL.nil (pW rfl ?_)))
   refine AW.skip (AW.rg hE rfl (aJ rfl rfl (by omega) (aj rfl (OL.nil ?_))))
   exact AW.again (x:=j) (j+1) (by omega) ⟨by omega,Knows.app .rq7 .dw,dP.app (.cons rfl .nil) (.nil)⟩
  .try simp only[fG] at h20
   exact AW.exit (AW.rg hE rfl (aJ rfl rfl (by omega) (aj rfl (OL.nil (AW.again (x:=i) (i+1) (by omega) ⟨by omega,Knows.app .yI .dw,dP.app (.cons rfl .nil) (.nil)⟩)))))
 .try simp only[fG] at Dp
  exact AW.exit (AW.sg hE rfl (aG rfl (OL.nil (AW.ret (aT.r ⟨_,.tmp rfl .nil,.le vR⟩)))))

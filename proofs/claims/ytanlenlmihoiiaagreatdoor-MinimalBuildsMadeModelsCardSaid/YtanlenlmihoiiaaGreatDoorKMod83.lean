/-
  M, chapters 23 and 24: sizes of the vectors of words; a step in parts.
-/
import Derived.Test.YtanlenlmihoiiaaGreatDoorKWkF
set_option linter.unusedVariables false
set_option linter.unusedSimpArgs false
namespace Go.Proofs.YtanlenlmihoiiaaGreatDoor
open Go Go.AL
def outA (S:List bU)(i:Nat):List bU:=(S.take i).foldl kH []
theorem vP {S:List bU}{i:Nat}(hi:i<S.length):outA S (i+1)=kH (outA S i) (S.getD i default):=al4 hi
theorem Gh {S:List bU}{i:Nat}(hi:S.length<=i):outA S i=S.foldl kH []:=by unfold outA;rw[List.take_of_length_le hi]
theorem JG (S:List bU):∀ i,(outA S i).length<=i
 | 0=>Nat.le_refl _
 | i + 1 => by
  rcases Nat.lt_or_ge i S.length with h|h
  .rw[vP h];have:=YZ (outA S i) (S.getD i default);have:=JG S i;omega
  .rw[Gh (Nat.le_succ_of_le h),<- Gh h];have:=JG S i;omega
theorem UQ {S:List bU}(hz:∀ x,x ∈ S->sz x.q<=134217728):∀ i,al2 i (outA S i)
 | 0=>λx hx=>by cases hx
 | i + 1 => by
  rcases Nat.lt_or_ge i S.length with h|h
  .rw[vP h];exact al3 (UQ hz i) (hz _ (getD_mem h default))
  .rw[Gh (Nat.le_succ_of_le h),<- Gh h];exact λx hx=>Nat.le_trans (UQ hz i x hx) (Nat.mul_le_mul_right _ (Nat.le_succ _))
set_option maxRecDepth 4000 in
set_option maxHeartbeats 1600000 in
theorem aB1 {l:List bU}(nl:l.length<=20)(hz:∀ x,x ∈ l->sz x.q<=134217728):ai P F.wG [kS,.d (jW l)] (.d (jW (dK l))):=by
 have hS:(sortA l).length=l.length:=xP ..;have hzS:∀ x,x ∈ sortA l->sz x.q<=134217728:=λx hx=>hz x ((IB l).mem_iff.1 hx);refine ai.intro fn.wG (by rfl) (by rfl) (ay (by rfl)) λE hE=>(AW.sg hE rfl (iO rfl rfl λb2=>(jK rfl (OL.nil (AW.seq (AW.Dq 2 [dI 1,.sl []] rfl (VCs.Vt [dI 1,.sl []]) (AW.to [(1,.d (jW l)),(2,JF),(4,.mt)] [] (.cons vR (.cons (au (show V.X6 2 b2 [dI 1,.sl []] (.ptr 2 b2 0)=JF from FP)) .dD)) .nil ?_)))))))
 refine AW.rg hE rfl (aj rfl (clR rfl .dD (aQ6 (by omega)) rfl λb11 c11=>(pV rfl (OL.nil (AW.seq (AW.rename 11 1000 rfl (AW.to [(2,JF),(4,.mt),(5,.bI 1000 b11 l.length c11)] [(1000,rowA b11 c11 l)] (.cons vR (.cons vR (.cons bW.bI .nil))) (.cons rfl .nil) ?_)))))))
 refine AW.rg hE rfl (iU rfl (OL.Jb (v:=.mM []) (.mk (args':=[.bI 1000 b11 l.length c11,.fn F.dH []]) rfl (.cons vR (.cons vR (.nil))) (fP (id:=1000) (blk:=rowA b11 c11 l) rfl) yN (WM rfl nl)) (OL.nil (AW.sg hE rfl (jK rfl (OL.nil (AW.seq ?_)))))));refine AW.seq (AW.own 6 59 T.mX 11 rfl rfl (AW.rg hE rfl (iU rfl (Vq sl.dm rfl rfl (aj rfl (OL.nil (AW.block ?_)))))));refine AW.aY (α:=Nat × Nat × Nat) [(2,_),(4,_),(14,_),(15,_)] [(1000,_)] (λ(i,bq,cq)=>[(6,.bI 59 bq (outA (sortA l) i).length cq),(16,.d (dI i))]) (λ(i,bq,cq)=>[(59,rowA bq cq (outA (sortA l) i))]) (λ(i,bq,cq)=>i<=l.length) (λ(i,bq,cq)=>l.length-i) (0,0,0) (.cons (knR rfl) (.cons (xK rfl) (.cons (zA rfl) (.cons (di rfl) .nil)))) (.cons (qZ rfl) .nil) ⟨Nat.zero_le _,.iW,.cons rfl .nil⟩ ?_
 rintro⟨i,bq,cq⟩ h1
 have h1:i<=l.length:=h1;have hlo:=JG (sortA l) i;have hzo:=UQ hzS i;refine AW.sg hE rfl (bG rfl rfl rfl (OL.nil (AW.seq (AW.cond rfl (λh17=>?_) (λh17=>?_)))))
 .try simp only[fD] at h17
  refine AW.skip (AW.seq (AW.block (AW.sg hE rfl (jv sl.dm rfl rfl (by omega) (Ht ag.mX (by decide) rfl rfl (rD (show i<(sortA l).length by omega)) (vs:=pK ((sortA l).getD i default)) rfl (ay rfl) (al z.mX rfl λb8=>(fA sz.mX rfl rfl rfl rfl rfl (ay rfl) (cells2:=[_,_,_,_,_,_,_,_,_,_,_]) rfl ?_)))))))
  refine OL.nil (AW.seq (AW.sg hE rfl (iU rfl (Vq sl.dm rfl rfl (aF rfl (OL.nil (AW.seq ?_)))))));have hxz:=hzS ((sortA l).getD i default) (getD_mem (by omega) default)
  refine AW.dg 1 [0,1,2,3,4,5,6,7,8,9,10,11] ak hE rfl (by kernel_rfl) (OI.aK (os:=[_,_,_,_,_,_,_,_,_,_,_,_]) rfl ?_)
  refine aj rfl (jI rfl rfl rfl (aj rfl (OL.split 24 rfl (λhn=>?_) (λhn=>?_))))
  .have hn:0<(outA (sortA l) i).length:=by have:=lK hn;omega
   have hyz:=hzo ((outA (sortA l) i).getD ((outA (sortA l) i).length-1) default) (getD_mem (by omega) default)
   refine OL.yes rfl (iU rfl (OL.yes rfl (aj rfl (OL.yes rfl (bo rfl rfl (mg (c:=(((outA (sortA l) i).length-1:Nat):Int)) (by omega) (wrap_i64 (by omega))) (OL.yes rfl (jv sl.dm rfl rfl (by omega) ?_)))))))
   refine OL.yes rfl (Ht ag.mX (by decide) rfl rfl (rD (show (outA (sortA l) i).length-1<(outA (sortA l) i).length by omega)) (vs:=pK ((outA (sortA l) i).getD ((outA (sortA l) i).length-1) default)) rfl (ay rfl) (OL.yes rfl (aQ ag.mX rfl rfl (vs:=[_,_,_,_,_,_,_,_,_,_,_]) rfl (ay rfl) (OL.yes rfl (bH rfl vL (aA6 (x:=((outA (sortA l) i).getD ((outA (sortA l) i).length-1) default)) (y:=((sortA l).getD i default))) (OL.yes rfl (fG rfl rfl rfl ?_)))))))
   refine oK rfl rfl (OL.nil (AW.cond rfl (λhc=>?_) (λhc=>?_)))
   .have hc:iT ((outA (sortA l) i).getD ((outA (sortA l) i).length-1) default) ((sortA l).getD i default)=0:=lK hc;refine AW.seq (AW.dg 1 [0,1,2,3,4,5,6,7,8,9,10,11,12,13,14,15] ak hE rfl (by kernel_rfl) (OI.aK (os:=[_,_,_,_,_,_,_,_,_,_,_,_,_,_,_,_]) rfl ?_))
    refine iU rfl (aj rfl (bo rfl rfl (mg (c:=(((outA (sortA l) i).length-1:Nat):Int)) (by omega) (wrap_i64 (by omega))) (iD ag.Ring rfl (vs:=[_,_]) rfl (ay rfl) (iU rfl (aj rfl (bo rfl rfl (mg (c:=(((outA (sortA l) i).length-1:Nat):Int)) (by omega) (wrap_i64 (by omega))) (jv sl.dm rfl rfl (by omega) ?_)))))))
    refine faE fd.rC rfl rfl ?_;refine Ht ag.aC (by decide) rfl rfl (rD (show (outA (sortA l) i).length-1<(outA (sortA l) i).length by omega)) (vs:=[.d (dB (fZ ((outA (sortA l) i).getD ((outA (sortA l) i).length-1) default).q).neg),.d (aH (fZ ((outA (sortA l) i).getD ((outA (sortA l) i).length-1) default).q).num),.d (aH (fZ ((outA (sortA l) i).getD ((outA (sortA l) i).length-1) default).q).den),.d (dI 0),.d (dB false),.d (dU 0),.d (.sl []),.d (.sl [])]) rfl (ay rfl) ?_
    refine bC fd.rC rfl rfl (aQ ag.aC rfl rfl (vs:=[_,_,_,_,_,_,_,_]) rfl (ay rfl) (bH rfl vL (ac8 (p:=((outA (sortA l) i).getD ((outA (sortA l) i).length-1) default).q) (q:=((sortA l).getD i default).q) (by omega) (by omega)) (jv sl.dm rfl rfl (by omega) (faE fd.rC rfl rfl ?_))))
    refine stF sz.aC rfl (d:=dW (((outA (sortA l) i).getD ((outA (sortA l) i).length-1) default).q+((sortA l).getD i default).q)) Nr rfl rfl (rD (show (outA (sortA l) i).length-1<(outA (sortA l) i).length by omega)) (by decide) (el2:=jG { ((outA (sortA l) i).getD ((outA (sortA l) i).length-1) default) with q:=((outA (sortA l) i).getD ((outA (sortA l) i).length-1) default).q+((sortA l).getD i default).q }) rfl (es2:=((outA (sortA l) i).set ((outA (sortA l) i).length-1) { ((outA (sortA l) i).getD ((outA (sortA l) i).length-1) default) with q:=((outA (sortA l) i).getD ((outA (sortA l) i).length-1) default).q+((sortA l).getD i default).q }).map jG) (by rw[List.map_set]) ?_
    refine OL.nil (AW.exit (AW.rg hE rfl (aI rfl rfl (by omega) (aj rfl (OL.nil ?_)))))
    exact AW.again (x:=(i,bq,cq)) (i+1,bq,cq) (by (simp only[];omega)) ⟨by omega,Knows.app .LV (.cons (by rw[vP (by omega),kH,if_pos ⟨hn,hc⟩,List.length_set];exact bW.refl _) .dD),dL.app (.cons rfl .nil) (.cons (by rw[vP (by omega),kH,if_pos ⟨hn,hc⟩];rfl) .nil)⟩
   .have hc:¬ iT ((outA (sortA l) i).getD ((outA (sortA l) i).length-1) default) ((sortA l).getD i default)=0:=nZ hc;refine AW.skip (AW.seq (AW.dg 1 [0,1,2,3,4,5,6,7] ak hE rfl (by kernel_rfl) (OI.aK (os:=[_,_,_,_,_,_,_,_]) rfl ?_)))
    refine iD ag.Ring rfl (vs:=[_,_]) rfl (ay rfl) (bC fd.rC rfl rfl (aQ ag.aC rfl rfl (vs:=[_,_,_,_,_,_,_,_]) rfl (ay rfl) (iD ag.Ring rfl (vs:=[_,_]) rfl (ay rfl) (bH rfl vL (ac7) (bH rfl vL (ac8 (p:=((sortA l).getD i default).q) (q:=0) (by omega) z0K) ?_)))))
    rw[Rat.add_zero];refine bC fd.rC rfl rfl (fA sz.aC rfl rfl rfl rfl rfl (ay rfl) (cells2:=[_,_,_,_,_,_,_,_,_,_,_]) rfl (OL.nil (AW.rg hE rfl (iU rfl (aQ ag.mX rfl rfl (vs:=[_,_,_,_,_,_,_,_,_,_,_]) rfl (ay rfl) (rF (y:=jG ((sortA l).getD i default)) sl.dm xQ rfl (by decide) ?_))))))
    refine xZ sl.dm rfl rfl rfl (by rw[dA]) (VC.d _) (λy hy=>by rw[jJ hy];rfl) (by simp;omega) (by simp;omega) (.inr rfl) (ys:=((outA (sortA l) i)++[((sortA l).getD i default)]).map jG) (by rw[List.map_append];rfl) (n2:=(outA (sortA l) i).length+1) rfl λb2 c2=>?_
    refine pV rfl (OL.nil (AW.rg hE rfl (aI rfl rfl (by omega) (aj rfl (OL.nil ?_)))))
    exact AW.again (x:=(i,bq,cq)) (i+1,b2,c2) (by (simp only[];omega)) ⟨by omega,Knows.app .LV (.cons (by rw[vP (by omega),kH,if_neg (λe=>hc e.2),jd];exact bW.refl _) .dD),dL.app (.cons rfl .nil) (.cons (by rw[vP (by omega),kH,if_neg (λe=>hc e.2)];rfl) .nil)⟩
  .have hn:¬ 0<(outA (sortA l) i).length:=λe=>nZ hn (by omega)
   refine OL.nd rfl (OL.nd rfl (OL.nd rfl (OL.nd rfl (OL.nd rfl (OL.nd rfl (OL.nd rfl (OL.nd rfl ?_)))))));refine oI rfl rfl (OL.nil (oH rfl ?_));refine AW.skip (AW.seq (AW.dg 1 [0,1,2,3,4,5,6,7] ak hE rfl (by kernel_rfl) (OI.aK (os:=[_,_,_,_,_,_,_,_]) rfl ?_)))
   refine iD ag.Ring rfl (vs:=[_,_]) rfl (ay rfl) (bC fd.rC rfl rfl (aQ ag.aC rfl rfl (vs:=[_,_,_,_,_,_,_,_]) rfl (ay rfl) (iD ag.Ring rfl (vs:=[_,_]) rfl (ay rfl) (bH rfl vL (ac7) (bH rfl vL (ac8 (p:=((sortA l).getD i default).q) (q:=0) (by omega) z0K) ?_)))))
   rw[Rat.add_zero];refine bC fd.rC rfl rfl (fA sz.aC rfl rfl rfl rfl rfl (ay rfl) (cells2:=[_,_,_,_,_,_,_,_,_,_,_]) rfl (OL.nil (AW.rg hE rfl (iU rfl (aQ ag.mX rfl rfl (vs:=[_,_,_,_,_,_,_,_,_,_,_]) rfl (ay rfl) (rF (y:=jG ((sortA l).getD i default)) sl.dm xQ rfl (by decide) ?_))))))
   refine xZ sl.dm rfl rfl rfl (by rw[dA]) (VC.d _) (λy hy=>by rw[jJ hy];rfl) (by simp;omega) (by simp;omega) (.inr rfl) (ys:=((outA (sortA l) i)++[((sortA l).getD i default)]).map jG) (by rw[List.map_append];rfl) (n2:=(outA (sortA l) i).length+1) rfl λb2 c2=>?_
   refine pV rfl (OL.nil (AW.rg hE rfl (aI rfl rfl (by omega) (aj rfl (OL.nil ?_)))))
   exact AW.again (x:=(i,bq,cq)) (i+1,b2,c2) (by (simp only[];omega)) ⟨by omega,Knows.app .LV (.cons (by rw[vP (by omega),kH,if_neg (λe=>hn e.1),jd];exact bW.refl _) .dD),dL.app (.cons rfl .nil) (.cons (by rw[vP (by omega),kH,if_neg (λe=>hn e.1)];rfl) .nil)⟩
 .try simp only[fD] at h17
  refine AW.exit (AW.seq ?_);obtain rfl:i=l.length:=by omega
  have ho:(outA (sortA l) l.length).filter (λx=>!decide (x.q=0))=dK l:=by
   unfold dK UK;rw[Gh (by omega)]
   congr 1;funext x;by_cases hx:x.q=0 <;> simp[hx]
  refine AW.aa7 (by rw[hE];rfl) (SL.gV (iU rfl (OL.nil ?_)))
  refine SL.gV (mkF (vs:=[_]) rfl (OL.nil ?_));refine SL.Hu rfl (SO.bm4 (id:=59) (b:=bq) (n:=(outA (sortA l) l.length).length) (c:=cq) (es:=(outA (sortA l) l.length).map jG) (aa8:=λs=>[s,.fn F.o5 [JF]]) (show 63<E.n by rw[hE];exact Nat.le_of_ble_eq_true (by rfl)) rfl rfl (.cons bW.bI .dD) (aQ5 (l:=(outA (sortA l) l.length)) (p:=λx=>decide (x.q=0)) (λx hx=>bd6 (Nat.le_trans (hzo x hx) (by omega))) rfl (by omega)) λb63 c63=>?_)
  refine SL.gV (pV rfl (OL.nil ?_));rw[ho];refine AW.freeze 59 rfl (AW.to [(4,.d (jW (dK l)))] [] (.cons (dP (by rw[dA]) (by rfl)) .nil) .nil ?_)
  exact AW.ret (aP.r ⟨_,.tmp rfl .nil,.le vR⟩)
abbrev rAu (a:Au):V:=.ref [dI 1,.sl [],dI a.sym,dI a.st,qG a.ini,qG a.fin,jW a.aN]
theorem bd8 {l:List Rat}{f:Nat}{cap:V}{p:Rat->Bool}(hf:∀ x,x ∈ l->ai P f [vW x,cap] (.d (dB (p x))))(nl:l.length<=1099511627776):ai P F.iQ [.d (qG l),.fn f [cap]] (.d (dI (Jm p l))):=by
 refine ai.intro fn.iQ (by rfl) (by rfl) (ay (by rfl)) λE hE=>(AW.sg hE rfl (aF rfl (OL.nil (AW.seq (AW.sg hE rfl (aj rfl (fF sl.aW rfl rfl ?_)))))))
 refine aj rfl (OL.nil (AW.block ?_));refine AW.aY (α:=Nat) [(0,_),(1,_),(7,_)] [] (λi=>[(8,.d (dI i))]) (λi=>[]) (λi=>i<=l.length/\∀ j,j<i->p (l.getD j 0)=false) (λi=>l.length-i) 0 (.cons (di rfl) (.cons (KF rfl) (.cons (di rfl) .nil))) .nil ⟨⟨Nat.zero_le _,λj hj=>by omega⟩,.dD,.nil⟩ ?_
 rintro i ⟨h1,h2⟩
 refine AW.sg hE rfl (bG rfl rfl rfl (OL.nil (AW.seq (AW.cond rfl (λh9=>?_) (λh9=>?_)))))
 .try simp only[fD] at h9
  refine AW.skip (AW.seq (AW.block (AW.sg hE rfl (aj rfl (aF rfl (OL.nil (AW.sg hE rfl ?_)))))));refine QU rfl (aj rfl (aj rfl (dR sl.aW 0 rfl rfl (by omega) rfl rfl (iD ag.aC rfl (vs:=[_,_,_,_,_,_,_,_]) rfl (ay rfl) (bH rfl .iW (hf (l.getD i 0) (getD_mem (by omega) _)) (OL.nil (AW.cond rfl (λh16=>?_) (λh16=>?_))))))))
  .have h16:=h16;exact AW.sg hE rfl (aj rfl (aF rfl (OL.nil (AW.ret (aP.r ⟨_,.tmp rfl .nil,.le (bW.int ((Eo (by omega) 0 h16 h2).symm))⟩)))))
  .have h16:=h16;refine AW.skip (AW.rg hE rfl (aI rfl rfl (by omega) (aj rfl (OL.nil ?_))))
   exact AW.again (x:=i) (i+1) (by omega) ⟨⟨by omega,λj hj=>by rcases Nat.lt_or_ge j i with h|h;exact h2 j h;obtain rfl:j=i:=(by omega);exact h16⟩,Knows.app .yU .dD,.nil⟩
 .try simp only[fD] at h9
  exact AW.exit (AW.sg hE rfl (aF rfl (OL.nil (AW.ret (aP.r ⟨_,.tmp rfl .nil,.le (bW.int ((Gy 0 λj hj=>h2 j (by omega)).symm))⟩)))))
theorem al5 {l:List Rat}{f:Nat}{cap:V}{p:Rat->Bool}(hf:∀ x,x ∈ l->ai P f [vW x,cap] (.d (dB (p x))))(nl:l.length<=1099511627776):ai P F.gY [.d (qG l),.fn f [cap]] (.d (dB (l.any p))):=by
 refine ai.intro fn.gY (by rfl) (by rfl) (ay (by rfl)) λE hE=>(AW.sg hE rfl (aF rfl (OL.nil (AW.sg hE rfl (aj rfl (QU rfl (bH rfl vL (bd8 hf nl) ?_)))))))
 exact qX rfl rfl rfl (aF rfl (OL.nil (AW.ret (aP.r ⟨_,.tmp rfl .nil,.le (bW.bool (VS p l))⟩))))
theorem al6 {q:Rat}(hz:sz q<=68719476736):ai P F.kZ [vW q,JF] (.d (dB false)):=by
 refine ai.intro fn.kZ (by rfl) (by rfl) (ay (by rfl)) λE hE=>(AW.sg hE rfl (iO rfl rfl λb2=>(aF rfl (OL.nil (AW.sg hE rfl (iD ag.Ring rfl (vs:=[_,_]) rfl (ay rfl) (aQ ag.aC rfl rfl (vs:=[_,_,_,_,_,_,_,_]) rfl (ay rfl) ?_)))))))
 exact bH rfl .iW (YV hz) (nt rfl (aF rfl (OL.nil (AW.ret (aP.r ⟨_,.tmp rfl .nil,.le vR⟩)))))
theorem WN {l:List Rat}(hz:∀ x,x ∈ l->sz x<=68719476736)(nl:l.length<=1099511627776):ai P F.ru [kS,.d (qG l)] (.d (dB true)):=by
 refine ai.intro fn.ru (by rfl) (by rfl) (ay (by rfl)) λE hE=>(AW.sg hE rfl (iO rfl rfl λb2=>(aF rfl (OL.nil (AW.seq (AW.Dq 2 [dI 1,.sl []] rfl (VCs.Vt [dI 1,.sl []]) (AW.to [(1,.d (qG l)),(2,JF),(4,.d (dB false))] [] (.cons vR (.cons (au (show V.X6 2 b2 [dI 1,.sl []] (.ptr 2 b2 0)=JF from FP)) .dD)) .nil ?_)))))))
 refine AW.rg hE rfl (aj rfl (mkF (vs:=[_]) rfl (bH rfl vL (al5 (l:=l) (f:=F.kZ) (cap:=JF) (p:=λ_=>false) (λx hx=>al6 (hz x hx)) nl) ?_)));rw[any_false λx _=>rfl];exact nt rfl (aF rfl (OL.nil (AW.ret (aP.r ⟨_,.tmp rfl .nil,.le vR⟩))))
theorem WO {a:Au}{v:Nat}(hv:v<a.st):ai P F.qE [.d (dI v),rAu a] (.d (dB true)):=by
 refine ai.intro fn.qE (by rfl) (by rfl) (ay (by rfl)) λE hE=>(AW.sg hE rfl (aF rfl (OL.nil (AW.sg hE rfl (aj rfl (qX rfl rfl (c:=true) (by exact decide_eq_true (by omega)) (aj rfl ?_)))))))
 refine OL.yes rfl (aj rfl (OL.yes rfl (Ov fd.oz rfl rfl (OL.yes rfl (iE ce.int rfl (OL.yes rfl (bG rfl rfl (c:=true) (by exact decide_eq_true (by omega)) ?_)))))))
 exact oK rfl rfl (aF rfl (OL.nil (AW.ret (aP.r ⟨_,.tmp rfl .nil,.le vR⟩))))
theorem aQ7 {a:Au}{x:bU}(hx:x.f<a.st/\x.t<a.st/\1<=x.l/\x.l<=a.sym)(hz:sz x.q<=68719476736):ai P F.tH [KU x,yV a] (.d (dB true)):=by
 refine ai.intro fn.tH (by rfl) (by rfl) (ay (by rfl)) λE hE=>(AW.sg hE rfl (iO rfl rfl λb2=>(iO rfl rfl λb3=>(aF rfl (OL.nil (AW.seq (AW.Dq 3 [dI 1,.sl [],dI a.sym,dI a.st,qG a.ini,qG a.fin,jW a.aN] rfl (VCs.Vt [dI 1,.sl [],dI a.sym,dI a.st,qG a.ini,qG a.fin,jW a.aN]) ?_)))))))
 refine AW.to [(2,.ptr 2 b2 0),(3,rAu a),(4,.d (dB false))] [(2,.box b2 T.mX (pK x))] (.cons vR (.cons (au (show V.X6 3 b3 [dI 1,.sl [],dI a.sym,dI a.st,qG a.ini,qG a.fin,jW a.aN] (.ptr 3 b3 0)=rAu a from FP)) .dD)) (.cons rfl .nil) ?_
 refine AW.rg hE rfl (mkF (vs:=[_]) rfl (asF rfl (OL.nil (AW.sg hE rfl (QU rfl (bC fd.Ib rfl rfl (aG ce.int rfl rfl rfl ?_)))))));refine bH rfl vL (WO (a:=a) (v:=x.f) hx.1) (aj rfl (OL.yes rfl (QU rfl (OL.yes rfl (bC fd.Fh rfl rfl (OL.yes rfl (aG ce.int rfl rfl rfl ?_)))))));refine OL.yes rfl (bH rfl vL (WO (a:=a) (v:=x.t) hx.2.1) (oK rfl rfl (aj rfl (OL.yes rfl (bC fd.DK rfl rfl (OL.yes rfl (aG ce.int rfl rfl rfl ?_)))))));refine OL.yes rfl (qX rfl rfl (c:=true) (by exact decide_eq_true (by omega)) (oK rfl rfl (aj rfl (OL.yes rfl (bC fd.DK rfl rfl (OL.yes rfl (aG ce.int rfl rfl rfl ?_)))))))
 refine OL.yes rfl (Ov fd.lX rfl rfl (OL.yes rfl (iE ce.int rfl (OL.yes rfl (yM rfl rfl (c:=true) (by exact decide_eq_true (by omega)) (oK rfl rfl (aj rfl ?_)))))))
 refine OL.yes rfl (Ov fd.jE rfl rfl (OL.yes rfl (iD ag.Ring rfl (vs:=[_,_]) rfl (ay rfl) (OL.yes rfl (bC fd.rC rfl rfl (OL.yes rfl (aQ ag.aC rfl rfl (vs:=[_,_,_,_,_,_,_,_]) rfl (ay rfl) ?_)))))));exact OL.yes rfl (bH rfl .iW (YV hz) (oK rfl rfl (aF rfl (OL.nil (AW.ret (aP.r ⟨_,.tmp rfl .nil,.le vR⟩))))))
theorem aQ8 {a:Au}{x:bU}(hx:x.f<a.st/\x.t<a.st/\1<=x.l/\x.l<=a.sym)(hz:sz x.q<=68719476736):ai P F.nI [KU x,rAu a] (.d (dB false)):=by
 refine ai.intro fn.nI (by rfl) (by rfl) (ay (by rfl)) λE hE=>(AW.sg hE rfl (iO rfl rfl λb2=>(aF rfl (OL.nil (AW.sg hE rfl (aQ ag.mX rfl rfl (vs:=[_,_,_,_,_,_,_,_,_,_,_]) rfl (ay rfl) (iD ag.Auto rfl (vs:=[_,_,_,_,_,_,_]) rfl (ay rfl) ?_)))))))
 exact bH rfl .iW (aQ7 hx hz) (nt rfl (aF rfl (OL.nil (AW.ret (aP.r ⟨_,.tmp rfl .nil,.le vR⟩)))))
end Go.Proofs.YtanlenlmihoiiaaGreatDoor
namespace Go.AL
open Go Go.BigFrame
theorem WQ {f:Nat->Rat}{C:Nat}:∀ {n:Nat},(∀ i,i<n->sz (f i)<=C)->sz (bD f n)<=n*(C+1)+1
 | 0,_=>by rw[bD,fH];omega
 | n+1,h=>by
  have h1:=WQ (f:=f) (C:=C) (n:=n) λi hi=>h i (by omega)
  have h2:=h n (by omega)
  have h3:=AX (bD f n) (f n);rw[bD,Nat.succ_mul];omega
theorem PU {f:Nat->Rat}{C n:Nat}(hn:n<=6)(h:∀ i,sz (f i)<=C):sz (bD f n)<=6*(C+1)+1:=by
 have h1:=WQ (f:=f) (n:=n) λi _=>h i;have h2:=Nat.mul_le_mul_right (C+1) hn;omega
structure bV.Sz (m:bV) (e:Nat):Prop where
 n6:m.n<=6
 k2:m.k<=4
 e1:1<=e
 e24:e<=24
 ini:∀ i,sz (m.ini.getD i 0)<=e
 fin:∀ i,sz (m.fin.getD i 0)<=e
 ent:∀ s i j,sz (qJ m s i j)<=e
def pO (m:bV)(v:List Rat)(s i j:Nat):List Rat:=(List.range m.n).map λc=>bD (λa=>v.getD a 0*qJ m s a c) (if c<j then i+1 else i)
section
variable {m:bV}{v:List Rat}{s i j c e S:Nat}{w:List Int}
theorem Ag (m:bV)(v:List Rat)(s i j:Nat):(pO m v s i j).length=m.n:=by simp[pO]
theorem SB (hc:c<m.n):(pO m v s i j).getD c 0=bD (λa=>v.getD a 0*qJ m s a c) (if c<j then i+1 else i):=aT _ _ hc
theorem Y0:pO m v s 0 0=(List.range m.n).map λ_=>(0:Rat):=by
 unfold pO;exact List.map_congr_left λc _=>by rw[if_neg (by omega)];rfl
theorem al7:pO m v s i m.n=pO m v s (i+1) 0:=by
 unfold pO;exact List.map_congr_left λc hc=>by rw[if_pos (List.mem_range.1 hc),if_neg (by omega)]
theorem QY (h:v.getD i 0=0):pO m v s (i+1) 0=pO m v s i 0:=by
 unfold pO;exact List.map_congr_left λc _=>by rw[if_neg (by omega),if_neg (by omega),bD,h,Rat.zero_mul,Rat.add_zero]
theorem al8:pO m v s m.n 0=stepM m v s:=by
 unfold pO stepM;exact List.map_congr_left λc _=>by rw[if_neg (by omega)]
theorem SC (hj:j<m.n):(pO m v s i j).set j ((pO m v s i j).getD j 0+v.getD i 0*qJ m s i j)=pO m v s i (j+1):=by
 rw[SB hj,if_neg (Nat.lt_irrefl _)];refine List.ext_getElem (by rw[List.length_set,Ag,Ag]) λc h1 h2=>?_
 rw[Ag] at h2;rw[List.getElem_set];by_cases hcj:j=c
 .subst hcj;rw[if_pos rfl];simp only[pO,List.getElem_map,List.getElem_range];rw[if_pos (by omega),bD]
 .rw[if_neg hcj];simp only[pO,List.getElem_map,List.getElem_range];by_cases h:c<j
  .rw[if_pos h,if_pos (by omega)]
  .rw[if_neg h,if_neg (by omega)]
theorem QZ {l:List Rat}(j:Nat):l.set j (l.getD j 0)=l:=by
 refine List.ext_getElem (by rw[List.length_set]) λc h1 h2=>?_
 rw[List.getElem_set];by_cases hcj:j=c
 .subst hcj;rw[if_pos rfl,jh,lQ h2];rfl
 .rw[if_neg hcj]
theorem Y1 (hj:j<m.n)(h:qJ m s i j=0):pO m v s i (j+1)=pO m v s i j:=by
 rw[<- SC hj,h,Rat.mul_zero,Rat.add_zero,QZ]
theorem vS {l:List Rat}(h:l.length<=c):l.getD c 0=0:=by rw[jh,List.getElem?_eq_none h];rfl
theorem aB2 (z:m.Sz e)(hv:∀ a,sz (v.getD a 0)<=S)(hi:i+1<=6)(c:Nat):sz ((pO m v s i j).getD c 0)<=6*(S+e+1)+1:=by
 rcases Nat.lt_or_ge c m.n with hc|hc
 .rw[SB hc];refine PU (by split <;> omega) λa=>?_
  have:=lu (v.getD a 0) (qJ m s a c);have:=hv a;have:=z.ent s a c;omega
 .rw[vS (by rw[Ag];exact hc),fH];omega
theorem aB3 (z:m.Sz e)(hv:∀ a,sz (v.getD a 0)<=S)(c:Nat):sz ((stepM m v s).getD c 0)<=6*(S+e+1)+1:=by
 rcases Nat.lt_or_ge c m.n with hc|hc
 .rw[DU hc];refine PU z.n6 λa=>?_;have:=lu (v.getD a 0) (qJ m s a c);have:=hv a;have:=z.ent s a c;omega
 .rw[vS (by rw[DT];exact hc),fH];omega
theorem JH (z:m.Sz e):∀ (l:Nat) (w:List Int),w.length=l->∀ i,sz ((bF m w).getD i 0)+e+1<=7 ^ l*(2*e+1)
 | 0,w,hw,i=>by
  rw[Hl hw];have:=z.ini i;show sz (m.ini.getD i 0)+e+1<=_
  omega
 | l+1,w,hw,i=>by
  obtain⟨u,x,rfl⟩:∃ u x,w=u++[x]:=⟨w.dropLast,w.getLast (λh=>by rw[h] at hw;cases hw),(List.dropLast_concat_getLast _).symm⟩
  rw[jd,iY] at hw;have hu:=JH z l u (by omega)
  have hp:1<=7 ^ l:=Nat.one_le_pow _ _ (by decide)
  generalize hT:7 ^ l*(2*e+1)=T at hu;have hT1:2*e+1<=T:=by rw[<- hT];exact Nat.le_mul_of_pos_left _ hp
  have e1:=z.e1;have:=aB3 (v:=bF m u) (s:=x.toNat-1) (S:=T-e-1) z (λa=>by have:=hu a;omega) i
  rw[mY,Nat.pow_succ,Nat.mul_comm (7 ^ l),Nat.mul_assoc,hT];omega
theorem jY (z:m.Sz e)(hw:w.length<=6)(i:Nat):sz ((bF m w).getD i 0)<=5764801:=by
 have h:=JH z w.length w rfl i;have h1:7 ^ w.length<=117649:=Nat.pow_le_pow_right (n:=7) (by decide) hw
 have h2:7 ^ w.length*(2*e+1)<=117649*49:=Nat.mul_le_mul h1 (by have:=z.e24;omega)
 omega
theorem WR (z:m.Sz e)(hw:w.length<=5)(i:Nat):sz ((bF m w).getD i 0)<=823543:=by
 have h:=JH z w.length w rfl i;have h1:7 ^ w.length<=16807:=Nat.pow_le_pow_right (n:=7) (by decide) hw
 have h2:7 ^ w.length*(2*e+1)<=16807*49:=Nat.mul_le_mul h1 (by have:=z.e24;omega)
 omega
theorem KY {u v:Nat->Rat}{S T n:Nat}(hn:n<=6)(hu:∀ i,sz (u i)<=S)(hv:∀ i,sz (v i)<=T):sz (vX n u v)<=6*(S+T+1)+1:=by
 refine PU hn λi=>?_;have:=lu (u i) (v i);have:=hu i;have:=hv i;omega
theorem WS (m:bV)(s i j:Nat):qJ (aA m) s i j=0 \/ ∃ a b,qJ (aA m) s i j=qJ m s a b:=by
 rcases Nat.lt_or_ge s m.k with hs|hs
 .rcases Nat.lt_or_ge i m.n with hi|hi
  .rcases Nat.lt_or_ge j m.n with hj|hj
   .exact .inr ⟨j,i,Wy hs hi hj⟩
   .refine .inl ?_;unfold qJ aA;refine vS (Nat.le_trans ?_ hj);rw[show (m.jb.map λM=>Ig m.n λi j=>(M.getD j []).getD i 0).getD s []=Ig m.n λi j=>((m.jb.getD s []).getD j []).getD i 0 by
     rw[jh,List.getElem?_map,lQ hs,jh,lQ hs];rfl]
    unfold Ig;rw[aT _ _ hi,dA,List.length_range];exact Nat.le_refl _
  .refine .inl ?_;unfold qJ aA;rw[show (m.jb.map λM=>Ig m.n λi j=>(M.getD j []).getD i 0).getD s []=Ig m.n λi j=>((m.jb.getD s []).getD j []).getD i 0 by
    rw[jh,List.getElem?_map,lQ hs,jh,lQ hs];rfl]
   unfold Ig;rw[jh (i:=i),List.getElem?_eq_none (by rw[dA,List.length_range];exact hi)];rfl
 .refine .inl ?_;unfold qJ aA;rw[jh (i:=s),List.getElem?_eq_none (by rw[dA];exact hs)];rfl
theorem bV.Sz.turn (z:m.Sz e):(aA m).Sz e:=⟨z.n6,by rw[kX];exact z.k2,z.e1,z.e24,z.fin,z.ini,λs i j=>by
 rcases WS m s i j with h|⟨a,b,h⟩
 .rw[h,fH];exact z.e1
 .rw[h];exact z.ent ..⟩
theorem aQ9 {L:List (List Int)}{u:List Int}(z:m.Sz e)(hu:u.length<=5)(hL:∀ l,l ∈ L->l.length<=5)(i:Nat):sz ((aZ m L u).getD i 0)<=9882523:=by
 unfold aZ;refine Jz _ (by decide) (λj=>?_) i
 unfold jP;have:=KY (u:=vf (bF m u)) (v:=vf (bF (aA m) (L.getD j []))) z.n6 (λi=>WR z hu i) (λi=>WR z.turn (by
  rcases Nat.lt_or_ge j L.length with h|h
  .exact hL _ (getD_mem h [])
  .rw[jh,List.getElem?_eq_none h];exact Nat.zero_le _) i)
 omega

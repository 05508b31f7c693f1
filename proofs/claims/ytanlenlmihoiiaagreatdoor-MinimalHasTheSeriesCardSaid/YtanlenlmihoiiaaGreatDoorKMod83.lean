/-
  M, chapters 23 and 24: sizes of the vectors of words; a step in parts.
-/
import Derived.Test.YtanlenlmihoiiaaGreatDoorKWkF
set_option linter.unusedVariables false
set_option linter.unusedSimpArgs false
namespace Go.Proofs.YtanlenlmihoiiaaGreatDoor
open Go Go.AL
def outA (S:List bM)(i:Nat):List bM:=(S.take i).foldl jg []
theorem vM {S:List bM}{i:Nat}(hi:i<S.length):outA S (i+1)=jg (outA S i) (S.getD i default):=ai3 hi
theorem FO {S:List bM}{i:Nat}(hi:S.length<=i):outA S i=S.foldl jg []:=by unfold outA;rw[List.take_of_length_le hi]
theorem Jy (S:List bM):∀ i,(outA S i).length<=i
 | 0=>Nat.le_refl _
 | i + 1 => by
  rcases Nat.lt_or_ge i S.length with h|h
  .rw[vM h];have:=Yh (outA S i) (S.getD i default);have:=Jy S i;omega
  .rw[FO (Nat.le_succ_of_le h),<- FO h];have:=Jy S i;omega
theorem TY {S:List bM}(hz:∀ x,x ∈ S->sz x.q<=134217728):∀ i,ai1 i (outA S i)
 | 0=>λx hx=>by cases hx
 | i + 1 => by
  rcases Nat.lt_or_ge i S.length with h|h
  .rw[vM h];exact ai2 (TY hz i) (hz _ (getD_mem h default))
  .rw[FO (Nat.le_succ_of_le h),<- FO h];exact λx hx=>Nat.le_trans (TY hz i x hx) (Nat.mul_le_mul_right _ (Nat.le_succ _))
set_option maxRecDepth 4000 in
set_option maxHeartbeats 1600000 in
theorem aa1 {l:List bM}(nl:l.length<=20)(hz:∀ x,x ∈ l->sz x.q<=134217728):ai P F.vZ [jG,.d (iL l)] (.d (iL (dF l))):=by
 have hS:(sortA l).length=l.length:=vJ ..;have hzS:∀ x,x ∈ sortA l->sz x.q<=134217728:=λx hx=>hz x ((Ik l).mem_iff.1 hx);refine ai.intro fn.vZ (by rfl) (by rfl) (au (by rfl)) λE hE=>(AW.sg hE rfl (iG rfl rfl λb2=>(nI rfl (OL.nil (AW.seq (AW.BP 2 [dI 1,.sl []] rfl (VCs.UH [dI 1,.sl []]) (AW.to [(1,.d (iL l)),(2,Jw),(4,.mt)] [] (.cons vR (.cons (aC (show V.Xq 2 b2 [dI 1,.sl []] (.ptr 2 b2 0)=Jw from E8)) .dw)) .nil ?_)))))))
 refine AW.rg hE rfl (aj rfl (clR rfl .dw (aQ0 (by omega)) rfl λb11 c11=>(uf rfl (OL.nil (AW.seq (AW.rename 11 1000 rfl (AW.to [(2,Jw),(4,.mt),(5,.bK 1000 b11 l.length c11)] [(1000,rowA b11 c11 l)] (.cons vR (.cons vR (.cons bV.bK .nil))) (.cons rfl .nil) ?_)))))))
 refine AW.rg hE rfl (jl rfl (OL.IY (v:=.oM []) (.mk (args':=[.bK 1000 b11 l.length c11,.fn F.dJ []]) rfl (.cons vR (.cons vR (.nil))) (fF (id:=1000) (blk:=rowA b11 c11 l) rfl) yg (VT rfl nl)) (OL.nil (AW.sg hE rfl (nI rfl (OL.nil (AW.seq ?_)))))));refine AW.seq (AW.own 6 59 T.mQ 11 rfl rfl (AW.rg hE rfl (jl rfl (Qx sl.bZ rfl rfl (aj rfl (OL.nil (AW.block ?_)))))));refine AW.aX (α:=Nat × Nat × Nat) [(2,_),(4,_),(14,_),(15,_)] [(1000,_)] (λ(i,bq,cq)=>[(6,.bK 59 bq (outA (sortA l) i).length cq),(16,.d (dI i))]) (λ(i,bq,cq)=>[(59,rowA bq cq (outA (sortA l) i))]) (λ(i,bq,cq)=>i<=l.length) (λ(i,bq,cq)=>l.length-i) (0,0,0) (.cons (knR rfl) (.cons (BO rfl) (.cons (BH rfl) (.cons (dA rfl) .nil)))) (.cons (tJ rfl) .nil) ⟨Nat.zero_le _,.jm,.cons rfl .nil⟩ ?_
 rintro⟨i,bq,cq⟩ h1
 have h1:i<=l.length:=h1;have hlo:=Jy (sortA l) i;have hzo:=TY hzS i;refine AW.sg hE rfl (bD rfl rfl rfl (OL.nil (AW.seq (AW.cond rfl (λh17=>?_) (λh17=>?_)))))
 .try simp only[fG] at h17
  refine AW.skip (AW.seq (AW.block (AW.sg hE rfl (je sl.bZ rfl rfl (by omega) (GZ ag.mQ (by decide) rfl rfl (qZ (show i<(sortA l).length by omega)) (vs:=pR ((sortA l).getD i default)) rfl (au rfl) (al z.mQ rfl λb8=>(eG sz.mQ rfl rfl rfl rfl rfl (au rfl) (cells2:=[_,_,_,_,_,_,_,_,_,_,_]) rfl ?_)))))))
  refine OL.nil (AW.seq (AW.sg hE rfl (jl rfl (Qx sl.bZ rfl rfl (aG rfl (OL.nil (AW.seq ?_)))))));have hxz:=hzS ((sortA l).getD i default) (getD_mem (by omega) default)
  refine AW.dg 1 [0,1,2,3,4,5,6,7,8,9,10,11] ak hE rfl (by kernel_rfl) (OI.aP (os:=[_,_,_,_,_,_,_,_,_,_,_,_]) rfl ?_)
  refine aj rfl (kS rfl rfl rfl (aj rfl (OL.split 24 rfl (λhn=>?_) (λhn=>?_))))
  .have hn:0<(outA (sortA l) i).length:=by have:=mX hn;omega
   have hyz:=hzo ((outA (sortA l) i).getD ((outA (sortA l) i).length-1) default) (getD_mem (by omega) default)
   refine OL.yes rfl (jl rfl (OL.yes rfl (aj rfl (OL.yes rfl (bo rfl rfl (oO (c:=(((outA (sortA l) i).length-1:Nat):Int)) (by omega) (wrap_i64 (by omega))) (OL.yes rfl (je sl.bZ rfl rfl (by omega) ?_)))))))
   refine OL.yes rfl (GZ ag.mQ (by decide) rfl rfl (qZ (show (outA (sortA l) i).length-1<(outA (sortA l) i).length by omega)) (vs:=pR ((outA (sortA l) i).getD ((outA (sortA l) i).length-1) default)) rfl (au rfl) (OL.yes rfl (aQ ag.mQ rfl rfl (vs:=[_,_,_,_,_,_,_,_,_,_,_]) rfl (au rfl) (OL.yes rfl (bP rfl vL (ay3 (x:=((outA (sortA l) i).getD ((outA (sortA l) i).length-1) default)) (y:=((sortA l).getD i default))) (OL.yes rfl (fE rfl rfl rfl ?_)))))))
   refine nJ rfl rfl (OL.nil (AW.cond rfl (λhc=>?_) (λhc=>?_)))
   .have hc:oH ((outA (sortA l) i).getD ((outA (sortA l) i).length-1) default) ((sortA l).getD i default)=0:=mX hc;refine AW.seq (AW.dg 1 [0,1,2,3,4,5,6,7,8,9,10,11,12,13,14,15] ak hE rfl (by kernel_rfl) (OI.aP (os:=[_,_,_,_,_,_,_,_,_,_,_,_,_,_,_,_]) rfl ?_))
    refine jl rfl (aj rfl (bo rfl rfl (oO (c:=(((outA (sortA l) i).length-1:Nat):Int)) (by omega) (wrap_i64 (by omega))) (iR ag.Ring rfl (vs:=[_,_]) rfl (au rfl) (jl rfl (aj rfl (bo rfl rfl (oO (c:=(((outA (sortA l) i).length-1:Nat):Int)) (by omega) (wrap_i64 (by omega))) (je sl.bZ rfl rfl (by omega) ?_)))))))
    refine faE fd.qG rfl rfl ?_;refine GZ ag.ay (by decide) rfl rfl (qZ (show (outA (sortA l) i).length-1<(outA (sortA l) i).length by omega)) (vs:=[.d (dB (iD ((outA (sortA l) i).getD ((outA (sortA l) i).length-1) default).q).neg),.d (aI (iD ((outA (sortA l) i).getD ((outA (sortA l) i).length-1) default).q).num),.d (aI (iD ((outA (sortA l) i).getD ((outA (sortA l) i).length-1) default).q).den),.d (dI 0),.d (dB false),.d (dU 0),.d (.sl []),.d (.sl [])]) rfl (au rfl) ?_
    refine aV fd.qG rfl rfl (aQ ag.ay rfl rfl (vs:=[_,_,_,_,_,_,_,_]) rfl (au rfl) (bP rfl vL (Z7 (p:=((outA (sortA l) i).getD ((outA (sortA l) i).length-1) default).q) (q:=((sortA l).getD i default).q) (by omega) (by omega)) (je sl.bZ rfl rfl (by omega) (faE fd.qG rfl rfl ?_))))
    refine stF sz.ay rfl (d:=dW (((outA (sortA l) i).getD ((outA (sortA l) i).length-1) default).q+((sortA l).getD i default).q)) MK rfl rfl (qZ (show (outA (sortA l) i).length-1<(outA (sortA l) i).length by omega)) (by decide) (el2:=jv { ((outA (sortA l) i).getD ((outA (sortA l) i).length-1) default) with q:=((outA (sortA l) i).getD ((outA (sortA l) i).length-1) default).q+((sortA l).getD i default).q }) rfl (es2:=((outA (sortA l) i).set ((outA (sortA l) i).length-1) { ((outA (sortA l) i).getD ((outA (sortA l) i).length-1) default) with q:=((outA (sortA l) i).getD ((outA (sortA l) i).length-1) default).q+((sortA l).getD i default).q }).map jv) (by rw[List.map_set]) ?_
    refine OL.nil (AW.exit (AW.rg hE rfl (aJ rfl rfl (by omega) (aj rfl (OL.nil ?_)))))
    exact AW.again (x:=(i,bq,cq)) (i+1,bq,cq) (by (simp only[];omega)) ⟨by omega,Knows.app .J5 (.cons (by rw[vM (by omega),jg,if_pos ⟨hn,hc⟩,List.length_set];exact bV.refl _) .dw),dP.app (.cons rfl .nil) (.cons (by rw[vM (by omega),jg,if_pos ⟨hn,hc⟩];rfl) .nil)⟩
   .have hc:¬ oH ((outA (sortA l) i).getD ((outA (sortA l) i).length-1) default) ((sortA l).getD i default)=0:=oN hc;refine AW.skip (AW.seq (AW.dg 1 [0,1,2,3,4,5,6,7] ak hE rfl (by kernel_rfl) (OI.aP (os:=[_,_,_,_,_,_,_,_]) rfl ?_)))
    refine iR ag.Ring rfl (vs:=[_,_]) rfl (au rfl) (aV fd.qG rfl rfl (aQ ag.ay rfl rfl (vs:=[_,_,_,_,_,_,_,_]) rfl (au rfl) (iR ag.Ring rfl (vs:=[_,_]) rfl (au rfl) (bP rfl vL (Z5) (bP rfl vL (Z7 (p:=((sortA l).getD i default).q) (q:=0) (by omega) z0K) ?_)))))
    rw[Rat.add_zero];refine aV fd.qG rfl rfl (eG sz.ay rfl rfl rfl rfl rfl (au rfl) (cells2:=[_,_,_,_,_,_,_,_,_,_,_]) rfl (OL.nil (AW.rg hE rfl (jl rfl (aQ ag.mQ rfl rfl (vs:=[_,_,_,_,_,_,_,_,_,_,_]) rfl (au rfl) (xG (y:=jv ((sortA l).getD i default)) sl.bZ wO rfl (by decide) ?_))))))
    refine Am sl.bZ rfl rfl rfl (by rw[dL]) (VC.d _) (λy hy=>by rw[lV hy];rfl) (by simp;omega) (by simp;omega) (.inr rfl) (ys:=((outA (sortA l) i)++[((sortA l).getD i default)]).map jv) (by rw[List.map_append];rfl) (n2:=(outA (sortA l) i).length+1) rfl λb2 c2=>?_
    refine uf rfl (OL.nil (AW.rg hE rfl (aJ rfl rfl (by omega) (aj rfl (OL.nil ?_)))))
    exact AW.again (x:=(i,bq,cq)) (i+1,b2,c2) (by (simp only[];omega)) ⟨by omega,Knows.app .J5 (.cons (by rw[vM (by omega),jg,if_neg (λe=>hc e.2),jd];exact bV.refl _) .dw),dP.app (.cons rfl .nil) (.cons (by rw[vM (by omega),jg,if_neg (λe=>hc e.2)];rfl) .nil)⟩
  .have hn:¬ 0<(outA (sortA l) i).length:=λe=>oN hn (by omega)
   refine OL.nd rfl (OL.nd rfl (OL.nd rfl (OL.nd rfl (OL.nd rfl (OL.nd rfl (OL.nd rfl (OL.nd rfl ?_)))))));refine oI rfl rfl (OL.nil (pW rfl ?_));refine AW.skip (AW.seq (AW.dg 1 [0,1,2,3,4,5,6,7] ak hE rfl (by kernel_rfl) (OI.aP (os:=[_,_,_,_,_,_,_,_]) rfl ?_)))
   refine iR ag.Ring rfl (vs:=[_,_]) rfl (au rfl) (aV fd.qG rfl rfl (aQ ag.ay rfl rfl (vs:=[_,_,_,_,_,_,_,_]) rfl (au rfl) (iR ag.Ring rfl (vs:=[_,_]) rfl (au rfl) (bP rfl vL (Z5) (bP rfl vL (Z7 (p:=((sortA l).getD i default).q) (q:=0) (by omega) z0K) ?_)))))
   rw[Rat.add_zero];refine aV fd.qG rfl rfl (eG sz.ay rfl rfl rfl rfl rfl (au rfl) (cells2:=[_,_,_,_,_,_,_,_,_,_,_]) rfl (OL.nil (AW.rg hE rfl (jl rfl (aQ ag.mQ rfl rfl (vs:=[_,_,_,_,_,_,_,_,_,_,_]) rfl (au rfl) (xG (y:=jv ((sortA l).getD i default)) sl.bZ wO rfl (by decide) ?_))))))
   refine Am sl.bZ rfl rfl rfl (by rw[dL]) (VC.d _) (λy hy=>by rw[lV hy];rfl) (by simp;omega) (by simp;omega) (.inr rfl) (ys:=((outA (sortA l) i)++[((sortA l).getD i default)]).map jv) (by rw[List.map_append];rfl) (n2:=(outA (sortA l) i).length+1) rfl λb2 c2=>?_
   refine uf rfl (OL.nil (AW.rg hE rfl (aJ rfl rfl (by omega) (aj rfl (OL.nil ?_)))))
   exact AW.again (x:=(i,bq,cq)) (i+1,b2,c2) (by (simp only[];omega)) ⟨by omega,Knows.app .J5 (.cons (by rw[vM (by omega),jg,if_neg (λe=>hn e.1),jd];exact bV.refl _) .dw),dP.app (.cons rfl .nil) (.cons (by rw[vM (by omega),jg,if_neg (λe=>hn e.1)];rfl) .nil)⟩
 .try simp only[fG] at h17
  refine AW.exit (AW.seq ?_);obtain rfl:i=l.length:=by omega
  have ho:(outA (sortA l) l.length).filter (λx=>!decide (x.q=0))=dF l:=by
   unfold dF UF;rw[FO (by omega)]
   congr 1;funext x;by_cases hx:x.q=0 <;> simp[hx]
  refine AW.ZI (by rw[hE];rfl) (SL.jK (jl rfl (OL.nil ?_)))
  refine SL.jK (mkF (vs:=[_]) rfl (OL.nil ?_));refine SL.G6 rfl (SO.bm4 (id:=59) (b:=bq) (n:=(outA (sortA l) l.length).length) (c:=cq) (es:=(outA (sortA l) l.length).map jv) (ZJ:=λs=>[s,.fn F.o7 [Jw]]) (show 63<E.n by rw[hE];exact Nat.le_of_ble_eq_true (by rfl)) rfl rfl (.cons bV.bK .dw) (aP9 (l:=(outA (sortA l) l.length)) (p:=λx=>decide (x.q=0)) (λx hx=>bd5 (Nat.le_trans (hzo x hx) (by omega))) rfl (by omega)) λb63 c63=>?_)
  refine SL.jK (uf rfl (OL.nil ?_));rw[ho];refine AW.freeze 59 rfl (AW.to [(4,.d (iL (dF l)))] [] (.cons (dM (by rw[dL]) (by rfl)) .nil) .nil ?_)
  exact AW.ret (aT.r ⟨_,.tmp rfl .nil,.le vR⟩)
abbrev rAu (a:Au):V:=.ref [dI 1,.sl [],dI a.sym,dI a.st,lC a.ini,lC a.fin,iL a.aB]
theorem bd7 {l:List Rat}{f:Nat}{cap:V}{p:Rat->Bool}(hf:∀ x,x ∈ l->ai P f [vW x,cap] (.d (dB (p x))))(nl:l.length<=1099511627776):ai P F.iP [.d (lC l),.fn f [cap]] (.d (dI (Je p l))):=by
 refine ai.intro fn.iP (by rfl) (by rfl) (au (by rfl)) λE hE=>(AW.sg hE rfl (aG rfl (OL.nil (AW.seq (AW.sg hE rfl (aj rfl (fO sl.aS rfl rfl ?_)))))))
 refine aj rfl (OL.nil (AW.block ?_));refine AW.aX (α:=Nat) [(0,_),(1,_),(7,_)] [] (λi=>[(8,.d (dI i))]) (λi=>[]) (λi=>i<=l.length/\∀ j,j<i->p (l.getD j 0)=false) (λi=>l.length-i) 0 (.cons (dA rfl) (.cons (N7 rfl) (.cons (dA rfl) .nil))) .nil ⟨⟨Nat.zero_le _,λj hj=>by omega⟩,.dw,.nil⟩ ?_
 rintro i ⟨h1,h2⟩
 refine AW.sg hE rfl (bD rfl rfl rfl (OL.nil (AW.seq (AW.cond rfl (λh9=>?_) (λh9=>?_)))))
 .try simp only[fG] at h9
  refine AW.skip (AW.seq (AW.block (AW.sg hE rfl (aj rfl (aG rfl (OL.nil (AW.sg hE rfl ?_)))))));refine Qv rfl (aj rfl (aj rfl (fD sl.aS 0 rfl rfl (by omega) rfl rfl (iR ag.ay rfl (vs:=[_,_,_,_,_,_,_,_]) rfl (au rfl) (bP rfl .jm (hf (l.getD i 0) (getD_mem (by omega) _)) (OL.nil (AW.cond rfl (λh16=>?_) (λh16=>?_))))))))
  .have h16:=h16;exact AW.sg hE rfl (aj rfl (aG rfl (OL.nil (AW.ret (aT.r ⟨_,.tmp rfl .nil,.le (bV.int ((Dy (by omega) 0 h16 h2).symm))⟩)))))
  .have h16:=h16;refine AW.skip (AW.rg hE rfl (aJ rfl rfl (by omega) (aj rfl (OL.nil ?_))))
   exact AW.again (x:=i) (i+1) (by omega) ⟨⟨by omega,λj hj=>by rcases Nat.lt_or_ge j i with h|h;exact h2 j h;obtain rfl:j=i:=(by omega);exact h16⟩,Knows.app .yI .dw,.nil⟩
 .try simp only[fG] at h9
  exact AW.exit (AW.sg hE rfl (aG rfl (OL.nil (AW.ret (aT.r ⟨_,.tmp rfl .nil,.le (bV.int ((Gf 0 λj hj=>h2 j (by omega)).symm))⟩)))))
theorem ai4 {l:List Rat}{f:Nat}{cap:V}{p:Rat->Bool}(hf:∀ x,x ∈ l->ai P f [vW x,cap] (.d (dB (p x))))(nl:l.length<=1099511627776):ai P F.gX [.d (lC l),.fn f [cap]] (.d (dB (l.any p))):=by
 refine ai.intro fn.gX (by rfl) (by rfl) (au (by rfl)) λE hE=>(AW.sg hE rfl (aG rfl (OL.nil (AW.sg hE rfl (aj rfl (Qv rfl (bP rfl vL (bd7 hf nl) ?_)))))))
 exact tH rfl rfl rfl (aG rfl (OL.nil (AW.ret (aT.r ⟨_,.tmp rfl .nil,.le (bV.bool (Va p l))⟩))))
theorem ai5 {q:Rat}(hz:sz q<=68719476736):ai P F.lq [vW q,Jw] (.d (dB false)):=by
 refine ai.intro fn.lq (by rfl) (by rfl) (au (by rfl)) λE hE=>(AW.sg hE rfl (iG rfl rfl λb2=>(aG rfl (OL.nil (AW.sg hE rfl (iR ag.Ring rfl (vs:=[_,_]) rfl (au rfl) (aQ ag.ay rfl rfl (vs:=[_,_,_,_,_,_,_,_]) rfl (au rfl) ?_)))))))
 exact bP rfl .jm (Ye hz) (nt rfl (aG rfl (OL.nil (AW.ret (aT.r ⟨_,.tmp rfl .nil,.le vR⟩)))))
theorem VU {l:List Rat}(hz:∀ x,x ∈ l->sz x<=68719476736)(nl:l.length<=1099511627776):ai P F.qY [jG,.d (lC l)] (.d (dB true)):=by
 refine ai.intro fn.qY (by rfl) (by rfl) (au (by rfl)) λE hE=>(AW.sg hE rfl (iG rfl rfl λb2=>(aG rfl (OL.nil (AW.seq (AW.BP 2 [dI 1,.sl []] rfl (VCs.UH [dI 1,.sl []]) (AW.to [(1,.d (lC l)),(2,Jw),(4,.d (dB false))] [] (.cons vR (.cons (aC (show V.Xq 2 b2 [dI 1,.sl []] (.ptr 2 b2 0)=Jw from E8)) .dw)) .nil ?_)))))))
 refine AW.rg hE rfl (aj rfl (mkF (vs:=[_]) rfl (bP rfl vL (ai4 (l:=l) (f:=F.lq) (cap:=Jw) (p:=λ_=>false) (λx hx=>ai5 (hz x hx)) nl) ?_)));rw[any_false λx _=>rfl];exact nt rfl (aG rfl (OL.nil (AW.ret (aT.r ⟨_,.tmp rfl .nil,.le vR⟩))))
theorem VW {a:Au}{v:Nat}(hv:v<a.st):ai P F.qA [.d (dI v),rAu a] (.d (dB true)):=by
 refine ai.intro fn.qA (by rfl) (by rfl) (au (by rfl)) λE hE=>(AW.sg hE rfl (aG rfl (OL.nil (AW.sg hE rfl (aj rfl (tH rfl rfl (c:=true) (by exact decide_eq_true (by omega)) (aj rfl ?_)))))))
 refine OL.yes rfl (aj rfl (OL.yes rfl (Qw fd.jf rfl rfl (OL.yes rfl (jb ce.int rfl (OL.yes rfl (bD rfl rfl (c:=true) (by exact decide_eq_true (by omega)) ?_)))))))
 exact nJ rfl rfl (aG rfl (OL.nil (AW.ret (aT.r ⟨_,.tmp rfl .nil,.le vR⟩))))
theorem aQ1 {a:Au}{x:bM}(hx:x.f<a.st/\x.t<a.st/\1<=x.l/\x.l<=a.sym)(hz:sz x.q<=68719476736):ai P F.sQ [KE x,uY a] (.d (dB true)):=by
 refine ai.intro fn.sQ (by rfl) (by rfl) (au (by rfl)) λE hE=>(AW.sg hE rfl (iG rfl rfl λb2=>(iG rfl rfl λb3=>(aG rfl (OL.nil (AW.seq (AW.BP 3 [dI 1,.sl [],dI a.sym,dI a.st,lC a.ini,lC a.fin,iL a.aB] rfl (VCs.UH [dI 1,.sl [],dI a.sym,dI a.st,lC a.ini,lC a.fin,iL a.aB]) ?_)))))))
 refine AW.to [(2,.ptr 2 b2 0),(3,rAu a),(4,.d (dB false))] [(2,.box b2 T.mQ (pR x))] (.cons vR (.cons (aC (show V.Xq 3 b3 [dI 1,.sl [],dI a.sym,dI a.st,lC a.ini,lC a.fin,iL a.aB] (.ptr 3 b3 0)=rAu a from E8)) .dw)) (.cons rfl .nil) ?_
 refine AW.rg hE rfl (mkF (vs:=[_]) rfl (asF rfl (OL.nil (AW.sg hE rfl (Qv rfl (aV fd.Ff rfl rfl (aA ce.int rfl rfl rfl ?_)))))));refine bP rfl vL (VW (a:=a) (v:=x.f) hx.1) (aj rfl (OL.yes rfl (Qv rfl (OL.yes rfl (aV fd.Cj rfl rfl (OL.yes rfl (aA ce.int rfl rfl rfl ?_)))))));refine OL.yes rfl (bP rfl vL (VW (a:=a) (v:=x.t) hx.2.1) (nJ rfl rfl (aj rfl (OL.yes rfl (aV fd.Bj rfl rfl (OL.yes rfl (aA ce.int rfl rfl rfl ?_)))))));refine OL.yes rfl (tH rfl rfl (c:=true) (by exact decide_eq_true (by omega)) (nJ rfl rfl (aj rfl (OL.yes rfl (aV fd.Bj rfl rfl (OL.yes rfl (aA ce.int rfl rfl rfl ?_)))))))
 refine OL.yes rfl (Qw fd.kZ rfl rfl (OL.yes rfl (jb ce.int rfl (OL.yes rfl (Aw rfl rfl (c:=true) (by exact decide_eq_true (by omega)) (nJ rfl rfl (aj rfl ?_)))))))
 refine OL.yes rfl (Qw fd.gu rfl rfl (OL.yes rfl (iR ag.Ring rfl (vs:=[_,_]) rfl (au rfl) (OL.yes rfl (aV fd.qG rfl rfl (OL.yes rfl (aQ ag.ay rfl rfl (vs:=[_,_,_,_,_,_,_,_]) rfl (au rfl) ?_)))))));exact OL.yes rfl (bP rfl .jm (Ye hz) (nJ rfl rfl (aG rfl (OL.nil (AW.ret (aT.r ⟨_,.tmp rfl .nil,.le vR⟩))))))
theorem aQ2 {a:Au}{x:bM}(hx:x.f<a.st/\x.t<a.st/\1<=x.l/\x.l<=a.sym)(hz:sz x.q<=68719476736):ai P F.nO [KE x,rAu a] (.d (dB false)):=by
 refine ai.intro fn.nO (by rfl) (by rfl) (au (by rfl)) λE hE=>(AW.sg hE rfl (iG rfl rfl λb2=>(aG rfl (OL.nil (AW.sg hE rfl (aQ ag.mQ rfl rfl (vs:=[_,_,_,_,_,_,_,_,_,_,_]) rfl (au rfl) (iR ag.Auto rfl (vs:=[_,_,_,_,_,_,_]) rfl (au rfl) ?_)))))))
 exact bP rfl .jm (aQ1 hx hz) (nt rfl (aG rfl (OL.nil (AW.ret (aT.r ⟨_,.tmp rfl .nil,.le vR⟩)))))
end Go.Proofs.YtanlenlmihoiiaaGreatDoor
namespace Go.AL
open Go Go.BigFrame
theorem VX {f:Nat->Rat}{C:Nat}:∀ {n:Nat},(∀ i,i<n->sz (f i)<=C)->sz (aW f n)<=n*(C+1)+1
 | 0,_=>by rw[aW,fH];omega
 | n+1,h=>by
  have h1:=VX (f:=f) (C:=C) (n:=n) λi hi=>h i (by omega)
  have h2:=h n (by omega)
  have h3:=zQ (aW f n) (f n);rw[aW,Nat.succ_mul];omega
theorem OY {f:Nat->Rat}{C n:Nat}(hn:n<=6)(h:∀ i,sz (f i)<=C):sz (aW f n)<=6*(C+1)+1:=by
 have h1:=VX (f:=f) (n:=n) λi _=>h i;have h2:=Nat.mul_le_mul_right (C+1) hn;omega
structure bQ.Sz (m:bQ) (e:Nat):Prop where
 n6:m.n<=6
 k2:m.k<=4
 e1:1<=e
 e24:e<=24
 ini:∀ i,sz (m.ini.getD i 0)<=e
 fin:∀ i,sz (m.fin.getD i 0)<=e
 ent:∀ s i j,sz (iU m s i j)<=e
def pU (m:bQ)(v:List Rat)(s i j:Nat):List Rat:=(List.range m.n).map λc=>aW (λa=>v.getD a 0*iU m s a c) (if c<j then i+1 else i)
section
variable {m:bQ}{v:List Rat}{s i j c e S:Nat}{w:List Int}
theorem zk (m:bQ)(v:List Rat)(s i j:Nat):(pU m v s i j).length=m.n:=by simp[pU]
theorem Rf (hc:c<m.n):(pU m v s i j).getD c 0=aW (λa=>v.getD a 0*iU m s a c) (if c<j then i+1 else i):=aO _ _ hc
theorem Yi:pU m v s 0 0=(List.range m.n).map λ_=>(0:Rat):=by
 unfold pU;exact List.map_congr_left λc _=>by rw[if_neg (by omega)];rfl
theorem ai6:pU m v s i m.n=pU m v s (i+1) 0:=by
 unfold pU;exact List.map_congr_left λc hc=>by rw[if_pos (List.mem_range.1 hc),if_neg (by omega)]
theorem Qh (h:v.getD i 0=0):pU m v s (i+1) 0=pU m v s i 0:=by
 unfold pU;exact List.map_congr_left λc _=>by rw[if_neg (by omega),if_neg (by omega),aW,h,Rat.zero_mul,Rat.add_zero]
theorem ai7:pU m v s m.n 0=stepM m v s:=by
 unfold pU stepM;exact List.map_congr_left λc _=>by rw[if_neg (by omega)]
theorem Rh (hj:j<m.n):(pU m v s i j).set j ((pU m v s i j).getD j 0+v.getD i 0*iU m s i j)=pU m v s i (j+1):=by
 rw[Rf hj,if_neg (Nat.lt_irrefl _)];refine List.ext_getElem (by rw[List.length_set,zk,zk]) λc h1 h2=>?_
 rw[zk] at h2;rw[List.getElem_set];by_cases hcj:j=c
 .subst hcj;rw[if_pos rfl];simp only[pU,List.getElem_map,List.getElem_range];rw[if_pos (by omega),aW]
 .rw[if_neg hcj];simp only[pU,List.getElem_map,List.getElem_range];by_cases h:c<j
  .rw[if_pos h,if_pos (by omega)]
  .rw[if_neg h,if_neg (by omega)]
theorem Qi {l:List Rat}(j:Nat):l.set j (l.getD j 0)=l:=by
 refine List.ext_getElem (by rw[List.length_set]) λc h1 h2=>?_
 rw[List.getElem_set];by_cases hcj:j=c
 .subst hcj;rw[if_pos rfl,iO,lF h2];rfl
 .rw[if_neg hcj]
theorem Yj (hj:j<m.n)(h:iU m s i j=0):pU m v s i (j+1)=pU m v s i j:=by
 rw[<- Rh hj,h,Rat.mul_zero,Rat.add_zero,Qi]
theorem xu {l:List Rat}(h:l.length<=c):l.getD c 0=0:=by rw[iO,List.getElem?_eq_none h];rfl
theorem ay8 (z:m.Sz e)(hv:∀ a,sz (v.getD a 0)<=S)(hi:i+1<=6)(c:Nat):sz ((pU m v s i j).getD c 0)<=6*(S+e+1)+1:=by
 rcases Nat.lt_or_ge c m.n with hc|hc
 .rw[Rf hc];refine OY (by split <;> omega) λa=>?_
  have:=jS (v.getD a 0) (iU m s a c);have:=hv a;have:=z.ent s a c;omega
 .rw[xu (by rw[zk];exact hc),fH];omega
theorem ay9 (z:m.Sz e)(hv:∀ a,sz (v.getD a 0)<=S)(c:Nat):sz ((stepM m v s).getD c 0)<=6*(S+e+1)+1:=by
 rcases Nat.lt_or_ge c m.n with hc|hc
 .rw[pK hc];refine OY z.n6 λa=>?_;have:=jS (v.getD a 0) (iU m s a c);have:=hv a;have:=z.ent s a c;omega
 .rw[xu (by rw[CJ];exact hc),fH];omega
theorem Jz (z:m.Sz e):∀ (l:Nat) (w:List Int),w.length=l->∀ i,sz ((aZ m w).getD i 0)+e+1<=7 ^ l*(2*e+1)
 | 0,w,hw,i=>by
  rw[EQ hw];have:=z.ini i;show sz (m.ini.getD i 0)+e+1<=_
  omega
 | l+1,w,hw,i=>by
  obtain⟨u,x,rfl⟩:∃ u x,w=u++[x]:=⟨w.dropLast,w.getLast (λh=>by rw[h] at hw;cases hw),(List.dropLast_concat_getLast _).symm⟩
  rw[jd,kC] at hw;have hu:=Jz z l u (by omega)
  have hp:1<=7 ^ l:=Nat.one_le_pow _ _ (by decide)
  generalize hT:7 ^ l*(2*e+1)=T at hu;have hT1:2*e+1<=T:=by rw[<- hT];exact Nat.le_mul_of_pos_left _ hp
  have e1:=z.e1;have:=ay9 (v:=aZ m u) (s:=x.toNat-1) (S:=T-e-1) z (λa=>by have:=hu a;omega) i
  rw[iq,Nat.pow_succ,Nat.mul_comm (7 ^ l),Nat.mul_assoc,hT];omega
theorem mV (z:m.Sz e)(hw:w.length<=6)(i:Nat):sz ((aZ m w).getD i 0)<=5764801:=by
 have h:=Jz z w.length w rfl i;have h1:7 ^ w.length<=117649:=Nat.pow_le_pow_right (n:=7) (by decide) hw
 have h2:7 ^ w.length*(2*e+1)<=117649*49:=Nat.mul_le_mul h1 (by have:=z.e24;omega)
 omega
theorem VY (z:m.Sz e)(hw:w.length<=5)(i:Nat):sz ((aZ m w).getD i 0)<=823543:=by
 have h:=Jz z w.length w rfl i;have h1:7 ^ w.length<=16807:=Nat.pow_le_pow_right (n:=7) (by decide) hw
 have h2:7 ^ w.length*(2*e+1)<=16807*49:=Nat.mul_le_mul h1 (by have:=z.e24;omega)
 omega
theorem KH {u v:Nat->Rat}{S T n:Nat}(hn:n<=6)(hu:∀ i,sz (u i)<=S)(hv:∀ i,sz (v i)<=T):sz (mZ n u v)<=6*(S+T+1)+1:=by
 refine OY hn λi=>?_;have:=jS (u i) (v i);have:=hu i;have:=hv i;omega
theorem VZ (m:bQ)(s i j:Nat):iU (aU m) s i j=0 \/ ∃ a b,iU (aU m) s i j=iU m s a b:=by
 rcases Nat.lt_or_ge s m.k with hs|hs
 .rcases Nat.lt_or_ge i m.n with hi|hi
  .rcases Nat.lt_or_ge j m.n with hj|hj
   .exact .inr ⟨j,i,VE hs hi hj⟩
   .refine .inl ?_;unfold iU aU;refine xu (Nat.le_trans ?_ hj);rw[show (m.gV.map λM=>EH m.n λi j=>(M.getD j []).getD i 0).getD s []=EH m.n λi j=>((m.gV.getD s []).getD j []).getD i 0 by
     rw[iO,List.getElem?_map,lF hs,iO,lF hs];rfl]
    unfold EH;rw[aO _ _ hi,dL,List.length_range];exact Nat.le_refl _
  .refine .inl ?_;unfold iU aU;rw[show (m.gV.map λM=>EH m.n λi j=>(M.getD j []).getD i 0).getD s []=EH m.n λi j=>((m.gV.getD s []).getD j []).getD i 0 by
    rw[iO,List.getElem?_map,lF hs,iO,lF hs];rfl]
   unfold EH;rw[iO (i:=i),List.getElem?_eq_none (by rw[dL,List.length_range];exact hi)];rfl
 .refine .inl ?_;unfold iU aU;rw[iO (i:=s),List.getElem?_eq_none (by rw[dL];exact hs)];rfl
theorem bQ.Sz.turn (z:m.Sz e):(aU m).Sz e:=⟨z.n6,by rw[lg];exact z.k2,z.e1,z.e24,z.fin,z.ini,λs i j=>by
 rcases VZ m s i j with h|⟨a,b,h⟩
 .rw[h,fH];exact z.e1
 .rw[h];exact z.ent ..⟩
theorem aQ3 {L:List (List Int)}{u:List Int}(z:m.Sz e)(hu:u.length<=5)(hL:∀ l,l ∈ L->l.length<=5)(i:Nat):sz ((bG m L u).getD i 0)<=9882523:=by
 unfold bG;refine Jr _ (by decide) (λj=>?_) i
 unfold jW;have:=KH (u:=vf (aZ m u)) (v:=vf (aZ (aU m) (L.getD j []))) z.n6 (λi=>VY z hu i) (λi=>VY z.turn (by
  rcases Nat.lt_or_ge j L.length with h|h
  .exact hL _ (getD_mem h [])
  .rw[iO,List.getElem?_eq_none h];exact Nat.zero_le _) i)
 omega

/-
  M, chapters 23 and 24: sizes of the vectors of words; a step in parts.
-/
import Derived.Test.YtnjoncgnjdkaoaaGreatDoorKWkF
set_option linter.unusedVariables false
set_option linter.unusedSimpArgs false
namespace Go.Proofs.YtnjoncgnjdkaoaaGreatDoor
open Go Go.AL
def outA (S:List bH)(i:Nat):List bH:=(S.take i).foldl kz []
theorem uV {S:List bH}{i:Nat}(hi:i<S.length):outA S (i+1)=kz (outA S i) (S.getD i default):=Zx hi
theorem Ey {S:List bH}{i:Nat}(hi:S.length<=i):outA S i=S.foldl kz []:=by unfold outA;rw[List.take_of_length_le hi]
theorem Ig (S:List bH):∀ i,(outA S i).length<=i
 | 0=>Nat.le_refl _
 | i + 1 => by
  rcases Nat.lt_or_ge i S.length with h|h
  .rw[uV h];have:=WG (outA S i) (S.getD i default);have:=Ig S i;omega
  .rw[Ey (Nat.le_succ_of_le h),<- Ey h];have:=Ig S i;omega
theorem Ru {S:List bH}(hz:∀ x,x ∈ S->sz x.q<=134217728):∀ i,Zv i (outA S i)
 | 0=>λx hx=>by cases hx
 | i + 1 => by
  rcases Nat.lt_or_ge i S.length with h|h
  .rw[uV h];exact Zw (Ru hz i) (hz _ (getD_mem h default))
  .rw[Ey (Nat.le_succ_of_le h),<- Ey h];exact λx hx=>Nat.le_trans (Ru hz i x hx) (Nat.mul_le_mul_right _ (Nat.le_succ _))
set_option maxRecDepth 4000 in
set_option maxHeartbeats 1600000 in
theorem ak8 {l:List bH}(nl:l.length<=20)(hz:∀ x,x ∈ l->sz x.q<=134217728):aj P F.vI [l7,.d (oI l)] (.d (oI (dZ l))):=by
 have hS:(sortA l).length=l.length:=wW ..;have hzS:∀ x,x ∈ sortA l->sz x.q<=134217728:=λx hx=>hz x ((Gq l).mem_iff.1 hx);refine aj.intro fn.vI (by rfl) (by rfl) (aB (by rfl)) λE hE=>(AW.sg hE rfl (iI rfl rfl λb2=>(oK rfl (OL.nil (AW.seq (AW.Bq 2 [dI 1,.sl []] rfl (VCs.Sr [dI 1,.sl []]) (AW.to [(1,.d (oI l)),(2,Ie),(4,.mt)] [] (.cons vR (.cons (au (show V.Vq 2 b2 [dI 1,.sl []] (.ptr 2 b2 0)=Ie from Ec)) .bZ)) .nil ?_)))))))
 refine AW.rg hE rfl (ai rfl (clR rfl .bZ (aC1 (by omega)) rfl λb11 c11=>(tJ rfl (OL.nil (AW.seq (AW.rename 11 1000 rfl (AW.to [(2,Ie),(4,.mt),(5,.bF 1000 b11 l.length c11)] [(1000,rowA b11 c11 l)] (.cons vR (.cons vR (.cons bG.bF .nil))) (.cons rfl .nil) ?_)))))))
 refine AW.rg hE rfl (jq rfl (OL.tH (v:=.jS []) (.mk (args':=[.bF 1000 b11 l.length c11,.fn F.dF []]) rfl (.cons vR (.cons vR (.nil))) (dh (id:=1000) (blk:=rowA b11 c11 l) rfl) iT (Ur rfl nl)) (OL.nil (AW.sg hE rfl (oK rfl (OL.nil (AW.seq ?_)))))));refine AW.seq (AW.own 6 59 T.pO 11 rfl rfl (AW.rg hE rfl (jq rfl (G5 sl.dH rfl rfl (ai rfl (OL.nil (AW.block ?_)))))));refine AW.aV (α:=Nat × Nat × Nat) [(2,_),(4,_),(14,_),(15,_)] [(1000,_)] (λ(i,bq,cq)=>[(6,.bF 59 bq (outA (sortA l) i).length cq),(16,.d (dI i))]) (λ(i,bq,cq)=>[(59,rowA bq cq (outA (sortA l) i))]) (λ(i,bq,cq)=>i<=l.length) (λ(i,bq,cq)=>l.length-i) (0,0,0) (.cons (knR rfl) (.cons (Ea rfl) (.cons (yj rfl) (.cons (bK rfl) .nil)))) (.cons (lg rfl) .nil) ⟨Nat.zero_le _,.iq,.cons rfl .nil⟩ ?_
 rintro⟨i,bq,cq⟩ h1
 have h1:i<=l.length:=h1;have hlo:=Ig (sortA l) i;have hzo:=Ru hzS i;refine AW.sg hE rfl (aY rfl rfl rfl (OL.nil (AW.seq (AW.cond rfl (λh17=>?_) (λh17=>?_)))))
 .try simp only[dX] at h17
  refine AW.skip (AW.seq (AW.block (AW.sg hE rfl (iM sl.dH rfl rfl (by omega) (FK ag.pO (by decide) rfl rfl (oQ (show i<(sortA l).length by omega)) (vs:=lN ((sortA l).getD i default)) rfl (aB rfl) (al z.pO rfl λb8=>(eH sz.pO rfl rfl rfl rfl rfl (aB rfl) (cells2:=[_,_,_,_,_,_,_,_,_,_,_]) rfl ?_)))))))
  refine OL.nil (AW.seq (AW.sg hE rfl (jq rfl (G5 sl.dH rfl rfl (aF rfl (OL.nil (AW.seq ?_)))))));have hxz:=hzS ((sortA l).getD i default) (getD_mem (by omega) default)
  refine AW.dg 1 [0,1,2,3,4,5,6,7,8,9,10,11] ay hE rfl (by kernel_rfl) (OI.aK (os:=[_,_,_,_,_,_,_,_,_,_,_,_]) rfl ?_)
  refine ai rfl (iO rfl rfl rfl (ai rfl (OL.split 24 rfl (λhn=>?_) (λhn=>?_))))
  .have hn:0<(outA (sortA l) i).length:=by have:=lq hn;omega
   have hyz:=hzo ((outA (sortA l) i).getD ((outA (sortA l) i).length-1) default) (getD_mem (by omega) default)
   refine OL.yes rfl (jq rfl (OL.yes rfl (ai rfl (OL.yes rfl (bo rfl rfl (lQ (c:=(((outA (sortA l) i).length-1:Nat):Int)) (by omega) (wrap_i64 (by omega))) (OL.yes rfl (iM sl.dH rfl rfl (by omega) ?_)))))))
   refine OL.yes rfl (FK ag.pO (by decide) rfl rfl (oQ (show (outA (sortA l) i).length-1<(outA (sortA l) i).length by omega)) (vs:=lN ((outA (sortA l) i).getD ((outA (sortA l) i).length-1) default)) rfl (aB rfl) (OL.yes rfl (aO ag.pO rfl rfl (vs:=[_,_,_,_,_,_,_,_,_,_,_]) rfl (aB rfl) (OL.yes rfl (bJ rfl vL (ak3 (x:=((outA (sortA l) i).getD ((outA (sortA l) i).length-1) default)) (y:=((sortA l).getD i default))) (OL.yes rfl (dR rfl rfl rfl ?_)))))))
   refine oC rfl rfl (OL.nil (AW.cond rfl (λhc=>?_) (λhc=>?_)))
   .have hc:pF ((outA (sortA l) i).getD ((outA (sortA l) i).length-1) default) ((sortA l).getD i default)=0:=lq hc;refine AW.seq (AW.dg 1 [0,1,2,3,4,5,6,7,8,9,10,11,12,13,14,15] ay hE rfl (by kernel_rfl) (OI.aK (os:=[_,_,_,_,_,_,_,_,_,_,_,_,_,_,_,_]) rfl ?_))
    refine jq rfl (ai rfl (bo rfl rfl (lQ (c:=(((outA (sortA l) i).length-1:Nat):Int)) (by omega) (wrap_i64 (by omega))) (jH ag.Ring rfl (vs:=[_,_]) rfl (aB rfl) (jq rfl (ai rfl (bo rfl rfl (lQ (c:=(((outA (sortA l) i).length-1:Nat):Int)) (by omega) (wrap_i64 (by omega))) (iM sl.dH rfl rfl (by omega) ?_)))))))
    refine faE fd.uS rfl rfl ?_;refine FK ag.aA (by decide) rfl rfl (oQ (show (outA (sortA l) i).length-1<(outA (sortA l) i).length by omega)) (vs:=[.d (dB (fZ ((outA (sortA l) i).getD ((outA (sortA l) i).length-1) default).q).neg),.d (aH (fZ ((outA (sortA l) i).getD ((outA (sortA l) i).length-1) default).q).num),.d (aH (fZ ((outA (sortA l) i).getD ((outA (sortA l) i).length-1) default).q).den),.d (dI 0),.d (dB false),.d (dU 0),.d (.sl []),.d (.sl [])]) rfl (aB rfl) ?_
    refine aW fd.uS rfl rfl (aO ag.aA rfl rfl (vs:=[_,_,_,_,_,_,_,_]) rfl (aB rfl) (bJ rfl vL (PS (p:=((outA (sortA l) i).getD ((outA (sortA l) i).length-1) default).q) (q:=((sortA l).getD i default).q) (by omega) (by omega)) (iM sl.dH rfl rfl (by omega) (faE fd.uS rfl rfl ?_))))
    refine stF sz.aA rfl (d:=dW (((outA (sortA l) i).getD ((outA (sortA l) i).length-1) default).q+((sortA l).getD i default).q)) Nu rfl rfl (oQ (show (outA (sortA l) i).length-1<(outA (sortA l) i).length by omega)) (by decide) (el2:=jy { ((outA (sortA l) i).getD ((outA (sortA l) i).length-1) default) with q:=((outA (sortA l) i).getD ((outA (sortA l) i).length-1) default).q+((sortA l).getD i default).q }) rfl (es2:=((outA (sortA l) i).set ((outA (sortA l) i).length-1) { ((outA (sortA l) i).getD ((outA (sortA l) i).length-1) default) with q:=((outA (sortA l) i).getD ((outA (sortA l) i).length-1) default).q+((sortA l).getD i default).q }).map jy) (by rw[List.map_set]) ?_
    refine OL.nil (AW.exit (AW.rg hE rfl (aI rfl rfl (by omega) (ai rfl (OL.nil ?_)))))
    exact AW.again (x:=(i,bq,cq)) (i+1,bq,cq) (by (simp only[];omega)) ⟨by omega,Knows.app .Jz (.cons (by rw[uV (by omega),kz,if_pos ⟨hn,hc⟩,List.length_set];exact bG.refl _) .bZ),dw.app (.cons rfl .nil) (.cons (by rw[uV (by omega),kz,if_pos ⟨hn,hc⟩];rfl) .nil)⟩
   .have hc:¬ pF ((outA (sortA l) i).getD ((outA (sortA l) i).length-1) default) ((sortA l).getD i default)=0:=nS hc;refine AW.skip (AW.seq (AW.dg 1 [0,1,2,3,4,5,6,7] ay hE rfl (by kernel_rfl) (OI.aK (os:=[_,_,_,_,_,_,_,_]) rfl ?_)))
    refine jH ag.Ring rfl (vs:=[_,_]) rfl (aB rfl) (aW fd.uS rfl rfl (aO ag.aA rfl rfl (vs:=[_,_,_,_,_,_,_,_]) rfl (aB rfl) (jH ag.Ring rfl (vs:=[_,_]) rfl (aB rfl) (bJ rfl vL (PO) (bJ rfl vL (PS (p:=((sortA l).getD i default).q) (q:=0) (by omega) z0K) ?_)))))
    rw[Rat.add_zero];refine aW fd.uS rfl rfl (eH sz.aA rfl rfl rfl rfl rfl (aB rfl) (cells2:=[_,_,_,_,_,_,_,_,_,_,_]) rfl (OL.nil (AW.rg hE rfl (jq rfl (aO ag.pO rfl rfl (vs:=[_,_,_,_,_,_,_,_,_,_,_]) rfl (aB rfl) (zX (y:=jy ((sortA l).getD i default)) sl.dH Bg rfl (by decide) ?_))))))
    refine Ce sl.dH rfl rfl rfl (by rw[dJ]) (VC.d _) (λy hy=>by rw[lW hy];rfl) (by simp;omega) (by simp;omega) (.inr rfl) (ys:=((outA (sortA l) i)++[((sortA l).getD i default)]).map jy) (by rw[List.map_append];rfl) (n2:=(outA (sortA l) i).length+1) rfl λb2 c2=>?_
    refine tJ rfl (OL.nil (AW.rg hE rfl (aI rfl rfl (by omega) (ai rfl (OL.nil ?_)))))
    exact AW.again (x:=(i,bq,cq)) (i+1,b2,c2) (by (simp only[];omega)) ⟨by omega,Knows.app .Jz (.cons (by rw[uV (by omega),kz,if_neg (λe=>hc e.2),jG];exact bG.refl _) .bZ),dw.app (.cons rfl .nil) (.cons (by rw[uV (by omega),kz,if_neg (λe=>hc e.2)];rfl) .nil)⟩
  .have hn:¬ 0<(outA (sortA l) i).length:=λe=>nS hn (by omega)
   refine OL.nd rfl (OL.nd rfl (OL.nd rfl (OL.nd rfl (OL.nd rfl (OL.nd rfl (OL.nd rfl (OL.nd rfl ?_)))))));refine kL rfl rfl (OL.nil (qW rfl ?_));refine AW.skip (AW.seq (AW.dg 1 [0,1,2,3,4,5,6,7] ay hE rfl (by kernel_rfl) (OI.aK (os:=[_,_,_,_,_,_,_,_]) rfl ?_)))
   refine jH ag.Ring rfl (vs:=[_,_]) rfl (aB rfl) (aW fd.uS rfl rfl (aO ag.aA rfl rfl (vs:=[_,_,_,_,_,_,_,_]) rfl (aB rfl) (jH ag.Ring rfl (vs:=[_,_]) rfl (aB rfl) (bJ rfl vL (PO) (bJ rfl vL (PS (p:=((sortA l).getD i default).q) (q:=0) (by omega) z0K) ?_)))))
   rw[Rat.add_zero];refine aW fd.uS rfl rfl (eH sz.aA rfl rfl rfl rfl rfl (aB rfl) (cells2:=[_,_,_,_,_,_,_,_,_,_,_]) rfl (OL.nil (AW.rg hE rfl (jq rfl (aO ag.pO rfl rfl (vs:=[_,_,_,_,_,_,_,_,_,_,_]) rfl (aB rfl) (zX (y:=jy ((sortA l).getD i default)) sl.dH Bg rfl (by decide) ?_))))))
   refine Ce sl.dH rfl rfl rfl (by rw[dJ]) (VC.d _) (λy hy=>by rw[lW hy];rfl) (by simp;omega) (by simp;omega) (.inr rfl) (ys:=((outA (sortA l) i)++[((sortA l).getD i default)]).map jy) (by rw[List.map_append];rfl) (n2:=(outA (sortA l) i).length+1) rfl λb2 c2=>?_
   refine tJ rfl (OL.nil (AW.rg hE rfl (aI rfl rfl (by omega) (ai rfl (OL.nil ?_)))))
   exact AW.again (x:=(i,bq,cq)) (i+1,b2,c2) (by (simp only[];omega)) ⟨by omega,Knows.app .Jz (.cons (by rw[uV (by omega),kz,if_neg (λe=>hn e.1),jG];exact bG.refl _) .bZ),dw.app (.cons rfl .nil) (.cons (by rw[uV (by omega),kz,if_neg (λe=>hn e.1)];rfl) .nil)⟩
 .try simp only[dX] at h17
  refine AW.exit (AW.seq ?_);obtain rfl:i=l.length:=by omega
  have ho:(outA (sortA l) l.length).filter (λx=>!decide (x.q=0))=dZ l:=by
   unfold dZ Sj;rw[Ey (by omega)]
   congr 1;funext x;by_cases hx:x.q=0 <;> simp[hx]
  refine AW.XQ (by rw[hE];rfl) (SL.fM (jq rfl (OL.nil ?_)))
  refine SL.fM (mkF (vs:=[_]) rfl (OL.nil ?_));refine SL.IY rfl (SO.a09 (id:=59) (b:=bq) (n:=(outA (sortA l) l.length).length) (c:=cq) (es:=(outA (sortA l) l.length).map jy) (XR:=λs=>[s,.fn F.o8 [Ie]]) (show 63<E.n by rw[hE];exact Nat.le_of_ble_eq_true (by rfl)) rfl rfl (.cons bG.bF .bZ) (aC0 (l:=(outA (sortA l) l.length)) (p:=λx=>decide (x.q=0)) (λx hx=>aQ8 (Nat.le_trans (hzo x hx) (by omega))) rfl (by omega)) λb63 c63=>?_)
  refine SL.fM (tJ rfl (OL.nil ?_));rw[ho];refine AW.freeze 59 rfl (AW.to [(4,.d (oI (dZ l)))] [] (.cons (dL (by rw[dJ]) (by rfl)) .nil) .nil ?_)
  exact AW.ret (aP.r ⟨_,.tmp rfl .nil,.le vR⟩)
abbrev rAu (a:Au):V:=.ref [dI 1,.sl [],dI a.sym,dI a.st,wG a.ini,wG a.fin,oI a.aS]
theorem aR0 {l:List Rat}{f:Nat}{cap:V}{p:Rat->Bool}(hf:∀ x,x ∈ l->aj P f [vW x,cap] (.d (dB (p x))))(nl:l.length<=1099511627776):aj P F.iy [.d (wG l),.fn f [cap]] (.d (dI (Hl p l))):=by
 refine aj.intro fn.iy (by rfl) (by rfl) (aB (by rfl)) λE hE=>(AW.sg hE rfl (aF rfl (OL.nil (AW.seq (AW.sg hE rfl (ai rfl (fJ sl.aU rfl rfl ?_)))))))
 refine ai rfl (OL.nil (AW.block ?_));refine AW.aV (α:=Nat) [(0,_),(1,_),(7,_)] [] (λi=>[(8,.d (dI i))]) (λi=>[]) (λi=>i<=l.length/\∀ j,j<i->p (l.getD j 0)=false) (λi=>l.length-i) 0 (.cons (bK rfl) (.cons (LH rfl) (.cons (bK rfl) .nil))) .nil ⟨⟨Nat.zero_le _,λj hj=>by omega⟩,.bZ,.nil⟩ ?_
 rintro i ⟨h1,h2⟩
 refine AW.sg hE rfl (aY rfl rfl rfl (OL.nil (AW.seq (AW.cond rfl (λh9=>?_) (λh9=>?_)))))
 .try simp only[dX] at h9
  refine AW.skip (AW.seq (AW.block (AW.sg hE rfl (ai rfl (aF rfl (OL.nil (AW.sg hE rfl ?_)))))));refine Ky rfl (ai rfl (ai rfl (fO sl.aU 0 rfl rfl (by omega) rfl rfl (jH ag.aA rfl (vs:=[_,_,_,_,_,_,_,_]) rfl (aB rfl) (bJ rfl .iq (hf (l.getD i 0) (getD_mem (by omega) _)) (OL.nil (AW.cond rfl (λh16=>?_) (λh16=>?_))))))))
  .have h16:=h16;exact AW.sg hE rfl (ai rfl (aF rfl (OL.nil (AW.ret (aP.r ⟨_,.tmp rfl .nil,.le (bG.int ((CO (by omega) 0 h16 h2).symm))⟩)))))
  .have h16:=h16;refine AW.skip (AW.rg hE rfl (aI rfl rfl (by omega) (ai rfl (OL.nil ?_))))
   exact AW.again (x:=i) (i+1) (by omega) ⟨⟨by omega,λj hj=>by rcases Nat.lt_or_ge j i with h|h;exact h2 j h;obtain rfl:j=i:=(by omega);exact h16⟩,Knows.app .Ah .bZ,.nil⟩
 .try simp only[dX] at h9
  exact AW.exit (AW.sg hE rfl (aF rfl (OL.nil (AW.ret (aP.r ⟨_,.tmp rfl .nil,.le (bG.int ((ER 0 λj hj=>h2 j (by omega)).symm))⟩)))))
theorem Zy {l:List Rat}{f:Nat}{cap:V}{p:Rat->Bool}(hf:∀ x,x ∈ l->aj P f [vW x,cap] (.d (dB (p x))))(nl:l.length<=1099511627776):aj P F.gq [.d (wG l),.fn f [cap]] (.d (dB (l.any p))):=by
 refine aj.intro fn.gq (by rfl) (by rfl) (aB (by rfl)) λE hE=>(AW.sg hE rfl (aF rfl (OL.nil (AW.sg hE rfl (ai rfl (Ky rfl (bJ rfl vL (aR0 hf nl) ?_)))))))
 exact qY rfl rfl rfl (aF rfl (OL.nil (AW.ret (aP.r ⟨_,.tmp rfl .nil,.le (bG.bool (Tt p l))⟩))))
theorem Zz {q:Rat}(hz:sz q<=68719476736):aj P F.kN [vW q,Ie] (.d (dB false)):=by
 refine aj.intro fn.kN (by rfl) (by rfl) (aB (by rfl)) λE hE=>(AW.sg hE rfl (iI rfl rfl λb2=>(aF rfl (OL.nil (AW.sg hE rfl (jH ag.Ring rfl (vs:=[_,_]) rfl (aB rfl) (aO ag.aA rfl rfl (vs:=[_,_,_,_,_,_,_,_]) rfl (aB rfl) ?_)))))))
 exact bJ rfl .iq (WC hz) (nt rfl (aF rfl (OL.nil (AW.ret (aP.r ⟨_,.tmp rfl .nil,.le vR⟩)))))
theorem Us {l:List Rat}(hz:∀ x,x ∈ l->sz x<=68719476736)(nl:l.length<=1099511627776):aj P F.qR [l7,.d (wG l)] (.d (dB true)):=by
 refine aj.intro fn.qR (by rfl) (by rfl) (aB (by rfl)) λE hE=>(AW.sg hE rfl (iI rfl rfl λb2=>(aF rfl (OL.nil (AW.seq (AW.Bq 2 [dI 1,.sl []] rfl (VCs.Sr [dI 1,.sl []]) (AW.to [(1,.d (wG l)),(2,Ie),(4,.d (dB false))] [] (.cons vR (.cons (au (show V.Vq 2 b2 [dI 1,.sl []] (.ptr 2 b2 0)=Ie from Ec)) .bZ)) .nil ?_)))))))
 refine AW.rg hE rfl (ai rfl (mkF (vs:=[_]) rfl (bJ rfl vL (Zy (l:=l) (f:=F.kN) (cap:=Ie) (p:=λ_=>false) (λx hx=>Zz (hz x hx)) nl) ?_)));rw[any_false λx _=>rfl];exact nt rfl (aF rfl (OL.nil (AW.ret (aP.r ⟨_,.tmp rfl .nil,.le vR⟩))))
theorem Ut {a:Au}{v:Nat}(hv:v<a.st):aj P F.qm [.d (dI v),rAu a] (.d (dB true)):=by
 refine aj.intro fn.qm (by rfl) (by rfl) (aB (by rfl)) λE hE=>(AW.sg hE rfl (aF rfl (OL.nil (AW.sg hE rfl (ai rfl (qY rfl rfl (c:=true) (by exact decide_eq_true (by omega)) (ai rfl ?_)))))))
 refine OL.yes rfl (ai rfl (OL.yes rfl (Vp fd.mF rfl rfl (OL.yes rfl (iH ce.int rfl (OL.yes rfl (aY rfl rfl (c:=true) (by exact decide_eq_true (by omega)) ?_)))))))
 exact oC rfl rfl (aF rfl (OL.nil (AW.ret (aP.r ⟨_,.tmp rfl .nil,.le vR⟩))))
theorem aC2 {a:Au}{x:bH}(hx:x.f<a.st/\x.t<a.st/\1<=x.l/\x.l<=a.sym)(hz:sz x.q<=68719476736):aj P F.rY [Ib x,zL a] (.d (dB true)):=by
 refine aj.intro fn.rY (by rfl) (by rfl) (aB (by rfl)) λE hE=>(AW.sg hE rfl (iI rfl rfl λb2=>(iI rfl rfl λb3=>(aF rfl (OL.nil (AW.seq (AW.Bq 3 [dI 1,.sl [],dI a.sym,dI a.st,wG a.ini,wG a.fin,oI a.aS] rfl (VCs.Sr [dI 1,.sl [],dI a.sym,dI a.st,wG a.ini,wG a.fin,oI a.aS]) ?_)))))))
 refine AW.to [(2,.ptr 2 b2 0),(3,rAu a),(4,.d (dB false))] [(2,.box b2 T.pO (lN x))] (.cons vR (.cons (au (show V.Vq 3 b3 [dI 1,.sl [],dI a.sym,dI a.st,wG a.ini,wG a.fin,oI a.aS] (.ptr 3 b3 0)=rAu a from Ec)) .bZ)) (.cons rfl .nil) ?_
 refine AW.rg hE rfl (mkF (vs:=[_]) rfl (asF rfl (OL.nil (AW.sg hE rfl (Ky rfl (aW fd.zC rfl rfl (aG ce.int rfl rfl rfl ?_)))))));refine bJ rfl vL (Ut (a:=a) (v:=x.f) hx.1) (ai rfl (OL.yes rfl (Ky rfl (OL.yes rfl (aW fd.zD rfl rfl (OL.yes rfl (aG ce.int rfl rfl rfl ?_)))))));refine OL.yes rfl (bJ rfl vL (Ut (a:=a) (v:=x.t) hx.2.1) (oC rfl rfl (ai rfl (OL.yes rfl (aW fd.AY rfl rfl (OL.yes rfl (aG ce.int rfl rfl rfl ?_)))))));refine OL.yes rfl (qY rfl rfl (c:=true) (by exact decide_eq_true (by omega)) (oC rfl rfl (ai rfl (OL.yes rfl (aW fd.AY rfl rfl (OL.yes rfl (aG ce.int rfl rfl rfl ?_)))))))
 refine OL.yes rfl (Vp fd.qp rfl rfl (OL.yes rfl (iH ce.int rfl (OL.yes rfl (xN rfl rfl (c:=true) (by exact decide_eq_true (by omega)) (oC rfl rfl (ai rfl ?_)))))))
 refine OL.yes rfl (Vp fd.iZ rfl rfl (OL.yes rfl (jH ag.Ring rfl (vs:=[_,_]) rfl (aB rfl) (OL.yes rfl (aW fd.uS rfl rfl (OL.yes rfl (aO ag.aA rfl rfl (vs:=[_,_,_,_,_,_,_,_]) rfl (aB rfl) ?_)))))));exact OL.yes rfl (bJ rfl .iq (WC hz) (oC rfl rfl (aF rfl (OL.nil (AW.ret (aP.r ⟨_,.tmp rfl .nil,.le vR⟩))))))
theorem aC3 {a:Au}{x:bH}(hx:x.f<a.st/\x.t<a.st/\1<=x.l/\x.l<=a.sym)(hz:sz x.q<=68719476736):aj P F.nD [Ib x,rAu a] (.d (dB false)):=by
 refine aj.intro fn.nD (by rfl) (by rfl) (aB (by rfl)) λE hE=>(AW.sg hE rfl (iI rfl rfl λb2=>(aF rfl (OL.nil (AW.sg hE rfl (aO ag.pO rfl rfl (vs:=[_,_,_,_,_,_,_,_,_,_,_]) rfl (aB rfl) (jH ag.Auto rfl (vs:=[_,_,_,_,_,_,_]) rfl (aB rfl) ?_)))))))
 exact bJ rfl .iq (aC2 hx hz) (nt rfl (aF rfl (OL.nil (AW.ret (aP.r ⟨_,.tmp rfl .nil,.le vR⟩)))))
end Go.Proofs.YtnjoncgnjdkaoaaGreatDoor
namespace Go.AL
open Go Go.BigFrame
theorem Nw {f:Nat->Rat}{C:Nat}:∀ {n:Nat},(∀ i,i<n->sz (f i)<=C)->sz (aX f n)<=n*(C+1)+1
 | 0,_=>by rw[aX,gm];omega
 | n+1,h=>by
  have h1:=Nw (f:=f) (C:=C) (n:=n) λi hi=>h i (by omega)
  have h2:=h n (by omega)
  have h3:=Bd (aX f n) (f n);rw[aX,Nat.succ_mul];omega
theorem Ny {f:Nat->Rat}{C n:Nat}(hn:n<=6)(h:∀ i,sz (f i)<=C):sz (aX f n)<=6*(C+1)+1:=by
 have h1:=Nw (f:=f) (n:=n) λi _=>h i;have h2:=Nat.mul_le_mul_right (C+1) hn;omega
structure dP.Sz (m:dP) (e:Nat):Prop where
 n6:m.n<=6
 k2:m.k<=4
 e1:1<=e
 e24:e<=24
 ini:∀ i,sz (m.ini.getD i 0)<=e
 fin:∀ i,sz (m.fin.getD i 0)<=e
 ent:∀ s i j,sz (oq m s i j)<=e
def pJ (m:dP)(v:List Rat)(s i j:Nat):List Rat:=(List.range m.n).map λc=>aX (λa=>v.getD a 0*oq m s a c) (if c<j then i+1 else i)
section
variable {m:dP}{v:List Rat}{s i j c e S:Nat}{w:List Int}
theorem yQ (m:dP)(v:List Rat)(s i j:Nat):(pJ m v s i j).length=m.n:=by simp[pJ]
theorem PW (hc:c<m.n):(pJ m v s i j).getD c 0=aX (λa=>v.getD a 0*oq m s a c) (if c<j then i+1 else i):=aT _ _ hc
theorem WH:pJ m v s 0 0=(List.range m.n).map λ_=>(0:Rat):=by
 unfold pJ;exact List.map_congr_left λc _=>by rw[if_neg (by omega)];rfl
theorem ZA:pJ m v s i m.n=pJ m v s (i+1) 0:=by
 unfold pJ;exact List.map_congr_left λc hc=>by rw[if_pos (List.mem_range.1 hc),if_neg (by omega)]
theorem OA (h:v.getD i 0=0):pJ m v s (i+1) 0=pJ m v s i 0:=by
 unfold pJ;exact List.map_congr_left λc _=>by rw[if_neg (by omega),if_neg (by omega),aX,h,Rat.zero_mul,Rat.add_zero]
theorem ZB:pJ m v s m.n 0=stepM m v s:=by
 unfold pJ stepM;exact List.map_congr_left λc _=>by rw[if_neg (by omega)]
theorem PX (hj:j<m.n):(pJ m v s i j).set j ((pJ m v s i j).getD j 0+v.getD i 0*oq m s i j)=pJ m v s i (j+1):=by
 rw[PW hj,if_neg (Nat.lt_irrefl _)];refine List.ext_getElem (by rw[List.length_set,yQ,yQ]) λc h1 h2=>?_
 rw[yQ] at h2;rw[List.getElem_set];by_cases hcj:j=c
 .subst hcj;rw[if_pos rfl];simp only[pJ,List.getElem_map,List.getElem_range];rw[if_pos (by omega),aX]
 .rw[if_neg hcj];simp only[pJ,List.getElem_map,List.getElem_range];by_cases h:c<j
  .rw[if_pos h,if_pos (by omega)]
  .rw[if_neg h,if_neg (by omega)]
theorem FY {l:List Rat}(j:Nat):l.set j (l.getD j 0)=l:=by
 refine List.ext_getElem (by rw[List.length_set]) λc h1 h2=>?_
 rw[List.getElem_set];by_cases hcj:j=c
 .subst hcj;rw[if_pos rfl,ig,lu h2];rfl
 .rw[if_neg hcj]
theorem WI (hj:j<m.n)(h:oq m s i j=0):pJ m v s i (j+1)=pJ m v s i j:=by
 rw[<- PX hj,h,Rat.mul_zero,Rat.add_zero,FY]
theorem wX {l:List Rat}(h:l.length<=c):l.getD c 0=0:=by rw[ig,List.getElem?_eq_none h];rfl
theorem ak9 (z:m.Sz e)(hv:∀ a,sz (v.getD a 0)<=S)(hi:i+1<=6)(c:Nat):sz ((pJ m v s i j).getD c 0)<=6*(S+e+1)+1:=by
 rcases Nat.lt_or_ge c m.n with hc|hc
 .rw[PW hc];refine Ny (by split <;> omega) λa=>?_
  have:=mD (v.getD a 0) (oq m s a c);have:=hv a;have:=z.ent s a c;omega
 .rw[wX (by rw[yQ];exact hc),gm];omega
theorem al0 (z:m.Sz e)(hv:∀ a,sz (v.getD a 0)<=S)(c:Nat):sz ((stepM m v s).getD c 0)<=6*(S+e+1)+1:=by
 rcases Nat.lt_or_ge c m.n with hc|hc
 .rw[BK hc];refine Ny z.n6 λa=>?_;have:=mD (v.getD a 0) (oq m s a c);have:=hv a;have:=z.ent s a c;omega
 .rw[wX (by rw[BJ];exact hc),gm];omega
theorem Nz (z:m.Sz e):∀ (l:Nat) (w:List Int),w.length=l->∀ i,sz ((bP m w).getD i 0)+e+1<=7 ^ l*(2*e+1)
 | 0,w,hw,i=>by
  rw[IK hw];have:=z.ini i;show sz (m.ini.getD i 0)+e+1<=_
  omega
 | l+1,w,hw,i=>by
  obtain⟨u,x,rfl⟩:∃ u x,w=u++[x]:=⟨w.dropLast,w.getLast (λh=>by rw[h] at hw;cases hw),(List.dropLast_concat_getLast _).symm⟩
  rw[jG,oU] at hw;have hu:=Nz z l u (by omega)
  have hp:1<=7 ^ l:=Nat.one_le_pow _ _ (by decide)
  generalize hT:7 ^ l*(2*e+1)=T at hu;have hT1:2*e+1<=T:=by rw[<- hT];exact Nat.le_mul_of_pos_left _ hp
  have e1:=z.e1;have:=al0 (v:=bP m u) (s:=x.toNat-1) (S:=T-e-1) z (λa=>by have:=hu a;omega) i
  rw[lm,Nat.pow_succ,Nat.mul_comm (7 ^ l),Nat.mul_assoc,hT];omega
theorem Fp (z:m.Sz e)(hw:w.length<=6)(i:Nat):sz ((bP m w).getD i 0)<=5764801:=by
 have h:=Nz z w.length w rfl i;have h1:7 ^ w.length<=117649:=Nat.pow_le_pow_right (n:=7) (by decide) hw
 have h2:7 ^ w.length*(2*e+1)<=117649*49:=Nat.mul_le_mul h1 (by have:=z.e24;omega)
 omega
theorem Uu (z:m.Sz e)(hw:w.length<=5)(i:Nat):sz ((bP m w).getD i 0)<=823543:=by
 have h:=Nz z w.length w rfl i;have h1:7 ^ w.length<=16807:=Nat.pow_le_pow_right (n:=7) (by decide) hw
 have h2:7 ^ w.length*(2*e+1)<=16807*49:=Nat.mul_le_mul h1 (by have:=z.e24;omega)
 omega
theorem Rw {u v:Nat->Rat}{S T n:Nat}(hn:n<=6)(hu:∀ i,sz (u i)<=S)(hv:∀ i,sz (v i)<=T):sz (vZ n u v)<=6*(S+T+1)+1:=by
 refine Ny hn λi=>?_;have:=mD (u i) (v i);have:=hu i;have:=hv i;omega
theorem Uw (m:dP)(s i j:Nat):oq (dA m) s i j=0 \/ ∃ a b,oq (dA m) s i j=oq m s a b:=by
 rcases Nat.lt_or_ge s m.k with hs|hs
 .rcases Nat.lt_or_ge i m.n with hi|hi
  .rcases Nat.lt_or_ge j m.n with hj|hj
   .exact .inr ⟨j,i,Ue hs hi hj⟩
   .refine .inl ?_;unfold oq dA;refine wX (Nat.le_trans ?_ hj);rw[show (m.qL.map λM=>GK m.n λi j=>(M.getD j []).getD i 0).getD s []=GK m.n λi j=>((m.qL.getD s []).getD j []).getD i 0 by
     rw[ig,List.getElem?_map,lu hs,ig,lu hs];rfl]
    unfold GK;rw[aT _ _ hi,dJ,List.length_range];exact Nat.le_refl _
  .refine .inl ?_;unfold oq dA;rw[show (m.qL.map λM=>GK m.n λi j=>(M.getD j []).getD i 0).getD s []=GK m.n λi j=>((m.qL.getD s []).getD j []).getD i 0 by
    rw[ig,List.getElem?_map,lu hs,ig,lu hs];rfl]
   unfold GK;rw[ig (i:=i),List.getElem?_eq_none (by rw[dJ,List.length_range];exact hi)];rfl
 .refine .inl ?_;unfold oq dA;rw[ig (i:=s),List.getElem?_eq_none (by rw[dJ];exact hs)];rfl
theorem dP.Sz.turn (z:m.Sz e):(dA m).Sz e:=⟨z.n6,by rw[tu];exact z.k2,z.e1,z.e24,z.fin,z.ini,λs i j=>by
 rcases Uw m s i j with h|⟨a,b,h⟩
 .rw[h,gm];exact z.e1
 .rw[h];exact z.ent ..⟩

/-
  M, chapters 23 and 24: sizes of the vectors of words; a step in parts.
-/
import Derived.Test.YtnjoncgnjdkaoaaGreatDoorKWkF
set_option linter.unusedVariables false
set_option linter.unusedSimpArgs false
namespace Go.Proofs.YtnjoncgnjdkaoaaGreatDoor
open Go Go.AL
def outA (S:List bD)(i:Nat):List bD:=(S.take i).foldl jK []
theorem uo {S:List bD}{i:Nat}(hi:i<S.length):outA S (i+1)=jK (outA S i) (S.getD i default):=Zi hi
theorem Eg {S:List bD}{i:Nat}(hi:S.length<=i):outA S i=S.foldl jK []:=by unfold outA;rw[List.take_of_length_le hi]
theorem Hy (S:List bD):∀ i,(outA S i).length<=i
 | 0=>Nat.le_refl _
 | i + 1 => by
  rcases Nat.lt_or_ge i S.length with h|h
  .rw[uo h];have:=Wq (outA S i) (S.getD i default);have:=Hy S i;omega
  .rw[Eg (Nat.le_succ_of_le h),<- Eg h];have:=Hy S i;omega
theorem Ri {S:List bD}(hz:∀ x,x ∈ S->sz x.q<=134217728):∀ i,Zg i (outA S i)
 | 0=>λx hx=>by cases hx
 | i + 1 => by
  rcases Nat.lt_or_ge i S.length with h|h
  .rw[uo h];exact Zh (Ri hz i) (hz _ (getD_mem h default))
  .rw[Eg (Nat.le_succ_of_le h),<- Eg h];exact λx hx=>Nat.le_trans (Ri hz i x hx) (Nat.mul_le_mul_right _ (Nat.le_succ _))
set_option maxRecDepth 4000 in
set_option maxHeartbeats 1600000 in
theorem aX8 {l:List bD}(nl:l.length<=20)(hz:∀ x,x ∈ l->sz x.q<=134217728):aj P F.uO [lN,.d (lK l)] (.d (lK (vH l))):=by
 have hS:(sortA l).length=l.length:=vY ..;have hzS:∀ x,x ∈ sortA l->sz x.q<=134217728:=λx hx=>hz x ((Gh l).mem_iff.1 hx);refine aj.intro fn.uO (by rfl) (by rfl) (aA (by rfl)) λE hE=>(AW.sg hE rfl (gW rfl rfl λb2=>(jg rfl (OL.nil (AW.seq (AW.EJ 2 [dI 1,.sl []] rfl (VCs.WZ [dI 1,.sl []]) (AW.to [(1,.d (lK l)),(2,Hw),(4,.mt)] [] (.cons vR (.cons (aB (show V.VT 2 b2 [dI 1,.sl []] (.ptr 2 b2 0)=Hw from G5)) .di)) .nil ?_)))))))
 refine AW.rg hE rfl (ai rfl (clR rfl .di (aA1 (by omega)) rfl λb11 c11=>(oC rfl (OL.nil (AW.seq (AW.rename 11 1000 rfl (AW.to [(2,Hw),(4,.mt),(5,.bH 1000 b11 l.length c11)] [(1000,rowA b11 c11 l)] (.cons vR (.cons vR (.cons bG.bH .nil))) (.cons rfl .nil) ?_)))))))
 refine AW.rg hE rfl (gU rfl (OL.rV (v:=.jE []) (.mk (args':=[.bH 1000 b11 l.length c11,.fn F.cO []]) rfl (.cons vR (.cons vR (.nil))) (bP (id:=1000) (blk:=rowA b11 c11 l) rfl) iK (Ui rfl nl)) (OL.nil (AW.sg hE rfl (jg rfl (OL.nil (AW.seq ?_)))))));refine AW.seq (AW.own 6 59 T.ny 11 rfl rfl (AW.rg hE rfl (gU rfl (Iy sl.dm rfl rfl (ai rfl (OL.nil (AW.block ?_)))))));refine AW.aU (α:=Nat × Nat × Nat) [(2,_),(4,_),(14,_),(15,_)] [(1000,_)] (λ(i,bq,cq)=>[(6,.bH 59 bq (outA (sortA l) i).length cq),(16,.d (dI i))]) (λ(i,bq,cq)=>[(59,rowA bq cq (outA (sortA l) i))]) (λ(i,bq,cq)=>i<=l.length) (λ(i,bq,cq)=>l.length-i) (0,0,0) (.cons (knR rfl) (.cons (AO rfl) (.cons (yO rfl) (.cons (bY rfl) .nil)))) (.cons (rY rfl) .nil) ⟨Nat.zero_le _,.gy,.cons rfl .nil⟩ ?_
 rintro⟨i,bq,cq⟩ h1
 have h1:i<=l.length:=h1;have hlo:=Hy (sortA l) i;have hzo:=Ri hzS i;refine AW.sg hE rfl (aX rfl rfl rfl (OL.nil (AW.seq (AW.cond rfl (λh17=>?_) (λh17=>?_)))))
 .try simp only[eG] at h17
  refine AW.skip (AW.seq (AW.block (AW.sg hE rfl (jk sl.dm rfl rfl (by omega) (FW ag.ny (by decide) rfl rfl (nT (show i<(sortA l).length by omega)) (vs:=lC ((sortA l).getD i default)) rfl (aA rfl) (al z.ny rfl λb8=>(fG sz.ny rfl rfl rfl rfl rfl (aA rfl) (cells2:=[_,_,_,_,_,_,_,_,_,_,_]) rfl ?_)))))))
  refine OL.nil (AW.seq (AW.sg hE rfl (gU rfl (Iy sl.dm rfl rfl (aC rfl (OL.nil (AW.seq ?_)))))));have hxz:=hzS ((sortA l).getD i default) (getD_mem (by omega) default)
  refine AW.dg 1 [0,1,2,3,4,5,6,7,8,9,10,11] au hE rfl (by kernel_rfl) (OI.aS (os:=[_,_,_,_,_,_,_,_,_,_,_,_]) rfl ?_)
  refine ai rfl (gV rfl rfl rfl (ai rfl (OL.split 24 rfl (λhn=>?_) (λhn=>?_))))
  .have hn:0<(outA (sortA l) i).length:=by have:=kK hn;omega
   have hyz:=hzo ((outA (sortA l) i).getD ((outA (sortA l) i).length-1) default) (getD_mem (by omega) default)
   refine OL.yes rfl (gU rfl (OL.yes rfl (ai rfl (OL.yes rfl (bo rfl rfl (nN (c:=(((outA (sortA l) i).length-1:Nat):Int)) (by omega) (wrap_i64 (by omega))) (OL.yes rfl (jk sl.dm rfl rfl (by omega) ?_)))))))
   refine OL.yes rfl (FW ag.ny (by decide) rfl rfl (nT (show (outA (sortA l) i).length-1<(outA (sortA l) i).length by omega)) (vs:=lC ((outA (sortA l) i).getD ((outA (sortA l) i).length-1) default)) rfl (aA rfl) (OL.yes rfl (aN ag.ny rfl rfl (vs:=[_,_,_,_,_,_,_,_,_,_,_]) rfl (aA rfl) (OL.yes rfl (bF rfl vL (ai9 (x:=((outA (sortA l) i).getD ((outA (sortA l) i).length-1) default)) (y:=((sortA l).getD i default))) (OL.yes rfl (dG rfl rfl rfl ?_)))))))
   refine lJ rfl rfl (OL.nil (AW.cond rfl (λhc=>?_) (λhc=>?_)))
   .have hc:oV ((outA (sortA l) i).getD ((outA (sortA l) i).length-1) default) ((sortA l).getD i default)=0:=kK hc;refine AW.seq (AW.dg 1 [0,1,2,3,4,5,6,7,8,9,10,11,12,13,14,15] au hE rfl (by kernel_rfl) (OI.aS (os:=[_,_,_,_,_,_,_,_,_,_,_,_,_,_,_,_]) rfl ?_))
    refine gU rfl (ai rfl (bo rfl rfl (nN (c:=(((outA (sortA l) i).length-1:Nat):Int)) (by omega) (wrap_i64 (by omega))) (jS ag.Ring rfl (vs:=[_,_]) rfl (aA rfl) (gU rfl (ai rfl (bo rfl rfl (nN (c:=(((outA (sortA l) i).length-1:Nat):Int)) (by omega) (wrap_i64 (by omega))) (jk sl.dm rfl rfl (by omega) ?_)))))))
    refine faE fd.sF rfl rfl ?_;refine FW ag.ak (by decide) rfl rfl (nT (show (outA (sortA l) i).length-1<(outA (sortA l) i).length by omega)) (vs:=[.d (dB (fP ((outA (sortA l) i).getD ((outA (sortA l) i).length-1) default).q).neg),.d (aF (fP ((outA (sortA l) i).getD ((outA (sortA l) i).length-1) default).q).num),.d (aF (fP ((outA (sortA l) i).getD ((outA (sortA l) i).length-1) default).q).den),.d (dI 0),.d (dB false),.d (dU 0),.d (.sl []),.d (.sl [])]) rfl (aA rfl) ?_
    refine aV fd.sF rfl rfl (aN ag.ak rfl rfl (vs:=[_,_,_,_,_,_,_,_]) rfl (aA rfl) (bF rfl vL (Py (p:=((outA (sortA l) i).getD ((outA (sortA l) i).length-1) default).q) (q:=((sortA l).getD i default).q) (by omega) (by omega)) (jk sl.dm rfl rfl (by omega) (faE fd.sF rfl rfl ?_))))
    refine stF sz.ak rfl (d:=dW (((outA (sortA l) i).getD ((outA (sortA l) i).length-1) default).q+((sortA l).getD i default).q)) MR rfl rfl (nT (show (outA (sortA l) i).length-1<(outA (sortA l) i).length by omega)) (by decide) (el2:=je { ((outA (sortA l) i).getD ((outA (sortA l) i).length-1) default) with q:=((outA (sortA l) i).getD ((outA (sortA l) i).length-1) default).q+((sortA l).getD i default).q }) rfl (es2:=((outA (sortA l) i).set ((outA (sortA l) i).length-1) { ((outA (sortA l) i).getD ((outA (sortA l) i).length-1) default) with q:=((outA (sortA l) i).getD ((outA (sortA l) i).length-1) default).q+((sortA l).getD i default).q }).map je) (by rw[List.map_set]) ?_
    refine OL.nil (AW.exit (AW.rg hE rfl (aH rfl rfl (by omega) (ai rfl (OL.nil ?_)))))
    exact AW.again (x:=(i,bq,cq)) (i+1,bq,cq) (by (simp only[];omega)) ⟨by omega,Knows.app .GL (.cons (by rw[uo (by omega),jK,if_pos ⟨hn,hc⟩,List.length_set];exact bG.refl _) .di),dw.app (.cons rfl .nil) (.cons (by rw[uo (by omega),jK,if_pos ⟨hn,hc⟩];rfl) .nil)⟩
   .have hc:¬ oV ((outA (sortA l) i).getD ((outA (sortA l) i).length-1) default) ((sortA l).getD i default)=0:=lD hc;refine AW.skip (AW.seq (AW.dg 1 [0,1,2,3,4,5,6,7] au hE rfl (by kernel_rfl) (OI.aS (os:=[_,_,_,_,_,_,_,_]) rfl ?_)))
    refine jS ag.Ring rfl (vs:=[_,_]) rfl (aA rfl) (aV fd.sF rfl rfl (aN ag.ak rfl rfl (vs:=[_,_,_,_,_,_,_,_]) rfl (aA rfl) (jS ag.Ring rfl (vs:=[_,_]) rfl (aA rfl) (bF rfl vL (Px) (bF rfl vL (Py (p:=((sortA l).getD i default).q) (q:=0) (by omega) z0K) ?_)))))
    rw[Rat.add_zero];refine aV fd.sF rfl rfl (fG sz.ak rfl rfl rfl rfl rfl (aA rfl) (cells2:=[_,_,_,_,_,_,_,_,_,_,_]) rfl (OL.nil (AW.rg hE rfl (gU rfl (aN ag.ny rfl rfl (vs:=[_,_,_,_,_,_,_,_,_,_,_]) rfl (aA rfl) (xe (y:=je ((sortA l).getD i default)) sl.dm y8 rfl (by decide) ?_))))))
    refine zB sl.dm rfl rfl rfl (by rw[dD]) (VC.d _) (λy hy=>by rw[kJ hy];rfl) (by simp;omega) (by simp;omega) (.inr rfl) (ys:=((outA (sortA l) i)++[((sortA l).getD i default)]).map je) (by rw[List.map_append];rfl) (n2:=(outA (sortA l) i).length+1) rfl λb2 c2=>?_
    refine oC rfl (OL.nil (AW.rg hE rfl (aH rfl rfl (by omega) (ai rfl (OL.nil ?_)))))
    exact AW.again (x:=(i,bq,cq)) (i+1,b2,c2) (by (simp only[];omega)) ⟨by omega,Knows.app .GL (.cons (by rw[uo (by omega),jK,if_neg (λe=>hc e.2),iU];exact bG.refl _) .di),dw.app (.cons rfl .nil) (.cons (by rw[uo (by omega),jK,if_neg (λe=>hc e.2)];rfl) .nil)⟩
  .have hn:¬ 0<(outA (sortA l) i).length:=λe=>lD hn (by omega)
   refine OL.nd rfl (OL.nd rfl (OL.nd rfl (OL.nd rfl (OL.nd rfl (OL.nd rfl (OL.nd rfl (OL.nd rfl ?_)))))));refine jZ rfl rfl (OL.nil (oz rfl ?_));refine AW.skip (AW.seq (AW.dg 1 [0,1,2,3,4,5,6,7] au hE rfl (by kernel_rfl) (OI.aS (os:=[_,_,_,_,_,_,_,_]) rfl ?_)))
   refine jS ag.Ring rfl (vs:=[_,_]) rfl (aA rfl) (aV fd.sF rfl rfl (aN ag.ak rfl rfl (vs:=[_,_,_,_,_,_,_,_]) rfl (aA rfl) (jS ag.Ring rfl (vs:=[_,_]) rfl (aA rfl) (bF rfl vL (Px) (bF rfl vL (Py (p:=((sortA l).getD i default).q) (q:=0) (by omega) z0K) ?_)))))
   rw[Rat.add_zero];refine aV fd.sF rfl rfl (fG sz.ak rfl rfl rfl rfl rfl (aA rfl) (cells2:=[_,_,_,_,_,_,_,_,_,_,_]) rfl (OL.nil (AW.rg hE rfl (gU rfl (aN ag.ny rfl rfl (vs:=[_,_,_,_,_,_,_,_,_,_,_]) rfl (aA rfl) (xe (y:=je ((sortA l).getD i default)) sl.dm y8 rfl (by decide) ?_))))))
   refine zB sl.dm rfl rfl rfl (by rw[dD]) (VC.d _) (λy hy=>by rw[kJ hy];rfl) (by simp;omega) (by simp;omega) (.inr rfl) (ys:=((outA (sortA l) i)++[((sortA l).getD i default)]).map je) (by rw[List.map_append];rfl) (n2:=(outA (sortA l) i).length+1) rfl λb2 c2=>?_
   refine oC rfl (OL.nil (AW.rg hE rfl (aH rfl rfl (by omega) (ai rfl (OL.nil ?_)))))
   exact AW.again (x:=(i,bq,cq)) (i+1,b2,c2) (by (simp only[];omega)) ⟨by omega,Knows.app .GL (.cons (by rw[uo (by omega),jK,if_neg (λe=>hn e.1),iU];exact bG.refl _) .di),dw.app (.cons rfl .nil) (.cons (by rw[uo (by omega),jK,if_neg (λe=>hn e.1)];rfl) .nil)⟩
 .try simp only[eG] at h17
  refine AW.exit (AW.seq ?_);obtain rfl:i=l.length:=by omega
  have ho:(outA (sortA l) l.length).filter (λx=>!decide (x.q=0))=vH l:=by
   unfold vH RN;rw[Eg (by omega)]
   congr 1;funext x;by_cases hx:x.q=0 <;> simp[hx]
  refine AW.XD (by rw[hE];rfl) (SL.jy (gU rfl (OL.nil ?_)))
  refine SL.jy (mkF (vs:=[_]) rfl (OL.nil ?_));refine SL.Ll rfl (SO.aV5 (id:=59) (b:=bq) (n:=(outA (sortA l) l.length).length) (c:=cq) (es:=(outA (sortA l) l.length).map je) (XE:=λs=>[s,.fn F.oh [Hw]]) (show 63<E.n by rw[hE];exact Nat.le_of_ble_eq_true (by rfl)) rfl rfl (.cons bG.bH .di) (aA0 (l:=(outA (sortA l) l.length)) (p:=λx=>decide (x.q=0)) (λx hx=>aN3 (Nat.le_trans (hzo x hx) (by omega))) rfl (by omega)) λb63 c63=>?_)
  refine SL.jy (oC rfl (OL.nil ?_));rw[ho];refine AW.freeze 59 rfl (AW.to [(4,.d (lK (vH l)))] [] (.cons (eH (by rw[dD]) (by rfl)) .nil) .nil ?_)
  exact AW.ret (aO.r ⟨_,.tmp rfl .nil,.le vR⟩)
abbrev rAu (a:Au):V:=.ref [dI 1,.sl [],dI a.sym,dI a.st,tH a.ini,tH a.fin,lK a.aP]
theorem aN5 {l:List Rat}{f:Nat}{cap:V}{p:Rat->Bool}(hf:∀ x,x ∈ l->aj P f [vW x,cap] (.d (dB (p x))))(nl:l.length<=1099511627776):aj P F.gY [.d (tH l),.fn f [cap]] (.d (dI (GZ p l))):=by
 refine aj.intro fn.gY (by rfl) (by rfl) (aA (by rfl)) λE hE=>(AW.sg hE rfl (aC rfl (OL.nil (AW.seq (AW.sg hE rfl (ai rfl (fJ sl.aT rfl rfl ?_)))))))
 refine ai rfl (OL.nil (AW.block ?_));refine AW.aU (α:=Nat) [(0,_),(1,_),(7,_)] [] (λi=>[(8,.d (dI i))]) (λi=>[]) (λi=>i<=l.length/\∀ j,j<i->p (l.getD j 0)=false) (λi=>l.length-i) 0 (.cons (bY rfl) (.cons (OO rfl) (.cons (bY rfl) .nil))) .nil ⟨⟨Nat.zero_le _,λj hj=>by omega⟩,.di,.nil⟩ ?_
 rintro i ⟨h1,h2⟩
 refine AW.sg hE rfl (aX rfl rfl rfl (OL.nil (AW.seq (AW.cond rfl (λh9=>?_) (λh9=>?_)))))
 .try simp only[eG] at h9
  refine AW.skip (AW.seq (AW.block (AW.sg hE rfl (ai rfl (aC rfl (OL.nil (AW.sg hE rfl ?_)))))));refine NY rfl (ai rfl (ai rfl (fM sl.aT 0 rfl rfl (by omega) rfl rfl (jS ag.ak rfl (vs:=[_,_,_,_,_,_,_,_]) rfl (aA rfl) (bF rfl .gy (hf (l.getD i 0) (getD_mem (by omega) _)) (OL.nil (AW.cond rfl (λh16=>?_) (λh16=>?_))))))))
  .have h16:=h16;exact AW.sg hE rfl (ai rfl (aC rfl (OL.nil (AW.ret (aO.r ⟨_,.tmp rfl .nil,.le (bG.int ((BZ (by omega) 0 h16 h2).symm))⟩)))))
  .have h16:=h16;refine AW.skip (AW.rg hE rfl (aH rfl rfl (by omega) (ai rfl (OL.nil ?_))))
   exact AW.again (x:=i) (i+1) (by omega) ⟨⟨by omega,λj hj=>by rcases Nat.lt_or_ge j i with h|h;exact h2 j h;obtain rfl:j=i:=(by omega);exact h16⟩,Knows.app .xf .di,.nil⟩
 .try simp only[eG] at h9
  exact AW.exit (AW.sg hE rfl (aC rfl (OL.nil (AW.ret (aO.r ⟨_,.tmp rfl .nil,.le (bG.int ((EG 0 λj hj=>h2 j (by omega)).symm))⟩)))))
theorem Zj {l:List Rat}{f:Nat}{cap:V}{p:Rat->Bool}(hf:∀ x,x ∈ l->aj P f [vW x,cap] (.d (dB (p x))))(nl:l.length<=1099511627776):aj P F.fV [.d (tH l),.fn f [cap]] (.d (dB (l.any p))):=by
 refine aj.intro fn.fV (by rfl) (by rfl) (aA (by rfl)) λE hE=>(AW.sg hE rfl (aC rfl (OL.nil (AW.sg hE rfl (ai rfl (NY rfl (bF rfl vL (aN5 hf nl) ?_)))))))
 exact ql rfl rfl rfl (aC rfl (OL.nil (AW.ret (aO.r ⟨_,.tmp rfl .nil,.le (bG.bool (SY p l))⟩))))
theorem Zk {q:Rat}(hz:sz q<=68719476736):aj P F.kD [vW q,Hw] (.d (dB false)):=by
 refine aj.intro fn.kD (by rfl) (by rfl) (aA (by rfl)) λE hE=>(AW.sg hE rfl (gW rfl rfl λb2=>(aC rfl (OL.nil (AW.sg hE rfl (jS ag.Ring rfl (vs:=[_,_]) rfl (aA rfl) (aN ag.ak rfl rfl (vs:=[_,_,_,_,_,_,_,_]) rfl (aA rfl) ?_)))))))
 exact bF rfl .gy (Wl hz) (nt rfl (aC rfl (OL.nil (AW.ret (aO.r ⟨_,.tmp rfl .nil,.le vR⟩)))))
theorem Uj {l:List Rat}(hz:∀ x,x ∈ l->sz x<=68719476736)(nl:l.length<=1099511627776):aj P F.pV [lN,.d (tH l)] (.d (dB true)):=by
 refine aj.intro fn.pV (by rfl) (by rfl) (aA (by rfl)) λE hE=>(AW.sg hE rfl (gW rfl rfl λb2=>(aC rfl (OL.nil (AW.seq (AW.EJ 2 [dI 1,.sl []] rfl (VCs.WZ [dI 1,.sl []]) (AW.to [(1,.d (tH l)),(2,Hw),(4,.d (dB false))] [] (.cons vR (.cons (aB (show V.VT 2 b2 [dI 1,.sl []] (.ptr 2 b2 0)=Hw from G5)) .di)) .nil ?_)))))))
 refine AW.rg hE rfl (ai rfl (mkF (vs:=[_]) rfl (bF rfl vL (Zj (l:=l) (f:=F.kD) (cap:=Hw) (p:=λ_=>false) (λx hx=>Zk (hz x hx)) nl) ?_)));rw[any_false λx _=>rfl];exact nt rfl (aC rfl (OL.nil (AW.ret (aO.r ⟨_,.tmp rfl .nil,.le vR⟩))))
theorem Uk {a:Au}{v:Nat}(hv:v<a.st):aj P F.oP [.d (dI v),rAu a] (.d (dB true)):=by
 refine aj.intro fn.oP (by rfl) (by rfl) (aA (by rfl)) λE hE=>(AW.sg hE rfl (aC rfl (OL.nil (AW.sg hE rfl (ai rfl (ql rfl rfl (c:=true) (by exact decide_eq_true (by omega)) (ai rfl ?_)))))))
 refine OL.yes rfl (ai rfl (OL.yes rfl (YK fd.jW rfl rfl (OL.yes rfl (iE ce.int rfl (OL.yes rfl (aX rfl rfl (c:=true) (by exact decide_eq_true (by omega)) ?_)))))))
 exact lJ rfl rfl (aC rfl (OL.nil (AW.ret (aO.r ⟨_,.tmp rfl .nil,.le vR⟩))))
theorem aA2 {a:Au}{x:bD}(hx:x.f<a.st/\x.t<a.st/\1<=x.l/\x.l<=a.sym)(hz:sz x.q<=68719476736):aj P F.qV [Hu x,zG a] (.d (dB true)):=by
 refine aj.intro fn.qV (by rfl) (by rfl) (aA (by rfl)) λE hE=>(AW.sg hE rfl (gW rfl rfl λb2=>(gW rfl rfl λb3=>(aC rfl (OL.nil (AW.seq (AW.EJ 3 [dI 1,.sl [],dI a.sym,dI a.st,tH a.ini,tH a.fin,lK a.aP] rfl (VCs.WZ [dI 1,.sl [],dI a.sym,dI a.st,tH a.ini,tH a.fin,lK a.aP]) ?_)))))))
 refine AW.to [(2,.ptr 2 b2 0),(3,rAu a),(4,.d (dB false))] [(2,.box b2 T.ny (lC x))] (.cons vR (.cons (aB (show V.VT 3 b3 [dI 1,.sl [],dI a.sym,dI a.st,tH a.ini,tH a.fin,lK a.aP] (.ptr 3 b3 0)=rAu a from G5)) .di)) (.cons rfl .nil) ?_
 refine AW.rg hE rfl (mkF (vs:=[_]) rfl (asF rfl (OL.nil (AW.sg hE rfl (NY rfl (aV fd.xM rfl rfl (aG ce.int rfl rfl rfl ?_)))))));refine bF rfl vL (Uk (a:=a) (v:=x.f) hx.1) (ai rfl (OL.yes rfl (NY rfl (OL.yes rfl (aV fd.xq rfl rfl (OL.yes rfl (aG ce.int rfl rfl rfl ?_)))))));refine OL.yes rfl (bF rfl vL (Uk (a:=a) (v:=x.t) hx.2.1) (lJ rfl rfl (ai rfl (OL.yes rfl (aV fd.yZ rfl rfl (OL.yes rfl (aG ce.int rfl rfl rfl ?_)))))));refine OL.yes rfl (ql rfl rfl (c:=true) (by exact decide_eq_true (by omega)) (lJ rfl rfl (ai rfl (OL.yes rfl (aV fd.yZ rfl rfl (OL.yes rfl (aG ce.int rfl rfl rfl ?_)))))))
 refine OL.yes rfl (YK fd.rO rfl rfl (OL.yes rfl (iE ce.int rfl (OL.yes rfl (wZ rfl rfl (c:=true) (by exact decide_eq_true (by omega)) (lJ rfl rfl (ai rfl ?_)))))))
 refine OL.yes rfl (YK fd.jc rfl rfl (OL.yes rfl (jS ag.Ring rfl (vs:=[_,_]) rfl (aA rfl) (OL.yes rfl (aV fd.sF rfl rfl (OL.yes rfl (aN ag.ak rfl rfl (vs:=[_,_,_,_,_,_,_,_]) rfl (aA rfl) ?_)))))));exact OL.yes rfl (bF rfl .gy (Wl hz) (lJ rfl rfl (aC rfl (OL.nil (AW.ret (aO.r ⟨_,.tmp rfl .nil,.le vR⟩))))))
theorem aA3 {a:Au}{x:bD}(hx:x.f<a.st/\x.t<a.st/\1<=x.l/\x.l<=a.sym)(hz:sz x.q<=68719476736):aj P F.mO [Hu x,rAu a] (.d (dB false)):=by
 refine aj.intro fn.mO (by rfl) (by rfl) (aA (by rfl)) λE hE=>(AW.sg hE rfl (gW rfl rfl λb2=>(aC rfl (OL.nil (AW.sg hE rfl (aN ag.ny rfl rfl (vs:=[_,_,_,_,_,_,_,_,_,_,_]) rfl (aA rfl) (jS ag.Auto rfl (vs:=[_,_,_,_,_,_,_]) rfl (aA rfl) ?_)))))))
 exact bF rfl .gy (aA2 hx hz) (nt rfl (aC rfl (OL.nil (AW.ret (aO.r ⟨_,.tmp rfl .nil,.le vR⟩)))))
end Go.Proofs.YtnjoncgnjdkaoaaGreatDoor
namespace Go.AL
open Go Go.BigFrame
theorem MW {f:Nat->Rat}{C:Nat}:∀ {n:Nat},(∀ i,i<n->sz (f i)<=C)->sz (aW f n)<=n*(C+1)+1
 | 0,_=>by rw[aW,fK];omega
 | n+1,h=>by
  have h1:=MW (f:=f) (C:=C) (n:=n) λi hi=>h i (by omega)
  have h2:=h n (by omega)
  have h3:=AB (aW f n) (f n);rw[aW,Nat.succ_mul];omega
theorem Ul {f:Nat->Rat}{C n:Nat}(hn:n<=6)(h:∀ i,sz (f i)<=C):sz (aW f n)<=6*(C+1)+1:=by
 have h1:=MW (f:=f) (n:=n) λi _=>h i;have h2:=Nat.mul_le_mul_right (C+1) hn;omega
structure dZ.Sz (m:dZ) (e:Nat):Prop where
 n6:m.n<=6
 k2:m.k<=4
 e1:1<=e
 e24:e<=24
 ini:∀ i,sz (m.ini.getD i 0)<=e
 fin:∀ i,sz (m.fin.getD i 0)<=e
 ent:∀ s i j,sz (sG m s i j)<=e
section
variable {m:dZ}{v:List Rat}{s i j c e S:Nat}{w:List Int}
theorem Oj {l:List Rat}(j:Nat):l.set j (l.getD j 0)=l:=by
 refine List.ext_getElem (by rw[List.length_set]) λc h1 h2=>?_
 rw[List.getElem_set];by_cases hcj:j=c
 .subst hcj;rw[if_pos rfl,gI,kL h2];rfl
 .rw[if_neg hcj]
theorem uq {l:List Rat}(h:l.length<=c):l.getD c 0=0:=by rw[gI,List.getElem?_eq_none h];rfl
theorem aj6 (z:m.Sz e)(hv:∀ a,sz (v.getD a 0)<=S)(c:Nat):sz ((stepM m v s).getD c 0)<=6*(S+e+1)+1:=by
 rcases Nat.lt_or_ge c m.n with hc|hc
 .rw[Bo hc];refine Ul z.n6 λa=>?_;have:=lU (v.getD a 0) (sG m s a c);have:=hv a;have:=z.ent s a c;omega
 .rw[uq (by rw[EW];exact hc),fK];omega
theorem MX (z:m.Sz e):∀ (l:Nat) (w:List Int),w.length=l->∀ i,sz ((bQ m w).getD i 0)+e+1<=7 ^ l*(2*e+1)
 | 0,w,hw,i=>by
  rw[Gt hw];have:=z.ini i;show sz (m.ini.getD i 0)+e+1<=_
  omega
 | l+1,w,hw,i=>by
  obtain⟨u,x,rfl⟩:∃ u x,w=u++[x]:=⟨w.dropLast,w.getLast (λh=>by rw[h] at hw;cases hw),(List.dropLast_concat_getLast _).symm⟩
  rw[iU,jL] at hw;have hu:=MX z l u (by omega)
  have hp:1<=7 ^ l:=Nat.one_le_pow _ _ (by decide)
  generalize hT:7 ^ l*(2*e+1)=T at hu;have hT1:2*e+1<=T:=by rw[<- hT];exact Nat.le_mul_of_pos_left _ hp
  have e1:=z.e1;have:=aj6 (v:=bQ m u) (s:=x.toNat-1) (S:=T-e-1) z (λa=>by have:=hu a;omega) i
  rw[lW,Nat.pow_succ,Nat.mul_comm (7 ^ l),Nat.mul_assoc,hT];omega
theorem Hz (z:m.Sz e)(hw:w.length<=6)(i:Nat):sz ((bQ m w).getD i 0)<=5764801:=by
 have h:=MX z w.length w rfl i;have h1:7 ^ w.length<=117649:=Nat.pow_le_pow_right (n:=7) (by decide) hw
 have h2:7 ^ w.length*(2*e+1)<=117649*49:=Nat.mul_le_mul h1 (by have:=z.e24;omega)
 omega
theorem HY (z:m.Sz e)(hw:w.length<=5)(i:Nat):sz ((bQ m w).getD i 0)<=823543:=by
 have h:=MX z w.length w rfl i;have h1:7 ^ w.length<=16807:=Nat.pow_le_pow_right (n:=7) (by decide) hw
 have h2:7 ^ w.length*(2*e+1)<=16807*49:=Nat.mul_le_mul h1 (by have:=z.e24;omega)
 omega
theorem Ws {u v:Nat->Rat}{S T n:Nat}(hn:n<=6)(hu:∀ i,sz (u i)<=S)(hv:∀ i,sz (v i)<=T):sz (Bl n u v)<=6*(S+T+1)+1:=by
 refine Ul hn λi=>?_;have:=lU (u i) (v i);have:=hu i;have:=hv i;omega
theorem Um (m:dZ)(s i j:Nat):sG (bI m) s i j=0 \/ ∃ a b,sG (bI m) s i j=sG m s a b:=by
 rcases Nat.lt_or_ge s m.k with hs|hs
 .rcases Nat.lt_or_ge i m.n with hi|hi
  .rcases Nat.lt_or_ge j m.n with hj|hj
   .exact .inr ⟨j,i,TU hs hi hj⟩
   .refine .inl ?_;unfold sG bI;refine uq (Nat.le_trans ?_ hj);rw[show (m.Bj.map λM=>Gf m.n λi j=>(M.getD j []).getD i 0).getD s []=Gf m.n λi j=>((m.Bj.getD s []).getD j []).getD i 0 by
     rw[gI,List.getElem?_map,kL hs,gI,kL hs];rfl]
    unfold Gf;rw[aK _ _ hi,dD,List.length_range];exact Nat.le_refl _
  .refine .inl ?_;unfold sG bI;rw[show (m.Bj.map λM=>Gf m.n λi j=>(M.getD j []).getD i 0).getD s []=Gf m.n λi j=>((m.Bj.getD s []).getD j []).getD i 0 by
    rw[gI,List.getElem?_map,kL hs,gI,kL hs];rfl]
   unfold Gf;rw[gI (i:=i),List.getElem?_eq_none (by rw[dD,List.length_range];exact hi)];rfl
 .refine .inl ?_;unfold sG bI;rw[gI (i:=s),List.getElem?_eq_none (by rw[dD];exact hs)];rfl
theorem dZ.Sz.turn (z:m.Sz e):(bI m).Sz e:=⟨z.n6,by rw[oU];exact z.k2,z.e1,z.e24,z.fin,z.ini,λs i j=>by
 rcases Um m s i j with h|⟨a,b,h⟩
 .rw[h,fK];exact z.e1
 .rw[h];exact z.ent ..⟩
theorem aA4 {L:List (List Int)}{u:List Int}(z:m.Sz e)(hu:u.length<=5)(hL:∀ l,l ∈ L->l.length<=5)(i:Nat):sz ((dJ m L u).getD i 0)<=9882523:=by
 unfold dJ;refine Ho _ (by decide) (λj=>?_) i
 unfold jP;have:=Ws (u:=vf (bQ m u)) (v:=vf (bQ (bI m) (L.getD j []))) z.n6 (λi=>HY z hu i) (λi=>HY z.turn (by
  rcases Nat.lt_or_ge j L.length with h|h
  .exact hL _ (getD_mem h [])
  .rw[gI,List.getElem?_eq_none h];exact Nat.zero_le _) i)
 omega

/-
  Walks of the specification of automata (printed by mk2.py).
-/
import Derived.Test.YtanlenlmihoiiaaGreatDoorKWkS
set_option linter.unusedVariables false
set_option linter.unusedSimpArgs false
namespace Go.Proofs.YtanlenlmihoiiaaGreatDoor
open Go Go.AL
theorem an2 (x y:bU):mG [(x.f:Int),(x.l:Int),(x.t:Int)] [(y.f:Int),(y.l:Int),(y.t:Int)]=iT x y:=by
 have key:∀ (a b:Nat) (u v:List Int),cmpL ((a:Int)::u) ((b:Int)::v)=if cI a b≠0 then cI a b else cmpL u v:=λa b u v=>by
  rw[cmpL];unfold cI;by_cases h1:a<b
  .rw[if_pos (by omega),if_pos h1,if_pos (by decide)]
  .rw[if_neg (by omega),if_neg h1]
   by_cases h2:b<a
   .rw[if_pos (by omega),if_pos h2,if_pos (by decide)]
   .rw[if_neg (by omega),if_neg h2,if_neg (by decide)]
 unfold mG iT;rw[if_neg (by simp),key,key,key]
 congr 2
 split
 .rfl
 .rename_i h;rw[show cmpL [] []=0 from rfl];exact (Decidable.not_not.1 h).symm
def cZ (l:List bU)(i:Nat):List bU:=(l.take i).foldl wX []
theorem vU {l:List bU}{i:Nat}(hi:i<l.length):cZ l (i+1)=wX (cZ l i) (l.getD i default):=by
 unfold cZ;rw[take_snoc default hi,List.foldl_append];rfl
theorem aF0 (out:List bU)(x:bU):(wX out x).length<=out.length+1:=by
 unfold wX
 split
 .rw[List.length_set];omega
 .rw[jd,List.length_cons,List.length_take,List.length_drop];omega
theorem aT6 {k:Nat}{out:List bU}{x:bU}(h:al2 k out)(hx:sz x.q<=134217728):al2 (k+1) (wX out x):=by
 have up:∀ y,sz y<=(k+1)*134217730->sz y<=(k+1+1)*134217730:=λy hy=>Nat.le_trans hy (Nat.mul_le_mul_right _ (Nat.le_succ _));intro y hy;unfold wX at hy
 split at hy
 .rename_i hc;rcases List.mem_or_eq_of_mem_set hy with hy|rfl
  .exact up _ (h y hy)
  .have h1:=h _ (getD_mem hc.1 default);have h2:=AX (out.getD (rG out x) default).q x.q;show sz ((out.getD (rG out x) default).q+x.q)<=_
   omega
 .rcases uy hy with hy|hy
  .exact up _ (h y (List.mem_of_mem_take hy))
  .rcases List.mem_cons.1 hy with rfl|hy
   .omega
   .exact up _ (h y (List.mem_of_mem_drop hy))
theorem Xv (l:List bU):∀ i,(cZ l i).length<=i
 | 0=>Nat.le_refl _
 | i + 1 => by
  have ih:=Xv l i;rcases Nat.lt_or_ge i l.length with h|h
  .rw[vU h];have:=aF0 (cZ l i) (l.getD i default);omega
  .unfold cZ at *;rw[List.take_of_length_le h] at ih;rw[List.take_of_length_le (by omega)];omega
theorem NT {l:List bU}(hz:∀ x,x ∈ l->sz x.q<=134217728):∀ i,al2 i (cZ l i)
 | 0=>λx hx=>by cases hx
 | i + 1 => by
  rcases Nat.lt_or_ge i l.length with h|h
  .rw[vU h];exact aT6 (NT hz i) (hz _ (getD_mem h default))
  .have e:cZ l (i+1)=cZ l i:=by unfold cZ;rw[List.take_of_length_le h,List.take_of_length_le (by omega)]
   rw[e];exact λx hx=>Nat.le_trans (NT hz i x hx) (Nat.mul_le_mul_right _ (Nat.le_succ _))
theorem aF1 (l:List bU):UK (cZ l l.length)=pX l:=by unfold cZ pX;rw[List.take_length]
theorem aF2 {out:List bU}{x:bU}{k:Nat}(hk:k<=out.length)(h:∀ j,j<k->iT (out.getD j default) x<0)(h2:k=out.length \/ ¬ iT (out.getD k default) x<0):rG out x=k:=by
 unfold rG;have get:∀ j,j<out.length->out[j]? = some (out.getD j default):=λj hj=>by rw[jh,lQ hj];rfl
 rcases Nat.lt_or_ge k out.length with hl|hl
 .have hn:¬ iT (out.getD k default) x<0:=h2.resolve_left (by omega)
  refine (List.findIdx_eq hl).2 ⟨?_,λj hj=>?_⟩
  .have e:out[k]=out.getD k default:=by rw[jh,lQ hl];rfl
   rw[e];exact decide_eq_true hn
  .have e:out[j]=out.getD j default:=by rw[jh,lQ (by omega)];rfl
   rw[e];exact decide_eq_false (λk9=>k9 (h j hj))
 .have hk9:k=out.length:=by omega
  subst hk9;refine List.findIdx_eq_length.2 λy hy=>?_;obtain⟨j,hj,rfl⟩:=List.mem_iff_getElem.1 hy;have e:out[j]=out.getD j default:=by rw[jh,lQ hj];rfl
  rw[e];exact decide_eq_false (λk9=>k9 (h j hj))
theorem JX {l:List bU}{i:Nat}(hi:i<l.length):UK (l.take (i+1))=UK (l.take i)++(if (l.getD i default).q≠0 then [l.getD i default] else []):=by
 rw[take_snoc default hi];unfold UK;rw[List.filter_append];congr 1;by_cases h:(l.getD i default).q≠0
 .rw[if_pos h];simp only[List.filter_cons,decide_eq_true h,List.filter_nil,if_true]
 .rw[if_neg h];simp only[List.filter_cons,decide_eq_false h,List.filter_nil];rfl
theorem BB {l m:List Int}(nl:l.length<=1099511627776):ai P F.yj [.d (ints l),.d (ints m)] (.d (dI (mG l m))):=by
 refine ai.intro fn.yj (by rfl) (by rfl) (ay (by rfl)) λE hE=>(AW.sg hE rfl (aF rfl (OL.nil (AW.seq (AW.sg hE rfl (aj rfl (fF sl.ints rfl rfl ?_)))))))
 refine aj rfl (fF sl.ints rfl rfl (eX rfl rfl rfl (OL.nil (AW.cond rfl (λhn=>?_) (λhn=>?_)))))
 .have hn:l.length≠m.length:=λe=>BI hn (by rw[e])
  refine AW.seq (AW.sg hE rfl (aj rfl (fF sl.ints rfl rfl (aj rfl (fF sl.ints rfl rfl (bG rfl rfl rfl (OL.nil ?_)))))));refine AW.cond rfl (λhlt=>?_) (λhlt=>?_)
  .have hlt:l.length<m.length:=by have:=lK hlt;omega
   exact AW.sg hE rfl (aF rfl (OL.nil (AW.ret (aP.r ⟨_,.tmp rfl .nil,.le (bW.int (by unfold mG;rw[if_pos hn,if_pos hlt]))⟩))))
  .have hlt:¬ l.length<m.length:=by have:=nZ hlt;omega
   exact AW.skip (AW.sg hE rfl (aF rfl (OL.nil (AW.ret (aP.r ⟨_,.tmp rfl .nil,.le (bW.int (by unfold mG;rw[if_pos hn,if_neg hlt]))⟩)))))
 .have hn:l.length=m.length:=by have:=yY hn;omega
  rw[show mG l m=cmpL l m from if_neg (by omega)]
  refine AW.skip (AW.seq (AW.sg hE rfl (aF rfl (OL.nil (AW.block ?_)))));refine AW.aY (α:=Nat) [(0,_),(1,_)] [] (λi=>[(5,.d (dI i))]) (λi=>[]) (λi=>i<=l.length/\cmpL l m=cmpL (l.drop i) (m.drop i)) (λi=>l.length-i) 0 (.cons (di rfl) (.cons (di rfl) .nil)) .nil ⟨⟨Nat.zero_le _,rfl⟩,.dD,.nil⟩ ?_
  rintro i ⟨h1,h3⟩
  have h1:i<=l.length:=h1;have h3:cmpL l m=cmpL (l.drop i) (m.drop i):=h3;refine AW.seq (AW.sg hE rfl (aj rfl (aj rfl (fF sl.ints rfl rfl (bG rfl rfl rfl (OL.nil (AW.cond rfl (λh19=>?_) (λh19=>?_))))))))
  .try simp only[fD] at h19
   refine AW.skip (AW.seq (AW.block (AW.seq (AW.seq (AW.dg 1 [0,1,2,3,4,5,6,7,8] ak hE rfl (by kernel_rfl) (OI.aK (os:=[_,_,_,_,_,_,_,_,_]) rfl ?_))))))
   refine aj rfl (aj rfl (dR sl.ints 0 rfl rfl (by omega) rfl rfl (iE ce.int rfl (aj rfl (aj rfl (dR sl.ints 0 rfl rfl (by omega) rfl rfl (iE ce.int rfl ?_)))))))
   refine bG rfl rfl rfl (OL.nil (AW.cond rfl (λha=>?_) (λha=>?_)))
   .have ha:=lK ha;exact AW.sg hE rfl (aF rfl (OL.nil (AW.ret (aP.r ⟨_,.tmp rfl .nil,.le (bW.int (by rw[h3,KX (by omega) (by omega),show KL (l.getD i 0) (m.getD i 0) = -1 from if_pos ha,if_neg (by decide)]))⟩))))
   .have ha:=nZ ha;refine AW.skip (AW.seq (AW.dg 1 [0,1,2,3,4,5,6,7,8] ak hE rfl (by kernel_rfl) (OI.aK (os:=[_,_,_,_,_,_,_,_,_]) rfl ?_)))
    refine aj rfl (aj rfl (dR sl.ints 0 rfl rfl (by omega) rfl rfl (iE ce.int rfl (aj rfl (aj rfl (dR sl.ints 0 rfl rfl (by omega) rfl rfl (iE ce.int rfl ?_)))))))
    refine jI rfl rfl rfl (OL.nil (AW.cond rfl (λhb=>?_) (λhb=>?_)))
    .have hb:=lK hb;exact AW.sg hE rfl (aF rfl (OL.nil (AW.ret (aP.r ⟨_,.tmp rfl .nil,.le (bW.int (by rw[h3,KX (by omega) (by omega),show KL (l.getD i 0) (m.getD i 0)=1 by unfold KL;rw[if_neg ha,if_pos hb],if_neg (by decide)]))⟩))))
    .have hb:=nZ hb;exact AW.skip (AW.rg hE rfl (aj rfl (aI rfl rfl (by omega) (aF rfl (OL.nil (AW.again (x:=i) (i+1) (by omega) ⟨⟨by omega,by rw[h3,KX (by omega) (by omega),if_pos (by unfold KL;rw[if_neg ha,if_neg hb])]⟩,Knows.app .iW .dD,.nil⟩))))))
  .try simp only[fD] at h19
   exact AW.exit (AW.sg hE rfl (aF rfl (OL.nil (AW.ret (aP.r ⟨_,.tmp rfl .nil,.le (bW.int (by rw[h3,List.drop_eq_nil_of_le (show l.length<=i by omega),List.drop_eq_nil_of_le (show m.length<=i by omega),cmpL]))⟩)))))
theorem bf9 {l m:List Int}(nl:l.length<=1099511627776):ai P F.A7 [.d (ints l),.d (ints m)] (.d (dB (decide (l=m)))):=by
 refine ai.intro fn.A7 (by rfl) (by rfl) (ay (by rfl)) λE hE=>(AW.sg hE rfl (aF rfl (OL.nil (AW.sg hE rfl (aj rfl (aj rfl (bH rfl vL (BB nl) ?_)))))))
 exact fG rfl rfl rfl (aF rfl (OL.nil (AW.ret (aP.r ⟨_,.tmp rfl .nil,.le (bW.bool (decide_eq_decide.2 ⟨F7,λe=>by rw[e,Bo]⟩))⟩))))
theorem U6 {x y:bU}:ai P F.BN [KU x,KU y] (.d (dI (iT x y))):=by
 refine ai.intro fn.BN (by rfl) (by rfl) (ay (by rfl)) λE hE=>(AW.sg hE rfl (iO rfl rfl λb2=>(iO rfl rfl λb3=>(aF rfl (OL.nil (AW.sg hE rfl (bC fd.Ib rfl rfl ?_)))))))
 refine aG ce.int rfl rfl rfl (bC fd.DK rfl rfl (aG ce.int rfl rfl rfl (bC fd.Fh rfl rfl (aG ce.int rfl rfl rfl (ltN (ys:=[dI x.f,dI x.l,dI x.t]) sl.ints rfl (pdC (VC.d _).vd (pdC (VC.d _).vd (pdC (VC.d _).vd pdN))) rfl (by decide) (by decide) (λy hy=>by simp at hy;rcases hy with rfl|rfl|rfl <;> rfl) (bC fd.Ib rfl rfl (aG ce.int rfl rfl rfl ?_)))))))
 refine bC fd.DK rfl rfl (aG ce.int rfl rfl rfl (bC fd.Fh rfl rfl (aG ce.int rfl rfl rfl (ltN (ys:=[dI y.f,dI y.l,dI y.t]) sl.ints rfl (pdC (VC.d _).vd (pdC (VC.d _).vd (pdC (VC.d _).vd pdN))) rfl (by decide) (by decide) (λy hy=>by simp at hy;rcases hy with rfl|rfl|rfl <;> rfl) (bH rfl vL (BB (l:=[(x.f:Int),(x.l:Int),(x.t:Int)]) (m:=[(y.f:Int),(y.l:Int),(y.t:Int)]) (show 3<=1099511627776 by decide)) ?_)))))
 rw[an2];exact aF rfl (OL.nil (AW.ret (aP.r ⟨_,.tmp rfl .nil,.le vR⟩)))
theorem aT7 {l:List Rat}(nl:l.length<=64)(hz:∀ x,x ∈ l->sz x<=134217728):kU P F.A8 [kS,.d (qG l)] l.length T.aC 8 (l.map dW):=by
 refine kU.intro fn.A8 (by rfl) (by rfl) (ay (by rfl)) 4 rfl λE hE=>(AW.sg hE rfl (iO rfl rfl λb2=>(jK rfl (OL.nil (AW.sg hE rfl (jK rfl (OL.nil ?_)))))))
 refine AW.seq (AW.seq (AW.own 5 21 T.aC 8 rfl rfl (AW.rg hE rfl (aF rfl (OL.nil (AW.block ?_))))));refine AW.aY (α:=Nat × Nat × Nat) [(1,_),(2,_),(4,_)] [(2,_)] (λ(i,bq,cq)=>[(5,.bI 21 bq i cq),(6,.d (dI i))]) (λ(i,bq,cq)=>[(21,.row bq cq T.aC 8 ((l.take i).map dW))]) (λ(i,bq,cq)=>i<=l.length) (λ(i,bq,cq)=>l.length-i) (0,0,0) (.cons (di rfl) (.cons (iw rfl) (.cons (xK rfl) .nil))) (.cons (je rfl) .nil) ⟨Nat.zero_le _,.iW,.cons rfl .nil⟩ ?_
 rintro⟨i,bq,cq⟩ h1
 have h1:i<=l.length:=h1;refine AW.seq (AW.sg hE rfl (aj rfl (aj rfl (fF sl.aW rfl rfl (bG rfl rfl rfl (OL.nil (AW.cond rfl (λh10=>?_) (λh10=>?_))))))))
 .try simp only[fD] at h10
  refine AW.skip (AW.seq (AW.block ?_));have hx:=hz (l.getD i 0) (getD_mem (by omega) 0)
  refine AW.dg 2 [0,1,2,3,4,5,6,7,8,9] ak hE rfl (by kernel_rfl) (OI.aK (os:=[_,_,_,_,_,_,_,_,_,_]) rfl ?_)
  refine iU rfl (aQ ag.Ring rfl rfl (vs:=[_,_]) rfl (ay rfl) (aj rfl (aj rfl (dR sl.aW 0 rfl rfl (by omega) rfl rfl (iD ag.aC rfl (vs:=[_,_,_,_,_,_,_,_]) rfl (ay rfl) (bH rfl vL (Lm (q:=(l.getD i 0)) (by omega)) (rF (y:=dW (l.getD i 0)) sl.aW Nr rfl (by decide) ?_)))))))
  refine xZ sl.aW rfl rfl rfl (by rw[dA,List.length_take];omega) (VC.d _) (λy hy=>by rw[jJ hy];rfl) (by simp;omega) (by simp;omega) (.inr rfl) (ys:=(l.take (i+1)).map dW) (by rw[take_snoc 0 (show i<l.length by omega),List.map_append];rfl) (n2:=i+1) rfl λb2 c2=>?_
  exact pV rfl (OL.nil (AW.rg hE rfl (aj rfl (aI rfl rfl (by omega) (aF rfl (OL.nil (AW.again (x:=(i,bq,cq)) (i+1,b2,c2) (by (simp only[];omega)) ⟨by omega,Knows.app .yU .iW,dL.app (.cons rfl .nil) (.cons rfl .nil)⟩)))))))
 .try simp only[fD] at h10
  refine AW.exit (AW.seq ?_);obtain rfl:i=l.length:=by omega
  have e9:l.take l.length=l:=List.take_length;exact AW.rg hE rfl (iU rfl (pV rfl (OL.nil (AW.ret ⟨.inr rfl,21,bq,cq,(l.take l.length).map dW,rfl,rfl,by rw[e9,dA];exact Nat.le_refl _,by rw[e9];exact List.take_of_length_le (by rw[dA];exact Nat.le_refl _)⟩))))
theorem aF3 {l:List Rat}(nl:l.length<=64)(hz:∀ x,x ∈ l->sz x<=134217728):ai P F.A8 [kS,.d (qG l)] (.d (qG l)):=kU.data (aT7 nl hz) (dA ..).symm
theorem bg0  : ai P F.EI [kS] (kS):=by
 refine ai.intro fn.EI (by rfl) (by rfl) (ay (by rfl)) λE hE=>(AW.sg hE rfl (iO rfl rfl λb1=>(al z.Ring rfl λb2=>(OL.nil (AW.seq (AW.dg 2 [0,1,2,3,4,5,6] ak hE rfl (by kernel_rfl) (OI.aK (os:=[_,_,_,_,_,_,_]) rfl ?_)))))))
 refine bC fd.lD rfl rfl (aG ce.int rfl rfl rfl (bC fd.EW rfl rfl (aG ce.ints rfl rfl rfl (au1 sl.ints rfl rfl (VC.d _) (λy hy=>by cases hy) (by decide) (by decide) (bd z.Ring pl.Ring (cs:=[_,_]) rfl (fA sz.Ring rfl rfl rfl rfl rfl (ay rfl) (cells2:=[_,_]) rfl (OL.nil ?_)))))))
 exact AW.ret (aP.r ⟨_,.dN rfl rfl ag.Ring (ay rfl) .nil,.ag (.cons (.le vR) (.cons (.le vR) .nil))⟩)
set_option maxRecDepth 8000 in
set_option maxHeartbeats 3200000 in
theorem aT8 {l:List bU}(nl:l.length<=20)(hz:∀ x,x ∈ l->sz x.q<=134217728):kU P F.Ba [kS,.d (jW l)] (pX l).length T.mX 11 ((pX l).map jG):=by
 refine kU.intro fn.Ba (by rfl) (by rfl) (ay (by rfl)) 4 rfl λE hE=>(AW.sg hE rfl (iO rfl rfl λb2=>(jK rfl (OL.nil (AW.sg hE rfl (jK rfl (OL.nil ?_)))))))
 refine AW.seq (AW.seq (AW.own 5 77 T.mX 11 rfl rfl (AW.rg hE rfl (aF rfl (OL.nil (AW.block ?_))))));refine AW.aY (α:=Nat × Nat × Nat) [(1,_),(2,_),(4,_)] [(2,_)] (λ(i,bq,cq)=>[(5,.bI 77 bq (cZ l i).length cq),(6,.d (dI i))]) (λ(i,bq,cq)=>[(77,rowA bq cq (cZ l i))]) (λ(i,bq,cq)=>i<=l.length) (λ(i,bq,cq)=>l.length-i) (0,0,0) (.cons (di rfl) (.cons (iw rfl) (.cons (xK rfl) .nil))) (.cons (je rfl) .nil) ⟨Nat.zero_le _,.iW,.cons rfl .nil⟩ ?_
 rintro⟨i,bq,cq⟩ h1
 have h1:i<=l.length:=h1;have hlo:=Xv l i;have hzo:=NT hz i;refine AW.seq (AW.sg hE rfl (aj rfl (aj rfl (fF sl.dm rfl rfl (bG rfl rfl rfl (OL.nil (AW.cond rfl (λCO=>?_) (λCO=>?_))))))))
 .try simp only[fD] at CO
  refine AW.skip (AW.seq (AW.block (AW.sg hE rfl (aj rfl (aj rfl (dR sl.dm default rfl rfl (by omega) rfl rfl (iD ag.mX rfl (vs:=[_,_,_,_,_,_,_,_,_,_,_]) rfl (ay rfl) ?_)))))))
  refine al z.mX rfl λb7=>(fA sz.mX rfl rfl rfl rfl rfl (ay rfl) (cells2:=[_,_,_,_,_,_,_,_,_,_,_]) rfl (OL.nil (AW.seq ?_)));have hxz:=hz (l.getD i default) (getD_mem (by omega) default)
  refine AW.rg hE rfl (aQ ag.Ring rfl rfl (vs:=[_,_]) rfl (ay rfl) (bC fd.rC rfl rfl (aQ ag.aC rfl rfl (vs:=[_,_,_,_,_,_,_,_]) rfl (ay rfl) (bH rfl vL (Lm (q:=(l.getD i default).q) (by omega)) (bC fd.rC rfl rfl (fA sz.aC rfl rfl rfl rfl rfl (ay rfl) (cells2:=[_,_,_,_,_,_,_,_,_,_,_]) rfl (OL.nil ?_)))))))
  refine AW.sg hE rfl (aF rfl (OL.nil ?_));refine AW.YC (α:=Unit) [(1,_),(2,_),(4,_),(5,_),(6,_),(7,_)] [(2,_),(7,_),(77,_)] (λ_u=>[(8,.d (dI (rG (cZ l i) (l.getD i default))))]) (λ_u=>[]) (λ_u=>True) (.cons (di rfl) (.cons (iw rfl) (.cons (xK rfl) (.cons (zA rfl) (.cons (di rfl) (.cons (iw rfl) .nil)))))) (.cons (je rfl) (.cons (je rfl) (.cons (qZ rfl) .nil))) ?_ ?_
  .refine AW.block ?_;refine AW.aY (α:=Nat) [(1,_),(2,_),(4,_),(5,_),(6,_),(7,_)] [(2,_),(7,_),(77,_)] (λk=>[(8,.d (dI k))]) (λk=>[]) (λk=>k<=(cZ l i).length/\∀ j,j<k->iT ((cZ l i).getD j default) (l.getD i default)<0) (λk=>(cZ l i).length-k) 0 (.cons (di rfl) (.cons (iw rfl) (.cons (xK rfl) (.cons (zA rfl) (.cons (di rfl) (.cons (iw rfl) .nil)))))) (.cons (je rfl) (.cons (je rfl) (.cons (qZ rfl) .nil))) ⟨⟨Nat.zero_le _,λj hj=>by omega⟩,.dD,.nil⟩ ?_
   rintro k ⟨h2,h3⟩
   have h2:k<=(cZ l i).length:=h2;have h3:∀ j,j<k->iT ((cZ l i).getD j default) (l.getD i default)<0:=h3;refine AW.seq (AW.seq (AW.dg 1 [0,1,2,3,4,5,6,7,8,9,10,11,12] ak hE rfl (by kernel_rfl) (OI.aK (os:=[_,_,_,_,_,_,_,_,_,_,_,_,_]) rfl ?_)))
   refine aj rfl (iU rfl (Vq sl.dm rfl rfl (bG rfl rfl rfl (aj rfl (OL.split 30 rfl (λhk=>?_) (λhk=>?_))))))
   .have hk:k<(cZ l i).length:=by have:=lK hk;omega
    refine OL.yes rfl (iU rfl (OL.yes rfl (aj rfl (OL.yes rfl (jv sl.dm rfl rfl (by omega) (OL.yes rfl (Ht ag.mX (by decide) rfl rfl (rD (show k<(cZ l i).length by omega)) (vs:=pK ((cZ l i).getD k default)) rfl (ay rfl) ?_)))))))
    refine OL.yes rfl (aQ ag.mX rfl rfl (vs:=[_,_,_,_,_,_,_,_,_,_,_]) rfl (ay rfl) (OL.yes rfl (bH rfl vL (U6 (x:=(cZ l i).getD k default) (y:=(l.getD i default))) (OL.yes rfl (bG rfl rfl rfl (OL.split 37 rfl (λho=>?_) (λho=>?_)))))))
    .have ho:iT ((cZ l i).getD k default) (l.getD i default)<0:=lK ho;refine oK rfl rfl (OL.nil (Hr rfl ?_));refine AW.skip (AW.block (AW.rg hE rfl (aj rfl (aI rfl rfl (by omega) (aF rfl (OL.nil ?_))))))
     exact AW.again (x:=k) (k+1) (by omega) ⟨⟨by omega,λj hj=>by rcases Nat.lt_or_ge j k with h|h;exact h3 j h;obtain rfl:j=k:=(by omega);exact ho⟩,Knows.app .ZR .dD,dL.app (.cons rfl (.cons rfl (.cons rfl .nil))) (.nil)⟩
    .have ho:¬ iT ((cZ l i).getD k default) (l.getD i default)<0:=nZ ho;refine oK rfl rfl (OL.nil (oH rfl ?_));refine AW.exit ?_;exact AW.reach () ⟨trivial,Knows.app .ZR (.cons (bW.int (by rw[aF2 h2 h3 (.inr ho)])) .nil),dL.app (.cons rfl (.cons rfl (.cons rfl .nil))) (.nil)⟩
   .have hk:(cZ l i).length<=k:=by have:=nZ hk;omega
    refine OL.nd rfl (OL.nd rfl (OL.nd rfl (OL.nd rfl (OL.nd rfl (OL.nd rfl (OL.nd rfl (oI rfl rfl ?_)))))));refine OL.nil (oH rfl ?_);refine AW.exit ?_;exact AW.reach () ⟨trivial,Knows.app .ZR (.cons (bW.int (by rw[aF2 h2 h3 (.inl (by omega))])) .nil),dL.app (.cons rfl (.cons rfl (.cons rfl .nil))) (.nil)⟩
  rintro⟨⟩ -
  have hat:(rG (cZ l i) (l.getD i default))<=(cZ l i).length:=List.findIdx_le_length;refine AW.seq (AW.seq (AW.dg 1 [0,1,2,3,4,5,6,7,8,9,10,11,12] ak hE rfl (by kernel_rfl) (OI.aK (os:=[_,_,_,_,_,_,_,_,_,_,_,_,_]) rfl ?_)))
  refine aj rfl (iU rfl (Vq sl.dm rfl rfl (bG rfl rfl rfl (aj rfl (OL.split 45 rfl (λha=>?_) (λha=>?_))))))
  .have ha:(rG (cZ l i) (l.getD i default))<(cZ l i).length:=by have:=lK ha;omega
   refine OL.yes rfl (iU rfl (OL.yes rfl (aj rfl (OL.yes rfl (jv sl.dm rfl rfl (by omega) (OL.yes rfl (Ht ag.mX (by decide) rfl rfl (rD (show (rG (cZ l i) (l.getD i default))<(cZ l i).length by omega)) (vs:=pK ((cZ l i).getD (rG (cZ l i) (l.getD i default)) default)) rfl (ay rfl) ?_)))))))
   refine OL.yes rfl (aQ ag.mX rfl rfl (vs:=[_,_,_,_,_,_,_,_,_,_,_]) rfl (ay rfl) (OL.yes rfl (bH rfl vL (U6 (x:=((cZ l i).getD (rG (cZ l i) (l.getD i default)) default)) (y:=(l.getD i default))) (OL.yes rfl (fG rfl rfl rfl (OL.split 52 rfl (λho=>?_) (λho=>?_)))))))
   .have ho:iT ((cZ l i).getD (rG (cZ l i) (l.getD i default)) default) (l.getD i default)=0:=lK ho;have hyz:=hzo ((cZ l i).getD (rG (cZ l i) (l.getD i default)) default) (getD_mem ha default);refine oK rfl rfl (OL.nil (Hr rfl ?_));refine AW.seq (AW.dg 1 [0,1,2,3,4,5,6,7,8,9,10,11,12,13] ak hE rfl (by kernel_rfl) (OI.aK (os:=[_,_,_,_,_,_,_,_,_,_,_,_,_,_]) rfl ?_))
    refine iU rfl (aj rfl (aQ ag.Ring rfl rfl (vs:=[_,_]) rfl (ay rfl) (iU rfl (aj rfl (jv sl.dm rfl rfl (by omega) (faE fd.rC rfl rfl ?_))))))
    refine Ht ag.aC (by decide) rfl rfl (rD ha) (vs:=[.d (dB (fZ ((cZ l i).getD (rG (cZ l i) (l.getD i default)) default).q).neg),.d (aH (fZ ((cZ l i).getD (rG (cZ l i) (l.getD i default)) default).q).num),.d (aH (fZ ((cZ l i).getD (rG (cZ l i) (l.getD i default)) default).q).den),.d (dI 0),.d (dB false),.d (dU 0),.d (.sl []),.d (.sl [])]) rfl (ay rfl) ?_
    refine bC fd.rC rfl rfl (aQ ag.aC rfl rfl (vs:=[_,_,_,_,_,_,_,_]) rfl (ay rfl) (bH rfl vL (Zi (p:=((cZ l i).getD (rG (cZ l i) (l.getD i default)) default).q) (q:=(l.getD i default).q) (by omega) (by omega)) (jv sl.dm rfl rfl (by omega) (faE fd.rC rfl rfl ?_))))
    refine stF sz.aC rfl (d:=dW (((cZ l i).getD (rG (cZ l i) (l.getD i default)) default).q+(l.getD i default).q)) Nr rfl rfl (rD ha) (by decide) (el2:=jG { ((cZ l i).getD (rG (cZ l i) (l.getD i default)) default) with q:=((cZ l i).getD (rG (cZ l i) (l.getD i default)) default).q+(l.getD i default).q }) rfl (es2:=((cZ l i).set (rG (cZ l i) (l.getD i default)) { ((cZ l i).getD (rG (cZ l i) (l.getD i default)) default) with q:=((cZ l i).getD (rG (cZ l i) (l.getD i default)) default).q+(l.getD i default).q }).map jG) (by rw[List.map_set]) ?_
    refine OL.nil (AW.exit (AW.rg hE rfl (aj rfl (aI rfl rfl (by omega) (aF rfl (OL.nil ?_))))))
    exact AW.again (x:=(i,bq,cq)) (i+1,bq,cq) (by (simp only[];omega)) ⟨by omega,Knows.app .yU (.cons (by rw[vU (by omega),wX,if_pos ⟨ha,ho⟩,List.length_set];exact bW.refl _) .dD),dL.app (.cons rfl .nil) (.cons (by rw[vU (by omega),wX,if_pos ⟨ha,ho⟩];rfl) .nil)⟩
   .have ho:¬ iT ((cZ l i).getD (rG (cZ l i) (l.getD i default)) default) (l.getD i default)=0:=nZ ho;have hin:wX (cZ l i) (l.getD i default)=(cZ l i).take (rG (cZ l i) (l.getD i default))++(l.getD i default)::(cZ l i).drop (rG (cZ l i) (l.getD i default)):=if_neg (λe=>ho e.2);refine oK rfl rfl (OL.nil (oH rfl ?_));refine AW.skip ?_;have htk:((cZ l i).take (rG (cZ l i) (l.getD i default))).length=(rG (cZ l i) (l.getD i default)):=by rw[List.length_take];omega
    have hdl:((cZ l i).drop (rG (cZ l i) (l.getD i default))).length=(cZ l i).length-(rG (cZ l i) (l.getD i default)):=List.length_drop;refine AW.freeze 77 rfl (AW.to [(1,.d (jW l)),(2,.ptr 2 b2 0),(4,.mt),(5,.d (jW (cZ l i))),(6,.d (dI i)),(7,.ptr 7 b7 0),(8,.d (dI (rG (cZ l i) (l.getD i default))))] [(2,.box b2 T.Ring [.d (dI 1),.d (.sl [])]),(7,.box b7 T.mX (pK (l.getD i default)))] (.cons vR (.cons bW.ptr (.cons vR (.cons (dP (by rw[dA]) rfl) (.cons vR (.cons bW.ptr .dD)))))) (.cons rfl (.cons rfl .nil)) ?_)
    refine AW.dg 2 [0,1,2,4,5,7,8,9,3,6,10,11] ak hE rfl (by kernel_rfl) (OI.aK (os:=[_,_,_,_,_,_,_,_,_,_,_,_]) rfl ?_)
    refine aj rfl (aj rfl (ah6 sl.dm rfl rfl (λ_=>rfl) (by omega) (l2:=(cZ l i).take (rG (cZ l i) (l.getD i default))) (by rw[Int.toNat_natCast]) (aQ ag.mX rfl rfl (vs:=[_,_,_,_,_,_,_,_,_,_,_]) rfl (ay rfl) (rF (y:=jG (l.getD i default)) sl.dm xQ rfl (by decide) (aj rfl (aj rfl (Ox sl.dm rfl rfl (λ_=>rfl) (by omega) (l2:=(cZ l i).drop (rG (cZ l i) (l.getD i default))) (by rw[Int.toNat_natCast]) ?_)))))))
    refine apM sl.dm rfl rfl (VC.d _) Gg (by rw[dA,htk];omega) (by rw[dA,htk];omega) rfl λb70 c70=>?_
    refine xZ sl.dm rfl rfl rfl (by rw[dA]) (VC.d _) (λy hy=>by rw[jJ hy];rfl) (by rw[dA,htk];simp only[iY];omega) (by rw[dA,htk];simp only[iY];omega) (.inl rfl) (ys:=((cZ l i).take (rG (cZ l i) (l.getD i default))++[(l.getD i default)]).map jG) (by rw[List.map_append];rfl) (n2:=(rG (cZ l i) (l.getD i default))+1) (by rw[dA,htk];rfl) λb73 c73=>?_
    refine xZ sl.dm rfl rfl rfl (by rw[dA,jd,htk];rfl) (VC.d _) Gg (by rw[dA,hdl];omega) (by rw[dA,hdl];omega) (.inl rfl) (ys:=((cZ l i).take (rG (cZ l i) (l.getD i default))++(l.getD i default)::(cZ l i).drop (rG (cZ l i) (l.getD i default))).map jG) (by rw[<- List.map_append,List.append_assoc];rfl) (n2:=((cZ l i).take (rG (cZ l i) (l.getD i default))++(l.getD i default)::(cZ l i).drop (rG (cZ l i) (l.getD i default))).length) (by rw[dA,hdl,jd,List.length_cons,htk,hdl];omega) λb77 c77=>?_
    refine pV rfl (OL.nil (AW.rg hE rfl (aj rfl (aI rfl rfl (by omega) (aF rfl (OL.nil ?_))))))
    exact AW.again (x:=(i,bq,cq)) (i+1,b77,c77) (by (simp only[];omega)) ⟨by omega,Knows.app .yU (.cons (by rw[vU (by omega),hin];exact bW.refl _) .dD),dL.app (.cons rfl .nil) (.cons (by rw[vU (by omega),hin];rfl) .nil)⟩
  .have ha:¬ (rG (cZ l i) (l.getD i default))<(cZ l i).length:=by have:=nZ ha;omega
   have hin:wX (cZ l i) (l.getD i default)=(cZ l i).take (rG (cZ l i) (l.getD i default))++(l.getD i default)::(cZ l i).drop (rG (cZ l i) (l.getD i default)):=if_neg (λe=>ha e.1);refine OL.nd rfl (OL.nd rfl (OL.nd rfl (OL.nd rfl (OL.nd rfl (OL.nd rfl (OL.nd rfl (oI rfl rfl ?_)))))));refine OL.nil (oH rfl ?_);refine AW.skip ?_;have htk:((cZ l i).take (rG (cZ l i) (l.getD i default))).length=(rG (cZ l i) (l.getD i default)):=by rw[List.length_take];omega
   have hdl:((cZ l i).drop (rG (cZ l i) (l.getD i default))).length=(cZ l i).length-(rG (cZ l i) (l.getD i default)):=List.length_drop;refine AW.freeze 77 rfl (AW.to [(1,.d (jW l)),(2,.ptr 2 b2 0),(4,.mt),(5,.d (jW (cZ l i))),(6,.d (dI i)),(7,.ptr 7 b7 0),(8,.d (dI (rG (cZ l i) (l.getD i default))))] [(2,.box b2 T.Ring [.d (dI 1),.d (.sl [])]),(7,.box b7 T.mX (pK (l.getD i default)))] (.cons vR (.cons bW.ptr (.cons vR (.cons (dP (by rw[dA]) rfl) (.cons vR (.cons bW.ptr .dD)))))) (.cons rfl (.cons rfl .nil)) ?_)
   refine AW.dg 2 [0,1,2,4,5,7,8,9,3,6,10,11] ak hE rfl (by kernel_rfl) (OI.aK (os:=[_,_,_,_,_,_,_,_,_,_,_,_]) rfl ?_)
   refine aj rfl (aj rfl (ah6 sl.dm rfl rfl (λ_=>rfl) (by omega) (l2:=(cZ l i).take (rG (cZ l i) (l.getD i default))) (by rw[Int.toNat_natCast]) (aQ ag.mX rfl rfl (vs:=[_,_,_,_,_,_,_,_,_,_,_]) rfl (ay rfl) (rF (y:=jG (l.getD i default)) sl.dm xQ rfl (by decide) (aj rfl (aj rfl (Ox sl.dm rfl rfl (λ_=>rfl) (by omega) (l2:=(cZ l i).drop (rG (cZ l i) (l.getD i default))) (by rw[Int.toNat_natCast]) ?_)))))))
   refine apM sl.dm rfl rfl (VC.d _) Gg (by rw[dA,htk];omega) (by rw[dA,htk];omega) rfl λb70 c70=>?_
   refine xZ sl.dm rfl rfl rfl (by rw[dA]) (VC.d _) (λy hy=>by rw[jJ hy];rfl) (by rw[dA,htk];simp only[iY];omega) (by rw[dA,htk];simp only[iY];omega) (.inl rfl) (ys:=((cZ l i).take (rG (cZ l i) (l.getD i default))++[(l.getD i default)]).map jG) (by rw[List.map_append];rfl) (n2:=(rG (cZ l i) (l.getD i default))+1) (by rw[dA,htk];rfl) λb73 c73=>?_
   refine xZ sl.dm rfl rfl rfl (by rw[dA,jd,htk];rfl) (VC.d _) Gg (by rw[dA,hdl];omega) (by rw[dA,hdl];omega) (.inl rfl) (ys:=((cZ l i).take (rG (cZ l i) (l.getD i default))++(l.getD i default)::(cZ l i).drop (rG (cZ l i) (l.getD i default))).map jG) (by rw[<- List.map_append,List.append_assoc];rfl) (n2:=((cZ l i).take (rG (cZ l i) (l.getD i default))++(l.getD i default)::(cZ l i).drop (rG (cZ l i) (l.getD i default))).length) (by rw[dA,hdl,jd,List.length_cons,htk,hdl];omega) λb77 c77=>?_
   refine pV rfl (OL.nil (AW.rg hE rfl (aj rfl (aI rfl rfl (by omega) (aF rfl (OL.nil ?_))))))
   exact AW.again (x:=(i,bq,cq)) (i+1,b77,c77) (by (simp only[];omega)) ⟨by omega,Knows.app .yU (.cons (by rw[vU (by omega),hin];exact bW.refl _) .dD),dL.app (.cons rfl .nil) (.cons (by rw[vU (by omega),hin];rfl) .nil)⟩
 .try simp only[fD] at CO
  refine AW.exit (AW.seq ?_);obtain rfl:i=l.length:=by omega
  refine AW.freeze 77 rfl (AW.to [(2,.ptr 2 b2 0),(4,.mt),(5,.d (jW (cZ l l.length)))] [(2,.box b2 T.Ring [.d (dI 1),.d (.sl [])])] (.cons bW.ptr (.cons vR (.cons (dP (by rw[dA]) rfl) .nil))) (.cons rfl .nil) ?_)
  refine AW.rg hE rfl (jK rfl (OL.nil (AW.seq (AW.seq (AW.own 9 98 T.mX 11 rfl rfl (AW.rg hE rfl (aF rfl ?_)))))));refine OL.nil (AW.block ?_);refine AW.aY (α:=Nat × Nat × Nat) [(2,_),(4,_),(5,_)] [(2,_)] (λ(k,bk,ck)=>[(9,.bI 98 bk (UK ((cZ l l.length).take k)).length ck),(10,.d (dI k))]) (λ(k,bk,ck)=>[(98,rowA bk ck (UK ((cZ l l.length).take k)))]) (λ(k,bk,ck)=>k<=(cZ l l.length).length) (λ(k,bk,ck)=>(cZ l l.length).length-k) (0,0,0) (.cons (iw rfl) (.cons (xK rfl) (.cons (di rfl) .nil))) (.cons (je rfl) .nil) ⟨Nat.zero_le _,.iW,.cons rfl .nil⟩ ?_
  rintro⟨k,bk,ck⟩ h5
  have h5:k<=(cZ l l.length).length:=h5;have hnl:(UK ((cZ l l.length).take k)).length<=k:=by unfold UK;refine Nat.le_trans (List.length_filter_le ..) ?_;rw[List.length_take];omega
  refine AW.seq (AW.sg hE rfl (aj rfl (aj rfl (fF sl.dm rfl rfl (bG rfl rfl rfl (OL.nil (AW.cond rfl (λh81=>?_) (λh81=>?_))))))))
  .try simp only[fD] at h81
   refine AW.skip (AW.seq (AW.block (AW.seq ?_)));have hk9:k<(cZ l l.length).length:=by omega
   have hyz:=NT hz l.length _ (getD_mem hk9 default);have bD2:sz ((cZ l l.length).getD k default).q<=68719476736:=by have:=Nat.mul_le_mul_right 134217730 (show l.length+1<=21 by omega);omega
   refine AW.dg 1 [0,1,2,3,4,5,6,7] ak hE rfl (by kernel_rfl) (OI.aK (os:=[_,_,_,_,_,_,_,_]) rfl ?_)
   refine aQ ag.Ring rfl rfl (vs:=[_,_]) rfl (ay rfl) (aj rfl (aj rfl (dR sl.dm default rfl rfl hk9 rfl rfl (Ov fd.rC rfl rfl (iD ag.aC rfl (vs:=[_,_,_,_,_,_,_,_]) rfl (ay rfl) (bH rfl vL (aE9 (q:=((cZ l l.length).getD k default).q) bD2) (nt rfl ?_)))))));refine OL.nil (AW.cond rfl (λhq=>?_) (λhq=>?_))
   .have hq:((cZ l l.length).getD k default).q≠0:=BI hq;refine AW.rg hE rfl (iU rfl (aj rfl (aj rfl (dR sl.dm default rfl rfl hk9 rfl rfl (iD ag.mX rfl (vs:=[_,_,_,_,_,_,_,_,_,_,_]) rfl (ay rfl) (rF (y:=jG ((cZ l l.length).getD k default)) sl.dm xQ rfl (by decide) ?_))))))
    refine xZ sl.dm rfl rfl rfl (by rw[dA]) (VC.d _) (λy hy=>by rw[jJ hy];rfl) (by simp;omega) (by simp;omega) (.inr rfl) (ys:=(UK ((cZ l l.length).take k)++[(cZ l l.length).getD k default]).map jG) (by rw[List.map_append];rfl) (n2:=(UK ((cZ l l.length).take k)++[(cZ l l.length).getD k default]).length) (by rw[jd];rfl) λb98 c98=>?_
    refine pV rfl (OL.nil (AW.rg hE rfl (aj rfl (aI rfl rfl (by omega) (aF rfl (OL.nil ?_))))))
    exact AW.again (x:=(k,bk,ck)) (k+1,b98,c98) (by (simp only[];omega)) ⟨by omega,Knows.app .yU (.cons (by rw[JX hk9,if_pos hq];exact bW.refl _) .dD),dL.app (.cons rfl .nil) (.cons (by rw[JX hk9,if_pos hq];rfl) .nil)⟩
   .have hq:((cZ l l.length).getD k default).q=0:=yY hq;refine AW.skip (AW.rg hE rfl (aj rfl (aI rfl rfl (by omega) (aF rfl (OL.nil ?_)))))
    exact AW.again (x:=(k,bk,ck)) (k+1,bk,ck) (by (simp only[];omega)) ⟨by omega,Knows.app .yU (.cons (by rw[JX hk9,if_neg (λe=>e hq),List.append_nil];exact bW.refl _) .dD),dL.app (.cons rfl .nil) (.cons (by rw[JX hk9,if_neg (λe=>e hq),List.append_nil];rfl) .nil)⟩
  .try simp only[fD] at h81
   refine AW.exit (AW.seq ?_);obtain rfl:k=(cZ l l.length).length:=by omega
   have e9:UK ((cZ l l.length).take (cZ l l.length).length)=pX l:=by rw[<- aF1,List.take_length]
   dsimp only
   rw[e9];exact AW.rg hE rfl (iU rfl (pV rfl (OL.nil (AW.ret ⟨.inr rfl,98,bk,ck,(pX l).map jG,rfl,rfl,by rw[dA];exact Nat.le_refl _,List.take_of_length_le (by rw[dA];exact Nat.le_refl _)⟩))))
theorem aF4 {l:List bU}(nl:l.length<=20)(hz:∀ x,x ∈ l->sz x.q<=134217728):ai P F.Ba [kS,.d (jW l)] (.d (jW (pX l))):=kU.data (aT8 nl hz) (dA ..).symm
theorem Lp {a:Au}(h:a.Ok)(za:a.Sz 134217728 20)(s2:a.st<=64):ai P F.Eu [yV a] (yV (lF a)):=by
 have e1:=h.ini;have e2:=h.fin;have e3:=za.num;refine ai.intro fn.Eu (by rfl) (by rfl) (ay (by rfl)) λE hE=>(AW.sg hE rfl (iO rfl rfl λb1=>(al z.Auto rfl λb2=>(OL.nil (AW.seq (AW.dg 1 [0,1,2,3,4,5,6,7,8,9,10,11,12,13,14,15,16,17,18,19,20,21,22,23] ak hE rfl (by kernel_rfl) (OI.aK (os:=[_,_,_,_,_,_,_,_,_,_,_,_,_,_,_,_,_,_,_,_,_,_,_,_]) rfl ?_)))))))
 refine bC fd.jE rfl rfl (aQ ag.Ring rfl rfl (vs:=[_,_]) rfl (ay rfl) (bH rfl .dD (bg0) (bC fd.lX rfl rfl (aG ce.int rfl rfl rfl (bC fd.oz rfl rfl (aG ce.int rfl rfl rfl (bC fd.jE rfl rfl ?_)))))));refine aQ ag.Ring rfl rfl (vs:=[_,_]) rfl (ay rfl) (bC fd.qW rfl rfl (aG ce.aW rfl rfl rfl (bH rfl vL (aF3 (l:=a.ini) (by omega) za.ini) (bC fd.jE rfl rfl (aQ ag.Ring rfl rfl (vs:=[_,_]) rfl (ay rfl) (bC fd.uw rfl rfl (aG ce.aW rfl rfl rfl ?_)))))))
 refine bH rfl vL (aF3 (l:=a.fin) (by omega) za.fin) (bC fd.jE rfl rfl (aQ ag.Ring rfl rfl (vs:=[_,_]) rfl (ay rfl) (bC fd.gK rfl rfl (aG ce.dm rfl rfl rfl (bH rfl vL (aF4 (l:=a.aN) e3 za.arc) (L6 (cs:=[_,_,_,_,_,_,_]) z.Auto pl.Auto (lI (by exact X5 rfl) (lI (by exact uG rfl) (lI (by exact uG rfl) (lI (by exact uG rfl) (lI (by exact uG rfl) (lI (by exact uG rfl) (LZ))))))) (by rfl) (fA sz.Auto rfl rfl rfl rfl rfl (ay rfl) (cells2:=[_,_,_,_,_,_,_]) rfl ?_)))))))
 exact OL.nil (AW.ret (aP.r ⟨_,.dN rfl rfl ag.Auto (ay rfl) .nil,.ag (.cons (.le vR) (.cons (.le vR) (.cons (.le vR) (.cons (.le vR) (.cons (.le vR) (.cons (.le vR) (.cons (.le vR) .nil)))))))⟩))

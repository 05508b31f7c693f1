/-
  Walks of the specification of automata (printed by mk2.py).
-/
import Derived.Test.YtnjoncgnjdkaoaaGreatDoorKWkS
set_option linter.unusedVariables false
set_option linter.unusedSimpArgs false
namespace Go.Proofs.YtnjoncgnjdkaoaaGreatDoor
open Go Go.AL
theorem ZJ (x y:bD):mY [(x.f:Int),(x.l:Int),(x.t:Int)] [(y.f:Int),(y.l:Int),(y.t:Int)]=oV x y:=by
 have key:∀ (a b:Nat) (u v:List Int),cmpL ((a:Int)::u) ((b:Int)::v)=if cI a b≠0 then cI a b else cmpL u v:=λa b u v=>by
  rw[cmpL];unfold cI;by_cases h1:a<b
  .rw[if_pos (by omega),if_pos h1,if_pos (by decide)]
  .rw[if_neg (by omega),if_neg h1]
   by_cases h2:b<a
   .rw[if_pos (by omega),if_pos h2,if_pos (by decide)]
   .rw[if_neg (by omega),if_neg h2,if_neg (by decide)]
 unfold mY oV;rw[if_neg (by simp),key,key,key]
 congr 2
 split
 .rfl
 .rename_i h;rw[show cmpL [] []=0 from rfl];exact (Decidable.not_not.1 h).symm
def bM (l:List bD)(i:Nat):List bD:=(l.take i).foldl zF []
theorem uz {l:List bD}{i:Nat}(hi:i<l.length):bM l (i+1)=zF (bM l i) (l.getD i default):=by
 unfold bM;rw[take_snoc default hi,List.foldl_append];rfl
theorem ao1 (out:List bD)(x:bD):(zF out x).length<=out.length+1:=by
 unfold zF
 split
 .rw[List.length_set];omega
 .rw[iU,List.length_cons,List.length_take,List.length_drop];omega
theorem aD2 {k:Nat}{out:List bD}{x:bD}(h:Zg k out)(hx:sz x.q<=134217728):Zg (k+1) (zF out x):=by
 have up:∀ y,sz y<=(k+1)*134217730->sz y<=(k+1+1)*134217730:=λy hy=>Nat.le_trans hy (Nat.mul_le_mul_right _ (Nat.le_succ _));intro y hy;unfold zF at hy
 split at hy
 .rename_i hc;rcases List.mem_or_eq_of_mem_set hy with hy|rfl
  .exact up _ (h y hy)
  .have h1:=h _ (getD_mem hc.1 default);have h2:=AB (out.getD (tC out x) default).q x.q;show sz ((out.getD (tC out x) default).q+x.q)<=_
   omega
 .rcases rD hy with hy|hy
  .exact up _ (h y (List.mem_of_mem_take hy))
  .rcases List.mem_cons.1 hy with rfl|hy
   .omega
   .exact up _ (h y (List.mem_of_mem_drop hy))
theorem U3 (l:List bD):∀ i,(bM l i).length<=i
 | 0=>Nat.le_refl _
 | i + 1 => by
  have ih:=U3 l i;rcases Nat.lt_or_ge i l.length with h|h
  .rw[uz h];have:=ao1 (bM l i) (l.getD i default);omega
  .unfold bM at *;rw[List.take_of_length_le h] at ih;rw[List.take_of_length_le (by omega)];omega
theorem Ku {l:List bD}(hz:∀ x,x ∈ l->sz x.q<=134217728):∀ i,Zg i (bM l i)
 | 0=>λx hx=>by cases hx
 | i + 1 => by
  rcases Nat.lt_or_ge i l.length with h|h
  .rw[uz h];exact aD2 (Ku hz i) (hz _ (getD_mem h default))
  .have e:bM l (i+1)=bM l i:=by unfold bM;rw[List.take_of_length_le h,List.take_of_length_le (by omega)]
   rw[e];exact λx hx=>Nat.le_trans (Ku hz i x hx) (Nat.mul_le_mul_right _ (Nat.le_succ _))
theorem ao2 (l:List bD):RN (bM l l.length)=qH l:=by unfold bM qH;rw[List.take_length]
theorem ao3 {out:List bD}{x:bD}{k:Nat}(hk:k<=out.length)(h:∀ j,j<k->oV (out.getD j default) x<0)(h2:k=out.length \/ ¬ oV (out.getD k default) x<0):tC out x=k:=by
 unfold tC;have get:∀ j,j<out.length->out[j]? = some (out.getD j default):=λj hj=>by rw[gI,kL hj];rfl
 rcases Nat.lt_or_ge k out.length with hl|hl
 .have hn:¬ oV (out.getD k default) x<0:=h2.resolve_left (by omega)
  refine (List.findIdx_eq hl).2 ⟨?_,λj hj=>?_⟩
  .have e:out[k]=out.getD k default:=by rw[gI,kL hl];rfl
   rw[e];exact decide_eq_true hn
  .have e:out[j]=out.getD j default:=by rw[gI,kL (by omega)];rfl
   rw[e];exact decide_eq_false (λk9=>k9 (h j hj))
 .have hk9:k=out.length:=by omega
  subst hk9;refine List.findIdx_eq_length.2 λy hy=>?_;obtain⟨j,hj,rfl⟩:=List.mem_iff_getElem.1 hy;have e:out[j]=out.getD j default:=by rw[gI,kL hj];rfl
  rw[e];exact decide_eq_false (λk9=>k9 (h j hj))
theorem Ii {l:List bD}{i:Nat}(hi:i<l.length):RN (l.take (i+1))=RN (l.take i)++(if (l.getD i default).q≠0 then [l.getD i default] else []):=by
 rw[take_snoc default hi];unfold RN;rw[List.filter_append];congr 1;by_cases h:(l.getD i default).q≠0
 .rw[if_pos h];simp only[List.filter_cons,decide_eq_true h,List.filter_nil,if_true]
 .rw[if_neg h];simp only[List.filter_cons,decide_eq_false h,List.filter_nil];rfl
theorem NQ {l m:List Int}(nl:l.length<=1099511627776):aj P F.wU [.d (ints l),.d (ints m)] (.d (dI (mY l m))):=by
 refine aj.intro fn.wU (by rfl) (by rfl) (aA (by rfl)) λE hE=>(AW.sg hE rfl (aC rfl (OL.nil (AW.seq (AW.sg hE rfl (ai rfl (fJ sl.ints rfl rfl ?_)))))))
 refine ai rfl (fJ sl.ints rfl rfl (fC rfl rfl rfl (OL.nil (AW.cond rfl (λhn=>?_) (λhn=>?_)))))
 .have hn:l.length≠m.length:=λe=>DC hn (by rw[e])
  refine AW.seq (AW.sg hE rfl (ai rfl (fJ sl.ints rfl rfl (ai rfl (fJ sl.ints rfl rfl (aX rfl rfl rfl (OL.nil ?_)))))));refine AW.cond rfl (λhlt=>?_) (λhlt=>?_)
  .have hlt:l.length<m.length:=by have:=kK hlt;omega
   exact AW.sg hE rfl (aC rfl (OL.nil (AW.ret (aO.r ⟨_,.tmp rfl .nil,.le (bG.int (by unfold mY;rw[if_pos hn,if_pos hlt]))⟩))))
  .have hlt:¬ l.length<m.length:=by have:=lD hlt;omega
   exact AW.skip (AW.sg hE rfl (aC rfl (OL.nil (AW.ret (aO.r ⟨_,.tmp rfl .nil,.le (bG.int (by unfold mY;rw[if_pos hn,if_neg hlt]))⟩)))))
 .have hn:l.length=m.length:=by have:=BV hn;omega
  rw[show mY l m=cmpL l m from if_neg (by omega)]
  refine AW.skip (AW.seq (AW.sg hE rfl (aC rfl (OL.nil (AW.block ?_)))));refine AW.aU (α:=Nat) [(0,_),(1,_)] [] (λi=>[(5,.d (dI i))]) (λi=>[]) (λi=>i<=l.length/\cmpL l m=cmpL (l.drop i) (m.drop i)) (λi=>l.length-i) 0 (.cons (bY rfl) (.cons (bY rfl) .nil)) .nil ⟨⟨Nat.zero_le _,rfl⟩,.di,.nil⟩ ?_
  rintro i ⟨h1,h3⟩
  have h1:i<=l.length:=h1;have h3:cmpL l m=cmpL (l.drop i) (m.drop i):=h3;refine AW.seq (AW.sg hE rfl (ai rfl (ai rfl (fJ sl.ints rfl rfl (aX rfl rfl rfl (OL.nil (AW.cond rfl (λh19=>?_) (λh19=>?_))))))))
  .try simp only[eG] at h19
   refine AW.skip (AW.seq (AW.block (AW.seq (AW.seq (AW.dg 1 [0,1,2,3,4,5,6,7,8] au hE rfl (by kernel_rfl) (OI.aS (os:=[_,_,_,_,_,_,_,_,_]) rfl ?_))))))
   refine ai rfl (ai rfl (fM sl.ints 0 rfl rfl (by omega) rfl rfl (iE ce.int rfl (ai rfl (ai rfl (fM sl.ints 0 rfl rfl (by omega) rfl rfl (iE ce.int rfl ?_)))))))
   refine aX rfl rfl rfl (OL.nil (AW.cond rfl (λha=>?_) (λha=>?_)))
   .have ha:=kK ha;exact AW.sg hE rfl (aC rfl (OL.nil (AW.ret (aO.r ⟨_,.tmp rfl .nil,.le (bG.int (by rw[h3,BA (by omega) (by omega),show Ea (l.getD i 0) (m.getD i 0) = -1 from if_pos ha,if_neg (by decide)]))⟩))))
   .have ha:=lD ha;refine AW.skip (AW.seq (AW.dg 1 [0,1,2,3,4,5,6,7,8] au hE rfl (by kernel_rfl) (OI.aS (os:=[_,_,_,_,_,_,_,_,_]) rfl ?_)))
    refine ai rfl (ai rfl (fM sl.ints 0 rfl rfl (by omega) rfl rfl (iE ce.int rfl (ai rfl (ai rfl (fM sl.ints 0 rfl rfl (by omega) rfl rfl (iE ce.int rfl ?_)))))))
    refine gV rfl rfl rfl (OL.nil (AW.cond rfl (λhb=>?_) (λhb=>?_)))
    .have hb:=kK hb;exact AW.sg hE rfl (aC rfl (OL.nil (AW.ret (aO.r ⟨_,.tmp rfl .nil,.le (bG.int (by rw[h3,BA (by omega) (by omega),show Ea (l.getD i 0) (m.getD i 0)=1 by unfold Ea;rw[if_neg ha,if_pos hb],if_neg (by decide)]))⟩))))
    .have hb:=lD hb;exact AW.skip (AW.rg hE rfl (ai rfl (aH rfl rfl (by omega) (aC rfl (OL.nil (AW.again (x:=i) (i+1) (by omega) ⟨⟨by omega,by rw[h3,BA (by omega) (by omega),if_pos (by unfold Ea;rw[if_neg ha,if_neg hb])]⟩,Knows.app .gy .di,.nil⟩))))))
  .try simp only[eG] at h19
   exact AW.exit (AW.sg hE rfl (aC rfl (OL.nil (AW.ret (aO.r ⟨_,.tmp rfl .nil,.le (bG.int (by rw[h3,List.drop_eq_nil_of_le (show l.length<=i by omega),List.drop_eq_nil_of_le (show m.length<=i by omega),cmpL]))⟩)))))
theorem Yg {x y:bD}:aj P F.Ah [Hu x,Hu y] (.d (dI (oV x y))):=by
 refine aj.intro fn.Ah (by rfl) (by rfl) (aA (by rfl)) λE hE=>(AW.sg hE rfl (gW rfl rfl λb2=>(gW rfl rfl λb3=>(aC rfl (OL.nil (AW.sg hE rfl (aV fd.xM rfl rfl ?_)))))))
 refine aG ce.int rfl rfl rfl (aV fd.yZ rfl rfl (aG ce.int rfl rfl rfl (aV fd.xq rfl rfl (aG ce.int rfl rfl rfl (ltN (ys:=[dI x.f,dI x.l,dI x.t]) sl.ints rfl (Oe (VC.d _).vd (Oe (VC.d _).vd (Oe (VC.d _).vd pdN))) rfl (by decide) (by decide) (λy hy=>by simp at hy;rcases hy with rfl|rfl|rfl <;> rfl) (aV fd.xM rfl rfl (aG ce.int rfl rfl rfl ?_)))))))
 refine aV fd.yZ rfl rfl (aG ce.int rfl rfl rfl (aV fd.xq rfl rfl (aG ce.int rfl rfl rfl (ltN (ys:=[dI y.f,dI y.l,dI y.t]) sl.ints rfl (Oe (VC.d _).vd (Oe (VC.d _).vd (Oe (VC.d _).vd pdN))) rfl (by decide) (by decide) (λy hy=>by simp at hy;rcases hy with rfl|rfl|rfl <;> rfl) (bF rfl vL (NQ (l:=[(x.f:Int),(x.l:Int),(x.t:Int)]) (m:=[(y.f:Int),(y.l:Int),(y.t:Int)]) (show 3<=1099511627776 by decide)) ?_)))))
 rw[ZJ];exact aC rfl (OL.nil (AW.ret (aO.r ⟨_,.tmp rfl .nil,.le vR⟩)))
theorem aD3 {l:List Rat}(nl:l.length<=64)(hz:∀ x,x ∈ l->sz x<=134217728):iR P F.yU [lN,.d (tH l)] l.length T.ak 8 (l.map dW):=by
 refine iR.intro fn.yU (by rfl) (by rfl) (aA (by rfl)) 4 rfl λE hE=>(AW.sg hE rfl (gW rfl rfl λb2=>(jg rfl (OL.nil (AW.sg hE rfl (jg rfl (OL.nil ?_)))))))
 refine AW.seq (AW.seq (AW.own 5 21 T.ak 8 rfl rfl (AW.rg hE rfl (aC rfl (OL.nil (AW.block ?_))))));refine AW.aU (α:=Nat × Nat × Nat) [(1,_),(2,_),(4,_)] [(2,_)] (λ(i,bq,cq)=>[(5,.bH 21 bq i cq),(6,.d (dI i))]) (λ(i,bq,cq)=>[(21,.row bq cq T.ak 8 ((l.take i).map dW))]) (λ(i,bq,cq)=>i<=l.length) (λ(i,bq,cq)=>l.length-i) (0,0,0) (.cons (bY rfl) (.cons (iJ rfl) (.cons (AO rfl) .nil))) (.cons (kC rfl) .nil) ⟨Nat.zero_le _,.gy,.cons rfl .nil⟩ ?_
 rintro⟨i,bq,cq⟩ h1
 have h1:i<=l.length:=h1;refine AW.seq (AW.sg hE rfl (ai rfl (ai rfl (fJ sl.aT rfl rfl (aX rfl rfl rfl (OL.nil (AW.cond rfl (λh10=>?_) (λh10=>?_))))))))
 .try simp only[eG] at h10
  refine AW.skip (AW.seq (AW.block ?_));have hx:=hz (l.getD i 0) (getD_mem (by omega) 0)
  refine AW.dg 2 [0,1,2,3,4,5,6,7,8,9] au hE rfl (by kernel_rfl) (OI.aS (os:=[_,_,_,_,_,_,_,_,_,_]) rfl ?_)
  refine gU rfl (aN ag.Ring rfl rfl (vs:=[_,_]) rfl (aA rfl) (ai rfl (ai rfl (fM sl.aT 0 rfl rfl (by omega) rfl rfl (jS ag.ak rfl (vs:=[_,_,_,_,_,_,_,_]) rfl (aA rfl) (bF rfl vL (Jg (q:=(l.getD i 0)) (by omega)) (xe (y:=dW (l.getD i 0)) sl.aT MR rfl (by decide) ?_)))))))
  refine zB sl.aT rfl rfl rfl (by rw[dD,List.length_take];omega) (VC.d _) (λy hy=>by rw[kJ hy];rfl) (by simp;omega) (by simp;omega) (.inr rfl) (ys:=(l.take (i+1)).map dW) (by rw[take_snoc 0 (show i<l.length by omega),List.map_append];rfl) (n2:=i+1) rfl λb2 c2=>?_
  exact oC rfl (OL.nil (AW.rg hE rfl (ai rfl (aH rfl rfl (by omega) (aC rfl (OL.nil (AW.again (x:=(i,bq,cq)) (i+1,b2,c2) (by (simp only[];omega)) ⟨by omega,Knows.app .xf .gy,dw.app (.cons rfl .nil) (.cons rfl .nil)⟩)))))))
 .try simp only[eG] at h10
  refine AW.exit (AW.seq ?_);obtain rfl:i=l.length:=by omega
  have e9:l.take l.length=l:=List.take_length;exact AW.rg hE rfl (gU rfl (oC rfl (OL.nil (AW.ret ⟨.inr rfl,21,bq,cq,(l.take l.length).map dW,rfl,rfl,by rw[e9,dD];exact Nat.le_refl _,by rw[e9];exact List.take_of_length_le (by rw[dD];exact Nat.le_refl _)⟩))))
theorem ao4 {l:List Rat}(nl:l.length<=64)(hz:∀ x,x ∈ l->sz x<=134217728):aj P F.yU [lN,.d (tH l)] (.d (tH l)):=iR.data (aD3 nl hz) (dD ..).symm
theorem aP6  : aj P F.CU [lN] (lN):=by
 refine aj.intro fn.CU (by rfl) (by rfl) (aA (by rfl)) λE hE=>(AW.sg hE rfl (gW rfl rfl λb1=>(al z.Ring rfl λb2=>(OL.nil (AW.seq (AW.dg 2 [0,1,2,3,4,5,6] au hE rfl (by kernel_rfl) (OI.aS (os:=[_,_,_,_,_,_,_]) rfl ?_)))))))
 refine aV fd.nG rfl rfl (aG ce.int rfl rfl rfl (aV fd.Ls rfl rfl (aG ce.ints rfl rfl rfl (YL sl.ints rfl rfl (VC.d _) (λy hy=>by cases hy) (by decide) (by decide) (bd z.Ring pl.Ring (cs:=[_,_]) rfl (fG sz.Ring rfl rfl rfl rfl rfl (aA rfl) (cells2:=[_,_]) rfl (OL.nil ?_)))))))
 exact AW.ret (aO.r ⟨_,.dL rfl rfl ag.Ring (aA rfl) .nil,.ag (.cons (.le vR) (.cons (.le vR) .nil))⟩)
set_option maxRecDepth 8000 in
set_option maxHeartbeats 3200000 in
theorem aD4 {l:List bD}(nl:l.length<=20)(hz:∀ x,x ∈ l->sz x.q<=134217728):iR P F.yT [lN,.d (lK l)] (qH l).length T.ny 11 ((qH l).map je):=by
 refine iR.intro fn.yT (by rfl) (by rfl) (aA (by rfl)) 4 rfl λE hE=>(AW.sg hE rfl (gW rfl rfl λb2=>(jg rfl (OL.nil (AW.sg hE rfl (jg rfl (OL.nil ?_)))))))
 refine AW.seq (AW.seq (AW.own 5 77 T.ny 11 rfl rfl (AW.rg hE rfl (aC rfl (OL.nil (AW.block ?_))))));refine AW.aU (α:=Nat × Nat × Nat) [(1,_),(2,_),(4,_)] [(2,_)] (λ(i,bq,cq)=>[(5,.bH 77 bq (bM l i).length cq),(6,.d (dI i))]) (λ(i,bq,cq)=>[(77,rowA bq cq (bM l i))]) (λ(i,bq,cq)=>i<=l.length) (λ(i,bq,cq)=>l.length-i) (0,0,0) (.cons (bY rfl) (.cons (iJ rfl) (.cons (AO rfl) .nil))) (.cons (kC rfl) .nil) ⟨Nat.zero_le _,.gy,.cons rfl .nil⟩ ?_
 rintro⟨i,bq,cq⟩ h1
 have h1:i<=l.length:=h1;have hlo:=U3 l i;have hzo:=Ku hz i;refine AW.seq (AW.sg hE rfl (ai rfl (ai rfl (fJ sl.dm rfl rfl (aX rfl rfl rfl (OL.nil (AW.cond rfl (λEQ=>?_) (λEQ=>?_))))))))
 .try simp only[eG] at EQ
  refine AW.skip (AW.seq (AW.block (AW.sg hE rfl (ai rfl (ai rfl (fM sl.dm default rfl rfl (by omega) rfl rfl (jS ag.ny rfl (vs:=[_,_,_,_,_,_,_,_,_,_,_]) rfl (aA rfl) ?_)))))))
  refine al z.ny rfl λb7=>(fG sz.ny rfl rfl rfl rfl rfl (aA rfl) (cells2:=[_,_,_,_,_,_,_,_,_,_,_]) rfl (OL.nil (AW.seq ?_)));have hxz:=hz (l.getD i default) (getD_mem (by omega) default)
  refine AW.rg hE rfl (aN ag.Ring rfl rfl (vs:=[_,_]) rfl (aA rfl) (aV fd.sF rfl rfl (aN ag.ak rfl rfl (vs:=[_,_,_,_,_,_,_,_]) rfl (aA rfl) (bF rfl vL (Jg (q:=(l.getD i default).q) (by omega)) (aV fd.sF rfl rfl (fG sz.ak rfl rfl rfl rfl rfl (aA rfl) (cells2:=[_,_,_,_,_,_,_,_,_,_,_]) rfl (OL.nil ?_)))))))
  refine AW.sg hE rfl (aC rfl (OL.nil ?_));refine AW.JU (α:=Unit) [(1,_),(2,_),(4,_),(5,_),(6,_),(7,_)] [(2,_),(7,_),(77,_)] (λ_u=>[(8,.d (dI (tC (bM l i) (l.getD i default))))]) (λ_u=>[]) (λ_u=>True) (.cons (bY rfl) (.cons (iJ rfl) (.cons (AO rfl) (.cons (yO rfl) (.cons (bY rfl) (.cons (iJ rfl) .nil)))))) (.cons (kC rfl) (.cons (kC rfl) (.cons (rY rfl) .nil))) ?_ ?_
  .refine AW.block ?_;refine AW.aU (α:=Nat) [(1,_),(2,_),(4,_),(5,_),(6,_),(7,_)] [(2,_),(7,_),(77,_)] (λk=>[(8,.d (dI k))]) (λk=>[]) (λk=>k<=(bM l i).length/\∀ j,j<k->oV ((bM l i).getD j default) (l.getD i default)<0) (λk=>(bM l i).length-k) 0 (.cons (bY rfl) (.cons (iJ rfl) (.cons (AO rfl) (.cons (yO rfl) (.cons (bY rfl) (.cons (iJ rfl) .nil)))))) (.cons (kC rfl) (.cons (kC rfl) (.cons (rY rfl) .nil))) ⟨⟨Nat.zero_le _,λj hj=>by omega⟩,.di,.nil⟩ ?_
   rintro k ⟨h2,h3⟩
   have h2:k<=(bM l i).length:=h2;have h3:∀ j,j<k->oV ((bM l i).getD j default) (l.getD i default)<0:=h3;refine AW.seq (AW.seq (AW.dg 1 [0,1,2,3,4,5,6,7,8,9,10,11,12] au hE rfl (by kernel_rfl) (OI.aS (os:=[_,_,_,_,_,_,_,_,_,_,_,_,_]) rfl ?_)))
   refine ai rfl (gU rfl (Iy sl.dm rfl rfl (aX rfl rfl rfl (ai rfl (OL.split 30 rfl (λhk=>?_) (λhk=>?_))))))
   .have hk:k<(bM l i).length:=by have:=kK hk;omega
    refine OL.yes rfl (gU rfl (OL.yes rfl (ai rfl (OL.yes rfl (jk sl.dm rfl rfl (by omega) (OL.yes rfl (FW ag.ny (by decide) rfl rfl (nT (show k<(bM l i).length by omega)) (vs:=lC ((bM l i).getD k default)) rfl (aA rfl) ?_)))))))
    refine OL.yes rfl (aN ag.ny rfl rfl (vs:=[_,_,_,_,_,_,_,_,_,_,_]) rfl (aA rfl) (OL.yes rfl (bF rfl vL (Yg (x:=(bM l i).getD k default) (y:=(l.getD i default))) (OL.yes rfl (aX rfl rfl rfl (OL.split 37 rfl (λho=>?_) (λho=>?_)))))))
    .have ho:oV ((bM l i).getD k default) (l.getD i default)<0:=kK ho;refine lJ rfl rfl (OL.nil (J4 rfl ?_));refine AW.skip (AW.block (AW.rg hE rfl (ai rfl (aH rfl rfl (by omega) (aC rfl (OL.nil ?_))))))
     exact AW.again (x:=k) (k+1) (by omega) ⟨⟨by omega,λj hj=>by rcases Nat.lt_or_ge j k with h|h;exact h3 j h;obtain rfl:j=k:=(by omega);exact ho⟩,Knows.app .Vh .di,dw.app (.cons rfl (.cons rfl (.cons rfl .nil))) (.nil)⟩
    .have ho:¬ oV ((bM l i).getD k default) (l.getD i default)<0:=lD ho;refine lJ rfl rfl (OL.nil (oz rfl ?_));refine AW.exit ?_;exact AW.reach () ⟨trivial,Knows.app .Vh (.cons (bG.int (by rw[ao3 h2 h3 (.inr ho)])) .nil),dw.app (.cons rfl (.cons rfl (.cons rfl .nil))) (.nil)⟩
   .have hk:(bM l i).length<=k:=by have:=lD hk;omega
    refine OL.nd rfl (OL.nd rfl (OL.nd rfl (OL.nd rfl (OL.nd rfl (OL.nd rfl (OL.nd rfl (jZ rfl rfl ?_)))))));refine OL.nil (oz rfl ?_);refine AW.exit ?_;exact AW.reach () ⟨trivial,Knows.app .Vh (.cons (bG.int (by rw[ao3 h2 h3 (.inl (by omega))])) .nil),dw.app (.cons rfl (.cons rfl (.cons rfl .nil))) (.nil)⟩
  rintro⟨⟩ -
  have hat:(tC (bM l i) (l.getD i default))<=(bM l i).length:=List.findIdx_le_length;refine AW.seq (AW.seq (AW.dg 1 [0,1,2,3,4,5,6,7,8,9,10,11,12] au hE rfl (by kernel_rfl) (OI.aS (os:=[_,_,_,_,_,_,_,_,_,_,_,_,_]) rfl ?_)))
  refine ai rfl (gU rfl (Iy sl.dm rfl rfl (aX rfl rfl rfl (ai rfl (OL.split 45 rfl (λha=>?_) (λha=>?_))))))
  .have ha:(tC (bM l i) (l.getD i default))<(bM l i).length:=by have:=kK ha;omega
   refine OL.yes rfl (gU rfl (OL.yes rfl (ai rfl (OL.yes rfl (jk sl.dm rfl rfl (by omega) (OL.yes rfl (FW ag.ny (by decide) rfl rfl (nT (show (tC (bM l i) (l.getD i default))<(bM l i).length by omega)) (vs:=lC ((bM l i).getD (tC (bM l i) (l.getD i default)) default)) rfl (aA rfl) ?_)))))))
   refine OL.yes rfl (aN ag.ny rfl rfl (vs:=[_,_,_,_,_,_,_,_,_,_,_]) rfl (aA rfl) (OL.yes rfl (bF rfl vL (Yg (x:=((bM l i).getD (tC (bM l i) (l.getD i default)) default)) (y:=(l.getD i default))) (OL.yes rfl (dG rfl rfl rfl (OL.split 52 rfl (λho=>?_) (λho=>?_)))))))
   .have ho:oV ((bM l i).getD (tC (bM l i) (l.getD i default)) default) (l.getD i default)=0:=kK ho;have hyz:=hzo ((bM l i).getD (tC (bM l i) (l.getD i default)) default) (getD_mem ha default);refine lJ rfl rfl (OL.nil (J4 rfl ?_));refine AW.seq (AW.dg 1 [0,1,2,3,4,5,6,7,8,9,10,11,12,13] au hE rfl (by kernel_rfl) (OI.aS (os:=[_,_,_,_,_,_,_,_,_,_,_,_,_,_]) rfl ?_))
    refine gU rfl (ai rfl (aN ag.Ring rfl rfl (vs:=[_,_]) rfl (aA rfl) (gU rfl (ai rfl (jk sl.dm rfl rfl (by omega) (faE fd.sF rfl rfl ?_))))))
    refine FW ag.ak (by decide) rfl rfl (nT ha) (vs:=[.d (dB (fP ((bM l i).getD (tC (bM l i) (l.getD i default)) default).q).neg),.d (aF (fP ((bM l i).getD (tC (bM l i) (l.getD i default)) default).q).num),.d (aF (fP ((bM l i).getD (tC (bM l i) (l.getD i default)) default).q).den),.d (dI 0),.d (dB false),.d (dU 0),.d (.sl []),.d (.sl [])]) rfl (aA rfl) ?_
    refine aV fd.sF rfl rfl (aN ag.ak rfl rfl (vs:=[_,_,_,_,_,_,_,_]) rfl (aA rfl) (bF rfl vL (WQ (p:=((bM l i).getD (tC (bM l i) (l.getD i default)) default).q) (q:=(l.getD i default).q) (by omega) (by omega)) (jk sl.dm rfl rfl (by omega) (faE fd.sF rfl rfl ?_))))
    refine stF sz.ak rfl (d:=dW (((bM l i).getD (tC (bM l i) (l.getD i default)) default).q+(l.getD i default).q)) MR rfl rfl (nT ha) (by decide) (el2:=je { ((bM l i).getD (tC (bM l i) (l.getD i default)) default) with q:=((bM l i).getD (tC (bM l i) (l.getD i default)) default).q+(l.getD i default).q }) rfl (es2:=((bM l i).set (tC (bM l i) (l.getD i default)) { ((bM l i).getD (tC (bM l i) (l.getD i default)) default) with q:=((bM l i).getD (tC (bM l i) (l.getD i default)) default).q+(l.getD i default).q }).map je) (by rw[List.map_set]) ?_
    refine OL.nil (AW.exit (AW.rg hE rfl (ai rfl (aH rfl rfl (by omega) (aC rfl (OL.nil ?_))))))
    exact AW.again (x:=(i,bq,cq)) (i+1,bq,cq) (by (simp only[];omega)) ⟨by omega,Knows.app .xf (.cons (by rw[uz (by omega),zF,if_pos ⟨ha,ho⟩,List.length_set];exact bG.refl _) .di),dw.app (.cons rfl .nil) (.cons (by rw[uz (by omega),zF,if_pos ⟨ha,ho⟩];rfl) .nil)⟩
   .have ho:¬ oV ((bM l i).getD (tC (bM l i) (l.getD i default)) default) (l.getD i default)=0:=lD ho;have hin:zF (bM l i) (l.getD i default)=(bM l i).take (tC (bM l i) (l.getD i default))++(l.getD i default)::(bM l i).drop (tC (bM l i) (l.getD i default)):=if_neg (λe=>ho e.2);refine lJ rfl rfl (OL.nil (oz rfl ?_));refine AW.skip ?_;have htk:((bM l i).take (tC (bM l i) (l.getD i default))).length=(tC (bM l i) (l.getD i default)):=by rw[List.length_take];omega
    have hdl:((bM l i).drop (tC (bM l i) (l.getD i default))).length=(bM l i).length-(tC (bM l i) (l.getD i default)):=List.length_drop;refine AW.freeze 77 rfl (AW.to [(1,.d (lK l)),(2,.ptr 2 b2 0),(4,.mt),(5,.d (lK (bM l i))),(6,.d (dI i)),(7,.ptr 7 b7 0),(8,.d (dI (tC (bM l i) (l.getD i default))))] [(2,.box b2 T.Ring [.d (dI 1),.d (.sl [])]),(7,.box b7 T.ny (lC (l.getD i default)))] (.cons vR (.cons bG.ptr (.cons vR (.cons (eH (by rw[dD]) rfl) (.cons vR (.cons bG.ptr .di)))))) (.cons rfl (.cons rfl .nil)) ?_)
    refine AW.dg 2 [0,1,2,4,5,7,8,9,3,6,10,11] au hE rfl (by kernel_rfl) (OI.aS (os:=[_,_,_,_,_,_,_,_,_,_,_,_]) rfl ?_)
    refine ai rfl (ai rfl (ad5 sl.dm rfl rfl (λ_=>rfl) (by omega) (l2:=(bM l i).take (tC (bM l i) (l.getD i default))) (by rw[Int.toNat_natCast]) (aN ag.ny rfl rfl (vs:=[_,_,_,_,_,_,_,_,_,_,_]) rfl (aA rfl) (xe (y:=je (l.getD i default)) sl.dm y8 rfl (by decide) (ai rfl (ai rfl (ad6 sl.dm rfl rfl (λ_=>rfl) (by omega) (l2:=(bM l i).drop (tC (bM l i) (l.getD i default))) (by rw[Int.toNat_natCast]) ?_)))))))
    refine apM sl.dm rfl rfl (VC.d _) Ef (by rw[dD,htk];omega) (by rw[dD,htk];omega) rfl λb70 c70=>?_
    refine zB sl.dm rfl rfl rfl (by rw[dD]) (VC.d _) (λy hy=>by rw[kJ hy];rfl) (by rw[dD,htk];simp only[jL];omega) (by rw[dD,htk];simp only[jL];omega) (.inl rfl) (ys:=((bM l i).take (tC (bM l i) (l.getD i default))++[(l.getD i default)]).map je) (by rw[List.map_append];rfl) (n2:=(tC (bM l i) (l.getD i default))+1) (by rw[dD,htk];rfl) λb73 c73=>?_
    refine zB sl.dm rfl rfl rfl (by rw[dD,iU,htk];rfl) (VC.d _) Ef (by rw[dD,hdl];omega) (by rw[dD,hdl];omega) (.inl rfl) (ys:=((bM l i).take (tC (bM l i) (l.getD i default))++(l.getD i default)::(bM l i).drop (tC (bM l i) (l.getD i default))).map je) (by rw[<- List.map_append,List.append_assoc];rfl) (n2:=((bM l i).take (tC (bM l i) (l.getD i default))++(l.getD i default)::(bM l i).drop (tC (bM l i) (l.getD i default))).length) (by rw[dD,hdl,iU,List.length_cons,htk,hdl];omega) λb77 c77=>?_
    refine oC rfl (OL.nil (AW.rg hE rfl (ai rfl (aH rfl rfl (by omega) (aC rfl (OL.nil ?_))))))
    exact AW.again (x:=(i,bq,cq)) (i+1,b77,c77) (by (simp only[];omega)) ⟨by omega,Knows.app .xf (.cons (by rw[uz (by omega),hin];exact bG.refl _) .di),dw.app (.cons rfl .nil) (.cons (by rw[uz (by omega),hin];rfl) .nil)⟩
  .have ha:¬ (tC (bM l i) (l.getD i default))<(bM l i).length:=by have:=lD ha;omega
   have hin:zF (bM l i) (l.getD i default)=(bM l i).take (tC (bM l i) (l.getD i default))++(l.getD i default)::(bM l i).drop (tC (bM l i) (l.getD i default)):=if_neg (λe=>ha e.1);refine OL.nd rfl (OL.nd rfl (OL.nd rfl (OL.nd rfl (OL.nd rfl (OL.nd rfl (OL.nd rfl (jZ rfl rfl ?_)))))));refine OL.nil (oz rfl ?_);refine AW.skip ?_;have htk:((bM l i).take (tC (bM l i) (l.getD i default))).length=(tC (bM l i) (l.getD i default)):=by rw[List.length_take];omega
   have hdl:((bM l i).drop (tC (bM l i) (l.getD i default))).length=(bM l i).length-(tC (bM l i) (l.getD i default)):=List.length_drop;refine AW.freeze 77 rfl (AW.to [(1,.d (lK l)),(2,.ptr 2 b2 0),(4,.mt),(5,.d (lK (bM l i))),(6,.d (dI i)),(7,.ptr 7 b7 0),(8,.d (dI (tC (bM l i) (l.getD i default))))] [(2,.box b2 T.Ring [.d (dI 1),.d (.sl [])]),(7,.box b7 T.ny (lC (l.getD i default)))] (.cons vR (.cons bG.ptr (.cons vR (.cons (eH (by rw[dD]) rfl) (.cons vR (.cons bG.ptr .di)))))) (.cons rfl (.cons rfl .nil)) ?_)
   refine AW.dg 2 [0,1,2,4,5,7,8,9,3,6,10,11] au hE rfl (by kernel_rfl) (OI.aS (os:=[_,_,_,_,_,_,_,_,_,_,_,_]) rfl ?_)
   refine ai rfl (ai rfl (ad5 sl.dm rfl rfl (λ_=>rfl) (by omega) (l2:=(bM l i).take (tC (bM l i) (l.getD i default))) (by rw[Int.toNat_natCast]) (aN ag.ny rfl rfl (vs:=[_,_,_,_,_,_,_,_,_,_,_]) rfl (aA rfl) (xe (y:=je (l.getD i default)) sl.dm y8 rfl (by decide) (ai rfl (ai rfl (ad6 sl.dm rfl rfl (λ_=>rfl) (by omega) (l2:=(bM l i).drop (tC (bM l i) (l.getD i default))) (by rw[Int.toNat_natCast]) ?_)))))))
   refine apM sl.dm rfl rfl (VC.d _) Ef (by rw[dD,htk];omega) (by rw[dD,htk];omega) rfl λb70 c70=>?_
   refine zB sl.dm rfl rfl rfl (by rw[dD]) (VC.d _) (λy hy=>by rw[kJ hy];rfl) (by rw[dD,htk];simp only[jL];omega) (by rw[dD,htk];simp only[jL];omega) (.inl rfl) (ys:=((bM l i).take (tC (bM l i) (l.getD i default))++[(l.getD i default)]).map je) (by rw[List.map_append];rfl) (n2:=(tC (bM l i) (l.getD i default))+1) (by rw[dD,htk];rfl) λb73 c73=>?_
   refine zB sl.dm rfl rfl rfl (by rw[dD,iU,htk];rfl) (VC.d _) Ef (by rw[dD,hdl];omega) (by rw[dD,hdl];omega) (.inl rfl) (ys:=((bM l i).take (tC (bM l i) (l.getD i default))++(l.getD i default)::(bM l i).drop (tC (bM l i) (l.getD i default))).map je) (by rw[<- List.map_append,List.append_assoc];rfl) (n2:=((bM l i).take (tC (bM l i) (l.getD i default))++(l.getD i default)::(bM l i).drop (tC (bM l i) (l.getD i default))).length) (by rw[dD,hdl,iU,List.length_cons,htk,hdl];omega) λb77 c77=>?_
   refine oC rfl (OL.nil (AW.rg hE rfl (ai rfl (aH rfl rfl (by omega) (aC rfl (OL.nil ?_))))))
   exact AW.again (x:=(i,bq,cq)) (i+1,b77,c77) (by (simp only[];omega)) ⟨by omega,Knows.app .xf (.cons (by rw[uz (by omega),hin];exact bG.refl _) .di),dw.app (.cons rfl .nil) (.cons (by rw[uz (by omega),hin];rfl) .nil)⟩
 .try simp only[eG] at EQ
  refine AW.exit (AW.seq ?_);obtain rfl:i=l.length:=by omega
  refine AW.freeze 77 rfl (AW.to [(2,.ptr 2 b2 0),(4,.mt),(5,.d (lK (bM l l.length)))] [(2,.box b2 T.Ring [.d (dI 1),.d (.sl [])])] (.cons bG.ptr (.cons vR (.cons (eH (by rw[dD]) rfl) .nil))) (.cons rfl .nil) ?_)
  refine AW.rg hE rfl (jg rfl (OL.nil (AW.seq (AW.seq (AW.own 9 98 T.ny 11 rfl rfl (AW.rg hE rfl (aC rfl ?_)))))));refine OL.nil (AW.block ?_);refine AW.aU (α:=Nat × Nat × Nat) [(2,_),(4,_),(5,_)] [(2,_)] (λ(k,bk,ck)=>[(9,.bH 98 bk (RN ((bM l l.length).take k)).length ck),(10,.d (dI k))]) (λ(k,bk,ck)=>[(98,rowA bk ck (RN ((bM l l.length).take k)))]) (λ(k,bk,ck)=>k<=(bM l l.length).length) (λ(k,bk,ck)=>(bM l l.length).length-k) (0,0,0) (.cons (iJ rfl) (.cons (AO rfl) (.cons (bY rfl) .nil))) (.cons (kC rfl) .nil) ⟨Nat.zero_le _,.gy,.cons rfl .nil⟩ ?_
  rintro⟨k,bk,ck⟩ h5
  have h5:k<=(bM l l.length).length:=h5;have hnl:(RN ((bM l l.length).take k)).length<=k:=by unfold RN;refine Nat.le_trans (List.length_filter_le ..) ?_;rw[List.length_take];omega
  refine AW.seq (AW.sg hE rfl (ai rfl (ai rfl (fJ sl.dm rfl rfl (aX rfl rfl rfl (OL.nil (AW.cond rfl (λh81=>?_) (λh81=>?_))))))))
  .try simp only[eG] at h81
   refine AW.skip (AW.seq (AW.block (AW.seq ?_)));have hk9:k<(bM l l.length).length:=by omega
   have hyz:=Ku hz l.length _ (getD_mem hk9 default);have bi4:sz ((bM l l.length).getD k default).q<=68719476736:=by have:=Nat.mul_le_mul_right 134217730 (show l.length+1<=21 by omega);omega
   refine AW.dg 1 [0,1,2,3,4,5,6,7] au hE rfl (by kernel_rfl) (OI.aS (os:=[_,_,_,_,_,_,_,_]) rfl ?_)
   refine aN ag.Ring rfl rfl (vs:=[_,_]) rfl (aA rfl) (ai rfl (ai rfl (fM sl.dm default rfl rfl hk9 rfl rfl (YK fd.sF rfl rfl (jS ag.ak rfl (vs:=[_,_,_,_,_,_,_,_]) rfl (aA rfl) (bF rfl vL (ao0 (q:=((bM l l.length).getD k default).q) bi4) (nt rfl ?_)))))));refine OL.nil (AW.cond rfl (λhq=>?_) (λhq=>?_))
   .have hq:((bM l l.length).getD k default).q≠0:=DC hq;refine AW.rg hE rfl (gU rfl (ai rfl (ai rfl (fM sl.dm default rfl rfl hk9 rfl rfl (jS ag.ny rfl (vs:=[_,_,_,_,_,_,_,_,_,_,_]) rfl (aA rfl) (xe (y:=je ((bM l l.length).getD k default)) sl.dm y8 rfl (by decide) ?_))))))
    refine zB sl.dm rfl rfl rfl (by rw[dD]) (VC.d _) (λy hy=>by rw[kJ hy];rfl) (by simp;omega) (by simp;omega) (.inr rfl) (ys:=(RN ((bM l l.length).take k)++[(bM l l.length).getD k default]).map je) (by rw[List.map_append];rfl) (n2:=(RN ((bM l l.length).take k)++[(bM l l.length).getD k default]).length) (by rw[iU];rfl) λb98 c98=>?_
    refine oC rfl (OL.nil (AW.rg hE rfl (ai rfl (aH rfl rfl (by omega) (aC rfl (OL.nil ?_))))))
    exact AW.again (x:=(k,bk,ck)) (k+1,b98,c98) (by (simp only[];omega)) ⟨by omega,Knows.app .xf (.cons (by rw[Ii hk9,if_pos hq];exact bG.refl _) .di),dw.app (.cons rfl .nil) (.cons (by rw[Ii hk9,if_pos hq];rfl) .nil)⟩
   .have hq:((bM l l.length).getD k default).q=0:=BV hq;refine AW.skip (AW.rg hE rfl (ai rfl (aH rfl rfl (by omega) (aC rfl (OL.nil ?_)))))
    exact AW.again (x:=(k,bk,ck)) (k+1,bk,ck) (by (simp only[];omega)) ⟨by omega,Knows.app .xf (.cons (by rw[Ii hk9,if_neg (λe=>e hq),List.append_nil];exact bG.refl _) .di),dw.app (.cons rfl .nil) (.cons (by rw[Ii hk9,if_neg (λe=>e hq),List.append_nil];rfl) .nil)⟩
  .try simp only[eG] at h81
   refine AW.exit (AW.seq ?_);obtain rfl:k=(bM l l.length).length:=by omega
   have e9:RN ((bM l l.length).take (bM l l.length).length)=qH l:=by rw[<- ao2,List.take_length]
   dsimp only
   rw[e9];exact AW.rg hE rfl (gU rfl (oC rfl (OL.nil (AW.ret ⟨.inr rfl,98,bk,ck,(qH l).map je,rfl,rfl,by rw[dD];exact Nat.le_refl _,List.take_of_length_le (by rw[dD];exact Nat.le_refl _)⟩))))
theorem ao5 {l:List bD}(nl:l.length<=20)(hz:∀ x,x ∈ l->sz x.q<=134217728):aj P F.yT [lN,.d (lK l)] (.d (lK (qH l))):=iR.data (aD4 nl hz) (dD ..).symm
theorem NR {a:Au}(h:a.Ok)(za:a.Sz 134217728 20)(s2:a.st<=64):aj P F.Cm [zG a] (zG (rQ a)):=by
 have e1:=h.ini;have e2:=h.fin;have e3:=za.num;refine aj.intro fn.Cm (by rfl) (by rfl) (aA (by rfl)) λE hE=>(AW.sg hE rfl (gW rfl rfl λb1=>(al z.Auto rfl λb2=>(OL.nil (AW.seq (AW.dg 1 [0,1,2,3,4,5,6,7,8,9,10,11,12,13,14,15,16,17,18,19,20,21,22,23] au hE rfl (by kernel_rfl) (OI.aS (os:=[_,_,_,_,_,_,_,_,_,_,_,_,_,_,_,_,_,_,_,_,_,_,_,_]) rfl ?_)))))))
 refine aV fd.jc rfl rfl (aN ag.Ring rfl rfl (vs:=[_,_]) rfl (aA rfl) (bF rfl .di (aP6) (aV fd.rO rfl rfl (aG ce.int rfl rfl rfl (aV fd.jW rfl rfl (aG ce.int rfl rfl rfl (aV fd.jc rfl rfl ?_)))))));refine aN ag.Ring rfl rfl (vs:=[_,_]) rfl (aA rfl) (aV fd.uZ rfl rfl (aG ce.aT rfl rfl rfl (bF rfl vL (ao4 (l:=a.ini) (by omega) za.ini) (aV fd.jc rfl rfl (aN ag.Ring rfl rfl (vs:=[_,_]) rfl (aA rfl) (aV fd.xJ rfl rfl (aG ce.aT rfl rfl rfl ?_)))))))
 refine bF rfl vL (ao4 (l:=a.fin) (by omega) za.fin) (aV fd.jc rfl rfl (aN ag.Ring rfl rfl (vs:=[_,_]) rfl (aA rfl) (aV fd.iI rfl rfl (aG ce.dm rfl rfl rfl (bF rfl vL (ao5 (l:=a.aP) e3 za.arc) (Vk (cs:=[_,_,_,_,_,_,_]) z.Auto pl.Auto (rG (by exact evA rfl) (rG (by exact zC rfl) (rG (by exact zC rfl) (rG (by exact zC rfl) (rG (by exact zC rfl) (rG (by exact zC rfl) (Vj))))))) (by rfl) (fG sz.Auto rfl rfl rfl rfl rfl (aA rfl) (cells2:=[_,_,_,_,_,_,_]) rfl ?_)))))))
 exact OL.nil (AW.ret (aO.r ⟨_,.dL rfl rfl ag.Auto (aA rfl) .nil,.ag (.cons (.le vR) (.cons (.le vR) (.cons (.le vR) (.cons (.le vR) (.cons (.le vR) (.cons (.le vR) (.cons (.le vR) .nil)))))))⟩))

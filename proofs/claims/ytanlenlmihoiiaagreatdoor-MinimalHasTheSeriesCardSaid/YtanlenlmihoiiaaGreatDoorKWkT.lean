/-
  Walks of the specification of automata (printed by mk2.py).
-/
import Derived.Test.YtanlenlmihoiiaaGreatDoorKWkS
set_option linter.unusedVariables false
set_option linter.unusedSimpArgs false
namespace Go.Proofs.YtanlenlmihoiiaaGreatDoor
open Go Go.AL
theorem ak6 (x y:bM):qN [(x.f:Int),(x.l:Int),(x.t:Int)] [(y.f:Int),(y.l:Int),(y.t:Int)]=oH x y:=by
 have key:∀ (a b:Nat) (u v:List Int),cmpL ((a:Int)::u) ((b:Int)::v)=if cI a b≠0 then cI a b else cmpL u v:=λa b u v=>by
  rw[cmpL];unfold cI;by_cases h1:a<b
  .rw[if_pos (by omega),if_pos h1,if_pos (by decide)]
  .rw[if_neg (by omega),if_neg h1]
   by_cases h2:b<a
   .rw[if_pos (by omega),if_pos h2,if_pos (by decide)]
   .rw[if_neg (by omega),if_neg h2,if_neg (by decide)]
 unfold qN oH;rw[if_neg (by simp),key,key,key]
 congr 2
 split
 .rfl
 .rename_i h;rw[show cmpL [] []=0 from rfl];exact (Decidable.not_not.1 h).symm
def bY (l:List bM)(i:Nat):List bM:=(l.take i).foldl Ap []
theorem vO {l:List bM}{i:Nat}(hi:i<l.length):bY l (i+1)=Ap (bY l i) (l.getD i default):=by
 unfold bY;rw[take_snoc default hi,List.foldl_append];rfl
theorem aD1 (out:List bM)(x:bM):(Ap out x).length<=out.length+1:=by
 unfold Ap
 split
 .rw[List.length_set];omega
 .rw[jd,List.length_cons,List.length_take,List.length_drop];omega
theorem aT4 {k:Nat}{out:List bM}{x:bM}(h:ai1 k out)(hx:sz x.q<=134217728):ai1 (k+1) (Ap out x):=by
 have up:∀ y,sz y<=(k+1)*134217730->sz y<=(k+1+1)*134217730:=λy hy=>Nat.le_trans hy (Nat.mul_le_mul_right _ (Nat.le_succ _));intro y hy;unfold Ap at hy
 split at hy
 .rename_i hc;rcases List.mem_or_eq_of_mem_set hy with hy|rfl
  .exact up _ (h y hy)
  .have h1:=h _ (getD_mem hc.1 default);have h2:=zQ (out.getD (uO out x) default).q x.q;show sz ((out.getD (uO out x) default).q+x.q)<=_
   omega
 .rcases ru hy with hy|hy
  .exact up _ (h y (List.mem_of_mem_take hy))
  .rcases List.mem_cons.1 hy with rfl|hy
   .omega
   .exact up _ (h y (List.mem_of_mem_drop hy))
theorem WO (l:List bM):∀ i,(bY l i).length<=i
 | 0=>Nat.le_refl _
 | i + 1 => by
  have ih:=WO l i;rcases Nat.lt_or_ge i l.length with h|h
  .rw[vO h];have:=aD1 (bY l i) (l.getD i default);omega
  .unfold bY at *;rw[List.take_of_length_le h] at ih;rw[List.take_of_length_le (by omega)];omega
theorem Nr {l:List bM}(hz:∀ x,x ∈ l->sz x.q<=134217728):∀ i,ai1 i (bY l i)
 | 0=>λx hx=>by cases hx
 | i + 1 => by
  rcases Nat.lt_or_ge i l.length with h|h
  .rw[vO h];exact aT4 (Nr hz i) (hz _ (getD_mem h default))
  .have e:bY l (i+1)=bY l i:=by unfold bY;rw[List.take_of_length_le h,List.take_of_length_le (by omega)]
   rw[e];exact λx hx=>Nat.le_trans (Nr hz i x hx) (Nat.mul_le_mul_right _ (Nat.le_succ _))
theorem aD2 (l:List bM):UF (bY l l.length)=bU l:=by unfold bY bU;rw[List.take_length]
theorem aD3 {out:List bM}{x:bM}{k:Nat}(hk:k<=out.length)(h:∀ j,j<k->oH (out.getD j default) x<0)(h2:k=out.length \/ ¬ oH (out.getD k default) x<0):uO out x=k:=by
 unfold uO;have get:∀ j,j<out.length->out[j]? = some (out.getD j default):=λj hj=>by rw[iO,lF hj];rfl
 rcases Nat.lt_or_ge k out.length with hl|hl
 .have hn:¬ oH (out.getD k default) x<0:=h2.resolve_left (by omega)
  refine (List.findIdx_eq hl).2 ⟨?_,λj hj=>?_⟩
  .have e:out[k]=out.getD k default:=by rw[iO,lF hl];rfl
   rw[e];exact decide_eq_true hn
  .have e:out[j]=out.getD j default:=by rw[iO,lF (by omega)];rfl
   rw[e];exact decide_eq_false (λk9=>k9 (h j hj))
 .have hk9:k=out.length:=by omega
  subst hk9;refine List.findIdx_eq_length.2 λy hy=>?_;obtain⟨j,hj,rfl⟩:=List.mem_iff_getElem.1 hy;have e:out[j]=out.getD j default:=by rw[iO,lF hj];rfl
  rw[e];exact decide_eq_false (λk9=>k9 (h j hj))
theorem JM {l:List bM}{i:Nat}(hi:i<l.length):UF (l.take (i+1))=UF (l.take i)++(if (l.getD i default).q≠0 then [l.getD i default] else []):=by
 rw[take_snoc default hi];unfold UF;rw[List.filter_append];congr 1;by_cases h:(l.getD i default).q≠0
 .rw[if_pos h];simp only[List.filter_cons,decide_eq_true h,List.filter_nil,if_true]
 .rw[if_neg h];simp only[List.filter_cons,decide_eq_false h,List.filter_nil];rfl
theorem Pn {l m:List Int}(nl:l.length<=1099511627776):ai P F.xK [.d (ints l),.d (ints m)] (.d (dI (qN l m))):=by
 refine ai.intro fn.xK (by rfl) (by rfl) (au (by rfl)) λE hE=>(AW.sg hE rfl (aG rfl (OL.nil (AW.seq (AW.sg hE rfl (aj rfl (fO sl.ints rfl rfl ?_)))))))
 refine aj rfl (fO sl.ints rfl rfl (fJ rfl rfl rfl (OL.nil (AW.cond rfl (λhn=>?_) (λhn=>?_)))))
 .have hn:l.length≠m.length:=λe=>zH hn (by rw[e])
  refine AW.seq (AW.sg hE rfl (aj rfl (fO sl.ints rfl rfl (aj rfl (fO sl.ints rfl rfl (bD rfl rfl rfl (OL.nil ?_)))))));refine AW.cond rfl (λhlt=>?_) (λhlt=>?_)
  .have hlt:l.length<m.length:=by have:=mX hlt;omega
   exact AW.sg hE rfl (aG rfl (OL.nil (AW.ret (aT.r ⟨_,.tmp rfl .nil,.le (bV.int (by unfold qN;rw[if_pos hn,if_pos hlt]))⟩))))
  .have hlt:¬ l.length<m.length:=by have:=oN hlt;omega
   exact AW.skip (AW.sg hE rfl (aG rfl (OL.nil (AW.ret (aT.r ⟨_,.tmp rfl .nil,.le (bV.int (by unfold qN;rw[if_pos hn,if_neg hlt]))⟩)))))
 .have hn:l.length=m.length:=by have:=yc hn;omega
  rw[show qN l m=cmpL l m from if_neg (by omega)]
  refine AW.skip (AW.seq (AW.sg hE rfl (aG rfl (OL.nil (AW.block ?_)))));refine AW.aX (α:=Nat) [(0,_),(1,_)] [] (λi=>[(5,.d (dI i))]) (λi=>[]) (λi=>i<=l.length/\cmpL l m=cmpL (l.drop i) (m.drop i)) (λi=>l.length-i) 0 (.cons (dA rfl) (.cons (dA rfl) .nil)) .nil ⟨⟨Nat.zero_le _,rfl⟩,.dw,.nil⟩ ?_
  rintro i ⟨h1,h3⟩
  have h1:i<=l.length:=h1;have h3:cmpL l m=cmpL (l.drop i) (m.drop i):=h3;refine AW.seq (AW.sg hE rfl (aj rfl (aj rfl (fO sl.ints rfl rfl (bD rfl rfl rfl (OL.nil (AW.cond rfl (λh19=>?_) (λh19=>?_))))))))
  .try simp only[fG] at h19
   refine AW.skip (AW.seq (AW.block (AW.seq (AW.seq (AW.dg 1 [0,1,2,3,4,5,6,7,8] ak hE rfl (by kernel_rfl) (OI.aP (os:=[_,_,_,_,_,_,_,_,_]) rfl ?_))))))
   refine aj rfl (aj rfl (fD sl.ints 0 rfl rfl (by omega) rfl rfl (jb ce.int rfl (aj rfl (aj rfl (fD sl.ints 0 rfl rfl (by omega) rfl rfl (jb ce.int rfl ?_)))))))
   refine bD rfl rfl rfl (OL.nil (AW.cond rfl (λha=>?_) (λha=>?_)))
   .have ha:=mX ha;exact AW.sg hE rfl (aG rfl (OL.nil (AW.ret (aT.r ⟨_,.tmp rfl .nil,.le (bV.int (by rw[h3,KG (by omega) (by omega),show Kt (l.getD i 0) (m.getD i 0) = -1 from if_pos ha,if_neg (by decide)]))⟩))))
   .have ha:=oN ha;refine AW.skip (AW.seq (AW.dg 1 [0,1,2,3,4,5,6,7,8] ak hE rfl (by kernel_rfl) (OI.aP (os:=[_,_,_,_,_,_,_,_,_]) rfl ?_)))
    refine aj rfl (aj rfl (fD sl.ints 0 rfl rfl (by omega) rfl rfl (jb ce.int rfl (aj rfl (aj rfl (fD sl.ints 0 rfl rfl (by omega) rfl rfl (jb ce.int rfl ?_)))))))
    refine kS rfl rfl rfl (OL.nil (AW.cond rfl (λhb=>?_) (λhb=>?_)))
    .have hb:=mX hb;exact AW.sg hE rfl (aG rfl (OL.nil (AW.ret (aT.r ⟨_,.tmp rfl .nil,.le (bV.int (by rw[h3,KG (by omega) (by omega),show Kt (l.getD i 0) (m.getD i 0)=1 by unfold Kt;rw[if_neg ha,if_pos hb],if_neg (by decide)]))⟩))))
    .have hb:=oN hb;exact AW.skip (AW.rg hE rfl (aj rfl (aJ rfl rfl (by omega) (aG rfl (OL.nil (AW.again (x:=i) (i+1) (by omega) ⟨⟨by omega,by rw[h3,KG (by omega) (by omega),if_pos (by unfold Kt;rw[if_neg ha,if_neg hb])]⟩,Knows.app .jm .dw,.nil⟩))))))
  .try simp only[fG] at h19
   exact AW.exit (AW.sg hE rfl (aG rfl (OL.nil (AW.ret (aT.r ⟨_,.tmp rfl .nil,.le (bV.int (by rw[h3,List.drop_eq_nil_of_le (show l.length<=i by omega),List.drop_eq_nil_of_le (show m.length<=i by omega),cmpL]))⟩)))))
theorem Um {x y:bM}:ai P F.AO [KE x,KE y] (.d (dI (oH x y))):=by
 refine ai.intro fn.AO (by rfl) (by rfl) (au (by rfl)) λE hE=>(AW.sg hE rfl (iG rfl rfl λb2=>(iG rfl rfl λb3=>(aG rfl (OL.nil (AW.sg hE rfl (aV fd.Ff rfl rfl ?_)))))))
 refine aA ce.int rfl rfl rfl (aV fd.Bj rfl rfl (aA ce.int rfl rfl rfl (aV fd.Cj rfl rfl (aA ce.int rfl rfl rfl (ltN (ys:=[dI x.f,dI x.l,dI x.t]) sl.ints rfl (pdC (VC.d _).vd (pdC (VC.d _).vd (pdC (VC.d _).vd pdN))) rfl (by decide) (by decide) (λy hy=>by simp at hy;rcases hy with rfl|rfl|rfl <;> rfl) (aV fd.Ff rfl rfl (aA ce.int rfl rfl rfl ?_)))))))
 refine aV fd.Bj rfl rfl (aA ce.int rfl rfl rfl (aV fd.Cj rfl rfl (aA ce.int rfl rfl rfl (ltN (ys:=[dI y.f,dI y.l,dI y.t]) sl.ints rfl (pdC (VC.d _).vd (pdC (VC.d _).vd (pdC (VC.d _).vd pdN))) rfl (by decide) (by decide) (λy hy=>by simp at hy;rcases hy with rfl|rfl|rfl <;> rfl) (bP rfl vL (Pn (l:=[(x.f:Int),(x.l:Int),(x.t:Int)]) (m:=[(y.f:Int),(y.l:Int),(y.t:Int)]) (show 3<=1099511627776 by decide)) ?_)))))
 rw[ak6];exact aG rfl (OL.nil (AW.ret (aT.r ⟨_,.tmp rfl .nil,.le vR⟩)))
theorem Ns {l:List Rat}(nl:l.length<=64)(hz:∀ x,x ∈ l->sz x<=134217728):qf P F.zU [jG,.d (lC l)] l.length T.ay 8 (l.map dW):=by
 refine qf.intro fn.zU (by rfl) (by rfl) (au (by rfl)) 4 rfl λE hE=>(AW.sg hE rfl (iG rfl rfl λb2=>(nI rfl (OL.nil (AW.sg hE rfl (nI rfl (OL.nil ?_)))))))
 refine AW.seq (AW.seq (AW.own 5 21 T.ay 8 rfl rfl (AW.rg hE rfl (aG rfl (OL.nil (AW.block ?_))))));refine AW.aX (α:=Nat × Nat × Nat) [(1,_),(2,_),(4,_)] [(2,_)] (λ(i,bq,cq)=>[(5,.bK 21 bq i cq),(6,.d (dI i))]) (λ(i,bq,cq)=>[(21,.row bq cq T.ay 8 ((l.take i).map dW))]) (λ(i,bq,cq)=>i<=l.length) (λ(i,bq,cq)=>l.length-i) (0,0,0) (.cons (dA rfl) (.cons (iF rfl) (.cons (BO rfl) .nil))) (.cons (jc rfl) .nil) ⟨Nat.zero_le _,.jm,.cons rfl .nil⟩ ?_
 rintro⟨i,bq,cq⟩ h1
 have h1:i<=l.length:=h1;refine AW.seq (AW.sg hE rfl (aj rfl (aj rfl (fO sl.aS rfl rfl (bD rfl rfl rfl (OL.nil (AW.cond rfl (λh10=>?_) (λh10=>?_))))))))
 .try simp only[fG] at h10
  refine AW.skip (AW.seq (AW.block ?_));have hx:=hz (l.getD i 0) (getD_mem (by omega) 0)
  refine AW.dg 2 [0,1,2,3,4,5,6,7,8,9] ak hE rfl (by kernel_rfl) (OI.aP (os:=[_,_,_,_,_,_,_,_,_,_]) rfl ?_)
  refine jl rfl (aQ ag.Ring rfl rfl (vs:=[_,_]) rfl (au rfl) (aj rfl (aj rfl (fD sl.aS 0 rfl rfl (by omega) rfl rfl (iR ag.ay rfl (vs:=[_,_,_,_,_,_,_,_]) rfl (au rfl) (bP rfl vL (KT (q:=(l.getD i 0)) (by omega)) (xG (y:=dW (l.getD i 0)) sl.aS MK rfl (by decide) ?_)))))))
  refine Am sl.aS rfl rfl rfl (by rw[dL,List.length_take];omega) (VC.d _) (λy hy=>by rw[lV hy];rfl) (by simp;omega) (by simp;omega) (.inr rfl) (ys:=(l.take (i+1)).map dW) (by rw[take_snoc 0 (show i<l.length by omega),List.map_append];rfl) (n2:=i+1) rfl λb2 c2=>?_
  exact uf rfl (OL.nil (AW.rg hE rfl (aj rfl (aJ rfl rfl (by omega) (aG rfl (OL.nil (AW.again (x:=(i,bq,cq)) (i+1,b2,c2) (by (simp only[];omega)) ⟨by omega,Knows.app .yI .jm,dP.app (.cons rfl .nil) (.cons rfl .nil)⟩)))))))
 .try simp only[fG] at h10
  refine AW.exit (AW.seq ?_);obtain rfl:i=l.length:=by omega
  have e9:l.take l.length=l:=List.take_length;exact AW.rg hE rfl (jl rfl (uf rfl (OL.nil (AW.ret ⟨.inr rfl,21,bq,cq,(l.take l.length).map dW,rfl,rfl,by rw[e9,dL];exact Nat.le_refl _,by rw[e9];exact List.take_of_length_le (by rw[dL];exact Nat.le_refl _)⟩))))
theorem YJ {l:List Rat}(nl:l.length<=64)(hz:∀ x,x ∈ l->sz x<=134217728):ai P F.zU [jG,.d (lC l)] (.d (lC l)):=qf.data (Ns nl hz) (dL ..).symm
theorem YK  : ai P F.DZ [jG] (jG):=by
 refine ai.intro fn.DZ (by rfl) (by rfl) (au (by rfl)) λE hE=>(AW.sg hE rfl (iG rfl rfl λb1=>(al z.Ring rfl λb2=>(OL.nil (AW.seq (AW.dg 2 [0,1,2,3,4,5,6] ak hE rfl (by kernel_rfl) (OI.aP (os:=[_,_,_,_,_,_,_]) rfl ?_)))))))
 refine aV fd.kK rfl rfl (aA ce.int rfl rfl rfl (aV fd.Ei rfl rfl (aA ce.ints rfl rfl rfl (aq5 sl.ints rfl rfl (VC.d _) (λy hy=>by cases hy) (by decide) (by decide) (bd z.Ring pl.Ring (cs:=[_,_]) rfl (eG sz.Ring rfl rfl rfl rfl rfl (au rfl) (cells2:=[_,_]) rfl (OL.nil ?_)))))))
 exact AW.ret (aT.r ⟨_,.dK rfl rfl ag.Ring (au rfl) .nil,.ag (.cons (.le vR) (.cons (.le vR) .nil))⟩)
set_option maxRecDepth 8000 in
set_option maxHeartbeats 3200000 in
theorem ab7 {l:List bM}(nl:l.length<=20)(hz:∀ x,x ∈ l->sz x.q<=134217728):qf P F.zV [jG,.d (iL l)] (bU l).length T.mQ 11 ((bU l).map jv):=by
 refine qf.intro fn.zV (by rfl) (by rfl) (au (by rfl)) 4 rfl λE hE=>(AW.sg hE rfl (iG rfl rfl λb2=>(nI rfl (OL.nil (AW.sg hE rfl (nI rfl (OL.nil ?_)))))))
 refine AW.seq (AW.seq (AW.own 5 77 T.mQ 11 rfl rfl (AW.rg hE rfl (aG rfl (OL.nil (AW.block ?_))))));refine AW.aX (α:=Nat × Nat × Nat) [(1,_),(2,_),(4,_)] [(2,_)] (λ(i,bq,cq)=>[(5,.bK 77 bq (bY l i).length cq),(6,.d (dI i))]) (λ(i,bq,cq)=>[(77,rowA bq cq (bY l i))]) (λ(i,bq,cq)=>i<=l.length) (λ(i,bq,cq)=>l.length-i) (0,0,0) (.cons (dA rfl) (.cons (iF rfl) (.cons (BO rfl) .nil))) (.cons (jc rfl) .nil) ⟨Nat.zero_le _,.jm,.cons rfl .nil⟩ ?_
 rintro⟨i,bq,cq⟩ h1
 have h1:i<=l.length:=h1;have hlo:=WO l i;have hzo:=Nr hz i;refine AW.seq (AW.sg hE rfl (aj rfl (aj rfl (fO sl.bZ rfl rfl (bD rfl rfl rfl (OL.nil (AW.cond rfl (λDp=>?_) (λDp=>?_))))))))
 .try simp only[fG] at Dp
  refine AW.skip (AW.seq (AW.block (AW.sg hE rfl (aj rfl (aj rfl (fD sl.bZ default rfl rfl (by omega) rfl rfl (iR ag.mQ rfl (vs:=[_,_,_,_,_,_,_,_,_,_,_]) rfl (au rfl) ?_)))))))
  refine al z.mQ rfl λb7=>(eG sz.mQ rfl rfl rfl rfl rfl (au rfl) (cells2:=[_,_,_,_,_,_,_,_,_,_,_]) rfl (OL.nil (AW.seq ?_)));have hxz:=hz (l.getD i default) (getD_mem (by omega) default)
  refine AW.rg hE rfl (aQ ag.Ring rfl rfl (vs:=[_,_]) rfl (au rfl) (aV fd.qG rfl rfl (aQ ag.ay rfl rfl (vs:=[_,_,_,_,_,_,_,_]) rfl (au rfl) (bP rfl vL (KT (q:=(l.getD i default).q) (by omega)) (aV fd.qG rfl rfl (eG sz.ay rfl rfl rfl rfl rfl (au rfl) (cells2:=[_,_,_,_,_,_,_,_,_,_,_]) rfl (OL.nil ?_)))))))
  refine AW.sg hE rfl (aG rfl (OL.nil ?_));refine AW.XR (α:=Unit) [(1,_),(2,_),(4,_),(5,_),(6,_),(7,_)] [(2,_),(7,_),(77,_)] (λ_u=>[(8,.d (dI (uO (bY l i) (l.getD i default))))]) (λ_u=>[]) (λ_u=>True) (.cons (dA rfl) (.cons (iF rfl) (.cons (BO rfl) (.cons (BH rfl) (.cons (dA rfl) (.cons (iF rfl) .nil)))))) (.cons (jc rfl) (.cons (jc rfl) (.cons (tJ rfl) .nil))) ?_ ?_
  .refine AW.block ?_;refine AW.aX (α:=Nat) [(1,_),(2,_),(4,_),(5,_),(6,_),(7,_)] [(2,_),(7,_),(77,_)] (λk=>[(8,.d (dI k))]) (λk=>[]) (λk=>k<=(bY l i).length/\∀ j,j<k->oH ((bY l i).getD j default) (l.getD i default)<0) (λk=>(bY l i).length-k) 0 (.cons (dA rfl) (.cons (iF rfl) (.cons (BO rfl) (.cons (BH rfl) (.cons (dA rfl) (.cons (iF rfl) .nil)))))) (.cons (jc rfl) (.cons (jc rfl) (.cons (tJ rfl) .nil))) ⟨⟨Nat.zero_le _,λj hj=>by omega⟩,.dw,.nil⟩ ?_
   rintro k ⟨h2,h3⟩
   have h2:k<=(bY l i).length:=h2;have h3:∀ j,j<k->oH ((bY l i).getD j default) (l.getD i default)<0:=h3;refine AW.seq (AW.seq (AW.dg 1 [0,1,2,3,4,5,6,7,8,9,10,11,12] ak hE rfl (by kernel_rfl) (OI.aP (os:=[_,_,_,_,_,_,_,_,_,_,_,_,_]) rfl ?_)))
   refine aj rfl (jl rfl (Qx sl.bZ rfl rfl (bD rfl rfl rfl (aj rfl (OL.split 30 rfl (λhk=>?_) (λhk=>?_))))))
   .have hk:k<(bY l i).length:=by have:=mX hk;omega
    refine OL.yes rfl (jl rfl (OL.yes rfl (aj rfl (OL.yes rfl (je sl.bZ rfl rfl (by omega) (OL.yes rfl (GZ ag.mQ (by decide) rfl rfl (qZ (show k<(bY l i).length by omega)) (vs:=pR ((bY l i).getD k default)) rfl (au rfl) ?_)))))))
    refine OL.yes rfl (aQ ag.mQ rfl rfl (vs:=[_,_,_,_,_,_,_,_,_,_,_]) rfl (au rfl) (OL.yes rfl (bP rfl vL (Um (x:=(bY l i).getD k default) (y:=(l.getD i default))) (OL.yes rfl (bD rfl rfl rfl (OL.split 37 rfl (λho=>?_) (λho=>?_)))))))
    .have ho:oH ((bY l i).getD k default) (l.getD i default)<0:=mX ho;refine nJ rfl rfl (OL.nil (F6 rfl ?_));refine AW.skip (AW.block (AW.rg hE rfl (aj rfl (aJ rfl rfl (by omega) (aG rfl (OL.nil ?_))))))
     exact AW.again (x:=k) (k+1) (by omega) ⟨⟨by omega,λj hj=>by rcases Nat.lt_or_ge j k with h|h;exact h3 j h;obtain rfl:j=k:=(by omega);exact ho⟩,Knows.app .Zn .dw,dP.app (.cons rfl (.cons rfl (.cons rfl .nil))) (.nil)⟩
    .have ho:¬ oH ((bY l i).getD k default) (l.getD i default)<0:=oN ho;refine nJ rfl rfl (OL.nil (pW rfl ?_));refine AW.exit ?_;exact AW.reach () ⟨trivial,Knows.app .Zn (.cons (bV.int (by rw[aD3 h2 h3 (.inr ho)])) .nil),dP.app (.cons rfl (.cons rfl (.cons rfl .nil))) (.nil)⟩
   .have hk:(bY l i).length<=k:=by have:=oN hk;omega
    refine OL.nd rfl (OL.nd rfl (OL.nd rfl (OL.nd rfl (OL.nd rfl (OL.nd rfl (OL.nd rfl (oI rfl rfl ?_)))))));refine OL.nil (pW rfl ?_);refine AW.exit ?_;exact AW.reach () ⟨trivial,Knows.app .Zn (.cons (bV.int (by rw[aD3 h2 h3 (.inl (by omega))])) .nil),dP.app (.cons rfl (.cons rfl (.cons rfl .nil))) (.nil)⟩
  rintro⟨⟩ -
  have hat:(uO (bY l i) (l.getD i default))<=(bY l i).length:=List.findIdx_le_length;refine AW.seq (AW.seq (AW.dg 1 [0,1,2,3,4,5,6,7,8,9,10,11,12] ak hE rfl (by kernel_rfl) (OI.aP (os:=[_,_,_,_,_,_,_,_,_,_,_,_,_]) rfl ?_)))
  refine aj rfl (jl rfl (Qx sl.bZ rfl rfl (bD rfl rfl rfl (aj rfl (OL.split 45 rfl (λha=>?_) (λha=>?_))))))
  .have ha:(uO (bY l i) (l.getD i default))<(bY l i).length:=by have:=mX ha;omega
   refine OL.yes rfl (jl rfl (OL.yes rfl (aj rfl (OL.yes rfl (je sl.bZ rfl rfl (by omega) (OL.yes rfl (GZ ag.mQ (by decide) rfl rfl (qZ (show (uO (bY l i) (l.getD i default))<(bY l i).length by omega)) (vs:=pR ((bY l i).getD (uO (bY l i) (l.getD i default)) default)) rfl (au rfl) ?_)))))))
   refine OL.yes rfl (aQ ag.mQ rfl rfl (vs:=[_,_,_,_,_,_,_,_,_,_,_]) rfl (au rfl) (OL.yes rfl (bP rfl vL (Um (x:=((bY l i).getD (uO (bY l i) (l.getD i default)) default)) (y:=(l.getD i default))) (OL.yes rfl (fE rfl rfl rfl (OL.split 52 rfl (λho=>?_) (λho=>?_)))))))
   .have ho:oH ((bY l i).getD (uO (bY l i) (l.getD i default)) default) (l.getD i default)=0:=mX ho;have hyz:=hzo ((bY l i).getD (uO (bY l i) (l.getD i default)) default) (getD_mem ha default);refine nJ rfl rfl (OL.nil (F6 rfl ?_));refine AW.seq (AW.dg 1 [0,1,2,3,4,5,6,7,8,9,10,11,12,13] ak hE rfl (by kernel_rfl) (OI.aP (os:=[_,_,_,_,_,_,_,_,_,_,_,_,_,_]) rfl ?_))
    refine jl rfl (aj rfl (aQ ag.Ring rfl rfl (vs:=[_,_]) rfl (au rfl) (jl rfl (aj rfl (je sl.bZ rfl rfl (by omega) (faE fd.qG rfl rfl ?_))))))
    refine GZ ag.ay (by decide) rfl rfl (qZ ha) (vs:=[.d (dB (iD ((bY l i).getD (uO (bY l i) (l.getD i default)) default).q).neg),.d (aI (iD ((bY l i).getD (uO (bY l i) (l.getD i default)) default).q).num),.d (aI (iD ((bY l i).getD (uO (bY l i) (l.getD i default)) default).q).den),.d (dI 0),.d (dB false),.d (dU 0),.d (.sl []),.d (.sl [])]) rfl (au rfl) ?_
    refine aV fd.qG rfl rfl (aQ ag.ay rfl rfl (vs:=[_,_,_,_,_,_,_,_]) rfl (au rfl) (bP rfl vL (YI (p:=((bY l i).getD (uO (bY l i) (l.getD i default)) default).q) (q:=(l.getD i default).q) (by omega) (by omega)) (je sl.bZ rfl rfl (by omega) (faE fd.qG rfl rfl ?_))))
    refine stF sz.ay rfl (d:=dW (((bY l i).getD (uO (bY l i) (l.getD i default)) default).q+(l.getD i default).q)) MK rfl rfl (qZ ha) (by decide) (el2:=jv { ((bY l i).getD (uO (bY l i) (l.getD i default)) default) with q:=((bY l i).getD (uO (bY l i) (l.getD i default)) default).q+(l.getD i default).q }) rfl (es2:=((bY l i).set (uO (bY l i) (l.getD i default)) { ((bY l i).getD (uO (bY l i) (l.getD i default)) default) with q:=((bY l i).getD (uO (bY l i) (l.getD i default)) default).q+(l.getD i default).q }).map jv) (by rw[List.map_set]) ?_
    refine OL.nil (AW.exit (AW.rg hE rfl (aj rfl (aJ rfl rfl (by omega) (aG rfl (OL.nil ?_))))))
    exact AW.again (x:=(i,bq,cq)) (i+1,bq,cq) (by (simp only[];omega)) ⟨by omega,Knows.app .yI (.cons (by rw[vO (by omega),Ap,if_pos ⟨ha,ho⟩,List.length_set];exact bV.refl _) .dw),dP.app (.cons rfl .nil) (.cons (by rw[vO (by omega),Ap,if_pos ⟨ha,ho⟩];rfl) .nil)⟩
   .have ho:¬ oH ((bY l i).getD (uO (bY l i) (l.getD i default)) default) (l.getD i default)=0:=oN ho;have hin:Ap (bY l i) (l.getD i default)=(bY l i).take (uO (bY l i) (l.getD i default))++(l.getD i default)::(bY l i).drop (uO (bY l i) (l.getD i default)):=if_neg (λe=>ho e.2);refine nJ rfl rfl (OL.nil (pW rfl ?_));refine AW.skip ?_;have htk:((bY l i).take (uO (bY l i) (l.getD i default))).length=(uO (bY l i) (l.getD i default)):=by rw[List.length_take];omega
    have hdl:((bY l i).drop (uO (bY l i) (l.getD i default))).length=(bY l i).length-(uO (bY l i) (l.getD i default)):=List.length_drop;refine AW.freeze 77 rfl (AW.to [(1,.d (iL l)),(2,.ptr 2 b2 0),(4,.mt),(5,.d (iL (bY l i))),(6,.d (dI i)),(7,.ptr 7 b7 0),(8,.d (dI (uO (bY l i) (l.getD i default))))] [(2,.box b2 T.Ring [.d (dI 1),.d (.sl [])]),(7,.box b7 T.mQ (pR (l.getD i default)))] (.cons vR (.cons bV.ptr (.cons vR (.cons (dM (by rw[dL]) rfl) (.cons vR (.cons bV.ptr .dw)))))) (.cons rfl (.cons rfl .nil)) ?_)
    refine AW.dg 2 [0,1,2,4,5,7,8,9,3,6,10,11] ak hE rfl (by kernel_rfl) (OI.aP (os:=[_,_,_,_,_,_,_,_,_,_,_,_]) rfl ?_)
    refine aj rfl (aj rfl (aL4 sl.bZ rfl rfl (λ_=>rfl) (by omega) (l2:=(bY l i).take (uO (bY l i) (l.getD i default))) (by rw[Int.toNat_natCast]) (aQ ag.mQ rfl rfl (vs:=[_,_,_,_,_,_,_,_,_,_,_]) rfl (au rfl) (xG (y:=jv (l.getD i default)) sl.bZ wO rfl (by decide) (aj rfl (aj rfl (aq8 sl.bZ rfl rfl (λ_=>rfl) (by omega) (l2:=(bY l i).drop (uO (bY l i) (l.getD i default))) (by rw[Int.toNat_natCast]) ?_)))))))
    refine apM sl.bZ rfl rfl (VC.d _) FN (by rw[dL,htk];omega) (by rw[dL,htk];omega) rfl λb70 c70=>?_
    refine Am sl.bZ rfl rfl rfl (by rw[dL]) (VC.d _) (λy hy=>by rw[lV hy];rfl) (by rw[dL,htk];simp only[kC];omega) (by rw[dL,htk];simp only[kC];omega) (.inl rfl) (ys:=((bY l i).take (uO (bY l i) (l.getD i default))++[(l.getD i default)]).map jv) (by rw[List.map_append];rfl) (n2:=(uO (bY l i) (l.getD i default))+1) (by rw[dL,htk];rfl) λb73 c73=>?_
    refine Am sl.bZ rfl rfl rfl (by rw[dL,jd,htk];rfl) (VC.d _) FN (by rw[dL,hdl];omega) (by rw[dL,hdl];omega) (.inl rfl) (ys:=((bY l i).take (uO (bY l i) (l.getD i default))++(l.getD i default)::(bY l i).drop (uO (bY l i) (l.getD i default))).map jv) (by rw[<- List.map_append,List.append_assoc];rfl) (n2:=((bY l i).take (uO (bY l i) (l.getD i default))++(l.getD i default)::(bY l i).drop (uO (bY l i) (l.getD i default))).length) (by rw[dL,hdl,jd,List.length_cons,htk,hdl];omega) λb77 c77=>?_
    refine uf rfl (OL.nil (AW.rg hE rfl (aj rfl (aJ rfl rfl (by omega) (aG rfl (OL.nil ?_))))))
    exact AW.again (x:=(i,bq,cq)) (i+1,b77,c77) (by (simp only[];omega)) ⟨by omega,Knows.app .yI (.cons (by rw[vO (by omega),hin];exact bV.refl _) .dw),dP.app (.cons rfl .nil) (.cons (by rw[vO (by omega),hin];rfl) .nil)⟩
  .have ha:¬ (uO (bY l i) (l.getD i default))<(bY l i).length:=by have:=oN ha;omega
   have hin:Ap (bY l i) (l.getD i default)=(bY l i).take (uO (bY l i) (l.getD i default))++(l.getD i default)::(bY l i).drop (uO (bY l i) (l.getD i default)):=if_neg (λe=>ha e.1);refine OL.nd rfl (OL.nd rfl (OL.nd rfl (OL.nd rfl (OL.nd rfl (OL.nd rfl (OL.nd rfl (oI rfl rfl ?_)))))));refine OL.nil (pW rfl ?_);refine AW.skip ?_;have htk:((bY l i).take (uO (bY l i) (l.getD i default))).length=(uO (bY l i) (l.getD i default)):=by rw[List.length_take];omega
   have hdl:((bY l i).drop (uO (bY l i) (l.getD i default))).length=(bY l i).length-(uO (bY l i) (l.getD i default)):=List.length_drop;refine AW.freeze 77 rfl (AW.to [(1,.d (iL l)),(2,.ptr 2 b2 0),(4,.mt),(5,.d (iL (bY l i))),(6,.d (dI i)),(7,.ptr 7 b7 0),(8,.d (dI (uO (bY l i) (l.getD i default))))] [(2,.box b2 T.Ring [.d (dI 1),.d (.sl [])]),(7,.box b7 T.mQ (pR (l.getD i default)))] (.cons vR (.cons bV.ptr (.cons vR (.cons (dM (by rw[dL]) rfl) (.cons vR (.cons bV.ptr .dw)))))) (.cons rfl (.cons rfl .nil)) ?_)
   refine AW.dg 2 [0,1,2,4,5,7,8,9,3,6,10,11] ak hE rfl (by kernel_rfl) (OI.aP (os:=[_,_,_,_,_,_,_,_,_,_,_,_]) rfl ?_)
   refine aj rfl (aj rfl (aL4 sl.bZ rfl rfl (λ_=>rfl) (by omega) (l2:=(bY l i).take (uO (bY l i) (l.getD i default))) (by rw[Int.toNat_natCast]) (aQ ag.mQ rfl rfl (vs:=[_,_,_,_,_,_,_,_,_,_,_]) rfl (au rfl) (xG (y:=jv (l.getD i default)) sl.bZ wO rfl (by decide) (aj rfl (aj rfl (aq8 sl.bZ rfl rfl (λ_=>rfl) (by omega) (l2:=(bY l i).drop (uO (bY l i) (l.getD i default))) (by rw[Int.toNat_natCast]) ?_)))))))
   refine apM sl.bZ rfl rfl (VC.d _) FN (by rw[dL,htk];omega) (by rw[dL,htk];omega) rfl λb70 c70=>?_
   refine Am sl.bZ rfl rfl rfl (by rw[dL]) (VC.d _) (λy hy=>by rw[lV hy];rfl) (by rw[dL,htk];simp only[kC];omega) (by rw[dL,htk];simp only[kC];omega) (.inl rfl) (ys:=((bY l i).take (uO (bY l i) (l.getD i default))++[(l.getD i default)]).map jv) (by rw[List.map_append];rfl) (n2:=(uO (bY l i) (l.getD i default))+1) (by rw[dL,htk];rfl) λb73 c73=>?_
   refine Am sl.bZ rfl rfl rfl (by rw[dL,jd,htk];rfl) (VC.d _) FN (by rw[dL,hdl];omega) (by rw[dL,hdl];omega) (.inl rfl) (ys:=((bY l i).take (uO (bY l i) (l.getD i default))++(l.getD i default)::(bY l i).drop (uO (bY l i) (l.getD i default))).map jv) (by rw[<- List.map_append,List.append_assoc];rfl) (n2:=((bY l i).take (uO (bY l i) (l.getD i default))++(l.getD i default)::(bY l i).drop (uO (bY l i) (l.getD i default))).length) (by rw[dL,hdl,jd,List.length_cons,htk,hdl];omega) λb77 c77=>?_
   refine uf rfl (OL.nil (AW.rg hE rfl (aj rfl (aJ rfl rfl (by omega) (aG rfl (OL.nil ?_))))))
   exact AW.again (x:=(i,bq,cq)) (i+1,b77,c77) (by (simp only[];omega)) ⟨by omega,Knows.app .yI (.cons (by rw[vO (by omega),hin];exact bV.refl _) .dw),dP.app (.cons rfl .nil) (.cons (by rw[vO (by omega),hin];rfl) .nil)⟩
 .try simp only[fG] at Dp
  refine AW.exit (AW.seq ?_);obtain rfl:i=l.length:=by omega
  refine AW.freeze 77 rfl (AW.to [(2,.ptr 2 b2 0),(4,.mt),(5,.d (iL (bY l l.length)))] [(2,.box b2 T.Ring [.d (dI 1),.d (.sl [])])] (.cons bV.ptr (.cons vR (.cons (dM (by rw[dL]) rfl) .nil))) (.cons rfl .nil) ?_)
  refine AW.rg hE rfl (nI rfl (OL.nil (AW.seq (AW.seq (AW.own 9 98 T.mQ 11 rfl rfl (AW.rg hE rfl (aG rfl ?_)))))));refine OL.nil (AW.block ?_);refine AW.aX (α:=Nat × Nat × Nat) [(2,_),(4,_),(5,_)] [(2,_)] (λ(k,bk,ck)=>[(9,.bK 98 bk (UF ((bY l l.length).take k)).length ck),(10,.d (dI k))]) (λ(k,bk,ck)=>[(98,rowA bk ck (UF ((bY l l.length).take k)))]) (λ(k,bk,ck)=>k<=(bY l l.length).length) (λ(k,bk,ck)=>(bY l l.length).length-k) (0,0,0) (.cons (iF rfl) (.cons (BO rfl) (.cons (dA rfl) .nil))) (.cons (jc rfl) .nil) ⟨Nat.zero_le _,.jm,.cons rfl .nil⟩ ?_
  rintro⟨k,bk,ck⟩ h5
  have h5:k<=(bY l l.length).length:=h5;have hnl:(UF ((bY l l.length).take k)).length<=k:=by unfold UF;refine Nat.le_trans (List.length_filter_le ..) ?_;rw[List.length_take];omega
  refine AW.seq (AW.sg hE rfl (aj rfl (aj rfl (fO sl.bZ rfl rfl (bD rfl rfl rfl (OL.nil (AW.cond rfl (λh81=>?_) (λh81=>?_))))))))
  .try simp only[fG] at h81
   refine AW.skip (AW.seq (AW.block (AW.seq ?_)));have hk9:k<(bY l l.length).length:=by omega
   have hyz:=Nr hz l.length _ (getD_mem hk9 default);have bE3:sz ((bY l l.length).getD k default).q<=68719476736:=by have:=Nat.mul_le_mul_right 134217730 (show l.length+1<=21 by omega);omega
   refine AW.dg 1 [0,1,2,3,4,5,6,7] ak hE rfl (by kernel_rfl) (OI.aP (os:=[_,_,_,_,_,_,_,_]) rfl ?_)
   refine aQ ag.Ring rfl rfl (vs:=[_,_]) rfl (au rfl) (aj rfl (aj rfl (fD sl.bZ default rfl rfl hk9 rfl rfl (Qw fd.qG rfl rfl (iR ag.ay rfl (vs:=[_,_,_,_,_,_,_,_]) rfl (au rfl) (bP rfl vL (aD0 (q:=((bY l l.length).getD k default).q) bE3) (nt rfl ?_)))))));refine OL.nil (AW.cond rfl (λhq=>?_) (λhq=>?_))
   .have hq:((bY l l.length).getD k default).q≠0:=zH hq;refine AW.rg hE rfl (jl rfl (aj rfl (aj rfl (fD sl.bZ default rfl rfl hk9 rfl rfl (iR ag.mQ rfl (vs:=[_,_,_,_,_,_,_,_,_,_,_]) rfl (au rfl) (xG (y:=jv ((bY l l.length).getD k default)) sl.bZ wO rfl (by decide) ?_))))))
    refine Am sl.bZ rfl rfl rfl (by rw[dL]) (VC.d _) (λy hy=>by rw[lV hy];rfl) (by simp;omega) (by simp;omega) (.inr rfl) (ys:=(UF ((bY l l.length).take k)++[(bY l l.length).getD k default]).map jv) (by rw[List.map_append];rfl) (n2:=(UF ((bY l l.length).take k)++[(bY l l.length).getD k default]).length) (by rw[jd];rfl) λb98 c98=>?_
    refine uf rfl (OL.nil (AW.rg hE rfl (aj rfl (aJ rfl rfl (by omega) (aG rfl (OL.nil ?_))))))
    exact AW.again (x:=(k,bk,ck)) (k+1,b98,c98) (by (simp only[];omega)) ⟨by omega,Knows.app .yI (.cons (by rw[JM hk9,if_pos hq];exact bV.refl _) .dw),dP.app (.cons rfl .nil) (.cons (by rw[JM hk9,if_pos hq];rfl) .nil)⟩
   .have hq:((bY l l.length).getD k default).q=0:=yc hq;refine AW.skip (AW.rg hE rfl (aj rfl (aJ rfl rfl (by omega) (aG rfl (OL.nil ?_)))))
    exact AW.again (x:=(k,bk,ck)) (k+1,bk,ck) (by (simp only[];omega)) ⟨by omega,Knows.app .yI (.cons (by rw[JM hk9,if_neg (λe=>e hq),List.append_nil];exact bV.refl _) .dw),dP.app (.cons rfl .nil) (.cons (by rw[JM hk9,if_neg (λe=>e hq),List.append_nil];rfl) .nil)⟩
  .try simp only[fG] at h81
   refine AW.exit (AW.seq ?_);obtain rfl:k=(bY l l.length).length:=by omega
   have e9:UF ((bY l l.length).take (bY l l.length).length)=bU l:=by rw[<- aD2,List.take_length]
   dsimp only
   rw[e9];exact AW.rg hE rfl (jl rfl (uf rfl (OL.nil (AW.ret ⟨.inr rfl,98,bk,ck,(bU l).map jv,rfl,rfl,by rw[dL];exact Nat.le_refl _,List.take_of_length_le (by rw[dL];exact Nat.le_refl _)⟩))))
theorem YL {l:List bM}(nl:l.length<=20)(hz:∀ x,x ∈ l->sz x.q<=134217728):ai P F.zV [jG,.d (iL l)] (.d (iL (bU l))):=qf.data (ab7 nl hz) (dL ..).symm
theorem Ir {a:Au}(h:a.Ok)(za:a.Sz 134217728 20)(s2:a.st<=64):ai P F.rM [uY a] (uY (qR a)):=by
 have e1:=h.ini;have e2:=h.fin;have e3:=za.num;refine ai.intro fn.rM (by rfl) (by rfl) (au (by rfl)) λE hE=>(AW.sg hE rfl (iG rfl rfl λb1=>(al z.Auto rfl λb2=>(OL.nil (AW.seq (AW.dg 1 [0,1,2,3,4,5,6,7,8,9,10,11,12,13,14,15,16,17,18,19,20,21,22,23] ak hE rfl (by kernel_rfl) (OI.aP (os:=[_,_,_,_,_,_,_,_,_,_,_,_,_,_,_,_,_,_,_,_,_,_,_,_]) rfl ?_)))))))
 refine aV fd.gu rfl rfl (aQ ag.Ring rfl rfl (vs:=[_,_]) rfl (au rfl) (bP rfl .dw (YK) (aV fd.kZ rfl rfl (aA ce.int rfl rfl rfl (aV fd.jf rfl rfl (aA ce.int rfl rfl rfl (aV fd.gu rfl rfl ?_)))))));refine aQ ag.Ring rfl rfl (vs:=[_,_]) rfl (au rfl) (aV fd.mg rfl rfl (aA ce.aS rfl rfl rfl (bP rfl vL (YJ (l:=a.ini) (by omega) za.ini) (aV fd.gu rfl rfl (aQ ag.Ring rfl rfl (vs:=[_,_]) rfl (au rfl) (aV fd.o8 rfl rfl (aA ce.aS rfl rfl rfl ?_)))))))
 refine bP rfl vL (YJ (l:=a.fin) (by omega) za.fin) (aV fd.gu rfl rfl (aQ ag.Ring rfl rfl (vs:=[_,_]) rfl (au rfl) (aV fd.fM rfl rfl (aA ce.bZ rfl rfl rfl (bP rfl vL (YL (l:=a.aB) e3 za.arc) (Ko (cs:=[_,_,_,_,_,_,_]) z.Auto pl.Auto (jR (by exact U7 rfl) (jR (by exact rq rfl) (jR (by exact rq rfl) (jR (by exact rq rfl) (jR (by exact rq rfl) (jR (by exact rq rfl) (J9))))))) (by rfl) (eG sz.Auto rfl rfl rfl rfl rfl (au rfl) (cells2:=[_,_,_,_,_,_,_]) rfl ?_)))))))
 exact OL.nil (AW.ret (aT.r ⟨_,.dK rfl rfl ag.Auto (au rfl) .nil,.ag (.cons (.le vR) (.cons (.le vR) (.cons (.le vR) (.cons (.le vR) (.cons (.le vR) (.cons (.le vR) (.cons (.le vR) .nil)))))))⟩))

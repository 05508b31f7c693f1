/-
  Walks of the specification of automata (printed by mk2.py).
-/
import Derived.Test.YtnjoncgnjdkaoaaGreatDoorKWkS
set_option linter.unusedVariables false
set_option linter.unusedSimpArgs false
namespace Go.Proofs.YtnjoncgnjdkaoaaGreatDoor
open Go Go.AL
theorem Z7 (x y:bH):nO [(x.f:Int),(x.l:Int),(x.t:Int)] [(y.f:Int),(y.l:Int),(y.t:Int)]=pF x y:=by
 have key:∀ (a b:Nat) (u v:List Int),cmpL ((a:Int)::u) ((b:Int)::v)=if cI a b≠0 then cI a b else cmpL u v:=λa b u v=>by
  rw[cmpL];unfold cI;by_cases h1:a<b
  .rw[if_pos (by omega),if_pos h1,if_pos (by decide)]
  .rw[if_neg (by omega),if_neg h1]
   by_cases h2:b<a
   .rw[if_pos (by omega),if_pos h2,if_pos (by decide)]
   .rw[if_neg (by omega),if_neg h2,if_neg (by decide)]
 unfold nO pF;rw[if_neg (by simp),key,key,key]
 congr 2
 split
 .rfl
 .rename_i h;rw[show cmpL [] []=0 from rfl];exact (Decidable.not_not.1 h).symm
def bT (l:List bH)(i:Nat):List bH:=(l.take i).foldl Ac []
theorem uX {l:List bH}{i:Nat}(hi:i<l.length):bT l (i+1)=Ac (bT l i) (l.getD i default):=by
 unfold bT;rw[take_snoc default hi,List.foldl_append];rfl
theorem ar6 (out:List bH)(x:bH):(Ac out x).length<=out.length+1:=by
 unfold Ac
 split
 .rw[List.length_set];omega
 .rw[jG,List.length_cons,List.length_take,List.length_drop];omega
theorem aG2 {k:Nat}{out:List bH}{x:bH}(h:Zv k out)(hx:sz x.q<=134217728):Zv (k+1) (Ac out x):=by
 have up:∀ y,sz y<=(k+1)*134217730->sz y<=(k+1+1)*134217730:=λy hy=>Nat.le_trans hy (Nat.mul_le_mul_right _ (Nat.le_succ _));intro y hy;unfold Ac at hy
 split at hy
 .rename_i hc;rcases List.mem_or_eq_of_mem_set hy with hy|rfl
  .exact up _ (h y hy)
  .have h1:=h _ (getD_mem hc.1 default);have h2:=Bd (out.getD (uF out x) default).q x.q;show sz ((out.getD (uF out x) default).q+x.q)<=_
   omega
 .rcases ul hy with hy|hy
  .exact up _ (h y (List.mem_of_mem_take hy))
  .rcases List.mem_cons.1 hy with rfl|hy
   .omega
   .exact up _ (h y (List.mem_of_mem_drop hy))
theorem Vf (l:List bH):∀ i,(bT l i).length<=i
 | 0=>Nat.le_refl _
 | i + 1 => by
  have ih:=Vf l i;rcases Nat.lt_or_ge i l.length with h|h
  .rw[uX h];have:=ar6 (bT l i) (l.getD i default);omega
  .unfold bT at *;rw[List.take_of_length_le h] at ih;rw[List.take_of_length_le (by omega)];omega
theorem KP {l:List bH}(hz:∀ x,x ∈ l->sz x.q<=134217728):∀ i,Zv i (bT l i)
 | 0=>λx hx=>by cases hx
 | i + 1 => by
  rcases Nat.lt_or_ge i l.length with h|h
  .rw[uX h];exact aG2 (KP hz i) (hz _ (getD_mem h default))
  .have e:bT l (i+1)=bT l i:=by unfold bT;rw[List.take_of_length_le h,List.take_of_length_le (by omega)]
   rw[e];exact λx hx=>Nat.le_trans (KP hz i x hx) (Nat.mul_le_mul_right _ (Nat.le_succ _))
theorem ar7 (l:List bH):Sj (bT l l.length)=uh l:=by unfold bT uh;rw[List.take_length]
theorem ar8 {out:List bH}{x:bH}{k:Nat}(hk:k<=out.length)(h:∀ j,j<k->pF (out.getD j default) x<0)(h2:k=out.length \/ ¬ pF (out.getD k default) x<0):uF out x=k:=by
 unfold uF;have get:∀ j,j<out.length->out[j]? = some (out.getD j default):=λj hj=>by rw[ig,lu hj];rfl
 rcases Nat.lt_or_ge k out.length with hl|hl
 .have hn:¬ pF (out.getD k default) x<0:=h2.resolve_left (by omega)
  refine (List.findIdx_eq hl).2 ⟨?_,λj hj=>?_⟩
  .have e:out[k]=out.getD k default:=by rw[ig,lu hl];rfl
   rw[e];exact decide_eq_true hn
  .have e:out[j]=out.getD j default:=by rw[ig,lu (by omega)];rfl
   rw[e];exact decide_eq_false (λk9=>k9 (h j hj))
 .have hk9:k=out.length:=by omega
  subst hk9;refine List.findIdx_eq_length.2 λy hy=>?_;obtain⟨j,hj,rfl⟩:=List.mem_iff_getElem.1 hy;have e:out[j]=out.getD j default:=by rw[ig,lu hj];rfl
  rw[e];exact decide_eq_false (λk9=>k9 (h j hj))
theorem Iz {l:List bH}{i:Nat}(hi:i<l.length):Sj (l.take (i+1))=Sj (l.take i)++(if (l.getD i default).q≠0 then [l.getD i default] else []):=by
 rw[take_snoc default hi];unfold Sj;rw[List.filter_append];congr 1;by_cases h:(l.getD i default).q≠0
 .rw[if_pos h];simp only[List.filter_cons,decide_eq_true h,List.filter_nil,if_true]
 .rw[if_neg h];simp only[List.filter_cons,decide_eq_false h,List.filter_nil];rfl
theorem Om {l m:List Int}(nl:l.length<=1099511627776):aj P F.xG [.d (ints l),.d (ints m)] (.d (dI (nO l m))):=by
 refine aj.intro fn.xG (by rfl) (by rfl) (aB (by rfl)) λE hE=>(AW.sg hE rfl (aF rfl (OL.nil (AW.seq (AW.sg hE rfl (ai rfl (fJ sl.ints rfl rfl ?_)))))))
 refine ai rfl (fJ sl.ints rfl rfl (eG rfl rfl rfl (OL.nil (AW.cond rfl (λhn=>?_) (λhn=>?_)))))
 .have hn:l.length≠m.length:=λe=>D7 hn (by rw[e])
  refine AW.seq (AW.sg hE rfl (ai rfl (fJ sl.ints rfl rfl (ai rfl (fJ sl.ints rfl rfl (aY rfl rfl rfl (OL.nil ?_)))))));refine AW.cond rfl (λhlt=>?_) (λhlt=>?_)
  .have hlt:l.length<m.length:=by have:=lq hlt;omega
   exact AW.sg hE rfl (aF rfl (OL.nil (AW.ret (aP.r ⟨_,.tmp rfl .nil,.le (bG.int (by unfold nO;rw[if_pos hn,if_pos hlt]))⟩))))
  .have hlt:¬ l.length<m.length:=by have:=nS hlt;omega
   exact AW.skip (AW.sg hE rfl (aF rfl (OL.nil (AW.ret (aP.r ⟨_,.tmp rfl .nil,.le (bG.int (by unfold nO;rw[if_pos hn,if_neg hlt]))⟩)))))
 .have hn:l.length=m.length:=by have:=Bc hn;omega
  rw[show nO l m=cmpL l m from if_neg (by omega)]
  refine AW.skip (AW.seq (AW.sg hE rfl (aF rfl (OL.nil (AW.block ?_)))));refine AW.aV (α:=Nat) [(0,_),(1,_)] [] (λi=>[(5,.d (dI i))]) (λi=>[]) (λi=>i<=l.length/\cmpL l m=cmpL (l.drop i) (m.drop i)) (λi=>l.length-i) 0 (.cons (bK rfl) (.cons (bK rfl) .nil)) .nil ⟨⟨Nat.zero_le _,rfl⟩,.bZ,.nil⟩ ?_
  rintro i ⟨h1,h3⟩
  have h1:i<=l.length:=h1;have h3:cmpL l m=cmpL (l.drop i) (m.drop i):=h3;refine AW.seq (AW.sg hE rfl (ai rfl (ai rfl (fJ sl.ints rfl rfl (aY rfl rfl rfl (OL.nil (AW.cond rfl (λh19=>?_) (λh19=>?_))))))))
  .try simp only[dX] at h19
   refine AW.skip (AW.seq (AW.block (AW.seq (AW.seq (AW.dg 1 [0,1,2,3,4,5,6,7,8] ay hE rfl (by kernel_rfl) (OI.aK (os:=[_,_,_,_,_,_,_,_,_]) rfl ?_))))))
   refine ai rfl (ai rfl (fO sl.ints 0 rfl rfl (by omega) rfl rfl (iH ce.int rfl (ai rfl (ai rfl (fO sl.ints 0 rfl rfl (by omega) rfl rfl (iH ce.int rfl ?_)))))))
   refine aY rfl rfl rfl (OL.nil (AW.cond rfl (λha=>?_) (λha=>?_)))
   .have ha:=lq ha;exact AW.sg hE rfl (aF rfl (OL.nil (AW.ret (aP.r ⟨_,.tmp rfl .nil,.le (bG.int (by rw[h3,BO (by omega) (by omega),show Eo (l.getD i 0) (m.getD i 0) = -1 from if_pos ha,if_neg (by decide)]))⟩))))
   .have ha:=nS ha;refine AW.skip (AW.seq (AW.dg 1 [0,1,2,3,4,5,6,7,8] ay hE rfl (by kernel_rfl) (OI.aK (os:=[_,_,_,_,_,_,_,_,_]) rfl ?_)))
    refine ai rfl (ai rfl (fO sl.ints 0 rfl rfl (by omega) rfl rfl (iH ce.int rfl (ai rfl (ai rfl (fO sl.ints 0 rfl rfl (by omega) rfl rfl (iH ce.int rfl ?_)))))))
    refine iO rfl rfl rfl (OL.nil (AW.cond rfl (λhb=>?_) (λhb=>?_)))
    .have hb:=lq hb;exact AW.sg hE rfl (aF rfl (OL.nil (AW.ret (aP.r ⟨_,.tmp rfl .nil,.le (bG.int (by rw[h3,BO (by omega) (by omega),show Eo (l.getD i 0) (m.getD i 0)=1 by unfold Eo;rw[if_neg ha,if_pos hb],if_neg (by decide)]))⟩))))
    .have hb:=nS hb;exact AW.skip (AW.rg hE rfl (ai rfl (aI rfl rfl (by omega) (aF rfl (OL.nil (AW.again (x:=i) (i+1) (by omega) ⟨⟨by omega,by rw[h3,BO (by omega) (by omega),if_pos (by unfold Eo;rw[if_neg ha,if_neg hb])]⟩,Knows.app .iq .bZ,.nil⟩))))))
  .try simp only[dX] at h19
   exact AW.exit (AW.sg hE rfl (aF rfl (OL.nil (AW.ret (aP.r ⟨_,.tmp rfl .nil,.le (bG.int (by rw[h3,List.drop_eq_nil_of_le (show l.length<=i by omega),List.drop_eq_nil_of_le (show m.length<=i by omega),cmpL]))⟩)))))
theorem Yw {x y:bH}:aj P F.AP [Ib x,Ib y] (.d (dI (pF x y))):=by
 refine aj.intro fn.AP (by rfl) (by rfl) (aB (by rfl)) λE hE=>(AW.sg hE rfl (iI rfl rfl λb2=>(iI rfl rfl λb3=>(aF rfl (OL.nil (AW.sg hE rfl (aW fd.zC rfl rfl ?_)))))))
 refine aG ce.int rfl rfl rfl (aW fd.AY rfl rfl (aG ce.int rfl rfl rfl (aW fd.zD rfl rfl (aG ce.int rfl rfl rfl (ltN (ys:=[dI x.f,dI x.l,dI x.t]) sl.ints rfl (J8 (VC.d _).vd (J8 (VC.d _).vd (J8 (VC.d _).vd pdN))) rfl (by decide) (by decide) (λy hy=>by simp at hy;rcases hy with rfl|rfl|rfl <;> rfl) (aW fd.zC rfl rfl (aG ce.int rfl rfl rfl ?_)))))))
 refine aW fd.AY rfl rfl (aG ce.int rfl rfl rfl (aW fd.zD rfl rfl (aG ce.int rfl rfl rfl (ltN (ys:=[dI y.f,dI y.l,dI y.t]) sl.ints rfl (J8 (VC.d _).vd (J8 (VC.d _).vd (J8 (VC.d _).vd pdN))) rfl (by decide) (by decide) (λy hy=>by simp at hy;rcases hy with rfl|rfl|rfl <;> rfl) (bJ rfl vL (Om (l:=[(x.f:Int),(x.l:Int),(x.t:Int)]) (m:=[(y.f:Int),(y.l:Int),(y.t:Int)]) (show 3<=1099511627776 by decide)) ?_)))))
 rw[Z7];exact aF rfl (OL.nil (AW.ret (aP.r ⟨_,.tmp rfl .nil,.le vR⟩)))
theorem aG3 {l:List Rat}(nl:l.length<=64)(hz:∀ x,x ∈ l->sz x<=134217728):jd P F.zn [l7,.d (wG l)] l.length T.aA 8 (l.map dW):=by
 refine jd.intro fn.zn (by rfl) (by rfl) (aB (by rfl)) 4 rfl λE hE=>(AW.sg hE rfl (iI rfl rfl λb2=>(oK rfl (OL.nil (AW.sg hE rfl (oK rfl (OL.nil ?_)))))))
 refine AW.seq (AW.seq (AW.own 5 21 T.aA 8 rfl rfl (AW.rg hE rfl (aF rfl (OL.nil (AW.block ?_))))));refine AW.aV (α:=Nat × Nat × Nat) [(1,_),(2,_),(4,_)] [(2,_)] (λ(i,bq,cq)=>[(5,.bF 21 bq i cq),(6,.d (dI i))]) (λ(i,bq,cq)=>[(21,.row bq cq T.aA 8 ((l.take i).map dW))]) (λ(i,bq,cq)=>i<=l.length) (λ(i,bq,cq)=>l.length-i) (0,0,0) (.cons (bK rfl) (.cons (gB rfl) (.cons (Ea rfl) .nil))) (.cons (iR rfl) .nil) ⟨Nat.zero_le _,.iq,.cons rfl .nil⟩ ?_
 rintro⟨i,bq,cq⟩ h1
 have h1:i<=l.length:=h1;refine AW.seq (AW.sg hE rfl (ai rfl (ai rfl (fJ sl.aU rfl rfl (aY rfl rfl rfl (OL.nil (AW.cond rfl (λh10=>?_) (λh10=>?_))))))))
 .try simp only[dX] at h10
  refine AW.skip (AW.seq (AW.block ?_));have hx:=hz (l.getD i 0) (getD_mem (by omega) 0)
  refine AW.dg 2 [0,1,2,3,4,5,6,7,8,9] ay hE rfl (by kernel_rfl) (OI.aK (os:=[_,_,_,_,_,_,_,_,_,_]) rfl ?_)
  refine jq rfl (aO ag.Ring rfl rfl (vs:=[_,_]) rfl (aB rfl) (ai rfl (ai rfl (fO sl.aU 0 rfl rfl (by omega) rfl rfl (jH ag.aA rfl (vs:=[_,_,_,_,_,_,_,_]) rfl (aB rfl) (bJ rfl vL (Jr (q:=(l.getD i 0)) (by omega)) (zX (y:=dW (l.getD i 0)) sl.aU Nu rfl (by decide) ?_)))))))
  refine Ce sl.aU rfl rfl rfl (by rw[dJ,List.length_take];omega) (VC.d _) (λy hy=>by rw[lW hy];rfl) (by simp;omega) (by simp;omega) (.inr rfl) (ys:=(l.take (i+1)).map dW) (by rw[take_snoc 0 (show i<l.length by omega),List.map_append];rfl) (n2:=i+1) rfl λb2 c2=>?_
  exact tJ rfl (OL.nil (AW.rg hE rfl (ai rfl (aI rfl rfl (by omega) (aF rfl (OL.nil (AW.again (x:=(i,bq,cq)) (i+1,b2,c2) (by (simp only[];omega)) ⟨by omega,Knows.app .Ah .iq,dw.app (.cons rfl .nil) (.cons rfl .nil)⟩)))))))
 .try simp only[dX] at h10
  refine AW.exit (AW.seq ?_);obtain rfl:i=l.length:=by omega
  have e9:l.take l.length=l:=List.take_length;exact AW.rg hE rfl (jq rfl (tJ rfl (OL.nil (AW.ret ⟨.inr rfl,21,bq,cq,(l.take l.length).map dW,rfl,rfl,by rw[e9,dJ];exact Nat.le_refl _,by rw[e9];exact List.take_of_length_le (by rw[dJ];exact Nat.le_refl _)⟩))))
theorem ar9 {l:List Rat}(nl:l.length<=64)(hz:∀ x,x ∈ l->sz x<=134217728):aj P F.zn [l7,.d (wG l)] (.d (wG l)):=jd.data (aG3 nl hz) (dJ ..).symm
theorem aU3  : aj P F.Dh [l7] (l7):=by
 refine aj.intro fn.Dh (by rfl) (by rfl) (aB (by rfl)) λE hE=>(AW.sg hE rfl (iI rfl rfl λb1=>(al z.Ring rfl λb2=>(OL.nil (AW.seq (AW.dg 2 [0,1,2,3,4,5,6] ay hE rfl (by kernel_rfl) (OI.aK (os:=[_,_,_,_,_,_,_]) rfl ?_)))))))
 refine aW fd.nZ rfl rfl (aG ce.int rfl rfl rfl (aW fd.LZ rfl rfl (aG ce.ints rfl rfl rfl (YX sl.ints rfl rfl (VC.d _) (λy hy=>by cases hy) (by decide) (by decide) (bd z.Ring pl.Ring (cs:=[_,_]) rfl (eH sz.Ring rfl rfl rfl rfl rfl (aB rfl) (cells2:=[_,_]) rfl (OL.nil ?_)))))))
 exact AW.ret (aP.r ⟨_,.dV rfl rfl ag.Ring (aB rfl) .nil,.ag (.cons (.le vR) (.cons (.le vR) .nil))⟩)
set_option maxRecDepth 8000 in
set_option maxHeartbeats 3200000 in
theorem aG4 {l:List bH}(nl:l.length<=20)(hz:∀ x,x ∈ l->sz x.q<=134217728):jd P F.zk [l7,.d (oI l)] (uh l).length T.pO 11 ((uh l).map jy):=by
 refine jd.intro fn.zk (by rfl) (by rfl) (aB (by rfl)) 4 rfl λE hE=>(AW.sg hE rfl (iI rfl rfl λb2=>(oK rfl (OL.nil (AW.sg hE rfl (oK rfl (OL.nil ?_)))))))
 refine AW.seq (AW.seq (AW.own 5 77 T.pO 11 rfl rfl (AW.rg hE rfl (aF rfl (OL.nil (AW.block ?_))))));refine AW.aV (α:=Nat × Nat × Nat) [(1,_),(2,_),(4,_)] [(2,_)] (λ(i,bq,cq)=>[(5,.bF 77 bq (bT l i).length cq),(6,.d (dI i))]) (λ(i,bq,cq)=>[(77,rowA bq cq (bT l i))]) (λ(i,bq,cq)=>i<=l.length) (λ(i,bq,cq)=>l.length-i) (0,0,0) (.cons (bK rfl) (.cons (gB rfl) (.cons (Ea rfl) .nil))) (.cons (iR rfl) .nil) ⟨Nat.zero_le _,.iq,.cons rfl .nil⟩ ?_
 rintro⟨i,bq,cq⟩ h1
 have h1:i<=l.length:=h1;have hlo:=Vf l i;have hzo:=KP hz i;refine AW.seq (AW.sg hE rfl (ai rfl (ai rfl (fJ sl.dH rfl rfl (aY rfl rfl rfl (OL.nil (AW.cond rfl (λBf=>?_) (λBf=>?_))))))))
 .try simp only[dX] at Bf
  refine AW.skip (AW.seq (AW.block (AW.sg hE rfl (ai rfl (ai rfl (fO sl.dH default rfl rfl (by omega) rfl rfl (jH ag.pO rfl (vs:=[_,_,_,_,_,_,_,_,_,_,_]) rfl (aB rfl) ?_)))))))
  refine al z.pO rfl λb7=>(eH sz.pO rfl rfl rfl rfl rfl (aB rfl) (cells2:=[_,_,_,_,_,_,_,_,_,_,_]) rfl (OL.nil (AW.seq ?_)));have hxz:=hz (l.getD i default) (getD_mem (by omega) default)
  refine AW.rg hE rfl (aO ag.Ring rfl rfl (vs:=[_,_]) rfl (aB rfl) (aW fd.uS rfl rfl (aO ag.aA rfl rfl (vs:=[_,_,_,_,_,_,_,_]) rfl (aB rfl) (bJ rfl vL (Jr (q:=(l.getD i default).q) (by omega)) (aW fd.uS rfl rfl (eH sz.aA rfl rfl rfl rfl rfl (aB rfl) (cells2:=[_,_,_,_,_,_,_,_,_,_,_]) rfl (OL.nil ?_)))))))
  refine AW.sg hE rfl (aF rfl (OL.nil ?_));refine AW.J7 (α:=Unit) [(1,_),(2,_),(4,_),(5,_),(6,_),(7,_)] [(2,_),(7,_),(77,_)] (λ_u=>[(8,.d (dI (uF (bT l i) (l.getD i default))))]) (λ_u=>[]) (λ_u=>True) (.cons (bK rfl) (.cons (gB rfl) (.cons (Ea rfl) (.cons (yj rfl) (.cons (bK rfl) (.cons (gB rfl) .nil)))))) (.cons (iR rfl) (.cons (iR rfl) (.cons (lg rfl) .nil))) ?_ ?_
  .refine AW.block ?_;refine AW.aV (α:=Nat) [(1,_),(2,_),(4,_),(5,_),(6,_),(7,_)] [(2,_),(7,_),(77,_)] (λk=>[(8,.d (dI k))]) (λk=>[]) (λk=>k<=(bT l i).length/\∀ j,j<k->pF ((bT l i).getD j default) (l.getD i default)<0) (λk=>(bT l i).length-k) 0 (.cons (bK rfl) (.cons (gB rfl) (.cons (Ea rfl) (.cons (yj rfl) (.cons (bK rfl) (.cons (gB rfl) .nil)))))) (.cons (iR rfl) (.cons (iR rfl) (.cons (lg rfl) .nil))) ⟨⟨Nat.zero_le _,λj hj=>by omega⟩,.bZ,.nil⟩ ?_
   rintro k ⟨h2,h3⟩
   have h2:k<=(bT l i).length:=h2;have h3:∀ j,j<k->pF ((bT l i).getD j default) (l.getD i default)<0:=h3;refine AW.seq (AW.seq (AW.dg 1 [0,1,2,3,4,5,6,7,8,9,10,11,12] ay hE rfl (by kernel_rfl) (OI.aK (os:=[_,_,_,_,_,_,_,_,_,_,_,_,_]) rfl ?_)))
   refine ai rfl (jq rfl (G5 sl.dH rfl rfl (aY rfl rfl rfl (ai rfl (OL.split 30 rfl (λhk=>?_) (λhk=>?_))))))
   .have hk:k<(bT l i).length:=by have:=lq hk;omega
    refine OL.yes rfl (jq rfl (OL.yes rfl (ai rfl (OL.yes rfl (iM sl.dH rfl rfl (by omega) (OL.yes rfl (FK ag.pO (by decide) rfl rfl (oQ (show k<(bT l i).length by omega)) (vs:=lN ((bT l i).getD k default)) rfl (aB rfl) ?_)))))))
    refine OL.yes rfl (aO ag.pO rfl rfl (vs:=[_,_,_,_,_,_,_,_,_,_,_]) rfl (aB rfl) (OL.yes rfl (bJ rfl vL (Yw (x:=(bT l i).getD k default) (y:=(l.getD i default))) (OL.yes rfl (aY rfl rfl rfl (OL.split 37 rfl (λho=>?_) (λho=>?_)))))))
    .have ho:pF ((bT l i).getD k default) (l.getD i default)<0:=lq ho;refine oC rfl rfl (OL.nil (Ot rfl ?_));refine AW.skip (AW.block (AW.rg hE rfl (ai rfl (aI rfl rfl (by omega) (aF rfl (OL.nil ?_))))))
     exact AW.again (x:=k) (k+1) (by omega) ⟨⟨by omega,λj hj=>by rcases Nat.lt_or_ge j k with h|h;exact h3 j h;obtain rfl:j=k:=(by omega);exact ho⟩,Knows.app .RZ .bZ,dw.app (.cons rfl (.cons rfl (.cons rfl .nil))) (.nil)⟩
    .have ho:¬ pF ((bT l i).getD k default) (l.getD i default)<0:=nS ho;refine oC rfl rfl (OL.nil (qW rfl ?_));refine AW.exit ?_;exact AW.reach () ⟨trivial,Knows.app .RZ (.cons (bG.int (by rw[ar8 h2 h3 (.inr ho)])) .nil),dw.app (.cons rfl (.cons rfl (.cons rfl .nil))) (.nil)⟩
   .have hk:(bT l i).length<=k:=by have:=nS hk;omega
    refine OL.nd rfl (OL.nd rfl (OL.nd rfl (OL.nd rfl (OL.nd rfl (OL.nd rfl (OL.nd rfl (kL rfl rfl ?_)))))));refine OL.nil (qW rfl ?_);refine AW.exit ?_;exact AW.reach () ⟨trivial,Knows.app .RZ (.cons (bG.int (by rw[ar8 h2 h3 (.inl (by omega))])) .nil),dw.app (.cons rfl (.cons rfl (.cons rfl .nil))) (.nil)⟩
  rintro⟨⟩ -
  have hat:(uF (bT l i) (l.getD i default))<=(bT l i).length:=List.findIdx_le_length;refine AW.seq (AW.seq (AW.dg 1 [0,1,2,3,4,5,6,7,8,9,10,11,12] ay hE rfl (by kernel_rfl) (OI.aK (os:=[_,_,_,_,_,_,_,_,_,_,_,_,_]) rfl ?_)))
  refine ai rfl (jq rfl (G5 sl.dH rfl rfl (aY rfl rfl rfl (ai rfl (OL.split 45 rfl (λha=>?_) (λha=>?_))))))
  .have ha:(uF (bT l i) (l.getD i default))<(bT l i).length:=by have:=lq ha;omega
   refine OL.yes rfl (jq rfl (OL.yes rfl (ai rfl (OL.yes rfl (iM sl.dH rfl rfl (by omega) (OL.yes rfl (FK ag.pO (by decide) rfl rfl (oQ (show (uF (bT l i) (l.getD i default))<(bT l i).length by omega)) (vs:=lN ((bT l i).getD (uF (bT l i) (l.getD i default)) default)) rfl (aB rfl) ?_)))))))
   refine OL.yes rfl (aO ag.pO rfl rfl (vs:=[_,_,_,_,_,_,_,_,_,_,_]) rfl (aB rfl) (OL.yes rfl (bJ rfl vL (Yw (x:=((bT l i).getD (uF (bT l i) (l.getD i default)) default)) (y:=(l.getD i default))) (OL.yes rfl (dR rfl rfl rfl (OL.split 52 rfl (λho=>?_) (λho=>?_)))))))
   .have ho:pF ((bT l i).getD (uF (bT l i) (l.getD i default)) default) (l.getD i default)=0:=lq ho;have hyz:=hzo ((bT l i).getD (uF (bT l i) (l.getD i default)) default) (getD_mem ha default);refine oC rfl rfl (OL.nil (Ot rfl ?_));refine AW.seq (AW.dg 1 [0,1,2,3,4,5,6,7,8,9,10,11,12,13] ay hE rfl (by kernel_rfl) (OI.aK (os:=[_,_,_,_,_,_,_,_,_,_,_,_,_,_]) rfl ?_))
    refine jq rfl (ai rfl (aO ag.Ring rfl rfl (vs:=[_,_]) rfl (aB rfl) (jq rfl (ai rfl (iM sl.dH rfl rfl (by omega) (faE fd.uS rfl rfl ?_))))))
    refine FK ag.aA (by decide) rfl rfl (oQ ha) (vs:=[.d (dB (fZ ((bT l i).getD (uF (bT l i) (l.getD i default)) default).q).neg),.d (aH (fZ ((bT l i).getD (uF (bT l i) (l.getD i default)) default).q).num),.d (aH (fZ ((bT l i).getD (uF (bT l i) (l.getD i default)) default).q).den),.d (dI 0),.d (dB false),.d (dU 0),.d (.sl []),.d (.sl [])]) rfl (aB rfl) ?_
    refine aW fd.uS rfl rfl (aO ag.aA rfl rfl (vs:=[_,_,_,_,_,_,_,_]) rfl (aB rfl) (bJ rfl vL (Xi (p:=((bT l i).getD (uF (bT l i) (l.getD i default)) default).q) (q:=(l.getD i default).q) (by omega) (by omega)) (iM sl.dH rfl rfl (by omega) (faE fd.uS rfl rfl ?_))))
    refine stF sz.aA rfl (d:=dW (((bT l i).getD (uF (bT l i) (l.getD i default)) default).q+(l.getD i default).q)) Nu rfl rfl (oQ ha) (by decide) (el2:=jy { ((bT l i).getD (uF (bT l i) (l.getD i default)) default) with q:=((bT l i).getD (uF (bT l i) (l.getD i default)) default).q+(l.getD i default).q }) rfl (es2:=((bT l i).set (uF (bT l i) (l.getD i default)) { ((bT l i).getD (uF (bT l i) (l.getD i default)) default) with q:=((bT l i).getD (uF (bT l i) (l.getD i default)) default).q+(l.getD i default).q }).map jy) (by rw[List.map_set]) ?_
    refine OL.nil (AW.exit (AW.rg hE rfl (ai rfl (aI rfl rfl (by omega) (aF rfl (OL.nil ?_))))))
    exact AW.again (x:=(i,bq,cq)) (i+1,bq,cq) (by (simp only[];omega)) ⟨by omega,Knows.app .Ah (.cons (by rw[uX (by omega),Ac,if_pos ⟨ha,ho⟩,List.length_set];exact bG.refl _) .bZ),dw.app (.cons rfl .nil) (.cons (by rw[uX (by omega),Ac,if_pos ⟨ha,ho⟩];rfl) .nil)⟩
   .have ho:¬ pF ((bT l i).getD (uF (bT l i) (l.getD i default)) default) (l.getD i default)=0:=nS ho;have hin:Ac (bT l i) (l.getD i default)=(bT l i).take (uF (bT l i) (l.getD i default))++(l.getD i default)::(bT l i).drop (uF (bT l i) (l.getD i default)):=if_neg (λe=>ho e.2);refine oC rfl rfl (OL.nil (qW rfl ?_));refine AW.skip ?_;have htk:((bT l i).take (uF (bT l i) (l.getD i default))).length=(uF (bT l i) (l.getD i default)):=by rw[List.length_take];omega
    have hdl:((bT l i).drop (uF (bT l i) (l.getD i default))).length=(bT l i).length-(uF (bT l i) (l.getD i default)):=List.length_drop;refine AW.freeze 77 rfl (AW.to [(1,.d (oI l)),(2,.ptr 2 b2 0),(4,.mt),(5,.d (oI (bT l i))),(6,.d (dI i)),(7,.ptr 7 b7 0),(8,.d (dI (uF (bT l i) (l.getD i default))))] [(2,.box b2 T.Ring [.d (dI 1),.d (.sl [])]),(7,.box b7 T.pO (lN (l.getD i default)))] (.cons vR (.cons bG.ptr (.cons vR (.cons (dL (by rw[dJ]) rfl) (.cons vR (.cons bG.ptr .bZ)))))) (.cons rfl (.cons rfl .nil)) ?_)
    refine AW.dg 2 [0,1,2,4,5,7,8,9,3,6,10,11] ay hE rfl (by kernel_rfl) (OI.aK (os:=[_,_,_,_,_,_,_,_,_,_,_,_]) rfl ?_)
    refine ai rfl (ai rfl (ae0 sl.dH rfl rfl (λ_=>rfl) (by omega) (l2:=(bT l i).take (uF (bT l i) (l.getD i default))) (by rw[Int.toNat_natCast]) (aO ag.pO rfl rfl (vs:=[_,_,_,_,_,_,_,_,_,_,_]) rfl (aB rfl) (zX (y:=jy (l.getD i default)) sl.dH Bg rfl (by decide) (ai rfl (ai rfl (ae1 sl.dH rfl rfl (λ_=>rfl) (by omega) (l2:=(bT l i).drop (uF (bT l i) (l.getD i default))) (by rw[Int.toNat_natCast]) ?_)))))))
    refine apM sl.dH rfl rfl (VC.d _) Ew (by rw[dJ,htk];omega) (by rw[dJ,htk];omega) rfl λb70 c70=>?_
    refine Ce sl.dH rfl rfl rfl (by rw[dJ]) (VC.d _) (λy hy=>by rw[lW hy];rfl) (by rw[dJ,htk];simp only[oU];omega) (by rw[dJ,htk];simp only[oU];omega) (.inl rfl) (ys:=((bT l i).take (uF (bT l i) (l.getD i default))++[(l.getD i default)]).map jy) (by rw[List.map_append];rfl) (n2:=(uF (bT l i) (l.getD i default))+1) (by rw[dJ,htk];rfl) λb73 c73=>?_
    refine Ce sl.dH rfl rfl rfl (by rw[dJ,jG,htk];rfl) (VC.d _) Ew (by rw[dJ,hdl];omega) (by rw[dJ,hdl];omega) (.inl rfl) (ys:=((bT l i).take (uF (bT l i) (l.getD i default))++(l.getD i default)::(bT l i).drop (uF (bT l i) (l.getD i default))).map jy) (by rw[<- List.map_append,List.append_assoc];rfl) (n2:=((bT l i).take (uF (bT l i) (l.getD i default))++(l.getD i default)::(bT l i).drop (uF (bT l i) (l.getD i default))).length) (by rw[dJ,hdl,jG,List.length_cons,htk,hdl];omega) λb77 c77=>?_
    refine tJ rfl (OL.nil (AW.rg hE rfl (ai rfl (aI rfl rfl (by omega) (aF rfl (OL.nil ?_))))))
    exact AW.again (x:=(i,bq,cq)) (i+1,b77,c77) (by (simp only[];omega)) ⟨by omega,Knows.app .Ah (.cons (by rw[uX (by omega),hin];exact bG.refl _) .bZ),dw.app (.cons rfl .nil) (.cons (by rw[uX (by omega),hin];rfl) .nil)⟩
  .have ha:¬ (uF (bT l i) (l.getD i default))<(bT l i).length:=by have:=nS ha;omega
   have hin:Ac (bT l i) (l.getD i default)=(bT l i).take (uF (bT l i) (l.getD i default))++(l.getD i default)::(bT l i).drop (uF (bT l i) (l.getD i default)):=if_neg (λe=>ha e.1);refine OL.nd rfl (OL.nd rfl (OL.nd rfl (OL.nd rfl (OL.nd rfl (OL.nd rfl (OL.nd rfl (kL rfl rfl ?_)))))));refine OL.nil (qW rfl ?_);refine AW.skip ?_;have htk:((bT l i).take (uF (bT l i) (l.getD i default))).length=(uF (bT l i) (l.getD i default)):=by rw[List.length_take];omega
   have hdl:((bT l i).drop (uF (bT l i) (l.getD i default))).length=(bT l i).length-(uF (bT l i) (l.getD i default)):=List.length_drop;refine AW.freeze 77 rfl (AW.to [(1,.d (oI l)),(2,.ptr 2 b2 0),(4,.mt),(5,.d (oI (bT l i))),(6,.d (dI i)),(7,.ptr 7 b7 0),(8,.d (dI (uF (bT l i) (l.getD i default))))] [(2,.box b2 T.Ring [.d (dI 1),.d (.sl [])]),(7,.box b7 T.pO (lN (l.getD i default)))] (.cons vR (.cons bG.ptr (.cons vR (.cons (dL (by rw[dJ]) rfl) (.cons vR (.cons bG.ptr .bZ)))))) (.cons rfl (.cons rfl .nil)) ?_)
   refine AW.dg 2 [0,1,2,4,5,7,8,9,3,6,10,11] ay hE rfl (by kernel_rfl) (OI.aK (os:=[_,_,_,_,_,_,_,_,_,_,_,_]) rfl ?_)
   refine ai rfl (ai rfl (ae0 sl.dH rfl rfl (λ_=>rfl) (by omega) (l2:=(bT l i).take (uF (bT l i) (l.getD i default))) (by rw[Int.toNat_natCast]) (aO ag.pO rfl rfl (vs:=[_,_,_,_,_,_,_,_,_,_,_]) rfl (aB rfl) (zX (y:=jy (l.getD i default)) sl.dH Bg rfl (by decide) (ai rfl (ai rfl (ae1 sl.dH rfl rfl (λ_=>rfl) (by omega) (l2:=(bT l i).drop (uF (bT l i) (l.getD i default))) (by rw[Int.toNat_natCast]) ?_)))))))
   refine apM sl.dH rfl rfl (VC.d _) Ew (by rw[dJ,htk];omega) (by rw[dJ,htk];omega) rfl λb70 c70=>?_
   refine Ce sl.dH rfl rfl rfl (by rw[dJ]) (VC.d _) (λy hy=>by rw[lW hy];rfl) (by rw[dJ,htk];simp only[oU];omega) (by rw[dJ,htk];simp only[oU];omega) (.inl rfl) (ys:=((bT l i).take (uF (bT l i) (l.getD i default))++[(l.getD i default)]).map jy) (by rw[List.map_append];rfl) (n2:=(uF (bT l i) (l.getD i default))+1) (by rw[dJ,htk];rfl) λb73 c73=>?_
   refine Ce sl.dH rfl rfl rfl (by rw[dJ,jG,htk];rfl) (VC.d _) Ew (by rw[dJ,hdl];omega) (by rw[dJ,hdl];omega) (.inl rfl) (ys:=((bT l i).take (uF (bT l i) (l.getD i default))++(l.getD i default)::(bT l i).drop (uF (bT l i) (l.getD i default))).map jy) (by rw[<- List.map_append,List.append_assoc];rfl) (n2:=((bT l i).take (uF (bT l i) (l.getD i default))++(l.getD i default)::(bT l i).drop (uF (bT l i) (l.getD i default))).length) (by rw[dJ,hdl,jG,List.length_cons,htk,hdl];omega) λb77 c77=>?_
   refine tJ rfl (OL.nil (AW.rg hE rfl (ai rfl (aI rfl rfl (by omega) (aF rfl (OL.nil ?_))))))
   exact AW.again (x:=(i,bq,cq)) (i+1,b77,c77) (by (simp only[];omega)) ⟨by omega,Knows.app .Ah (.cons (by rw[uX (by omega),hin];exact bG.refl _) .bZ),dw.app (.cons rfl .nil) (.cons (by rw[uX (by omega),hin];rfl) .nil)⟩
 .try simp only[dX] at Bf
  refine AW.exit (AW.seq ?_);obtain rfl:i=l.length:=by omega
  refine AW.freeze 77 rfl (AW.to [(2,.ptr 2 b2 0),(4,.mt),(5,.d (oI (bT l l.length)))] [(2,.box b2 T.Ring [.d (dI 1),.d (.sl [])])] (.cons bG.ptr (.cons vR (.cons (dL (by rw[dJ]) rfl) .nil))) (.cons rfl .nil) ?_)
  refine AW.rg hE rfl (oK rfl (OL.nil (AW.seq (AW.seq (AW.own 9 98 T.pO 11 rfl rfl (AW.rg hE rfl (aF rfl ?_)))))));refine OL.nil (AW.block ?_);refine AW.aV (α:=Nat × Nat × Nat) [(2,_),(4,_),(5,_)] [(2,_)] (λ(k,bk,ck)=>[(9,.bF 98 bk (Sj ((bT l l.length).take k)).length ck),(10,.d (dI k))]) (λ(k,bk,ck)=>[(98,rowA bk ck (Sj ((bT l l.length).take k)))]) (λ(k,bk,ck)=>k<=(bT l l.length).length) (λ(k,bk,ck)=>(bT l l.length).length-k) (0,0,0) (.cons (gB rfl) (.cons (Ea rfl) (.cons (bK rfl) .nil))) (.cons (iR rfl) .nil) ⟨Nat.zero_le _,.iq,.cons rfl .nil⟩ ?_
  rintro⟨k,bk,ck⟩ h5
  have h5:k<=(bT l l.length).length:=h5;have hnl:(Sj ((bT l l.length).take k)).length<=k:=by unfold Sj;refine Nat.le_trans (List.length_filter_le ..) ?_;rw[List.length_take];omega
  refine AW.seq (AW.sg hE rfl (ai rfl (ai rfl (fJ sl.dH rfl rfl (aY rfl rfl rfl (OL.nil (AW.cond rfl (λh81=>?_) (λh81=>?_))))))))
  .try simp only[dX] at h81
   refine AW.skip (AW.seq (AW.block (AW.seq ?_)));have hk9:k<(bT l l.length).length:=by omega
   have hyz:=KP hz l.length _ (getD_mem hk9 default);have br5:sz ((bT l l.length).getD k default).q<=68719476736:=by have:=Nat.mul_le_mul_right 134217730 (show l.length+1<=21 by omega);omega
   refine AW.dg 1 [0,1,2,3,4,5,6,7] ay hE rfl (by kernel_rfl) (OI.aK (os:=[_,_,_,_,_,_,_,_]) rfl ?_)
   refine aO ag.Ring rfl rfl (vs:=[_,_]) rfl (aB rfl) (ai rfl (ai rfl (fO sl.dH default rfl rfl hk9 rfl rfl (Vp fd.uS rfl rfl (jH ag.aA rfl (vs:=[_,_,_,_,_,_,_,_]) rfl (aB rfl) (bJ rfl vL (ar5 (q:=((bT l l.length).getD k default).q) br5) (nt rfl ?_)))))));refine OL.nil (AW.cond rfl (λhq=>?_) (λhq=>?_))
   .have hq:((bT l l.length).getD k default).q≠0:=D7 hq;refine AW.rg hE rfl (jq rfl (ai rfl (ai rfl (fO sl.dH default rfl rfl hk9 rfl rfl (jH ag.pO rfl (vs:=[_,_,_,_,_,_,_,_,_,_,_]) rfl (aB rfl) (zX (y:=jy ((bT l l.length).getD k default)) sl.dH Bg rfl (by decide) ?_))))))
    refine Ce sl.dH rfl rfl rfl (by rw[dJ]) (VC.d _) (λy hy=>by rw[lW hy];rfl) (by simp;omega) (by simp;omega) (.inr rfl) (ys:=(Sj ((bT l l.length).take k)++[(bT l l.length).getD k default]).map jy) (by rw[List.map_append];rfl) (n2:=(Sj ((bT l l.length).take k)++[(bT l l.length).getD k default]).length) (by rw[jG];rfl) λb98 c98=>?_
    refine tJ rfl (OL.nil (AW.rg hE rfl (ai rfl (aI rfl rfl (by omega) (aF rfl (OL.nil ?_))))))
    exact AW.again (x:=(k,bk,ck)) (k+1,b98,c98) (by (simp only[];omega)) ⟨by omega,Knows.app .Ah (.cons (by rw[Iz hk9,if_pos hq];exact bG.refl _) .bZ),dw.app (.cons rfl .nil) (.cons (by rw[Iz hk9,if_pos hq];rfl) .nil)⟩
   .have hq:((bT l l.length).getD k default).q=0:=Bc hq;refine AW.skip (AW.rg hE rfl (ai rfl (aI rfl rfl (by omega) (aF rfl (OL.nil ?_)))))
    exact AW.again (x:=(k,bk,ck)) (k+1,bk,ck) (by (simp only[];omega)) ⟨by omega,Knows.app .Ah (.cons (by rw[Iz hk9,if_neg (λe=>e hq),List.append_nil];exact bG.refl _) .bZ),dw.app (.cons rfl .nil) (.cons (by rw[Iz hk9,if_neg (λe=>e hq),List.append_nil];rfl) .nil)⟩
  .try simp only[dX] at h81
   refine AW.exit (AW.seq ?_);obtain rfl:k=(bT l l.length).length:=by omega
   have e9:Sj ((bT l l.length).take (bT l l.length).length)=uh l:=by rw[<- ar7,List.take_length]
   dsimp only
   rw[e9];exact AW.rg hE rfl (jq rfl (tJ rfl (OL.nil (AW.ret ⟨.inr rfl,98,bk,ck,(uh l).map jy,rfl,rfl,by rw[dJ];exact Nat.le_refl _,List.take_of_length_le (by rw[dJ];exact Nat.le_refl _)⟩))))
theorem as1 {l:List bH}(nl:l.length<=20)(hz:∀ x,x ∈ l->sz x.q<=134217728):aj P F.zk [l7,.d (oI l)] (.d (oI (uh l))):=jd.data (aG4 nl hz) (dJ ..).symm
theorem aU4 {a:Au}(h:a.Ok)(za:a.Sz 134217728 20)(s2:a.st<=64):aj P F.CX [zL a] (zL (Gs a)):=by
 have e1:=h.ini;have e2:=h.fin;have e3:=za.num;refine aj.intro fn.CX (by rfl) (by rfl) (aB (by rfl)) λE hE=>(AW.sg hE rfl (iI rfl rfl λb1=>(al z.Auto rfl λb2=>(OL.nil (AW.seq (AW.dg 1 [0,1,2,3,4,5,6,7,8,9,10,11,12,13,14,15,16,17,18,19,20,21,22,23] ay hE rfl (by kernel_rfl) (OI.aK (os:=[_,_,_,_,_,_,_,_,_,_,_,_,_,_,_,_,_,_,_,_,_,_,_,_]) rfl ?_)))))))
 refine aW fd.iZ rfl rfl (aO ag.Ring rfl rfl (vs:=[_,_]) rfl (aB rfl) (bJ rfl .bZ (aU3) (aW fd.qp rfl rfl (aG ce.int rfl rfl rfl (aW fd.mF rfl rfl (aG ce.int rfl rfl rfl (aW fd.iZ rfl rfl ?_)))))));refine aO ag.Ring rfl rfl (vs:=[_,_]) rfl (aB rfl) (aW fd.vV rfl rfl (aG ce.aU rfl rfl rfl (bJ rfl vL (ar9 (l:=a.ini) (by omega) za.ini) (aW fd.iZ rfl rfl (aO ag.Ring rfl rfl (vs:=[_,_]) rfl (aB rfl) (aW fd.wR rfl rfl (aG ce.aU rfl rfl rfl ?_)))))))
 refine bJ rfl vL (ar9 (l:=a.fin) (by omega) za.fin) (aW fd.iZ rfl rfl (aO ag.Ring rfl rfl (vs:=[_,_]) rfl (aB rfl) (aW fd.jJ rfl rfl (aG ce.dH rfl rfl rfl (bJ rfl vL (as1 (l:=a.aS) e3 za.arc) (VX (cs:=[_,_,_,_,_,_,_]) z.Auto pl.Auto (ve (by exact evA rfl) (ve (by exact DV rfl) (ve (by exact DV rfl) (ve (by exact DV rfl) (ve (by exact DV rfl) (ve (by exact DV rfl) (VW))))))) (by rfl) (eH sz.Auto rfl rfl rfl rfl rfl (aB rfl) (cells2:=[_,_,_,_,_,_,_]) rfl ?_)))))))
 exact OL.nil (AW.ret (aP.r ⟨_,.dV rfl rfl ag.Auto (aB rfl) .nil,.ag (.cons (.le vR) (.cons (.le vR) (.cons (.le vR) (.cons (.le vR) (.cons (.le vR) (.cons (.le vR) (.cons (.le vR) .nil)))))))⟩))

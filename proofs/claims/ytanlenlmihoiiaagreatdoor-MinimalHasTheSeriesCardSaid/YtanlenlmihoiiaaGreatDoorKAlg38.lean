/-
  AL, part 38: the elements of a row from some place on become zero.
-/
import Derived.Test.YtanlenlmihoiiaaGreatDoorKWkB
set_option linter.unusedVariables false
set_option linter.unusedSimpArgs false
namespace Go.Proofs.YtanlenlmihoiiaaGreatDoor
open Go Go.AL
def Kt (a b:Int):Int:=if a<b then -1 else if b<a then 1 else 0
theorem KG {l m:List Int}{i:Nat}(h1:i<l.length)(h2:i<m.length):cmpL (l.drop i) (m.drop i)=if Kt (l.getD i 0) (m.getD i 0)=0 then cmpL (l.drop (i+1)) (m.drop (i+1)) else Kt (l.getD i 0) (m.getD i 0):=by
 have e1:l.getD i 0=l[i]:=by rw[iO,lF h1];rfl
 have e2:m.getD i 0=m[i]:=by rw[iO,lF h2];rfl
 rw[List.drop_eq_getElem_cons h1,List.drop_eq_getElem_cons h2,cmpL,e1,e2];unfold Kt;by_cases a:l[i]<m[i]
 .rw[if_pos a,if_pos a,if_neg (by decide)]
 .rw[if_neg a,if_neg a];by_cases b:m[i]<l[i]
  .rw[if_pos b,if_pos b,if_neg (by decide)]
  .rw[if_neg b,if_neg b,if_pos rfl]
theorem cmp_isNaN_int {x:Int}:ai P F.cmp_isNaN_int [.d (dI x)] (.d (dB false)):=by
 refine ai.intro fn.cmp_isNaN_int (by rfl) (by rfl) (au (by rfl)) λE hE=>(AW.sg hE rfl (aG rfl (OL.nil (AW.sg hE rfl (aj rfl (aj rfl (fJ rfl rfl rfl ?_)))))))
 exact aG rfl (OL.nil (AW.ret (aT.r ⟨_,.tmp rfl .nil,.le (bV.bool (by simp_all))⟩)))
theorem cmp_Compare_int {x y:Int}:ai P F.cmp_Compare_int [.d (dI x),.d (dI y)] (.d (dI (Kt x y))):=by
 refine ai.intro fn.cmp_Compare_int (by rfl) (by rfl) (au (by rfl)) λE hE=>(AW.sg hE rfl (aG rfl (OL.nil (AW.sg hE rfl (aj rfl (bP rfl vL (cmp_isNaN_int) (aG rfl ?_)))))))
 refine OL.nil (AW.sg hE rfl (aj rfl (bP rfl vL (cmp_isNaN_int) (aG rfl (OL.nil (AW.seq (AW.sg hE rfl ?_)))))));refine aj rfl (OL.nil (pW rfl ?_));refine AW.skip (AW.seq (AW.sg hE rfl (aj rfl (OL.nil (pW rfl ?_)))));refine AW.skip (AW.seq (AW.sg hE rfl (aj rfl (aj rfl (bD rfl rfl rfl (OL.nil (AW.cond rfl (λh1=>?_) (λh1=>?_))))))))
 .have h1:=mX h1;exact AW.sg hE rfl (aG rfl (OL.nil (AW.ret (aT.r ⟨_,.tmp rfl .nil,.le (bV.int ((if_pos h1).symm))⟩))))
 .have h1:=oN h1;refine AW.skip (AW.seq (AW.sg hE rfl (aj rfl (aj rfl (kS rfl rfl rfl (OL.nil (AW.cond rfl (λh2=>?_) (λh2=>?_))))))))
  .have h2:=mX h2;exact AW.sg hE rfl (aG rfl (OL.nil (AW.ret (aT.r ⟨_,.tmp rfl .nil,.le (bV.int (by unfold Kt;rw[if_neg h1,if_pos h2]))⟩))))
  .have h2:=oN h2;exact AW.skip (AW.sg hE rfl (aG rfl (OL.nil (AW.ret (aT.r ⟨_,.tmp rfl .nil,.le (bV.int (by unfold Kt;rw[if_neg h1,if_neg h2]))⟩)))))
theorem Yf {l:List Int}(nl:l.length<=1099511627776):ai P F.iZ [.d (ints l)] (.d (ints l)):=by
 refine ai.intro fn.iZ (by rfl) (by rfl) (au (by rfl)) λE hE=>(AW.sg hE rfl (nI rfl (OL.nil (AW.seq (AW.sg hE rfl (aj rfl (isNil sl.ints.u rfl (λy hy=>by obtain⟨a,_,rfl⟩:=jH hy;exact Nat.succ_pos _) rfl λb hb=>?_)))))))
 refine OL.nil (AW.cond rfl (λh=>?_) (λh=>?_))
 .have hL:l=[]:=by have:=hb h;simpa using this
  exact AW.sg hE rfl (nI rfl (OL.nil (AW.ret (aT.r ⟨_,.tmp rfl .nil,.le (hL ▸ bV.mt)⟩))))
 .have _h:=h;exact AW.skip (AW.sg hE rfl (lt0 sl.ints (aj rfl (aq5 sl.ints rfl rfl (VC.d _) (λy hy=>by obtain⟨a,_,rfl⟩:=jH hy;rfl) (by simp;omega) (by simp;omega) (aG rfl (OL.nil (AW.ret (aT.r ⟨_,.tmp rfl .nil,.le vR⟩))))))))
theorem VP {l:List Int}(nl:l.length<=1099511627776):qf P F.iZ [.d (ints l)] l.length T.int 1 (l.map dI):=by
 refine qf.intro fn.iZ (by rfl) (by rfl) (au (by rfl)) 2 rfl λE hE=>(AW.sg hE rfl (nI rfl (OL.nil (AW.seq (AW.sg hE rfl (aj rfl (isNil sl.ints.u rfl (λy hy=>by obtain⟨a,_,rfl⟩:=jH hy;exact Nat.succ_pos _) rfl λb hb=>?_)))))))
 refine OL.nil (AW.cond rfl (λh=>?_) (λh=>?_))
 .have hL:l=[]:=by have:=hb h;simpa using this
  subst hL;exact AW.sg hE rfl (nI rfl (OL.nil (AW.own 2 99 T.int 1 rfl rfl (AW.ret ⟨.inr rfl,99,0,0,[],rfl,rfl,Nat.le_refl _,rfl⟩))))
 .have _h:=h;exact AW.skip (AW.sg hE rfl (lt0 sl.ints (aj rfl (apM sl.ints rfl rfl (VC.d _) ba4 (by simp;omega) (by simp;omega) rfl λb7 c7=>(uf rfl (OL.nil (AW.ret ⟨.inr rfl,7,b7,c7,l.map dI,by show V.bK 7 b7 (List.map dI l).length c7=_;rw[dL],rfl,by rw[dL];exact Nat.le_refl _,List.take_of_length_le (by rw[dL];exact Nat.le_refl _)⟩)))))))
def orL:List Int->Int
 | []=>0
 | x::r=>if x=0 then orL r else x
theorem ay2:∀ {l:List Int} {i:Nat},i<l.length->(∀ j,j<i->l.getD j 0=0)->l.getD i 0≠0->orL l=l.getD i 0
 | x::r,0,_,_,h=>if_neg h
 | x::r,i+1,hi,hz,h=>(if_pos (hz 0 (Nat.zero_lt_succ _))).trans (ay2 (by simpa using hi) (λj hj=>hz (j+1) (by omega)) h)
theorem VQ:∀ {l:List Int},(∀ j,j<l.length->l.getD j 0=0)->orL l=0
 | [],_=>rfl
 | x::r,h=>(if_pos (h 0 (Nat.zero_lt_succ _))).trans (VQ λj hj=>h (j+1) (by simpa using hj))
theorem Yg (a b:Nat):Kt (a:Int) (b:Int)=cI a b:=by
 unfold Kt cI;by_cases h1:a<b
 .rw[if_pos (by omega),if_pos h1]
 .rw[if_neg (by omega),if_neg h1]
  by_cases h2:b<a
  .rw[if_pos (by omega),if_pos h2]
  .rw[if_neg (by omega),if_neg h2]
theorem bd3 (x y:bM):orL [cI x.f y.f,cI x.l y.l,cI x.t y.t]=oH x y:=by
 unfold oH;by_cases h1:cI x.f y.f=0 <;> by_cases h2:cI x.l y.l=0 <;> by_cases h3:cI x.t y.t=0 <;> simp[orL,h1,h2,h3]
abbrev rowA (b c:Nat)(l:List bM):iI:=.row b c T.mQ 11 (l.map jv)
theorem qZ {l:List bM}{i:Nat}(hi:i<l.length):(l.map jv)[i]? = some (jv (l.getD i default)):=by rw[List.getElem?_map,iO,lF hi];rfl
theorem wO {x:bM}:VD (KE x) (jv x):=VD.ag (.cons (VC.d _) (.cons (VC.d _) (.cons (VC.d _) (.cons (VC.d _) (.cons (VC.d _) (.cons (VC.d _) (.cons (VC.d _) (.cons (VC.d _) (.cons (VC.d _) (.cons (VC.d _) (.cons (VC.d _) .nil)))))))))))
abbrev pR (x:bM):List V:=[.d (dI x.f),.d (dI x.l),.d (dI x.t),.d (dB (iD x.q).neg),.d (aI (iD x.q).num),.d (aI (iD x.q).den),.d (dI 0),.d (dB false),.d (dU 0),.d (.sl []),.d (.sl [])]
theorem ah9 {l:List bM}{j:Nat}:((l.map jv).set (j+1) (jv (l.getD j default))).set j (jv (l.getD (j+1) default))=(EJ l j).map jv:=by
 unfold EJ;rw[List.map_set,List.map_set]
theorem FN {l:List bM}:∀ y,y ∈ l.map jv->y.cells.length=11:=λy hy=>by obtain⟨a,_,rfl⟩:=jH hy;rfl
theorem aP5 {l:List Int}(nl:l.length<=1099511627776):ai P F.D9 [.d (ints l)] (.d (dI (orL l))):=by
 refine ai.intro fn.D9 (by rfl) (by rfl) (au (by rfl)) λE hE=>(AW.sg hE rfl (aG rfl (OL.nil (AW.sg hE rfl (aG rfl (OL.nil (AW.seq ?_)))))))
 refine AW.sg hE rfl (aj rfl (fO sl.ints rfl rfl (aj rfl (OL.nil (AW.block ?_)))));refine AW.aX (α:=Nat) [(3,_),(6,_),(7,_)] [] (λi=>[(8,.d (dI i))]) (λi=>[]) (λi=>i<=l.length/\∀ j,j<i->l.getD j 0=0) (λi=>l.length-i) 0 (.cons (dA rfl) (.cons (dA rfl) (.cons (dA rfl) .nil))) .nil ⟨⟨Nat.zero_le _,λj hj=>by omega⟩,.dw,.nil⟩ ?_
 rintro i ⟨h1,h2⟩
 refine AW.sg hE rfl (bD rfl rfl rfl (OL.nil (AW.seq (AW.cond rfl (λh9=>?_) (λh9=>?_)))))
 .try simp only[fG] at h9
  refine AW.skip (AW.seq (AW.block (AW.sg hE rfl (fD sl.ints 0 rfl rfl (by omega) rfl rfl (jb ce.int rfl (aG rfl (OL.nil ?_)))))))
  refine AW.sg hE rfl (aj rfl (aj rfl (fJ rfl rfl rfl (OL.nil (AW.cond rfl (λhc=>?_) (λhc=>?_))))))
  .have hc:l.getD i 0≠0:=zH hc;exact AW.sg hE rfl (aj rfl (aG rfl (OL.nil (AW.ret (aT.r ⟨_,.tmp rfl .nil,.le (bV.int ((ay2 (by omega) h2 hc).symm))⟩)))))
  .have hc:l.getD i 0=0:=yc hc;refine AW.skip (AW.rg hE rfl (aJ rfl rfl (by omega) (aj rfl (OL.nil ?_))))
   exact AW.again (x:=i) (i+1) (by omega) ⟨⟨by omega,λj hj=>by rcases Nat.lt_or_ge j i with h|h;exact h2 j h;obtain rfl:j=i:=(by omega);exact hc⟩,Knows.app .yI .dw,.nil⟩
 .try simp only[fG] at h9
  exact AW.exit (AW.sg hE rfl (aj rfl (aG rfl (OL.nil (AW.ret (aT.r ⟨_,.tmp rfl .nil,.le (bV.int ((VQ λj hj=>h2 j (by omega)).symm))⟩))))))
theorem ay3 {x y:bM}:ai P F.dJ [KE x,KE y] (.d (dI (oH x y))):=by
 refine ai.intro fn.dJ (by rfl) (by rfl) (au (by rfl)) λE hE=>(AW.sg hE rfl (iG rfl rfl λb2=>(iG rfl rfl λb3=>(aG rfl (OL.nil (AW.seq (AW.dg 1 [0,1,2,3,4,5,6,7,8,9,10,11,12,13,14,15,16,17] ak hE rfl (by kernel_rfl) (OI.aP (os:=[_,_,_,_,_,_,_,_,_,_,_,_,_,_,_,_,_,_]) rfl ?_))))))))
 refine aV fd.Ff rfl rfl (aA ce.int rfl rfl rfl (aV fd.Ff rfl rfl (aA ce.int rfl rfl rfl (bP rfl vL (cmp_Compare_int (x:=(x.f:Int)) (y:=(y.f:Int))) ?_))));rw[Yg];refine aV fd.Bj rfl rfl (aA ce.int rfl rfl rfl (aV fd.Bj rfl rfl (aA ce.int rfl rfl rfl (bP rfl vL (cmp_Compare_int (x:=(x.l:Int)) (y:=(y.l:Int))) ?_))));rw[Yg];refine aV fd.Cj rfl rfl (aA ce.int rfl rfl rfl (aV fd.Cj rfl rfl (aA ce.int rfl rfl rfl (bP rfl vL (cmp_Compare_int (x:=(x.t:Int)) (y:=(y.t:Int))) ?_))));rw[Yg];refine ltN (ys:=[dI (cI x.f y.f),dI (cI x.l y.l),dI (cI x.t y.t)]) sl.ints rfl (pdC (VC.d _).vd (pdC (VC.d _).vd (pdC (VC.d _).vd pdN))) rfl (by decide) (by decide) (λy hy=>by simp at hy;rcases hy with rfl|rfl|rfl <;> rfl) (bP rfl vL (aP5 (l:=[cI x.f y.f,cI x.l y.l,cI x.t y.t]) (show 3<=1099511627776 by decide)) ?_)
 rw[bd3];exact aG rfl (OL.nil (AW.ret (aT.r ⟨_,.tmp rfl .nil,.le vR⟩)))
theorem Z8 {l:List bM}{b n c:Nat}(hl:l.length=n)(hn:1<=n/\n<=20):fQ P F.eH [.bK 1000 b n c,.d (dI 0),.d (dI n),.fn F.dJ []] (mem1 1000 (rowA b c (l))) (.oM []) (mem1 1000 (rowA b c (tX Q5 (n-1) l))):=by
 refine fQ.intro fn.eH (by rfl) (by rfl) (au (by rfl)) λE hE=>(AW.sg hE rfl (aj rfl (aJ rfl rfl (by omega) (aG rfl (OL.nil (AW.block ?_))))))
 refine AW.aX (α:=Nat) [(0,_),(1,_),(2,_),(3,_)] [] (λi=>[(8,.d (dI i))]) (λi=>[(1000,rowA b c (tX Q5 (i-1) l))]) (λi=>1<=i/\i<=n) (λi=>n-i) 1 (.cons (BH rfl) (.cons (dA rfl) (.cons (dA rfl) (.cons (N7 rfl) .nil)))) .nil ⟨⟨Nat.le_refl _,hn.1⟩,.dw,.cons rfl .nil⟩ ?_
 rintro i ⟨h1,h2⟩
 have h1:1<=i:=h1;have h2:i<=n:=h2;refine AW.seq (AW.sg hE rfl (aj rfl (aj rfl (bD rfl rfl rfl (OL.nil (AW.cond rfl (λDp=>?_) (λDp=>?_)))))))
 .try simp only[fG] at Dp
  refine AW.skip (AW.XR (α:=Unit) [(0,_),(1,_),(2,_),(3,_),(8,_)] [] (λ_u=>[]) (λ_u=>[(1000,rowA b c (tX Q5 i l))]) (λ_u=>True) (.cons (BH rfl) (.cons (dA rfl) (.cons (dA rfl) (.cons (N7 rfl) (.cons (dA rfl) .nil))))) .nil ?_ ?_)
  .refine AW.block (AW.sg hE rfl (aj rfl (aG rfl (OL.nil (AW.block ?_)))));refine AW.aX (α:=Nat × List bM) [(0,_),(1,_),(2,_),(3,_),(8,_)] [] (λ(j,u)=>[(9,.d (dI j))]) (λ(j,u)=>[(1000,rowA b c (u))]) (λ(j,u)=>j<=i/\u.length=n/\FH Q5 j u=tX Q5 i l) (λ(j,u)=>j) (i,tX Q5 (i-1) l) (.cons (BH rfl) (.cons (dA rfl) (.cons (dA rfl) (.cons (N7 rfl) (.cons (dA rfl) .nil))))) .nil ⟨⟨Nat.le_refl _,by rw[vJ];exact hl,by obtain⟨q,rfl⟩:∃ q,i=q+1:=⟨i-1,by omega⟩;rfl⟩,.dw,.cons rfl .nil⟩ ?_
   rintro⟨j,u⟩ ⟨h3,hul,hs⟩
   have h3:j<=i:=h3;have hul:u.length=n:=hul;refine AW.seq (AW.seq (AW.dg 1 [0,1,2,3,4,5,6,7,8,9,10,11,12,13,14,15,16] ak hE rfl (by kernel_rfl) (OI.aP (os:=[_,_,_,_,_,_,_,_,_,_,_,_,_,_,_,_,_]) rfl ?_)))
   refine aj rfl (aj rfl (kS rfl rfl rfl (aj rfl (OL.split 21 rfl (λhj=>?_) (λhj=>?_)))))
   .have hj:(0:Int)<(j:Int):=mX hj;obtain⟨j,rfl⟩:∃ q,j=q+1:=⟨j-1,by omega⟩
    refine OL.yes rfl (Qv rfl (OL.yes rfl (jl rfl (OL.yes rfl (aj rfl (OL.yes rfl (je sl.bZ rfl rfl (by omega) ?_)))))))
    refine OL.yes rfl (GZ ag.mQ (by decide) rfl rfl (qZ (show j+1<u.length by omega)) (vs:=pR (u.getD (j+1) default)) rfl (au rfl) (OL.yes rfl (jl rfl (OL.yes rfl (aj rfl (OL.yes rfl (bo rfl rfl (oO (c:=(j:Int)) (by omega) (wrap_i64 (by omega))) ?_)))))))
    refine OL.yes rfl (je sl.bZ rfl rfl (by omega) (OL.yes rfl (GZ ag.mQ (by decide) rfl rfl (qZ (show j<u.length by omega)) (vs:=pR (u.getD (j) default)) rfl (au rfl) (OL.yes rfl (bP rfl vL (ay3 (x:=u.getD (j+1) default) (y:=u.getD j default)) (OL.yes rfl (bD rfl rfl rfl ?_)))))))
    refine nJ rfl rfl (OL.nil (AW.cond rfl (λhk=>?_) (λhk=>?_)))
    .have hk:Q5 (u.getD (j+1) default) (u.getD j default)=true:=hk;refine AW.skip (AW.seq (AW.block (AW.dg 1 [0,1,2,3,4,5,6,7,8,9,10,11,12,13,14,15,16,17] ak hE rfl (by kernel_rfl) (OI.aP (os:=[_,_,_,_,_,_,_,_,_,_,_,_,_,_,_,_,_,_]) rfl ?_))))
     refine jl rfl (aj rfl (jl rfl (aj rfl (bo rfl rfl (oO (c:=(j:Int)) (by omega) (wrap_i64 (by omega))) (jl rfl (aj rfl (bo rfl rfl (oO (c:=(j:Int)) (by omega) (wrap_i64 (by omega))) ?_)))))))
     refine je sl.bZ rfl rfl (by omega) (GZ ag.mQ (by decide) rfl rfl (qZ (show j<u.length by omega)) (vs:=pR (u.getD (j) default)) rfl (au rfl) (jl rfl (aj rfl (je sl.bZ rfl rfl (by omega) (GZ ag.mQ (by decide) rfl rfl (qZ (show j+1<u.length by omega)) (vs:=pR (u.getD (j+1) default)) rfl (au rfl) (je sl.bZ rfl rfl (by omega) (J4 sz.mQ rfl (d:=jv (u.getD j default)) wO rfl rfl (by rw[dL];omega) rfl ?_)))))))
     refine je sl.bZ rfl rfl (by omega) (J4 sz.mQ rfl (d:=jv (u.getD (j+1) default)) wO rfl rfl (by rw[List.length_set,dL];omega) ah9 (OL.nil (AW.rg hE rfl (aj rfl (bo rfl rfl (oO (c:=(j:Int)) (by omega) (wrap_i64 (by omega))) (aG rfl (OL.nil ?_)))))))
     exact AW.again (x:=(j+1,u)) (j,EJ u j) (by (simp only[];omega)) ⟨⟨by omega,by rw[Gx];exact hul,by rw[<- hs,FH,if_pos hk]⟩,Knows.app .I7 .dw,.cons rfl .nil⟩
    .have hk:¬ Q5 (u.getD (j+1) default) (u.getD j default)=true:=λe=>oN hk (mX e);exact AW.exit (AW.reach () ⟨trivial,Knows.app .I7 (.nil),.cons (by rw[<- hs,FH,if_neg hk];rfl) .nil⟩)
   .have hj:¬ (0:Int)<(j:Int):=oN hj;refine OL.nd rfl (OL.nd rfl (OL.nd rfl (OL.nd rfl (OL.nd rfl (OL.nd rfl (OL.nd rfl (OL.nd rfl ?_)))))));refine OL.nd rfl (OL.nd rfl (OL.nd rfl (OL.nd rfl (oI rfl rfl (OL.nil (pW rfl ?_))))));exact AW.exit (AW.reach () ⟨trivial,Knows.app .I7 (.nil),.cons (by obtain rfl:j=0:=(by omega);rw[<- hs];rfl) .nil⟩)
  rintro⟨⟩ hφ
  exact AW.rg hE rfl (aj rfl (aJ rfl rfl (by omega) (aG rfl (OL.nil (AW.again (x:=i) (i+1) (by omega) ⟨⟨by omega,by omega⟩,Knows.app .J5 .dw,.cons (by rw[Nat.add_sub_cancel];rfl) .nil⟩)))))
 .try simp only[fG] at Dp
  refine AW.exit ?_;obtain rfl:i=n:=by omega
  exact⟨⟨_,.nil,_,.nil,rfl⟩,fF rfl⟩
theorem MK {q:Rat}:VD (vW q) (dW q):=VD.ag (.cons (VC.d _) (.cons (VC.d _) (.cons (VC.d _) (.cons (VC.d _) (.cons (VC.d _) (.cons (VC.d _) (.cons (VC.d _) (.cons (VC.d _) .nil))))))))
theorem VR {l:List bM}{b n c:Nat}(hn:n<=20):fQ P F.eH [.bK 1000 b n c,.d (dI n),.d (dI n),.fn F.dJ []] (mem1 1000 (rowA b c (l))) (.oM []) (mem1 1000 (rowA b c (l))):=by
 refine fQ.intro fn.eH (by rfl) (by rfl) (au (by rfl)) λE hE=>(AW.sg hE rfl (aj rfl (aJ rfl rfl (by omega) (aG rfl (OL.nil (AW.block ?_))))))
 refine AW.aX (α:=Unit) [(0,_),(1,_),(2,_),(3,_)] [] (λ_u=>[(8,.d (dI ((n:Int)+1)))]) (λ_u=>[(1000,rowA b c (l))]) (λ_u=>True) (λ_u=>0) () (.cons (BH rfl) (.cons (dA rfl) (.cons (dA rfl) (.cons (N7 rfl) .nil)))) .nil ⟨trivial,.dw,.cons rfl .nil⟩ ?_
 rintro⟨⟩ -
 refine AW.seq (AW.sg hE rfl (aj rfl (aj rfl (bD rfl rfl rfl (OL.nil (AW.cond rfl (λhno=>absurd hno (by simp;omega)) (λ_=>?_)))))))
 exact AW.exit (⟨⟨_,.nil,_,.nil,rfl⟩,fF rfl⟩)
theorem aP7 {l:List bM}{b n c:Nat}(hl:l.length=n)(hn:1<=n/\n<=20):fQ P F.gY [.bK 1000 b n c,.d (dI n),.fn F.dJ []] (mem1 1000 (rowA b c (l))) (.oM []) (mem1 1000 (rowA b c (tX Q5 (n-1) l))):=by
 refine fQ.intro fn.gY (by rfl) (by rfl) (au (by rfl)) λE hE=>(AW.sg hE rfl (aG rfl (OL.nil (AW.sg hE rfl (aj rfl (aG rfl (aG rfl ?_)))))))
 refine OL.nil ?_;refine AW.XR (α:=Nat × List bM) [(0,_),(1,_),(2,_),(6,_)] [] (λ(k,u)=>[(7,.d (dI (20*k:Nat)))]) (λ(k,u)=>[(1000,rowA b c (u))]) (λ(k,u)=>(k=0/\l=u/\n<20) \/ (k=1/\n=20/\u=tX Q5 (n-1) l)) (.cons (BH rfl) (.cons (dA rfl) (.cons (N7 rfl) (.cons (dA rfl) .nil)))) .nil ?_ ?_
 .refine AW.block ?_;refine AW.aX (α:=Nat × List bM) [(0,_),(1,_),(2,_),(6,_)] [] (λ(k,u)=>[(7,.d (dI (20*k:Nat))),(8,.d (dI (20*k+20:Nat)))]) (λ(k,u)=>[(1000,rowA b c (u))]) (λ(k,u)=>(k=0/\l=u) \/ (k=1/\n=20/\u=tX Q5 (n-1) l)) (λ(k,u)=>1-k) (0,l) (.cons (BH rfl) (.cons (dA rfl) (.cons (N7 rfl) (.cons (dA rfl) .nil)))) .nil ⟨.inl ⟨rfl,rfl⟩,.jm,.cons rfl .nil⟩ ?_
  rintro⟨k,u⟩ h1
  have h1:(k=0/\l=u) \/ (k=1/\n=20/\u=tX Q5 (n-1) l):=h1;refine AW.seq (AW.sg hE rfl (aj rfl (aj rfl (Aw rfl rfl rfl (OL.nil (AW.cond rfl (λh13=>?_) (λh13=>?_)))))))
  .try simp only[fG] at h13
   refine AW.skip (AW.block (AW.sg hE rfl (jl rfl (aj rfl (aj rfl (Qv rfl ?_))))));obtain⟨rfl,rfl⟩:k=0/\l=u:=h1.resolve_right λe=>by omega
   refine OL.IY (v:=.oM []) (.mk (args':=[.bK 1000 b n c,.d (dI 0),.d (dI n),.fn F.dJ []]) rfl (.cons vR (.cons vR (.cons (bV.int (by omega)) (.cons vR (.nil))))) (fF (id:=1000) (blk:=rowA b c l) rfl) yg (Z8 (n:=n) hl hn)) ?_
   refine OL.nil (AW.sg hE rfl (aj rfl (aG rfl (OL.nil (AW.rg hE rfl (aj rfl (aj rfl ?_)))))));refine aJ rfl rfl (by omega) (aG rfl (OL.nil ?_))
   exact AW.again (x:=(0,l)) (1,tX Q5 (n-1) l) (by (simp only[];omega)) ⟨.inr ⟨rfl,by omega,rfl⟩,Knows.app .J5 .jm,.cons rfl .nil⟩
  .try simp only[fG] at h13
   exact AW.exit (AW.reach (k,u) ⟨h1.imp (λe=>⟨e.1,e.2,by omega⟩) id,Knows.app .J5 .dw,.cons rfl .nil⟩)
 rintro⟨k,u⟩ h1
 refine AW.seq ?_;rcases h1 with ⟨rfl,rfl,h0⟩|⟨rfl,h0,rfl⟩
 .have h2:n<=20:=hn.2;refine AW.rg hE rfl (jl rfl (aj rfl (aj rfl (Qv rfl ?_))));refine OL.IY (v:=.oM []) (.mk (args':=[.bK 1000 b n c,.d (dI 0),.d (dI n),.fn F.dJ []]) rfl (.cons vR (.cons vR (.cons vR (.cons vR (.nil))))) (fF (id:=1000) (blk:=rowA b c l) rfl) yg (Z8 (n:=n) hl hn)) ?_;refine OL.nil (AW.block ?_);refine AW.aX (α:=Unit) [(0,_),(1,_),(2,_)] [] (λ_u=>[(6,.d (dI 20))]) (λ_u=>[(1000,rowA b c (tX Q5 (n-1) l))]) (λ_u=>True) (λ_u=>0) () (.cons (BH rfl) (.cons (dA rfl) (.cons (N7 rfl) .nil))) .nil ⟨trivial,.dw,.cons rfl .nil⟩ ?_
  rintro⟨⟩ -
  refine AW.seq (AW.sg hE rfl (aj rfl (aj rfl (bD rfl rfl rfl (OL.nil (AW.cond rfl (λhno=>absurd hno (by simp;omega)) (λ_=>?_)))))))
  exact AW.exit (⟨⟨_,.nil,_,.nil,rfl⟩,fF rfl⟩)
 .have h2:n<=20:=hn.2;refine AW.rg hE rfl (jl rfl (aj rfl (aj rfl (Qv rfl ?_))));refine OL.IY (v:=.oM []) (.mk (args':=[.bK 1000 b n c,.d (dI n),.d (dI n),.fn F.dJ []]) rfl (.cons vR (.cons (bV.int (by omega)) (.cons vR (.cons vR (.nil))))) (fF (id:=1000) (blk:=rowA b c (tX Q5 (n-1) l)) rfl) yg (VR (n:=n) hn.2)) ?_
  refine OL.nil (AW.block ?_);refine AW.aX (α:=Unit) [(0,_),(1,_),(2,_)] [] (λ_u=>[(6,.d (dI 20))]) (λ_u=>[(1000,rowA b c (tX Q5 (n-1) l))]) (λ_u=>True) (λ_u=>0) () (.cons (BH rfl) (.cons (dA rfl) (.cons (N7 rfl) .nil))) .nil ⟨trivial,.dw,.cons rfl .nil⟩ ?_
  rintro⟨⟩ -
  refine AW.seq (AW.sg hE rfl (aj rfl (aj rfl (bD rfl rfl rfl (OL.nil (AW.cond rfl (λhno=>absurd hno (by simp;omega)) (λ_=>?_)))))))
  exact AW.exit (⟨⟨_,.nil,_,.nil,rfl⟩,fF rfl⟩)
theorem VS {l:List bM}{b n c:Nat}(hl:l.length=n)(hn:1<=n/\n<=20):fQ P F.dR [.bK 1000 b n c,.fn F.dJ []] (mem1 1000 (rowA b c (l))) (.oM []) (mem1 1000 (rowA b c (tX Q5 (n-1) l))):=by
 refine fQ.intro fn.dR (by rfl) (by rfl) (au (by rfl)) λE hE=>(AW.rg hE rfl (jl rfl (jl rfl (Qx sl.bZ rfl rfl (Qv rfl (OL.IY (v:=.oM []) (.mk (args':=[.bK 1000 b n c,.d (dI n),.fn F.dJ []]) rfl (.cons vR (.cons vR (.cons vR (.nil)))) (fF (id:=1000) (blk:=rowA b c l) rfl) yg (aP7 hl hn)) (OL.nil ?_)))))))
 exact⟨⟨_,.nil,_,.nil,rfl⟩,fF rfl⟩
end Go.Proofs.YtanlenlmihoiiaaGreatDoor
namespace Go.AL
open Go Go.BigFrame
section
variable {P:Program}{E:Env}{K:S->Prop}{s:S}{pos:String}{after:Array Edge}{ty:Nat}
theorem ai0 {M:Mem}{id:Nat}{blk:iI}(h:M id=some blk):upd M id (some blk)=M:=by
 funext k;unfold upd
 split
 .rename_i e;rw[e];exact h.symm
 .rfl
theorem After.none {F:Hp}{M:Mem}{w:World}(h:wR F M w):After F M w F M w:=⟨Grow.refl _ _,Hp.le.refl F,h,λk a b=>absurd a b,λ_ k=>.inr k⟩
theorem builtin_clear {ats:Array TypeId}{ty:TypeId}{cs:Array Bool}{args:Array Value}:builtin .clear ats ty cs args=(do pure (.value (<- Builtin.clear_ ats ty args))):=rfl
theorem OX {a:Act}{w w':World}{o:Oper}{x:Operand}{t:Nat}{v:Value}(ho:o.op=.call { callee:=.builtin .clear,args:=#[x],argTypes:=#[t] }){R:Value->World->Prop}
  (hr:(Builtin.clear_ #[t] o.type #[a.eval x]).run P w=.ok v w') (h:R v w'):Good P ((execOp a.eval o).run P w) R:=by
 unfold execOp;rw[ho];simp only[resolve,Sem.run_bind,Sem.run_pure,Result.andThen_ok,invoke,builtin_clear];have e1:(#[x].map a.eval) = #[a.eval x]:=by simp
 rw[e1,hr];exact h
theorem SO.bd4 {dst:Option Nat}{t e sz eF id b o n c cb:Nat}{x:Operand}{es:List D}{z:D}{zs:List V}(hd:ou E.n dst)(hT:bH P t e sz eF)(hz:fA P e zs)(hc:VCs zs z.cells)(hx:s.ev x=.xE id b sz o n c)(hM:s.M id=some (.row b cb e sz es))(hn:o+n=es.length)
  (h:K ((⟨s.ρ,upd s.M id (some (.row b cb e sz (es.take o++List.replicate n z)))⟩:S).put dst (.oM []))) :
  SO P E ⟨dst,.call { callee:=.builtin .clear,args:=#[x],argTypes:=#[t] },ty,pos,after,none⟩ K s:=λF a w hr=>by
 have hx':=hr.eval x;rw[hx] at hx';generalize hax:a.eval x=ax at hx';obtain⟨g0,g1,g2⟩:=hr.gU.own id _ hM;obtain⟨i,zv,hi,hzv,h1,h2,h3⟩:=hT.parts;obtain⟨i',zv',hi',ap2,z1,z2,z3⟩:=hz.parts;rw[hi] at hi';cases hi'
 rw[hzv] at ap2;cases ap2
 have hzl:zs.length=sz:=by rw[<- h2,z3]
 have hdl:z.cells.length=sz:=by rw[<- hc.length,hzl]
 cases hx' with
 | @xE ao _ _ _ _ _ _ ha hnc =>
  rcases Nat.eq_zero_or_pos n with h0|h0
  .subst h0;have e1:es.take o++List.replicate 0 z=es:=by rw[List.replicate_zero,List.append_nil,List.take_of_length_le (by omega)]
   rw[e1,ai0 hM] at h;refine OX (o:=⟨dst,.call { callee:=.builtin .clear,args:=#[x],argTypes:=#[t] },ty,pos,after,none⟩) (v:=.tuple #[]) (w':=w) rfl ?_ ⟨F,_,hr.nD (After.none hr.gU) hd (.oM (us:=[]) rfl λi c u h=>by simp at h),h⟩
   rw[hax];cases ao <;> simp[Builtin.clear_,run_underlying hT.u]
  .rw[ha (by omega)] at hax
   obtain⟨cs,hh,hcl,c1,c2⟩:=g2 (by omega)
   have hfit:o*sz+n*sz<=cs.length:=by rw[hcl,<- Nat.add_mul,hn];exact Nat.mul_le_mul_right _ g0
   have hget:∀ (j:Nat) (u:Value),(Builtin.zeroCells zv.cells n).toList[j]? = some u->j<n*sz/\zv.cells.toList[j % sz]? = some u:=λj u hu=>by
    have hj:j<n*sz:=by have:=(List.getElem?_eq_some_iff.1 hu).1;simpa [Builtin.zeroCells,h1] using this
    refine⟨hj,?_⟩;simp only[Builtin.zeroCells,Array.toList_map,Array.toList_range,h1,List.getElem?_map,List.getElem?_range hj,Option.map_some,Option.some.injEq] at hu;have hlt:j % sz<zv.cells.size:=by rw[h1];exact Nat.mod_lt _ hT.pos
    rw[getElem!_pos zv.cells (j % sz) hlt] at hu;rw[<- hu];simp[hlt]
   have Z9:(Builtin.zeroCells zv.cells n).toList.length=n*sz:=by simp[Builtin.zeroCells,h1]
   have hone:∀ v,v ∈ (Builtin.zeroCells zv.cells n).toList->v.oneCell' = true:=λu hu=>by
    obtain⟨j,hj⟩:=List.mem_iff_getElem?.1 hu;exact hT.one hi hzv u (List.mem_of_getElem? (hget j u hj).2)
   have hst:=run_storeCells_at P b (o*sz) e (Builtin.zeroCells zv.cells n).toList 0 cs.toArray w hh (by rw[Z9];simp;omega) hone
   rw[Nat.add_zero,Z9] at hst;have hs:∀ y,y ∈ es.take o++List.replicate n z->y.cells.length=sz:=λy hy=>by
    rcases ru hy with hy|hy
    .exact g1 y (List.mem_of_mem_take hy)
    .rw[(List.mem_replicate.1 hy).2];exact hdl
   have hto:(es.take o).length=o:=by rw[List.length_take];omega
   have hlen:(es.take o++List.replicate n z).length=es.length:=by rw[jd,hto,List.length_replicate];exact hn
   have hA:After F s.M w F (upd s.M id (some (.row b cb e sz (es.take o++List.replicate n z)))) (w.setRow b (cs.take (o*sz)++(Builtin.zeroCells zv.cells n).toList++cs.drop (o*sz+n*sz)).toArray):=by
    refine After.BM hr.gU hM ⟨by omega,rfl⟩ (λk hk=>hk.2) hh λw' hw'=>⟨by rw[hlen];exact g0,hs,λ_=>⟨_,hw',?_,λv hv=>?_,λj d u hjd hju=>?_⟩⟩
    .rw[jd,jd,List.length_take,List.length_drop,Z9];omega
    .rcases ru hv with hv|hv
     .rcases ru hv with hv|hv
      .exact c1 v (List.mem_of_mem_take hv)
      .exact hone v hv
     .exact c1 v (List.mem_of_mem_drop hv)
    .rw[List.flatMap_append] at hjd;have hfo:((es.take o).flatMap D.cells).length=o*sz:=by rw[flat_length λy hy=>g1 y (List.mem_of_mem_take hy),hto]
     rcases Nat.lt_or_ge j (o*sz) with hj|hj
     .rw[List.getElem?_append_left (by rw[hfo];exact hj)] at hjd
      rw[List.append_assoc,List.getElem?_append_left (by rw[List.length_take];omega),List.getElem?_take_of_lt hj] at hju
      refine c2 j d u ?_ hju;obtain⟨r,hr2⟩:=y7 (es:=es) o;rw[hr2,List.getElem?_append_left (by rw[hfo];exact hj)]
      exact hjd
     .rw[List.getElem?_append_right (by rw[hfo];exact hj),hfo] at hjd
      have hsr:∀ y,y ∈ List.replicate n z->y.cells.length=sz:=λy hy=>by rw[(List.mem_replicate.1 hy).2];exact hdl
      have hjn:j-o*sz<n*sz:=by
       have:=(List.getElem?_eq_some_iff.1 hjd).1
       rwa [flat_length hsr,List.length_replicate] at this
      rw[List.append_assoc,List.getElem?_append_right (by rw[List.length_take];omega),List.length_take,Nat.min_eq_left (by omega),List.getElem?_append_left (by rw[Z9];exact hjn)] at hju
      obtain⟨_,hzu⟩:=hget _ u hju;have hq:(j-o*sz) / sz<n:=Nat.div_lt_of_lt_mul (by rw[Nat.mul_comm sz n];exact hjn)
      have hmod:(j-o*sz) % sz<sz:=Nat.mod_lt _ hT.pos;have hg:=flat_get hsr (i:=(j-o*sz) / sz) (e:=z) (by rw[List.getElem?_replicate,if_pos hq]) ((j-o*sz) % sz) hmod
      rw[Nat.mul_comm,Nat.div_add_mod] at hg;rw[hg] at hjd;obtain⟨x',hx2,hvc⟩:=hc.get _ _ hjd;rw[<- z1,List.getElem?_map,hzu] at hx2;simp only[Option.map_some,Option.some.injEq] at hx2;rw[<- hx2] at hvc;exact (hvc F u (IG F u)).1
   refine OX (o:=⟨dst,.call { callee:=.builtin .clear,args:=#[x],argTypes:=#[t] },ty,pos,after,none⟩) (v:=.tuple #[]) rfl ?_ ⟨F,_,hr.nD hA hd (.oM (us:=[]) rfl λi c u h=>by simp at h),h⟩
   rw[hax];have e2:(zeroValue e).run P w=.ok zv w:=by simp[zeroValue,typeInfo,hi,hzv]
   obtain⟨m,rfl⟩:∃ m,n=m+1:=⟨n-1,by omega⟩
   simp[Builtin.clear_,run_underlying hT.u,e2,hst]

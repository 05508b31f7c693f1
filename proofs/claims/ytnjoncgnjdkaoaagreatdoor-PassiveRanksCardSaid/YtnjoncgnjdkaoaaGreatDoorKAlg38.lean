/-
  AL, part 38: the elements of a row from some place on become zero.
-/
import Derived.Test.YtnjoncgnjdkaoaaGreatDoorKWkB
set_option linter.unusedVariables false
set_option linter.unusedSimpArgs false
namespace Go.Proofs.YtnjoncgnjdkaoaaGreatDoor
open Go Go.AL
def Ea (a b:Int):Int:=if a<b then -1 else if b<a then 1 else 0
theorem BA {l m:List Int}{i:Nat}(h1:i<l.length)(h2:i<m.length):cmpL (l.drop i) (m.drop i)=if Ea (l.getD i 0) (m.getD i 0)=0 then cmpL (l.drop (i+1)) (m.drop (i+1)) else Ea (l.getD i 0) (m.getD i 0):=by
 have e1:l.getD i 0=l[i]:=by rw[gI,kL h1];rfl
 have e2:m.getD i 0=m[i]:=by rw[gI,kL h2];rfl
 rw[List.drop_eq_getElem_cons h1,List.drop_eq_getElem_cons h2,cmpL,e1,e2];unfold Ea;by_cases a:l[i]<m[i]
 .rw[if_pos a,if_pos a,if_neg (by decide)]
 .rw[if_neg a,if_neg a];by_cases b:m[i]<l[i]
  .rw[if_pos b,if_pos b,if_neg (by decide)]
  .rw[if_neg b,if_neg b,if_pos rfl]
theorem cmp_isNaN_int {x:Int}:aj P F.cmp_isNaN_int [.d (dI x)] (.d (dB false)):=by
 refine aj.intro fn.cmp_isNaN_int (by rfl) (by rfl) (aA (by rfl)) λE hE=>(AW.sg hE rfl (aC rfl (OL.nil (AW.sg hE rfl (ai rfl (ai rfl (fC rfl rfl rfl ?_)))))))
 exact aC rfl (OL.nil (AW.ret (aO.r ⟨_,.tmp rfl .nil,.le (bG.bool (by simp_all))⟩)))
theorem cmp_Compare_int {x y:Int}:aj P F.cmp_Compare_int [.d (dI x),.d (dI y)] (.d (dI (Ea x y))):=by
 refine aj.intro fn.cmp_Compare_int (by rfl) (by rfl) (aA (by rfl)) λE hE=>(AW.sg hE rfl (aC rfl (OL.nil (AW.sg hE rfl (ai rfl (bF rfl vL (cmp_isNaN_int) (aC rfl ?_)))))))
 refine OL.nil (AW.sg hE rfl (ai rfl (bF rfl vL (cmp_isNaN_int) (aC rfl (OL.nil (AW.seq (AW.sg hE rfl ?_)))))));refine ai rfl (OL.nil (oz rfl ?_));refine AW.skip (AW.seq (AW.sg hE rfl (ai rfl (OL.nil (oz rfl ?_)))));refine AW.skip (AW.seq (AW.sg hE rfl (ai rfl (ai rfl (aX rfl rfl rfl (OL.nil (AW.cond rfl (λh1=>?_) (λh1=>?_))))))))
 .have h1:=kK h1;exact AW.sg hE rfl (aC rfl (OL.nil (AW.ret (aO.r ⟨_,.tmp rfl .nil,.le (bG.int ((if_pos h1).symm))⟩))))
 .have h1:=lD h1;refine AW.skip (AW.seq (AW.sg hE rfl (ai rfl (ai rfl (gV rfl rfl rfl (OL.nil (AW.cond rfl (λh2=>?_) (λh2=>?_))))))))
  .have h2:=kK h2;exact AW.sg hE rfl (aC rfl (OL.nil (AW.ret (aO.r ⟨_,.tmp rfl .nil,.le (bG.int (by unfold Ea;rw[if_neg h1,if_pos h2]))⟩))))
  .have h2:=lD h2;exact AW.skip (AW.sg hE rfl (aC rfl (OL.nil (AW.ret (aO.r ⟨_,.tmp rfl .nil,.le (bG.int (by unfold Ea;rw[if_neg h1,if_neg h2]))⟩)))))
theorem Wn {l:List Int}(nl:l.length<=1099511627776):aj P F.iy [.d (ints l)] (.d (ints l)):=by
 refine aj.intro fn.iy (by rfl) (by rfl) (aA (by rfl)) λE hE=>(AW.sg hE rfl (jg rfl (OL.nil (AW.seq (AW.sg hE rfl (ai rfl (isNil sl.ints.u rfl (λy hy=>by obtain⟨a,_,rfl⟩:=jY hy;exact Nat.succ_pos _) rfl λb hb=>?_)))))))
 refine OL.nil (AW.cond rfl (λh=>?_) (λh=>?_))
 .have hL:l=[]:=by have:=hb h;simpa using this
  exact AW.sg hE rfl (jg rfl (OL.nil (AW.ret (aO.r ⟨_,.tmp rfl .nil,.le (hL ▸ bG.mt)⟩))))
 .have _h:=h;exact AW.skip (AW.sg hE rfl (lt0 sl.ints (ai rfl (YL sl.ints rfl rfl (VC.d _) (λy hy=>by obtain⟨a,_,rfl⟩:=jY hy;rfl) (by simp;omega) (by simp;omega) (aC rfl (OL.nil (AW.ret (aO.r ⟨_,.tmp rfl .nil,.le vR⟩))))))))
theorem JH {l:List Int}(nl:l.length<=1099511627776):iR P F.iy [.d (ints l)] l.length T.int 1 (l.map dI):=by
 refine iR.intro fn.iy (by rfl) (by rfl) (aA (by rfl)) 2 rfl λE hE=>(AW.sg hE rfl (jg rfl (OL.nil (AW.seq (AW.sg hE rfl (ai rfl (isNil sl.ints.u rfl (λy hy=>by obtain⟨a,_,rfl⟩:=jY hy;exact Nat.succ_pos _) rfl λb hb=>?_)))))))
 refine OL.nil (AW.cond rfl (λh=>?_) (λh=>?_))
 .have hL:l=[]:=by have:=hb h;simpa using this
  subst hL;exact AW.sg hE rfl (jg rfl (OL.nil (AW.own 2 99 T.int 1 rfl rfl (AW.ret ⟨.inr rfl,99,0,0,[],rfl,rfl,Nat.le_refl _,rfl⟩))))
 .have _h:=h;exact AW.skip (AW.sg hE rfl (lt0 sl.ints (ai rfl (apM sl.ints rfl rfl (VC.d _) VO (by simp;omega) (by simp;omega) rfl λb7 c7=>(oC rfl (OL.nil (AW.ret ⟨.inr rfl,7,b7,c7,l.map dI,by show V.bH 7 b7 (List.map dI l).length c7=_;rw[dD],rfl,by rw[dD];exact Nat.le_refl _,List.take_of_length_le (by rw[dD];exact Nat.le_refl _)⟩)))))))
def orL:List Int->Int
 | []=>0
 | x::r=>if x=0 then orL r else x
theorem ai8:∀ {l:List Int} {i:Nat},i<l.length->(∀ j,j<i->l.getD j 0=0)->l.getD i 0≠0->orL l=l.getD i 0
 | x::r,0,_,_,h=>if_neg h
 | x::r,i+1,hi,hz,h=>(if_pos (hz 0 (Nat.zero_lt_succ _))).trans (ai8 (by simpa using hi) (λj hj=>hz (j+1) (by omega)) h)
theorem Uf:∀ {l:List Int},(∀ j,j<l.length->l.getD j 0=0)->orL l=0
 | [],_=>rfl
 | x::r,h=>(if_pos (h 0 (Nat.zero_lt_succ _))).trans (Uf λj hj=>h (j+1) (by simpa using hj))
theorem Wp (a b:Nat):Ea (a:Int) (b:Int)=cI a b:=by
 unfold Ea cI;by_cases h1:a<b
 .rw[if_pos (by omega),if_pos h1]
 .rw[if_neg (by omega),if_neg h1]
  by_cases h2:b<a
  .rw[if_pos (by omega),if_pos h2]
  .rw[if_neg (by omega),if_neg h2]
theorem aN1 (x y:bD):orL [cI x.f y.f,cI x.l y.l,cI x.t y.t]=oV x y:=by
 unfold oV;by_cases h1:cI x.f y.f=0 <;> by_cases h2:cI x.l y.l=0 <;> by_cases h3:cI x.t y.t=0 <;> simp[orL,h1,h2,h3]
abbrev rowA (b c:Nat)(l:List bD):iF:=.row b c T.ny 11 (l.map je)
theorem nT {l:List bD}{i:Nat}(hi:i<l.length):(l.map je)[i]? = some (je (l.getD i default)):=by rw[List.getElem?_map,gI,kL hi];rfl
theorem y8 {x:bD}:VD (Hu x) (je x):=VD.ag (.cons (VC.d _) (.cons (VC.d _) (.cons (VC.d _) (.cons (VC.d _) (.cons (VC.d _) (.cons (VC.d _) (.cons (VC.d _) (.cons (VC.d _) (.cons (VC.d _) (.cons (VC.d _) (.cons (VC.d _) .nil)))))))))))
abbrev lC (x:bD):List V:=[.d (dI x.f),.d (dI x.l),.d (dI x.t),.d (dB (fP x.q).neg),.d (aF (fP x.q).num),.d (aF (fP x.q).den),.d (dI 0),.d (dB false),.d (dU 0),.d (.sl []),.d (.sl [])]
theorem Ze {l:List bD}{j:Nat}:((l.map je).set (j+1) (je (l.getD j default))).set j (je (l.getD (j+1) default))=(Dy l j).map je:=by
 unfold Dy;rw[List.map_set,List.map_set]
theorem Ef {l:List bD}:∀ y,y ∈ l.map je->y.cells.length=11:=λy hy=>by obtain⟨a,_,rfl⟩:=jY hy;rfl
theorem XV {l:List Int}(nl:l.length<=1099511627776):aj P F.C9 [.d (ints l)] (.d (dI (orL l))):=by
 refine aj.intro fn.C9 (by rfl) (by rfl) (aA (by rfl)) λE hE=>(AW.sg hE rfl (aC rfl (OL.nil (AW.sg hE rfl (aC rfl (OL.nil (AW.seq ?_)))))))
 refine AW.sg hE rfl (ai rfl (fJ sl.ints rfl rfl (ai rfl (OL.nil (AW.block ?_)))));refine AW.aU (α:=Nat) [(3,_),(6,_),(7,_)] [] (λi=>[(8,.d (dI i))]) (λi=>[]) (λi=>i<=l.length/\∀ j,j<i->l.getD j 0=0) (λi=>l.length-i) 0 (.cons (bY rfl) (.cons (bY rfl) (.cons (bY rfl) .nil))) .nil ⟨⟨Nat.zero_le _,λj hj=>by omega⟩,.di,.nil⟩ ?_
 rintro i ⟨h1,h2⟩
 refine AW.sg hE rfl (aX rfl rfl rfl (OL.nil (AW.seq (AW.cond rfl (λh9=>?_) (λh9=>?_)))))
 .try simp only[eG] at h9
  refine AW.skip (AW.seq (AW.block (AW.sg hE rfl (fM sl.ints 0 rfl rfl (by omega) rfl rfl (iE ce.int rfl (aC rfl (OL.nil ?_)))))))
  refine AW.sg hE rfl (ai rfl (ai rfl (fC rfl rfl rfl (OL.nil (AW.cond rfl (λhc=>?_) (λhc=>?_))))))
  .have hc:l.getD i 0≠0:=DC hc;exact AW.sg hE rfl (ai rfl (aC rfl (OL.nil (AW.ret (aO.r ⟨_,.tmp rfl .nil,.le (bG.int ((ai8 (by omega) h2 hc).symm))⟩)))))
  .have hc:l.getD i 0=0:=BV hc;refine AW.skip (AW.rg hE rfl (aH rfl rfl (by omega) (ai rfl (OL.nil ?_))))
   exact AW.again (x:=i) (i+1) (by omega) ⟨⟨by omega,λj hj=>by rcases Nat.lt_or_ge j i with h|h;exact h2 j h;obtain rfl:j=i:=(by omega);exact hc⟩,Knows.app .xf .di,.nil⟩
 .try simp only[eG] at h9
  exact AW.exit (AW.sg hE rfl (ai rfl (aC rfl (OL.nil (AW.ret (aO.r ⟨_,.tmp rfl .nil,.le (bG.int ((Uf λj hj=>h2 j (by omega)).symm))⟩))))))
theorem ai9 {x y:bD}:aj P F.cO [Hu x,Hu y] (.d (dI (oV x y))):=by
 refine aj.intro fn.cO (by rfl) (by rfl) (aA (by rfl)) λE hE=>(AW.sg hE rfl (gW rfl rfl λb2=>(gW rfl rfl λb3=>(aC rfl (OL.nil (AW.seq (AW.dg 1 [0,1,2,3,4,5,6,7,8,9,10,11,12,13,14,15,16,17] au hE rfl (by kernel_rfl) (OI.aS (os:=[_,_,_,_,_,_,_,_,_,_,_,_,_,_,_,_,_,_]) rfl ?_))))))))
 refine aV fd.xM rfl rfl (aG ce.int rfl rfl rfl (aV fd.xM rfl rfl (aG ce.int rfl rfl rfl (bF rfl vL (cmp_Compare_int (x:=(x.f:Int)) (y:=(y.f:Int))) ?_))));rw[Wp];refine aV fd.yZ rfl rfl (aG ce.int rfl rfl rfl (aV fd.yZ rfl rfl (aG ce.int rfl rfl rfl (bF rfl vL (cmp_Compare_int (x:=(x.l:Int)) (y:=(y.l:Int))) ?_))));rw[Wp];refine aV fd.xq rfl rfl (aG ce.int rfl rfl rfl (aV fd.xq rfl rfl (aG ce.int rfl rfl rfl (bF rfl vL (cmp_Compare_int (x:=(x.t:Int)) (y:=(y.t:Int))) ?_))));rw[Wp];refine ltN (ys:=[dI (cI x.f y.f),dI (cI x.l y.l),dI (cI x.t y.t)]) sl.ints rfl (Oe (VC.d _).vd (Oe (VC.d _).vd (Oe (VC.d _).vd pdN))) rfl (by decide) (by decide) (λy hy=>by simp at hy;rcases hy with rfl|rfl|rfl <;> rfl) (bF rfl vL (XV (l:=[cI x.f y.f,cI x.l y.l,cI x.t y.t]) (show 3<=1099511627776 by decide)) ?_)
 rw[aN1];exact aC rfl (OL.nil (AW.ret (aO.r ⟨_,.tmp rfl .nil,.le vR⟩)))
theorem XW {l:List bD}{b n c:Nat}(hl:l.length=n)(hn:1<=n/\n<=20):eF P F.dP [.bH 1000 b n c,.d (dI 0),.d (dI n),.fn F.cO []] (mem1 1000 (rowA b c (l))) (.jE []) (mem1 1000 (rowA b c (rC Po (n-1) l))):=by
 refine eF.intro fn.dP (by rfl) (by rfl) (aA (by rfl)) λE hE=>(AW.sg hE rfl (ai rfl (aH rfl rfl (by omega) (aC rfl (OL.nil (AW.block ?_))))))
 refine AW.aU (α:=Nat) [(0,_),(1,_),(2,_),(3,_)] [] (λi=>[(8,.d (dI i))]) (λi=>[(1000,rowA b c (rC Po (i-1) l))]) (λi=>1<=i/\i<=n) (λi=>n-i) 1 (.cons (yO rfl) (.cons (bY rfl) (.cons (bY rfl) (.cons (OO rfl) .nil)))) .nil ⟨⟨Nat.le_refl _,hn.1⟩,.di,.cons rfl .nil⟩ ?_
 rintro i ⟨h1,h2⟩
 have h1:1<=i:=h1;have h2:i<=n:=h2;refine AW.seq (AW.sg hE rfl (ai rfl (ai rfl (aX rfl rfl rfl (OL.nil (AW.cond rfl (λEQ=>?_) (λEQ=>?_)))))))
 .try simp only[eG] at EQ
  refine AW.skip (AW.JU (α:=Unit) [(0,_),(1,_),(2,_),(3,_),(8,_)] [] (λ_u=>[]) (λ_u=>[(1000,rowA b c (rC Po i l))]) (λ_u=>True) (.cons (yO rfl) (.cons (bY rfl) (.cons (bY rfl) (.cons (OO rfl) (.cons (bY rfl) .nil))))) .nil ?_ ?_)
  .refine AW.block (AW.sg hE rfl (ai rfl (aC rfl (OL.nil (AW.block ?_)))));refine AW.aU (α:=Nat × List bD) [(0,_),(1,_),(2,_),(3,_),(8,_)] [] (λ(j,u)=>[(9,.d (dI j))]) (λ(j,u)=>[(1000,rowA b c (u))]) (λ(j,u)=>j<=i/\u.length=n/\Ec Po j u=rC Po i l) (λ(j,u)=>j) (i,rC Po (i-1) l) (.cons (yO rfl) (.cons (bY rfl) (.cons (bY rfl) (.cons (OO rfl) (.cons (bY rfl) .nil))))) .nil ⟨⟨Nat.le_refl _,by rw[vY];exact hl,by obtain⟨q,rfl⟩:∃ q,i=q+1:=⟨i-1,by omega⟩;rfl⟩,.di,.cons rfl .nil⟩ ?_
   rintro⟨j,u⟩ ⟨h3,hul,hs⟩
   have h3:j<=i:=h3;have hul:u.length=n:=hul;refine AW.seq (AW.seq (AW.dg 1 [0,1,2,3,4,5,6,7,8,9,10,11,12,13,14,15,16] au hE rfl (by kernel_rfl) (OI.aS (os:=[_,_,_,_,_,_,_,_,_,_,_,_,_,_,_,_,_]) rfl ?_)))
   refine ai rfl (ai rfl (gV rfl rfl rfl (ai rfl (OL.split 21 rfl (λhj=>?_) (λhj=>?_)))))
   .have hj:(0:Int)<(j:Int):=kK hj;obtain⟨j,rfl⟩:∃ q,j=q+1:=⟨j-1,by omega⟩
    refine OL.yes rfl (NY rfl (OL.yes rfl (gU rfl (OL.yes rfl (ai rfl (OL.yes rfl (jk sl.dm rfl rfl (by omega) ?_)))))))
    refine OL.yes rfl (FW ag.ny (by decide) rfl rfl (nT (show j+1<u.length by omega)) (vs:=lC (u.getD (j+1) default)) rfl (aA rfl) (OL.yes rfl (gU rfl (OL.yes rfl (ai rfl (OL.yes rfl (bo rfl rfl (nN (c:=(j:Int)) (by omega) (wrap_i64 (by omega))) ?_)))))))
    refine OL.yes rfl (jk sl.dm rfl rfl (by omega) (OL.yes rfl (FW ag.ny (by decide) rfl rfl (nT (show j<u.length by omega)) (vs:=lC (u.getD (j) default)) rfl (aA rfl) (OL.yes rfl (bF rfl vL (ai9 (x:=u.getD (j+1) default) (y:=u.getD j default)) (OL.yes rfl (aX rfl rfl rfl ?_)))))))
    refine lJ rfl rfl (OL.nil (AW.cond rfl (λhk=>?_) (λhk=>?_)))
    .have hk:Po (u.getD (j+1) default) (u.getD j default)=true:=hk;refine AW.skip (AW.seq (AW.block (AW.dg 1 [0,1,2,3,4,5,6,7,8,9,10,11,12,13,14,15,16,17] au hE rfl (by kernel_rfl) (OI.aS (os:=[_,_,_,_,_,_,_,_,_,_,_,_,_,_,_,_,_,_]) rfl ?_))))
     refine gU rfl (ai rfl (gU rfl (ai rfl (bo rfl rfl (nN (c:=(j:Int)) (by omega) (wrap_i64 (by omega))) (gU rfl (ai rfl (bo rfl rfl (nN (c:=(j:Int)) (by omega) (wrap_i64 (by omega))) ?_)))))))
     refine jk sl.dm rfl rfl (by omega) (FW ag.ny (by decide) rfl rfl (nT (show j<u.length by omega)) (vs:=lC (u.getD (j) default)) rfl (aA rfl) (gU rfl (ai rfl (jk sl.dm rfl rfl (by omega) (FW ag.ny (by decide) rfl rfl (nT (show j+1<u.length by omega)) (vs:=lC (u.getD (j+1) default)) rfl (aA rfl) (jk sl.dm rfl rfl (by omega) (Oa sz.ny rfl (d:=je (u.getD j default)) y8 rfl rfl (by rw[dD];omega) rfl ?_)))))))
     refine jk sl.dm rfl rfl (by omega) (Oa sz.ny rfl (d:=je (u.getD (j+1) default)) y8 rfl rfl (by rw[List.length_set,dD];omega) Ze (OL.nil (AW.rg hE rfl (ai rfl (bo rfl rfl (nN (c:=(j:Int)) (by omega) (wrap_i64 (by omega))) (aC rfl (OL.nil ?_)))))))
     exact AW.again (x:=(j+1,u)) (j,Dy u j) (by (simp only[];omega)) ⟨⟨by omega,by rw[Fb];exact hul,by rw[<- hs,Ec,if_pos hk]⟩,Knows.app .Gs .di,.cons rfl .nil⟩
    .have hk:¬ Po (u.getD (j+1) default) (u.getD j default)=true:=λe=>lD hk (kK e);exact AW.exit (AW.reach () ⟨trivial,Knows.app .Gs (.nil),.cons (by rw[<- hs,Ec,if_neg hk];rfl) .nil⟩)
   .have hj:¬ (0:Int)<(j:Int):=lD hj;refine OL.nd rfl (OL.nd rfl (OL.nd rfl (OL.nd rfl (OL.nd rfl (OL.nd rfl (OL.nd rfl (OL.nd rfl ?_)))))));refine OL.nd rfl (OL.nd rfl (OL.nd rfl (OL.nd rfl (jZ rfl rfl (OL.nil (oz rfl ?_))))));exact AW.exit (AW.reach () ⟨trivial,Knows.app .Gs (.nil),.cons (by obtain rfl:j=0:=(by omega);rw[<- hs];rfl) .nil⟩)
  rintro⟨⟩ hφ
  exact AW.rg hE rfl (ai rfl (aH rfl rfl (by omega) (aC rfl (OL.nil (AW.again (x:=i) (i+1) (by omega) ⟨⟨by omega,by omega⟩,Knows.app .GL .di,.cons (by rw[Nat.add_sub_cancel];rfl) .nil⟩)))))
 .try simp only[eG] at EQ
  refine AW.exit ?_;obtain rfl:i=n:=by omega
  exact⟨⟨_,.nil,_,.nil,rfl⟩,bP rfl⟩
theorem MR {q:Rat}:VD (vW q) (dW q):=VD.ag (.cons (VC.d _) (.cons (VC.d _) (.cons (VC.d _) (.cons (VC.d _) (.cons (VC.d _) (.cons (VC.d _) (.cons (VC.d _) (.cons (VC.d _) .nil))))))))
theorem Ug {l:List bD}{b n c:Nat}(hn:n<=20):eF P F.dP [.bH 1000 b n c,.d (dI n),.d (dI n),.fn F.cO []] (mem1 1000 (rowA b c (l))) (.jE []) (mem1 1000 (rowA b c (l))):=by
 refine eF.intro fn.dP (by rfl) (by rfl) (aA (by rfl)) λE hE=>(AW.sg hE rfl (ai rfl (aH rfl rfl (by omega) (aC rfl (OL.nil (AW.block ?_))))))
 refine AW.aU (α:=Unit) [(0,_),(1,_),(2,_),(3,_)] [] (λ_u=>[(8,.d (dI ((n:Int)+1)))]) (λ_u=>[(1000,rowA b c (l))]) (λ_u=>True) (λ_u=>0) () (.cons (yO rfl) (.cons (bY rfl) (.cons (bY rfl) (.cons (OO rfl) .nil)))) .nil ⟨trivial,.di,.cons rfl .nil⟩ ?_
 rintro⟨⟩ -
 refine AW.seq (AW.sg hE rfl (ai rfl (ai rfl (aX rfl rfl rfl (OL.nil (AW.cond rfl (λhno=>absurd hno (by simp;omega)) (λ_=>?_)))))))
 exact AW.exit (⟨⟨_,.nil,_,.nil,rfl⟩,bP rfl⟩)
theorem az8 {l:List bD}{b n c:Nat}(hl:l.length=n)(hn:1<=n/\n<=20):eF P F.gm [.bH 1000 b n c,.d (dI n),.fn F.cO []] (mem1 1000 (rowA b c (l))) (.jE []) (mem1 1000 (rowA b c (rC Po (n-1) l))):=by
 refine eF.intro fn.gm (by rfl) (by rfl) (aA (by rfl)) λE hE=>(AW.sg hE rfl (aC rfl (OL.nil (AW.sg hE rfl (ai rfl (aC rfl (aC rfl ?_)))))))
 refine OL.nil ?_;refine AW.JU (α:=Nat × List bD) [(0,_),(1,_),(2,_),(6,_)] [] (λ(k,u)=>[(7,.d (dI (20*k:Nat)))]) (λ(k,u)=>[(1000,rowA b c (u))]) (λ(k,u)=>(k=0/\l=u/\n<20) \/ (k=1/\n=20/\u=rC Po (n-1) l)) (.cons (yO rfl) (.cons (bY rfl) (.cons (OO rfl) (.cons (bY rfl) .nil)))) .nil ?_ ?_
 .refine AW.block ?_;refine AW.aU (α:=Nat × List bD) [(0,_),(1,_),(2,_),(6,_)] [] (λ(k,u)=>[(7,.d (dI (20*k:Nat))),(8,.d (dI (20*k+20:Nat)))]) (λ(k,u)=>[(1000,rowA b c (u))]) (λ(k,u)=>(k=0/\l=u) \/ (k=1/\n=20/\u=rC Po (n-1) l)) (λ(k,u)=>1-k) (0,l) (.cons (yO rfl) (.cons (bY rfl) (.cons (OO rfl) (.cons (bY rfl) .nil)))) .nil ⟨.inl ⟨rfl,rfl⟩,.gy,.cons rfl .nil⟩ ?_
  rintro⟨k,u⟩ h1
  have h1:(k=0/\l=u) \/ (k=1/\n=20/\u=rC Po (n-1) l):=h1;refine AW.seq (AW.sg hE rfl (ai rfl (ai rfl (wZ rfl rfl rfl (OL.nil (AW.cond rfl (λh13=>?_) (λh13=>?_)))))))
  .try simp only[eG] at h13
   refine AW.skip (AW.block (AW.sg hE rfl (gU rfl (ai rfl (ai rfl (NY rfl ?_))))));obtain⟨rfl,rfl⟩:k=0/\l=u:=h1.resolve_right λe=>by omega
   refine OL.rV (v:=.jE []) (.mk (args':=[.bH 1000 b n c,.d (dI 0),.d (dI n),.fn F.cO []]) rfl (.cons vR (.cons vR (.cons (bG.int (by omega)) (.cons vR (.nil))))) (bP (id:=1000) (blk:=rowA b c l) rfl) iK (XW (n:=n) hl hn)) ?_
   refine OL.nil (AW.sg hE rfl (ai rfl (aC rfl (OL.nil (AW.rg hE rfl (ai rfl (ai rfl ?_)))))));refine aH rfl rfl (by omega) (aC rfl (OL.nil ?_))
   exact AW.again (x:=(0,l)) (1,rC Po (n-1) l) (by (simp only[];omega)) ⟨.inr ⟨rfl,by omega,rfl⟩,Knows.app .GL .gy,.cons rfl .nil⟩
  .try simp only[eG] at h13
   exact AW.exit (AW.reach (k,u) ⟨h1.imp (λe=>⟨e.1,e.2,by omega⟩) id,Knows.app .GL .di,.cons rfl .nil⟩)
 rintro⟨k,u⟩ h1
 refine AW.seq ?_;rcases h1 with ⟨rfl,rfl,h0⟩|⟨rfl,h0,rfl⟩
 .have h2:n<=20:=hn.2;refine AW.rg hE rfl (gU rfl (ai rfl (ai rfl (NY rfl ?_))));refine OL.rV (v:=.jE []) (.mk (args':=[.bH 1000 b n c,.d (dI 0),.d (dI n),.fn F.cO []]) rfl (.cons vR (.cons vR (.cons vR (.cons vR (.nil))))) (bP (id:=1000) (blk:=rowA b c l) rfl) iK (XW (n:=n) hl hn)) ?_;refine OL.nil (AW.block ?_);refine AW.aU (α:=Unit) [(0,_),(1,_),(2,_)] [] (λ_u=>[(6,.d (dI 20))]) (λ_u=>[(1000,rowA b c (rC Po (n-1) l))]) (λ_u=>True) (λ_u=>0) () (.cons (yO rfl) (.cons (bY rfl) (.cons (OO rfl) .nil))) .nil ⟨trivial,.di,.cons rfl .nil⟩ ?_
  rintro⟨⟩ -
  refine AW.seq (AW.sg hE rfl (ai rfl (ai rfl (aX rfl rfl rfl (OL.nil (AW.cond rfl (λhno=>absurd hno (by simp;omega)) (λ_=>?_)))))))
  exact AW.exit (⟨⟨_,.nil,_,.nil,rfl⟩,bP rfl⟩)
 .have h2:n<=20:=hn.2;refine AW.rg hE rfl (gU rfl (ai rfl (ai rfl (NY rfl ?_))));refine OL.rV (v:=.jE []) (.mk (args':=[.bH 1000 b n c,.d (dI n),.d (dI n),.fn F.cO []]) rfl (.cons vR (.cons (bG.int (by omega)) (.cons vR (.cons vR (.nil))))) (bP (id:=1000) (blk:=rowA b c (rC Po (n-1) l)) rfl) iK (Ug (n:=n) hn.2)) ?_
  refine OL.nil (AW.block ?_);refine AW.aU (α:=Unit) [(0,_),(1,_),(2,_)] [] (λ_u=>[(6,.d (dI 20))]) (λ_u=>[(1000,rowA b c (rC Po (n-1) l))]) (λ_u=>True) (λ_u=>0) () (.cons (yO rfl) (.cons (bY rfl) (.cons (OO rfl) .nil))) .nil ⟨trivial,.di,.cons rfl .nil⟩ ?_
  rintro⟨⟩ -
  refine AW.seq (AW.sg hE rfl (ai rfl (ai rfl (aX rfl rfl rfl (OL.nil (AW.cond rfl (λhno=>absurd hno (by simp;omega)) (λ_=>?_)))))))
  exact AW.exit (⟨⟨_,.nil,_,.nil,rfl⟩,bP rfl⟩)
theorem Uh {l:List bD}{b n c:Nat}(hl:l.length=n)(hn:1<=n/\n<=20):eF P F.dH [.bH 1000 b n c,.fn F.cO []] (mem1 1000 (rowA b c (l))) (.jE []) (mem1 1000 (rowA b c (rC Po (n-1) l))):=by
 refine eF.intro fn.dH (by rfl) (by rfl) (aA (by rfl)) λE hE=>(AW.rg hE rfl (gU rfl (gU rfl (Iy sl.dm rfl rfl (NY rfl (OL.rV (v:=.jE []) (.mk (args':=[.bH 1000 b n c,.d (dI n),.fn F.cO []]) rfl (.cons vR (.cons vR (.cons vR (.nil)))) (bP (id:=1000) (blk:=rowA b c l) rfl) iK (az8 hl hn)) (OL.nil ?_)))))))
 exact⟨⟨_,.nil,_,.nil,rfl⟩,bP rfl⟩
end Go.Proofs.YtnjoncgnjdkaoaaGreatDoor
namespace Go.AL
open Go Go.BigFrame
section
variable {P:Program}{E:Env}{K:S->Prop}{s:S}{pos:String}{after:Array Edge}{ty:Nat}
theorem Zf {M:Mem}{id:Nat}{blk:iF}(h:M id=some blk):upd M id (some blk)=M:=by
 funext k;unfold upd
 split
 .rename_i e;rw[e];exact h.symm
 .rfl
theorem After.none {F:Hp}{M:Mem}{w:World}(h:vJ F M w):After F M w F M w:=⟨Grow.refl _ _,Hp.le.refl F,h,λk a b=>absurd a b,λ_ k=>.inr k⟩
theorem builtin_clear {ats:Array TypeId}{ty:TypeId}{cs:Array Bool}{args:Array Value}:builtin .clear ats ty cs args=(do pure (.value (<- Builtin.clear_ ats ty args))):=rfl
theorem MV {a:Act}{w w':World}{o:Oper}{x:Operand}{t:Nat}{v:Value}(ho:o.op=.call { callee:=.builtin .clear,args:=#[x],argTypes:=#[t] }){R:Value->World->Prop}
  (hr:(Builtin.clear_ #[t] o.type #[a.eval x]).run P w=.ok v w') (h:R v w'):Good P ((execOp a.eval o).run P w) R:=by
 unfold execOp;rw[ho];simp only[resolve,Sem.run_bind,Sem.run_pure,Result.andThen_ok,invoke,builtin_clear];have e1:(#[x].map a.eval) = #[a.eval x]:=by simp
 rw[e1,hr];exact h
theorem SO.aN2 {dst:Option Nat}{t e sz dS id b o n c cb:Nat}{x:Operand}{es:List D}{z:D}{zs:List V}(hd:pJ E.n dst)(hT:bn P t e sz dS)(hz:fO P e zs)(hc:VCs zs z.cells)(hx:s.ev x=.xG id b sz o n c)(hM:s.M id=some (.row b cb e sz es))(hn:o+n=es.length)
  (h:K ((⟨s.ρ,upd s.M id (some (.row b cb e sz (es.take o++List.replicate n z)))⟩:S).put dst (.jE []))) :
  SO P E ⟨dst,.call { callee:=.builtin .clear,args:=#[x],argTypes:=#[t] },ty,pos,after,none⟩ K s:=λF a w hr=>by
 have hx':=hr.eval x;rw[hx] at hx';generalize hax:a.eval x=ax at hx';obtain⟨g0,g1,g2⟩:=hr.iq.own id _ hM;obtain⟨i,zv,hi,hzv,h1,h2,h3⟩:=hT.parts;obtain⟨i',zv',hi',ab9,z1,z2,z3⟩:=hz.parts;rw[hi] at hi';cases hi'
 rw[hzv] at ab9;cases ab9
 have hzl:zs.length=sz:=by rw[<- h2,z3]
 have hdl:z.cells.length=sz:=by rw[<- hc.length,hzl]
 cases hx' with
 | @xG ao _ _ _ _ _ _ ha hnc =>
  rcases Nat.eq_zero_or_pos n with h0|h0
  .subst h0;have e1:es.take o++List.replicate 0 z=es:=by rw[List.replicate_zero,List.append_nil,List.take_of_length_le (by omega)]
   rw[e1,Zf hM] at h;refine MV (o:=⟨dst,.call { callee:=.builtin .clear,args:=#[x],argTypes:=#[t] },ty,pos,after,none⟩) (v:=.tuple #[]) (w':=w) rfl ?_ ⟨F,_,hr.o9 (After.none hr.iq) hd (.jE (us:=[]) rfl λi c u h=>by simp at h),h⟩
   rw[hax];cases ao <;> simp[Builtin.clear_,run_underlying hT.u]
  .rw[ha (by omega)] at hax
   obtain⟨cs,hh,hcl,c1,c2⟩:=g2 (by omega)
   have hfit:o*sz+n*sz<=cs.length:=by rw[hcl,<- Nat.add_mul,hn];exact Nat.mul_le_mul_right _ g0
   have hget:∀ (j:Nat) (u:Value),(Builtin.zeroCells zv.cells n).toList[j]? = some u->j<n*sz/\zv.cells.toList[j % sz]? = some u:=λj u hu=>by
    have hj:j<n*sz:=by have:=(List.getElem?_eq_some_iff.1 hu).1;simpa [Builtin.zeroCells,h1] using this
    refine⟨hj,?_⟩;simp only[Builtin.zeroCells,Array.toList_map,Array.toList_range,h1,List.getElem?_map,List.getElem?_range hj,Option.map_some,Option.some.injEq] at hu;have hlt:j % sz<zv.cells.size:=by rw[h1];exact Nat.mod_lt _ hT.pos
    rw[getElem!_pos zv.cells (j % sz) hlt] at hu;rw[<- hu];simp[hlt]
   have XY:(Builtin.zeroCells zv.cells n).toList.length=n*sz:=by simp[Builtin.zeroCells,h1]
   have hone:∀ v,v ∈ (Builtin.zeroCells zv.cells n).toList->v.oneCell' = true:=λu hu=>by
    obtain⟨j,hj⟩:=List.mem_iff_getElem?.1 hu;exact hT.one hi hzv u (List.mem_of_getElem? (hget j u hj).2)
   have hst:=run_storeCells_at P b (o*sz) e (Builtin.zeroCells zv.cells n).toList 0 cs.toArray w hh (by rw[XY];simp;omega) hone
   rw[Nat.add_zero,XY] at hst;have hs:∀ y,y ∈ es.take o++List.replicate n z->y.cells.length=sz:=λy hy=>by
    rcases rD hy with hy|hy
    .exact g1 y (List.mem_of_mem_take hy)
    .rw[(List.mem_replicate.1 hy).2];exact hdl
   have hto:(es.take o).length=o:=by rw[List.length_take];omega
   have hlen:(es.take o++List.replicate n z).length=es.length:=by rw[iU,hto,List.length_replicate];exact hn
   have hA:After F s.M w F (upd s.M id (some (.row b cb e sz (es.take o++List.replicate n z)))) (w.setRow b (cs.take (o*sz)++(Builtin.zeroCells zv.cells n).toList++cs.drop (o*sz+n*sz)).toArray):=by
    refine After.AQ hr.iq hM ⟨by omega,rfl⟩ (λk hk=>hk.2) hh λw' hw'=>⟨by rw[hlen];exact g0,hs,λ_=>⟨_,hw',?_,λv hv=>?_,λj d u hjd hju=>?_⟩⟩
    .rw[iU,iU,List.length_take,List.length_drop,XY];omega
    .rcases rD hv with hv|hv
     .rcases rD hv with hv|hv
      .exact c1 v (List.mem_of_mem_take hv)
      .exact hone v hv
     .exact c1 v (List.mem_of_mem_drop hv)
    .rw[List.flatMap_append] at hjd;have hfo:((es.take o).flatMap D.cells).length=o*sz:=by rw[flat_length λy hy=>g1 y (List.mem_of_mem_take hy),hto]
     rcases Nat.lt_or_ge j (o*sz) with hj|hj
     .rw[List.getElem?_append_left (by rw[hfo];exact hj)] at hjd
      rw[List.append_assoc,List.getElem?_append_left (by rw[List.length_take];omega),List.getElem?_take_of_lt hj] at hju
      refine c2 j d u ?_ hju;obtain⟨r,hr2⟩:=ug (es:=es) o;rw[hr2,List.getElem?_append_left (by rw[hfo];exact hj)]
      exact hjd
     .rw[List.getElem?_append_right (by rw[hfo];exact hj),hfo] at hjd
      have hsr:∀ y,y ∈ List.replicate n z->y.cells.length=sz:=λy hy=>by rw[(List.mem_replicate.1 hy).2];exact hdl
      have hjn:j-o*sz<n*sz:=by
       have:=(List.getElem?_eq_some_iff.1 hjd).1
       rwa [flat_length hsr,List.length_replicate] at this
      rw[List.append_assoc,List.getElem?_append_right (by rw[List.length_take];omega),List.length_take,Nat.min_eq_left (by omega),List.getElem?_append_left (by rw[XY];exact hjn)] at hju
      obtain⟨_,hzu⟩:=hget _ u hju;have hq:(j-o*sz) / sz<n:=Nat.div_lt_of_lt_mul (by rw[Nat.mul_comm sz n];exact hjn)
      have hmod:(j-o*sz) % sz<sz:=Nat.mod_lt _ hT.pos;have hg:=flat_get hsr (i:=(j-o*sz) / sz) (e:=z) (by rw[List.getElem?_replicate,if_pos hq]) ((j-o*sz) % sz) hmod
      rw[Nat.mul_comm,Nat.div_add_mod] at hg;rw[hg] at hjd;obtain⟨x',hx2,hvc⟩:=hc.get _ _ hjd;rw[<- z1,List.getElem?_map,hzu] at hx2;simp only[Option.map_some,Option.some.injEq] at hx2;rw[<- hx2] at hvc;exact (hvc F u (Gu F u)).1
   refine MV (o:=⟨dst,.call { callee:=.builtin .clear,args:=#[x],argTypes:=#[t] },ty,pos,after,none⟩) (v:=.tuple #[]) rfl ?_ ⟨F,_,hr.o9 hA hd (.jE (us:=[]) rfl λi c u h=>by simp at h),h⟩
   rw[hax];have e2:(zeroValue e).run P w=.ok zv w:=by simp[zeroValue,typeInfo,hi,hzv]
   obtain⟨m,rfl⟩:∃ m,n=m+1:=⟨n-1,by omega⟩
   simp[Builtin.clear_,run_underlying hT.u,e2,hst]

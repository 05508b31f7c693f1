/-
  AL, part 38: the elements of a row from some place on become zero.
-/
import Derived.Test.YtnjoncgnjdkaoaaGreatDoorKWkB
set_option linter.unusedVariables false
set_option linter.unusedSimpArgs false
namespace Go.Proofs.YtnjoncgnjdkaoaaGreatDoor
open Go Go.AL
def Eo (a b:Int):Int:=if a<b then -1 else if b<a then 1 else 0
theorem BO {l m:List Int}{i:Nat}(h1:i<l.length)(h2:i<m.length):cmpL (l.drop i) (m.drop i)=if Eo (l.getD i 0) (m.getD i 0)=0 then cmpL (l.drop (i+1)) (m.drop (i+1)) else Eo (l.getD i 0) (m.getD i 0):=by
 have e1:l.getD i 0=l[i]:=by rw[ig,lu h1];rfl
 have e2:m.getD i 0=m[i]:=by rw[ig,lu h2];rfl
 rw[List.drop_eq_getElem_cons h1,List.drop_eq_getElem_cons h2,cmpL,e1,e2];unfold Eo;by_cases a:l[i]<m[i]
 .rw[if_pos a,if_pos a,if_neg (by decide)]
 .rw[if_neg a,if_neg a];by_cases b:m[i]<l[i]
  .rw[if_pos b,if_pos b,if_neg (by decide)]
  .rw[if_neg b,if_neg b,if_pos rfl]
theorem cmp_isNaN_int {x:Int}:aj P F.cmp_isNaN_int [.d (dI x)] (.d (dB false)):=by
 refine aj.intro fn.cmp_isNaN_int (by rfl) (by rfl) (aB (by rfl)) λE hE=>(AW.sg hE rfl (aF rfl (OL.nil (AW.sg hE rfl (ai rfl (ai rfl (eG rfl rfl rfl ?_)))))))
 exact aF rfl (OL.nil (AW.ret (aP.r ⟨_,.tmp rfl .nil,.le (bG.bool (by simp_all))⟩)))
theorem cmp_Compare_int {x y:Int}:aj P F.cmp_Compare_int [.d (dI x),.d (dI y)] (.d (dI (Eo x y))):=by
 refine aj.intro fn.cmp_Compare_int (by rfl) (by rfl) (aB (by rfl)) λE hE=>(AW.sg hE rfl (aF rfl (OL.nil (AW.sg hE rfl (ai rfl (bJ rfl vL (cmp_isNaN_int) (aF rfl ?_)))))))
 refine OL.nil (AW.sg hE rfl (ai rfl (bJ rfl vL (cmp_isNaN_int) (aF rfl (OL.nil (AW.seq (AW.sg hE rfl ?_)))))));refine ai rfl (OL.nil (qW rfl ?_));refine AW.skip (AW.seq (AW.sg hE rfl (ai rfl (OL.nil (qW rfl ?_)))));refine AW.skip (AW.seq (AW.sg hE rfl (ai rfl (ai rfl (aY rfl rfl rfl (OL.nil (AW.cond rfl (λh1=>?_) (λh1=>?_))))))))
 .have h1:=lq h1;exact AW.sg hE rfl (aF rfl (OL.nil (AW.ret (aP.r ⟨_,.tmp rfl .nil,.le (bG.int ((if_pos h1).symm))⟩))))
 .have h1:=nS h1;refine AW.skip (AW.seq (AW.sg hE rfl (ai rfl (ai rfl (iO rfl rfl rfl (OL.nil (AW.cond rfl (λh2=>?_) (λh2=>?_))))))))
  .have h2:=lq h2;exact AW.sg hE rfl (aF rfl (OL.nil (AW.ret (aP.r ⟨_,.tmp rfl .nil,.le (bG.int (by unfold Eo;rw[if_neg h1,if_pos h2]))⟩))))
  .have h2:=nS h2;exact AW.skip (AW.sg hE rfl (aF rfl (OL.nil (AW.ret (aP.r ⟨_,.tmp rfl .nil,.le (bG.int (by unfold Eo;rw[if_neg h1,if_neg h2]))⟩)))))
theorem Ns {l:List Int}(nl:l.length<=1099511627776):aj P F.iJ [.d (ints l)] (.d (ints l)):=by
 refine aj.intro fn.iJ (by rfl) (by rfl) (aB (by rfl)) λE hE=>(AW.sg hE rfl (oK rfl (OL.nil (AW.seq (AW.sg hE rfl (ai rfl (isNil sl.ints.u rfl (λy hy=>by obtain⟨a,_,rfl⟩:=mM hy;exact Nat.succ_pos _) rfl λb hb=>?_)))))))
 refine OL.nil (AW.cond rfl (λh=>?_) (λh=>?_))
 .have hL:l=[]:=by have:=hb h;simpa using this
  exact AW.sg hE rfl (oK rfl (OL.nil (AW.ret (aP.r ⟨_,.tmp rfl .nil,.le (hL ▸ bG.mt)⟩))))
 .have _h:=h;exact AW.skip (AW.sg hE rfl (lt0 sl.ints (ai rfl (YX sl.ints rfl rfl (VC.d _) (λy hy=>by obtain⟨a,_,rfl⟩:=mM hy;rfl) (by simp;omega) (by simp;omega) (aF rfl (OL.nil (AW.ret (aP.r ⟨_,.tmp rfl .nil,.le vR⟩))))))))
theorem Eu {l:List Int}(nl:l.length<=1099511627776):jd P F.iJ [.d (ints l)] l.length T.int 1 (l.map dI):=by
 refine jd.intro fn.iJ (by rfl) (by rfl) (aB (by rfl)) 2 rfl λE hE=>(AW.sg hE rfl (oK rfl (OL.nil (AW.seq (AW.sg hE rfl (ai rfl (isNil sl.ints.u rfl (λy hy=>by obtain⟨a,_,rfl⟩:=mM hy;exact Nat.succ_pos _) rfl λb hb=>?_)))))))
 refine OL.nil (AW.cond rfl (λh=>?_) (λh=>?_))
 .have hL:l=[]:=by have:=hb h;simpa using this
  subst hL;exact AW.sg hE rfl (oK rfl (OL.nil (AW.own 2 99 T.int 1 rfl rfl (AW.ret ⟨.inr rfl,99,0,0,[],rfl,rfl,Nat.le_refl _,rfl⟩))))
 .have _h:=h;exact AW.skip (AW.sg hE rfl (lt0 sl.ints (ai rfl (apM sl.ints rfl rfl (VC.d _) VY (by simp;omega) (by simp;omega) rfl λb7 c7=>(tJ rfl (OL.nil (AW.ret ⟨.inr rfl,7,b7,c7,l.map dI,by show V.bF 7 b7 (List.map dI l).length c7=_;rw[dJ],rfl,by rw[dJ];exact Nat.le_refl _,List.take_of_length_le (by rw[dJ];exact Nat.le_refl _)⟩)))))))
def orL:List Int->Int
 | []=>0
 | x::r=>if x=0 then orL r else x
theorem ak2:∀ {l:List Int} {i:Nat},i<l.length->(∀ j,j<i->l.getD j 0=0)->l.getD i 0≠0->orL l=l.getD i 0
 | x::r,0,_,_,h=>if_neg h
 | x::r,i+1,hi,hz,h=>(if_pos (hz 0 (Nat.zero_lt_succ _))).trans (ak2 (by simpa using hi) (λj hj=>hz (j+1) (by omega)) h)
theorem Um:∀ {l:List Int},(∀ j,j<l.length->l.getD j 0=0)->orL l=0
 | [],_=>rfl
 | x::r,h=>(if_pos (h 0 (Nat.zero_lt_succ _))).trans (Um λj hj=>h (j+1) (by simpa using hj))
theorem WE (a b:Nat):Eo (a:Int) (b:Int)=cI a b:=by
 unfold Eo cI;by_cases h1:a<b
 .rw[if_pos (by omega),if_pos h1]
 .rw[if_neg (by omega),if_neg h1]
  by_cases h2:b<a
  .rw[if_pos (by omega),if_pos h2]
  .rw[if_neg (by omega),if_neg h2]
theorem aQ6 (x y:bH):orL [cI x.f y.f,cI x.l y.l,cI x.t y.t]=pF x y:=by
 unfold pF;by_cases h1:cI x.f y.f=0 <;> by_cases h2:cI x.l y.l=0 <;> by_cases h3:cI x.t y.t=0 <;> simp[orL,h1,h2,h3]
abbrev rowA (b c:Nat)(l:List bH):iE:=.row b c T.pO 11 (l.map jy)
theorem oQ {l:List bH}{i:Nat}(hi:i<l.length):(l.map jy)[i]? = some (jy (l.getD i default)):=by rw[List.getElem?_map,ig,lu hi];rfl
theorem Bg {x:bH}:VD (Ib x) (jy x):=VD.ag (.cons (VC.d _) (.cons (VC.d _) (.cons (VC.d _) (.cons (VC.d _) (.cons (VC.d _) (.cons (VC.d _) (.cons (VC.d _) (.cons (VC.d _) (.cons (VC.d _) (.cons (VC.d _) (.cons (VC.d _) .nil)))))))))))
abbrev lN (x:bH):List V:=[.d (dI x.f),.d (dI x.l),.d (dI x.t),.d (dB (fZ x.q).neg),.d (aH (fZ x.q).num),.d (aH (fZ x.q).den),.d (dI 0),.d (dB false),.d (dU 0),.d (.sl []),.d (.sl [])]
theorem Zt {l:List bH}{j:Nat}:((l.map jy).set (j+1) (jy (l.getD j default))).set j (jy (l.getD (j+1) default))=(DT l j).map jy:=by
 unfold DT;rw[List.map_set,List.map_set]
theorem Ew {l:List bH}:∀ y,y ∈ l.map jy->y.cells.length=11:=λy hy=>by obtain⟨a,_,rfl⟩:=mM hy;rfl
theorem Ya {l:List Int}(nl:l.length<=1099511627776):aj P F.Dk [.d (ints l)] (.d (dI (orL l))):=by
 refine aj.intro fn.Dk (by rfl) (by rfl) (aB (by rfl)) λE hE=>(AW.sg hE rfl (aF rfl (OL.nil (AW.sg hE rfl (aF rfl (OL.nil (AW.seq ?_)))))))
 refine AW.sg hE rfl (ai rfl (fJ sl.ints rfl rfl (ai rfl (OL.nil (AW.block ?_)))));refine AW.aV (α:=Nat) [(3,_),(6,_),(7,_)] [] (λi=>[(8,.d (dI i))]) (λi=>[]) (λi=>i<=l.length/\∀ j,j<i->l.getD j 0=0) (λi=>l.length-i) 0 (.cons (bK rfl) (.cons (bK rfl) (.cons (bK rfl) .nil))) .nil ⟨⟨Nat.zero_le _,λj hj=>by omega⟩,.bZ,.nil⟩ ?_
 rintro i ⟨h1,h2⟩
 refine AW.sg hE rfl (aY rfl rfl rfl (OL.nil (AW.seq (AW.cond rfl (λh9=>?_) (λh9=>?_)))))
 .try simp only[dX] at h9
  refine AW.skip (AW.seq (AW.block (AW.sg hE rfl (fO sl.ints 0 rfl rfl (by omega) rfl rfl (iH ce.int rfl (aF rfl (OL.nil ?_)))))))
  refine AW.sg hE rfl (ai rfl (ai rfl (eG rfl rfl rfl (OL.nil (AW.cond rfl (λhc=>?_) (λhc=>?_))))))
  .have hc:l.getD i 0≠0:=D7 hc;exact AW.sg hE rfl (ai rfl (aF rfl (OL.nil (AW.ret (aP.r ⟨_,.tmp rfl .nil,.le (bG.int ((ak2 (by omega) h2 hc).symm))⟩)))))
  .have hc:l.getD i 0=0:=Bc hc;refine AW.skip (AW.rg hE rfl (aI rfl rfl (by omega) (ai rfl (OL.nil ?_))))
   exact AW.again (x:=i) (i+1) (by omega) ⟨⟨by omega,λj hj=>by rcases Nat.lt_or_ge j i with h|h;exact h2 j h;obtain rfl:j=i:=(by omega);exact hc⟩,Knows.app .Ah .bZ,.nil⟩
 .try simp only[dX] at h9
  exact AW.exit (AW.sg hE rfl (ai rfl (aF rfl (OL.nil (AW.ret (aP.r ⟨_,.tmp rfl .nil,.le (bG.int ((Um λj hj=>h2 j (by omega)).symm))⟩))))))
theorem ak3 {x y:bH}:aj P F.dF [Ib x,Ib y] (.d (dI (pF x y))):=by
 refine aj.intro fn.dF (by rfl) (by rfl) (aB (by rfl)) λE hE=>(AW.sg hE rfl (iI rfl rfl λb2=>(iI rfl rfl λb3=>(aF rfl (OL.nil (AW.seq (AW.dg 1 [0,1,2,3,4,5,6,7,8,9,10,11,12,13,14,15,16,17] ay hE rfl (by kernel_rfl) (OI.aK (os:=[_,_,_,_,_,_,_,_,_,_,_,_,_,_,_,_,_,_]) rfl ?_))))))))
 refine aW fd.zC rfl rfl (aG ce.int rfl rfl rfl (aW fd.zC rfl rfl (aG ce.int rfl rfl rfl (bJ rfl vL (cmp_Compare_int (x:=(x.f:Int)) (y:=(y.f:Int))) ?_))));rw[WE];refine aW fd.AY rfl rfl (aG ce.int rfl rfl rfl (aW fd.AY rfl rfl (aG ce.int rfl rfl rfl (bJ rfl vL (cmp_Compare_int (x:=(x.l:Int)) (y:=(y.l:Int))) ?_))));rw[WE];refine aW fd.zD rfl rfl (aG ce.int rfl rfl rfl (aW fd.zD rfl rfl (aG ce.int rfl rfl rfl (bJ rfl vL (cmp_Compare_int (x:=(x.t:Int)) (y:=(y.t:Int))) ?_))));rw[WE];refine ltN (ys:=[dI (cI x.f y.f),dI (cI x.l y.l),dI (cI x.t y.t)]) sl.ints rfl (J8 (VC.d _).vd (J8 (VC.d _).vd (J8 (VC.d _).vd pdN))) rfl (by decide) (by decide) (λy hy=>by simp at hy;rcases hy with rfl|rfl|rfl <;> rfl) (bJ rfl vL (Ya (l:=[cI x.f y.f,cI x.l y.l,cI x.t y.t]) (show 3<=1099511627776 by decide)) ?_)
 rw[aQ6];exact aF rfl (OL.nil (AW.ret (aP.r ⟨_,.tmp rfl .nil,.le vR⟩)))
theorem Yb {l:List bH}{b n c:Nat}(hl:l.length=n)(hn:1<=n/\n<=20):eX P F.dS [.bF 1000 b n c,.d (dI 0),.d (dI n),.fn F.dF []] (mem1 1000 (rowA b c (l))) (.jS []) (mem1 1000 (rowA b c (sV PK (n-1) l))):=by
 refine eX.intro fn.dS (by rfl) (by rfl) (aB (by rfl)) λE hE=>(AW.sg hE rfl (ai rfl (aI rfl rfl (by omega) (aF rfl (OL.nil (AW.block ?_))))))
 refine AW.aV (α:=Nat) [(0,_),(1,_),(2,_),(3,_)] [] (λi=>[(8,.d (dI i))]) (λi=>[(1000,rowA b c (sV PK (i-1) l))]) (λi=>1<=i/\i<=n) (λi=>n-i) 1 (.cons (yj rfl) (.cons (bK rfl) (.cons (bK rfl) (.cons (LH rfl) .nil)))) .nil ⟨⟨Nat.le_refl _,hn.1⟩,.bZ,.cons rfl .nil⟩ ?_
 rintro i ⟨h1,h2⟩
 have h1:1<=i:=h1;have h2:i<=n:=h2;refine AW.seq (AW.sg hE rfl (ai rfl (ai rfl (aY rfl rfl rfl (OL.nil (AW.cond rfl (λBf=>?_) (λBf=>?_)))))))
 .try simp only[dX] at Bf
  refine AW.skip (AW.J7 (α:=Unit) [(0,_),(1,_),(2,_),(3,_),(8,_)] [] (λ_u=>[]) (λ_u=>[(1000,rowA b c (sV PK i l))]) (λ_u=>True) (.cons (yj rfl) (.cons (bK rfl) (.cons (bK rfl) (.cons (LH rfl) (.cons (bK rfl) .nil))))) .nil ?_ ?_)
  .refine AW.block (AW.sg hE rfl (ai rfl (aF rfl (OL.nil (AW.block ?_)))));refine AW.aV (α:=Nat × List bH) [(0,_),(1,_),(2,_),(3,_),(8,_)] [] (λ(j,u)=>[(9,.d (dI j))]) (λ(j,u)=>[(1000,rowA b c (u))]) (λ(j,u)=>j<=i/\u.length=n/\Et PK j u=sV PK i l) (λ(j,u)=>j) (i,sV PK (i-1) l) (.cons (yj rfl) (.cons (bK rfl) (.cons (bK rfl) (.cons (LH rfl) (.cons (bK rfl) .nil))))) .nil ⟨⟨Nat.le_refl _,by rw[wW];exact hl,by obtain⟨q,rfl⟩:∃ q,i=q+1:=⟨i-1,by omega⟩;rfl⟩,.bZ,.cons rfl .nil⟩ ?_
   rintro⟨j,u⟩ ⟨h3,hul,hs⟩
   have h3:j<=i:=h3;have hul:u.length=n:=hul;refine AW.seq (AW.seq (AW.dg 1 [0,1,2,3,4,5,6,7,8,9,10,11,12,13,14,15,16] ay hE rfl (by kernel_rfl) (OI.aK (os:=[_,_,_,_,_,_,_,_,_,_,_,_,_,_,_,_,_]) rfl ?_)))
   refine ai rfl (ai rfl (iO rfl rfl rfl (ai rfl (OL.split 21 rfl (λhj=>?_) (λhj=>?_)))))
   .have hj:(0:Int)<(j:Int):=lq hj;obtain⟨j,rfl⟩:∃ q,j=q+1:=⟨j-1,by omega⟩
    refine OL.yes rfl (Ky rfl (OL.yes rfl (jq rfl (OL.yes rfl (ai rfl (OL.yes rfl (iM sl.dH rfl rfl (by omega) ?_)))))))
    refine OL.yes rfl (FK ag.pO (by decide) rfl rfl (oQ (show j+1<u.length by omega)) (vs:=lN (u.getD (j+1) default)) rfl (aB rfl) (OL.yes rfl (jq rfl (OL.yes rfl (ai rfl (OL.yes rfl (bo rfl rfl (lQ (c:=(j:Int)) (by omega) (wrap_i64 (by omega))) ?_)))))))
    refine OL.yes rfl (iM sl.dH rfl rfl (by omega) (OL.yes rfl (FK ag.pO (by decide) rfl rfl (oQ (show j<u.length by omega)) (vs:=lN (u.getD (j) default)) rfl (aB rfl) (OL.yes rfl (bJ rfl vL (ak3 (x:=u.getD (j+1) default) (y:=u.getD j default)) (OL.yes rfl (aY rfl rfl rfl ?_)))))))
    refine oC rfl rfl (OL.nil (AW.cond rfl (λhk=>?_) (λhk=>?_)))
    .have hk:PK (u.getD (j+1) default) (u.getD j default)=true:=hk;refine AW.skip (AW.seq (AW.block (AW.dg 1 [0,1,2,3,4,5,6,7,8,9,10,11,12,13,14,15,16,17] ay hE rfl (by kernel_rfl) (OI.aK (os:=[_,_,_,_,_,_,_,_,_,_,_,_,_,_,_,_,_,_]) rfl ?_))))
     refine jq rfl (ai rfl (jq rfl (ai rfl (bo rfl rfl (lQ (c:=(j:Int)) (by omega) (wrap_i64 (by omega))) (jq rfl (ai rfl (bo rfl rfl (lQ (c:=(j:Int)) (by omega) (wrap_i64 (by omega))) ?_)))))))
     refine iM sl.dH rfl rfl (by omega) (FK ag.pO (by decide) rfl rfl (oQ (show j<u.length by omega)) (vs:=lN (u.getD (j) default)) rfl (aB rfl) (jq rfl (ai rfl (iM sl.dH rfl rfl (by omega) (FK ag.pO (by decide) rfl rfl (oQ (show j+1<u.length by omega)) (vs:=lN (u.getD (j+1) default)) rfl (aB rfl) (iM sl.dH rfl rfl (by omega) (GI sz.pO rfl (d:=jy (u.getD j default)) Bg rfl rfl (by rw[dJ];omega) rfl ?_)))))))
     refine iM sl.dH rfl rfl (by omega) (GI sz.pO rfl (d:=jy (u.getD (j+1) default)) Bg rfl rfl (by rw[List.length_set,dJ];omega) Zt (OL.nil (AW.rg hE rfl (ai rfl (bo rfl rfl (lQ (c:=(j:Int)) (by omega) (wrap_i64 (by omega))) (aF rfl (OL.nil ?_)))))))
     exact AW.again (x:=(j+1,u)) (j,DT u j) (by (simp only[];omega)) ⟨⟨by omega,by rw[Fg];exact hul,by rw[<- hs,Et,if_pos hk]⟩,Knows.app .DR .bZ,.cons rfl .nil⟩
    .have hk:¬ PK (u.getD (j+1) default) (u.getD j default)=true:=λe=>nS hk (lq e);exact AW.exit (AW.reach () ⟨trivial,Knows.app .DR (.nil),.cons (by rw[<- hs,Et,if_neg hk];rfl) .nil⟩)
   .have hj:¬ (0:Int)<(j:Int):=nS hj;refine OL.nd rfl (OL.nd rfl (OL.nd rfl (OL.nd rfl (OL.nd rfl (OL.nd rfl (OL.nd rfl (OL.nd rfl ?_)))))));refine OL.nd rfl (OL.nd rfl (OL.nd rfl (OL.nd rfl (kL rfl rfl (OL.nil (qW rfl ?_))))));exact AW.exit (AW.reach () ⟨trivial,Knows.app .DR (.nil),.cons (by obtain rfl:j=0:=(by omega);rw[<- hs];rfl) .nil⟩)
  rintro⟨⟩ hφ
  exact AW.rg hE rfl (ai rfl (aI rfl rfl (by omega) (aF rfl (OL.nil (AW.again (x:=i) (i+1) (by omega) ⟨⟨by omega,by omega⟩,Knows.app .Jz .bZ,.cons (by rw[Nat.add_sub_cancel];rfl) .nil⟩)))))
 .try simp only[dX] at Bf
  refine AW.exit ?_;obtain rfl:i=n:=by omega
  exact⟨⟨_,.nil,_,.nil,rfl⟩,dh rfl⟩
theorem Nu {q:Rat}:VD (vW q) (dW q):=VD.ag (.cons (VC.d _) (.cons (VC.d _) (.cons (VC.d _) (.cons (VC.d _) (.cons (VC.d _) (.cons (VC.d _) (.cons (VC.d _) (.cons (VC.d _) .nil))))))))
theorem Un {l:List bH}{b n c:Nat}(hn:n<=20):eX P F.dS [.bF 1000 b n c,.d (dI n),.d (dI n),.fn F.dF []] (mem1 1000 (rowA b c (l))) (.jS []) (mem1 1000 (rowA b c (l))):=by
 refine eX.intro fn.dS (by rfl) (by rfl) (aB (by rfl)) λE hE=>(AW.sg hE rfl (ai rfl (aI rfl rfl (by omega) (aF rfl (OL.nil (AW.block ?_))))))
 refine AW.aV (α:=Unit) [(0,_),(1,_),(2,_),(3,_)] [] (λ_u=>[(8,.d (dI ((n:Int)+1)))]) (λ_u=>[(1000,rowA b c (l))]) (λ_u=>True) (λ_u=>0) () (.cons (yj rfl) (.cons (bK rfl) (.cons (bK rfl) (.cons (LH rfl) .nil)))) .nil ⟨trivial,.bZ,.cons rfl .nil⟩ ?_
 rintro⟨⟩ -
 refine AW.seq (AW.sg hE rfl (ai rfl (ai rfl (aY rfl rfl rfl (OL.nil (AW.cond rfl (λhno=>absurd hno (by simp;omega)) (λ_=>?_)))))))
 exact AW.exit (⟨⟨_,.nil,_,.nil,rfl⟩,dh rfl⟩)
theorem aB8 {l:List bH}{b n c:Nat}(hl:l.length=n)(hn:1<=n/\n<=20):eX P F.gy [.bF 1000 b n c,.d (dI n),.fn F.dF []] (mem1 1000 (rowA b c (l))) (.jS []) (mem1 1000 (rowA b c (sV PK (n-1) l))):=by
 refine eX.intro fn.gy (by rfl) (by rfl) (aB (by rfl)) λE hE=>(AW.sg hE rfl (aF rfl (OL.nil (AW.sg hE rfl (ai rfl (aF rfl (aF rfl ?_)))))))
 refine OL.nil ?_;refine AW.J7 (α:=Nat × List bH) [(0,_),(1,_),(2,_),(6,_)] [] (λ(k,u)=>[(7,.d (dI (20*k:Nat)))]) (λ(k,u)=>[(1000,rowA b c (u))]) (λ(k,u)=>(k=0/\l=u/\n<20) \/ (k=1/\n=20/\u=sV PK (n-1) l)) (.cons (yj rfl) (.cons (bK rfl) (.cons (LH rfl) (.cons (bK rfl) .nil)))) .nil ?_ ?_
 .refine AW.block ?_;refine AW.aV (α:=Nat × List bH) [(0,_),(1,_),(2,_),(6,_)] [] (λ(k,u)=>[(7,.d (dI (20*k:Nat))),(8,.d (dI (20*k+20:Nat)))]) (λ(k,u)=>[(1000,rowA b c (u))]) (λ(k,u)=>(k=0/\l=u) \/ (k=1/\n=20/\u=sV PK (n-1) l)) (λ(k,u)=>1-k) (0,l) (.cons (yj rfl) (.cons (bK rfl) (.cons (LH rfl) (.cons (bK rfl) .nil)))) .nil ⟨.inl ⟨rfl,rfl⟩,.iq,.cons rfl .nil⟩ ?_
  rintro⟨k,u⟩ h1
  have h1:(k=0/\l=u) \/ (k=1/\n=20/\u=sV PK (n-1) l):=h1;refine AW.seq (AW.sg hE rfl (ai rfl (ai rfl (xN rfl rfl rfl (OL.nil (AW.cond rfl (λh13=>?_) (λh13=>?_)))))))
  .try simp only[dX] at h13
   refine AW.skip (AW.block (AW.sg hE rfl (jq rfl (ai rfl (ai rfl (Ky rfl ?_))))));obtain⟨rfl,rfl⟩:k=0/\l=u:=h1.resolve_right λe=>by omega
   refine OL.tH (v:=.jS []) (.mk (args':=[.bF 1000 b n c,.d (dI 0),.d (dI n),.fn F.dF []]) rfl (.cons vR (.cons vR (.cons (bG.int (by omega)) (.cons vR (.nil))))) (dh (id:=1000) (blk:=rowA b c l) rfl) iT (Yb (n:=n) hl hn)) ?_
   refine OL.nil (AW.sg hE rfl (ai rfl (aF rfl (OL.nil (AW.rg hE rfl (ai rfl (ai rfl ?_)))))));refine aI rfl rfl (by omega) (aF rfl (OL.nil ?_))
   exact AW.again (x:=(0,l)) (1,sV PK (n-1) l) (by (simp only[];omega)) ⟨.inr ⟨rfl,by omega,rfl⟩,Knows.app .Jz .iq,.cons rfl .nil⟩
  .try simp only[dX] at h13
   exact AW.exit (AW.reach (k,u) ⟨h1.imp (λe=>⟨e.1,e.2,by omega⟩) id,Knows.app .Jz .bZ,.cons rfl .nil⟩)
 rintro⟨k,u⟩ h1
 refine AW.seq ?_;rcases h1 with ⟨rfl,rfl,h0⟩|⟨rfl,h0,rfl⟩
 .have h2:n<=20:=hn.2;refine AW.rg hE rfl (jq rfl (ai rfl (ai rfl (Ky rfl ?_))));refine OL.tH (v:=.jS []) (.mk (args':=[.bF 1000 b n c,.d (dI 0),.d (dI n),.fn F.dF []]) rfl (.cons vR (.cons vR (.cons vR (.cons vR (.nil))))) (dh (id:=1000) (blk:=rowA b c l) rfl) iT (Yb (n:=n) hl hn)) ?_;refine OL.nil (AW.block ?_);refine AW.aV (α:=Unit) [(0,_),(1,_),(2,_)] [] (λ_u=>[(6,.d (dI 20))]) (λ_u=>[(1000,rowA b c (sV PK (n-1) l))]) (λ_u=>True) (λ_u=>0) () (.cons (yj rfl) (.cons (bK rfl) (.cons (LH rfl) .nil))) .nil ⟨trivial,.bZ,.cons rfl .nil⟩ ?_
  rintro⟨⟩ -
  refine AW.seq (AW.sg hE rfl (ai rfl (ai rfl (aY rfl rfl rfl (OL.nil (AW.cond rfl (λhno=>absurd hno (by simp;omega)) (λ_=>?_)))))))
  exact AW.exit (⟨⟨_,.nil,_,.nil,rfl⟩,dh rfl⟩)
 .have h2:n<=20:=hn.2;refine AW.rg hE rfl (jq rfl (ai rfl (ai rfl (Ky rfl ?_))));refine OL.tH (v:=.jS []) (.mk (args':=[.bF 1000 b n c,.d (dI n),.d (dI n),.fn F.dF []]) rfl (.cons vR (.cons (bG.int (by omega)) (.cons vR (.cons vR (.nil))))) (dh (id:=1000) (blk:=rowA b c (sV PK (n-1) l)) rfl) iT (Un (n:=n) hn.2)) ?_
  refine OL.nil (AW.block ?_);refine AW.aV (α:=Unit) [(0,_),(1,_),(2,_)] [] (λ_u=>[(6,.d (dI 20))]) (λ_u=>[(1000,rowA b c (sV PK (n-1) l))]) (λ_u=>True) (λ_u=>0) () (.cons (yj rfl) (.cons (bK rfl) (.cons (LH rfl) .nil))) .nil ⟨trivial,.bZ,.cons rfl .nil⟩ ?_
  rintro⟨⟩ -
  refine AW.seq (AW.sg hE rfl (ai rfl (ai rfl (aY rfl rfl rfl (OL.nil (AW.cond rfl (λhno=>absurd hno (by simp;omega)) (λ_=>?_)))))))
  exact AW.exit (⟨⟨_,.nil,_,.nil,rfl⟩,dh rfl⟩)
theorem Uo {l:List bH}{b n c:Nat}(hl:l.length=n)(hn:1<=n/\n<=20):eX P F.dM [.bF 1000 b n c,.fn F.dF []] (mem1 1000 (rowA b c (l))) (.jS []) (mem1 1000 (rowA b c (sV PK (n-1) l))):=by
 refine eX.intro fn.dM (by rfl) (by rfl) (aB (by rfl)) λE hE=>(AW.rg hE rfl (jq rfl (jq rfl (G5 sl.dH rfl rfl (Ky rfl (OL.tH (v:=.jS []) (.mk (args':=[.bF 1000 b n c,.d (dI n),.fn F.dF []]) rfl (.cons vR (.cons vR (.cons vR (.nil)))) (dh (id:=1000) (blk:=rowA b c l) rfl) iT (aB8 hl hn)) (OL.nil ?_)))))))
 exact⟨⟨_,.nil,_,.nil,rfl⟩,dh rfl⟩
end Go.Proofs.YtnjoncgnjdkaoaaGreatDoor
namespace Go.AL
open Go Go.BigFrame
section
variable {P:Program}{E:Env}{K:S->Prop}{s:S}{pos:String}{after:Array Edge}{ty:Nat}
theorem Zu {M:Mem}{id:Nat}{blk:iE}(h:M id=some blk):upd M id (some blk)=M:=by
 funext k;unfold upd
 split
 .rename_i e;rw[e];exact h.symm
 .rfl
theorem After.none {F:Hp}{M:Mem}{w:World}(h:wI F M w):After F M w F M w:=⟨Grow.refl _ _,Hp.le.refl F,h,λk a b=>absurd a b,λ_ k=>.inr k⟩
theorem builtin_clear {ats:Array TypeId}{ty:TypeId}{cs:Array Bool}{args:Array Value}:builtin .clear ats ty cs args=(do pure (.value (<- Builtin.clear_ ats ty args))):=rfl
theorem Nv {a:Act}{w w':World}{o:Oper}{x:Operand}{t:Nat}{v:Value}(ho:o.op=.call { callee:=.builtin .clear,args:=#[x],argTypes:=#[t] }){R:Value->World->Prop}
  (hr:(Builtin.clear_ #[t] o.type #[a.eval x]).run P w=.ok v w') (h:R v w'):Good P ((execOp a.eval o).run P w) R:=by
 unfold execOp;rw[ho];simp only[resolve,Sem.run_bind,Sem.run_pure,Result.andThen_ok,invoke,builtin_clear];have e1:(#[x].map a.eval) = #[a.eval x]:=by simp
 rw[e1,hr];exact h
theorem SO.aQ7 {dst:Option Nat}{t e sz eF id b o n c cb:Nat}{x:Operand}{es:List D}{z:D}{zs:List V}(hd:oV E.n dst)(hT:bD P t e sz eF)(hz:eU P e zs)(hc:VCs zs z.cells)(hx:s.ev x=.xI id b sz o n c)(hM:s.M id=some (.row b cb e sz es))(hn:o+n=es.length)
  (h:K ((⟨s.ρ,upd s.M id (some (.row b cb e sz (es.take o++List.replicate n z)))⟩:S).put dst (.jS []))) :
  SO P E ⟨dst,.call { callee:=.builtin .clear,args:=#[x],argTypes:=#[t] },ty,pos,after,none⟩ K s:=λF a w hr=>by
 have hx':=hr.eval x;rw[hx] at hx';generalize hax:a.eval x=ax at hx';obtain⟨g0,g1,g2⟩:=hr.gU.own id _ hM;obtain⟨i,zv,hi,hzv,h1,h2,h3⟩:=hT.parts;obtain⟨i',zv',hi',ac4,z1,z2,z3⟩:=hz.parts;rw[hi] at hi';cases hi'
 rw[hzv] at ac4;cases ac4
 have hzl:zs.length=sz:=by rw[<- h2,z3]
 have hdl:z.cells.length=sz:=by rw[<- hc.length,hzl]
 cases hx' with
 | @xI ao _ _ _ _ _ _ ha hnc =>
  rcases Nat.eq_zero_or_pos n with h0|h0
  .subst h0;have e1:es.take o++List.replicate 0 z=es:=by rw[List.replicate_zero,List.append_nil,List.take_of_length_le (by omega)]
   rw[e1,Zu hM] at h;refine Nv (o:=⟨dst,.call { callee:=.builtin .clear,args:=#[x],argTypes:=#[t] },ty,pos,after,none⟩) (v:=.tuple #[]) (w':=w) rfl ?_ ⟨F,_,hr.qC (After.none hr.gU) hd (.jS (us:=[]) rfl λi c u h=>by simp at h),h⟩
   rw[hax];cases ao <;> simp[Builtin.clear_,run_underlying hT.u]
  .rw[ha (by omega)] at hax
   obtain⟨cs,hh,hcl,c1,c2⟩:=g2 (by omega)
   have hfit:o*sz+n*sz<=cs.length:=by rw[hcl,<- Nat.add_mul,hn];exact Nat.mul_le_mul_right _ g0
   have hget:∀ (j:Nat) (u:Value),(Builtin.zeroCells zv.cells n).toList[j]? = some u->j<n*sz/\zv.cells.toList[j % sz]? = some u:=λj u hu=>by
    have hj:j<n*sz:=by have:=(List.getElem?_eq_some_iff.1 hu).1;simpa [Builtin.zeroCells,h1] using this
    refine⟨hj,?_⟩;simp only[Builtin.zeroCells,Array.toList_map,Array.toList_range,h1,List.getElem?_map,List.getElem?_range hj,Option.map_some,Option.some.injEq] at hu;have hlt:j % sz<zv.cells.size:=by rw[h1];exact Nat.mod_lt _ hT.pos
    rw[getElem!_pos zv.cells (j % sz) hlt] at hu;rw[<- hu];simp[hlt]
   have Yc:(Builtin.zeroCells zv.cells n).toList.length=n*sz:=by simp[Builtin.zeroCells,h1]
   have hone:∀ v,v ∈ (Builtin.zeroCells zv.cells n).toList->v.oneCell' = true:=λu hu=>by
    obtain⟨j,hj⟩:=List.mem_iff_getElem?.1 hu;exact hT.one hi hzv u (List.mem_of_getElem? (hget j u hj).2)
   have hst:=run_storeCells_at P b (o*sz) e (Builtin.zeroCells zv.cells n).toList 0 cs.toArray w hh (by rw[Yc];simp;omega) hone
   rw[Nat.add_zero,Yc] at hst;have hs:∀ y,y ∈ es.take o++List.replicate n z->y.cells.length=sz:=λy hy=>by
    rcases ul hy with hy|hy
    .exact g1 y (List.mem_of_mem_take hy)
    .rw[(List.mem_replicate.1 hy).2];exact hdl
   have hto:(es.take o).length=o:=by rw[List.length_take];omega
   have hlen:(es.take o++List.replicate n z).length=es.length:=by rw[jG,hto,List.length_replicate];exact hn
   have hA:After F s.M w F (upd s.M id (some (.row b cb e sz (es.take o++List.replicate n z)))) (w.setRow b (cs.take (o*sz)++(Builtin.zeroCells zv.cells n).toList++cs.drop (o*sz+n*sz)).toArray):=by
    refine After.Bj hr.gU hM ⟨by omega,rfl⟩ (λk hk=>hk.2) hh λw' hw'=>⟨by rw[hlen];exact g0,hs,λ_=>⟨_,hw',?_,λv hv=>?_,λj d u hjd hju=>?_⟩⟩
    .rw[jG,jG,List.length_take,List.length_drop,Yc];omega
    .rcases ul hv with hv|hv
     .rcases ul hv with hv|hv
      .exact c1 v (List.mem_of_mem_take hv)
      .exact hone v hv
     .exact c1 v (List.mem_of_mem_drop hv)
    .rw[List.flatMap_append] at hjd;have hfo:((es.take o).flatMap D.cells).length=o*sz:=by rw[flat_length λy hy=>g1 y (List.mem_of_mem_take hy),hto]
     rcases Nat.lt_or_ge j (o*sz) with hj|hj
     .rw[List.getElem?_append_left (by rw[hfo];exact hj)] at hjd
      rw[List.append_assoc,List.getElem?_append_left (by rw[List.length_take];omega),List.getElem?_take_of_lt hj] at hju
      refine c2 j d u ?_ hju;obtain⟨r,hr2⟩:=uO (es:=es) o;rw[hr2,List.getElem?_append_left (by rw[hfo];exact hj)]
      exact hjd
     .rw[List.getElem?_append_right (by rw[hfo];exact hj),hfo] at hjd
      have hsr:∀ y,y ∈ List.replicate n z->y.cells.length=sz:=λy hy=>by rw[(List.mem_replicate.1 hy).2];exact hdl
      have hjn:j-o*sz<n*sz:=by
       have:=(List.getElem?_eq_some_iff.1 hjd).1
       rwa [flat_length hsr,List.length_replicate] at this
      rw[List.append_assoc,List.getElem?_append_right (by rw[List.length_take];omega),List.length_take,Nat.min_eq_left (by omega),List.getElem?_append_left (by rw[Yc];exact hjn)] at hju
      obtain⟨_,hzu⟩:=hget _ u hju;have hq:(j-o*sz) / sz<n:=Nat.div_lt_of_lt_mul (by rw[Nat.mul_comm sz n];exact hjn)
      have hmod:(j-o*sz) % sz<sz:=Nat.mod_lt _ hT.pos;have hg:=flat_get hsr (i:=(j-o*sz) / sz) (e:=z) (by rw[List.getElem?_replicate,if_pos hq]) ((j-o*sz) % sz) hmod
      rw[Nat.mul_comm,Nat.div_add_mod] at hg;rw[hg] at hjd;obtain⟨x',hx2,hvc⟩:=hc.get _ _ hjd;rw[<- z1,List.getElem?_map,hzu] at hx2;simp only[Option.map_some,Option.some.injEq] at hx2;rw[<- hx2] at hvc;exact (hvc F u (GL F u)).1
   refine Nv (o:=⟨dst,.call { callee:=.builtin .clear,args:=#[x],argTypes:=#[t] },ty,pos,after,none⟩) (v:=.tuple #[]) rfl ?_ ⟨F,_,hr.qC hA hd (.jS (us:=[]) rfl λi c u h=>by simp at h),h⟩
   rw[hax];have e2:(zeroValue e).run P w=.ok zv w:=by simp[zeroValue,typeInfo,hi,hzv]
   obtain⟨m,rfl⟩:∃ m,n=m+1:=⟨n-1,by omega⟩
   simp[Builtin.clear_,run_underlying hT.u,e2,hst]

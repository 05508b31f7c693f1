/-
  Walks of package automaton: stable sorting of any number of arcs (printed by mk2.py).
-/
import Derived.Test.YteiohkpjgcioaaaGreatDoorKMod113
set_option maxHeartbeats 3200000
set_option linter.unusedVariables false
set_option linter.unusedSimpArgs false
namespace Go.Proofs.YteiohkpjgcioaaaGreatDoor
open Go Go.AL
theorem Jw {u:List aT}{i j:Nat}:((u.map iO).set i (iO (u.getD j default))).set j (iO (u.getD i default))=(G9 u i j).map iO:=by
 unfold G9;rw[List.map_set,List.map_set]
theorem Tc (u:List aT)(a:Nat):∀ n,(upG u a n).length=u.length
 | 0=>rfl
 | n+1=>by rw[upG,FB,Tc u a n]
theorem Td (u:List aT)(m:Nat):∀ n,(dnG u m n).length=u.length
 | 0=>rfl
 | n+1=>by rw[dnG,FB,Td u m n]
theorem QN (c:aT->aT->Bool)(a:Nat):∀ (j:Nat) (o:List aT),(Js c a j o).length=o.length
 | 0,o=>rfl
 | j+1,o=>by
  rw[Js]
  split
  .rw[QN c a j,FB]
  .rfl
theorem Jy (c:aT->aT->Bool)(a:Nat):∀ (k:Nat) (o:List aT),(Jt c a k o).length=o.length
 | 0,o=>rfl
 | k+1,o=>by rw[Jt,QN,Jy c a k]
theorem LQ (c:aT->aT->Bool):∀ (k:Nat) (o:List aT),(nM c k o).length=o.length
 | 0,o=>rfl
 | k+1,o=>by rw[nM,Jy,LQ c k]
theorem Jz (m:Nat):∀ (k i j:Nat) (o:List aT),(rotL m k i j o).length=o.length
 | 0,i,j,o=>rfl
 | k + 1, i, j, o => by
  rw[rotL]
  split
  .rw[Ar]
  .split
   .rw[Jz m k,Ar]
   .rw[Jz m k,Ar]
theorem JA (c:aT->aT->Bool):∀ (k:Nat) (o:List aT) (a m b:Nat),(wM c k o a m b).length=o.length
 | 0,o,a,m,b=>rfl
 | k + 1, o, a, m, b => by
  rw[wM]
  split
  .rw[Tc]
  .split
   .rw[Td]
   .simp only[]
    repeat (first|rw[JA c k]|rw[Jz]|rfl|split)
theorem Eh (c:aT->aT->Bool)(s n:Nat):∀ (k:Nat) (o:List aT),(qh c s n k o).length=o.length
 | 0,o=>rfl
 | k+1,o=>by rw[qh];rw[JA,Eh c s n k]
theorem ad3 (c:aT->aT->Bool)(s n:Nat)(o:List aT):(FI c n s o).length=o.length:=by
 unfold FI;simp only[]
 split
 .rw[JA,Eh]
 .rw[Eh]
theorem hkN {x y:aT}(h:(!decide (iH x y<0))=false):¬ (!uK x y)=true:=λe=>by
 have e:(!decide (iH x y<0))=true:=e;rw[e] at h;cases h
theorem hkT {x y:aT}(h:(!decide (iH x y<0))=true):(!uK x y)=true:=h
theorem OB {f:Nat->Bool}{k lo hi:Nat}(h:¬ lo<hi):Jq f k lo hi=lo:=by
 cases k with
 | zero=>rfl
 | succ k=>rw[Jq,if_neg h]
theorem XR {l:List aT}{b n c:Nat}(hl:l.length=n)(hN:n<=1000000){p q k:Nat}(hp:p+k<=n)(hq:q+k<=n):fV P F.jl [.bJ 1000 b n c,.d (dI p),.d (dI q),.d (dI k),.fn F.bK []] (mem1 1000 (rowA b c (l))) (.jM []) (mem1 1000 (rowA b c (Jp l p q k))):=by
 refine fV.intro fn.jl (by rfl) (by rfl) (au (by rfl)) λE hE=>(AW.sg hE rfl (ay rfl (OL.nil (AW.block ?_))))
 refine AW.aK (α:=Nat) [(0,_),(1,_),(2,_),(3,_)] [] (λi=>[(10,.d (dI i))]) (λi=>[(1000,rowA b c (Jp l p q i))]) (λi=>i<=k) (λi=>k-i) 0 (.cons (uH rfl) (.cons (bM rfl) (.cons (bM rfl) (.cons (bM rfl) .nil)))) .nil ⟨Nat.zero_le _,.bC,.cons rfl .nil⟩ ?_
 rintro i h1
 have h1:i<=k:=h1;have IE:=Ar l p q i;obtain⟨u,hu⟩:∃ u,u=Jp l p q i:=⟨_,rfl⟩;rw[<- hu] at IE ⊢;refine AW.seq (AW.sg hE rfl (ah rfl (ah rfl (aN rfl rfl rfl (OL.nil (AW.cond rfl (λh13=>?_) (λh13=>?_)))))))
 .try simp only[bY] at h13
  refine AW.skip (AW.seq (AW.block (AW.dg 1 [0,1,2,3,4,5,6,7,8,9,10,11,12,13,14,15,16,17,18,19,20,21,22,23] aj hE rfl (by kernel_rfl) (OI.aP (os:=[_,_,_,_,_,_,_,_,_,_,_,_,_,_,_,_,_,_,_,_,_,_,_,_]) rfl ?_))))
  refine fQ rfl (ah rfl (ah rfl (bo rfl rfl (dO (c:=((p+i:Nat):Int)) (by omega) (wrap_i64 (by omega))) (fQ rfl (ah rfl (ah rfl (bo rfl rfl (dO (c:=((q+i:Nat):Int)) (by omega) (wrap_i64 (by omega))) ?_)))))))
  refine fQ rfl (ah rfl (ah rfl (bo rfl rfl (dO (c:=((q+i:Nat):Int)) (by omega) (wrap_i64 (by omega))) (dV sl.cZ rfl rfl (by omega) (wS ag.mD (by decide) rfl rfl (iT (show q+i<(u).length by omega)) (vs:=gI ((u).getD (q+i) default)) rfl (au rfl) (fQ rfl (ah rfl ?_)))))))
  refine ah rfl (bo rfl rfl (dO (c:=((p+i:Nat):Int)) (by omega) (wrap_i64 (by omega))) (dV sl.cZ rfl rfl (by omega) (wS ag.mD (by decide) rfl rfl (iT (show p+i<(u).length by omega)) (vs:=gI ((u).getD (p+i) default)) rfl (au rfl) (dV sl.cZ rfl rfl (by omega) (AA sz.mD rfl (d:=iO ((u).getD (q+i) default)) tu rfl rfl (by rw[dF];omega) rfl (dV sl.cZ rfl rfl (by omega) (AA sz.mD rfl (d:=iO ((u).getD (p+i) default)) tu rfl rfl (by rw[List.length_set,dF];omega) Jw ?_)))))))
  exact OL.nil (AW.rg hE rfl (ah rfl (aB rfl rfl (by omega) (ay rfl (OL.nil (AW.again (x:=i) (i+1) (by omega) ⟨by omega,Knows.app .CZ .bC,.cons (by rw[Jp,<- hu];rfl) .nil⟩))))))
 .try simp only[bY] at h13
  refine AW.exit ?_;obtain rfl:i=k:=by omega
  rw[<- hu];exact⟨⟨_,.nil,_,.nil,rfl⟩,bH rfl⟩
theorem aL8 {l:List aT}{b n c:Nat}(hl:l.length=n)(hN:n<=1000000){p e:Nat}(hp:p<=e)(he:e<=n):fV P F.iE [.bJ 1000 b n c,.d (dI p),.d (dI e),.fn F.bK []] (mem1 1000 (rowA b c (l))) (.jM []) (mem1 1000 (rowA b c (Jt uK p (e-p-1) l))):=by
 refine fV.intro fn.iE (by rfl) (by rfl) (au (by rfl)) λE hE=>(AW.sg hE rfl (ah rfl (bo rfl rfl (dO (c:=((p+1:Nat):Int)) (by omega) (wrap_i64 (by omega))) (ay rfl (OL.nil (AW.block ?_))))))
 refine AW.aK (α:=Nat) [(0,_),(1,_),(2,_),(3,_)] [] (λi=>[(8,.d (dI (p+i:Nat)))]) (λi=>[(1000,rowA b c (Jt uK p (i-1) l))]) (λi=>1<=i/\(i=1 \/ p+i<=e)) (λi=>e-p-i) 1 (.cons (uH rfl) (.cons (bM rfl) (.cons (bM rfl) (.cons (EM rfl) .nil)))) .nil ⟨⟨Nat.le_refl _,.inl rfl⟩,.bC,.cons rfl .nil⟩ ?_
 rintro i ⟨h1,h2⟩
 have h1:1<=i:=h1;have h2:i=1 \/ p+i<=e:=h2;refine AW.seq (AW.sg hE rfl (ah rfl (ah rfl (aN rfl rfl rfl (OL.nil (AW.cond rfl (λAO=>?_) (λAO=>?_)))))))
 .try simp only[bY] at AO
  refine AW.skip (AW.AP (α:=Unit) [(0,_),(1,_),(2,_),(3,_),(8,_)] [] (λ_u=>[]) (λ_u=>[(1000,rowA b c (Jt uK p i l))]) (λ_u=>True) (.cons (uH rfl) (.cons (bM rfl) (.cons (bM rfl) (.cons (EM rfl) (.cons (bM rfl) .nil))))) .nil ?_ ?_)
  .refine AW.block (AW.sg hE rfl (ah rfl (ay rfl (OL.nil (AW.block ?_)))));refine AW.aK (α:=Nat × List aT) [(0,_),(1,_),(2,_),(3,_),(8,_)] [] (λ(j,u)=>[(9,.d (dI (p+j:Nat)))]) (λ(j,u)=>[(1000,rowA b c (u))]) (λ(j,u)=>j<=i/\u.length=n/\Js uK p j u=Jt uK p i l) (λ(j,u)=>j) (i,Jt uK p (i-1) l) (.cons (uH rfl) (.cons (bM rfl) (.cons (bM rfl) (.cons (EM rfl) (.cons (bM rfl) .nil))))) .nil ⟨⟨Nat.le_refl _,by rw[Jy];exact hl,by obtain⟨q,rfl⟩:∃ q,i=q+1:=⟨i-1,by omega⟩;rfl⟩,.bC,.cons rfl .nil⟩ ?_
   rintro⟨j,u⟩ ⟨h3,IE,hs⟩
   have h3:j<=i:=h3;have IE:u.length=n:=IE;refine AW.seq (AW.seq (AW.dg 1 [0,1,2,3,4,5,6,7,8,9,10,11,12,13,14,15,16] aj hE rfl (by kernel_rfl) (OI.aP (os:=[_,_,_,_,_,_,_,_,_,_,_,_,_,_,_,_,_]) rfl ?_)))
   refine ah rfl (ah rfl (iI rfl rfl rfl (OL.split 20 rfl (λhj=>?_) (λhj=>?_))))
   .have hj:0<j:=by have:=jC hj;omega
    obtain⟨j,rfl⟩:∃ q,j=q+1:=⟨j-1,by omega⟩
    refine ah rfl (OL.yes rfl (EL rfl (OL.yes rfl (fQ rfl (OL.yes rfl (ah rfl (OL.yes rfl ?_)))))));refine dV sl.cZ rfl rfl (by omega) (OL.yes rfl (wS ag.mD (by decide) rfl rfl (iT (show p+j+1<(u).length by omega)) (vs:=gI ((u).getD (p+j+1) default)) rfl (au rfl) (OL.yes rfl (fQ rfl (OL.yes rfl (ah rfl (OL.yes rfl ?_)))))))
    refine bo rfl rfl (dK (c:=((p+(j+1)-1:Nat):Int)) (by omega) (wrap_i64 (by omega))) (OL.yes rfl (dV sl.cZ rfl rfl (by omega) (OL.yes rfl (wS ag.mD (by decide) rfl rfl (iT (show p+j<(u).length by omega)) (vs:=gI ((u).getD (p+j) default)) rfl (au rfl) (OL.yes rfl (aY rfl vL (Ot (x:=u.getD (p+j+1) default) (y:=u.getD (p+j) default)) (OL.yes rfl ?_)))))))
    refine aN rfl rfl rfl (iV rfl rfl (OL.nil (AW.cond rfl (λhk=>?_) (λhk=>?_))))
    .have hk:uK (u.getD (p+j+1) default) (u.getD (p+j) default)=true:=hk;refine AW.skip (AW.seq (AW.block (AW.dg 1 [0,1,2,3,4,5,6,7,8,9,10,11,12,13,14,15,16,17] aj hE rfl (by kernel_rfl) (OI.aP (os:=[_,_,_,_,_,_,_,_,_,_,_,_,_,_,_,_,_,_]) rfl ?_))))
     refine fQ rfl (ah rfl (fQ rfl (ah rfl (bo rfl rfl (dK (c:=((p+(j+1)-1:Nat):Int)) (by omega) (wrap_i64 (by omega))) (fQ rfl (ah rfl (bo rfl rfl (dK (c:=((p+(j+1)-1:Nat):Int)) (by omega) (wrap_i64 (by omega))) ?_)))))))
     refine dV sl.cZ rfl rfl (by omega) (wS ag.mD (by decide) rfl rfl (iT (show p+j<(u).length by omega)) (vs:=gI ((u).getD (p+j) default)) rfl (au rfl) (fQ rfl (ah rfl (dV sl.cZ rfl rfl (by omega) (wS ag.mD (by decide) rfl rfl (iT (show p+j+1<(u).length by omega)) (vs:=gI ((u).getD (p+j+1) default)) rfl (au rfl) (dV sl.cZ rfl rfl (by omega) (AA sz.mD rfl (d:=iO ((u).getD (p+j) default)) tu rfl rfl (by rw[dF];omega) rfl ?_)))))))
     refine dV sl.cZ rfl rfl (by omega) (AA sz.mD rfl (d:=iO ((u).getD (p+j+1) default)) tu rfl rfl (by rw[List.length_set,dF];omega) Jw (OL.nil (AW.rg hE rfl (ah rfl (bo rfl rfl (dK (c:=((p+(j+1)-1:Nat):Int)) (by omega) (wrap_i64 (by omega))) (ay rfl (OL.nil ?_)))))))
     exact AW.again (x:=(j+1,u)) (j,G9 u (p+j+1) (p+j)) (by (simp only[];omega)) ⟨⟨by omega,by rw[FB];exact IE,by rw[<- hs,Js,if_pos hk]⟩,Knows.app .y9 .bC,.cons rfl .nil⟩
    .have hk:¬ uK (u.getD (p+j+1) default) (u.getD (p+j) default)=true:=λe=>kK hk (jC e);exact AW.exit (AW.reach () ⟨trivial,Knows.app .y9 (.nil),.cons (by rw[<- hs,Js,if_neg hk];rfl) .nil⟩)
   .have hj:¬ 0<j:=by have:=kK hj;omega
    refine ah rfl (OL.nd rfl (OL.nd rfl (OL.nd rfl (OL.nd rfl (OL.nd rfl (OL.nd rfl (OL.nd rfl ?_)))))));refine OL.nd rfl (OL.nd rfl (OL.nd rfl (OL.nd rfl (OL.nd rfl (eG rfl rfl (OL.nil (jD rfl ?_)))))));exact AW.exit (AW.reach () ⟨trivial,Knows.app .y9 (.nil),.cons (by obtain rfl:j=0:=(by omega);rw[<- hs];rfl) .nil⟩)
  rintro⟨⟩ hφ
  exact AW.rg hE rfl (ah rfl (bo rfl rfl (dO (c:=((p+i+1:Nat):Int)) (by omega) (wrap_i64 (by omega))) (ay rfl (OL.nil (AW.again (x:=i) (i+1) (by omega) ⟨⟨by omega,by omega⟩,Knows.app .CZ .bC,.cons (by rw[Nat.add_sub_cancel];rfl) .nil⟩)))))
 .try simp only[bY] at AO
  refine AW.exit ?_;rw[show e-p-1=i-1 by omega]
  exact⟨⟨_,.nil,_,.nil,rfl⟩,bH rfl⟩
theorem bj6 {l:List aT}{b n c:Nat}(hl:l.length=n)(hN:n<=1000000){p m e:Nat}(h1:p<m)(h2:m<e)(h3:e<=n):fV P F.jY [.bJ 1000 b n c,.d (dI p),.d (dI m),.d (dI e),.fn F.bK []] (mem1 1000 (rowA b c (l))) (.jM []) (mem1 1000 (rowA b c (rotL m (e-p) (m-p) (e-m) l))):=by
 refine fV.intro fn.jY (by rfl) (by rfl) (au (by rfl)) λE hE=>(AW.sg hE rfl (ah rfl (ah rfl (bo rfl rfl (dK (c:=((m-p:Nat):Int)) (by omega) (wrap_i64 (by omega))) (ay rfl (OL.nil (AW.sg hE rfl ?_)))))))
 refine ah rfl (ah rfl (bo rfl rfl (dK (c:=((e-m:Nat):Int)) (by omega) (wrap_i64 (by omega))) (ay rfl (OL.nil (AW.seq (AW.block ?_))))))
 refine AW.aK (α:=Nat × Nat × Nat × List aT) [(0,_),(2,_),(4,_)] [] (λ(k,i,j,u)=>[(10,.d (dI i)),(11,.d (dI j))]) (λ(k,i,j,u)=>[(1000,rowA b c (u))]) (λ(k,i,j,u)=>(0<i/\0<j/\i+j<=k)/\(i<=m/\m+j<=n)/\u.length=n/\rotL m k i j u=rotL m (e-p) (m-p) (e-m) l) (λ(k,i,j,u)=>k) (e-p,m-p,e-m,l) (.cons (uH rfl) (.cons (bM rfl) (.cons (EM rfl) .nil))) .nil ⟨⟨⟨by omega,by omega,by omega⟩,⟨by omega,by omega⟩,hl,rfl⟩,.dR,.cons rfl .nil⟩ ?_
 rintro⟨k,i,j,u⟩ ⟨⟨g1,g2,g3⟩,⟨g4,g5⟩,IE,hs⟩
 have g1:0<i:=g1;have g2:0<j:=g2;have g3:i+j<=k:=g3;have g4:i<=m:=g4;have g5:m+j<=n:=g5;have IE:u.length=n:=IE;obtain⟨k,rfl⟩:∃ q,k=q+1:=⟨k-1,by omega⟩
 refine AW.seq (AW.sg hE rfl (ah rfl (ah rfl (bU rfl rfl rfl (OL.nil (AW.cond rfl (λhn=>?_) (λhn=>?_)))))))
 .have hn:i≠j:=by have:=L6 hn;omega
  refine AW.skip (AW.block (AW.sg hE rfl (ah rfl (ah rfl (iI rfl rfl rfl (OL.nil (AW.cond rfl (λhk=>?_) (λhk=>?_))))))))
  .have hk:j<i:=by have:=jC hk;omega
   refine AW.sg hE rfl (fQ rfl (ah rfl (ah rfl (bo rfl rfl (dK (c:=((m-i:Nat):Int)) (by omega) (wrap_i64 (by omega))) (ah rfl (ah rfl (EL rfl ?_)))))))
   refine OL.qo (v:=.jM []) (.mk (args':=[.bJ 1000 b n c,.d (dI (m-i:Nat)),.d (dI m),.d (dI j),.fn F.bK []]) rfl (.cons vR (.cons (aZ.int (by omega)) (.cons (aZ.int (by omega)) (.cons (aZ.int (by omega)) .bC)))) (bH (id:=1000) (blk:=rowA b c (u)) rfl) gy (XR (l:=u) (p:=m-i) (q:=m) (k:=j) IE hN (by omega) (by omega))) ?_
   refine OL.nil (AW.rg hE rfl (ah rfl (ah rfl (bo rfl rfl (dK (c:=((i-j:Nat):Int)) (by omega) (wrap_i64 (by omega))) (ay rfl (OL.nil ?_))))))
   exact AW.again (x:=(k+1,i,j,u)) (k,i-j,j,Jp u (m-i) m j) (by (simp only[];omega)) ⟨⟨⟨by omega,by omega,by omega⟩,⟨by omega,by omega⟩,by rw[Ar];exact IE,by rw[<- hs,rotL,if_neg (by omega),if_pos hk]⟩,Knows.app .wL .dR,.cons rfl .nil⟩
  .have hk:¬ j<i:=by have:=kK hk;omega
   refine AW.sg hE rfl (fQ rfl (ah rfl (ah rfl (bo rfl rfl (dK (c:=((m-i:Nat):Int)) (by omega) (wrap_i64 (by omega))) (ah rfl (ah rfl (bo rfl rfl (dO (c:=((m+j:Nat):Int)) (by omega) (wrap_i64 (by omega))) ?_)))))))
   refine ah rfl (bo rfl rfl (dK (c:=((m+j-i:Nat):Int)) (by omega) (wrap_i64 (by omega))) (ah rfl (EL rfl ?_)))
   refine OL.qo (v:=.jM []) (.mk (args':=[.bJ 1000 b n c,.d (dI (m-i:Nat)),.d (dI (m+j-i:Nat)),.d (dI i),.fn F.bK []]) rfl (.cons vR (.cons (aZ.int (by omega)) (.cons (aZ.int (by omega)) (.cons (aZ.int (by omega)) .bC)))) (bH (id:=1000) (blk:=rowA b c (u)) rfl) gy (XR (l:=u) (p:=m-i) (q:=m+j-i) (k:=i) IE hN (by omega) (by omega))) ?_
   refine OL.nil (AW.rg hE rfl (ah rfl (ah rfl (bo rfl rfl (dK (c:=((j-i:Nat):Int)) (by omega) (wrap_i64 (by omega))) (ay rfl (OL.nil ?_))))))
   exact AW.again (x:=(k+1,i,j,u)) (k,i,j-i,Jp u (m-i) (m+j-i) i) (by (simp only[];omega)) ⟨⟨⟨by omega,by omega,by omega⟩,⟨by omega,by omega⟩,by rw[Ar];exact IE,by rw[<- hs,rotL,if_neg (by omega),if_neg hk]⟩,Knows.app .wL .dR,.cons rfl .nil⟩
 .have hn:i=j:=by have:=J3 hn;omega
  refine AW.exit (AW.rg hE rfl (fQ rfl (ah rfl (ah rfl (bo rfl rfl (dK (c:=((m-i:Nat):Int)) (by omega) (wrap_i64 (by omega))) (ah rfl (ah rfl ?_)))))))
  refine EL rfl ?_;refine OL.qo (v:=.jM []) (.mk (args':=[.bJ 1000 b n c,.d (dI (m-i:Nat)),.d (dI m),.d (dI i),.fn F.bK []]) rfl (.cons vR (.cons (aZ.int (by omega)) (.cons (aZ.int (by omega)) (.cons (aZ.int (by omega)) .bC)))) (bH (id:=1000) (blk:=rowA b c (u)) rfl) gy (XR (l:=u) (p:=m-i) (q:=m) (k:=i) IE hN (by omega) (by omega))) ?_
  refine OL.nil ?_;rw[<- hs,rotL,if_pos hn];exact⟨⟨_,.nil,_,.nil,rfl⟩,bH rfl⟩
set_option maxRecDepth 4000 in
theorem a99 {k : Nat} (ih : ∀ {l : List aT} {b n c : Nat} (hl : l.length = n) (hN : n <= 1000000) {p m e : Nat} (h1 : p < m) (h2 : m < e) (h3 : e <= n) (hk : e - p <= k), fV P F.fJ [.bJ 1000 b n c, .d (dI p), .d (dI m), .d (dI e), .fn F.bK []] (mem1 1000 (rowA b c (l))) (.jM []) (mem1 1000 (rowA b c (wM uK k l p m e)))) {l : List aT} {b n c : Nat} (hl : l.length = n) (hN : n <= 1000000) {p m e : Nat} (h1 : p < m) (h2 : m < e) (h3 : e <= n) (hk : e - p <= k + 1) : fV P F.fJ [.bJ 1000 b n c, .d (dI p), .d (dI m), .d (dI e), .fn F.bK []] (mem1 1000 (rowA b c (l))) (.jM []) (mem1 1000 (rowA b c (wM uK (k + 1) l p m e))) := by
 refine fV.intro fn.fJ (by rfl) (by rfl) (au (by rfl)) λE hE=>(AW.seq (AW.sg hE rfl (ah rfl (ah rfl (bo rfl rfl (dK (c:=((m-p:Nat):Int)) (by omega) (wrap_i64 (by omega))) (dm rfl rfl rfl (OL.nil ?_)))))))
 refine AW.cond rfl (λhm1=>?_) (λhm1=>?_)
 .have hm1:m-p=1:=by have:=jC hm1;omega
  refine AW.sg hE rfl (ah rfl (ay rfl (OL.nil (AW.sg hE rfl (ah rfl (ay rfl (OL.nil ?_)))))));refine AW.seq (AW.block ?_);refine AW.aK (α:=Nat × Nat × Nat) [(0,_),(1,_),(2,_),(3,_),(4,_)] [] (λ(q,lo,hi)=>[(10,.d (dI lo)),(11,.d (dI hi))]) (λ(q,lo,hi)=>[(1000,rowA b c (l))]) (λ(q,lo,hi)=>(m<=lo/\lo<=hi/\hi<=e/\hi-lo<=q)/\Jq (λh=>uK (l.getD h default) (l.getD p default)) q lo hi=Jq (λh=>uK (l.getD h default) (l.getD p default)) (e-m) m e) (λ(q,lo,hi)=>q) ((e-m),m,e) (.cons (uH rfl) (.cons (bM rfl) (.cons (bM rfl) (.cons (bM rfl) (.cons (EM rfl) .nil))))) .nil ⟨⟨⟨by omega,by omega,by omega,by omega⟩,rfl⟩,.dR,.cons rfl .nil⟩ ?_
  rintro⟨q,lo,hi⟩ ⟨⟨g1,g2,g3,g4⟩,hs⟩
  have g1:m<=lo:=g1;have g2:lo<=hi:=g2;have g3:hi<=e:=g3;have g4:hi-lo<=q:=g4;refine AW.seq (AW.sg hE rfl (ah rfl (ah rfl (aN rfl rfl rfl (OL.nil (AW.cond rfl (λhlh=>?_) (λhlh=>?_)))))))
  .have hlh:lo<hi:=by have:=jC hlh;omega
   obtain⟨q,rfl⟩:∃ w,q=w+1:=⟨q-1,by omega⟩
   refine AW.skip (AW.block (AW.sg hE rfl (ah rfl (ah rfl (bo rfl rfl (dO (c:=((lo+hi:Nat):Int)) (by omega) (wrap_i64 (by omega))) (cv it.int it.uint rfl (wrap_u64 (by omega)) (RD rfl rfl ⟨by decide,by decide⟩ (c:=(((lo+hi) / 2:Nat):Int)) (by show (((lo+hi:Nat):Int)) / 2=_;omega) ?_)))))))
   refine cv it.uint it.int rfl (wrap_i64 (by omega)) (ay rfl (OL.nil (AW.seq (AW.dg 1 [0,1,2,3,4,5,6,7,8,9,10] aj hE rfl (by kernel_rfl) (OI.aP (os:=[_,_,_,_,_,_,_,_,_,_,_]) rfl ?_)))))
   refine EL rfl (fQ rfl (ah rfl (dV sl.cZ rfl rfl (by omega) (wS ag.mD (by decide) rfl rfl (iT (show (lo+hi) / 2<(l).length by omega)) (vs:=gI ((l).getD ((lo+hi) / 2) default)) rfl (au rfl) (fQ rfl (ah rfl (dV sl.cZ rfl rfl (by omega) ?_)))))))
   refine wS ag.mD (by decide) rfl rfl (iT (show p<(l).length by omega)) (vs:=gI ((l).getD (p) default)) rfl (au rfl) (aY rfl vL (Ot (x:=l.getD ((lo+hi) / 2) default) (y:=l.getD p default)) (aN rfl rfl rfl (OL.nil (AW.cond rfl (λhk=>?_) (λhk=>?_)))))
   .have hk:uK (l.getD ((lo+hi) / 2) default) (l.getD p default)=true:=hk;refine AW.rg hE rfl (ah rfl (bo rfl rfl (dO (c:=(((lo+hi) / 2+1:Nat):Int)) (by omega) (wrap_i64 (by omega))) (ay rfl (OL.nil ?_))))
    exact AW.again (x:=(q+1,lo,hi)) (q,(lo+hi) / 2+1,hi) (by (simp only[];omega)) ⟨⟨⟨by omega,by omega,by omega,by omega⟩,by rw[<- hs,Jq,if_pos hlh,if_pos hk]⟩,Knows.app .y9 .dR,.cons rfl .nil⟩
   .have hk:¬ uK (l.getD ((lo+hi) / 2) default) (l.getD p default)=true:=λe=>kK hk (jC e);refine AW.rg hE rfl (ah rfl (ay rfl (OL.nil ?_)));exact AW.again (x:=(q+1,lo,hi)) (q,lo,(lo+hi) / 2) (by (simp only[];omega)) ⟨⟨⟨by omega,by omega,by omega,by omega⟩,by rw[<- hs,Jq,if_pos hlh,if_neg hk]⟩,Knows.app .y9 .dR,.cons rfl .nil⟩
  .have hlh:¬ lo<hi:=by have:=kK hlh;omega
   rw[OB hlh] at hs;refine AW.exit (AW.seq (AW.sg hE rfl (ah rfl (ay rfl (OL.nil (AW.block ?_))))));refine AW.aK (α:=Nat) [(0,_),(1,_),(2,_),(3,_),(4,_),(10,_)] [] (λd=>[(13,.d (dI (p+d:Nat)))]) (λd=>[(1000,rowA b c (upG l p d))]) (λd=>d<=lo-1-p) (λd=>lo-p-d) 0 (.cons (uH rfl) (.cons (bM rfl) (.cons (bM rfl) (.cons (bM rfl) (.cons (EM rfl) (.cons (bM rfl) .nil)))))) .nil ⟨Nat.zero_le _,.bC,.cons rfl .nil⟩ ?_
   rintro d h4
   have h4:d<=lo-1-p:=h4;have IE:=Tc l p d;obtain⟨u,hu⟩:∃ u,u=upG l p d:=⟨_,rfl⟩;rw[<- hu] at IE ⊢;refine AW.seq (AW.sg hE rfl (ah rfl (ah rfl (bo rfl rfl (dK (c:=((lo-1:Nat):Int)) (by omega) (wrap_i64 (by omega))) (aN rfl rfl rfl (OL.nil (AW.cond rfl (λh58=>?_) (λh58=>?_))))))))
   .try simp only[bY] at h58
    refine AW.skip (AW.seq (AW.block (AW.dg 1 [0,1,2,3,4,5,6,7,8,9,10,11,12,13,14,15,16,17] aj hE rfl (by kernel_rfl) (OI.aP (os:=[_,_,_,_,_,_,_,_,_,_,_,_,_,_,_,_,_,_]) rfl ?_))))
    refine fQ rfl (ah rfl (fQ rfl (ah rfl (bo rfl rfl (dO (c:=((p+d+1:Nat):Int)) (by omega) (wrap_i64 (by omega))) (fQ rfl (ah rfl (bo rfl rfl (dO (c:=((p+d+1:Nat):Int)) (by omega) (wrap_i64 (by omega))) ?_)))))))
    refine dV sl.cZ rfl rfl (by omega) (wS ag.mD (by decide) rfl rfl (iT (show p+d+1<(u).length by omega)) (vs:=gI ((u).getD (p+d+1) default)) rfl (au rfl) (fQ rfl (ah rfl (dV sl.cZ rfl rfl (by omega) (wS ag.mD (by decide) rfl rfl (iT (show p+d<(u).length by omega)) (vs:=gI ((u).getD (p+d) default)) rfl (au rfl) (dV sl.cZ rfl rfl (by omega) (AA sz.mD rfl (d:=iO ((u).getD (p+d+1) default)) tu rfl rfl (by rw[dF];omega) rfl ?_)))))))
    refine dV sl.cZ rfl rfl (by omega) (AA sz.mD rfl (d:=iO ((u).getD (p+d) default)) tu rfl rfl (by rw[List.length_set,dF];omega) Jw (OL.nil (AW.rg hE rfl (ah rfl (bo rfl rfl (dO (c:=((p+d+1:Nat):Int)) (by omega) (wrap_i64 (by omega))) (ay rfl (OL.nil ?_)))))))
    exact AW.again (x:=d) (d+1) (by omega) ⟨by omega,Knows.app .Lj .bC,.cons (by rw[upG,<- hu];rfl) .nil⟩
   .try simp only[bY] at h58
    refine AW.exit ?_;have hfin:wM uK (k+1) l p m e=u:=by rw[wM,if_pos hm1,<- hs,hu,show lo-1-p=d by omega]
    rw[hfin];exact AW.ret ⟨⟨_,.nil,_,.nil,rfl⟩,bH rfl⟩
 .have hm1 : ¬ m - p = 1 := by have := kK hm1; omega
  refine AW.skip (AW.seq (AW.sg hE rfl (ah rfl (ah rfl (bo rfl rfl (dK (c:=((e-m:Nat):Int)) (by omega) (wrap_i64 (by omega))) (dm rfl rfl rfl (OL.nil ?_)))))))
  refine AW.cond rfl (λhm2=>?_) (λhm2=>?_)
  .have hm2:e-m=1:=by have:=jC hm2;omega
   refine AW.sg hE rfl (ah rfl (ay rfl (OL.nil (AW.sg hE rfl (ah rfl (ay rfl (OL.nil ?_)))))));refine AW.seq (AW.block ?_);refine AW.aK (α:=Nat × Nat × Nat) [(0,_),(1,_),(2,_),(3,_),(4,_)] [] (λ(q,lo,hi)=>[(14,.d (dI lo)),(15,.d (dI hi))]) (λ(q,lo,hi)=>[(1000,rowA b c (l))]) (λ(q,lo,hi)=>(p<=lo/\lo<=hi/\hi<=m/\hi-lo<=q)/\Jq (λh=>!uK (l.getD m default) (l.getD h default)) q lo hi=Jq (λh=>!uK (l.getD m default) (l.getD h default)) (m-p) p m) (λ(q,lo,hi)=>q) ((m-p),p,m) (.cons (uH rfl) (.cons (bM rfl) (.cons (bM rfl) (.cons (bM rfl) (.cons (EM rfl) .nil))))) .nil ⟨⟨⟨by omega,by omega,by omega,by omega⟩,rfl⟩,.dR,.cons rfl .nil⟩ ?_
   rintro⟨q,lo,hi⟩ ⟨⟨g1,g2,g3,g4⟩,hs⟩
   have g1:p<=lo:=g1;have g2:lo<=hi:=g2;have g3:hi<=m:=g3;have g4:hi-lo<=q:=g4;refine AW.seq (AW.sg hE rfl (ah rfl (ah rfl (aN rfl rfl rfl (OL.nil (AW.cond rfl (λhlh=>?_) (λhlh=>?_)))))))
   .have hlh:lo<hi:=by have:=jC hlh;omega
    obtain⟨q,rfl⟩:∃ w,q=w+1:=⟨q-1,by omega⟩
    refine AW.skip (AW.block (AW.sg hE rfl (ah rfl (ah rfl (bo rfl rfl (dO (c:=((lo+hi:Nat):Int)) (by omega) (wrap_i64 (by omega))) (cv it.int it.uint rfl (wrap_u64 (by omega)) (RD rfl rfl ⟨by decide,by decide⟩ (c:=(((lo+hi) / 2:Nat):Int)) (by show (((lo+hi:Nat):Int)) / 2=_;omega) ?_)))))))
    refine cv it.uint it.int rfl (wrap_i64 (by omega)) (ay rfl (OL.nil (AW.seq (AW.dg 1 [0,1,2,3,4,5,6,7,8,9,10,11] aj hE rfl (by kernel_rfl) (OI.aP (os:=[_,_,_,_,_,_,_,_,_,_,_,_]) rfl ?_)))))
    refine EL rfl (fQ rfl (ah rfl (dV sl.cZ rfl rfl (by omega) (wS ag.mD (by decide) rfl rfl (iT (show m<(l).length by omega)) (vs:=gI ((l).getD (m) default)) rfl (au rfl) (fQ rfl (ah rfl (dV sl.cZ rfl rfl (by omega) ?_)))))))
    refine wS ag.mD (by decide) rfl rfl (iT (show (lo+hi) / 2<(l).length by omega)) (vs:=gI ((l).getD ((lo+hi) / 2) default)) rfl (au rfl) (aY rfl vL (Ot (x:=l.getD m default) (y:=l.getD ((lo+hi) / 2) default)) (aN rfl rfl rfl (nt rfl (OL.nil (AW.cond rfl (λhk=>?_) (λhk=>?_))))))
    .have hk:=hkT hk;refine AW.rg hE rfl (ah rfl (bo rfl rfl (dO (c:=(((lo+hi) / 2+1:Nat):Int)) (by omega) (wrap_i64 (by omega))) (ay rfl (OL.nil ?_))))
     exact AW.again (x:=(q+1,lo,hi)) (q,(lo+hi) / 2+1,hi) (by (simp only[];omega)) ⟨⟨⟨by omega,by omega,by omega,by omega⟩,by rw[<- hs,Jq,if_pos hlh,if_pos hk]⟩,Knows.app .y9 .dR,.cons rfl .nil⟩
    .have hk:=hkN hk;refine AW.rg hE rfl (ah rfl (ay rfl (OL.nil ?_)));exact AW.again (x:=(q+1,lo,hi)) (q,lo,(lo+hi) / 2) (by (simp only[];omega)) ⟨⟨⟨by omega,by omega,by omega,by omega⟩,by rw[<- hs,Jq,if_pos hlh,if_neg hk]⟩,Knows.app .y9 .dR,.cons rfl .nil⟩
   .have hlh:¬ lo<hi:=by have:=kK hlh;omega
    rw[OB hlh] at hs;refine AW.exit (AW.seq (AW.sg hE rfl (ah rfl (ay rfl (OL.nil (AW.block ?_))))));refine AW.aK (α:=Nat) [(0,_),(1,_),(2,_),(3,_),(4,_),(14,_)] [] (λd=>[(17,.d (dI (m-d:Nat)))]) (λd=>[(1000,rowA b c (dnG l m d))]) (λd=>d<=m-lo) (λd=>m-d) 0 (.cons (uH rfl) (.cons (bM rfl) (.cons (bM rfl) (.cons (bM rfl) (.cons (EM rfl) (.cons (bM rfl) .nil)))))) .nil ⟨Nat.zero_le _,.bC,.cons rfl .nil⟩ ?_
    rintro d h4
    have h4:d<=m-lo:=h4;have IE:=Td l m d;obtain⟨u,hu⟩:∃ u,u=dnG l m d:=⟨_,rfl⟩;rw[<- hu] at IE ⊢;refine AW.seq (AW.sg hE rfl (ah rfl (ah rfl (iI rfl rfl rfl (OL.nil (AW.cond rfl (λaR5=>?_) (λaR5=>?_)))))))
    .try simp only[bY] at aR5
     refine AW.skip (AW.seq (AW.block (AW.dg 1 [0,1,2,3,4,5,6,7,8,9,10,11,12,13,14,15,16,17] aj hE rfl (by kernel_rfl) (OI.aP (os:=[_,_,_,_,_,_,_,_,_,_,_,_,_,_,_,_,_,_]) rfl ?_))))
     refine fQ rfl (ah rfl (fQ rfl (ah rfl (bo rfl rfl (dK (c:=((m-d-1:Nat):Int)) (by omega) (wrap_i64 (by omega))) (fQ rfl (ah rfl (bo rfl rfl (dK (c:=((m-d-1:Nat):Int)) (by omega) (wrap_i64 (by omega))) ?_)))))))
     refine dV sl.cZ rfl rfl (by omega) (wS ag.mD (by decide) rfl rfl (iT (show m-d-1<(u).length by omega)) (vs:=gI ((u).getD (m-d-1) default)) rfl (au rfl) (fQ rfl (ah rfl (dV sl.cZ rfl rfl (by omega) (wS ag.mD (by decide) rfl rfl (iT (show m-d<(u).length by omega)) (vs:=gI ((u).getD (m-d) default)) rfl (au rfl) (dV sl.cZ rfl rfl (by omega) (AA sz.mD rfl (d:=iO ((u).getD (m-d-1) default)) tu rfl rfl (by rw[dF];omega) rfl ?_)))))))
     refine dV sl.cZ rfl rfl (by omega) (AA sz.mD rfl (d:=iO ((u).getD (m-d) default)) tu rfl rfl (by rw[List.length_set,dF];omega) Jw (OL.nil (AW.rg hE rfl (ah rfl (bo rfl rfl (dK (c:=((m-d-1:Nat):Int)) (by omega) (wrap_i64 (by omega))) (ay rfl (OL.nil ?_)))))))
     exact AW.again (x:=d) (d+1) (by omega) ⟨by omega,Knows.app .Lj .bC,.cons (by rw[dnG,<- hu];rfl) .nil⟩
    .try simp only[bY] at aR5
     refine AW.exit ?_;have hfin:wM uK (k+1) l p m e=u:=by rw[wM,if_neg hm1,if_pos hm2,<- hs,hu,show m-lo=d by omega]
     rw[hfin];exact AW.ret ⟨⟨_,.nil,_,.nil,rfl⟩,bH rfl⟩
  .have hm2 : ¬ e - m = 1 := by have := kK hm2; omega
   refine AW.skip (AW.sg hE rfl (ah rfl (ah rfl (bo rfl rfl (dO (c:=((p+e:Nat):Int)) (by omega) (wrap_i64 (by omega))) (cv it.int it.uint rfl (wrap_u64 (by omega)) (RD rfl rfl ⟨by decide,by decide⟩ (c:=(((p+e) / 2:Nat):Int)) (by show (((p+e:Nat):Int)) / 2=_;omega) (cv it.uint it.int rfl (wrap_i64 (by omega)) ?_)))))))
   refine ay rfl (OL.nil (AW.sg hE rfl (ah rfl (ah rfl (bo rfl rfl (dO (c:=((((p+e) / 2)+m:Nat):Int)) (by omega) (wrap_i64 (by omega))) (ay rfl (OL.nil ?_)))))))
   refine AW.sg hE rfl (ay rfl (ay rfl (OL.nil ?_)));refine AW.AP (α:=Nat × Nat) [(0,_),(1,_),(2,_),(3,_),(4,_),(18,_),(19,_)] [(1000,_)] (λ(Ud,hi0)=>[(20,.d (dI Ud)),(21,.d (dI hi0))]) (λ(Ud,hi0)=>[]) (λ(Ud,hi0)=>(p<=Ud/\Ud<=hi0/\hi0<=m/\hi0<=((p+e) / 2)/\(((p+e) / 2)+m)<=e+Ud)/\(Ud=if ((p+e) / 2)<m then (((p+e) / 2)+m)-e else p)/\(hi0=if ((p+e) / 2)<m then ((p+e) / 2) else m)) (.cons (uH rfl) (.cons (bM rfl) (.cons (bM rfl) (.cons (bM rfl) (.cons (EM rfl) (.cons (bM rfl) (.cons (bM rfl) .nil))))))) (.cons (rH rfl) .nil) ?_ ?_
   .refine AW.sg hE rfl (ah rfl (ah rfl (iI rfl rfl rfl (OL.nil (AW.cond rfl (λhmm=>?_) (λhmm=>?_))))))
    .have hmm:((p+e) / 2)<m:=by have:=jC hmm;omega
     refine AW.sg hE rfl (ah rfl (ah rfl (bo rfl rfl (dK (c:=(((((p+e) / 2)+m)-e:Nat):Int)) (by omega) (wrap_i64 (by omega))) (ay rfl (OL.nil (AW.rg hE rfl (ah rfl ?_)))))))
     refine ay rfl (OL.nil ?_);exact AW.reach ((((p+e) / 2)+m)-e,((p+e) / 2)) ⟨⟨⟨by omega,by omega,by omega,by omega,by omega⟩,(if_pos hmm).symm,(if_pos hmm).symm⟩,Knows.app .Nw .dR,bn.app (.cons rfl .nil) (.nil)⟩
    .have hmm:¬ ((p+e) / 2)<m:=by have:=kK hmm;omega
     refine AW.sg hE rfl (ah rfl (ay rfl (OL.nil (AW.rg hE rfl (ah rfl (ay rfl (OL.nil ?_)))))));exact AW.reach (p,m) ⟨⟨⟨by omega,by omega,by omega,by omega,by omega⟩,(if_neg hmm).symm,(if_neg hmm).symm⟩,Knows.app .Nw .dR,bn.app (.cons rfl .nil) (.nil)⟩
   rintro⟨Ud,hi0⟩ ⟨⟨f1,f2,f3,f4,f5⟩,hlo,hhi⟩
   have f1:p<=Ud:=f1;have f2:Ud<=hi0:=f2;have f3:hi0<=m:=f3;have f4:hi0<=((p+e) / 2):=f4;have f5:(((p+e) / 2)+m)<=e+Ud:=f5;have hlo:Ud=if ((p+e) / 2)<m then (((p+e) / 2)+m)-e else p:=hlo
   have hhi:hi0=if ((p+e) / 2)<m then ((p+e) / 2) else m:=hhi
   refine AW.sg hE rfl (ah rfl (bo rfl rfl (dK (c:=(((((p+e) / 2)+m)-1:Nat):Int)) (by omega) (wrap_i64 (by omega))) (ay rfl (OL.nil (AW.seq (AW.block ?_))))))
   refine AW.aK (α:=Nat × Nat × Nat) [(0,_),(1,_),(2,_),(3,_),(4,_),(18,_),(19,_),(22,_)] [] (λ(q,lo,hi)=>[(20,.d (dI lo)),(21,.d (dI hi))]) (λ(q,lo,hi)=>[(1000,rowA b c (l))]) (λ(q,lo,hi)=>(Ud<=lo/\lo<=hi/\hi<=hi0/\hi-lo<=q)/\Jq (λh=>!uK (l.getD ((((p+e) / 2)+m)-1-h) default) (l.getD h default)) q lo hi=Jq (λh=>!uK (l.getD ((((p+e) / 2)+m)-1-h) default) (l.getD h default)) (hi0-Ud) Ud hi0) (λ(q,lo,hi)=>q) ((hi0-Ud),Ud,hi0) (.cons (uH rfl) (.cons (bM rfl) (.cons (bM rfl) (.cons (bM rfl) (.cons (EM rfl) (.cons (bM rfl) (.cons (bM rfl) (.cons (bM rfl) .nil)))))))) .nil ⟨⟨⟨by omega,by omega,by omega,by omega⟩,rfl⟩,.dR,.cons rfl .nil⟩ ?_
   rintro⟨q,lo,hi⟩ ⟨⟨g1,g2,g3,g4⟩,hs⟩
   have g1:Ud<=lo:=g1;have g2:lo<=hi:=g2;have g3:hi<=hi0:=g3;have g4:hi-lo<=q:=g4;refine AW.seq (AW.sg hE rfl (ah rfl (ah rfl (aN rfl rfl rfl (OL.nil (AW.cond rfl (λhlh=>?_) (λhlh=>?_)))))))
   .have hlh:lo<hi:=by have:=jC hlh;omega
    obtain⟨q,rfl⟩:∃ w,q=w+1:=⟨q-1,by omega⟩
    refine AW.skip (AW.block (AW.sg hE rfl (ah rfl (ah rfl (bo rfl rfl (dO (c:=((lo+hi:Nat):Int)) (by omega) (wrap_i64 (by omega))) (cv it.int it.uint rfl (wrap_u64 (by omega)) (RD rfl rfl ⟨by decide,by decide⟩ (c:=(((lo+hi) / 2:Nat):Int)) (by show (((lo+hi:Nat):Int)) / 2=_;omega) ?_)))))))
    refine cv it.uint it.int rfl (wrap_i64 (by omega)) (ay rfl (OL.nil (AW.seq (AW.dg 1 [0,1,2,3,4,5,6,7,8,9,10,11,12,13] aj hE rfl (by kernel_rfl) (OI.aP (os:=[_,_,_,_,_,_,_,_,_,_,_,_,_,_]) rfl ?_)))))
    refine EL rfl (fQ rfl (ah rfl (ah rfl (bo rfl rfl (dK (c:=((((((p+e) / 2)+m)-1)-(lo+hi) / 2:Nat):Int)) (by omega) (wrap_i64 (by omega))) (dV sl.cZ rfl rfl (by omega) (wS ag.mD (by decide) rfl rfl (iT (show (((p+e) / 2)+m)-1-(lo+hi) / 2<(l).length by omega)) (vs:=gI ((l).getD ((((p+e) / 2)+m)-1-(lo+hi) / 2) default)) rfl (au rfl) (fQ rfl ?_)))))))
    refine ah rfl (dV sl.cZ rfl rfl (by omega) (wS ag.mD (by decide) rfl rfl (iT (show (lo+hi) / 2<(l).length by omega)) (vs:=gI ((l).getD ((lo+hi) / 2) default)) rfl (au rfl) (aY rfl vL (Ot (x:=l.getD ((((p+e) / 2)+m)-1-(lo+hi) / 2) default) (y:=l.getD ((lo+hi) / 2) default)) (aN rfl rfl rfl (nt rfl (OL.nil (AW.cond rfl (λhk=>?_) (λhk=>?_))))))))
    .have hk:=hkT hk;refine AW.rg hE rfl (ah rfl (bo rfl rfl (dO (c:=(((lo+hi) / 2+1:Nat):Int)) (by omega) (wrap_i64 (by omega))) (ay rfl (OL.nil ?_))))
     exact AW.again (x:=(q+1,lo,hi)) (q,(lo+hi) / 2+1,hi) (by (simp only[];omega)) ⟨⟨⟨by omega,by omega,by omega,by omega⟩,by rw[<- hs,Jq,if_pos hlh,if_pos hk]⟩,Knows.app .Ny .dR,.cons rfl .nil⟩
    .have hk:=hkN hk;refine AW.rg hE rfl (ah rfl (ay rfl (OL.nil ?_)));exact AW.again (x:=(q+1,lo,hi)) (q,lo,(lo+hi) / 2) (by (simp only[];omega)) ⟨⟨⟨by omega,by omega,by omega,by omega⟩,by rw[<- hs,Jq,if_pos hlh,if_neg hk]⟩,Knows.app .Ny .dR,.cons rfl .nil⟩
   .have hlh:¬ lo<hi:=by have:=kK hlh;omega
    rw[OB hlh] at hs;refine AW.exit (AW.sg hE rfl (ah rfl (ah rfl (bo rfl rfl (dK (c:=(((((p+e) / 2)+m)-lo:Nat):Int)) (by omega) (wrap_i64 (by omega))) (ay rfl (OL.nil ?_))))))
    refine AW.AP (α:=List aT) [(0,_),(1,_),(3,_),(4,_),(18,_),(20,_),(24,_)] [] (λu=>[]) (λu=>[(1000,rowA b c (u))]) (λu=>u=if lo<m/\m<(((p+e) / 2)+m)-lo then rotL m ((((p+e) / 2)+m)-lo-lo) (m-lo) ((((p+e) / 2)+m)-lo-m) l else l) (.cons (uH rfl) (.cons (bM rfl) (.cons (bM rfl) (.cons (EM rfl) (.cons (bM rfl) (.cons (bM rfl) (.cons (bM rfl) .nil))))))) .nil ?_ ?_
    .refine AW.AP (α:=Bool) [(0,_),(1,_),(2,_),(3,_),(4,_),(18,_),(20,_),(24,_)] [(1000,_)] (λw=>[(185,.d (dB w))]) (λw=>[]) (λw=>w=decide (lo<m/\m<(((p+e) / 2)+m)-lo)) (.cons (uH rfl) (.cons (bM rfl) (.cons (bM rfl) (.cons (bM rfl) (.cons (EM rfl) (.cons (bM rfl) (.cons (bM rfl) (.cons (bM rfl) .nil)))))))) (.cons (rH rfl) .nil) ?_ ?_
     .refine AW.rg hE rfl (ah rfl (ah rfl (aN rfl rfl rfl (OL.split 180 rfl (λgA=>?_) (λgA=>?_)))))
      .have gA:lo<m:=by have:=jC gA;omega
       refine ah rfl (OL.yes rfl (ah rfl (OL.yes rfl (ah rfl (OL.yes rfl (aN rfl rfl rfl (OL.split 184 rfl (λgB=>?_) (λgB=>?_))))))))
       .have gB:m<(((p+e) / 2)+m)-lo:=by have:=jC gB;omega
        refine iV rfl rfl (OL.nil ?_);exact AW.reach true ⟨(decide_eq_true ⟨gA,gB⟩).symm,Knows.app .Ny .bC,bn.app (.cons rfl .nil) (.nil)⟩
       .have gB:¬ m<(((p+e) / 2)+m)-lo:=by have:=kK gB;omega
        refine iV rfl rfl (OL.nil ?_);exact AW.reach false ⟨(decide_eq_false λh=>gB h.2).symm,Knows.app .Ny .bC,bn.app (.cons rfl .nil) (.nil)⟩
      .have gA:¬ lo<m:=by have:=kK gA;omega
       refine ah rfl (OL.nd rfl (OL.nd rfl (OL.nd rfl (eG rfl rfl (OL.nil ?_)))));exact AW.reach false ⟨(decide_eq_false λh=>gA h.1).symm,Knows.app .Ny .bC,bn.app (.cons rfl .nil) (.nil)⟩
     rintro w hw
     refine AW.cond rfl (λhc=>?_) (λhc=>?_)
     .have hc:lo<m/\m<(((p+e) / 2)+m)-lo:=jC (hw.symm.trans hc);refine AW.rg hE rfl (fQ rfl (ah rfl (ah rfl (ah rfl (EL rfl ?_)))));refine OL.qo (v:=.jM []) (.mk (args':=[.bJ 1000 b n c,.d (dI lo),.d (dI m),.d (dI ((((p+e) / 2)+m)-lo:Nat)),.fn F.bK []]) rfl (.cons vR (.cons (aZ.int (by omega)) (.cons (aZ.int (by omega)) (.cons (aZ.int (by omega)) .bC)))) (bH (id:=1000) (blk:=rowA b c (l)) rfl) gy (bj6 (l:=l) (p:=lo) (m:=m) (e:=(((p+e) / 2)+m)-lo) hl hN (by omega) (by omega) (by omega))) ?_
      refine OL.nil ?_;exact AW.reach (rotL m ((((p+e) / 2)+m)-lo-lo) (m-lo) ((((p+e) / 2)+m)-lo-m) l) ⟨(if_pos hc).symm,Knows.app .Nw (.nil),.cons rfl .nil⟩
     .have hc:¬ (lo<m/\m<(((p+e) / 2)+m)-lo):=kK (hw.symm.trans hc);exact AW.skip (AW.reach l ⟨(if_neg hc).symm,Knows.app .Nw (.nil),.cons rfl .nil⟩)
    rintro u hu1
    have hu1:u=if lo<m/\m<(((p+e) / 2)+m)-lo then rotL m ((((p+e) / 2)+m)-lo-lo) (m-lo) ((((p+e) / 2)+m)-lo-m) l else l:=hu1
    have IE:u.length=n:=by rw[hu1];split <;> first|exact hl|(rw[Jz];exact hl)
    refine AW.AP (α:=List aT) [(0,_),(3,_),(4,_),(18,_),(24,_)] [] (λu2=>[]) (λu2=>[(1000,rowA b c (u2))]) (λu2=>u2=if p<lo/\lo<((p+e) / 2) then wM uK k u p lo ((p+e) / 2) else u) (.cons (uH rfl) (.cons (bM rfl) (.cons (EM rfl) (.cons (bM rfl) (.cons (bM rfl) .nil))))) .nil ?_ ?_
    .refine AW.AP (α:=Bool) [(0,_),(1,_),(3,_),(4,_),(18,_),(20,_),(24,_)] [(1000,_)] (λw=>[(199,.d (dB w))]) (λw=>[]) (λw=>w=decide (p<lo/\lo<((p+e) / 2))) (.cons (uH rfl) (.cons (bM rfl) (.cons (bM rfl) (.cons (EM rfl) (.cons (bM rfl) (.cons (bM rfl) (.cons (bM rfl) .nil))))))) (.cons (rH rfl) .nil) ?_ ?_
     .refine AW.rg hE rfl (ah rfl (ah rfl (aN rfl rfl rfl (OL.split 194 rfl (λgA=>?_) (λgA=>?_)))))
      .have gA:p<lo:=by have:=jC gA;omega
       refine ah rfl (OL.yes rfl (ah rfl (OL.yes rfl (ah rfl (OL.yes rfl (aN rfl rfl rfl (OL.split 198 rfl (λgB=>?_) (λgB=>?_))))))))
       .have gB:lo<((p+e) / 2):=by have:=jC gB;omega
        refine iV rfl rfl (OL.nil ?_);exact AW.reach true ⟨(decide_eq_true ⟨gA,gB⟩).symm,Knows.app .Nw .bC,bn.app (.cons rfl .nil) (.nil)⟩
       .have gB:¬ lo<((p+e) / 2):=by have:=kK gB;omega
        refine iV rfl rfl (OL.nil ?_);exact AW.reach false ⟨(decide_eq_false λh=>gB h.2).symm,Knows.app .Nw .bC,bn.app (.cons rfl .nil) (.nil)⟩
      .have gA:¬ p<lo:=by have:=kK gA;omega
       refine ah rfl (OL.nd rfl (OL.nd rfl (OL.nd rfl (eG rfl rfl (OL.nil ?_)))));exact AW.reach false ⟨(decide_eq_false λh=>gA h.1).symm,Knows.app .Nw .bC,bn.app (.cons rfl .nil) (.nil)⟩
     rintro w hw
     refine AW.cond rfl (λhc=>?_) (λhc=>?_)
     .have hc:p<lo/\lo<((p+e) / 2):=jC (hw.symm.trans hc);refine AW.rg hE rfl (fQ rfl (ah rfl (ah rfl (ah rfl (EL rfl ?_)))));refine OL.qo (v:=.jM []) (.mk (args':=[.bJ 1000 b n c,.d (dI p),.d (dI lo),.d (dI (((p+e) / 2):Nat)),.fn F.bK []]) rfl (.cons vR (.cons (aZ.int (by omega)) (.cons (aZ.int (by omega)) (.cons (aZ.int (by omega)) .bC)))) (bH (id:=1000) (blk:=rowA b c (u)) rfl) gy (ih (l:=u) (p:=p) (m:=lo) (e:=((p+e) / 2)) IE hN (by omega) (by omega) (by omega) (by omega))) ?_
      exact OL.nil (AW.reach (wM uK k u p lo ((p+e) / 2)) ⟨(if_pos hc).symm,Knows.app .y9 (.nil),.cons rfl .nil⟩)
     .have hc:¬ (p<lo/\lo<((p+e) / 2)):=kK (hw.symm.trans hc);exact AW.skip (AW.reach u ⟨(if_neg hc).symm,Knows.app .y9 (.nil),.cons rfl .nil⟩)
    rintro u2 hu2
    have hu2:u2=if p<lo/\lo<((p+e) / 2) then wM uK k u p lo ((p+e) / 2) else u:=hu2
    have bj8:u2.length=n:=by rw[hu2];split <;> first|exact IE|(rw[JA];exact IE)
    refine AW.AP (α:=Bool) [(0,_),(3,_),(4,_),(18,_),(24,_)] [(1000,_)] (λw=>[(213,.d (dB w))]) (λw=>[]) (λw=>w=decide (((p+e) / 2)<(((p+e) / 2)+m)-lo/\(((p+e) / 2)+m)-lo<e)) (.cons (uH rfl) (.cons (bM rfl) (.cons (EM rfl) (.cons (bM rfl) (.cons (bM rfl) .nil))))) (.cons (rH rfl) .nil) ?_ ?_
    .refine AW.rg hE rfl (ah rfl (ah rfl (aN rfl rfl rfl (OL.split 208 rfl (λgA=>?_) (λgA=>?_)))))
     .have gA:((p+e) / 2)<(((p+e) / 2)+m)-lo:=by have:=jC gA;omega
      refine ah rfl (OL.yes rfl (ah rfl (OL.yes rfl (ah rfl (OL.yes rfl (aN rfl rfl rfl (OL.split 212 rfl (λgB=>?_) (λgB=>?_))))))))
      .have gB:(((p+e) / 2)+m)-lo<e:=by have:=jC gB;omega
       exact iV rfl rfl (OL.nil (AW.reach true ⟨(decide_eq_true ⟨gA,gB⟩).symm,Knows.app .y9 .bC,bn.app (.cons rfl .nil) (.nil)⟩))
      .have gB:¬ (((p+e) / 2)+m)-lo<e:=by have:=kK gB;omega
       exact iV rfl rfl (OL.nil (AW.reach false ⟨(decide_eq_false λh=>gB h.2).symm,Knows.app .y9 .bC,bn.app (.cons rfl .nil) (.nil)⟩))
     .have gA:¬ ((p+e) / 2)<(((p+e) / 2)+m)-lo:=by have:=kK gA;omega
      exact ah rfl (OL.nd rfl (OL.nd rfl (OL.nd rfl (eG rfl rfl (OL.nil (AW.reach false ⟨(decide_eq_false λh=>gA h.1).symm,Knows.app .y9 .bC,bn.app (.cons rfl .nil) (.nil)⟩))))))
    rintro w hw
    refine AW.cond rfl (λhc=>?_) (λhc=>?_)
    .have hc:((p+e) / 2)<(((p+e) / 2)+m)-lo/\(((p+e) / 2)+m)-lo<e:=jC (hw.symm.trans hc);refine AW.rg hE rfl (fQ rfl (ah rfl (ah rfl (ah rfl (EL rfl ?_)))));refine OL.qo (v:=.jM []) (.mk (args':=[.bJ 1000 b n c,.d (dI (((p+e) / 2):Nat)),.d (dI ((((p+e) / 2)+m)-lo:Nat)),.d (dI e),.fn F.bK []]) rfl (.cons vR (.cons (aZ.int (by omega)) (.cons (aZ.int (by omega)) (.cons (aZ.int (by omega)) .bC)))) (bH (id:=1000) (blk:=rowA b c (u2)) rfl) gy (ih (l:=u2) (p:=((p+e) / 2)) (m:=(((p+e) / 2)+m)-lo) (e:=e) bj8 hN (by omega) (by omega) (by omega) (by omega))) ?_
     refine OL.nil ?_;have hfin:wM uK (k+1) l p m e=(if ((p+e) / 2)<(((p+e) / 2)+m)-lo/\(((p+e) / 2)+m)-lo<e then wM uK k u2 ((p+e) / 2) ((((p+e) / 2)+m)-lo) e else u2):=by
      rw[wM,if_neg hm1,if_neg hm2];simp only[];rw[<- hlo,<- hhi,<- hs,<- hu1,<- hu2]
     rw[hfin,if_pos hc];exact⟨⟨_,.nil,_,.nil,rfl⟩,bH rfl⟩
    .have hc:¬ (((p+e) / 2)<(((p+e) / 2)+m)-lo/\(((p+e) / 2)+m)-lo<e):=kK (hw.symm.trans hc);refine AW.skip ?_;have hfin:wM uK (k+1) l p m e=(if ((p+e) / 2)<(((p+e) / 2)+m)-lo/\(((p+e) / 2)+m)-lo<e then wM uK k u2 ((p+e) / 2) ((((p+e) / 2)+m)-lo) e else u2):=by
      rw[wM,if_neg hm1,if_neg hm2];simp only[];rw[<- hlo,<- hhi,<- hs,<- hu1,<- hu2]
     rw[hfin,if_neg hc];exact⟨⟨_,.nil,_,.nil,rfl⟩,bH rfl⟩
theorem aR6:∀ {k:Nat} {l:List aT} {b n c:Nat} (hl:l.length=n) (hN:n<=1000000) {p m e:Nat} (h1:p<m) (h2:m<e) (h3:e<=n) (hk:e-p<=k),fV P F.fJ [.bJ 1000 b n c,.d (dI p),.d (dI m),.d (dI e),.fn F.bK []] (mem1 1000 (rowA b c (l))) (.jM []) (mem1 1000 (rowA b c (wM uK k l p m e)))
 | 0,_,_,_,_,_,_,_,_,_,h1,h2,_,hk=>by omega
 | k+1,_,_,_,_,hl,hN,_,_,_,h1,h2,h3,hk=>a99 (λhl hN _ _ _ h1 h2 h3 hk=>aR6 hl hN h1 h2 h3 hk) hl hN h1 h2 h3 hk
theorem aR7 {l:List aT}{b n c:Nat}(hl:l.length=n)(hN:n<=1000000):fV P F.jW [.bJ 1000 b n c,.d (dI n),.fn F.bK []] (mem1 1000 (rowA b c (l))) (.jM []) (mem1 1000 (rowA b c (dh l))):=by
 refine fV.intro fn.jW (by rfl) (by rfl) (au (by rfl)) λE hE=>(AW.sg hE rfl (ay rfl (OL.nil (AW.sg hE rfl (ah rfl (ay rfl (ay rfl ?_)))))))
 refine OL.nil (AW.seq (AW.block ?_));refine AW.aK (α:=Nat) [(0,_),(1,_),(2,_),(6,_)] [] (λi=>[(7,.d (dI (20*i:Nat))),(8,.d (dI (20*i+20:Nat)))]) (λi=>[(1000,rowA b c (nM uK i l))]) (λi=>20*i<=n) (λi=>n-i) 0 (.cons (uH rfl) (.cons (bM rfl) (.cons (EM rfl) (.cons (bM rfl) .nil)))) .nil ⟨Nat.zero_le _,.dR,.cons rfl .nil⟩ ?_
 rintro i h1
 have h1:20*i<=n:=h1;have hbl:(nM uK i l).length=n:=(LQ uK i l).trans hl;refine AW.seq (AW.sg hE rfl (ah rfl (ah rfl (x8 rfl rfl rfl (OL.nil (AW.cond rfl (λhc=>?_) (λhc=>?_)))))))
 .have hc:20*i+20<=n:=by have:=jC hc;omega
  refine AW.skip (AW.block (AW.sg hE rfl (fQ rfl (ah rfl (ah rfl (EL rfl ?_))))));refine OL.qo (v:=.jM []) (.mk (args':=[.bJ 1000 b n c,.d (dI (20*i:Nat)),.d (dI (20*i+20:Nat)),.fn F.bK []]) rfl (.cons vR (.cons (aZ.int (by omega)) (.cons (aZ.int (by omega)) .bC))) (bH (id:=1000) (blk:=rowA b c (nM uK i l)) rfl) gy (aL8 (l:=nM uK i l) (p:=20*i) (e:=20*i+20) hbl hN (by omega) (by omega))) ?_
  refine OL.nil (AW.sg hE rfl (ah rfl (ay rfl (OL.nil (AW.rg hE rfl (ah rfl (ah rfl ?_)))))));refine bo rfl rfl (dO (c:=((20*i+20+20:Nat):Int)) (by omega) (wrap_i64 (by omega))) (ay rfl (OL.nil ?_))
  exact AW.again (x:=i) (i+1) (by omega) ⟨by omega,Knows.app .CZ .dR,.cons (by rw[nM,show 20*i+20-20*i-1=19 by omega];rfl) .nil⟩
 .have hc:¬ 20*i+20<=n:=by have:=kK hc;omega
  refine AW.exit (AW.sg hE rfl (fQ rfl (ah rfl (ah rfl (EL rfl ?_)))));refine OL.qo (v:=.jM []) (.mk (args':=[.bJ 1000 b n c,.d (dI (20*i:Nat)),.d (dI n),.fn F.bK []]) rfl (.cons vR (.cons (aZ.int (by omega)) (.cons (aZ.int (by omega)) .bC))) (bH (id:=1000) (blk:=rowA b c (nM uK i l)) rfl) gy (aL8 (l:=nM uK i l) (p:=20*i) (e:=n) hbl hN (by omega) (by omega))) ?_
  refine OL.nil (AW.block ?_);refine AW.aK (α:=Nat × Nat × List aT) [(0,_),(1,_),(2,_)] [] (λ(k,s,u)=>[(6,.d (dI s))]) (λ(k,s,u)=>[(1000,rowA b c (u))]) (λ(k,s,u)=>(0<s/\s<=2*n+20/\n<=s+k)/\u.length=n/\Vt uK n k s u=dh l) (λ(k,s,u)=>k) (n,20,Jt uK (20*i) (n-20*i-1) (nM uK i l)) (.cons (uH rfl) (.cons (bM rfl) (.cons (EM rfl) .nil))) .nil ⟨⟨⟨by decide,by omega,by omega⟩,by rw[Jy];exact hbl,by unfold dh Vu KL;rw[hl,show n / 20=i by omega]⟩,.bC,.cons rfl .nil⟩ ?_
  rintro⟨k,s,u⟩ ⟨⟨g1,g2,g3⟩,IE,hs⟩
  have g1:0<s:=g1;have g2:s<=2*n+20:=g2;have g3:n<=s+k:=g3;have IE:u.length=n:=IE;refine AW.seq (AW.sg hE rfl (ah rfl (ah rfl (aN rfl rfl rfl (OL.nil (AW.cond rfl (λhc=>?_) (λhc=>?_)))))))
  .have hc:s<n:=by have:=jC hc;omega
   obtain⟨k,rfl⟩:∃ w,k=w+1:=⟨k-1,by omega⟩
   refine AW.skip (AW.block (AW.sg hE rfl (ah rfl (bo rfl rfl (Dk (c:=((2*s:Nat):Int)) (by omega) (wrap_i64 (by omega))) (ay rfl (ay rfl (OL.nil ?_)))))))
   refine AW.seq (AW.block ?_);refine AW.aK (α:=Nat × Nat) [(0,_),(1,_),(2,_),(6,_)] [] (λ(i,p)=>[(7,.d (dI p)),(8,.d (dI (p+2*s:Nat)))]) (λ(i,p)=>[(1000,rowA b c (qh uK s n i u))]) (λ(i,p)=>p=2*s*i/\p<=n) (λ(i,p)=>n-p) (0,0) (.cons (uH rfl) (.cons (bM rfl) (.cons (EM rfl) (.cons (bM rfl) .nil)))) .nil ⟨⟨rfl,Nat.zero_le _⟩,.cons vR (.cons (aZ.int (by omega)) .nil),.cons rfl .nil⟩ ?_
   rintro⟨i,p⟩ ⟨hp,h1⟩
   have hp:p=2*s*i:=hp;have h1:p<=n:=h1;have hvl:(qh uK s n i u).length=n:=(Eh uK s n i u).trans IE;refine AW.seq (AW.sg hE rfl (ah rfl (ah rfl (x8 rfl rfl rfl (OL.nil (AW.cond rfl (λhd=>?_) (λhd=>?_)))))))
   .have hd:p+2*s<=n:=by have:=jC hd;omega
    refine AW.skip (AW.block (AW.sg hE rfl (fQ rfl (ah rfl (ah rfl (ah rfl (bo rfl rfl (dO (c:=((p+s:Nat):Int)) (by omega) (wrap_i64 (by omega))) ?_)))))))
    refine ah rfl (EL rfl ?_);refine OL.qo (v:=.jM []) (.mk (args':=[.bJ 1000 b n c,.d (dI p),.d (dI (p+s:Nat)),.d (dI (p+2*s:Nat)),.fn F.bK []]) rfl (.cons vR (.cons (aZ.int (by omega)) (.cons (aZ.int (by omega)) (.cons (aZ.int (by omega)) .bC)))) (bH (id:=1000) (blk:=rowA b c (qh uK s n i u)) rfl) gy (aR6 (k:=2*s) (l:=qh uK s n i u) (p:=p) (m:=p+s) (e:=p+2*s) hvl hN (by omega) (by omega) (by omega) (by omega))) ?_
    refine OL.nil (AW.sg hE rfl (ah rfl (ay rfl (OL.nil (AW.rg hE rfl (ah rfl (ah rfl ?_)))))));refine bo rfl rfl (Dk (c:=((2*s:Nat):Int)) (by omega) (wrap_i64 (by omega))) (bo rfl rfl (dO (c:=((p+2*s+2*s:Nat):Int)) (by omega) (wrap_i64 (by omega))) (ay rfl (OL.nil ?_)))
    exact AW.again (x:=(i,p)) (i+1,p+2*s) (by simp only[];omega) ⟨⟨by rw[Nat.mul_succ,<- hp],by omega⟩,Knows.app .CZ .dR,.cons (by rw[qh,<- hp];rfl) .nil⟩
   .have hd:¬ p+2*s<=n:=by have:=kK hd;omega
    refine AW.exit ?_;have hi:n / (2*s)=i:=by
     rw[Nat.div_eq_iff (by omega)]
     rw[Nat.mul_comm i,<- hp];omega
    have aL9:FI uK n s u=if p+s<n then wM uK (2*s) (qh uK s n i u) p (p+s) n else qh uK s n i u:=by
     unfold FI;simp only[];rw[hi,<- hp]
    refine AW.AP (α:=Unit) [(0,_),(1,_),(2,_),(6,_)] [] (λ_u=>[]) (λ_u=>[(1000,rowA b c (FI uK n s u))]) (λ_u=>True) (.cons (uH rfl) (.cons (bM rfl) (.cons (EM rfl) (.cons (bM rfl) .nil)))) .nil ?_ ?_
    .refine AW.sg hE rfl (ah rfl (ah rfl (bo rfl rfl (dO (c:=((p+s:Nat):Int)) (by omega) (wrap_i64 (by omega))) (ay rfl (OL.nil (AW.sg hE rfl (ah rfl ?_)))))))
     refine ah rfl (aN rfl rfl rfl (OL.nil (AW.cond rfl (λhd2=>?_) (λhd2=>?_))))
     .have hd2:p+s<n:=by have:=jC hd2;omega
      refine AW.rg hE rfl (fQ rfl (ah rfl (ah rfl (ah rfl (EL rfl ?_)))));refine OL.qo (v:=.jM []) (.mk (args':=[.bJ 1000 b n c,.d (dI p),.d (dI (p+s:Nat)),.d (dI n),.fn F.bK []]) rfl (.cons vR (.cons (aZ.int (by omega)) (.cons (aZ.int (by omega)) (.cons (aZ.int (by omega)) .bC)))) (bH (id:=1000) (blk:=rowA b c (qh uK s n i u)) rfl) gy (aR6 (k:=2*s) (l:=qh uK s n i u) (p:=p) (m:=p+s) (e:=n) hvl hN (by omega) (by omega) (by omega) (by omega))) ?_
      exact OL.nil (AW.reach () ⟨trivial,Knows.app .CZ (.nil),.cons (by rw[aL9,if_pos hd2];rfl) .nil⟩)
     .have hd2:¬ p+s<n:=by have:=kK hd2;omega
      exact AW.skip (AW.reach () ⟨trivial,Knows.app .CZ (.nil),.cons (by rw[aL9,if_neg hd2];rfl) .nil⟩)
    rintro⟨⟩ hφ
    refine AW.rg hE rfl (ah rfl (bo rfl rfl (Dk (c:=((2*s:Nat):Int)) (by omega) (wrap_i64 (by omega))) (ay rfl (OL.nil ?_))))
    exact AW.again (x:=(k+1,s,u)) (k,2*s,FI uK n s u) (by (simp only[];omega)) ⟨⟨⟨by omega,by omega,by omega⟩,by rw[ad3];exact IE,by rw[<- hs,Vt,if_pos hc]⟩,Knows.app .wL .bC,.cons rfl .nil⟩
  .have hc:¬ s<n:=by have:=kK hc;omega
   refine AW.exit ?_;have hfin:dh l=u:=by
    rw[<- hs];cases k with
    | zero=>rfl
    | succ k=>rw[Vt,if_neg hc]
   rw[hfin];exact⟨⟨_,.nil,_,.nil,rfl⟩,bH rfl⟩
theorem ad4 {l:List aT}{b n c:Nat}(hl:l.length=n)(hN:n<=1000000):fV P F.iQ [.bJ 1000 b n c,.fn F.bK []] (mem1 1000 (rowA b c (l))) (.jM []) (mem1 1000 (rowA b c (dh l))):=by
 refine fV.intro fn.iQ (by rfl) (by rfl) (au (by rfl)) λE hE=>?_
 refine AW.rg hE rfl ?_;refine fQ rfl ?_;refine fQ rfl ?_;refine WI sl.cZ rfl rfl ?_;refine EL rfl ?_;refine OL.qo (v:=.jM []) (.mk (args':=[.bJ 1000 b n c,.d (dI n),.fn F.bK []]) rfl (.cons vR (.cons (aZ.int (by omega)) .bC)) (bH (id:=1000) (blk:=rowA b c (l)) rfl) gy (aR7 hl hN)) ?_
 exact OL.nil (⟨⟨_,.nil,_,.nil,rfl⟩,bH rfl⟩)

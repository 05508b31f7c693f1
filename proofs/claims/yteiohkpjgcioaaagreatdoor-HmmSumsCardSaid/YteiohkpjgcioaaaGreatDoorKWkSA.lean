/-
  Walks of package automaton: stable sorting of any number of arcs (printed by mk2.py).
-/
import Derived.Test.YteiohkpjgcioaaaGreatDoorKMod111
import Derived.Test.YteiohkpjgcioaaaGreatDoorKMod113
set_option linter.unusedVariables false
set_option linter.unusedSimpArgs false
namespace Go.Proofs.YteiohkpjgcioaaaGreatDoor
open Go Go.AL
theorem swpG_map {u:List Arc9}{i j:Nat}:((u.map dArc).set i (dArc (u.getD j default))).set j (dArc (u.getD i default))=(swpG u i j).map dArc:=by
 unfold swpG
 rw [List.map_set,List.map_set]
theorem upG_len (u:List Arc9)(a:Nat):∀ n,(upG u a n).length=u.length
 | 0=>rfl
 | n+1=>by rw [upG,swpG_len,upG_len u a n]
theorem dnG_len (u:List Arc9)(m:Nat):∀ n,(dnG u m n).length=u.length
 | 0=>rfl
 | n+1=>by rw [dnG,swpG_len,dnG_len u m n]
theorem sinkS_len (c:Arc9→Arc9→Bool)(a:Nat):∀ (j:Nat) (o:List Arc9),(sinkS c a j o).length=o.length
 | 0,o=>rfl
 | j+1,o=>by
  rw [sinkS]
  split
  ·rw [sinkS_len c a j,swpG_len]
  ·rfl
theorem insS_len (c:Arc9→Arc9→Bool)(a:Nat):∀ (k:Nat) (o:List Arc9),(insS c a k o).length=o.length
 | 0,o=>rfl
 | k+1,o=>by rw [insS,sinkS_len,insS_len c a k]
theorem blocksG_len (c:Arc9→Arc9→Bool):∀ (k:Nat) (o:List Arc9),(blocksG c k o).length=o.length
 | 0,o=>rfl
 | k+1,o=>by rw [blocksG,insS_len,blocksG_len c k]
theorem rotL_len (m:Nat):∀ (k i j:Nat) (o:List Arc9),(rotL m k i j o).length=o.length
 | 0,i,j,o=>rfl
 | k + 1, i, j, o => by
  rw [rotL]
  split
  ·rw [swpR_len]
  ·split
   ·rw [rotL_len m k,swpR_len]
   ·rw [rotL_len m k,swpR_len]
theorem symG_len (c:Arc9→Arc9→Bool):∀ (k:Nat) (o:List Arc9) (a m b:Nat),(symG c k o a m b).length=o.length
 | 0,o,a,m,b=>rfl
 | k + 1, o, a, m, b => by
  rw [symG]
  split
  ·rw [upG_len]
  ·split
   ·rw [dnG_len]
   ·simp only []
    repeat (first|rw [symG_len c k]|rw [rotL_len]|rfl|split)
theorem stepMG_len (c:Arc9→Arc9→Bool)(s n:Nat):∀ (k:Nat) (o:List Arc9),(stepMG c s n k o).length=o.length
 | 0,o=>rfl
 | k+1,o=>by rw [stepMG];rw [symG_len,stepMG_len c s n k]
theorem passG_len (c:Arc9→Arc9→Bool)(s n:Nat)(o:List Arc9):(passG c n s o).length=o.length:=by
 unfold passG
 simp only []
 split
 ·rw [symG_len,stepMG_len]
 ·rw [stepMG_len]
theorem hkN {x y:Arc9}(h:(!decide (ordA x y<0))=false):¬ (!ltA x y)=true:=fun e=>by
 have e:(!decide (ordA x y<0))=true:=e
 rw [e] at h;cases h
theorem hkT {x y:Arc9}(h:(!decide (ordA x y<0))=true):(!ltA x y)=true:=h
theorem bsG_done {f:Nat→Bool}{k lo hi:Nat}(h:¬ lo<hi):bsG f k lo hi=lo:=by
 cases k with
 | zero=>rfl
 | succ k=>rw [bsG,if_neg h]
theorem swapRA {l:List Arc9}{b n c:Nat}(hl:l.length=n)(hN:n≤1000000){p q k:Nat}(hp:p+k≤n)(hq:q+k≤n):FSpecM P F.slices_swapRangeCmpFunc_Arc [.osl 1000 b n c,.d (dI p),.d (dI q),.d (dI k),.fn F.automaton_order []] (mem1 1000 (rowA b c (l))) (.tup []) (mem1 1000 (rowA b c (swpR l p q k))):=by
 refine FSpecM.intro fn.slices_swapRangeCmpFunc_Arc (by rfl) (by rfl) (nb9 (by rfl)) fun E hE=>(AW.sg hE rfl (asD rfl (OL.nil (AW.block ?_))))
 refine AW.whileK (α:=Nat) [(0,_),(1,_),(2,_),(3,_)] [] (fun i=>[(10,.d (dI i))]) (fun i=>[(1000,rowA b c (swpR l p q i))]) (fun i=>i≤k) (fun i=>k-i) 0 (.cons (knO rfl) (.cons (knD rfl) (.cons (knD rfl) (.cons (knD rfl) .nil)))) .nil ⟨Nat.zero_le _,.rq1,.cons rfl .nil⟩ ?_
 rintro i h1
 have h1:i≤k:=h1
 have hul:=swpR_len l p q i
 obtain ⟨u,hu⟩:∃ u,u=swpR l p q i:=⟨_,rfl⟩
 rw [← hu] at hul ⊢
 refine AW.seq (AW.sg hE rfl (mvD rfl (mvD rfl (c_lss rfl rfl rfl (OL.nil (AW.cond rfl (fun h13=>?_) (fun h13=>?_)))))))
 ·try simp only [dx9] at h13
  refine AW.skip (AW.seq (AW.block (AW.dg 1 [0,1,2,3,4,5,6,7,8,9,10,11,12,13,14,15,16,17,18,19,20,21,22,23] order_free hE rfl (by kernel_rfl) (OI.of_OL (os:=[_,_,_,_,_,_,_,_,_,_,_,_,_,_,_,_,_,_,_,_,_,_,_,_]) rfl ?_))))
  refine mvO rfl (mvD rfl (mvD rfl (bo rfl rfl (bin_add (c:=((p+i:Nat):Int)) (by omega) (wrap_i64 (by omega))) (mvO rfl (mvD rfl (mvD rfl (bo rfl rfl (bin_add (c:=((q+i:Nat):Int)) (by omega) (wrap_i64 (by omega))) ?_)))))))
  refine mvO rfl (mvD rfl (mvD rfl (bo rfl rfl (bin_add (c:=((q+i:Nat):Int)) (by omega) (wrap_i64 (by omega))) (ixOn sl.Arcs rfl rfl (by omega) (ldEA ag.Arc (by decide) rfl rfl (rowA_el (show q+i<(u).length by omega)) (vs:=cellsArc ((u).getD (q+i) default)) rfl (nb9 rfl) (mvO rfl (mvD rfl ?_)))))))
  refine mvD rfl (bo rfl rfl (bin_add (c:=((p+i:Nat):Int)) (by omega) (wrap_i64 (by omega))) (ixOn sl.Arcs rfl rfl (by omega) (ldEA ag.Arc (by decide) rfl rfl (rowA_el (show p+i<(u).length by omega)) (vs:=cellsArc ((u).getD (p+i) default)) rfl (nb9 rfl) (ixOn sl.Arcs rfl rfl (by omega) (stE sz.Arc rfl (d:=dArc ((u).getD (q+i) default)) vd_arc rfl rfl (by rw [lm9];omega) rfl (ixOn sl.Arcs rfl rfl (by omega) (stE sz.Arc rfl (d:=dArc ((u).getD (p+i) default)) vd_arc rfl rfl (by rw [List.length_set,lm9];omega) swpG_map ?_)))))))
  exact OL.nil (AW.rg hE rfl (mvD rfl (add_i64 rfl rfl (by omega) (asD rfl (OL.nil (AW.again (x:=i) (i+1) (by omega) ⟨by omega,Knows.app .rq4 .rq1,.cons (by rw [swpR,← hu];rfl) .nil⟩))))))
 ·try simp only [dx9] at h13
  refine AW.exit ?_
  obtain rfl:i=k:=by omega
  rw [← hu]
  exact ⟨⟨_,.nil,_,.nil,rfl⟩,mem1_keep rfl⟩
theorem insSA {l:List Arc9}{b n c:Nat}(hl:l.length=n)(hN:n≤1000000){p e:Nat}(hp:p≤e)(he:e≤n):FSpecM P F.slices_insertionSortCmpFunc_Arc [.osl 1000 b n c,.d (dI p),.d (dI e),.fn F.automaton_order []] (mem1 1000 (rowA b c (l))) (.tup []) (mem1 1000 (rowA b c (insS ltA p (e-p-1) l))):=by
 refine FSpecM.intro fn.slices_insertionSortCmpFunc_Arc (by rfl) (by rfl) (nb9 (by rfl)) fun E hE=>(AW.sg hE rfl (mvD rfl (bo rfl rfl (bin_add (c:=((p+1:Nat):Int)) (by omega) (wrap_i64 (by omega))) (asD rfl (OL.nil (AW.block ?_))))))
 refine AW.whileK (α:=Nat) [(0,_),(1,_),(2,_),(3,_)] [] (fun i=>[(8,.d (dI (p+i:Nat)))]) (fun i=>[(1000,rowA b c (insS ltA p (i-1) l))]) (fun i=>1≤i∧(i=1 ∨ p+i≤e)) (fun i=>e-p-i) 1 (.cons (knO rfl) (.cons (knD rfl) (.cons (knD rfl) (.cons (knF rfl) .nil)))) .nil ⟨⟨Nat.le_refl _,.inl rfl⟩,.rq1,.cons rfl .nil⟩ ?_
 rintro i ⟨h1,h2⟩
 have h1:1≤i:=h1
 have h2:i=1 ∨ p+i≤e:=h2
 refine AW.seq (AW.sg hE rfl (mvD rfl (mvD rfl (c_lss rfl rfl rfl (OL.nil (AW.cond rfl (fun h14=>?_) (fun h14=>?_)))))))
 ·try simp only [dx9] at h14
  refine AW.skip (AW.midK (α:=Unit) [(0,_),(1,_),(2,_),(3,_),(8,_)] [] (fun _u=>[]) (fun _u=>[(1000,rowA b c (insS ltA p i l))]) (fun _u=>True) (.cons (knO rfl) (.cons (knD rfl) (.cons (knD rfl) (.cons (knF rfl) (.cons (knD rfl) .nil))))) .nil ?_ ?_)
  ·refine AW.block (AW.sg hE rfl (mvD rfl (asD rfl (OL.nil (AW.block ?_)))))
   refine AW.whileK (α:=Nat × List Arc9) [(0,_),(1,_),(2,_),(3,_),(8,_)] [] (fun (j,u)=>[(9,.d (dI (p+j:Nat)))]) (fun (j,u)=>[(1000,rowA b c (u))]) (fun (j,u)=>j≤i∧u.length=n∧sinkS ltA p j u=insS ltA p i l) (fun (j,u)=>j) (i,insS ltA p (i-1) l) (.cons (knO rfl) (.cons (knD rfl) (.cons (knD rfl) (.cons (knF rfl) (.cons (knD rfl) .nil))))) .nil ⟨⟨Nat.le_refl _,by rw [insS_len];exact hl,by obtain ⟨q,rfl⟩:∃ q,i=q+1:=⟨i-1,by omega⟩;rfl⟩,.rq1,.cons rfl .nil⟩ ?_
   rintro ⟨j,u⟩ ⟨h3,hul,hs⟩
   have h3:j≤i:=h3
   have hul:u.length=n:=hul
   refine AW.seq (AW.seq (AW.dg 1 [0,1,2,3,4,5,6,7,8,9,10,11,12,13,14,15,16] order_free hE rfl (by kernel_rfl) (OI.of_OL (os:=[_,_,_,_,_,_,_,_,_,_,_,_,_,_,_,_,_]) rfl ?_)))
   refine mvD rfl (mvD rfl (c_gtr rfl rfl rfl (OL.split 20 rfl (fun hj=>?_) (fun hj=>?_))))
   ·have hj:0<j:=by have:=dt9 hj;omega
    obtain ⟨j,rfl⟩:∃ q,j=q+1:=⟨j-1,by omega⟩
    refine mvD rfl (OL.yes rfl (mvF rfl (OL.yes rfl (mvO rfl (OL.yes rfl (mvD rfl (OL.yes rfl ?_)))))))
    refine ixOn sl.Arcs rfl rfl (by omega) (OL.yes rfl (ldEA ag.Arc (by decide) rfl rfl (rowA_el (show p+j+1<(u).length by omega)) (vs:=cellsArc ((u).getD (p+j+1) default)) rfl (nb9 rfl) (OL.yes rfl (mvO rfl (OL.yes rfl (mvD rfl (OL.yes rfl ?_)))))))
    refine bo rfl rfl (bin_sub (c:=((p+(j+1)-1:Nat):Int)) (by omega) (wrap_i64 (by omega))) (OL.yes rfl (ixOn sl.Arcs rfl rfl (by omega) (OL.yes rfl (ldEA ag.Arc (by decide) rfl rfl (rowA_el (show p+j<(u).length by omega)) (vs:=cellsArc ((u).getD (p+j) default)) rfl (nb9 rfl) (OL.yes rfl (clv rfl vL (orderA (x:=u.getD (p+j+1) default) (y:=u.getD (p+j) default)) (OL.yes rfl ?_)))))))
    refine c_lss rfl rfl rfl (pkT rfl rfl (OL.nil (AW.cond rfl (fun hk=>?_) (fun hk=>?_))))
    ·have hk:ltA (u.getD (p+j+1) default) (u.getD (p+j) default)=true:=hk
     refine AW.skip (AW.seq (AW.block (AW.dg 1 [0,1,2,3,4,5,6,7,8,9,10,11,12,13,14,15,16,17] order_free hE rfl (by kernel_rfl) (OI.of_OL (os:=[_,_,_,_,_,_,_,_,_,_,_,_,_,_,_,_,_,_]) rfl ?_))))
     refine mvO rfl (mvD rfl (mvO rfl (mvD rfl (bo rfl rfl (bin_sub (c:=((p+(j+1)-1:Nat):Int)) (by omega) (wrap_i64 (by omega))) (mvO rfl (mvD rfl (bo rfl rfl (bin_sub (c:=((p+(j+1)-1:Nat):Int)) (by omega) (wrap_i64 (by omega))) ?_)))))))
     refine ixOn sl.Arcs rfl rfl (by omega) (ldEA ag.Arc (by decide) rfl rfl (rowA_el (show p+j<(u).length by omega)) (vs:=cellsArc ((u).getD (p+j) default)) rfl (nb9 rfl) (mvO rfl (mvD rfl (ixOn sl.Arcs rfl rfl (by omega) (ldEA ag.Arc (by decide) rfl rfl (rowA_el (show p+j+1<(u).length by omega)) (vs:=cellsArc ((u).getD (p+j+1) default)) rfl (nb9 rfl) (ixOn sl.Arcs rfl rfl (by omega) (stE sz.Arc rfl (d:=dArc ((u).getD (p+j) default)) vd_arc rfl rfl (by rw [lm9];omega) rfl ?_)))))))
     refine ixOn sl.Arcs rfl rfl (by omega) (stE sz.Arc rfl (d:=dArc ((u).getD (p+j+1) default)) vd_arc rfl rfl (by rw [List.length_set,lm9];omega) swpG_map (OL.nil (AW.rg hE rfl (mvD rfl (bo rfl rfl (bin_sub (c:=((p+(j+1)-1:Nat):Int)) (by omega) (wrap_i64 (by omega))) (asD rfl (OL.nil ?_)))))))
     exact AW.again (x:=(j+1,u)) (j,swpG u (p+j+1) (p+j)) (by (simp only [];omega)) ⟨⟨by omega,by rw [swpG_len];exact hul,by rw [← hs,sinkS,if_pos hk]⟩,Knows.app .rq5 .rq1,.cons rfl .nil⟩
    ·have hk:¬ ltA (u.getD (p+j+1) default) (u.getD (p+j) default)=true:=fun e=>df9 hk (dt9 e)
     exact AW.exit (AW.reach () ⟨trivial,Knows.app .rq5 (.nil),.cons (by rw [← hs,sinkS,if_neg hk];rfl) .nil⟩)
   ·have hj:¬ 0<j:=by have:=df9 hj;omega
    refine mvD rfl (OL.nd rfl (OL.nd rfl (OL.nd rfl (OL.nd rfl (OL.nd rfl (OL.nd rfl (OL.nd rfl ?_)))))))
    refine OL.nd rfl (OL.nd rfl (OL.nd rfl (OL.nd rfl (OL.nd rfl (pkF rfl rfl (OL.nil (cnF rfl ?_)))))))
    exact AW.exit (AW.reach () ⟨trivial,Knows.app .rq5 (.nil),.cons (by obtain rfl:j=0:=(by omega);rw [← hs];rfl) .nil⟩)
  rintro ⟨⟩ hφ
  exact AW.rg hE rfl (mvD rfl (bo rfl rfl (bin_add (c:=((p+i+1:Nat):Int)) (by omega) (wrap_i64 (by omega))) (asD rfl (OL.nil (AW.again (x:=i) (i+1) (by omega) ⟨⟨by omega,by omega⟩,Knows.app .rq4 .rq1,.cons (by rw [Nat.add_sub_cancel];rfl) .nil⟩)))))
 ·try simp only [dx9] at h14
  refine AW.exit ?_
  rw [show e-p-1=i-1 by omega]
  exact ⟨⟨_,.nil,_,.nil,rfl⟩,mem1_keep rfl⟩
theorem rotA {l:List Arc9}{b n c:Nat}(hl:l.length=n)(hN:n≤1000000){p m e:Nat}(h1:p<m)(h2:m<e)(h3:e≤n):FSpecM P F.slices_rotateCmpFunc_Arc [.osl 1000 b n c,.d (dI p),.d (dI m),.d (dI e),.fn F.automaton_order []] (mem1 1000 (rowA b c (l))) (.tup []) (mem1 1000 (rowA b c (rotL m (e-p) (m-p) (e-m) l))):=by
 refine FSpecM.intro fn.slices_rotateCmpFunc_Arc (by rfl) (by rfl) (nb9 (by rfl)) fun E hE=>(AW.sg hE rfl (mvD rfl (mvD rfl (bo rfl rfl (bin_sub (c:=((m-p:Nat):Int)) (by omega) (wrap_i64 (by omega))) (asD rfl (OL.nil (AW.sg hE rfl ?_)))))))
 refine mvD rfl (mvD rfl (bo rfl rfl (bin_sub (c:=((e-m:Nat):Int)) (by omega) (wrap_i64 (by omega))) (asD rfl (OL.nil (AW.seq (AW.block ?_))))))
 refine AW.whileK (α:=Nat × Nat × Nat × List Arc9) [(0,_),(2,_),(4,_)] [] (fun (k,i,j,u)=>[(10,.d (dI i)),(11,.d (dI j))]) (fun (k,i,j,u)=>[(1000,rowA b c (u))]) (fun (k,i,j,u)=>(0<i∧0<j∧i+j≤k)∧(i≤m∧m+j≤n)∧u.length=n∧rotL m k i j u=rotL m (e-p) (m-p) (e-m) l) (fun (k,i,j,u)=>k) (e-p,m-p,e-m,l) (.cons (knO rfl) (.cons (knD rfl) (.cons (knF rfl) .nil))) .nil ⟨⟨⟨by omega,by omega,by omega⟩,⟨by omega,by omega⟩,hl,rfl⟩,.rq2,.cons rfl .nil⟩ ?_
 rintro ⟨k,i,j,u⟩ ⟨⟨g1,g2,g3⟩,⟨g4,g5⟩,hul,hs⟩
 have g1:0<i:=g1
 have g2:0<j:=g2
 have g3:i+j≤k:=g3
 have g4:i≤m:=g4
 have g5:m+j≤n:=g5
 have hul:u.length=n:=hul
 obtain ⟨k,rfl⟩:∃ q,k=q+1:=⟨k-1,by omega⟩
 refine AW.seq (AW.sg hE rfl (mvD rfl (mvD rfl (c_neq rfl rfl rfl (OL.nil (AW.cond rfl (fun hn=>?_) (fun hn=>?_)))))))
 ·have hn:i≠j:=by have:=nd_t hn;omega
  refine AW.skip (AW.block (AW.sg hE rfl (mvD rfl (mvD rfl (c_gtr rfl rfl rfl (OL.nil (AW.cond rfl (fun hk=>?_) (fun hk=>?_))))))))
  ·have hk:j<i:=by have:=dt9 hk;omega
   refine AW.sg hE rfl (mvO rfl (mvD rfl (mvD rfl (bo rfl rfl (bin_sub (c:=((m-i:Nat):Int)) (by omega) (wrap_i64 (by omega))) (mvD rfl (mvD rfl (mvF rfl ?_)))))))
   refine OL.callM (v:=.tup []) (.mk (args':=[.osl 1000 b n c,.d (dI (m-i:Nat)),.d (dI m),.d (dI j),.fn F.automaton_order []]) rfl (.cons vR (.cons (VLe.int (by omega)) (.cons (VLe.int (by omega)) (.cons (VLe.int (by omega)) .rq1)))) (mem1_keep (id:=1000) (blk:=rowA b c (u)) rfl) mem1_sub (swapRA (l:=u) (p:=m-i) (q:=m) (k:=j) hul hN (by omega) (by omega))) ?_
   refine OL.nil (AW.rg hE rfl (mvD rfl (mvD rfl (bo rfl rfl (bin_sub (c:=((i-j:Nat):Int)) (by omega) (wrap_i64 (by omega))) (asD rfl (OL.nil ?_))))))
   exact AW.again (x:=(k+1,i,j,u)) (k,i-j,j,swpR u (m-i) m j) (by (simp only [];omega)) ⟨⟨⟨by omega,by omega,by omega⟩,⟨by omega,by omega⟩,by rw [swpR_len];exact hul,by rw [← hs,rotL,if_neg (by omega),if_pos hk]⟩,Knows.app .rq3 .rq2,.cons rfl .nil⟩
  ·have hk:¬ j<i:=by have:=df9 hk;omega
   refine AW.sg hE rfl (mvO rfl (mvD rfl (mvD rfl (bo rfl rfl (bin_sub (c:=((m-i:Nat):Int)) (by omega) (wrap_i64 (by omega))) (mvD rfl (mvD rfl (bo rfl rfl (bin_add (c:=((m+j:Nat):Int)) (by omega) (wrap_i64 (by omega))) ?_)))))))
   refine mvD rfl (bo rfl rfl (bin_sub (c:=((m+j-i:Nat):Int)) (by omega) (wrap_i64 (by omega))) (mvD rfl (mvF rfl ?_)))
   refine OL.callM (v:=.tup []) (.mk (args':=[.osl 1000 b n c,.d (dI (m-i:Nat)),.d (dI (m+j-i:Nat)),.d (dI i),.fn F.automaton_order []]) rfl (.cons vR (.cons (VLe.int (by omega)) (.cons (VLe.int (by omega)) (.cons (VLe.int (by omega)) .rq1)))) (mem1_keep (id:=1000) (blk:=rowA b c (u)) rfl) mem1_sub (swapRA (l:=u) (p:=m-i) (q:=m+j-i) (k:=i) hul hN (by omega) (by omega))) ?_
   refine OL.nil (AW.rg hE rfl (mvD rfl (mvD rfl (bo rfl rfl (bin_sub (c:=((j-i:Nat):Int)) (by omega) (wrap_i64 (by omega))) (asD rfl (OL.nil ?_))))))
   exact AW.again (x:=(k+1,i,j,u)) (k,i,j-i,swpR u (m-i) (m+j-i) i) (by (simp only [];omega)) ⟨⟨⟨by omega,by omega,by omega⟩,⟨by omega,by omega⟩,by rw [swpR_len];exact hul,by rw [← hs,rotL,if_neg (by omega),if_neg hk]⟩,Knows.app .rq3 .rq2,.cons rfl .nil⟩
 ·have hn:i=j:=by have:=nd_f hn;omega
  refine AW.exit (AW.rg hE rfl (mvO rfl (mvD rfl (mvD rfl (bo rfl rfl (bin_sub (c:=((m-i:Nat):Int)) (by omega) (wrap_i64 (by omega))) (mvD rfl (mvD rfl ?_)))))))
  refine mvF rfl ?_
  refine OL.callM (v:=.tup []) (.mk (args':=[.osl 1000 b n c,.d (dI (m-i:Nat)),.d (dI m),.d (dI i),.fn F.automaton_order []]) rfl (.cons vR (.cons (VLe.int (by omega)) (.cons (VLe.int (by omega)) (.cons (VLe.int (by omega)) .rq1)))) (mem1_keep (id:=1000) (blk:=rowA b c (u)) rfl) mem1_sub (swapRA (l:=u) (p:=m-i) (q:=m) (k:=i) hul hN (by omega) (by omega))) ?_
  refine OL.nil ?_
  rw [← hs,rotL,if_pos hn]
  exact ⟨⟨_,.nil,_,.nil,rfl⟩,mem1_keep rfl⟩
set_option maxRecDepth 4000 in
set_option maxHeartbeats 3200000 in
theorem symA1 {k : Nat} (ih : ∀ {l : List Arc9} {b n c : Nat} (hl : l.length = n) (hN : n ≤ 1000000) {p m e : Nat} (h1 : p < m) (h2 : m < e) (h3 : e ≤ n) (hk : e - p ≤ k), FSpecM P F.slices_symMergeCmpFunc_Arc [.osl 1000 b n c, .d (dI p), .d (dI m), .d (dI e), .fn F.automaton_order []] (mem1 1000 (rowA b c (l))) (.tup []) (mem1 1000 (rowA b c (symG ltA k l p m e)))) {l : List Arc9} {b n c : Nat} (hl : l.length = n) (hN : n ≤ 1000000) {p m e : Nat} (h1 : p < m) (h2 : m < e) (h3 : e ≤ n) (hk : e - p ≤ k + 1) : FSpecM P F.slices_symMergeCmpFunc_Arc [.osl 1000 b n c, .d (dI p), .d (dI m), .d (dI e), .fn F.automaton_order []] (mem1 1000 (rowA b c (l))) (.tup []) (mem1 1000 (rowA b c (symG ltA (k + 1) l p m e))) := by
 refine FSpecM.intro fn.slices_symMergeCmpFunc_Arc (by rfl) (by rfl) (nb9 (by rfl)) fun E hE=>(AW.seq (AW.sg hE rfl (mvD rfl (mvD rfl (bo rfl rfl (bin_sub (c:=((m-p:Nat):Int)) (by omega) (wrap_i64 (by omega))) (c_eql rfl rfl rfl (OL.nil ?_)))))))
 refine AW.cond rfl (fun hm1=>?_) (fun hm1=>?_)
 ·have hm1:m-p=1:=by have:=dt9 hm1;omega
  refine AW.sg hE rfl (mvD rfl (asD rfl (OL.nil (AW.sg hE rfl (mvD rfl (asD rfl (OL.nil ?_)))))))
  refine AW.seq (AW.block ?_)
  refine AW.whileK (α:=Nat × Nat × Nat) [(0,_),(1,_),(2,_),(3,_),(4,_)] [] (fun (q,lo,hi)=>[(10,.d (dI lo)),(11,.d (dI hi))]) (fun (q,lo,hi)=>[(1000,rowA b c (l))]) (fun (q,lo,hi)=>(m≤lo∧lo≤hi∧hi≤e∧hi-lo≤q)∧bsG (fun h=>ltA (l.getD h default) (l.getD p default)) q lo hi=bsG (fun h=>ltA (l.getD h default) (l.getD p default)) (e-m) m e) (fun (q,lo,hi)=>q) ((e-m),m,e) (.cons (knO rfl) (.cons (knD rfl) (.cons (knD rfl) (.cons (knD rfl) (.cons (knF rfl) .nil))))) .nil ⟨⟨⟨by omega,by omega,by omega,by omega⟩,rfl⟩,.rq2,.cons rfl .nil⟩ ?_
  rintro ⟨q,lo,hi⟩ ⟨⟨g1,g2,g3,g4⟩,hs⟩
  have g1:m≤lo:=g1
  have g2:lo≤hi:=g2
  have g3:hi≤e:=g3
  have g4:hi-lo≤q:=g4
  refine AW.seq (AW.sg hE rfl (mvD rfl (mvD rfl (c_lss rfl rfl rfl (OL.nil (AW.cond rfl (fun hlh=>?_) (fun hlh=>?_)))))))
  ·have hlh:lo<hi:=by have:=dt9 hlh;omega
   obtain ⟨q,rfl⟩:∃ w,q=w+1:=⟨q-1,by omega⟩
   refine AW.skip (AW.block (AW.sg hE rfl (mvD rfl (mvD rfl (bo rfl rfl (bin_add (c:=((lo+hi:Nat):Int)) (by omega) (wrap_i64 (by omega))) (cv it.int it.uint rfl (wrap_u64 (by omega)) (shrV rfl rfl ⟨by decide,by decide⟩ (c:=(((lo+hi) / 2:Nat):Int)) (by show (((lo+hi:Nat):Int)) / 2=_;omega) ?_)))))))
   refine cv it.uint it.int rfl (wrap_i64 (by omega)) (asD rfl (OL.nil (AW.seq (AW.dg 1 [0,1,2,3,4,5,6,7,8,9,10] order_free hE rfl (by kernel_rfl) (OI.of_OL (os:=[_,_,_,_,_,_,_,_,_,_,_]) rfl ?_)))))
   refine mvF rfl (mvO rfl (mvD rfl (ixOn sl.Arcs rfl rfl (by omega) (ldEA ag.Arc (by decide) rfl rfl (rowA_el (show (lo+hi) / 2<(l).length by omega)) (vs:=cellsArc ((l).getD ((lo+hi) / 2) default)) rfl (nb9 rfl) (mvO rfl (mvD rfl (ixOn sl.Arcs rfl rfl (by omega) ?_)))))))
   refine ldEA ag.Arc (by decide) rfl rfl (rowA_el (show p<(l).length by omega)) (vs:=cellsArc ((l).getD (p) default)) rfl (nb9 rfl) (clv rfl vL (orderA (x:=l.getD ((lo+hi) / 2) default) (y:=l.getD p default)) (c_lss rfl rfl rfl (OL.nil (AW.cond rfl (fun hk=>?_) (fun hk=>?_)))))
   ·have hk:ltA (l.getD ((lo+hi) / 2) default) (l.getD p default)=true:=hk
    refine AW.rg hE rfl (mvD rfl (bo rfl rfl (bin_add (c:=(((lo+hi) / 2+1:Nat):Int)) (by omega) (wrap_i64 (by omega))) (asD rfl (OL.nil ?_))))
    exact AW.again (x:=(q+1,lo,hi)) (q,(lo+hi) / 2+1,hi) (by (simp only [];omega)) ⟨⟨⟨by omega,by omega,by omega,by omega⟩,by rw [← hs,bsG,if_pos hlh,if_pos hk]⟩,Knows.app .rq5 .rq2,.cons rfl .nil⟩
   ·have hk:¬ ltA (l.getD ((lo+hi) / 2) default) (l.getD p default)=true:=fun e=>df9 hk (dt9 e)
    refine AW.rg hE rfl (mvD rfl (asD rfl (OL.nil ?_)))
    exact AW.again (x:=(q+1,lo,hi)) (q,lo,(lo+hi) / 2) (by (simp only [];omega)) ⟨⟨⟨by omega,by omega,by omega,by omega⟩,by rw [← hs,bsG,if_pos hlh,if_neg hk]⟩,Knows.app .rq5 .rq2,.cons rfl .nil⟩
  ·have hlh:¬ lo<hi:=by have:=df9 hlh;omega
   rw [bsG_done hlh] at hs
   refine AW.exit (AW.seq (AW.sg hE rfl (mvD rfl (asD rfl (OL.nil (AW.block ?_))))))
   refine AW.whileK (α:=Nat) [(0,_),(1,_),(2,_),(3,_),(4,_),(10,_)] [] (fun d=>[(13,.d (dI (p+d:Nat)))]) (fun d=>[(1000,rowA b c (upG l p d))]) (fun d=>d≤lo-1-p) (fun d=>lo-p-d) 0 (.cons (knO rfl) (.cons (knD rfl) (.cons (knD rfl) (.cons (knD rfl) (.cons (knF rfl) (.cons (knD rfl) .nil)))))) .nil ⟨Nat.zero_le _,.rq1,.cons rfl .nil⟩ ?_
   rintro d h4
   have h4:d≤lo-1-p:=h4
   have hul:=upG_len l p d
   obtain ⟨u,hu⟩:∃ u,u=upG l p d:=⟨_,rfl⟩
   rw [← hu] at hul ⊢
   refine AW.seq (AW.sg hE rfl (mvD rfl (mvD rfl (bo rfl rfl (bin_sub (c:=((lo-1:Nat):Int)) (by omega) (wrap_i64 (by omega))) (c_lss rfl rfl rfl (OL.nil (AW.cond rfl (fun h58=>?_) (fun h58=>?_))))))))
   ·try simp only [dx9] at h58
    refine AW.skip (AW.seq (AW.block (AW.dg 1 [0,1,2,3,4,5,6,7,8,9,10,11,12,13,14,15,16,17] order_free hE rfl (by kernel_rfl) (OI.of_OL (os:=[_,_,_,_,_,_,_,_,_,_,_,_,_,_,_,_,_,_]) rfl ?_))))
    refine mvO rfl (mvD rfl (mvO rfl (mvD rfl (bo rfl rfl (bin_add (c:=((p+d+1:Nat):Int)) (by omega) (wrap_i64 (by omega))) (mvO rfl (mvD rfl (bo rfl rfl (bin_add (c:=((p+d+1:Nat):Int)) (by omega) (wrap_i64 (by omega))) ?_)))))))
    refine ixOn sl.Arcs rfl rfl (by omega) (ldEA ag.Arc (by decide) rfl rfl (rowA_el (show p+d+1<(u).length by omega)) (vs:=cellsArc ((u).getD (p+d+1) default)) rfl (nb9 rfl) (mvO rfl (mvD rfl (ixOn sl.Arcs rfl rfl (by omega) (ldEA ag.Arc (by decide) rfl rfl (rowA_el (show p+d<(u).length by omega)) (vs:=cellsArc ((u).getD (p+d) default)) rfl (nb9 rfl) (ixOn sl.Arcs rfl rfl (by omega) (stE sz.Arc rfl (d:=dArc ((u).getD (p+d+1) default)) vd_arc rfl rfl (by rw [lm9];omega) rfl ?_)))))))
    refine ixOn sl.Arcs rfl rfl (by omega) (stE sz.Arc rfl (d:=dArc ((u).getD (p+d) default)) vd_arc rfl rfl (by rw [List.length_set,lm9];omega) swpG_map (OL.nil (AW.rg hE rfl (mvD rfl (bo rfl rfl (bin_add (c:=((p+d+1:Nat):Int)) (by omega) (wrap_i64 (by omega))) (asD rfl (OL.nil ?_)))))))
    exact AW.again (x:=d) (d+1) (by omega) ⟨by omega,Knows.app .rq6 .rq1,.cons (by rw [upG,← hu];rfl) .nil⟩
   ·try simp only [dx9] at h58
    refine AW.exit ?_
    have hfin:symG ltA (k+1) l p m e=u:=by rw [symG,if_pos hm1,← hs,hu,show lo-1-p=d by omega]
    rw [hfin]
    exact AW.ret ⟨⟨_,.nil,_,.nil,rfl⟩,mem1_keep rfl⟩
 ·have hm1 : ¬ m - p = 1 := by have := df9 hm1; omega
  refine AW.skip (AW.seq (AW.sg hE rfl (mvD rfl (mvD rfl (bo rfl rfl (bin_sub (c:=((e-m:Nat):Int)) (by omega) (wrap_i64 (by omega))) (c_eql rfl rfl rfl (OL.nil ?_)))))))
  refine AW.cond rfl (fun hm2=>?_) (fun hm2=>?_)
  ·have hm2:e-m=1:=by have:=dt9 hm2;omega
   refine AW.sg hE rfl (mvD rfl (asD rfl (OL.nil (AW.sg hE rfl (mvD rfl (asD rfl (OL.nil ?_)))))))
   refine AW.seq (AW.block ?_)
   refine AW.whileK (α:=Nat × Nat × Nat) [(0,_),(1,_),(2,_),(3,_),(4,_)] [] (fun (q,lo,hi)=>[(14,.d (dI lo)),(15,.d (dI hi))]) (fun (q,lo,hi)=>[(1000,rowA b c (l))]) (fun (q,lo,hi)=>(p≤lo∧lo≤hi∧hi≤m∧hi-lo≤q)∧bsG (fun h=>!ltA (l.getD m default) (l.getD h default)) q lo hi=bsG (fun h=>!ltA (l.getD m default) (l.getD h default)) (m-p) p m) (fun (q,lo,hi)=>q) ((m-p),p,m) (.cons (knO rfl) (.cons (knD rfl) (.cons (knD rfl) (.cons (knD rfl) (.cons (knF rfl) .nil))))) .nil ⟨⟨⟨by omega,by omega,by omega,by omega⟩,rfl⟩,.rq2,.cons rfl .nil⟩ ?_
   rintro ⟨q,lo,hi⟩ ⟨⟨g1,g2,g3,g4⟩,hs⟩
   have g1:p≤lo:=g1
   have g2:lo≤hi:=g2
   have g3:hi≤m:=g3
   have g4:hi-lo≤q:=g4
   refine AW.seq (AW.sg hE rfl (mvD rfl (mvD rfl (c_lss rfl rfl rfl (OL.nil (AW.cond rfl (fun hlh=>?_) (fun hlh=>?_)))))))
   ·have hlh:lo<hi:=by have:=dt9 hlh;omega
    obtain ⟨q,rfl⟩:∃ w,q=w+1:=⟨q-1,by omega⟩
    refine AW.skip (AW.block (AW.sg hE rfl (mvD rfl (mvD rfl (bo rfl rfl (bin_add (c:=((lo+hi:Nat):Int)) (by omega) (wrap_i64 (by omega))) (cv it.int it.uint rfl (wrap_u64 (by omega)) (shrV rfl rfl ⟨by decide,by decide⟩ (c:=(((lo+hi) / 2:Nat):Int)) (by show (((lo+hi:Nat):Int)) / 2=_;omega) ?_)))))))
    refine cv it.uint it.int rfl (wrap_i64 (by omega)) (asD rfl (OL.nil (AW.seq (AW.dg 1 [0,1,2,3,4,5,6,7,8,9,10,11] order_free hE rfl (by kernel_rfl) (OI.of_OL (os:=[_,_,_,_,_,_,_,_,_,_,_,_]) rfl ?_)))))
    refine mvF rfl (mvO rfl (mvD rfl (ixOn sl.Arcs rfl rfl (by omega) (ldEA ag.Arc (by decide) rfl rfl (rowA_el (show m<(l).length by omega)) (vs:=cellsArc ((l).getD (m) default)) rfl (nb9 rfl) (mvO rfl (mvD rfl (ixOn sl.Arcs rfl rfl (by omega) ?_)))))))
    refine ldEA ag.Arc (by decide) rfl rfl (rowA_el (show (lo+hi) / 2<(l).length by omega)) (vs:=cellsArc ((l).getD ((lo+hi) / 2) default)) rfl (nb9 rfl) (clv rfl vL (orderA (x:=l.getD m default) (y:=l.getD ((lo+hi) / 2) default)) (c_lss rfl rfl rfl (nt rfl (OL.nil (AW.cond rfl (fun hk=>?_) (fun hk=>?_))))))
    ·have hk:=hkT hk
     refine AW.rg hE rfl (mvD rfl (bo rfl rfl (bin_add (c:=(((lo+hi) / 2+1:Nat):Int)) (by omega) (wrap_i64 (by omega))) (asD rfl (OL.nil ?_))))
     exact AW.again (x:=(q+1,lo,hi)) (q,(lo+hi) / 2+1,hi) (by (simp only [];omega)) ⟨⟨⟨by omega,by omega,by omega,by omega⟩,by rw [← hs,bsG,if_pos hlh,if_pos hk]⟩,Knows.app .rq5 .rq2,.cons rfl .nil⟩
    ·have hk:=hkN hk
     refine AW.rg hE rfl (mvD rfl (asD rfl (OL.nil ?_)))
     exact AW.again (x:=(q+1,lo,hi)) (q,lo,(lo+hi) / 2) (by (simp only [];omega)) ⟨⟨⟨by omega,by omega,by omega,by omega⟩,by rw [← hs,bsG,if_pos hlh,if_neg hk]⟩,Knows.app .rq5 .rq2,.cons rfl .nil⟩
   ·have hlh:¬ lo<hi:=by have:=df9 hlh;omega
    rw [bsG_done hlh] at hs
    refine AW.exit (AW.seq (AW.sg hE rfl (mvD rfl (asD rfl (OL.nil (AW.block ?_))))))
    refine AW.whileK (α:=Nat) [(0,_),(1,_),(2,_),(3,_),(4,_),(14,_)] [] (fun d=>[(17,.d (dI (m-d:Nat)))]) (fun d=>[(1000,rowA b c (dnG l m d))]) (fun d=>d≤m-lo) (fun d=>m-d) 0 (.cons (knO rfl) (.cons (knD rfl) (.cons (knD rfl) (.cons (knD rfl) (.cons (knF rfl) (.cons (knD rfl) .nil)))))) .nil ⟨Nat.zero_le _,.rq1,.cons rfl .nil⟩ ?_
    rintro d h4
    have h4:d≤m-lo:=h4
    have hul:=dnG_len l m d
    obtain ⟨u,hu⟩:∃ u,u=dnG l m d:=⟨_,rfl⟩
    rw [← hu] at hul ⊢
    refine AW.seq (AW.sg hE rfl (mvD rfl (mvD rfl (c_gtr rfl rfl rfl (OL.nil (AW.cond rfl (fun h110=>?_) (fun h110=>?_)))))))
    ·try simp only [dx9] at h110
     refine AW.skip (AW.seq (AW.block (AW.dg 1 [0,1,2,3,4,5,6,7,8,9,10,11,12,13,14,15,16,17] order_free hE rfl (by kernel_rfl) (OI.of_OL (os:=[_,_,_,_,_,_,_,_,_,_,_,_,_,_,_,_,_,_]) rfl ?_))))
     refine mvO rfl (mvD rfl (mvO rfl (mvD rfl (bo rfl rfl (bin_sub (c:=((m-d-1:Nat):Int)) (by omega) (wrap_i64 (by omega))) (mvO rfl (mvD rfl (bo rfl rfl (bin_sub (c:=((m-d-1:Nat):Int)) (by omega) (wrap_i64 (by omega))) ?_)))))))
     refine ixOn sl.Arcs rfl rfl (by omega) (ldEA ag.Arc (by decide) rfl rfl (rowA_el (show m-d-1<(u).length by omega)) (vs:=cellsArc ((u).getD (m-d-1) default)) rfl (nb9 rfl) (mvO rfl (mvD rfl (ixOn sl.Arcs rfl rfl (by omega) (ldEA ag.Arc (by decide) rfl rfl (rowA_el (show m-d<(u).length by omega)) (vs:=cellsArc ((u).getD (m-d) default)) rfl (nb9 rfl) (ixOn sl.Arcs rfl rfl (by omega) (stE sz.Arc rfl (d:=dArc ((u).getD (m-d-1) default)) vd_arc rfl rfl (by rw [lm9];omega) rfl ?_)))))))
     refine ixOn sl.Arcs rfl rfl (by omega) (stE sz.Arc rfl (d:=dArc ((u).getD (m-d) default)) vd_arc rfl rfl (by rw [List.length_set,lm9];omega) swpG_map (OL.nil (AW.rg hE rfl (mvD rfl (bo rfl rfl (bin_sub (c:=((m-d-1:Nat):Int)) (by omega) (wrap_i64 (by omega))) (asD rfl (OL.nil ?_)))))))
     exact AW.again (x:=d) (d+1) (by omega) ⟨by omega,Knows.app .rq6 .rq1,.cons (by rw [dnG,← hu];rfl) .nil⟩
    ·try simp only [dx9] at h110
     refine AW.exit ?_
     have hfin:symG ltA (k+1) l p m e=u:=by rw [symG,if_neg hm1,if_pos hm2,← hs,hu,show m-lo=d by omega]
     rw [hfin]
     exact AW.ret ⟨⟨_,.nil,_,.nil,rfl⟩,mem1_keep rfl⟩
  ·have hm2 : ¬ e - m = 1 := by have := df9 hm2; omega
   refine AW.skip (AW.sg hE rfl (mvD rfl (mvD rfl (bo rfl rfl (bin_add (c:=((p+e:Nat):Int)) (by omega) (wrap_i64 (by omega))) (cv it.int it.uint rfl (wrap_u64 (by omega)) (shrV rfl rfl ⟨by decide,by decide⟩ (c:=(((p+e) / 2:Nat):Int)) (by show (((p+e:Nat):Int)) / 2=_;omega) (cv it.uint it.int rfl (wrap_i64 (by omega)) ?_)))))))
   refine asD rfl (OL.nil (AW.sg hE rfl (mvD rfl (mvD rfl (bo rfl rfl (bin_add (c:=((((p+e) / 2)+m:Nat):Int)) (by omega) (wrap_i64 (by omega))) (asD rfl (OL.nil ?_)))))))
   refine AW.sg hE rfl (asD rfl (asD rfl (OL.nil ?_)))
   refine AW.midK (α:=Nat × Nat) [(0,_),(1,_),(2,_),(3,_),(4,_),(18,_),(19,_)] [(1000,_)] (fun (lo0,hi0)=>[(20,.d (dI lo0)),(21,.d (dI hi0))]) (fun (lo0,hi0)=>[]) (fun (lo0,hi0)=>(p≤lo0∧lo0≤hi0∧hi0≤m∧hi0≤((p+e) / 2)∧(((p+e) / 2)+m)≤e+lo0)∧(lo0=if ((p+e) / 2)<m then (((p+e) / 2)+m)-e else p)∧(hi0=if ((p+e) / 2)<m then ((p+e) / 2) else m)) (.cons (knO rfl) (.cons (knD rfl) (.cons (knD rfl) (.cons (knD rfl) (.cons (knF rfl) (.cons (knD rfl) (.cons (knD rfl) .nil))))))) (.cons (owR rfl) .nil) ?_ ?_
   ·refine AW.sg hE rfl (mvD rfl (mvD rfl (c_gtr rfl rfl rfl (OL.nil (AW.cond rfl (fun hmm=>?_) (fun hmm=>?_))))))
    ·have hmm:((p+e) / 2)<m:=by have:=dt9 hmm;omega
     refine AW.sg hE rfl (mvD rfl (mvD rfl (bo rfl rfl (bin_sub (c:=(((((p+e) / 2)+m)-e:Nat):Int)) (by omega) (wrap_i64 (by omega))) (asD rfl (OL.nil (AW.rg hE rfl (mvD rfl ?_)))))))
     refine asD rfl (OL.nil ?_)
     exact AW.reach ((((p+e) / 2)+m)-e,((p+e) / 2)) ⟨⟨⟨by omega,by omega,by omega,by omega,by omega⟩,(if_pos hmm).symm,(if_pos hmm).symm⟩,Knows.app .rq7 .rq2,Owns.app (.cons rfl .nil) (.nil)⟩
    ·have hmm:¬ ((p+e) / 2)<m:=by have:=df9 hmm;omega
     refine AW.sg hE rfl (mvD rfl (asD rfl (OL.nil (AW.rg hE rfl (mvD rfl (asD rfl (OL.nil ?_)))))))
     exact AW.reach (p,m) ⟨⟨⟨by omega,by omega,by omega,by omega,by omega⟩,(if_neg hmm).symm,(if_neg hmm).symm⟩,Knows.app .rq7 .rq2,Owns.app (.cons rfl .nil) (.nil)⟩
   rintro ⟨lo0,hi0⟩ ⟨⟨f1,f2,f3,f4,f5⟩,hlo,hhi⟩
   have f1:p≤lo0:=f1
   have f2:lo0≤hi0:=f2
   have f3:hi0≤m:=f3
   have f4:hi0≤((p+e) / 2):=f4
   have f5:(((p+e) / 2)+m)≤e+lo0:=f5
   have hlo:lo0=if ((p+e) / 2)<m then (((p+e) / 2)+m)-e else p:=hlo
   have hhi:hi0=if ((p+e) / 2)<m then ((p+e) / 2) else m:=hhi
   refine AW.sg hE rfl (mvD rfl (bo rfl rfl (bin_sub (c:=(((((p+e) / 2)+m)-1:Nat):Int)) (by omega) (wrap_i64 (by omega))) (asD rfl (OL.nil (AW.seq (AW.block ?_))))))
   refine AW.whileK (α:=Nat × Nat × Nat) [(0,_),(1,_),(2,_),(3,_),(4,_),(18,_),(19,_),(22,_)] [] (fun (q,lo,hi)=>[(20,.d (dI lo)),(21,.d (dI hi))]) (fun (q,lo,hi)=>[(1000,rowA b c (l))]) (fun (q,lo,hi)=>(lo0≤lo∧lo≤hi∧hi≤hi0∧hi-lo≤q)∧bsG (fun h=>!ltA (l.getD ((((p+e) / 2)+m)-1-h) default) (l.getD h default)) q lo hi=bsG (fun h=>!ltA (l.getD ((((p+e) / 2)+m)-1-h) default) (l.getD h default)) (hi0-lo0) lo0 hi0) (fun (q,lo,hi)=>q) ((hi0-lo0),lo0,hi0) (.cons (knO rfl) (.cons (knD rfl) (.cons (knD rfl) (.cons (knD rfl) (.cons (knF rfl) (.cons (knD rfl) (.cons (knD rfl) (.cons (knD rfl) .nil)))))))) .nil ⟨⟨⟨by omega,by omega,by omega,by omega⟩,rfl⟩,.rq2,.cons rfl .nil⟩ ?_
   rintro ⟨q,lo,hi⟩ ⟨⟨g1,g2,g3,g4⟩,hs⟩
   have g1:lo0≤lo:=g1
   have g2:lo≤hi:=g2
   have g3:hi≤hi0:=g3
   have g4:hi-lo≤q:=g4
   refine AW.seq (AW.sg hE rfl (mvD rfl (mvD rfl (c_lss rfl rfl rfl (OL.nil (AW.cond rfl (fun hlh=>?_) (fun hlh=>?_)))))))
   ·have hlh:lo<hi:=by have:=dt9 hlh;omega
    obtain ⟨q,rfl⟩:∃ w,q=w+1:=⟨q-1,by omega⟩
    refine AW.skip (AW.block (AW.sg hE rfl (mvD rfl (mvD rfl (bo rfl rfl (bin_add (c:=((lo+hi:Nat):Int)) (by omega) (wrap_i64 (by omega))) (cv it.int it.uint rfl (wrap_u64 (by omega)) (shrV rfl rfl ⟨by decide,by decide⟩ (c:=(((lo+hi) / 2:Nat):Int)) (by show (((lo+hi:Nat):Int)) / 2=_;omega) ?_)))))))
    refine cv it.uint it.int rfl (wrap_i64 (by omega)) (asD rfl (OL.nil (AW.seq (AW.dg 1 [0,1,2,3,4,5,6,7,8,9,10,11,12,13] order_free hE rfl (by kernel_rfl) (OI.of_OL (os:=[_,_,_,_,_,_,_,_,_,_,_,_,_,_]) rfl ?_)))))
    refine mvF rfl (mvO rfl (mvD rfl (mvD rfl (bo rfl rfl (bin_sub (c:=((((((p+e) / 2)+m)-1)-(lo+hi) / 2:Nat):Int)) (by omega) (wrap_i64 (by omega))) (ixOn sl.Arcs rfl rfl (by omega) (ldEA ag.Arc (by decide) rfl rfl (rowA_el (show (((p+e) / 2)+m)-1-(lo+hi) / 2<(l).length by omega)) (vs:=cellsArc ((l).getD ((((p+e) / 2)+m)-1-(lo+hi) / 2) default)) rfl (nb9 rfl) (mvO rfl ?_)))))))
    refine mvD rfl (ixOn sl.Arcs rfl rfl (by omega) (ldEA ag.Arc (by decide) rfl rfl (rowA_el (show (lo+hi) / 2<(l).length by omega)) (vs:=cellsArc ((l).getD ((lo+hi) / 2) default)) rfl (nb9 rfl) (clv rfl vL (orderA (x:=l.getD ((((p+e) / 2)+m)-1-(lo+hi) / 2) default) (y:=l.getD ((lo+hi) / 2) default)) (c_lss rfl rfl rfl (nt rfl (OL.nil (AW.cond rfl (fun hk=>?_) (fun hk=>?_))))))))
    ·have hk:=hkT hk
     refine AW.rg hE rfl (mvD rfl (bo rfl rfl (bin_add (c:=(((lo+hi) / 2+1:Nat):Int)) (by omega) (wrap_i64 (by omega))) (asD rfl (OL.nil ?_))))
     exact AW.again (x:=(q+1,lo,hi)) (q,(lo+hi) / 2+1,hi) (by (simp only [];omega)) ⟨⟨⟨by omega,by omega,by omega,by omega⟩,by rw [← hs,bsG,if_pos hlh,if_pos hk]⟩,Knows.app .rq8 .rq2,.cons rfl .nil⟩
    ·have hk:=hkN hk
     refine AW.rg hE rfl (mvD rfl (asD rfl (OL.nil ?_)))
     exact AW.again (x:=(q+1,lo,hi)) (q,lo,(lo+hi) / 2) (by (simp only [];omega)) ⟨⟨⟨by omega,by omega,by omega,by omega⟩,by rw [← hs,bsG,if_pos hlh,if_neg hk]⟩,Knows.app .rq8 .rq2,.cons rfl .nil⟩
   ·have hlh:¬ lo<hi:=by have:=df9 hlh;omega
    rw [bsG_done hlh] at hs
    refine AW.exit (AW.sg hE rfl (mvD rfl (mvD rfl (bo rfl rfl (bin_sub (c:=(((((p+e) / 2)+m)-lo:Nat):Int)) (by omega) (wrap_i64 (by omega))) (asD rfl (OL.nil ?_))))))
    refine AW.midK (α:=List Arc9) [(0,_),(1,_),(3,_),(4,_),(18,_),(20,_),(24,_)] [] (fun u=>[]) (fun u=>[(1000,rowA b c (u))]) (fun u=>u=if lo<m∧m<(((p+e) / 2)+m)-lo then rotL m ((((p+e) / 2)+m)-lo-lo) (m-lo) ((((p+e) / 2)+m)-lo-m) l else l) (.cons (knO rfl) (.cons (knD rfl) (.cons (knD rfl) (.cons (knF rfl) (.cons (knD rfl) (.cons (knD rfl) (.cons (knD rfl) .nil))))))) .nil ?_ ?_
    ·refine AW.midK (α:=Bool) [(0,_),(1,_),(2,_),(3,_),(4,_),(18,_),(20,_),(24,_)] [(1000,_)] (fun w=>[(185,.d (dB w))]) (fun w=>[]) (fun w=>w=decide (lo<m∧m<(((p+e) / 2)+m)-lo)) (.cons (knO rfl) (.cons (knD rfl) (.cons (knD rfl) (.cons (knD rfl) (.cons (knF rfl) (.cons (knD rfl) (.cons (knD rfl) (.cons (knD rfl) .nil)))))))) (.cons (owR rfl) .nil) ?_ ?_
     ·refine AW.rg hE rfl (mvD rfl (mvD rfl (c_lss rfl rfl rfl (OL.split 180 rfl (fun gA=>?_) (fun gA=>?_)))))
      ·have gA:lo<m:=by have:=dt9 gA;omega
       refine mvD rfl (OL.yes rfl (mvD rfl (OL.yes rfl (mvD rfl (OL.yes rfl (c_lss rfl rfl rfl (OL.split 184 rfl (fun gB=>?_) (fun gB=>?_))))))))
       ·have gB:m<(((p+e) / 2)+m)-lo:=by have:=dt9 gB;omega
        refine pkT rfl rfl (OL.nil ?_)
        exact AW.reach true ⟨(decide_eq_true ⟨gA,gB⟩).symm,Knows.app .rq8 .rq1,Owns.app (.cons rfl .nil) (.nil)⟩
       ·have gB:¬ m<(((p+e) / 2)+m)-lo:=by have:=df9 gB;omega
        refine pkT rfl rfl (OL.nil ?_)
        exact AW.reach false ⟨(decide_eq_false fun h=>gB h.2).symm,Knows.app .rq8 .rq1,Owns.app (.cons rfl .nil) (.nil)⟩
      ·have gA:¬ lo<m:=by have:=df9 gA;omega
       refine mvD rfl (OL.nd rfl (OL.nd rfl (OL.nd rfl (pkF rfl rfl (OL.nil ?_)))))
       exact AW.reach false ⟨(decide_eq_false fun h=>gA h.1).symm,Knows.app .rq8 .rq1,Owns.app (.cons rfl .nil) (.nil)⟩
     rintro w hw
     refine AW.cond rfl (fun hc=>?_) (fun hc=>?_)
     ·have hc:lo<m∧m<(((p+e) / 2)+m)-lo:=dt9 (hw.symm.trans hc)
      refine AW.rg hE rfl (mvO rfl (mvD rfl (mvD rfl (mvD rfl (mvF rfl ?_)))))
      refine OL.callM (v:=.tup []) (.mk (args':=[.osl 1000 b n c,.d (dI lo),.d (dI m),.d (dI ((((p+e) / 2)+m)-lo:Nat)),.fn F.automaton_order []]) rfl (.cons vR (.cons (VLe.int (by omega)) (.cons (VLe.int (by omega)) (.cons (VLe.int (by omega)) .rq1)))) (mem1_keep (id:=1000) (blk:=rowA b c (l)) rfl) mem1_sub (rotA (l:=l) (p:=lo) (m:=m) (e:=(((p+e) / 2)+m)-lo) hl hN (by omega) (by omega) (by omega))) ?_
      refine OL.nil ?_
      exact AW.reach (rotL m ((((p+e) / 2)+m)-lo-lo) (m-lo) ((((p+e) / 2)+m)-lo-m) l) ⟨(if_pos hc).symm,Knows.app .rq7 (.nil),.cons rfl .nil⟩
     ·have hc:¬ (lo<m∧m<(((p+e) / 2)+m)-lo):=df9 (hw.symm.trans hc)
      exact AW.skip (AW.reach l ⟨(if_neg hc).symm,Knows.app .rq7 (.nil),.cons rfl .nil⟩)
    rintro u hu1
    have hu1:u=if lo<m∧m<(((p+e) / 2)+m)-lo then rotL m ((((p+e) / 2)+m)-lo-lo) (m-lo) ((((p+e) / 2)+m)-lo-m) l else l:=hu1
    have hul:u.length=n:=by rw [hu1];split <;> first|exact hl|(rw [rotL_len];exact hl)
    refine AW.midK (α:=List Arc9) [(0,_),(3,_),(4,_),(18,_),(24,_)] [] (fun u2=>[]) (fun u2=>[(1000,rowA b c (u2))]) (fun u2=>u2=if p<lo∧lo<((p+e) / 2) then symG ltA k u p lo ((p+e) / 2) else u) (.cons (knO rfl) (.cons (knD rfl) (.cons (knF rfl) (.cons (knD rfl) (.cons (knD rfl) .nil))))) .nil ?_ ?_
    ·refine AW.midK (α:=Bool) [(0,_),(1,_),(3,_),(4,_),(18,_),(20,_),(24,_)] [(1000,_)] (fun w=>[(199,.d (dB w))]) (fun w=>[]) (fun w=>w=decide (p<lo∧lo<((p+e) / 2))) (.cons (knO rfl) (.cons (knD rfl) (.cons (knD rfl) (.cons (knF rfl) (.cons (knD rfl) (.cons (knD rfl) (.cons (knD rfl) .nil))))))) (.cons (owR rfl) .nil) ?_ ?_
     ·refine AW.rg hE rfl (mvD rfl (mvD rfl (c_lss rfl rfl rfl (OL.split 194 rfl (fun gA=>?_) (fun gA=>?_)))))
      ·have gA:p<lo:=by have:=dt9 gA;omega
       refine mvD rfl (OL.yes rfl (mvD rfl (OL.yes rfl (mvD rfl (OL.yes rfl (c_lss rfl rfl rfl (OL.split 198 rfl (fun gB=>?_) (fun gB=>?_))))))))
       ·have gB:lo<((p+e) / 2):=by have:=dt9 gB;omega
        refine pkT rfl rfl (OL.nil ?_)
        exact AW.reach true ⟨(decide_eq_true ⟨gA,gB⟩).symm,Knows.app .rq7 .rq1,Owns.app (.cons rfl .nil) (.nil)⟩
       ·have gB:¬ lo<((p+e) / 2):=by have:=df9 gB;omega
        refine pkT rfl rfl (OL.nil ?_)
        exact AW.reach false ⟨(decide_eq_false fun h=>gB h.2).symm,Knows.app .rq7 .rq1,Owns.app (.cons rfl .nil) (.nil)⟩
      ·have gA:¬ p<lo:=by have:=df9 gA;omega
       refine mvD rfl (OL.nd rfl (OL.nd rfl (OL.nd rfl (pkF rfl rfl (OL.nil ?_)))))
       exact AW.reach false ⟨(decide_eq_false fun h=>gA h.1).symm,Knows.app .rq7 .rq1,Owns.app (.cons rfl .nil) (.nil)⟩
     rintro w hw
     refine AW.cond rfl (fun hc=>?_) (fun hc=>?_)
     ·have hc:p<lo∧lo<((p+e) / 2):=dt9 (hw.symm.trans hc)
      refine AW.rg hE rfl (mvO rfl (mvD rfl (mvD rfl (mvD rfl (mvF rfl ?_)))))
      refine OL.callM (v:=.tup []) (.mk (args':=[.osl 1000 b n c,.d (dI p),.d (dI lo),.d (dI (((p+e) / 2):Nat)),.fn F.automaton_order []]) rfl (.cons vR (.cons (VLe.int (by omega)) (.cons (VLe.int (by omega)) (.cons (VLe.int (by omega)) .rq1)))) (mem1_keep (id:=1000) (blk:=rowA b c (u)) rfl) mem1_sub (ih (l:=u) (p:=p) (m:=lo) (e:=((p+e) / 2)) hul hN (by omega) (by omega) (by omega) (by omega))) ?_
      exact OL.nil (AW.reach (symG ltA k u p lo ((p+e) / 2)) ⟨(if_pos hc).symm,Knows.app .rq5 (.nil),.cons rfl .nil⟩)
     ·have hc:¬ (p<lo∧lo<((p+e) / 2)):=df9 (hw.symm.trans hc)
      exact AW.skip (AW.reach u ⟨(if_neg hc).symm,Knows.app .rq5 (.nil),.cons rfl .nil⟩)
    rintro u2 hu2
    have hu2:u2=if p<lo∧lo<((p+e) / 2) then symG ltA k u p lo ((p+e) / 2) else u:=hu2
    have hul2:u2.length=n:=by rw [hu2];split <;> first|exact hul|(rw [symG_len];exact hul)
    refine AW.midK (α:=Bool) [(0,_),(3,_),(4,_),(18,_),(24,_)] [(1000,_)] (fun w=>[(213,.d (dB w))]) (fun w=>[]) (fun w=>w=decide (((p+e) / 2)<(((p+e) / 2)+m)-lo∧(((p+e) / 2)+m)-lo<e)) (.cons (knO rfl) (.cons (knD rfl) (.cons (knF rfl) (.cons (knD rfl) (.cons (knD rfl) .nil))))) (.cons (owR rfl) .nil) ?_ ?_
    ·refine AW.rg hE rfl (mvD rfl (mvD rfl (c_lss rfl rfl rfl (OL.split 208 rfl (fun gA=>?_) (fun gA=>?_)))))
     ·have gA:((p+e) / 2)<(((p+e) / 2)+m)-lo:=by have:=dt9 gA;omega
      refine mvD rfl (OL.yes rfl (mvD rfl (OL.yes rfl (mvD rfl (OL.yes rfl (c_lss rfl rfl rfl (OL.split 212 rfl (fun gB=>?_) (fun gB=>?_))))))))
      ·have gB:(((p+e) / 2)+m)-lo<e:=by have:=dt9 gB;omega
       exact pkT rfl rfl (OL.nil (AW.reach true ⟨(decide_eq_true ⟨gA,gB⟩).symm,Knows.app .rq5 .rq1,Owns.app (.cons rfl .nil) (.nil)⟩))
      ·have gB:¬ (((p+e) / 2)+m)-lo<e:=by have:=df9 gB;omega
       exact pkT rfl rfl (OL.nil (AW.reach false ⟨(decide_eq_false fun h=>gB h.2).symm,Knows.app .rq5 .rq1,Owns.app (.cons rfl .nil) (.nil)⟩))
     ·have gA:¬ ((p+e) / 2)<(((p+e) / 2)+m)-lo:=by have:=df9 gA;omega
      exact mvD rfl (OL.nd rfl (OL.nd rfl (OL.nd rfl (pkF rfl rfl (OL.nil (AW.reach false ⟨(decide_eq_false fun h=>gA h.1).symm,Knows.app .rq5 .rq1,Owns.app (.cons rfl .nil) (.nil)⟩))))))
    rintro w hw
    refine AW.cond rfl (fun hc=>?_) (fun hc=>?_)
    ·have hc:((p+e) / 2)<(((p+e) / 2)+m)-lo∧(((p+e) / 2)+m)-lo<e:=dt9 (hw.symm.trans hc)
     refine AW.rg hE rfl (mvO rfl (mvD rfl (mvD rfl (mvD rfl (mvF rfl ?_)))))
     refine OL.callM (v:=.tup []) (.mk (args':=[.osl 1000 b n c,.d (dI (((p+e) / 2):Nat)),.d (dI ((((p+e) / 2)+m)-lo:Nat)),.d (dI e),.fn F.automaton_order []]) rfl (.cons vR (.cons (VLe.int (by omega)) (.cons (VLe.int (by omega)) (.cons (VLe.int (by omega)) .rq1)))) (mem1_keep (id:=1000) (blk:=rowA b c (u2)) rfl) mem1_sub (ih (l:=u2) (p:=((p+e) / 2)) (m:=(((p+e) / 2)+m)-lo) (e:=e) hul2 hN (by omega) (by omega) (by omega) (by omega))) ?_
     refine OL.nil ?_
     have hfin:symG ltA (k+1) l p m e=(if ((p+e) / 2)<(((p+e) / 2)+m)-lo∧(((p+e) / 2)+m)-lo<e then symG ltA k u2 ((p+e) / 2) ((((p+e) / 2)+m)-lo) e else u2):=by
      rw [symG,if_neg hm1,if_neg hm2]
      simp only []
      rw [← hlo,← hhi,← hs,← hu1,← hu2]
     rw [hfin,if_pos hc]
     exact ⟨⟨_,.nil,_,.nil,rfl⟩,mem1_keep rfl⟩
    ·have hc:¬ (((p+e) / 2)<(((p+e) / 2)+m)-lo∧(((p+e) / 2)+m)-lo<e):=df9 (hw.symm.trans hc)
     refine AW.skip ?_
     have hfin:symG ltA (k+1) l p m e=(if ((p+e) / 2)<(((p+e) / 2)+m)-lo∧(((p+e) / 2)+m)-lo<e then symG ltA k u2 ((p+e) / 2) ((((p+e) / 2)+m)-lo) e else u2):=by
      rw [symG,if_neg hm1,if_neg hm2]
      simp only []
      rw [← hlo,← hhi,← hs,← hu1,← hu2]
     rw [hfin,if_neg hc]
     exact ⟨⟨_,.nil,_,.nil,rfl⟩,mem1_keep rfl⟩
theorem symA:∀ {k:Nat} {l:List Arc9} {b n c:Nat} (hl:l.length=n) (hN:n≤1000000) {p m e:Nat} (h1:p<m) (h2:m<e) (h3:e≤n) (hk:e-p≤k),FSpecM P F.slices_symMergeCmpFunc_Arc [.osl 1000 b n c,.d (dI p),.d (dI m),.d (dI e),.fn F.automaton_order []] (mem1 1000 (rowA b c (l))) (.tup []) (mem1 1000 (rowA b c (symG ltA k l p m e)))
 | 0,_,_,_,_,_,_,_,_,_,h1,h2,_,hk=>by omega
 | k+1,_,_,_,_,hl,hN,_,_,_,h1,h2,h3,hk=>symA1 (fun hl hN _ _ _ h1 h2 h3 hk=>symA hl hN h1 h2 h3 hk) hl hN h1 h2 h3 hk
set_option maxHeartbeats 1600000 in
theorem stabSA {l:List Arc9}{b n c:Nat}(hl:l.length=n)(hN:n≤1000000):FSpecM P F.slices_stableCmpFunc_Arc [.osl 1000 b n c,.d (dI n),.fn F.automaton_order []] (mem1 1000 (rowA b c (l))) (.tup []) (mem1 1000 (rowA b c (stabA l))):=by
 refine FSpecM.intro fn.slices_stableCmpFunc_Arc (by rfl) (by rfl) (nb9 (by rfl)) fun E hE=>(AW.sg hE rfl (asD rfl (OL.nil (AW.sg hE rfl (mvD rfl (asD rfl (asD rfl ?_)))))))
 refine OL.nil (AW.seq (AW.block ?_))
 refine AW.whileK (α:=Nat) [(0,_),(1,_),(2,_),(6,_)] [] (fun i=>[(7,.d (dI (20*i:Nat))),(8,.d (dI (20*i+20:Nat)))]) (fun i=>[(1000,rowA b c (blocksG ltA i l))]) (fun i=>20*i≤n) (fun i=>n-i) 0 (.cons (knO rfl) (.cons (knD rfl) (.cons (knF rfl) (.cons (knD rfl) .nil)))) .nil ⟨Nat.zero_le _,.rq2,.cons rfl .nil⟩ ?_
 rintro i h1
 have h1:20*i≤n:=h1
 have hbl:(blocksG ltA i l).length=n:=(blocksG_len ltA i l).trans hl
 refine AW.seq (AW.sg hE rfl (mvD rfl (mvD rfl (c_leq rfl rfl rfl (OL.nil (AW.cond rfl (fun hc=>?_) (fun hc=>?_)))))))
 ·have hc:20*i+20≤n:=by have:=dt9 hc;omega
  refine AW.skip (AW.block (AW.sg hE rfl (mvO rfl (mvD rfl (mvD rfl (mvF rfl ?_))))))
  refine OL.callM (v:=.tup []) (.mk (args':=[.osl 1000 b n c,.d (dI (20*i:Nat)),.d (dI (20*i+20:Nat)),.fn F.automaton_order []]) rfl (.cons vR (.cons (VLe.int (by omega)) (.cons (VLe.int (by omega)) .rq1))) (mem1_keep (id:=1000) (blk:=rowA b c (blocksG ltA i l)) rfl) mem1_sub (insSA (l:=blocksG ltA i l) (p:=20*i) (e:=20*i+20) hbl hN (by omega) (by omega))) ?_
  refine OL.nil (AW.sg hE rfl (mvD rfl (asD rfl (OL.nil (AW.rg hE rfl (mvD rfl (mvD rfl ?_)))))))
  refine bo rfl rfl (bin_add (c:=((20*i+20+20:Nat):Int)) (by omega) (wrap_i64 (by omega))) (asD rfl (OL.nil ?_))
  exact AW.again (x:=i) (i+1) (by omega) ⟨by omega,Knows.app .rq4 .rq2,.cons (by rw [blocksG,show 20*i+20-20*i-1=19 by omega];rfl) .nil⟩
 ·have hc:¬ 20*i+20≤n:=by have:=df9 hc;omega
  refine AW.exit (AW.sg hE rfl (mvO rfl (mvD rfl (mvD rfl (mvF rfl ?_)))))
  refine OL.callM (v:=.tup []) (.mk (args':=[.osl 1000 b n c,.d (dI (20*i:Nat)),.d (dI n),.fn F.automaton_order []]) rfl (.cons vR (.cons (VLe.int (by omega)) (.cons (VLe.int (by omega)) .rq1))) (mem1_keep (id:=1000) (blk:=rowA b c (blocksG ltA i l)) rfl) mem1_sub (insSA (l:=blocksG ltA i l) (p:=20*i) (e:=n) hbl hN (by omega) (by omega))) ?_
  refine OL.nil (AW.block ?_)
  refine AW.whileK (α:=Nat × Nat × List Arc9) [(0,_),(1,_),(2,_)] [] (fun (k,s,u)=>[(6,.d (dI s))]) (fun (k,s,u)=>[(1000,rowA b c (u))]) (fun (k,s,u)=>(0<s∧s≤2*n+20∧n≤s+k)∧u.length=n∧outG ltA n k s u=stabA l) (fun (k,s,u)=>k) (n,20,insS ltA (20*i) (n-20*i-1) (blocksG ltA i l)) (.cons (knO rfl) (.cons (knD rfl) (.cons (knF rfl) .nil))) .nil ⟨⟨⟨by decide,by omega,by omega⟩,by rw [insS_len];exact hbl,by unfold stabA stabG firstG;rw [hl,show n / 20=i by omega]⟩,.rq1,.cons rfl .nil⟩ ?_
  rintro ⟨k,s,u⟩ ⟨⟨g1,g2,g3⟩,hul,hs⟩
  have g1:0<s:=g1
  have g2:s≤2*n+20:=g2
  have g3:n≤s+k:=g3
  have hul:u.length=n:=hul
  refine AW.seq (AW.sg hE rfl (mvD rfl (mvD rfl (c_lss rfl rfl rfl (OL.nil (AW.cond rfl (fun hc=>?_) (fun hc=>?_)))))))
  ·have hc:s<n:=by have:=dt9 hc;omega
   obtain ⟨k,rfl⟩:∃ w,k=w+1:=⟨k-1,by omega⟩
   refine AW.skip (AW.block (AW.sg hE rfl (mvD rfl (bo rfl rfl (bin_mul (c:=((2*s:Nat):Int)) (by omega) (wrap_i64 (by omega))) (asD rfl (asD rfl (OL.nil ?_)))))))
   refine AW.seq (AW.block ?_)
   refine AW.whileK (α:=Nat × Nat) [(0,_),(1,_),(2,_),(6,_)] [] (fun (i,p)=>[(7,.d (dI p)),(8,.d (dI (p+2*s:Nat)))]) (fun (i,p)=>[(1000,rowA b c (stepMG ltA s n i u))]) (fun (i,p)=>p=2*s*i∧p≤n) (fun (i,p)=>n-p) (0,0) (.cons (knO rfl) (.cons (knD rfl) (.cons (knF rfl) (.cons (knD rfl) .nil)))) .nil ⟨⟨rfl,Nat.zero_le _⟩,.cons vR (.cons (VLe.int (by omega)) .nil),.cons rfl .nil⟩ ?_
   rintro ⟨i,p⟩ ⟨hp,h1⟩
   have hp:p=2*s*i:=hp
   have h1:p≤n:=h1
   have hvl:(stepMG ltA s n i u).length=n:=(stepMG_len ltA s n i u).trans hul
   refine AW.seq (AW.sg hE rfl (mvD rfl (mvD rfl (c_leq rfl rfl rfl (OL.nil (AW.cond rfl (fun hd=>?_) (fun hd=>?_)))))))
   ·have hd:p+2*s≤n:=by have:=dt9 hd;omega
    refine AW.skip (AW.block (AW.sg hE rfl (mvO rfl (mvD rfl (mvD rfl (mvD rfl (bo rfl rfl (bin_add (c:=((p+s:Nat):Int)) (by omega) (wrap_i64 (by omega))) ?_)))))))
    refine mvD rfl (mvF rfl ?_)
    refine OL.callM (v:=.tup []) (.mk (args':=[.osl 1000 b n c,.d (dI p),.d (dI (p+s:Nat)),.d (dI (p+2*s:Nat)),.fn F.automaton_order []]) rfl (.cons vR (.cons (VLe.int (by omega)) (.cons (VLe.int (by omega)) (.cons (VLe.int (by omega)) .rq1)))) (mem1_keep (id:=1000) (blk:=rowA b c (stepMG ltA s n i u)) rfl) mem1_sub (symA (k:=2*s) (l:=stepMG ltA s n i u) (p:=p) (m:=p+s) (e:=p+2*s) hvl hN (by omega) (by omega) (by omega) (by omega))) ?_
    refine OL.nil (AW.sg hE rfl (mvD rfl (asD rfl (OL.nil (AW.rg hE rfl (mvD rfl (mvD rfl ?_)))))))
    refine bo rfl rfl (bin_mul (c:=((2*s:Nat):Int)) (by omega) (wrap_i64 (by omega))) (bo rfl rfl (bin_add (c:=((p+2*s+2*s:Nat):Int)) (by omega) (wrap_i64 (by omega))) (asD rfl (OL.nil ?_)))
    exact AW.again (x:=(i,p)) (i+1,p+2*s) (by simp only [];omega) ⟨⟨by rw [Nat.mul_succ,← hp],by omega⟩,Knows.app .rq4 .rq2,.cons (by rw [stepMG,← hp];rfl) .nil⟩
   ·have hd:¬ p+2*s≤n:=by have:=df9 hd;omega
    refine AW.exit ?_
    have hi:n / (2*s)=i:=by
     rw [Nat.div_eq_iff (by omega)]
     rw [Nat.mul_comm i,← hp]
     omega
    have hpass:passG ltA n s u=if p+s<n then symG ltA (2*s) (stepMG ltA s n i u) p (p+s) n else stepMG ltA s n i u:=by
     unfold passG
     simp only []
     rw [hi,← hp]
    refine AW.midK (α:=Unit) [(0,_),(1,_),(2,_),(6,_)] [] (fun _u=>[]) (fun _u=>[(1000,rowA b c (passG ltA n s u))]) (fun _u=>True) (.cons (knO rfl) (.cons (knD rfl) (.cons (knF rfl) (.cons (knD rfl) .nil)))) .nil ?_ ?_
    ·refine AW.sg hE rfl (mvD rfl (mvD rfl (bo rfl rfl (bin_add (c:=((p+s:Nat):Int)) (by omega) (wrap_i64 (by omega))) (asD rfl (OL.nil (AW.sg hE rfl (mvD rfl ?_)))))))
     refine mvD rfl (c_lss rfl rfl rfl (OL.nil (AW.cond rfl (fun hd2=>?_) (fun hd2=>?_))))
     ·have hd2:p+s<n:=by have:=dt9 hd2;omega
      refine AW.rg hE rfl (mvO rfl (mvD rfl (mvD rfl (mvD rfl (mvF rfl ?_)))))
      refine OL.callM (v:=.tup []) (.mk (args':=[.osl 1000 b n c,.d (dI p),.d (dI (p+s:Nat)),.d (dI n),.fn F.automaton_order []]) rfl (.cons vR (.cons (VLe.int (by omega)) (.cons (VLe.int (by omega)) (.cons (VLe.int (by omega)) .rq1)))) (mem1_keep (id:=1000) (blk:=rowA b c (stepMG ltA s n i u)) rfl) mem1_sub (symA (k:=2*s) (l:=stepMG ltA s n i u) (p:=p) (m:=p+s) (e:=n) hvl hN (by omega) (by omega) (by omega) (by omega))) ?_
      exact OL.nil (AW.reach () ⟨trivial,Knows.app .rq4 (.nil),.cons (by rw [hpass,if_pos hd2];rfl) .nil⟩)
     ·have hd2:¬ p+s<n:=by have:=df9 hd2;omega
      exact AW.skip (AW.reach () ⟨trivial,Knows.app .rq4 (.nil),.cons (by rw [hpass,if_neg hd2];rfl) .nil⟩)
    rintro ⟨⟩ hφ
    refine AW.rg hE rfl (mvD rfl (bo rfl rfl (bin_mul (c:=((2*s:Nat):Int)) (by omega) (wrap_i64 (by omega))) (asD rfl (OL.nil ?_))))
    exact AW.again (x:=(k+1,s,u)) (k,2*s,passG ltA n s u) (by (simp only [];omega)) ⟨⟨⟨by omega,by omega,by omega⟩,by rw [passG_len];exact hul,by rw [← hs,outG,if_pos hc]⟩,Knows.app .rq3 .rq1,.cons rfl .nil⟩
  ·have hc:¬ s<n:=by have:=df9 hc;omega
   refine AW.exit ?_
   have hfin:stabA l=u:=by
    rw [← hs]
    cases k with
    | zero=>rfl
    | succ k=>rw [outG,if_neg hc]
   rw [hfin]
   exact ⟨⟨_,.nil,_,.nil,rfl⟩,mem1_keep rfl⟩
theorem sortStabA {l:List Arc9}{b n c:Nat}(hl:l.length=n)(hN:n≤1000000):FSpecM P F.slices_SortStableFunc_Arc_Arc [.osl 1000 b n c,.fn F.automaton_order []] (mem1 1000 (rowA b c (l))) (.tup []) (mem1 1000 (rowA b c (stabA l))):=by
 refine FSpecM.intro fn.slices_SortStableFunc_Arc_Arc (by rfl) (by rfl) (nb9 (by rfl)) fun E hE=>?_
 refine AW.rg hE rfl ?_
 refine mvO rfl ?_
 refine mvO rfl ?_
 refine lnO sl.Arcs rfl rfl ?_
 refine mvF rfl ?_
 refine OL.callM (v:=.tup []) (.mk (args':=[.osl 1000 b n c,.d (dI n),.fn F.automaton_order []]) rfl (.cons vR (.cons (VLe.int (by omega)) .rq1)) (mem1_keep (id:=1000) (blk:=rowA b c (l)) rfl) mem1_sub (stabSA hl hN)) ?_
 exact OL.nil (⟨⟨_,.nil,_,.nil,rfl⟩,mem1_keep rfl⟩)
end Go.Proofs.YteiohkpjgcioaaaGreatDoor

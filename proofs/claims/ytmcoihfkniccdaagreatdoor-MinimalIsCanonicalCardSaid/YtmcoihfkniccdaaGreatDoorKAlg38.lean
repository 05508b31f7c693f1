/-
  AL, part 38: the elements of a row from some place on become zero.
-/
import Derived.Test.YtmcoihfkniccdaaGreatDoorKWkB
import Derived.Test.YtmcoihfkniccdaaGreatDoorKAlg37
set_option linter.unusedVariables false
set_option linter.unusedSimpArgs false
namespace Go.Proofs.YtmcoihfkniccdaaGreatDoor
open Go Go.AL
def cmpI (a b:Int):Int:=if a<b then -1 else if b<a then 1 else 0
theorem cmpL_drop {l m:List Int}{i:Nat}(h1:i<l.length)(h2:i<m.length):cmpL (l.drop i) (m.drop i)=if cmpI (l.getD i 0) (m.getD i 0)=0 then cmpL (l.drop (i+1)) (m.drop (i+1)) else cmpI (l.getD i 0) (m.getD i 0):=by
 have e1:l.getD i 0=l[i]:=by rw [gd9,ge9 h1];rfl
 have e2:m.getD i 0=m[i]:=by rw [gd9,ge9 h2];rfl
 rw [List.drop_eq_getElem_cons h1,List.drop_eq_getElem_cons h2,cmpL,e1,e2]
 unfold cmpI
 by_cases a:l[i]<m[i]
 ·rw [if_pos a,if_pos a,if_neg (by decide)]
 ·rw [if_neg a,if_neg a]
  by_cases b:m[i]<l[i]
  ·rw [if_pos b,if_pos b,if_neg (by decide)]
  ·rw [if_neg b,if_neg b,if_pos rfl]
theorem cmp_isNaN_int {x:Int}:FSpec P F.cmp_isNaN_int [.d (dI x)] (.d (dB false)):=by
 refine FSpec.intro fn.cmp_isNaN_int (by rfl) (by rfl) (nb9 (by rfl)) fun E hE=>(AW.sg hE rfl (asD rfl (OL.nil (AW.sg hE rfl (mvD rfl (mvD rfl (c_neq rfl rfl rfl ?_)))))))
 exact asD rfl (OL.nil (AW.ret (RetQ.r ⟨_,.tmp rfl .nil,.le (VLe.bool (by simp_all))⟩)))
theorem cmp_Compare_int {x y:Int}:FSpec P F.cmp_Compare_int [.d (dI x),.d (dI y)] (.d (dI (cmpI x y))):=by
 refine FSpec.intro fn.cmp_Compare_int (by rfl) (by rfl) (nb9 (by rfl)) fun E hE=>(AW.sg hE rfl (asD rfl (OL.nil (AW.sg hE rfl (mvD rfl (clv rfl vL (cmp_isNaN_int) (asD rfl ?_)))))))
 refine OL.nil (AW.sg hE rfl (mvD rfl (clv rfl vL (cmp_isNaN_int) (asD rfl (OL.nil (AW.seq (AW.sg hE rfl ?_)))))))
 refine mvD rfl (OL.nil (cnF rfl ?_))
 refine AW.skip (AW.seq (AW.sg hE rfl (mvD rfl (OL.nil (cnF rfl ?_)))))
 refine AW.skip (AW.seq (AW.sg hE rfl (mvD rfl (mvD rfl (c_lss rfl rfl rfl (OL.nil (AW.cond rfl (fun h1=>?_) (fun h1=>?_))))))))
 ·have h1:=dt9 h1
  exact AW.sg hE rfl (asD rfl (OL.nil (AW.ret (RetQ.r ⟨_,.tmp rfl .nil,.le (VLe.int ((if_pos h1).symm))⟩))))
 ·have h1:=df9 h1
  refine AW.skip (AW.seq (AW.sg hE rfl (mvD rfl (mvD rfl (c_gtr rfl rfl rfl (OL.nil (AW.cond rfl (fun h2=>?_) (fun h2=>?_))))))))
  ·have h2:=dt9 h2
   exact AW.sg hE rfl (asD rfl (OL.nil (AW.ret (RetQ.r ⟨_,.tmp rfl .nil,.le (VLe.int (by unfold cmpI;rw [if_neg h1,if_pos h2]))⟩))))
  ·have h2:=df9 h2
   exact AW.skip (AW.sg hE rfl (asD rfl (OL.nil (AW.ret (RetQ.r ⟨_,.tmp rfl .nil,.le (VLe.int (by unfold cmpI;rw [if_neg h1,if_neg h2]))⟩)))))
theorem clone_ints {l:List Int}(nl:l.length≤1099511627776):FSpec P F.slices_Clone_ints_int [.d (ints l)] (.d (ints l)):=by
 refine FSpec.intro fn.slices_Clone_ints_int (by rfl) (by rfl) (nb9 (by rfl)) fun E hE=>(AW.sg hE rfl (asM rfl (OL.nil (AW.seq (AW.sg hE rfl (mvD rfl (isNil sl.ints.u rfl (fun y hy=>by obtain ⟨a,_,rfl⟩:=mm9 hy;exact Nat.succ_pos _) rfl fun b hb=>?_)))))))
 refine OL.nil (AW.cond rfl (fun h=>?_) (fun h=>?_))
 ·have hL:l=[]:=by have:=hb h;simpa using this
  exact AW.sg hE rfl (asM rfl (OL.nil (AW.ret (RetQ.r ⟨_,.tmp rfl .nil,.le (hL ▸ VLe.mt)⟩))))
 ·have _h:=h
  exact AW.skip (AW.sg hE rfl (lt0 sl.ints (mvD rfl (apMD sl.ints rfl rfl (VC.d _) (fun y hy=>by obtain ⟨a,_,rfl⟩:=mm9 hy;rfl) (by simp;omega) (by simp;omega) (asD rfl (OL.nil (AW.ret (RetQ.r ⟨_,.tmp rfl .nil,.le vR⟩))))))))
theorem clone_intsR {l:List Int}(nl:l.length≤1099511627776):FSpecR P F.slices_Clone_ints_int [.d (ints l)] l.length T.int 1 (l.map dI):=by
 refine FSpecR.intro fn.slices_Clone_ints_int (by rfl) (by rfl) (nb9 (by rfl)) 2 rfl fun E hE=>(AW.sg hE rfl (asM rfl (OL.nil (AW.seq (AW.sg hE rfl (mvD rfl (isNil sl.ints.u rfl (fun y hy=>by obtain ⟨a,_,rfl⟩:=mm9 hy;exact Nat.succ_pos _) rfl fun b hb=>?_)))))))
 refine OL.nil (AW.cond rfl (fun h=>?_) (fun h=>?_))
 ·have hL:l=[]:=by have:=hb h;simpa using this
  subst hL
  exact AW.sg hE rfl (asM rfl (OL.nil (AW.own 2 99 T.int 1 rfl rfl (AW.ret ⟨.inr rfl,99,0,0,[],rfl,rfl,Nat.le_refl _,rfl⟩))))
 ·have _h:=h
  exact AW.skip (AW.sg hE rfl (lt0 sl.ints (mvD rfl (apM sl.ints rfl rfl (VC.d _) dI_len (by simp;omega) (by simp;omega) rfl fun b7 c7=>(asO rfl (OL.nil (AW.ret ⟨.inr rfl,7,b7,c7,l.map dI,by show V.osl 7 b7 (List.map dI l).length c7=_;rw [lm9],rfl,by rw [lm9];exact Nat.le_refl _,List.take_of_length_le (by rw [lm9];exact Nat.le_refl _)⟩)))))))
def orL:List Int→Int
 | []=>0
 | x::r=>if x=0 then orL r else x
theorem orL_at:∀ {l:List Int} {i:Nat},i<l.length→(∀ j,j<i→l.getD j 0=0)→l.getD i 0≠0→orL l=l.getD i 0
 | x::r,0,_,_,h=>if_neg h
 | x::r,i+1,hi,hz,h=>(if_pos (hz 0 (Nat.zero_lt_succ _))).trans (orL_at (by simpa using hi) (fun j hj=>hz (j+1) (by omega)) h)
theorem orL_none:∀ {l:List Int},(∀ j,j<l.length→l.getD j 0=0)→orL l=0
 | [],_=>rfl
 | x::r,h=>(if_pos (h 0 (Nat.zero_lt_succ _))).trans (orL_none fun j hj=>h (j+1) (by simpa using hj))
theorem cmp_cI (a b:Nat):cmpI (a:Int) (b:Int)=cI a b:=by
 unfold cmpI cI
 by_cases h1:a<b
 ·rw [if_pos (by omega),if_pos h1]
 ·rw [if_neg (by omega),if_neg h1]
  by_cases h2:b<a
  ·rw [if_pos (by omega),if_pos h2]
  ·rw [if_neg (by omega),if_neg h2]
theorem ord_or (x y:Arc9):orL [cI x.f y.f,cI x.l y.l,cI x.t y.t]=ordA x y:=by
 unfold ordA
 by_cases h1:cI x.f y.f=0 <;> by_cases h2:cI x.l y.l=0 <;> by_cases h3:cI x.t y.t=0 <;> simp [orL,h1,h2,h3]
abbrev rowA (b c:Nat)(l:List Arc9):Blk:=.row b c T.Arc 11 (l.map dArc)
theorem rowA_el {l:List Arc9}{i:Nat}(hi:i<l.length):(l.map dArc)[i]? = some (dArc (l.getD i default)):=by rw [List.getElem?_map,gd9,ge9 hi];rfl
theorem vd_arc {x:Arc9}:VD (vArc x) (dArc x):=VD.ag (.cons (VC.d _) (.cons (VC.d _) (.cons (VC.d _) (.cons (VC.d _) (.cons (VC.d _) (.cons (VC.d _) (.cons (VC.d _) (.cons (VC.d _) (.cons (VC.d _) (.cons (VC.d _) (.cons (VC.d _) .nil)))))))))))
abbrev cellsArc (x:Arc9):List V:=[.d (dI x.f),.d (dI x.l),.d (dI x.t),.d (dB (ofQ x.q).neg),.d (u32s (ofQ x.q).num),.d (u32s (ofQ x.q).den),.d (dI 0),.d (dB false),.d (dU 0),.d (.sl []),.d (.sl [])]
theorem swapG_map {l:List Arc9}{j:Nat}:((l.map dArc).set (j+1) (dArc (l.getD j default))).set j (dArc (l.getD (j+1) default))=(swapG l j).map dArc:=by
 unfold swapG
 rw [List.map_set,List.map_set]
theorem arcs_len {l:List Arc9}:∀ y,y ∈ l.map dArc→y.cells.length=11:=fun y hy=>by obtain ⟨a,_,rfl⟩:=mm9 hy;rfl
theorem cmp_OrL {l:List Int}(nl:l.length≤1099511627776):FSpec P F.cmp_Or_int [.d (ints l)] (.d (dI (orL l))):=by
 refine FSpec.intro fn.cmp_Or_int (by rfl) (by rfl) (nb9 (by rfl)) fun E hE=>(AW.sg hE rfl (asD rfl (OL.nil (AW.sg hE rfl (asD rfl (OL.nil (AW.seq ?_)))))))
 refine AW.sg hE rfl (mvD rfl (lnL sl.ints rfl rfl (mvD rfl (OL.nil (AW.block ?_)))))
 refine AW.whileK (α:=Nat) [(3,_),(6,_),(7,_)] [] (fun i=>[(8,.d (dI i))]) (fun i=>[]) (fun i=>i≤l.length∧∀ j,j<i→l.getD j 0=0) (fun i=>l.length-i) 0 (.cons (knD rfl) (.cons (knD rfl) (.cons (knD rfl) .nil))) .nil ⟨⟨Nat.zero_le _,fun j hj=>by omega⟩,.rq1,.nil⟩ ?_
 rintro i ⟨h1,h2⟩
 refine AW.sg hE rfl (c_lss rfl rfl rfl (OL.nil (AW.seq (AW.cond rfl (fun h9=>?_) (fun h9=>?_)))))
 ·try simp only [dx9] at h9
  refine AW.skip (AW.seq (AW.block (AW.sg hE rfl (ixLn sl.ints 0 rfl rfl (by omega) rfl rfl (ldRC ce.int rfl (asD rfl (OL.nil ?_)))))))
  refine AW.sg hE rfl (mvD rfl (mvD rfl (c_neq rfl rfl rfl (OL.nil (AW.cond rfl (fun hc=>?_) (fun hc=>?_))))))
  ·have hc:l.getD i 0≠0:=nd_t hc
   exact AW.sg hE rfl (mvD rfl (asD rfl (OL.nil (AW.ret (RetQ.r ⟨_,.tmp rfl .nil,.le (VLe.int ((orL_at (by omega) h2 hc).symm))⟩)))))
  ·have hc:l.getD i 0=0:=nd_f hc
   refine AW.skip (AW.rg hE rfl (add_i64 rfl rfl (by omega) (mvD rfl (OL.nil ?_))))
   exact AW.again (x:=i) (i+1) (by omega) ⟨⟨by omega,fun j hj=>by rcases Nat.lt_or_ge j i with h|h;exact h2 j h;obtain rfl:j=i:=(by omega);exact hc⟩,Knows.app .rq3 .rq1,.nil⟩
 ·try simp only [dx9] at h9
  exact AW.exit (AW.sg hE rfl (mvD rfl (asD rfl (OL.nil (AW.ret (RetQ.r ⟨_,.tmp rfl .nil,.le (VLe.int ((orL_none fun j hj=>h2 j (by omega)).symm))⟩))))))
theorem orderA {x y:Arc9}:FSpec P F.automaton_order [vArc x,vArc y] (.d (dI (ordA x y))):=by
 refine FSpec.intro fn.automaton_order (by rfl) (by rfl) (nb9 (by rfl)) fun E hE=>(AW.sg hE rfl (bxA rfl rfl fun b2=>(bxA rfl rfl fun b3=>(asD rfl (OL.nil (AW.seq (AW.dg 1 [0,1,2,3,4,5,6,7,8,9,10,11,12,13,14,15,16,17] order_free hE rfl (by kernel_rfl) (OI.of_OL (os:=[_,_,_,_,_,_,_,_,_,_,_,_,_,_,_,_,_,_]) rfl ?_))))))))
 refine faP fd.Arc_0 rfl rfl (ldPC ce.int rfl rfl rfl (faP fd.Arc_0 rfl rfl (ldPC ce.int rfl rfl rfl (clv rfl vL (cmp_Compare_int (x:=(x.f:Int)) (y:=(y.f:Int))) ?_))))
 rw [cmp_cI]
 refine faP fd.Arc_1 rfl rfl (ldPC ce.int rfl rfl rfl (faP fd.Arc_1 rfl rfl (ldPC ce.int rfl rfl rfl (clv rfl vL (cmp_Compare_int (x:=(x.l:Int)) (y:=(y.l:Int))) ?_))))
 rw [cmp_cI]
 refine faP fd.Arc_2 rfl rfl (ldPC ce.int rfl rfl rfl (faP fd.Arc_2 rfl rfl (ldPC ce.int rfl rfl rfl (clv rfl vL (cmp_Compare_int (x:=(x.t:Int)) (y:=(y.t:Int))) ?_))))
 rw [cmp_cI]
 refine ltN (ys:=[dI (cI x.f y.f),dI (cI x.l y.l),dI (cI x.t y.t)]) sl.ints rfl (pdC (VC.d _).vd (pdC (VC.d _).vd (pdC (VC.d _).vd pdN))) rfl (by decide) (by decide) (fun y hy=>by simp at hy;rcases hy with rfl|rfl|rfl <;> rfl) (clv rfl vL (cmp_OrL (l:=[cI x.f y.f,cI x.l y.l,cI x.t y.t]) (show 3≤1099511627776 by decide)) ?_)
 rw [ord_or]
 exact asD rfl (OL.nil (AW.ret (RetQ.r ⟨_,.tmp rfl .nil,.le vR⟩)))
theorem insertA {l:List Arc9}{b n c:Nat}(hl:l.length=n)(hn:1≤n∧n≤20):FSpecM P F.slices_insertionSortCmpFunc_Arc [.osl 1000 b n c,.d (dI 0),.d (dI n),.fn F.automaton_order []] (mem1 1000 (rowA b c (l))) (.tup []) (mem1 1000 (rowA b c (sortG ltA (n-1) l))):=by
 refine FSpecM.intro fn.slices_insertionSortCmpFunc_Arc (by rfl) (by rfl) (nb9 (by rfl)) fun E hE=>(AW.sg hE rfl (mvD rfl (add_i64 rfl rfl (by omega) (asD rfl (OL.nil (AW.block ?_))))))
 refine AW.whileK (α:=Nat) [(0,_),(1,_),(2,_),(3,_)] [] (fun i=>[(8,.d (dI i))]) (fun i=>[(1000,rowA b c (sortG ltA (i-1) l))]) (fun i=>1≤i∧i≤n) (fun i=>n-i) 1 (.cons (knO rfl) (.cons (knD rfl) (.cons (knD rfl) (.cons (knF rfl) .nil)))) .nil ⟨⟨Nat.le_refl _,hn.1⟩,.rq1,.cons rfl .nil⟩ ?_
 rintro i ⟨h1,h2⟩
 have h1:1≤i:=h1
 have h2:i≤n:=h2
 refine AW.seq (AW.sg hE rfl (mvD rfl (mvD rfl (c_lss rfl rfl rfl (OL.nil (AW.cond rfl (fun h14=>?_) (fun h14=>?_)))))))
 ·try simp only [dx9] at h14
  refine AW.skip (AW.midK (α:=Unit) [(0,_),(1,_),(2,_),(3,_),(8,_)] [] (fun _u=>[]) (fun _u=>[(1000,rowA b c (sortG ltA i l))]) (fun _u=>True) (.cons (knO rfl) (.cons (knD rfl) (.cons (knD rfl) (.cons (knF rfl) (.cons (knD rfl) .nil))))) .nil ?_ ?_)
  ·refine AW.block (AW.sg hE rfl (mvD rfl (asD rfl (OL.nil (AW.block ?_)))))
   refine AW.whileK (α:=Nat × List Arc9) [(0,_),(1,_),(2,_),(3,_),(8,_)] [] (fun (j,u)=>[(9,.d (dI j))]) (fun (j,u)=>[(1000,rowA b c (u))]) (fun (j,u)=>j≤i∧u.length=n∧sinkG ltA j u=sortG ltA i l) (fun (j,u)=>j) (i,sortG ltA (i-1) l) (.cons (knO rfl) (.cons (knD rfl) (.cons (knD rfl) (.cons (knF rfl) (.cons (knD rfl) .nil))))) .nil ⟨⟨Nat.le_refl _,by rw [sortG_len];exact hl,by obtain ⟨q,rfl⟩:∃ q,i=q+1:=⟨i-1,by omega⟩;rfl⟩,.rq1,.cons rfl .nil⟩ ?_
   rintro ⟨j,u⟩ ⟨h3,hul,hs⟩
   have h3:j≤i:=h3
   have hul:u.length=n:=hul
   refine AW.seq (AW.seq (AW.dg 1 [0,1,2,3,4,5,6,7,8,9,10,11,12,13,14,15,16] order_free hE rfl (by kernel_rfl) (OI.of_OL (os:=[_,_,_,_,_,_,_,_,_,_,_,_,_,_,_,_,_]) rfl ?_)))
   refine mvD rfl (mvD rfl (c_gtr rfl rfl rfl (mvD rfl (OL.split 21 rfl (fun hj=>?_) (fun hj=>?_)))))
   ·have hj:(0:Int)<(j:Int):=dt9 hj
    obtain ⟨j,rfl⟩:∃ q,j=q+1:=⟨j-1,by omega⟩
    refine OL.yes rfl (mvF rfl (OL.yes rfl (mvO rfl (OL.yes rfl (mvD rfl (OL.yes rfl (ixOn sl.Arcs rfl rfl (by omega) ?_)))))))
    refine OL.yes rfl (ldEA ag.Arc (by decide) rfl rfl (rowA_el (show j+1<u.length by omega)) (vs:=cellsArc (u.getD (j+1) default)) rfl (nb9 rfl) (OL.yes rfl (mvO rfl (OL.yes rfl (mvD rfl (OL.yes rfl (bo rfl rfl (bin_sub (c:=(j:Int)) (by omega) (wrap_i64 (by omega))) ?_)))))))
    refine OL.yes rfl (ixOn sl.Arcs rfl rfl (by omega) (OL.yes rfl (ldEA ag.Arc (by decide) rfl rfl (rowA_el (show j<u.length by omega)) (vs:=cellsArc (u.getD (j) default)) rfl (nb9 rfl) (OL.yes rfl (clv rfl vL (orderA (x:=u.getD (j+1) default) (y:=u.getD j default)) (OL.yes rfl (c_lss rfl rfl rfl ?_)))))))
    refine pkT rfl rfl (OL.nil (AW.cond rfl (fun hk=>?_) (fun hk=>?_)))
    ·have hk:ltA (u.getD (j+1) default) (u.getD j default)=true:=hk
     refine AW.skip (AW.seq (AW.block (AW.dg 1 [0,1,2,3,4,5,6,7,8,9,10,11,12,13,14,15,16,17] order_free hE rfl (by kernel_rfl) (OI.of_OL (os:=[_,_,_,_,_,_,_,_,_,_,_,_,_,_,_,_,_,_]) rfl ?_))))
     refine mvO rfl (mvD rfl (mvO rfl (mvD rfl (bo rfl rfl (bin_sub (c:=(j:Int)) (by omega) (wrap_i64 (by omega))) (mvO rfl (mvD rfl (bo rfl rfl (bin_sub (c:=(j:Int)) (by omega) (wrap_i64 (by omega))) ?_)))))))
     refine ixOn sl.Arcs rfl rfl (by omega) (ldEA ag.Arc (by decide) rfl rfl (rowA_el (show j<u.length by omega)) (vs:=cellsArc (u.getD (j) default)) rfl (nb9 rfl) (mvO rfl (mvD rfl (ixOn sl.Arcs rfl rfl (by omega) (ldEA ag.Arc (by decide) rfl rfl (rowA_el (show j+1<u.length by omega)) (vs:=cellsArc (u.getD (j+1) default)) rfl (nb9 rfl) (ixOn sl.Arcs rfl rfl (by omega) (stE sz.Arc rfl (d:=dArc (u.getD j default)) vd_arc rfl rfl (by rw [lm9];omega) rfl ?_)))))))
     refine ixOn sl.Arcs rfl rfl (by omega) (stE sz.Arc rfl (d:=dArc (u.getD (j+1) default)) vd_arc rfl rfl (by rw [List.length_set,lm9];omega) swapG_map (OL.nil (AW.rg hE rfl (mvD rfl (bo rfl rfl (bin_sub (c:=(j:Int)) (by omega) (wrap_i64 (by omega))) (asD rfl (OL.nil ?_)))))))
     exact AW.again (x:=(j+1,u)) (j,swapG u j) (by (simp only [];omega)) ⟨⟨by omega,by rw [swapG_len];exact hul,by rw [← hs,sinkG,if_pos hk]⟩,Knows.app .rq5 .rq1,.cons rfl .nil⟩
    ·have hk:¬ ltA (u.getD (j+1) default) (u.getD j default)=true:=fun e=>df9 hk (dt9 e)
     exact AW.exit (AW.reach () ⟨trivial,Knows.app .rq5 (.nil),.cons (by rw [← hs,sinkG,if_neg hk];rfl) .nil⟩)
   ·have hj:¬ (0:Int)<(j:Int):=df9 hj
    refine OL.nd rfl (OL.nd rfl (OL.nd rfl (OL.nd rfl (OL.nd rfl (OL.nd rfl (OL.nd rfl (OL.nd rfl ?_)))))))
    refine OL.nd rfl (OL.nd rfl (OL.nd rfl (OL.nd rfl (pkF rfl rfl (OL.nil (cnF rfl ?_))))))
    exact AW.exit (AW.reach () ⟨trivial,Knows.app .rq5 (.nil),.cons (by obtain rfl:j=0:=(by omega);rw [← hs];rfl) .nil⟩)
  rintro ⟨⟩ hφ
  exact AW.rg hE rfl (mvD rfl (add_i64 rfl rfl (by omega) (asD rfl (OL.nil (AW.again (x:=i) (i+1) (by omega) ⟨⟨by omega,by omega⟩,Knows.app .rq4 .rq1,.cons (by rw [Nat.add_sub_cancel];rfl) .nil⟩)))))
 ·try simp only [dx9] at h14
  refine AW.exit ?_
  obtain rfl:i=n:=by omega
  exact ⟨⟨_,.nil,_,.nil,rfl⟩,mem1_keep rfl⟩
theorem vd_w {q:Rat}:VD (vW q) (dW q):=VD.ag (.cons (VC.d _) (.cons (VC.d _) (.cons (VC.d _) (.cons (VC.d _) (.cons (VC.d _) (.cons (VC.d _) (.cons (VC.d _) (.cons (VC.d _) .nil))))))))
theorem insertA0 {l:List Arc9}{b n c:Nat}(hn:n≤20):FSpecM P F.slices_insertionSortCmpFunc_Arc [.osl 1000 b n c,.d (dI n),.d (dI n),.fn F.automaton_order []] (mem1 1000 (rowA b c (l))) (.tup []) (mem1 1000 (rowA b c (l))):=by
 refine FSpecM.intro fn.slices_insertionSortCmpFunc_Arc (by rfl) (by rfl) (nb9 (by rfl)) fun E hE=>(AW.sg hE rfl (mvD rfl (add_i64 rfl rfl (by omega) (asD rfl (OL.nil (AW.block ?_))))))
 refine AW.whileK (α:=Unit) [(0,_),(1,_),(2,_),(3,_)] [] (fun _u=>[(8,.d (dI ((n:Int)+1)))]) (fun _u=>[(1000,rowA b c (l))]) (fun _u=>True) (fun _u=>0) () (.cons (knO rfl) (.cons (knD rfl) (.cons (knD rfl) (.cons (knF rfl) .nil)))) .nil ⟨trivial,.rq1,.cons rfl .nil⟩ ?_
 rintro ⟨⟩ -
 refine AW.seq (AW.sg hE rfl (mvD rfl (mvD rfl (c_lss rfl rfl rfl (OL.nil (AW.cond rfl (fun hno=>absurd hno (by simp;omega)) (fun _=>?_)))))))
 exact AW.exit (⟨⟨_,.nil,_,.nil,rfl⟩,mem1_keep rfl⟩)
theorem stableA {l:List Arc9}{b n c:Nat}(hl:l.length=n)(hn:1≤n∧n≤20):FSpecM P F.slices_stableCmpFunc_Arc [.osl 1000 b n c,.d (dI n),.fn F.automaton_order []] (mem1 1000 (rowA b c (l))) (.tup []) (mem1 1000 (rowA b c (sortG ltA (n-1) l))):=by
 refine FSpecM.intro fn.slices_stableCmpFunc_Arc (by rfl) (by rfl) (nb9 (by rfl)) fun E hE=>(AW.sg hE rfl (asD rfl (OL.nil (AW.sg hE rfl (mvD rfl (asD rfl (asD rfl ?_)))))))
 refine OL.nil ?_
 refine AW.midK (α:=Nat × List Arc9) [(0,_),(1,_),(2,_),(6,_)] [] (fun (k,u)=>[(7,.d (dI (20*k:Nat)))]) (fun (k,u)=>[(1000,rowA b c (u))]) (fun (k,u)=>(k=0∧l=u∧n<20) ∨ (k=1∧n=20∧u=sortG ltA (n-1) l)) (.cons (knO rfl) (.cons (knD rfl) (.cons (knF rfl) (.cons (knD rfl) .nil)))) .nil ?_ ?_
 ·refine AW.block ?_
  refine AW.whileK (α:=Nat × List Arc9) [(0,_),(1,_),(2,_),(6,_)] [] (fun (k,u)=>[(7,.d (dI (20*k:Nat))),(8,.d (dI (20*k+20:Nat)))]) (fun (k,u)=>[(1000,rowA b c (u))]) (fun (k,u)=>(k=0∧l=u) ∨ (k=1∧n=20∧u=sortG ltA (n-1) l)) (fun (k,u)=>1-k) (0,l) (.cons (knO rfl) (.cons (knD rfl) (.cons (knF rfl) (.cons (knD rfl) .nil)))) .nil ⟨.inl ⟨rfl,rfl⟩,.rq2,.cons rfl .nil⟩ ?_
  rintro ⟨k,u⟩ h1
  have h1:(k=0∧l=u) ∨ (k=1∧n=20∧u=sortG ltA (n-1) l):=h1
  refine AW.seq (AW.sg hE rfl (mvD rfl (mvD rfl (c_leq rfl rfl rfl (OL.nil (AW.cond rfl (fun h13=>?_) (fun h13=>?_)))))))
  ·try simp only [dx9] at h13
   refine AW.skip (AW.block (AW.sg hE rfl (mvO rfl (mvD rfl (mvD rfl (mvF rfl ?_))))))
   obtain ⟨rfl,rfl⟩:k=0∧l=u:=h1.resolve_right fun e=>by omega
   refine OL.callM (v:=.tup []) (.mk (args':=[.osl 1000 b n c,.d (dI 0),.d (dI n),.fn F.automaton_order []]) rfl (.cons vR (.cons vR (.cons (VLe.int (by omega)) (.cons vR (.nil))))) (mem1_keep (id:=1000) (blk:=rowA b c l) rfl) mem1_sub (insertA (n:=n) hl hn)) ?_
   refine OL.nil (AW.sg hE rfl (mvD rfl (asD rfl (OL.nil (AW.rg hE rfl (mvD rfl (mvD rfl ?_)))))))
   refine add_i64 rfl rfl (by omega) (asD rfl (OL.nil ?_))
   exact AW.again (x:=(0,l)) (1,sortG ltA (n-1) l) (by (simp only [];omega)) ⟨.inr ⟨rfl,by omega,rfl⟩,Knows.app .rq4 .rq2,.cons rfl .nil⟩
  ·try simp only [dx9] at h13
   exact AW.exit (AW.reach (k,u) ⟨h1.imp (fun e=>⟨e.1,e.2,by omega⟩) id,Knows.app .rq4 .rq1,.cons rfl .nil⟩)
 rintro ⟨k,u⟩ h1
 refine AW.seq ?_
 rcases h1 with ⟨rfl,rfl,h0⟩|⟨rfl,h0,rfl⟩
 ·have h2:n≤20:=hn.2
  refine AW.rg hE rfl (mvO rfl (mvD rfl (mvD rfl (mvF rfl ?_))))
  refine OL.callM (v:=.tup []) (.mk (args':=[.osl 1000 b n c,.d (dI 0),.d (dI n),.fn F.automaton_order []]) rfl (.cons vR (.cons vR (.cons vR (.cons vR (.nil))))) (mem1_keep (id:=1000) (blk:=rowA b c l) rfl) mem1_sub (insertA (n:=n) hl hn)) ?_
  refine OL.nil (AW.block ?_)
  refine AW.whileK (α:=Unit) [(0,_),(1,_),(2,_)] [] (fun _u=>[(6,.d (dI 20))]) (fun _u=>[(1000,rowA b c (sortG ltA (n-1) l))]) (fun _u=>True) (fun _u=>0) () (.cons (knO rfl) (.cons (knD rfl) (.cons (knF rfl) .nil))) .nil ⟨trivial,.rq1,.cons rfl .nil⟩ ?_
  rintro ⟨⟩ -
  refine AW.seq (AW.sg hE rfl (mvD rfl (mvD rfl (c_lss rfl rfl rfl (OL.nil (AW.cond rfl (fun hno=>absurd hno (by simp;omega)) (fun _=>?_)))))))
  exact AW.exit (⟨⟨_,.nil,_,.nil,rfl⟩,mem1_keep rfl⟩)
 ·have h2:n≤20:=hn.2
  refine AW.rg hE rfl (mvO rfl (mvD rfl (mvD rfl (mvF rfl ?_))))
  refine OL.callM (v:=.tup []) (.mk (args':=[.osl 1000 b n c,.d (dI n),.d (dI n),.fn F.automaton_order []]) rfl (.cons vR (.cons (VLe.int (by omega)) (.cons vR (.cons vR (.nil))))) (mem1_keep (id:=1000) (blk:=rowA b c (sortG ltA (n-1) l)) rfl) mem1_sub (insertA0 (n:=n) hn.2)) ?_
  refine OL.nil (AW.block ?_)
  refine AW.whileK (α:=Unit) [(0,_),(1,_),(2,_)] [] (fun _u=>[(6,.d (dI 20))]) (fun _u=>[(1000,rowA b c (sortG ltA (n-1) l))]) (fun _u=>True) (fun _u=>0) () (.cons (knO rfl) (.cons (knD rfl) (.cons (knF rfl) .nil))) .nil ⟨trivial,.rq1,.cons rfl .nil⟩ ?_
  rintro ⟨⟩ -
  refine AW.seq (AW.sg hE rfl (mvD rfl (mvD rfl (c_lss rfl rfl rfl (OL.nil (AW.cond rfl (fun hno=>absurd hno (by simp;omega)) (fun _=>?_)))))))
  exact AW.exit (⟨⟨_,.nil,_,.nil,rfl⟩,mem1_keep rfl⟩)
theorem sortStableA {l:List Arc9}{b n c:Nat}(hl:l.length=n)(hn:1≤n∧n≤20):FSpecM P F.slices_SortStableFunc_Arc_Arc [.osl 1000 b n c,.fn F.automaton_order []] (mem1 1000 (rowA b c (l))) (.tup []) (mem1 1000 (rowA b c (sortG ltA (n-1) l))):=by
 refine FSpecM.intro fn.slices_SortStableFunc_Arc_Arc (by rfl) (by rfl) (nb9 (by rfl)) fun E hE=>(AW.rg hE rfl (mvO rfl (mvO rfl (lnO sl.Arcs rfl rfl (mvF rfl (OL.callM (v:=.tup []) (.mk (args':=[.osl 1000 b n c,.d (dI n),.fn F.automaton_order []]) rfl (.cons vR (.cons vR (.cons vR (.nil)))) (mem1_keep (id:=1000) (blk:=rowA b c l) rfl) mem1_sub (stableA hl hn)) (OL.nil ?_)))))))
 exact ⟨⟨_,.nil,_,.nil,rfl⟩,mem1_keep rfl⟩
end Go.Proofs.YtmcoihfkniccdaaGreatDoor
namespace Go.AL
open Go Go.BigFrame
section
variable {P:Program}{E:Env}{K:S→Prop}{s:S}{pos:String}{after:Array Edge}{ty:Nat}
theorem upd_again {M:Mem}{id:Nat}{blk:Blk}(h:M id=some blk):upd M id (some blk)=M:=by
 funext k
 unfold upd
 split
 ·rename_i e;rw [e];exact h.symm
 ·rfl
theorem After.none {F:Hp}{M:Mem}{w:World}(h:Sim F M w):After F M w F M w:=⟨Grow.refl _ _,Hp.le.refl F,h,fun k a b=>absurd a b,fun _ k=>.inr k⟩
theorem builtin_clear {ats:Array TypeId}{ty:TypeId}{cs:Array Bool}{args:Array Value}:builtin .clear ats ty cs args=(do pure (.value (← Builtin.clear_ ats ty args))):=rfl
theorem clear_exec {a:Act}{w w':World}{o:Oper}{x:Operand}{t:Nat}{v:Value}(ho:o.op=.call { callee:=.builtin .clear,args:=#[x],argTypes:=#[t] }){R:Value→World→Prop}
  (hr:(Builtin.clear_ #[t] o.type #[a.eval x]).run P w=.ok v w') (h:R v w'):Good P ((execOp a.eval o).run P w) R:=by
 unfold execOp;rw [ho]
 simp only [resolve,Sem.run_bind,Sem.run_pure,Result.andThen_ok,invoke,builtin_clear]
 have e1:(#[x].map a.eval) = #[a.eval x]:=by simp
 rw [e1,hr]
 exact h
theorem SO.clearB {dst:Option Nat}{t e sz by_ id b o n c cb:Nat}{x:Operand}{es:List D}{z:D}{zs:List V}(hd:Below' E.n dst)(hT:SliceT P t e sz by_)(hz:ZeroT P e zs)(hc:VCs zs z.cells)(hx:s.ev x=.osb id b sz o n c)(hM:s.M id=some (.row b cb e sz es))(hn:o+n=es.length)
  (h:K ((⟨s.ρ,upd s.M id (some (.row b cb e sz (es.take o++List.replicate n z)))⟩:S).put dst (.tup []))) :
  SO P E ⟨dst,.call { callee:=.builtin .clear,args:=#[x],argTypes:=#[t] },ty,pos,after,none⟩ K s:=fun F a w hr=>by
 have hx':=hr.eval x
 rw [hx] at hx'
 generalize hax:a.eval x=ax at hx'
 obtain ⟨g0,g1,g2⟩:=hr.sim.own id _ hM
 obtain ⟨i,zv,hi,hzv,h1,h2,h3⟩:=hT.parts
 obtain ⟨i',zv',hi',hzv',z1,z2,z3⟩:=hz.parts
 rw [hi] at hi';cases hi'
 rw [hzv] at hzv';cases hzv'
 have hzl:zs.length=sz:=by rw [← h2,z3]
 have hdl:z.cells.length=sz:=by rw [← hc.length,hzl]
 cases hx' with
 | @osb ao _ _ _ _ _ _ ha hnc =>
  rcases Nat.eq_zero_or_pos n with h0|h0
  ·subst h0
   have e1:es.take o++List.replicate 0 z=es:=by rw [List.replicate_zero,List.append_nil,List.take_of_length_le (by omega)]
   rw [e1,upd_again hM] at h
   refine clear_exec (o:=⟨dst,.call { callee:=.builtin .clear,args:=#[x],argTypes:=#[t] },ty,pos,after,none⟩) (v:=.tuple #[]) (w':=w) rfl ?_ ⟨F,_,hr.after_put (After.none hr.sim) hd (.tup (us:=[]) rfl fun i c u h=>by simp at h),h⟩
   rw [hax]
   cases ao <;> simp [Builtin.clear_,run_underlying hT.u]
  ·rw [ha (by omega)] at hax
   obtain ⟨cs,hh,hcl,c1,c2⟩:=g2 (by omega)
   have hfit:o*sz+n*sz≤cs.length:=by rw [hcl,← Nat.add_mul,hn];exact Nat.mul_le_mul_right _ g0
   have hget:∀ (j:Nat) (u:Value),(Builtin.zeroCells zv.cells n).toList[j]? = some u→j<n*sz∧zv.cells.toList[j % sz]? = some u:=fun j u hu=>by
    have hj:j<n*sz:=by have:=(List.getElem?_eq_some_iff.1 hu).1;simpa [Builtin.zeroCells,h1] using this
    refine ⟨hj,?_⟩
    simp only [Builtin.zeroCells,Array.toList_map,Array.toList_range,h1,List.getElem?_map,List.getElem?_range hj,Option.map_some,Option.some.injEq] at hu
    have hlt:j % sz<zv.cells.size:=by rw [h1];exact Nat.mod_lt _ hT.pos
    rw [getElem!_pos zv.cells (j % sz) hlt] at hu
    rw [← hu]
    simp [hlt]
   have hzlen:(Builtin.zeroCells zv.cells n).toList.length=n*sz:=by simp [Builtin.zeroCells,h1]
   have hone:∀ v,v ∈ (Builtin.zeroCells zv.cells n).toList→v.oneCell' = true:=fun u hu=>by
    obtain ⟨j,hj⟩:=List.mem_iff_getElem?.1 hu
    exact hT.one hi hzv u (List.mem_of_getElem? (hget j u hj).2)
   have hst:=run_storeCells_at P b (o*sz) e (Builtin.zeroCells zv.cells n).toList 0 cs.toArray w hh (by rw [hzlen];simp;omega) hone
   rw [Nat.add_zero,hzlen] at hst
   have hs:∀ y,y ∈ es.take o++List.replicate n z→y.cells.length=sz:=fun y hy=>by
    rcases mp9 hy with hy|hy
    ·exact g1 y (List.mem_of_mem_take hy)
    ·rw [(List.mem_replicate.1 hy).2];exact hdl
   have hto:(es.take o).length=o:=by rw [List.length_take];omega
   have hlen:(es.take o++List.replicate n z).length=es.length:=by rw [la9,hto,List.length_replicate];exact hn
   have hA:After F s.M w F (upd s.M id (some (.row b cb e sz (es.take o++List.replicate n z)))) (w.setRow b (cs.take (o*sz)++(Builtin.zeroCells zv.cells n).toList++cs.drop (o*sz+n*sz)).toArray):=by
    refine After.set_block hr.sim hM ⟨by omega,rfl⟩ (fun k hk=>hk.2) hh fun w' hw'=>⟨by rw [hlen];exact g0,hs,fun _=>⟨_,hw',?_,fun v hv=>?_,fun j d u hjd hju=>?_⟩⟩
    ·rw [la9,la9,List.length_take,List.length_drop,hzlen];omega
    ·rcases mp9 hv with hv|hv
     ·rcases mp9 hv with hv|hv
      ·exact c1 v (List.mem_of_mem_take hv)
      ·exact hone v hv
     ·exact c1 v (List.mem_of_mem_drop hv)
    ·rw [List.flatMap_append] at hjd
     have hfo:((es.take o).flatMap D.cells).length=o*sz:=by rw [flat_length fun y hy=>g1 y (List.mem_of_mem_take hy),hto]
     rcases Nat.lt_or_ge j (o*sz) with hj|hj
     ·rw [List.getElem?_append_left (by rw [hfo];exact hj)] at hjd
      rw [List.append_assoc,List.getElem?_append_left (by rw [List.length_take];omega),List.getElem?_take_of_lt hj] at hju
      refine c2 j d u ?_ hju
      obtain ⟨r,hr2⟩:=flat_take (es:=es) o
      rw [hr2,List.getElem?_append_left (by rw [hfo];exact hj)]
      exact hjd
     ·rw [List.getElem?_append_right (by rw [hfo];exact hj),hfo] at hjd
      have hsr:∀ y,y ∈ List.replicate n z→y.cells.length=sz:=fun y hy=>by rw [(List.mem_replicate.1 hy).2];exact hdl
      have hjn:j-o*sz<n*sz:=by
       have:=(List.getElem?_eq_some_iff.1 hjd).1
       rwa [flat_length hsr,List.length_replicate] at this
      rw [List.append_assoc,List.getElem?_append_right (by rw [List.length_take];omega),List.length_take,Nat.min_eq_left (by omega),List.getElem?_append_left (by rw [hzlen];exact hjn)] at hju
      obtain ⟨_,hzu⟩:=hget _ u hju
      have hq:(j-o*sz) / sz<n:=Nat.div_lt_of_lt_mul (by rw [Nat.mul_comm sz n];exact hjn)
      have hmod:(j-o*sz) % sz<sz:=Nat.mod_lt _ hT.pos
      have hg:=flat_get hsr (i:=(j-o*sz) / sz) (e:=z) (by rw [List.getElem?_replicate,if_pos hq]) ((j-o*sz) % sz) hmod
      rw [Nat.mul_comm,Nat.div_add_mod] at hg
      rw [hg] at hjd
      obtain ⟨x',hx2,hvc⟩:=hc.get _ _ hjd
      rw [← z1,List.getElem?_map,hzu] at hx2
      simp only [Option.map_some,Option.some.injEq] at hx2
      rw [← hx2] at hvc
      exact (hvc F u (absV_sim F u)).1
   refine clear_exec (o:=⟨dst,.call { callee:=.builtin .clear,args:=#[x],argTypes:=#[t] },ty,pos,after,none⟩) (v:=.tuple #[]) rfl ?_ ⟨F,_,hr.after_put hA hd (.tup (us:=[]) rfl fun i c u h=>by simp at h),h⟩
   rw [hax]
   have e2:(zeroValue e).run P w=.ok zv w:=by simp [zeroValue,typeInfo,hi,hzv]
   obtain ⟨m,rfl⟩:∃ m,n=m+1:=⟨n-1,by omega⟩
   simp [Builtin.clear_,run_underlying hT.u,e2,hst]
end
end Go.AL

/-
  Walks: slices.Compact of whole numbers: some list (printed by mk2.py).
-/
import Derived.Test.YteiohkpjgcioaaaGreatDoorKNumb
import Derived.Test.YteiohkpjgcioaaaGreatDoorKHoB
import Derived.Test.YteiohkpjgcioaaaGreatDoorKAlg32
import Derived.Test.YteiohkpjgcioaaaGreatDoorKAlg37
import Derived.Test.YteiohkpjgcioaaaGreatDoorKHxA
set_option linter.unusedVariables false
set_option linter.unusedSimpArgs false
namespace Go.AL
open Go Go.BigFrame
def swapF (o:List Nat)(j:Nat):List Nat:=(o.set (j+1) (o.getD j 0)).set j (o.getD (j+1) 0)
def sinkF (c:Nat→Nat→Bool):Nat→List Nat→List Nat
 | 0,o=>o
 | j+1,o=>if c (o.getD (j+1) 0) (o.getD j 0) then sinkF c j (swapF o j) else o
def sortF (c:Nat→Nat→Bool):Nat→List Nat→List Nat
 | 0,o=>o
 | k+1,o=>sinkF c (k+1) (sortF c k o)
theorem swapF_len (o:List Nat)(j:Nat):(swapF o j).length=o.length:=by simp [swapF]
theorem sinkF_len (c:Nat→Nat→Bool):∀ (j:Nat) (o:List Nat),(sinkF c j o).length=o.length
 | 0,o=>rfl
 | j+1,o=>by
  rw [sinkF]
  split
  ·rw [sinkF_len c j,swapF_len]
  ·rfl
theorem sortF_len (c:Nat→Nat→Bool):∀ (k:Nat) (o:List Nat),(sortF c k o).length=o.length
 | 0,o=>rfl
 | k+1,o=>by rw [sortF,sinkF_len,sortF_len c k]
end Go.AL
namespace Go.Proofs.YteiohkpjgcioaaaGreatDoor
open Go Go.AL
abbrev dN (k:Nat):D:=dI (k:Int)
def ltN (x y:Nat):Bool:=decide ((x:Int)<(y:Int))
theorem cmp_isNaNI {n:Int}:FSpec P F.cmp_isNaN_int [.d (dI n)] (.d (dB false)):=by
 refine FSpec.intro fn.cmp_isNaN_int (by rfl) (by rfl) (nb9 (by rfl)) fun E hE=>(AW.sg hE rfl (asD rfl (OL.nil (AW.sg hE rfl (mvD rfl (mvD rfl (c_neq rfl rfl rfl ?_)))))))
 exact asD rfl (OL.nil (AW.ret (RetQ.r ⟨_,.tmp rfl .nil,.le (VLe.bool (by simp))⟩)))
theorem sl_isNaNI {n:Int}:FSpec P F.slices_isNaN_int [.d (dI n)] (.d (dB false)):=by
 refine FSpec.intro fn.slices_isNaN_int (by rfl) (by rfl) (nb9 (by rfl)) fun E hE=>(AW.sg hE rfl (asD rfl (OL.nil (AW.sg hE rfl (mvD rfl (mvD rfl (c_neq rfl rfl rfl ?_)))))))
 exact asD rfl (OL.nil (AW.ret (RetQ.r ⟨_,.tmp rfl .nil,.le (VLe.bool (by simp))⟩)))
theorem lessN {x y:Nat}:FSpec P F.cmp_Less_int [.d (dN x),.d (dN y)] (.d (dB (ltN x y))):=by
 refine FSpec.intro fn.cmp_Less_int (by rfl) (by rfl) (nb9 (by rfl)) fun E hE=>(AW.sg hE rfl (asD rfl (OL.nil (AW.sg hE rfl (mvD rfl (clv rfl vL (cmp_isNaNI) (mvD rfl ?_)))))))
 refine OL.split 7 rfl (fun g7=>?_) (fun g7=>?_)
 ·try simp only [dx9] at g7
  refine OL.yes rfl (mvD rfl (OL.yes rfl (clv rfl vL (cmp_isNaNI) (OL.yes rfl (nt rfl (pkT rfl rfl (mvD rfl ?_)))))))
  refine OL.split 12 rfl (fun g12=>?_) (fun g12=>?_)
  ·try simp only [dx9] at g12
   exact OL.nd rfl (OL.nd rfl (OL.nd rfl (pkT rfl rfl (asD rfl (OL.nil (AW.ret (RetQ.r ⟨_,.tmp rfl .nil,.le (VLe.bool (by simp_all))⟩)))))))
  ·try simp only [dx9] at g12
   refine OL.yes rfl (mvD rfl (OL.yes rfl (mvD rfl (OL.yes rfl (c_lss rfl rfl rfl (pkF rfl rfl (asD rfl ?_)))))))
   exact OL.nil (AW.ret (RetQ.r ⟨_,.tmp rfl .nil,.le vR⟩))
 ·try simp only [dx9] at g7
  refine OL.nd rfl (OL.nd rfl (OL.nd rfl (pkF rfl rfl (mvD rfl (OL.yes rfl (mvD rfl (OL.yes rfl ?_)))))))
  exact mvD rfl (OL.yes rfl (c_lss rfl rfl rfl (pkF rfl rfl (asD rfl (OL.nil (AW.ret (RetQ.r ⟨_,.tmp rfl .nil,.le vR⟩)))))))
theorem insertO {o:List Nat}{n b c9:Nat}(hl:o.length=n)(hn:1≤n∧n≤12):FSpecM P F.slices_insertionSortOrdered_int [.osl 1000 b n c9,.d (dI 0),.d (dI n)] (mem1 1000 (.row b c9 T.int 1 ((o).map dN))) (.tup []) (mem1 1000 (.row b c9 T.int 1 ((sortF ltN (n-1) o).map dN))):=by
 refine FSpecM.intro fn.slices_insertionSortOrdered_int (by rfl) (by rfl) (nb9 (by rfl)) fun E hE=>(AW.sg hE rfl (mvD rfl (add_i64 rfl rfl (by omega) (asD rfl (OL.nil (AW.block ?_))))))
 refine AW.whileK (α:=Nat) [(0,_),(1,_),(2,_)] [] (fun i=>[(6,.d (dI i))]) (fun i=>[(1000,.row b c9 T.int 1 ((sortF ltN (i-1) o).map dN))]) (fun i=>1≤i∧i≤n) (fun i=>n-i) 1 (.cons (knO rfl) (.cons (knD rfl) (.cons (knD rfl) .nil))) .nil ⟨⟨Nat.le_refl _,hn.1⟩,.rq1,.cons rfl .nil⟩ ?_
 rintro i ⟨h1,h2⟩
 have h1:1≤i:=h1
 have h2:i≤n:=h2
 refine AW.seq (AW.sg hE rfl (mvD rfl (mvD rfl (c_lss rfl rfl rfl (OL.nil (AW.cond rfl (fun h12=>?_) (fun h12=>?_)))))))
 ·try simp only [dx9] at h12
  refine AW.skip (AW.midK (α:=Unit) [(0,_),(1,_),(2,_),(6,_)] [] (fun _u=>[]) (fun _u=>[(1000,.row b c9 T.int 1 ((sortF ltN i o).map dN))]) (fun _u=>True) (.cons (knO rfl) (.cons (knD rfl) (.cons (knD rfl) (.cons (knD rfl) .nil)))) .nil ?_ ?_)
  ·refine AW.block (AW.sg hE rfl (mvD rfl (asD rfl (OL.nil (AW.block ?_)))))
   refine AW.whileK (α:=Nat × List Nat) [(0,_),(1,_),(2,_),(6,_)] [] (fun (j,u)=>[(7,.d (dI j))]) (fun (j,u)=>[(1000,.row b c9 T.int 1 ((u).map dN))]) (fun (j,u)=>j≤i∧u.length=n∧sinkF ltN j u=sortF ltN i o) (fun (j,u)=>j) (i,sortF ltN (i-1) o) (.cons (knO rfl) (.cons (knD rfl) (.cons (knD rfl) (.cons (knD rfl) .nil)))) .nil ⟨⟨Nat.le_refl _,by rw [sortF_len];exact hl,by obtain ⟨q,rfl⟩:∃ q,i=q+1:=⟨i-1,by omega⟩;rfl⟩,.rq1,.cons rfl .nil⟩ ?_
   rintro ⟨j,u⟩ ⟨h3,hul,hs⟩
   have h3:j≤i:=h3
   have hul:u.length=n:=hul
   refine AW.seq (AW.seq (AW.dg 1 [0,1,2,3,4,5,6,7,8,9,10,11,12,13,14] order_free hE rfl (by kernel_rfl) (OI.of_OL (os:=[_,_,_,_,_,_,_,_,_,_,_,_,_,_,_]) rfl ?_)))
   refine mvD rfl (mvD rfl (c_gtr rfl rfl rfl (mvD rfl (OL.split 19 rfl (fun hj=>?_) (fun hj=>?_)))))
   ·have hj:(0:Int)<(j:Int):=dt9 hj
    obtain ⟨j,rfl⟩:∃ q,j=q+1:=⟨j-1,by omega⟩
    refine OL.yes rfl (mvO rfl (OL.yes rfl (mvD rfl (OL.yes rfl (ixOn sl.ints rfl rfl (by omega) (OL.yes rfl (ldEL ce.int 0 (by decide) rfl rfl (by omega) rfl ?_)))))))
    refine OL.yes rfl (mvO rfl (OL.yes rfl (mvD rfl (OL.yes rfl (bo rfl rfl (bin_sub (c:=(j:Int)) (by omega) (wrap_i64 (by omega))) (OL.yes rfl (ixOn sl.ints rfl rfl (by omega) ?_)))))))
    refine OL.yes rfl (ldEL ce.int 0 (by decide) rfl rfl (by omega) rfl (OL.yes rfl (clv rfl vL (lessN (x:=u.getD (j+1) 0) (y:=u.getD j 0)) (pkT rfl rfl (OL.nil (AW.cond rfl (fun hk=>?_) (fun hk=>?_)))))))
    ·have hk:ltN (u.getD (j+1) 0) (u.getD j 0)=true:=hk
     refine AW.skip (AW.seq (AW.block (AW.dg 1 [0,1,2,3,4,5,6,7,8,9,10,11,12,13,14,15,16,17] order_free hE rfl (by kernel_rfl) (OI.of_OL (os:=[_,_,_,_,_,_,_,_,_,_,_,_,_,_,_,_,_,_]) rfl ?_))))
     refine mvO rfl (mvD rfl (mvO rfl (mvD rfl (bo rfl rfl (bin_sub (c:=(j:Int)) (by omega) (wrap_i64 (by omega))) (mvO rfl (mvD rfl (bo rfl rfl (bin_sub (c:=(j:Int)) (by omega) (wrap_i64 (by omega))) ?_)))))))
     refine ixOn sl.ints rfl rfl (by omega) (ldEL ce.int 0 (by decide) rfl rfl (by omega) rfl (mvO rfl (mvD rfl (ixOn sl.ints rfl rfl (by omega) (ldEL ce.int 0 (by decide) rfl rfl (by omega) rfl (ixOn sl.ints rfl rfl (by omega) (stE sz.int rfl (VC.d _).vd rfl rfl (by rw [lm9];omega) (es2:=(u.set (j+1) (u.getD j 0)).map dN) (by rw [List.map_set]) ?_)))))))
     refine ixOn sl.ints rfl rfl (by omega) (stE sz.int rfl (VC.d _).vd rfl rfl (by rw [lm9,List.length_set];omega) (es2:=(swapF u j).map dN) (by unfold swapF;exact List.map_set.symm) (OL.nil (AW.rg hE rfl (mvD rfl (bo rfl rfl (bin_sub (c:=(j:Int)) (by omega) (wrap_i64 (by omega))) (asD rfl (OL.nil ?_)))))))
     exact AW.again (x:=(j+1,u)) (j,swapF u j) (by (simp only [];omega)) ⟨⟨by omega,by rw [swapF_len];exact hul,by rw [← hs,sinkF,if_pos hk]⟩,Knows.app .rq4 .rq1,.cons rfl .nil⟩
    ·have hk:¬ ltN (u.getD (j+1) 0) (u.getD j 0)=true:=fun e=>by rw [hk] at e;cases e
     exact AW.exit (AW.reach () ⟨trivial,Knows.app .rq4 (.nil),.cons (by rw [← hs,sinkF,if_neg hk];rfl) .nil⟩)
   ·have hj:¬ (0:Int)<(j:Int):=df9 hj
    refine OL.nd rfl (OL.nd rfl (OL.nd rfl (OL.nd rfl (OL.nd rfl (OL.nd rfl (OL.nd rfl (OL.nd rfl ?_)))))))
    refine OL.nd rfl (OL.nd rfl (pkF rfl rfl (OL.nil (cnF rfl ?_))))
    exact AW.exit (AW.reach () ⟨trivial,Knows.app .rq4 (.nil),.cons (by obtain rfl:j=0:=(by omega);rw [← hs];rfl) .nil⟩)
  rintro ⟨⟩ hφ
  exact AW.rg hE rfl (mvD rfl (add_i64 rfl rfl (by omega) (asD rfl (OL.nil (AW.again (x:=i) (i+1) (by omega) ⟨⟨by omega,by omega⟩,Knows.app .rq3 .rq1,.cons (by rw [Nat.add_sub_cancel];rfl) .nil⟩)))))
 ·try simp only [dx9] at h12
  refine AW.exit ?_
  obtain rfl:i=n:=by omega
  exact ⟨⟨_,.nil,_,.nil,rfl⟩,mem1_keep rfl⟩
theorem pdqO {o:List Nat}{n b c9:Nat}(hl:o.length=n)(hn:1≤n∧n≤12){lim:Int}:FSpecM P F.slices_pdqsortOrdered_int [.osl 1000 b n c9,.d (dI 0),.d (dI n),.d (dI lim)] (mem1 1000 (.row b c9 T.int 1 ((o).map dN))) (.tup []) (mem1 1000 (.row b c9 T.int 1 ((sortF ltN (n-1) o).map dN))):=by
 refine FSpecM.intro fn.slices_pdqsortOrdered_int (by rfl) (by rfl) (nb9 (by rfl)) fun E hE=>(AW.sg hE rfl (asD rfl (OL.nil (AW.sg hE rfl (asD rfl (OL.nil (AW.block ?_)))))))
 refine AW.whileK (α:=Unit) [(0,_)] [] (fun _u=>[(1,.d (dI 0)),(2,.d (dI n)),(3,.d (dI lim)),(8,.d (dB true)),(9,.d (dB true))]) (fun _u=>[(1000,.row b c9 T.int 1 ((o).map dN))]) (fun _u=>True) (fun _u=>0) () (.cons (knO rfl) .nil) .nil ⟨trivial,.rq5,.cons rfl .nil⟩ ?_
 rintro ⟨⟩ -
 refine AW.block (AW.sg hE rfl (mvD rfl (mvD rfl (sub_i64 rfl rfl (by omega) (asD rfl (OL.nil (AW.seq ?_)))))))
 refine AW.sg hE rfl (mvD rfl (c_leq rfl rfl (c:=true) (by exact decide_eq_true (by omega)) (OL.nil (cnT rfl ?_))))
 exact AW.sg hE rfl (mvO rfl (mvD rfl (mvD rfl (OL.callM (v:=.tup []) (.mk (args':=[.osl 1000 b n c9,.d (dI 0),.d (dI n)]) rfl (.cons vR (.cons vR (.cons vR (.nil)))) (mem1_keep (id:=1000) (blk:=.row b c9 T.int 1 ((o).map dN)) rfl) mem1_sub (insertO hl hn)) (OL.nil (AW.ret ⟨⟨_,.nil,_,.nil,rfl⟩,mem1_keep rfl⟩))))))
theorem bits_Len64 {x:Nat}(hx:x<256):FSpec P F.math_bits_Len64 [.d (dU x)] (.d (dI (blen x))):=by
 refine FSpec.intro fn.math_bits_Len64 (by rfl) (by rfl) (nb9 (by rfl)) fun E hE=>(AW.sg hE rfl (asD rfl (OL.nil (AW.seq (AW.sg hE rfl (mvD rfl (c_geq rfl rfl rfl ?_)))))))
 refine OL.nil (AW.cond rfl (fun hno=>absurd hno (by simp;omega)) (fun _=>?_))
 refine AW.skip (AW.seq (AW.sg hE rfl (mvD rfl (c_geq rfl rfl rfl (OL.nil (AW.cond rfl (fun hno=>absurd hno (by simp;omega)) (fun _=>?_)))))))
 refine AW.skip (AW.seq (AW.sg hE rfl (mvD rfl (c_geq rfl rfl rfl (OL.nil (AW.cond rfl (fun hno=>absurd hno (by simp;omega)) (fun _=>?_)))))))
 refine AW.skip (AW.seq ?_)
 have hz:=blen_mono (x:=x) (k:=8) (by omega)
 refine AW.rg hE rfl (mvD rfl (mvD rfl (cv it.u64 it.u8 rfl (c:=(x:Int)) (wrap_u8 (by omega)) (sAt st.str rfl rfl (q:=blen x) (tbl (by kernel_rfl) hx) (cv it.u8 it.int rfl (wrap_i64 (by omega)) (add_i64 rfl rfl (by omega) (asD rfl ?_)))))))
 exact OL.nil (AW.ret (RetQ.r ⟨_,.tmp rfl .nil,.le (VLe.int (by omega))⟩))
theorem bits_Len {x:Nat}(hx:x<256):FSpec P F.math_bits_Len [.d (dU x)] (.d (dI (blen x))):=by
 refine FSpec.intro fn.math_bits_Len (by rfl) (by rfl) (nb9 (by rfl)) fun E hE=>(AW.sg hE rfl (asD rfl (OL.nil (AW.seq (cnF rfl ?_)))))
 exact AW.skip (AW.sg hE rfl (mvD rfl (clv rfl vL (bits_Len64 hx) (asD rfl (OL.nil (AW.ret (RetQ.r ⟨_,.tmp rfl .nil,.le vR⟩)))))))
theorem sortO {o:List Nat}{n b c9:Nat}(hl:o.length=n)(hn:1≤n∧n≤12):FSpecM P F.slices_Sort_ints_int [.osl 1000 b n c9] (mem1 1000 (.row b c9 T.int 1 ((o).map dN))) (.tup []) (mem1 1000 (.row b c9 T.int 1 ((sortF ltN (n-1) o).map dN))):=by
 refine FSpecM.intro fn.slices_Sort_ints_int (by rfl) (by rfl) (nb9 (by rfl)) fun E hE=>(AW.sg hE rfl (mvO rfl (lnO sl.ints rfl rfl (asD rfl (OL.nil (AW.rg hE rfl (mvO rfl ?_)))))))
 refine mvD rfl (mvD rfl (cv it.int it.uint rfl (c:=(n:Int)) (wrap_u64 (by omega)) (clv rfl vL (bits_Len (x:=n) (by omega)) ?_)))
 refine OL.callM (v:=.tup []) (.mk (args':=[.osl 1000 b n c9,.d (dI 0),.d (dI n),.d (dI (blen n))]) rfl (.cons vR (.cons vR (.cons vR (.cons vR (.nil))))) (mem1_keep (id:=1000) (blk:=.row b c9 T.int 1 ((o).map dN)) rfl) mem1_sub (pdqO (lim:=(blen n:Int)) hl hn)) ?_
 exact OL.nil (⟨⟨_,.nil,_,.nil,rfl⟩,mem1_keep rfl⟩)
theorem searchN {l:List Nat}{x:Nat}(hn:l.length≤1048576):FSpecE P F.slices_BinarySearch_ints_int [.d (.sl (l.map dN)),.d (dN x)] noMem (fun y:Nat × Bool=>.tup [.d (dN y.1),.d (dB y.2)]) (fun _=>noMem) (fun y=>y.1≤l.length):=by
 refine FSpecE.intro fn.slices_BinarySearch_ints_int (by rfl) (by rfl) (nb9 (by rfl)) fun E hE=>(AW.sg hE rfl (asD rfl (asD rfl (OL.nil (AW.sg hE rfl (mvD rfl (lnL (f:=dN) sl.ints rfl rfl ?_)))))))
 refine asD rfl (OL.nil (AW.sg hE rfl (mvD rfl (asD rfl (asD rfl (OL.nil (AW.seq ?_)))))))
 refine AW.block ?_
 refine AW.whileK (α:=Nat × Nat) [(0,_),(1,_),(4,_),(5,_),(6,_)] [] (fun (i,j)=>[(7,.d (dI i)),(8,.d (dI j))]) (fun (i,j)=>[]) (fun (i,j)=>i≤j∧j≤l.length) (fun (i,j)=>j-i) (0,l.length) (.cons (knD rfl) (.cons (knD rfl) (.cons (knD rfl) (.cons (knD rfl) (.cons (knD rfl) .nil))))) .nil ⟨⟨Nat.zero_le _,Nat.le_refl _⟩,.rq2,.nil⟩ ?_
 rintro ⟨i,j⟩ ⟨h1,h2⟩
 have h1:i≤j:=h1
 have h2:j≤l.length:=h2
 refine AW.seq (AW.sg hE rfl (mvD rfl (mvD rfl (c_lss rfl rfl rfl (OL.nil (AW.cond rfl (fun h15=>?_) (fun h15=>?_)))))))
 ·try simp only [dx9] at h15
  refine AW.skip (AW.block (AW.seq ?_))
  have hlt:i<j:=by omega
  refine AW.rg hE rfl (mvD rfl (mvD rfl (bo rfl rfl (bin_add (c:=((i+j:Nat):Int)) (by omega) (wrap_i64 (by omega))) (cv it.int it.uint rfl (wrap_u64 (by omega)) (shrV rfl rfl ⟨by decide,by decide⟩ (c:=(((i+j) / 2:Nat):Int)) (by show (((i+j:Nat):Int)) / 2=_;omega) (cv it.uint it.int rfl (wrap_i64 (by omega)) (asD rfl ?_)))))))
  refine OL.nil (AW.sg hE rfl (mvD rfl (mvD rfl (ixLn (f:=dN) sl.ints 0 rfl rfl (by omega) rfl rfl (ldRC ce.int rfl (mvD rfl (clv rfl vL (lessN (x:=l.getD ((i+j) / 2) 0) (y:=x)) ?_)))))))
  refine OL.nil (AW.cond rfl (fun hc=>?_) (fun hc=>?_))
  ·try simp only [dx9] at hc
   refine AW.rg hE rfl (mvD rfl (add_i64 rfl rfl (by omega) (asD rfl (OL.nil ?_))))
   exact AW.again (x:=(i,j)) ((i+j) / 2+1,j) (by show j-((i+j) / 2+1)<j-i;omega) ⟨⟨by omega,by omega⟩,Knows.app .rq5 (.cons (VLe.int (by omega)) .rq1),.nil⟩
  ·try simp only [dx9] at hc
   refine AW.rg hE rfl (mvD rfl (asD rfl (OL.nil ?_)))
   exact AW.again (x:=(i,j)) (i,(i+j) / 2) (by show (i+j) / 2-i<j-i;omega) ⟨⟨by omega,by omega⟩,Knows.app .rq5 (.cons vR (.cons (VLe.int (by omega)) .nil)),.nil⟩
 ·try simp only [dx9] at h15
  refine AW.exit (AW.seq ?_)
  have hij:i≤l.length:=by omega
  refine AW.rg hE rfl (mvD rfl (mvD rfl (mvD rfl (c_lss rfl rfl rfl (OL.split 34 rfl (fun h3=>?_) (fun h3=>?_))))))
  ·have h3:i<l.length:=by have:=dt9 h3;omega
   refine mvD rfl (OL.yes rfl (mvD rfl (OL.yes rfl (mvD rfl (OL.yes rfl (ixLn (f:=dN) sl.ints 0 rfl rfl (by omega) rfl rfl (OL.yes rfl ?_)))))))
   refine ldRC ce.int rfl (OL.yes rfl (mvD rfl (OL.yes rfl (c_eql rfl rfl rfl (OL.split 41 rfl (fun h4=>?_) (fun h4=>?_))))))
   ·skip
    refine OL.yes rfl (mvD rfl (OL.nd rfl (OL.nd rfl (OL.nd rfl (OL.nd rfl (OL.nd rfl (OL.nd rfl ?_)))))))
    refine OL.nd rfl (OL.nd rfl (OL.nd rfl (OL.yes rfl (pkT rfl rfl (pkT rfl rfl (asD rfl (asD rfl ?_)))))))
    refine OL.nil ?_
    exact AW.ret ⟨(i,true),hij,⟨_,.tmp rfl (.tmp rfl .nil),_,.cons (.le vR) (.cons (.le vR) .nil),rfl⟩,fun _ _ h=>by cases h⟩
   ·skip
    refine OL.yes rfl (mvD rfl (OL.yes rfl (mvD rfl (OL.yes rfl (mvD rfl (OL.yes rfl (ixLn (f:=dN) sl.ints 0 rfl rfl (by omega) rfl rfl ?_)))))))
    refine OL.yes rfl (ldRC ce.int rfl (OL.yes rfl (clv rfl vL (sl_isNaNI) (OL.yes rfl (mvD rfl (OL.split 48 rfl (fun g48=>?_) (fun g48=>?_)))))))
    ·try simp only [dx9] at g48
     refine OL.yes rfl (mvD rfl (OL.yes rfl (clv rfl vL (sl_isNaNI) (OL.yes rfl (pkT rfl rfl (OL.yes rfl (pkF rfl rfl ?_)))))))
     refine pkT rfl rfl (asD rfl (asD rfl (OL.nil ?_)))
     exact AW.ret ⟨(i,false),hij,⟨_,.tmp rfl (.tmp rfl .nil),_,.cons (.le vR) (.cons (.le vR) .nil),rfl⟩,fun _ _ h=>by cases h⟩
    ·try simp only [dx9] at g48
     refine OL.nd rfl (OL.nd rfl (OL.yes rfl (pkF rfl rfl (OL.yes rfl (pkF rfl rfl (pkT rfl rfl (asD rfl ?_)))))))
     refine asD rfl (OL.nil ?_)
     exact AW.ret ⟨(i,false),hij,⟨_,.tmp rfl (.tmp rfl .nil),_,.cons (.le vR) (.cons (.le vR) .nil),rfl⟩,fun _ _ h=>by cases h⟩
  ·have h3:¬ i<l.length:=by have:=df9 h3;omega
   refine mvD rfl (OL.nd rfl (OL.nd rfl (OL.nd rfl (OL.nd rfl (OL.nd rfl (OL.nd rfl (OL.nd rfl ?_)))))))
   refine OL.nd rfl (OL.nd rfl (OL.nd rfl (OL.nd rfl (OL.nd rfl (OL.nd rfl (OL.nd rfl (OL.nd rfl ?_)))))))
   refine OL.nd rfl (OL.nd rfl (pkF rfl rfl (asD rfl (asD rfl (OL.nil ?_)))))
   exact AW.ret ⟨(i,false),hij,⟨_,.tmp rfl (.tmp rfl .nil),_,.cons (.le vR) (.cons (.le vR) .nil),rfl⟩,fun _ _ h=>by cases h⟩
theorem frz_prefix {id b n c:Nat}{es:List D}(hn:n≤es.length):V.frz id b c es (.osl id b n c)=.d (.sl (es.take n)):=by
 simp [V.frz,hn]
set_option maxHeartbeats 800000 in
theorem compactN {l:List Nat}{n b c9:Nat}(hl:l.length=n)(hn:n≤1048576):FSpecE P F.slices_Compact_ints_int [.osl 1000 b n c9] (mem1 1000 (.row b c9 T.int 1 ((l).map dN))) (fun y:List Nat=>.d (.sl (y.map dN))) (fun _=>noMem) (fun y=>y.length≤n):=by
 refine FSpecE.intro fn.slices_Compact_ints_int (by rfl) (by rfl) (nb9 (by rfl)) fun E hE=>(AW.sg hE rfl (asM rfl (OL.nil (AW.seq (AW.sg hE rfl (mvO rfl (lnO sl.ints rfl rfl ?_)))))))
 refine c_lss rfl rfl rfl (OL.nil (AW.cond rfl (fun h8=>?_) (fun h8=>?_)))
 ·try simp only [dx9] at h8
  refine AW.sg hE rfl (mvO rfl (asO rfl (OL.nil (AW.freeze 1000 rfl (AW.ret ⟨l,(by show List.length _≤n;first|omega|(rw [List.length_take];omega)),⟨_,.tmp rfl .nil,.le (frz_osl (by rw [lm9];omega) rfl)⟩,fun _ _ h=>by cases h⟩)))))
 ·try simp only [dx9] at h8
  refine AW.skip (AW.seq (AW.sg hE rfl (asD rfl (OL.nil (AW.block (AW.whileK (α:=Nat) [(0,_)] [] (fun k=>[(3,.d (dI k))]) (fun k=>[(1000,.row b c9 T.int 1 ((l).map dN))]) (fun k=>1≤k∧k≤n) (fun k=>n-k) 1 (.cons (knO rfl) .nil) .nil ⟨⟨Nat.le_refl _,by omega⟩,.rq1,.cons rfl .nil⟩ ?_))))))
  rintro k ⟨h1,h2⟩
  have h1:1≤k:=h1
  have h2:k≤n:=h2
  refine AW.seq (AW.sg hE rfl (mvD rfl (mvO rfl (lnO sl.ints rfl rfl (c_lss rfl rfl rfl (OL.nil (AW.cond rfl (fun h13=>?_) (fun h13=>?_))))))))
  ·try simp only [dx9] at h13
   refine AW.skip (AW.seq (AW.block (AW.seq (AW.dg 1 [0,1,2,3,4,5,6,7,8,9] order_free hE rfl (by kernel_rfl) (OI.of_OL (os:=[_,_,_,_,_,_,_,_,_,_]) rfl ?_)))))
   refine mvO rfl (mvD rfl (ixOn sl.ints rfl rfl (by omega) (ldEL ce.int 0 (by decide) rfl rfl (by omega) rfl (mvO rfl (mvD rfl (bo rfl rfl (bin_sub (c:=((k-1:Nat):Int)) (by omega) (wrap_i64 (by omega))) (ixOn sl.ints rfl rfl (by omega) ?_)))))))
   refine ldEL ce.int 0 (by decide) rfl rfl (by omega) rfl (c_eql rfl rfl rfl (OL.nil (AW.cond rfl (fun h25=>?_) (fun h25=>?_))))
   ·try simp only [dx9] at h25
    refine AW.sg hE rfl (mvO rfl (mvD rfl (slB (l:=k) (n2:=n-k) sl.ints rfl rfl (by omega) rfl (asB rfl (OL.nil (AW.seq (AW.sg hE rfl ?_)))))))
    refine asD rfl (OL.nil (AW.block ?_))
    refine AW.whileK (α:=Nat × Nat × List Nat) [(0,_),(4,_)] [] (fun (i,j,u)=>[(3,.d (dI i)),(5,.d (dI j))]) (fun (i,j,u)=>[(1000,.row b c9 T.int 1 ((u).map dN))]) (fun (i,j,u)=>1≤i∧i<k+j∧1≤j∧j≤n-k∧u.length=n) (fun (i,j,u)=>n-k-j) (k,1,l) (.cons (knO rfl) (.cons (knB rfl) .nil)) .nil ⟨⟨h1,by omega,Nat.le_refl _,by omega,hl⟩,.rq2,.cons rfl .nil⟩ ?_
    rintro ⟨i,j,u⟩ ⟨h3,h4,h5,h6,h7⟩
    have h4:i<k+j:=h4
    have h6:j≤n-k:=h6
    have h7:u.length=n:=h7
    refine AW.seq (AW.sg hE rfl (mvD rfl (mvB rfl (lnB sl.ints rfl rfl (c_lss rfl rfl rfl (OL.nil (AW.cond rfl (fun h32=>?_) (fun h32=>?_))))))))
    ·try simp only [dx9] at h32
     refine AW.skip (AW.seq (AW.block (AW.seq (AW.dg 1 [0,1,2,3,4,5,6,7,8,9] order_free hE rfl (by kernel_rfl) (OI.of_OL (os:=[_,_,_,_,_,_,_,_,_,_]) rfl ?_)))))
     refine mvB rfl (mvD rfl (ixBn (n:=j) (i:=k+j) sl.ints rfl rfl (by omega) rfl (ldEL ce.int 0 (by decide) rfl rfl (by omega) rfl (mvB rfl (mvD rfl (bo rfl rfl (bin_sub (c:=((j-1:Nat):Int)) (by omega) (wrap_i64 (by omega))) (ixBn (n:=j-1) (i:=k+(j-1)) sl.ints rfl rfl (by omega) rfl ?_)))))))
     refine ldEL ce.int 0 (by decide) rfl rfl (by omega) rfl (c_neq rfl rfl rfl (OL.nil (AW.cond rfl (fun h44=>?_) (fun h44=>?_))))
     ·try simp only [dx9] at h44
      refine AW.sg hE rfl (mvO rfl (mvD rfl (mvB rfl (mvD rfl (ixBn (n:=j) (i:=k+j) sl.ints rfl rfl (by omega) rfl (ldEL ce.int 0 (by decide) rfl rfl (by omega) rfl (ixOn sl.ints rfl rfl (by omega) ?_)))))))
      refine stE sz.int rfl (VC.d _).vd rfl rfl (by rw [lm9];omega) (es2:=(u.set i (u.getD (k+j) 0)).map dN) (by rw [List.map_set]) (OL.nil (AW.rg hE rfl (mvD rfl (add_i64 rfl rfl (by omega) (asD rfl (OL.nil (AW.rg hE rfl ?_)))))))
      refine mvD rfl (add_i64 rfl rfl (by omega) (asD rfl (OL.nil ?_)))
      exact AW.again (x:=(i,j,u)) (i+1,j+1,u.set i (u.getD (k+j) 0)) (by show n-k-(j+1)<n-k-j;omega) ⟨⟨by omega,by omega,by omega,by omega,by rw [List.length_set];exact h7⟩,Knows.app .rq2 .rq2,.cons rfl .nil⟩
     ·try simp only [dx9] at h44
      exact AW.skip (AW.rg hE rfl (mvD rfl (add_i64 rfl rfl (by omega) (asD rfl (OL.nil (AW.again (x:=(i,j,u)) (i,j+1,u) (by show n-k-(j+1)<n-k-j;omega) ⟨⟨h3,by omega,by omega,by omega,h7⟩,Knows.app .rq2 .rq2,.cons rfl .nil⟩))))))
    ·try simp only [dx9] at h32
     refine AW.exit (AW.seq (AW.regionS (by rw [hE];rfl) (SL.ofOL (mvO rfl (OL.nil ?_)))))
     refine SL.ofOL (mvD rfl (OL.nil ?_))
     refine SL.ofOL (slB (l:=i) (n2:=n-i) sl.ints rfl rfl (by omega) rfl (OL.nil ?_))
     refine SL.ofSO rfl (SO.clearB (z:=dN 0) trivial sl.ints z.int (VCs.cons (VC.d _) VCs.nil) rfl rfl (by rw [lm9];omega) ?_)
     refine AW.sg hE rfl (mvO rfl (mvD rfl (slO (h:=i) sl.ints rfl rfl (by omega) (asO rfl (OL.nil ?_)))))
     refine AW.freeze 1000 rfl (AW.ret ⟨u.take i,(by show List.length _≤n;first|omega|(rw [List.length_take];omega)),⟨_,.tmp rfl .nil,.le (vle_of_eq ((frz_prefix (by rw [la9,List.length_take,lm9];omega)).trans (by rw [List.take_append_of_le_length (by rw [List.length_take,lm9];omega),List.take_take,Nat.min_self,← List.map_take])))⟩,fun _ _ h=>by cases h⟩)
   ·try simp only [dx9] at h25
    exact AW.skip (AW.rg hE rfl (mvD rfl (add_i64 rfl rfl (by omega) (asD rfl (OL.nil (AW.again (x:=k) (k+1) (by omega) ⟨⟨by omega,by omega⟩,Knows.app .rq1 .rq1,.cons rfl .nil⟩))))))
  ·try simp only [dx9] at h13
   refine AW.exit (AW.sg hE rfl (mvO rfl (asO rfl (OL.nil (AW.freeze 1000 rfl (AW.ret ⟨l,(by show List.length _≤n;first|omega|(rw [List.length_take];omega)),⟨_,.tmp rfl .nil,.le (frz_osl (by rw [lm9];omega) rfl)⟩,fun _ _ h=>by cases h⟩))))))
end Go.Proofs.YteiohkpjgcioaaaGreatDoor

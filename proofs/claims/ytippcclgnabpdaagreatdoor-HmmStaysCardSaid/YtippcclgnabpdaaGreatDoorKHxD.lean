/-
  Walks: slices.Sort of at most 12 whole numbers (printed by mk2.py; asB.py turned to it by mkhxD.py).
-/
import Derived.Test.YtippcclgnabpdaaGreatDoorKNumb
import Derived.Test.YtippcclgnabpdaaGreatDoorKHxC
set_option linter.unusedVariables false
set_option linter.unusedSimpArgs false
namespace Go.AL
open Go Go.BigFrame
def swapF (o : List Nat) (j : Nat) : List Nat := (o.set (j + 1) (o.getD j 0)).set j (o.getD (j + 1) 0)
def sinkF (c : Nat → Nat → Bool) : Nat → List Nat → List Nat
 | 0, o => o
 | j + 1, o => if c (o.getD (j + 1) 0) (o.getD j 0) then sinkF c j (swapF o j) else o
def sortF (c : Nat → Nat → Bool) : Nat → List Nat → List Nat
 | 0, o => o
 | k + 1, o => sinkF c (k + 1) (sortF c k o)
theorem swapF_len (o : List Nat) (j : Nat) : (swapF o j).length = o.length := by simp [swapF]
theorem sinkF_len (c : Nat → Nat → Bool) : ∀ (j : Nat) (o : List Nat), (sinkF c j o).length = o.length
 | 0, o => rfl
 | j + 1, o => by
  rw [sinkF]
  split
  ·rw [sinkF_len c j, swapF_len]
  ·rfl
theorem sortF_len (c : Nat → Nat → Bool) : ∀ (k : Nat) (o : List Nat), (sortF c k o).length = o.length
 | 0, o => rfl
 | k + 1, o => by rw [sortF, sinkF_len, sortF_len c k]
end Go.AL

set_option linter.unusedVariables false
set_option linter.unusedSimpArgs false
namespace Go.Proofs.YtippcclgnabpdaaGreatDoor
open Go Go.AL
abbrev dN (k : Nat) : D := dI (k : Int)
def ltN (x y : Nat) : Bool := decide ((x : Int) < (y : Int))
theorem cmp_isNaNI {n : Int} : FSpec P F.cmp_isNaN_int [.d (dI n)] (.d (dB false)) := by
 refine FSpec.intro fn.cmp_isNaN_int (by rfl) (by rfl) (nb9 (by rfl)) fun E hE => (AW.sg hE rfl (asD rfl (OL.nil (AW.sg hE rfl (mvD rfl (mvD rfl (c_neq rfl rfl rfl ?_)))))))
 exact asD rfl (OL.nil (AW.ret (RetQ.r ⟨_, .tmp rfl .nil, .le (VLe.bool (by simp))⟩)))
theorem sl_isNaNI {n : Int} : FSpec P F.slices_isNaN_int [.d (dI n)] (.d (dB false)) := by
 refine FSpec.intro fn.slices_isNaN_int (by rfl) (by rfl) (nb9 (by rfl)) fun E hE => (AW.sg hE rfl (asD rfl (OL.nil (AW.sg hE rfl (mvD rfl (mvD rfl (c_neq rfl rfl rfl ?_)))))))
 exact asD rfl (OL.nil (AW.ret (RetQ.r ⟨_, .tmp rfl .nil, .le (VLe.bool (by simp))⟩)))
theorem lessN {x y : Nat} : FSpec P F.cmp_Less_int [.d (dN x), .d (dN y)] (.d (dB (ltN x y))) := by
 refine FSpec.intro fn.cmp_Less_int (by rfl) (by rfl) (nb9 (by rfl)) fun E hE => (AW.sg hE rfl (asD rfl (OL.nil (AW.sg hE rfl (mvD rfl (clv rfl (.cons (VLe.refl _) (.nil)) (cmp_isNaNI) (mvD rfl ?_)))))))
 refine OL.split 7 rfl (fun g7 => ?_) (fun g7 => ?_)
 ·try simp only [dx9] at g7
  refine OL.yes rfl (mvD rfl (OL.yes rfl (clv rfl (.cons (VLe.refl _) (.nil)) (cmp_isNaNI) (OL.yes rfl (nt rfl (pkT rfl rfl (mvD rfl ?_)))))))
  refine OL.split 12 rfl (fun g12 => ?_) (fun g12 => ?_)
  ·try simp only [dx9] at g12
   exact OL.nd rfl (OL.nd rfl (OL.nd rfl (pkT rfl rfl (asD rfl (OL.nil (AW.ret (RetQ.r ⟨_, .tmp rfl .nil, .le (VLe.bool (by simp_all))⟩)))))))
  ·try simp only [dx9] at g12
   refine OL.yes rfl (mvD rfl (OL.yes rfl (mvD rfl (OL.yes rfl (c_lss rfl rfl rfl (pkF rfl rfl (asD rfl ?_)))))))
   exact OL.nil (AW.ret (RetQ.r ⟨_, .tmp rfl .nil, .le (VLe.refl _)⟩))
 ·try simp only [dx9] at g7
  refine OL.nd rfl (OL.nd rfl (OL.nd rfl (pkF rfl rfl (mvD rfl (OL.yes rfl (mvD rfl (OL.yes rfl ?_)))))))
  exact mvD rfl (OL.yes rfl (c_lss rfl rfl rfl (pkF rfl rfl (asD rfl (OL.nil (AW.ret (RetQ.r ⟨_, .tmp rfl .nil, .le (VLe.refl _)⟩)))))))
theorem insertO {o : List Nat} {n b c9 : Nat} (hl : o.length = n) (hn : 1 ≤ n ∧ n ≤ 12) : FSpecM P F.slices_insertionSortOrdered_int [.osl 1000 b n c9, .d (dI 0), .d (dI n)] (mem1 1000 (.row b c9 T.int 1 ((o).map dN))) (.tup []) (mem1 1000 (.row b c9 T.int 1 ((sortF ltN (n - 1) o).map dN))) := by
 refine FSpecM.intro fn.slices_insertionSortOrdered_int (by rfl) (by rfl) (nb9 (by rfl)) fun E hE => (AW.sg hE rfl (mvD rfl (add_i64 rfl rfl (by omega) (asD rfl (OL.nil (AW.block ?_))))))
 refine AW.whileK (α := Nat) [(0, _), (1, _), (2, _)] [] (fun i => [(6, .d (dI i))]) (fun i => [(1000, .row b c9 T.int 1 ((sortF ltN (i - 1) o).map dN))]) (fun i => 1 ≤ i ∧ i ≤ n) (fun i => n - i) 1 (.cons (knO rfl) (.cons (knD rfl) (.cons (knD rfl) .nil))) .nil ⟨⟨Nat.le_refl _, hn.1⟩, .rq1, .cons rfl .nil⟩ ?_
 rintro i ⟨h1, h2⟩
 have h1 : 1 ≤ i := h1
 have h2 : i ≤ n := h2
 refine AW.seq (AW.sg hE rfl (mvD rfl (mvD rfl (c_lss rfl rfl rfl (OL.nil (AW.cond rfl (fun h12 => ?_) (fun h12 => ?_)))))))
 ·try simp only [dx9] at h12
  refine AW.skip (AW.midK (α := Unit) [(0, _), (1, _), (2, _), (6, _)] [] (fun _u => []) (fun _u => [(1000, .row b c9 T.int 1 ((sortF ltN i o).map dN))]) (fun _u => True) (.cons (knO rfl) (.cons (knD rfl) (.cons (knD rfl) (.cons (knD rfl) .nil)))) .nil ?_ ?_)
  ·refine AW.block (AW.sg hE rfl (mvD rfl (asD rfl (OL.nil (AW.block ?_)))))
   refine AW.whileK (α := Nat × List Nat) [(0, _), (1, _), (2, _), (6, _)] [] (fun (j, u) => [(7, .d (dI j))]) (fun (j, u) => [(1000, .row b c9 T.int 1 ((u).map dN))]) (fun (j, u) => j ≤ i ∧ u.length = n ∧ sinkF ltN j u = sortF ltN i o) (fun (j, u) => j) (i, sortF ltN (i - 1) o) (.cons (knO rfl) (.cons (knD rfl) (.cons (knD rfl) (.cons (knD rfl) .nil)))) .nil ⟨⟨Nat.le_refl _, by rw [sortF_len]; exact hl, by obtain ⟨q, rfl⟩ : ∃ q, i = q + 1 := ⟨i - 1, by omega⟩; rfl⟩, .rq1, .cons rfl .nil⟩ ?_
   rintro ⟨j, u⟩ ⟨h3, hul, hs⟩
   have h3 : j ≤ i := h3
   have hul : u.length = n := hul
   refine AW.seq (AW.seq (AW.dg 1 [0,1,2,3,4,5,6,7,8,9,10,11,12,13,14] order_free hE rfl (by kernel_rfl) (OI.of_OL (os := [_,_,_,_,_,_,_,_,_,_,_,_,_,_,_]) rfl ?_)))
   refine mvD rfl (mvD rfl (c_gtr rfl rfl rfl (mvD rfl (OL.split 19 rfl (fun hj => ?_) (fun hj => ?_)))))
   ·have hj : (0 : Int) < (j : Int) := of_decide_eq_true hj
    obtain ⟨j, rfl⟩ : ∃ q, j = q + 1 := ⟨j - 1, by omega⟩
    refine OL.yes rfl (mvO rfl (OL.yes rfl (mvD rfl (OL.yes rfl (ixOn sl.ints rfl rfl (by omega) (OL.yes rfl (ldEL ce.int 0 (by decide) rfl rfl (by omega) rfl ?_)))))))
    refine OL.yes rfl (mvO rfl (OL.yes rfl (mvD rfl (OL.yes rfl (bo rfl rfl (bin_sub (c := (j : Int)) (by omega) (wrap_i64 (by omega))) (OL.yes rfl (ixOn sl.ints rfl rfl (by omega) ?_)))))))
    refine OL.yes rfl (ldEL ce.int 0 (by decide) rfl rfl (by omega) rfl (OL.yes rfl (clv rfl (.cons (VLe.refl _) (.cons (VLe.refl _) (.nil))) (lessN (x := u.getD (j + 1) 0) (y := u.getD j 0)) (pkT rfl rfl (OL.nil (AW.cond rfl (fun hk => ?_) (fun hk => ?_)))))))
    ·have hk : ltN (u.getD (j + 1) 0) (u.getD j 0) = true := hk
     refine AW.skip (AW.seq (AW.block (AW.dg 1 [0,1,2,3,4,5,6,7,8,9,10,11,12,13,14,15,16,17] order_free hE rfl (by kernel_rfl) (OI.of_OL (os := [_,_,_,_,_,_,_,_,_,_,_,_,_,_,_,_,_,_]) rfl ?_))))
     refine mvO rfl (mvD rfl (mvO rfl (mvD rfl (bo rfl rfl (bin_sub (c := (j : Int)) (by omega) (wrap_i64 (by omega))) (mvO rfl (mvD rfl (bo rfl rfl (bin_sub (c := (j : Int)) (by omega) (wrap_i64 (by omega))) ?_)))))))
     refine ixOn sl.ints rfl rfl (by omega) (ldEL ce.int 0 (by decide) rfl rfl (by omega) rfl (mvO rfl (mvD rfl (ixOn sl.ints rfl rfl (by omega) (ldEL ce.int 0 (by decide) rfl rfl (by omega) rfl (ixOn sl.ints rfl rfl (by omega) (stE sz.int rfl (VC.d _).vd rfl rfl (by rw [List.length_map]; omega) (es2 := (u.set (j + 1) (u.getD j 0)).map dN) (by rw [List.map_set]) ?_)))))))
     refine ixOn sl.ints rfl rfl (by omega) (stE sz.int rfl (VC.d _).vd rfl rfl (by rw [List.length_map, List.length_set]; omega) (es2 := (swapF u j).map dN) (by unfold swapF; exact List.map_set.symm) (OL.nil (AW.rg hE rfl (mvD rfl (bo rfl rfl (bin_sub (c := (j : Int)) (by omega) (wrap_i64 (by omega))) (asD rfl (OL.nil ?_)))))))
     exact AW.again (x := (j + 1, u)) (j, swapF u j) (by (simp only []; omega)) ⟨⟨by omega, by rw [swapF_len]; exact hul, by rw [← hs, sinkF, if_pos hk]⟩, Knows.app .rq4 .rq1, .cons rfl .nil⟩
    ·have hk : ¬ ltN (u.getD (j + 1) 0) (u.getD j 0) = true := fun e => by rw [hk] at e; cases e
     exact AW.exit (AW.reach () ⟨trivial, Knows.app .rq4 (.nil), .cons (by rw [← hs, sinkF, if_neg hk]; rfl) .nil⟩)
   ·have hj : ¬ (0 : Int) < (j : Int) := of_decide_eq_false hj
    refine OL.nd rfl (OL.nd rfl (OL.nd rfl (OL.nd rfl (OL.nd rfl (OL.nd rfl (OL.nd rfl (OL.nd rfl ?_)))))))
    refine OL.nd rfl (OL.nd rfl (pkF rfl rfl (OL.nil (AW.cond rfl (fun hno => absurd hno (by decide)) (fun _ => ?_)))))
    exact AW.exit (AW.reach () ⟨trivial, Knows.app .rq4 (.nil), .cons (by obtain rfl : j = 0 := (by omega); rw [← hs]; rfl) .nil⟩)
  rintro ⟨⟩ hφ
  exact AW.rg hE rfl (mvD rfl (add_i64 rfl rfl (by omega) (asD rfl (OL.nil (AW.again (x := i) (i + 1) (by omega) ⟨⟨by omega, by omega⟩, Knows.app .rq3 .rq1, .cons (by rw [Nat.add_sub_cancel]; rfl) .nil⟩)))))
 ·try simp only [dx9] at h12
  refine AW.exit ?_
  obtain rfl : i = n := by omega
  exact ⟨⟨_, .nil, _, .nil, rfl⟩, mem1_keep rfl⟩
theorem pdqO {o : List Nat} {n b c9 : Nat} (hl : o.length = n) (hn : 1 ≤ n ∧ n ≤ 12) {lim : Int} : FSpecM P F.slices_pdqsortOrdered_int [.osl 1000 b n c9, .d (dI 0), .d (dI n), .d (dI lim)] (mem1 1000 (.row b c9 T.int 1 ((o).map dN))) (.tup []) (mem1 1000 (.row b c9 T.int 1 ((sortF ltN (n - 1) o).map dN))) := by
 refine FSpecM.intro fn.slices_pdqsortOrdered_int (by rfl) (by rfl) (nb9 (by rfl)) fun E hE => (AW.sg hE rfl (asD rfl (OL.nil (AW.sg hE rfl (asD rfl (OL.nil (AW.block ?_)))))))
 refine AW.whileK (α := Unit) [(0, _)] [] (fun _u => [(1, .d (dI 0)), (2, .d (dI n)), (3, .d (dI lim)), (8, .d (dB true)), (9, .d (dB true))]) (fun _u => [(1000, .row b c9 T.int 1 ((o).map dN))]) (fun _u => True) (fun _u => 0) () (.cons (knO rfl) .nil) .nil ⟨trivial, .rq5, .cons rfl .nil⟩ ?_
 rintro ⟨⟩ -
 refine AW.block (AW.sg hE rfl (mvD rfl (mvD rfl (sub_i64 rfl rfl (by omega) (asD rfl (OL.nil (AW.seq ?_)))))))
 refine AW.sg hE rfl (mvD rfl (c_leq rfl rfl (c := true) (by exact decide_eq_true (by omega)) (OL.nil (AW.cond rfl (fun _ => ?_) (fun hno => absurd hno (by decide))))))
 exact AW.sg hE rfl (mvO rfl (mvD rfl (mvD rfl (OL.callM (v := .tup []) (.mk (args' := [.osl 1000 b n c9, .d (dI 0), .d (dI n)]) rfl (.cons (VLe.refl _) (.cons (VLe.refl _) (.cons (VLe.refl _) (.nil)))) (mem1_keep (id := 1000) (blk := .row b c9 T.int 1 ((o).map dN)) rfl) mem1_sub (insertO hl hn)) (OL.nil (AW.ret ⟨⟨_, .nil, _, .nil, rfl⟩, mem1_keep rfl⟩))))))
theorem bits_Len64 {x : Nat} (hx : x < 256) : FSpec P F.math_bits_Len64 [.d (dU x)] (.d (dI (blen x))) := by
 refine FSpec.intro fn.math_bits_Len64 (by rfl) (by rfl) (nb9 (by rfl)) fun E hE => (AW.sg hE rfl (asD rfl (OL.nil (AW.seq (AW.sg hE rfl (mvD rfl (c_geq rfl rfl rfl ?_)))))))
 refine OL.nil (AW.cond rfl (fun hno => absurd hno (by simp; omega)) (fun _ => ?_))
 refine AW.skip (AW.seq (AW.sg hE rfl (mvD rfl (c_geq rfl rfl rfl (OL.nil (AW.cond rfl (fun hno => absurd hno (by simp; omega)) (fun _ => ?_)))))))
 refine AW.skip (AW.seq (AW.sg hE rfl (mvD rfl (c_geq rfl rfl rfl (OL.nil (AW.cond rfl (fun hno => absurd hno (by simp; omega)) (fun _ => ?_)))))))
 refine AW.skip (AW.seq ?_)
 have hz := blen_mono (x := x) (k := 8) (by omega)
 refine AW.rg hE rfl (mvD rfl (mvD rfl (cv it.u64 it.u8 rfl (c := (x : Int)) (wrap_u8 (by omega)) (sAt st.str rfl rfl (q := blen x) (tbl (by kernel_rfl) hx) (cv it.u8 it.int rfl (wrap_i64 (by omega)) (add_i64 rfl rfl (by omega) (asD rfl ?_)))))))
 exact OL.nil (AW.ret (RetQ.r ⟨_, .tmp rfl .nil, .le (VLe.int (by omega))⟩))
theorem bits_Len {x : Nat} (hx : x < 256) : FSpec P F.math_bits_Len [.d (dU x)] (.d (dI (blen x))) := by
 refine FSpec.intro fn.math_bits_Len (by rfl) (by rfl) (nb9 (by rfl)) fun E hE => (AW.sg hE rfl (asD rfl (OL.nil (AW.seq (AW.cond rfl (fun hno => absurd hno (by decide)) (fun _ => ?_))))))
 exact AW.skip (AW.sg hE rfl (mvD rfl (clv rfl (.cons (VLe.refl _) (.nil)) (bits_Len64 hx) (asD rfl (OL.nil (AW.ret (RetQ.r ⟨_, .tmp rfl .nil, .le (VLe.refl _)⟩)))))))
theorem sortO {o : List Nat} {n b c9 : Nat} (hl : o.length = n) (hn : 1 ≤ n ∧ n ≤ 12) : FSpecM P F.slices_Sort_ints_int [.osl 1000 b n c9] (mem1 1000 (.row b c9 T.int 1 ((o).map dN))) (.tup []) (mem1 1000 (.row b c9 T.int 1 ((sortF ltN (n - 1) o).map dN))) := by
 refine FSpecM.intro fn.slices_Sort_ints_int (by rfl) (by rfl) (nb9 (by rfl)) fun E hE => (AW.sg hE rfl (mvO rfl (lnO sl.ints rfl rfl (asD rfl (OL.nil (AW.rg hE rfl (mvO rfl ?_)))))))
 refine mvD rfl (mvD rfl (cv it.int it.uint rfl (c := (n : Int)) (wrap_u64 (by omega)) (clv rfl (.cons (VLe.refl _) (.nil)) (bits_Len (x := n) (by omega)) ?_)))
 refine OL.callM (v := .tup []) (.mk (args' := [.osl 1000 b n c9, .d (dI 0), .d (dI n), .d (dI (blen n))]) rfl (.cons (VLe.refl _) (.cons (VLe.refl _) (.cons (VLe.refl _) (.cons (VLe.refl _) (.nil))))) (mem1_keep (id := 1000) (blk := .row b c9 T.int 1 ((o).map dN)) rfl) mem1_sub (pdqO (lim := (blen n : Int)) hl hn)) ?_
 exact OL.nil (⟨⟨_, .nil, _, .nil, rfl⟩, mem1_keep rfl⟩)
end Go.Proofs.YtippcclgnabpdaaGreatDoor

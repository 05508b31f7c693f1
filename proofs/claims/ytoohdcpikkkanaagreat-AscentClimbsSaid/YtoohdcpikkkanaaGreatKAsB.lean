/-
  Walks for chapter 39, part 2: sorting by insertion; rounding (printed by mk2.py).
-/
import Derived.Test.YtoohdcpikkkanaaGreatKAsA
set_option linter.unusedVariables false
set_option linter.unusedSimpArgs false
namespace Go.Proofs.YtoohdcpikkkanaaGreat
open Go Go.AL
abbrev dN (k : Nat) : D := dI (k : Int)
theorem rounded_1 {lo : List Rat} {C i j : Nat} (hz : Small C lo) (hC : 1 ≤ C ∧ C ≤ 68719476736) (hi : i < lo.length) (hj : j < lo.length) : FSpec P F.ascent_rounded_1 [.d (dN i), .d (dN j), .ref [dQs lo]] (.d (dI (cmpR lo i j))) := by
 have zi := hz.get hC.1 i
 have zj := hz.get hC.1 j
 refine FSpec.intro fn.ascent_rounded_1 (by rfl) (by rfl) (nb9 (by rfl)) fun E hE => (AW.sg hE rfl (asD rfl (OL.nil (AW.seq (AW.dg 1 [0,1,2,3,4,5,6,7,8,9,10,11,12,13,14] order_free hE rfl (by kernel_rfl) (OI.of_OL (os := [_,_,_,_,_,_,_,_,_,_,_,_,_,_,_]) rfl ?_))))))
 refine ldRC ce.Rats rfl (mvD rfl (ixLn (l := lo) sl.Rats 0 rfl rfl (by omega) rfl rfl (ldRA ag.Rat rfl (vs := [_,_,_]) rfl (nb9 rfl) (ldRC ce.Rats rfl (mvD rfl (ixLn (l := lo) sl.Rats 0 rfl rfl (by omega) rfl rfl (ldRA ag.Rat rfl (vs := [_,_,_]) rfl (nb9 rfl) ?_)))))))
 refine clv rfl (.cons (VLe.refl _) (.cons (VLe.refl _) (.nil))) (rational_CompareQ (x := lo.getD j 0) (y := lo.getD i 0) (by omega) (by omega)) (mvD rfl (mvD rfl (clv rfl (.cons (VLe.refl _) (.cons (VLe.refl _) (.nil))) (cmp_Compare) (lt2 (y := dI (cmpQ (lo.getD j 0) (lo.getD i 0))) (y2 := dI (sgnI ((i : Int) - (j : Int)))) sl.ints (VC.d _).vd (VC.d _).vd ⟨rfl, rfl⟩ (by decide) (clv rfl (.cons (VLe.refl _) (.nil)) (cmp_Or) (asD rfl (OL.nil ?_)))))))
 exact AW.ret (RetQ.r ⟨_, .tmp rfl .nil, .le (VLe.refl _)⟩)
theorem insertion {o : List Nat} {n m f b : Nat} {cap : V} {cz : Nat → Nat → Int} {c : Nat → Nat → Bool} (hf : ∀ x y : Nat, x < m → y < m → FSpec P f [.d (dN x), .d (dN y), cap] (.d (dI (cz x y)))) (hc : ∀ x y, c x y = decide (cz x y < 0)) (hl : o.length = n) (hn : 1 ≤ n ∧ n ≤ 12) (hm : ∀ x, x ∈ o → x < m) : FSpecM P F.slices_insertionSortCmpFunc_int [.osl 1000 b n n, .d (dI 0), .d (dI n), .fn f [cap]] (mem1 1000 (.row b n T.int 1 ((o).map dN))) (.tup []) (mem1 1000 (.row b n T.int 1 ((sortF c (n - 1) o).map dN))) := by
 refine FSpecM.intro fn.slices_insertionSortCmpFunc_int (by rfl) (by rfl) (nb9 (by rfl)) fun E hE => (AW.sg hE rfl (mvD rfl (add_i64 rfl rfl (by omega) (asD rfl (OL.nil (AW.block ?_))))))
 refine AW.whileK (α := Nat) [(0, _), (1, _), (2, _), (3, _)] [] (fun i => [(8, .d (dI i))]) (fun i => [(1000, .row b n T.int 1 ((sortF c (i - 1) o).map dN))]) (fun i => 1 ≤ i ∧ i ≤ n) (fun i => n - i) 1 (.cons (knO rfl) (.cons (knD rfl) (.cons (knD rfl) (.cons (knF rfl) .nil)))) .nil ⟨⟨Nat.le_refl _, hn.1⟩, .cons (VLe.refl _) .nil, .cons rfl .nil⟩ ?_
 rintro i ⟨h1, h2⟩
 have h1 : 1 ≤ i := h1
 have h2 : i ≤ n := h2
 refine AW.seq (AW.sg hE rfl (mvD rfl (mvD rfl (c_lss rfl rfl rfl (OL.nil (AW.cond rfl (fun h14 => ?_) (fun h14 => ?_)))))))
 ·try simp only [dx9] at h14
  refine AW.skip ?_
  refine AW.midK (α := Unit) [(0, _), (1, _), (2, _), (3, _), (8, _)] [] (fun _u => []) (fun _u => [(1000, .row b n T.int 1 ((sortF c i o).map dN))]) (fun _u => True) (.cons (knO rfl) (.cons (knD rfl) (.cons (knD rfl) (.cons (knF rfl) (.cons (knD rfl) .nil))))) .nil ?_ ?_
  ·refine AW.block (AW.sg hE rfl (mvD rfl (asD rfl (OL.nil (AW.block ?_)))))
   refine AW.whileK (α := Nat × List Nat) [(0, _), (1, _), (2, _), (3, _), (8, _)] [] (fun (j, u) => [(9, .d (dI j))]) (fun (j, u) => [(1000, .row b n T.int 1 ((u).map dN))]) (fun (j, u) => j ≤ i ∧ u.length = n ∧ (∀ x, x ∈ u → x < m) ∧ sinkF c j u = sortF c i o) (fun (j, u) => j) (i, sortF c (i - 1) o) (.cons (knO rfl) (.cons (knD rfl) (.cons (knD rfl) (.cons (knF rfl) (.cons (knD rfl) .nil))))) .nil ⟨⟨Nat.le_refl _, by rw [sortF_len]; exact hl, fun x hx => hm x ((sortF_perm c (by omega)).mem_iff.1 hx), by obtain ⟨q, rfl⟩ : ∃ q, i = q + 1 := ⟨i - 1, by omega⟩; rfl⟩, .cons (VLe.refl _) .nil, .cons rfl .nil⟩ ?_
   rintro ⟨j, u⟩ ⟨h3, hul, hum, hs⟩
   have h3 : j ≤ i := h3
   have hul : u.length = n := hul
   refine AW.seq (AW.seq (AW.dg 1 [0,1,2,3,4,5,6,7,8,9,10,11,12,13,14,15,16] order_free hE rfl (by kernel_rfl) (OI.of_OL (os := [_,_,_,_,_,_,_,_,_,_,_,_,_,_,_,_,_]) rfl ?_)))
   refine mvD rfl (mvD rfl (c_gtr rfl rfl rfl (mvD rfl (OL.split 21 rfl (fun hj => ?_) (fun hj => ?_)))))
   ·have hj : (0 : Int) < (j : Int) := of_decide_eq_true hj
    obtain ⟨j, rfl⟩ : ∃ q, j = q + 1 := ⟨j - 1, by omega⟩
    have hux := hum (u.getD (j + 1) 0) (getD_mem (by omega) 0)
    have huy := hum (u.getD j 0) (getD_mem (by omega) 0)
    refine OL.yes rfl (mvF rfl (OL.yes rfl (mvO rfl (OL.yes rfl (mvD rfl (OL.yes rfl (ixOn sl.ints rfl rfl (by omega) ?_)))))))
    refine OL.yes rfl (ldEL ce.int 0 (by decide) rfl rfl (by omega) rfl (OL.yes rfl (mvO rfl (OL.yes rfl (mvD rfl (OL.yes rfl (bo rfl rfl (bin_sub (c := (j : Int)) (by omega) (wrap_i64 (by omega))) ?_)))))))
    refine OL.yes rfl (ixOn sl.ints rfl rfl (by omega) (OL.yes rfl (ldEL ce.int 0 (by decide) rfl rfl (by omega) rfl (OL.yes rfl (clv rfl (.cons (VLe.refl _) (.cons (VLe.refl _) (.cons (VLe.refl _) (.nil)))) (hf (u.getD (j + 1) 0) (u.getD j 0) hux huy) (OL.yes rfl (c_lss rfl rfl rfl ?_)))))))
    refine pkT rfl rfl (OL.nil (AW.cond rfl (fun hk => ?_) (fun hk => ?_)))
    ·have hk : c (u.getD (j + 1) 0) (u.getD j 0) = true := (hc _ _).trans hk
     refine AW.skip (AW.seq (AW.block (AW.dg 1 [0,1,2,3,4,5,6,7,8,9,10,11,12,13,14,15,16,17] order_free hE rfl (by kernel_rfl) (OI.of_OL (os := [_,_,_,_,_,_,_,_,_,_,_,_,_,_,_,_,_,_]) rfl ?_))))
     refine mvO rfl (mvD rfl (mvO rfl (mvD rfl (bo rfl rfl (bin_sub (c := (j : Int)) (by omega) (wrap_i64 (by omega))) (mvO rfl (mvD rfl (bo rfl rfl (bin_sub (c := (j : Int)) (by omega) (wrap_i64 (by omega))) ?_)))))))
     refine ixOn sl.ints rfl rfl (by omega) (ldEL ce.int 0 (by decide) rfl rfl (by omega) rfl (mvO rfl (mvD rfl (ixOn sl.ints rfl rfl (by omega) (ldEL ce.int 0 (by decide) rfl rfl (by omega) rfl (ixOn sl.ints rfl rfl (by omega) (stE sz.int rfl (VC.d _).vd rfl rfl (by rw [List.length_map]; omega) (es2 := (u.set (j + 1) (u.getD j 0)).map dN) (by rw [List.map_set]) ?_)))))))
     refine ixOn sl.ints rfl rfl (by omega) (stE sz.int rfl (VC.d _).vd rfl rfl (by rw [List.length_map, List.length_set]; omega) (es2 := (swapF u j).map dN) (by unfold swapF; exact List.map_set.symm) (OL.nil (AW.rg hE rfl (mvD rfl (bo rfl rfl (bin_sub (c := (j : Int)) (by omega) (wrap_i64 (by omega))) (asD rfl (OL.nil ?_)))))))
     exact AW.again (x := (j + 1, u)) (j, swapF u j) (by (simp only []; omega)) ⟨⟨by omega, by rw [swapF_len]; exact hul, fun x hx => hum x ((swapF_perm (by omega)).mem_iff.1 hx), by rw [← hs, sinkF, if_pos hk]⟩, Knows.app (.cons (VLe.refl _) (.cons (VLe.refl _) (.cons (VLe.refl _) (.cons (VLe.refl _) (.cons (VLe.refl _) .nil))))) (.cons (VLe.refl _) .nil), .cons rfl .nil⟩
    ·have hk : ¬ c (u.getD (j + 1) 0) (u.getD j 0) = true := fun e => by rw [hc] at e; exact of_decide_eq_false hk (of_decide_eq_true e)
     exact AW.exit (AW.reach () ⟨trivial, Knows.app (.cons (VLe.refl _) (.cons (VLe.refl _) (.cons (VLe.refl _) (.cons (VLe.refl _) (.cons (VLe.refl _) .nil))))) (.nil), .cons (by rw [← hs, sinkF, if_neg hk]; rfl) .nil⟩)
   ·have hj : ¬ (0 : Int) < (j : Int) := of_decide_eq_false hj
    refine OL.no rfl (by decide) (OL.no rfl (by decide) (OL.no rfl (by decide) (OL.no rfl (by decide) (OL.no rfl (by decide) (OL.no rfl (by decide) (OL.no rfl (by decide) (OL.no rfl (by decide) ?_)))))))
    refine OL.no rfl (by decide) (OL.no rfl (by decide) (OL.no rfl (by decide) (OL.no rfl (by decide) (pkF rfl rfl (OL.nil (AW.cond rfl (fun hno => absurd hno (by decide)) (fun _ => ?_)))))))
    exact AW.exit (AW.reach () ⟨trivial, Knows.app (.cons (VLe.refl _) (.cons (VLe.refl _) (.cons (VLe.refl _) (.cons (VLe.refl _) (.cons (VLe.refl _) .nil))))) (.nil), .cons (by obtain rfl : j = 0 := (by omega); rw [← hs]; rfl) .nil⟩)
  rintro ⟨⟩ hφ
  exact AW.rg hE rfl (mvD rfl (add_i64 rfl rfl (by omega) (asD rfl (OL.nil (AW.again (x := i) (i + 1) (by omega) ⟨⟨by omega, by omega⟩, Knows.app (.cons (VLe.refl _) (.cons (VLe.refl _) (.cons (VLe.refl _) (.cons (VLe.refl _) .nil)))) (.cons (VLe.refl _) .nil), .cons (by rw [Nat.add_sub_cancel]; rfl) .nil⟩)))))
 ·try simp only [dx9] at h14
  refine AW.exit ?_
  obtain rfl : i = n := by omega
  exact ⟨⟨_, .nil, _, .nil, rfl⟩, mem1_keep rfl⟩
theorem pdqsort {o : List Nat} {n m f b : Nat} {cap : V} {cz : Nat → Nat → Int} {c : Nat → Nat → Bool} (hf : ∀ x y : Nat, x < m → y < m → FSpec P f [.d (dN x), .d (dN y), cap] (.d (dI (cz x y)))) (hc : ∀ x y, c x y = decide (cz x y < 0)) (hl : o.length = n) (hn : 1 ≤ n ∧ n ≤ 12) (hm : ∀ x, x ∈ o → x < m) {lim : Int} : FSpecM P F.slices_pdqsortCmpFunc_int [.osl 1000 b n n, .d (dI 0), .d (dI n), .d (dI lim), .fn f [cap]] (mem1 1000 (.row b n T.int 1 ((o).map dN))) (.tup []) (mem1 1000 (.row b n T.int 1 ((sortF c (n - 1) o).map dN))) := by
 refine FSpecM.intro fn.slices_pdqsortCmpFunc_int (by rfl) (by rfl) (nb9 (by rfl)) fun E hE => (AW.sg hE rfl (asD rfl (OL.nil (AW.sg hE rfl (asD rfl (OL.nil (AW.block ?_)))))))
 refine AW.whileK (α := Unit) [(0, _), (4, _)] [] (fun _u => [(1, .d (dI 0)), (2, .d (dI n)), (3, .d (dI lim)), (10, .d (dB true)), (11, .d (dB true))]) (fun _u => [(1000, .row b n T.int 1 ((o).map dN))]) (fun _u => True) (fun _u => 0) () (.cons (knO rfl) (.cons (knF rfl) .nil)) .nil ⟨trivial, .cons (VLe.refl _) (.cons (VLe.refl _) (.cons (VLe.refl _) (.cons (VLe.refl _) (.cons (VLe.refl _) .nil)))), .cons rfl .nil⟩ ?_
 rintro ⟨⟩ -
 refine AW.block (AW.sg hE rfl (mvD rfl (mvD rfl (sub_i64 rfl rfl (by omega) (asD rfl (OL.nil (AW.seq ?_)))))))
 refine AW.sg hE rfl (mvD rfl (c_leq rfl rfl (c := true) (by exact decide_eq_true (by omega)) (OL.nil (AW.cond rfl (fun _ => ?_) (fun hno => absurd hno (by decide))))))
 refine AW.sg hE rfl (mvO rfl (mvD rfl (mvD rfl (mvF rfl ?_))))
 refine OL.callM (v := .tup []) (.mk (args' := [.osl 1000 b n n, .d (dI 0), .d (dI n), .fn f [cap]]) rfl (.cons (VLe.refl _) (.cons (VLe.refl _) (.cons (VLe.refl _) (.cons (VLe.refl _) (.nil))))) (mem1_keep (id := 1000) (blk := .row b n T.int 1 ((o).map dN)) rfl) mem1_sub (insertion hf hc hl hn hm)) ?_
 exact OL.nil (AW.ret ⟨⟨_, .nil, _, .nil, rfl⟩, mem1_keep rfl⟩)
theorem bits_Len64 {x : Nat} (hx : x < 256) : FSpec P F.math_bits_Len64 [.d (dU x)] (.d (dI (blen x))) := by
 refine FSpec.intro fn.math_bits_Len64 (by rfl) (by rfl) (nb9 (by rfl)) fun E hE => (AW.sg hE rfl (asD rfl (OL.nil (AW.seq (AW.sg hE rfl (mvD rfl (c_geq rfl rfl rfl ?_)))))))
 refine OL.nil (AW.cond rfl (fun hno => absurd hno (by simp; omega)) (fun _ => ?_))
 refine AW.skip (AW.seq (AW.sg hE rfl (mvD rfl (c_geq rfl rfl rfl (OL.nil (AW.cond rfl (fun hno => absurd hno (by simp; omega)) (fun _ => ?_)))))))
 refine AW.skip (AW.seq (AW.sg hE rfl (mvD rfl (c_geq rfl rfl rfl (OL.nil (AW.cond rfl (fun hno => absurd hno (by simp; omega)) (fun _ => ?_)))))))
 refine AW.skip (AW.seq ?_)
 have hz := blen_mono (x := x) (k := 8) (by omega)
 refine AW.rg hE rfl (mvD rfl (mvD rfl (cv it.u64 it.u8 rfl (c := (x : Int)) (wrap_u8 (by omega)) (sAt st.str rfl rfl (q := blen x) (tbl (by kernel_rfl) hx) (cv it.u8 it.int rfl (wrap_i64 (by omega)) (add_i64 rfl rfl (by omega) (asD rfl ?_)))))))
 exact OL.nil (AW.ret (RetQ.r ⟨_, .tmp rfl .nil, .le (VLe.int (by omega))⟩))
theorem bits_Len {x : Nat} (hx : x < 256) : FSpec P F.math_bits_Len [.d (dU x)] (.d (dI (blen x))) := by
 refine FSpec.intro fn.math_bits_Len (by rfl) (by rfl) (nb9 (by rfl)) fun E hE => (AW.sg hE rfl (asD rfl (OL.nil (AW.seq (AW.cond rfl (fun hno => absurd hno (by decide)) (fun _ => ?_))))))
 exact AW.skip (AW.sg hE rfl (mvD rfl (clv rfl (.cons (VLe.refl _) (.nil)) (bits_Len64 hx) (asD rfl (OL.nil (AW.ret (RetQ.r ⟨_, .tmp rfl .nil, .le (VLe.refl _)⟩)))))))
theorem sortFunc {o : List Nat} {n m f b : Nat} {cap : V} {cz : Nat → Nat → Int} {c : Nat → Nat → Bool} (hf : ∀ x y : Nat, x < m → y < m → FSpec P f [.d (dN x), .d (dN y), cap] (.d (dI (cz x y)))) (hc : ∀ x y, c x y = decide (cz x y < 0)) (hl : o.length = n) (hn : 1 ≤ n ∧ n ≤ 12) (hm : ∀ x, x ∈ o → x < m) : FSpecM P F.slices_SortFunc_ints_int [.osl 1000 b n n, .fn f [cap]] (mem1 1000 (.row b n T.int 1 ((o).map dN))) (.tup []) (mem1 1000 (.row b n T.int 1 ((sortF c (n - 1) o).map dN))) := by
 refine FSpecM.intro fn.slices_SortFunc_ints_int (by rfl) (by rfl) (nb9 (by rfl)) fun E hE => (AW.sg hE rfl (mvO rfl (lnO sl.ints rfl rfl (asD rfl (OL.nil (AW.rg hE rfl (mvO rfl ?_)))))))
 refine mvD rfl (mvD rfl (cv it.int it.uint rfl (c := (n : Int)) (wrap_u64 (by omega)) (clv rfl (.cons (VLe.refl _) (.nil)) (bits_Len (x := n) (by omega)) (mvF rfl ?_))))
 refine OL.callM (v := .tup []) (.mk (args' := [.osl 1000 b n n, .d (dI 0), .d (dI n), .d (dI (blen n)), .fn f [cap]]) rfl (.cons (VLe.refl _) (.cons (VLe.refl _) (.cons (VLe.refl _) (.cons (VLe.refl _) (.cons (VLe.refl _) (.nil)))))) (mem1_keep (id := 1000) (blk := .row b n T.int 1 ((o).map dN)) rfl) mem1_sub (pdqsort (lim := (blen n : Int)) hf hc hl hn hm)) ?_
 exact OL.nil (⟨⟨_, .nil, _, .nil, rfl⟩, mem1_keep rfl⟩)
end Go.Proofs.YtoohdcpikkkanaaGreat

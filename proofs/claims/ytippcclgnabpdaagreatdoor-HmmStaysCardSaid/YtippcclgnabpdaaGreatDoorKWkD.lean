/-
  Walks of package automaton, part 2: stable sorting of at most 20 arcs; copies (printed by mk2.py).
-/
import Derived.Test.YtippcclgnabpdaaGreatDoorKWkB
set_option linter.unusedVariables false
set_option linter.unusedSimpArgs false
namespace Go.Proofs.YtippcclgnabpdaaGreatDoor
open Go Go.AL
def cmpI (a b : Int) : Int := if a < b then -1 else if b < a then 1 else 0
theorem cmp_isNaN_int {x : Int} : FSpec P F.cmp_isNaN_int [.d (dI x)] (.d (dB false)) := by
 refine FSpec.intro fn.cmp_isNaN_int (by rfl) (by rfl) (nb9 (by rfl)) fun E hE => (AW.sg hE rfl (asD rfl (OL.nil (AW.sg hE rfl (mvD rfl (mvD rfl (c_neq rfl rfl rfl ?_)))))))
 exact asD rfl (OL.nil (AW.ret (RetQ.r ⟨_, .tmp rfl .nil, .le (VLe.bool (by simp_all))⟩)))
theorem cmp_Compare_int {x y : Int} : FSpec P F.cmp_Compare_int [.d (dI x), .d (dI y)] (.d (dI (cmpI x y))) := by
 refine FSpec.intro fn.cmp_Compare_int (by rfl) (by rfl) (nb9 (by rfl)) fun E hE => (AW.sg hE rfl (asD rfl (OL.nil (AW.sg hE rfl (mvD rfl (clv rfl (.cons (VLe.refl _) (.nil)) (cmp_isNaN_int) (asD rfl ?_)))))))
 refine OL.nil (AW.sg hE rfl (mvD rfl (clv rfl (.cons (VLe.refl _) (.nil)) (cmp_isNaN_int) (asD rfl (OL.nil (AW.seq (AW.sg hE rfl ?_)))))))
 refine mvD rfl (OL.nil (AW.cond rfl (fun hno => absurd hno (by decide)) (fun _ => ?_)))
 refine AW.skip (AW.seq (AW.sg hE rfl (mvD rfl (OL.nil (AW.cond rfl (fun hno => absurd hno (by decide)) (fun _ => ?_))))))
 refine AW.skip (AW.seq (AW.sg hE rfl (mvD rfl (mvD rfl (c_lss rfl rfl rfl (OL.nil (AW.cond rfl (fun h1 => ?_) (fun h1 => ?_))))))))
 ·have h1 := of_decide_eq_true h1
  exact AW.sg hE rfl (asD rfl (OL.nil (AW.ret (RetQ.r ⟨_, .tmp rfl .nil, .le (VLe.int ((if_pos h1).symm))⟩))))
 ·have h1 := of_decide_eq_false h1
  refine AW.skip (AW.seq (AW.sg hE rfl (mvD rfl (mvD rfl (c_gtr rfl rfl rfl (OL.nil (AW.cond rfl (fun h2 => ?_) (fun h2 => ?_))))))))
  ·have h2 := of_decide_eq_true h2
   exact AW.sg hE rfl (asD rfl (OL.nil (AW.ret (RetQ.r ⟨_, .tmp rfl .nil, .le (VLe.int (by unfold cmpI; rw [if_neg h1, if_pos h2]))⟩))))
  ·have h2 := of_decide_eq_false h2
   exact AW.skip (AW.sg hE rfl (asD rfl (OL.nil (AW.ret (RetQ.r ⟨_, .tmp rfl .nil, .le (VLe.int (by unfold cmpI; rw [if_neg h1, if_neg h2]))⟩)))))
theorem clone_ints {l : List Int} (nl : l.length ≤ 1099511627776) : FSpec P F.slices_Clone_ints_int [.d (ints l)] (.d (ints l)) := by
 refine FSpec.intro fn.slices_Clone_ints_int (by rfl) (by rfl) (nb9 (by rfl)) fun E hE => (AW.sg hE rfl (asM rfl (OL.nil (AW.seq (AW.sg hE rfl (mvD rfl (isNil sl.ints.u rfl (fun y hy => by obtain ⟨a, _, rfl⟩ := List.mem_map.1 hy; exact Nat.succ_pos _) rfl fun b hb => ?_)))))))
 refine OL.nil (AW.cond rfl (fun h => ?_) (fun h => ?_))
 ·have hL : l = [] := by have := hb h; simpa using this
  exact AW.sg hE rfl (asM rfl (OL.nil (AW.ret (RetQ.r ⟨_, .tmp rfl .nil, .le (hL ▸ VLe.mt)⟩))))
 ·have _h := h
  exact AW.skip (AW.sg hE rfl (lt0 sl.ints (mvD rfl (apMD sl.ints rfl rfl (VC.d _) (fun y hy => by obtain ⟨a, _, rfl⟩ := List.mem_map.1 hy; rfl) (by simp; omega) (by simp; omega) (asD rfl (OL.nil (AW.ret (RetQ.r ⟨_, .tmp rfl .nil, .le (VLe.refl _)⟩))))))))
def orL : List Int → Int
 | [] => 0
 | x :: r => if x = 0 then orL r else x
theorem orL_at : ∀ {l : List Int} {i : Nat}, i < l.length → (∀ j, j < i → l.getD j 0 = 0) → l.getD i 0 ≠ 0 → orL l = l.getD i 0
 | x :: r, 0, _, _, h => if_neg h
 | x :: r, i + 1, hi, hz, h => (if_pos (hz 0 (Nat.zero_lt_succ _))).trans (orL_at (by simpa using hi) (fun j hj => hz (j + 1) (by omega)) h)
theorem orL_none : ∀ {l : List Int}, (∀ j, j < l.length → l.getD j 0 = 0) → orL l = 0
 | [], _ => rfl
 | x :: r, h => (if_pos (h 0 (Nat.zero_lt_succ _))).trans (orL_none fun j hj => h (j + 1) (by simpa using hj))
theorem cmp_cI (a b : Nat) : cmpI (a : Int) (b : Int) = cI a b := by
 unfold cmpI cI
 by_cases h1 : a < b
 ·rw [if_pos (by omega), if_pos h1]
 ·rw [if_neg (by omega), if_neg h1]
  by_cases h2 : b < a
  ·rw [if_pos (by omega), if_pos h2]
  ·rw [if_neg (by omega), if_neg h2]
theorem ord_or (x y : Arc9) : orL [cI x.f y.f, cI x.l y.l, cI x.t y.t] = ordA x y := by
 unfold ordA
 by_cases h1 : cI x.f y.f = 0 <;> by_cases h2 : cI x.l y.l = 0 <;> by_cases h3 : cI x.t y.t = 0 <;> simp [orL, h1, h2, h3]
abbrev rowA (b c : Nat) (l : List Arc9) : Blk := .row b c T.Arc 11 (l.map dArc)
theorem rowA_el {l : List Arc9} {i : Nat} (hi : i < l.length) : (l.map dArc)[i]? = some (dArc (l.getD i default)) := by rw [List.getElem?_map, List.getD_eq_getElem?_getD, List.getElem?_eq_getElem hi]; rfl
theorem vd_arc {x : Arc9} : VD (vArc x) (dArc x) := VD.ag (.cons (VC.d _) (.cons (VC.d _) (.cons (VC.d _) (.cons (VC.d _) (.cons (VC.d _) (.cons (VC.d _) (.cons (VC.d _) (.cons (VC.d _) (.cons (VC.d _) (.cons (VC.d _) (.cons (VC.d _) .nil)))))))))))
abbrev cellsArc (x : Arc9) : List V := [.d (dI x.f), .d (dI x.l), .d (dI x.t), .d (dB (ofQ x.q).neg), .d (u32s (ofQ x.q).num), .d (u32s (ofQ x.q).den), .d (dI 0), .d (dB false), .d (dU 0), .d (.sl []), .d (.sl [])]
theorem swapG_map {l : List Arc9} {j : Nat} : ((l.map dArc).set (j + 1) (dArc (l.getD j default))).set j (dArc (l.getD (j + 1) default)) = (swapG l j).map dArc := by
 unfold swapG
 rw [List.map_set, List.map_set]
theorem arcs_len {l : List Arc9} : ∀ y, y ∈ l.map dArc → y.cells.length = 11 := fun y hy => by obtain ⟨a, _, rfl⟩ := List.mem_map.1 hy; rfl
theorem cmp_OrL {l : List Int} (nl : l.length ≤ 1099511627776) : FSpec P F.cmp_Or_int [.d (ints l)] (.d (dI (orL l))) := by
 refine FSpec.intro fn.cmp_Or_int (by rfl) (by rfl) (nb9 (by rfl)) fun E hE => (AW.sg hE rfl (asD rfl (OL.nil (AW.sg hE rfl (asD rfl (OL.nil (AW.seq ?_)))))))
 refine AW.sg hE rfl (mvD rfl (lnL sl.ints rfl rfl (mvD rfl (OL.nil (AW.block ?_)))))
 refine AW.whileK (α := Nat) [(3, _), (6, _), (7, _)] [] (fun i => [(8, .d (dI i))]) (fun i => []) (fun i => i ≤ l.length ∧ ∀ j, j < i → l.getD j 0 = 0) (fun i => l.length - i) 0 (.cons (knD rfl) (.cons (knD rfl) (.cons (knD rfl) .nil))) .nil ⟨⟨Nat.zero_le _, fun j hj => by omega⟩, .rq1, .nil⟩ ?_
 rintro i ⟨h1, h2⟩
 refine AW.sg hE rfl (c_lss rfl rfl rfl (OL.nil (AW.seq (AW.cond rfl (fun h9 => ?_) (fun h9 => ?_)))))
 ·try simp only [dx9] at h9
  refine AW.skip (AW.seq (AW.block (AW.sg hE rfl (ixLn sl.ints 0 rfl rfl (by omega) rfl rfl (ldRC ce.int rfl (asD rfl (OL.nil ?_)))))))
  refine AW.sg hE rfl (mvD rfl (mvD rfl (c_neq rfl rfl rfl (OL.nil (AW.cond rfl (fun hc => ?_) (fun hc => ?_))))))
  ·have hc : l.getD i 0 ≠ 0 := nd_t hc
   exact AW.sg hE rfl (mvD rfl (asD rfl (OL.nil (AW.ret (RetQ.r ⟨_, .tmp rfl .nil, .le (VLe.int ((orL_at (by omega) h2 hc).symm))⟩)))))
  ·have hc : l.getD i 0 = 0 := nd_f hc
   refine AW.skip (AW.rg hE rfl (add_i64 rfl rfl (by omega) (mvD rfl (OL.nil ?_))))
   exact AW.again (x := i) (i + 1) (by omega) ⟨⟨by omega, fun j hj => by rcases Nat.lt_or_ge j i with h | h; exact h2 j h; obtain rfl : j = i := (by omega); exact hc⟩, Knows.app .rq3 .rq1, .nil⟩
 ·try simp only [dx9] at h9
  exact AW.exit (AW.sg hE rfl (mvD rfl (asD rfl (OL.nil (AW.ret (RetQ.r ⟨_, .tmp rfl .nil, .le (VLe.int ((orL_none fun j hj => h2 j (by omega)).symm))⟩))))))
theorem orderA {x y : Arc9} : FSpec P F.automaton_order [vArc x, vArc y] (.d (dI (ordA x y))) := by
 refine FSpec.intro fn.automaton_order (by rfl) (by rfl) (nb9 (by rfl)) fun E hE => (AW.sg hE rfl (bxA rfl rfl fun b2 => (bxA rfl rfl fun b3 => (asD rfl (OL.nil (AW.seq (AW.dg 1 [0,1,2,3,4,5,6,7,8,9,10,11,12,13,14,15,16,17] order_free hE rfl (by kernel_rfl) (OI.of_OL (os := [_,_,_,_,_,_,_,_,_,_,_,_,_,_,_,_,_,_]) rfl ?_))))))))
 refine faP fd.Arc_0 rfl rfl (ldPC ce.int rfl rfl rfl (faP fd.Arc_0 rfl rfl (ldPC ce.int rfl rfl rfl (clv rfl (.cons (VLe.refl _) (.cons (VLe.refl _) (.nil))) (cmp_Compare_int (x := (x.f : Int)) (y := (y.f : Int))) ?_))))
 rw [cmp_cI]
 refine faP fd.Arc_1 rfl rfl (ldPC ce.int rfl rfl rfl (faP fd.Arc_1 rfl rfl (ldPC ce.int rfl rfl rfl (clv rfl (.cons (VLe.refl _) (.cons (VLe.refl _) (.nil))) (cmp_Compare_int (x := (x.l : Int)) (y := (y.l : Int))) ?_))))
 rw [cmp_cI]
 refine faP fd.Arc_2 rfl rfl (ldPC ce.int rfl rfl rfl (faP fd.Arc_2 rfl rfl (ldPC ce.int rfl rfl rfl (clv rfl (.cons (VLe.refl _) (.cons (VLe.refl _) (.nil))) (cmp_Compare_int (x := (x.t : Int)) (y := (y.t : Int))) ?_))))
 rw [cmp_cI]
 refine ltN (ys := [dI (cI x.f y.f), dI (cI x.l y.l), dI (cI x.t y.t)]) sl.ints rfl (pdC (VC.d _).vd (pdC (VC.d _).vd (pdC (VC.d _).vd pdN))) rfl (by decide) (by decide) (fun y hy => by simp at hy; rcases hy with rfl | rfl | rfl <;> rfl) (clv rfl (.cons (VLe.refl _) (.nil)) (cmp_OrL (l := [cI x.f y.f, cI x.l y.l, cI x.t y.t]) (show 3 ≤ 1099511627776 by decide)) ?_)
 rw [ord_or]
 exact asD rfl (OL.nil (AW.ret (RetQ.r ⟨_, .tmp rfl .nil, .le (VLe.refl _)⟩)))
theorem insertA {l : List Arc9} {b n c : Nat} (hl : l.length = n) (hn : 1 ≤ n ∧ n ≤ 20) : FSpecM P F.slices_insertionSortCmpFunc_Arc [.osl 1000 b n c, .d (dI 0), .d (dI n), .fn F.automaton_order []] (mem1 1000 (rowA b c (l))) (.tup []) (mem1 1000 (rowA b c (sortG ltA (n - 1) l))) := by
 refine FSpecM.intro fn.slices_insertionSortCmpFunc_Arc (by rfl) (by rfl) (nb9 (by rfl)) fun E hE => (AW.sg hE rfl (mvD rfl (add_i64 rfl rfl (by omega) (asD rfl (OL.nil (AW.block ?_))))))
 refine AW.whileK (α := Nat) [(0, _), (1, _), (2, _), (3, _)] [] (fun i => [(8, .d (dI i))]) (fun i => [(1000, rowA b c (sortG ltA (i - 1) l))]) (fun i => 1 ≤ i ∧ i ≤ n) (fun i => n - i) 1 (.cons (knO rfl) (.cons (knD rfl) (.cons (knD rfl) (.cons (knF rfl) .nil)))) .nil ⟨⟨Nat.le_refl _, hn.1⟩, .rq1, .cons rfl .nil⟩ ?_
 rintro i ⟨h1, h2⟩
 have h1 : 1 ≤ i := h1
 have h2 : i ≤ n := h2
 refine AW.seq (AW.sg hE rfl (mvD rfl (mvD rfl (c_lss rfl rfl rfl (OL.nil (AW.cond rfl (fun h14 => ?_) (fun h14 => ?_)))))))
 ·try simp only [dx9] at h14
  refine AW.skip (AW.midK (α := Unit) [(0, _), (1, _), (2, _), (3, _), (8, _)] [] (fun _u => []) (fun _u => [(1000, rowA b c (sortG ltA i l))]) (fun _u => True) (.cons (knO rfl) (.cons (knD rfl) (.cons (knD rfl) (.cons (knF rfl) (.cons (knD rfl) .nil))))) .nil ?_ ?_)
  ·refine AW.block (AW.sg hE rfl (mvD rfl (asD rfl (OL.nil (AW.block ?_)))))
   refine AW.whileK (α := Nat × List Arc9) [(0, _), (1, _), (2, _), (3, _), (8, _)] [] (fun (j, u) => [(9, .d (dI j))]) (fun (j, u) => [(1000, rowA b c (u))]) (fun (j, u) => j ≤ i ∧ u.length = n ∧ sinkG ltA j u = sortG ltA i l) (fun (j, u) => j) (i, sortG ltA (i - 1) l) (.cons (knO rfl) (.cons (knD rfl) (.cons (knD rfl) (.cons (knF rfl) (.cons (knD rfl) .nil))))) .nil ⟨⟨Nat.le_refl _, by rw [sortG_len]; exact hl, by obtain ⟨q, rfl⟩ : ∃ q, i = q + 1 := ⟨i - 1, by omega⟩; rfl⟩, .rq1, .cons rfl .nil⟩ ?_
   rintro ⟨j, u⟩ ⟨h3, hul, hs⟩
   have h3 : j ≤ i := h3
   have hul : u.length = n := hul
   refine AW.seq (AW.seq (AW.dg 1 [0,1,2,3,4,5,6,7,8,9,10,11,12,13,14,15,16] order_free hE rfl (by kernel_rfl) (OI.of_OL (os := [_,_,_,_,_,_,_,_,_,_,_,_,_,_,_,_,_]) rfl ?_)))
   refine mvD rfl (mvD rfl (c_gtr rfl rfl rfl (mvD rfl (OL.split 21 rfl (fun hj => ?_) (fun hj => ?_)))))
   ·have hj : (0 : Int) < (j : Int) := of_decide_eq_true hj
    obtain ⟨j, rfl⟩ : ∃ q, j = q + 1 := ⟨j - 1, by omega⟩
    refine OL.yes rfl (mvF rfl (OL.yes rfl (mvO rfl (OL.yes rfl (mvD rfl (OL.yes rfl (ixOn sl.Arcs rfl rfl (by omega) ?_)))))))
    refine OL.yes rfl (ldEA ag.Arc (by decide) rfl rfl (rowA_el (show j + 1 < u.length by omega)) (vs := cellsArc (u.getD (j + 1) default)) rfl (nb9 rfl) (OL.yes rfl (mvO rfl (OL.yes rfl (mvD rfl (OL.yes rfl (bo rfl rfl (bin_sub (c := (j : Int)) (by omega) (wrap_i64 (by omega))) ?_)))))))
    refine OL.yes rfl (ixOn sl.Arcs rfl rfl (by omega) (OL.yes rfl (ldEA ag.Arc (by decide) rfl rfl (rowA_el (show j < u.length by omega)) (vs := cellsArc (u.getD (j) default)) rfl (nb9 rfl) (OL.yes rfl (clv rfl (.cons (VLe.refl _) (.cons (VLe.refl _) (.nil))) (orderA (x := u.getD (j + 1) default) (y := u.getD j default)) (OL.yes rfl (c_lss rfl rfl rfl ?_)))))))
    refine pkT rfl rfl (OL.nil (AW.cond rfl (fun hk => ?_) (fun hk => ?_)))
    ·have hk : ltA (u.getD (j + 1) default) (u.getD j default) = true := hk
     refine AW.skip (AW.seq (AW.block (AW.dg 1 [0,1,2,3,4,5,6,7,8,9,10,11,12,13,14,15,16,17] order_free hE rfl (by kernel_rfl) (OI.of_OL (os := [_,_,_,_,_,_,_,_,_,_,_,_,_,_,_,_,_,_]) rfl ?_))))
     refine mvO rfl (mvD rfl (mvO rfl (mvD rfl (bo rfl rfl (bin_sub (c := (j : Int)) (by omega) (wrap_i64 (by omega))) (mvO rfl (mvD rfl (bo rfl rfl (bin_sub (c := (j : Int)) (by omega) (wrap_i64 (by omega))) ?_)))))))
     refine ixOn sl.Arcs rfl rfl (by omega) (ldEA ag.Arc (by decide) rfl rfl (rowA_el (show j < u.length by omega)) (vs := cellsArc (u.getD (j) default)) rfl (nb9 rfl) (mvO rfl (mvD rfl (ixOn sl.Arcs rfl rfl (by omega) (ldEA ag.Arc (by decide) rfl rfl (rowA_el (show j + 1 < u.length by omega)) (vs := cellsArc (u.getD (j + 1) default)) rfl (nb9 rfl) (ixOn sl.Arcs rfl rfl (by omega) (stE sz.Arc rfl (d := dArc (u.getD j default)) vd_arc rfl rfl (by rw [List.length_map]; omega) rfl ?_)))))))
     refine ixOn sl.Arcs rfl rfl (by omega) (stE sz.Arc rfl (d := dArc (u.getD (j + 1) default)) vd_arc rfl rfl (by rw [List.length_set, List.length_map]; omega) swapG_map (OL.nil (AW.rg hE rfl (mvD rfl (bo rfl rfl (bin_sub (c := (j : Int)) (by omega) (wrap_i64 (by omega))) (asD rfl (OL.nil ?_)))))))
     exact AW.again (x := (j + 1, u)) (j, swapG u j) (by (simp only []; omega)) ⟨⟨by omega, by rw [swapG_len]; exact hul, by rw [← hs, sinkG, if_pos hk]⟩, Knows.app .rq5 .rq1, .cons rfl .nil⟩
    ·have hk : ¬ ltA (u.getD (j + 1) default) (u.getD j default) = true := fun e => of_decide_eq_false hk (of_decide_eq_true e)
     exact AW.exit (AW.reach () ⟨trivial, Knows.app .rq5 (.nil), .cons (by rw [← hs, sinkG, if_neg hk]; rfl) .nil⟩)
   ·have hj : ¬ (0 : Int) < (j : Int) := of_decide_eq_false hj
    refine OL.nd rfl (OL.nd rfl (OL.nd rfl (OL.nd rfl (OL.nd rfl (OL.nd rfl (OL.nd rfl (OL.nd rfl ?_)))))))
    refine OL.nd rfl (OL.nd rfl (OL.nd rfl (OL.nd rfl (pkF rfl rfl (OL.nil (AW.cond rfl (fun hno => absurd hno (by decide)) (fun _ => ?_)))))))
    exact AW.exit (AW.reach () ⟨trivial, Knows.app .rq5 (.nil), .cons (by obtain rfl : j = 0 := (by omega); rw [← hs]; rfl) .nil⟩)
  rintro ⟨⟩ hφ
  exact AW.rg hE rfl (mvD rfl (add_i64 rfl rfl (by omega) (asD rfl (OL.nil (AW.again (x := i) (i + 1) (by omega) ⟨⟨by omega, by omega⟩, Knows.app .rq4 .rq1, .cons (by rw [Nat.add_sub_cancel]; rfl) .nil⟩)))))
 ·try simp only [dx9] at h14
  refine AW.exit ?_
  obtain rfl : i = n := by omega
  exact ⟨⟨_, .nil, _, .nil, rfl⟩, mem1_keep rfl⟩
end Go.Proofs.YtippcclgnabpdaaGreatDoor

set_option linter.unusedVariables false
set_option linter.unusedSimpArgs false
namespace Go.Proofs.YtippcclgnabpdaaGreatDoor
open Go Go.AL
theorem vd_w {q : Rat} : VD (vW q) (dW q) := VD.ag (.cons (VC.d _) (.cons (VC.d _) (.cons (VC.d _) (.cons (VC.d _) (.cons (VC.d _) (.cons (VC.d _) (.cons (VC.d _) (.cons (VC.d _) .nil))))))))
theorem insertA0 {l : List Arc9} {b n c : Nat} (hn : n ≤ 20) : FSpecM P F.slices_insertionSortCmpFunc_Arc [.osl 1000 b n c, .d (dI n), .d (dI n), .fn F.automaton_order []] (mem1 1000 (rowA b c (l))) (.tup []) (mem1 1000 (rowA b c (l))) := by
 refine FSpecM.intro fn.slices_insertionSortCmpFunc_Arc (by rfl) (by rfl) (nb9 (by rfl)) fun E hE => (AW.sg hE rfl (mvD rfl (add_i64 rfl rfl (by omega) (asD rfl (OL.nil (AW.block ?_))))))
 refine AW.whileK (α := Unit) [(0, _), (1, _), (2, _), (3, _)] [] (fun _u => [(8, .d (dI ((n : Int) + 1)))]) (fun _u => [(1000, rowA b c (l))]) (fun _u => True) (fun _u => 0) () (.cons (knO rfl) (.cons (knD rfl) (.cons (knD rfl) (.cons (knF rfl) .nil)))) .nil ⟨trivial, .rq1, .cons rfl .nil⟩ ?_
 rintro ⟨⟩ -
 refine AW.seq (AW.sg hE rfl (mvD rfl (mvD rfl (c_lss rfl rfl rfl (OL.nil (AW.cond rfl (fun hno => absurd hno (by simp; omega)) (fun _ => ?_)))))))
 exact AW.exit (⟨⟨_, .nil, _, .nil, rfl⟩, mem1_keep rfl⟩)
theorem stableA {l : List Arc9} {b n c : Nat} (hl : l.length = n) (hn : 1 ≤ n ∧ n ≤ 20) : FSpecM P F.slices_stableCmpFunc_Arc [.osl 1000 b n c, .d (dI n), .fn F.automaton_order []] (mem1 1000 (rowA b c (l))) (.tup []) (mem1 1000 (rowA b c (sortG ltA (n - 1) l))) := by
 refine FSpecM.intro fn.slices_stableCmpFunc_Arc (by rfl) (by rfl) (nb9 (by rfl)) fun E hE => (AW.sg hE rfl (asD rfl (OL.nil (AW.sg hE rfl (mvD rfl (asD rfl (asD rfl ?_)))))))
 refine OL.nil ?_
 refine AW.midK (α := Nat × List Arc9) [(0, _), (1, _), (2, _), (6, _)] [] (fun (k, u) => [(7, .d (dI (20 * k : Nat)))]) (fun (k, u) => [(1000, rowA b c (u))]) (fun (k, u) => (k = 0 ∧ l = u ∧ n < 20) ∨ (k = 1 ∧ n = 20 ∧ u = sortG ltA (n - 1) l)) (.cons (knO rfl) (.cons (knD rfl) (.cons (knF rfl) (.cons (knD rfl) .nil)))) .nil ?_ ?_
 ·refine AW.block ?_
  refine AW.whileK (α := Nat × List Arc9) [(0, _), (1, _), (2, _), (6, _)] [] (fun (k, u) => [(7, .d (dI (20 * k : Nat))), (8, .d (dI (20 * k + 20 : Nat)))]) (fun (k, u) => [(1000, rowA b c (u))]) (fun (k, u) => (k = 0 ∧ l = u) ∨ (k = 1 ∧ n = 20 ∧ u = sortG ltA (n - 1) l)) (fun (k, u) => 1 - k) (0, l) (.cons (knO rfl) (.cons (knD rfl) (.cons (knF rfl) (.cons (knD rfl) .nil)))) .nil ⟨.inl ⟨rfl, rfl⟩, .rq2, .cons rfl .nil⟩ ?_
  rintro ⟨k, u⟩ h1
  have h1 : (k = 0 ∧ l = u) ∨ (k = 1 ∧ n = 20 ∧ u = sortG ltA (n - 1) l) := h1
  refine AW.seq (AW.sg hE rfl (mvD rfl (mvD rfl (c_leq rfl rfl rfl (OL.nil (AW.cond rfl (fun h13 => ?_) (fun h13 => ?_)))))))
  ·try simp only [dx9] at h13
   refine AW.skip (AW.block (AW.sg hE rfl (mvO rfl (mvD rfl (mvD rfl (mvF rfl ?_))))))
   obtain ⟨rfl, rfl⟩ : k = 0 ∧ l = u := h1.resolve_right fun e => by omega
   refine OL.callM (v := .tup []) (.mk (args' := [.osl 1000 b n c, .d (dI 0), .d (dI n), .fn F.automaton_order []]) rfl (.cons (VLe.refl _) (.cons (VLe.refl _) (.cons (VLe.int (by omega)) (.cons (VLe.refl _) (.nil))))) (mem1_keep (id := 1000) (blk := rowA b c l) rfl) mem1_sub (insertA (n := n) hl hn)) ?_
   refine OL.nil (AW.sg hE rfl (mvD rfl (asD rfl (OL.nil (AW.rg hE rfl (mvD rfl (mvD rfl ?_)))))))
   refine add_i64 rfl rfl (by omega) (asD rfl (OL.nil ?_))
   exact AW.again (x := (0, l)) (1, sortG ltA (n - 1) l) (by (simp only []; omega)) ⟨.inr ⟨rfl, by omega, rfl⟩, Knows.app .rq4 .rq2, .cons rfl .nil⟩
  ·try simp only [dx9] at h13
   exact AW.exit (AW.reach (k, u) ⟨h1.imp (fun e => ⟨e.1, e.2, by omega⟩) id, Knows.app .rq4 .rq1, .cons rfl .nil⟩)
 rintro ⟨k, u⟩ h1
 refine AW.seq ?_
 rcases h1 with ⟨rfl, rfl, h0⟩ | ⟨rfl, h0, rfl⟩
 ·have h2 : n ≤ 20 := hn.2
  refine AW.rg hE rfl (mvO rfl (mvD rfl (mvD rfl (mvF rfl ?_))))
  refine OL.callM (v := .tup []) (.mk (args' := [.osl 1000 b n c, .d (dI 0), .d (dI n), .fn F.automaton_order []]) rfl (.cons (VLe.refl _) (.cons (VLe.refl _) (.cons (VLe.refl _) (.cons (VLe.refl _) (.nil))))) (mem1_keep (id := 1000) (blk := rowA b c l) rfl) mem1_sub (insertA (n := n) hl hn)) ?_
  refine OL.nil (AW.block ?_)
  refine AW.whileK (α := Unit) [(0, _), (1, _), (2, _)] [] (fun _u => [(6, .d (dI 20))]) (fun _u => [(1000, rowA b c (sortG ltA (n - 1) l))]) (fun _u => True) (fun _u => 0) () (.cons (knO rfl) (.cons (knD rfl) (.cons (knF rfl) .nil))) .nil ⟨trivial, .rq1, .cons rfl .nil⟩ ?_
  rintro ⟨⟩ -
  refine AW.seq (AW.sg hE rfl (mvD rfl (mvD rfl (c_lss rfl rfl rfl (OL.nil (AW.cond rfl (fun hno => absurd hno (by simp; omega)) (fun _ => ?_)))))))
  exact AW.exit (⟨⟨_, .nil, _, .nil, rfl⟩, mem1_keep rfl⟩)
 ·have h2 : n ≤ 20 := hn.2
  refine AW.rg hE rfl (mvO rfl (mvD rfl (mvD rfl (mvF rfl ?_))))
  refine OL.callM (v := .tup []) (.mk (args' := [.osl 1000 b n c, .d (dI n), .d (dI n), .fn F.automaton_order []]) rfl (.cons (VLe.refl _) (.cons (VLe.int (by omega)) (.cons (VLe.refl _) (.cons (VLe.refl _) (.nil))))) (mem1_keep (id := 1000) (blk := rowA b c (sortG ltA (n - 1) l)) rfl) mem1_sub (insertA0 (n := n) hn.2)) ?_
  refine OL.nil (AW.block ?_)
  refine AW.whileK (α := Unit) [(0, _), (1, _), (2, _)] [] (fun _u => [(6, .d (dI 20))]) (fun _u => [(1000, rowA b c (sortG ltA (n - 1) l))]) (fun _u => True) (fun _u => 0) () (.cons (knO rfl) (.cons (knD rfl) (.cons (knF rfl) .nil))) .nil ⟨trivial, .rq1, .cons rfl .nil⟩ ?_
  rintro ⟨⟩ -
  refine AW.seq (AW.sg hE rfl (mvD rfl (mvD rfl (c_lss rfl rfl rfl (OL.nil (AW.cond rfl (fun hno => absurd hno (by simp; omega)) (fun _ => ?_)))))))
  exact AW.exit (⟨⟨_, .nil, _, .nil, rfl⟩, mem1_keep rfl⟩)
theorem sortStableA {l : List Arc9} {b n c : Nat} (hl : l.length = n) (hn : 1 ≤ n ∧ n ≤ 20) : FSpecM P F.slices_SortStableFunc_Arc_Arc [.osl 1000 b n c, .fn F.automaton_order []] (mem1 1000 (rowA b c (l))) (.tup []) (mem1 1000 (rowA b c (sortG ltA (n - 1) l))) := by
 refine FSpecM.intro fn.slices_SortStableFunc_Arc_Arc (by rfl) (by rfl) (nb9 (by rfl)) fun E hE => (AW.rg hE rfl (mvO rfl (mvO rfl (lnO sl.Arcs rfl rfl (mvF rfl (OL.callM (v := .tup []) (.mk (args' := [.osl 1000 b n c, .d (dI n), .fn F.automaton_order []]) rfl (.cons (VLe.refl _) (.cons (VLe.refl _) (.cons (VLe.refl _) (.nil)))) (mem1_keep (id := 1000) (blk := rowA b c l) rfl) mem1_sub (stableA hl hn)) (OL.nil ?_)))))))
 exact ⟨⟨_, .nil, _, .nil, rfl⟩, mem1_keep rfl⟩
end Go.Proofs.YtippcclgnabpdaaGreatDoor

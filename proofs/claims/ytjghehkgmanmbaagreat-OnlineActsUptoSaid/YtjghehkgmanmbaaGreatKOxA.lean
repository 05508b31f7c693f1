/-
  Walks of package online, part 1: lists; fresh.Hidden (printed by mk2.py).
-/
import Derived.Test.YtjghehkgmanmbaaGreatKCwD
import Derived.Test.YtjghehkgmanmbaaGreatKAlg27
import Derived.Test.YtjghehkgmanmbaaGreatKAlg28
import Derived.Test.YtjghehkgmanmbaaGreatKMod54
set_option linter.unusedVariables false
set_option linter.unusedSimpArgs false
namespace Go.Proofs.YtjghehkgmanmbaaGreat
open Go Go.AL
abbrev dIss (l : List (List Int)) : D := .sl (l.map ints)
theorem vcs_mt_rowF : VCs [.mt] (dQs []).cells := .cons VC.mt .nil
def cmpI (a b : Int) : Int := if a < b then -1 else if b < a then 1 else 0
theorem cmpL_drop {l m : List Int} {i : Nat} (h1 : i < l.length) (h2 : i < m.length) : cmpL (l.drop i) (m.drop i) = if cmpI (l.getD i 0) (m.getD i 0) = 0 then cmpL (l.drop (i + 1)) (m.drop (i + 1)) else cmpI (l.getD i 0) (m.getD i 0) := by
 have e1 : l.getD i 0 = l[i] := by rw [List.getD_eq_getElem?_getD, List.getElem?_eq_getElem h1]; rfl
 have e2 : m.getD i 0 = m[i] := by rw [List.getD_eq_getElem?_getD, List.getElem?_eq_getElem h2]; rfl
 rw [List.drop_eq_getElem_cons h1, List.drop_eq_getElem_cons h2, cmpL, e1, e2]
 unfold cmpI
 by_cases a : l[i] < m[i]
 ·rw [if_pos a, if_pos a, if_neg (by decide)]
 ·rw [if_neg a, if_neg a]
  by_cases b : m[i] < l[i]
  ·rw [if_pos b, if_pos b, if_neg (by decide)]
  ·rw [if_neg b, if_neg b, if_pos rfl]
theorem flat_take_succ {L : List (List Int)} {i : Nat} (hi : i < L.length) : (L.take (i + 1)).flatten = (L.take i).flatten ++ L.getD i [] := by
 rw [List.take_succ_eq_append_getElem hi, List.flatten_append, List.getD_eq_getElem?_getD, List.getElem?_eq_getElem hi]
 simp
theorem flat_take_le {L : List (List Int)} (i : Nat) : (L.take i).flatten.length ≤ L.flatten.length := by
 have h : L.flatten = (L.take i).flatten ++ (L.drop i).flatten := by rw [← List.flatten_append, List.take_append_drop]
 rw [h, List.length_append]; exact Nat.le_add_right ..
theorem cmp_isNaN_int {x : Int} : FSpec P F.cmp_isNaN_int [.d (dI x)] (.d (dB false)) := by
 refine FSpec.intro fn.cmp_isNaN_int (by rfl) (by rfl) (nb9 (by rfl)) fun E hE => (AW.sg hE rfl (asD rfl (OL.nil (AW.sg hE rfl (mvD rfl (mvD rfl (c_neq rfl rfl rfl ?_)))))))
 exact asD rfl (OL.nil (AW.ret (RetQ.r ⟨_, .tmp rfl .nil, .le (VLe.bool (by simp_all))⟩)))
theorem cmp_Compare_int {x y : Int} : FSpec P F.cmp_Compare_int [.d (dI x), .d (dI y)] (.d (dI (cmpI x y))) := by
 refine FSpec.intro fn.cmp_Compare_int (by rfl) (by rfl) (nb9 (by rfl)) fun E hE => (AW.sg hE rfl (asD rfl (OL.nil (AW.sg hE rfl (mvD rfl (clv rfl (.cons (VLe.refl _) (.nil)) (cmp_isNaN_int) (asD rfl ?_)))))))
 refine OL.nil (AW.sg hE rfl (mvD rfl (clv rfl (.cons (VLe.refl _) (.nil)) (cmp_isNaN_int) (asD rfl (OL.nil (AW.seq (AW.sg hE rfl ?_)))))))
 refine mvD rfl (OL.nil (AW.cond rfl (fun hno => absurd hno (by decide)) (fun _ => ?_)))
 refine AW.skip (AW.seq (AW.sg hE rfl (mvD rfl (OL.nil (AW.cond rfl (fun hno => absurd hno (by decide)) (fun _ => ?_))))))
 refine AW.skip (AW.seq (AW.sg hE rfl (mvD rfl (mvD rfl (c_lss rfl rfl rfl (OL.nil (AW.cond rfl (fun h1 => ?_) (fun h1 => ?_))))))))
 ·have h1 := of_decide_eq_true h1
  exact AW.sg hE rfl (asD rfl (OL.nil (AW.ret (RetQ.r ⟨_, .tmp rfl .nil, .le (VLe.int ((if_pos h1).symm))⟩))))
 ·have h1 := of_decide_eq_false h1
  refine AW.skip (AW.seq (AW.sg hE rfl (mvD rfl (mvD rfl (c_gtr rfl rfl rfl (OL.nil (AW.cond rfl (fun h2 => ?_) (fun h2 => ?_))))))))
  ·have h2 := of_decide_eq_true h2
   exact AW.sg hE rfl (asD rfl (OL.nil (AW.ret (RetQ.r ⟨_, .tmp rfl .nil, .le (VLe.int (by unfold cmpI; rw [if_neg h1, if_pos h2]))⟩))))
  ·have h2 := of_decide_eq_false h2
   exact AW.skip (AW.sg hE rfl (asD rfl (OL.nil (AW.ret (RetQ.r ⟨_, .tmp rfl .nil, .le (VLe.int (by unfold cmpI; rw [if_neg h1, if_neg h2]))⟩)))))
theorem compare_ints {l m : List Int} (nl : l.length ≤ 1099511627776) : FSpec P F.slices_Compare_ints_int [.d (ints l), .d (ints m)] (.d (dI (cmpL l m))) := by
 refine FSpec.intro fn.slices_Compare_ints_int (by rfl) (by rfl) (nb9 (by rfl)) fun E hE => (AW.sg hE rfl (asD rfl (OL.nil (AW.seq (AW.sg hE rfl (mvD rfl (lnL sl.ints rfl rfl ?_)))))))
 refine mvD rfl (OL.nil (AW.block ?_))
 refine AW.whileK (α := Nat) [(0, _), (1, _), (9, _), (10, _)] [] (fun i => [(11, .d (dI i))]) (fun i => []) (fun i => i ≤ l.length ∧ i ≤ m.length ∧ cmpL l m = cmpL (l.drop i) (m.drop i)) (fun i => l.length - i) 0 (.cons (knD rfl) (.cons (knD rfl) (.cons (knD rfl) (.cons (knD rfl) .nil)))) .nil ⟨⟨Nat.zero_le _, Nat.zero_le _, rfl⟩, .rq1, .nil⟩ ?_
 rintro i ⟨h1, h2, h3⟩
 have h1 : i ≤ l.length := h1
 have h2 : i ≤ m.length := h2
 have h3 : cmpL l m = cmpL (l.drop i) (m.drop i) := h3
 refine AW.sg hE rfl (c_lss rfl rfl rfl (OL.nil (AW.seq (AW.cond rfl (fun h12 => ?_) (fun h12 => ?_)))))
 ·try simp only [dx9] at h12
  refine AW.skip (AW.seq (AW.block (AW.sg hE rfl (mvD rfl (ixLn sl.ints 0 rfl rfl (by omega) rfl rfl (ldRC ce.int rfl (asD rfl ?_)))))))
  refine asD rfl (OL.nil (AW.seq (AW.sg hE rfl (mvD rfl (mvD rfl (lnL sl.ints rfl rfl (c_geq rfl rfl rfl ?_)))))))
  refine OL.nil (AW.cond rfl (fun hm => ?_) (fun hm => ?_))
  ·have hm : m.length ≤ i := by have := of_decide_eq_true hm; omega
   exact AW.sg hE rfl (asD rfl (OL.nil (AW.ret (RetQ.r ⟨_, .tmp rfl .nil, .le (VLe.int (by rw [h3, List.drop_eq_nil_of_le hm, List.drop_eq_getElem_cons (show i < l.length by omega), cmpL]))⟩))))
  ·have hm : i < m.length := by have := of_decide_eq_false hm; omega
   refine AW.skip (AW.sg hE rfl (mvD rfl (mvD rfl (ixLn sl.ints 0 rfl rfl (by omega) rfl rfl (ldRC ce.int rfl (asD rfl (OL.nil ?_)))))))
   refine AW.sg hE rfl (mvD rfl (mvD rfl (clv rfl (.cons (VLe.refl _) (.cons (VLe.refl _) (.nil))) (cmp_Compare_int) (asD rfl (OL.nil (AW.sg hE rfl (mvD rfl ?_)))))))
   refine c_neq rfl rfl rfl (OL.nil (AW.cond rfl (fun hc => ?_) (fun hc => ?_)))
   ·have hc := nd_t hc
    exact AW.sg hE rfl (mvD rfl (asD rfl (OL.nil (AW.ret (RetQ.r ⟨_, .tmp rfl .nil, .le (VLe.int (by rw [h3, cmpL_drop (by omega) hm, if_neg hc]))⟩)))))
   ·have hc := nd_f hc
    exact AW.skip (AW.rg hE rfl (add_i64 rfl rfl (by omega) (mvD rfl (OL.nil (AW.again (x := i) (i + 1) (by omega) ⟨⟨by omega, by omega, by rw [h3, cmpL_drop (by omega) (by omega), if_pos hc]⟩, Knows.app .rq4 .rq1, .nil⟩)))))
 ·try simp only [dx9] at h12
  refine AW.exit (AW.seq (AW.sg hE rfl (mvD rfl (lnL sl.ints rfl rfl (mvD rfl (lnL sl.ints rfl rfl (c_lss rfl rfl rfl ?_)))))))
  refine OL.nil (AW.cond rfl (fun hl => ?_) (fun hl => ?_))
  ·have hl : l.length < m.length := by have := of_decide_eq_true hl; omega
   exact AW.sg hE rfl (asD rfl (OL.nil (AW.ret (RetQ.r ⟨_, .tmp rfl .nil, .le (VLe.int (by rw [h3, List.drop_eq_nil_of_le (show l.length ≤ i by omega), List.drop_eq_getElem_cons (show i < m.length by omega), cmpL]))⟩))))
  ·have hl : m.length ≤ l.length := by have := of_decide_eq_false hl; omega
   exact AW.skip (AW.sg hE rfl (asD rfl (OL.nil (AW.ret (RetQ.r ⟨_, .tmp rfl .nil, .le (VLe.int (by rw [h3, List.drop_eq_nil_of_le (show l.length ≤ i by omega), List.drop_eq_nil_of_le (show m.length ≤ i by omega), cmpL]))⟩)))))
theorem clone_ints {l : List Int} (nl : l.length ≤ 1099511627776) : FSpec P F.slices_Clone_ints_int [.d (ints l)] (.d (ints l)) := by
 refine FSpec.intro fn.slices_Clone_ints_int (by rfl) (by rfl) (nb9 (by rfl)) fun E hE => (AW.sg hE rfl (asM rfl (OL.nil (AW.seq (AW.sg hE rfl (mvD rfl (isNil sl.ints.u rfl (fun y hy => by obtain ⟨a, _, rfl⟩ := List.mem_map.1 hy; exact Nat.succ_pos _) rfl fun b hb => ?_)))))))
 refine OL.nil (AW.cond rfl (fun h => ?_) (fun h => ?_))
 ·have hL : l = [] := by have := hb h; simpa using this
  exact AW.sg hE rfl (asM rfl (OL.nil (AW.ret (RetQ.r ⟨_, .tmp rfl .nil, .le (hL ▸ VLe.mt)⟩))))
 ·have _h := h
  exact AW.skip (AW.sg hE rfl (lt0 sl.ints (mvD rfl (apMD sl.ints rfl rfl (VC.d _) (fun y hy => by obtain ⟨a, _, rfl⟩ := List.mem_map.1 hy; rfl) (by simp; omega) (by simp; omega) (asD rfl (OL.nil (AW.ret (RetQ.r ⟨_, .tmp rfl .nil, .le (VLe.refl _)⟩))))))))
theorem clone_bools {l : List Bool} (nl : l.length ≤ 1099511627776) : FSpec P F.slices_Clone_bools_bool [.d (bools l)] (.d (bools l)) := by
 refine FSpec.intro fn.slices_Clone_bools_bool (by rfl) (by rfl) (nb9 (by rfl)) fun E hE => (AW.sg hE rfl (asM rfl (OL.nil (AW.seq (AW.sg hE rfl (mvD rfl (isNil sl.bools.u rfl (fun y hy => by obtain ⟨a, _, rfl⟩ := List.mem_map.1 hy; exact Nat.succ_pos _) rfl fun b hb => ?_)))))))
 refine OL.nil (AW.cond rfl (fun h => ?_) (fun h => ?_))
 ·have hL : l = [] := by have := hb h; simpa using this
  exact AW.sg hE rfl (asM rfl (OL.nil (AW.ret (RetQ.r ⟨_, .tmp rfl .nil, .le (hL ▸ VLe.mt)⟩))))
 ·have _h := h
  exact AW.skip (AW.sg hE rfl (lt0 sl.bools (mvD rfl (apMD sl.bools rfl rfl (VC.d _) (fun y hy => by obtain ⟨a, _, rfl⟩ := List.mem_map.1 hy; rfl) (by simp; omega) (by simp; omega) (asD rfl (OL.nil (AW.ret (RetQ.r ⟨_, .tmp rfl .nil, .le (VLe.refl _)⟩))))))))
theorem clone_intsR {l : List Int} (nl : l.length ≤ 1099511627776) : FSpecR P F.slices_Clone_ints_int [.d (ints l)] l.length T.int 1 (l.map dI) := by
 refine FSpecR.intro fn.slices_Clone_ints_int (by rfl) (by rfl) (nb9 (by rfl)) 2 rfl fun E hE => (AW.sg hE rfl (asM rfl (OL.nil (AW.seq (AW.sg hE rfl (mvD rfl (isNil sl.ints.u rfl (fun y hy => by obtain ⟨a, _, rfl⟩ := List.mem_map.1 hy; exact Nat.succ_pos _) rfl fun b hb => ?_)))))))
 refine OL.nil (AW.cond rfl (fun h => ?_) (fun h => ?_))
 ·have hL : l = [] := by have := hb h; simpa using this
  subst hL
  exact AW.sg hE rfl (asM rfl (OL.nil (AW.own 2 99 T.int 1 rfl rfl (AW.ret ⟨.inr rfl, 99, 0, 0, [], rfl, rfl, Nat.le_refl _, rfl⟩))))
 ·have _h := h
  exact AW.skip (AW.sg hE rfl (lt0 sl.ints (mvD rfl (apM sl.ints rfl rfl (VC.d _) dI_len (by simp; omega) (by simp; omega) rfl fun b7 c7 => (asO rfl (OL.nil (AW.ret ⟨.inr rfl, 7, b7, c7, l.map dI, by show V.osl 7 b7 (List.map dI l).length c7 = _; rw [List.length_map], rfl, by rw [List.length_map]; exact Nat.le_refl _, List.take_of_length_le (by rw [List.length_map]; exact Nat.le_refl _)⟩)))))))
theorem grow_ints {n : Nat} (hn : n ≤ 1099511627776) : FSpecR P F.slices_Grow_ints_int [.mt, .d (dI n)] 0 T.int 1 [] := by
 refine FSpecR.intro fn.slices_Grow_ints_int (by rfl) (by rfl) (nb9 (by rfl)) 4 rfl fun E hE => (AW.sg hE rfl (asM rfl (OL.nil (AW.seq (AW.sg hE rfl (mvD rfl (c_lss rfl rfl rfl ?_)))))))
 refine OL.nil (AW.cond rfl (fun hno => absurd hno (by simp)) (fun _ => ?_))
 refine AW.skip (AW.seq (AW.sg hE rfl (mvD rfl (mvM rfl (OL.pure (.capM rfl rfl sl.ints) (mvM rfl (lnM sl.ints rfl rfl ?_)))))))
 refine sub_i64 rfl rfl (by omega) (sub_i64 rfl rfl (by omega) (asD rfl (OL.nil (AW.sg hE rfl (mvD rfl (c_gtr rfl rfl rfl (OL.nil ?_)))))))
 refine AW.cond rfl (fun h16 => ?_) (fun h16 => ?_)
 ·try simp only [dx9] at h16
  refine AW.rg hE rfl (mvM rfl (mvM rfl (OL.pure (.capM rfl rfl sl.ints) (OL.pure (v := .mt) (.cutM rfl sl.ints rfl ⟨.i64, rfl⟩) (mvD rfl (apZ (n := n) sl.ints it.int rfl rfl (by show V.d (D.sc (Value.int IntKind.i64 _)) = _; congr 3) (by omega) (by omega) (by omega) rfl fun b c => (mvM rfl ?_)))))))
  refine lnM sl.ints rfl rfl (slO (h := 0) sl.ints rfl rfl (Nat.zero_le _) (asO rfl (OL.nil (AW.sg hE rfl (mvO rfl (asO rfl (OL.nil ?_)))))))
  exact AW.ret ⟨.inr rfl, 22, b, c, [], rfl, rfl, Nat.le_refl _, rfl⟩
 ·have h16 := h16
  exact AW.own 0 99 T.int 1 rfl rfl (AW.skip (AW.sg hE rfl (mvO rfl (asO rfl (OL.nil (AW.ret ⟨.inr rfl, 99, 0, 0, [], rfl, rfl, Nat.le_refl _, rfl⟩))))))
theorem concat_ints {L : List (List Int)} (nL : L.length ≤ 1099511627776) (nF : L.flatten.length ≤ 68719476736) : FSpec P F.slices_Concat_ints_int [.d (dIss L)] (.d (ints L.flatten)) := by
 refine FSpec.intro fn.slices_Concat_ints_int (by rfl) (by rfl) (nb9 (by rfl)) fun E hE => (AW.sg hE rfl (asM rfl (OL.nil (AW.sg hE rfl (asD rfl (OL.nil (AW.seq ?_)))))))
 refine AW.sg hE rfl (mvD rfl (lnL sl.intss rfl rfl (mvD rfl (OL.nil (AW.block ?_)))))
 refine AW.whileK (α := Nat) [(0, _), (2, _), (9, _), (10, _)] [] (fun i => [(3, .d (dI (L.take i).flatten.length)), (11, .d (dI i))]) (fun i => []) (fun i => i ≤ L.length) (fun i => L.length - i) 0 (.cons (knD rfl) (.cons (knM rfl) (.cons (knD rfl) (.cons (knD rfl) .nil)))) .nil ⟨Nat.zero_le _, .rq2, .nil⟩ ?_
 intro i h1
 refine AW.sg hE rfl (c_lss rfl rfl rfl (OL.nil (AW.seq (AW.cond rfl (fun h12 => ?_) (fun h12 => ?_)))))
 ·try simp only [dx9] at h12
  refine AW.skip (AW.seq (AW.block (AW.sg hE rfl (ixLn sl.intss [] rfl rfl (by omega) rfl rfl (ldRC ce.ints rfl (asD rfl (OL.nil ?_)))))))
  refine AW.seq ?_
  have hle := flat_take_le (L := L) (i + 1)
  rw [flat_take_succ (by omega), List.length_append] at hle
  refine AW.rg hE rfl (mvD rfl (mvD rfl (lnL sl.ints rfl rfl (add_i64 rfl rfl (by omega) (asD rfl (OL.nil (AW.sg hE rfl ?_)))))))
  refine mvD rfl (c_lss rfl rfl rfl (OL.nil (AW.cond rfl (fun hno => absurd hno (by simp; omega)) (fun _ => ?_))))
  exact AW.skip (AW.rg hE rfl (add_i64 rfl rfl (by omega) (mvD rfl (OL.nil (AW.again (x := i) (i + 1) (by omega) ⟨by omega, Knows.app .rq4 (.cons (VLe.int (by rw [flat_take_succ (by omega), List.length_append]; omega)) .rq1), .nil⟩)))))
 ·try simp only [dx9] at h12
  refine AW.exit (AW.seq ?_)
  obtain rfl : i = L.length := by omega
  rw [List.take_length]
  refine AW.rg hE rfl (mvD rfl (clR rfl .rq2 (grow_ints (n := L.flatten.length) (by omega)) rfl fun b24 c24 => (asO rfl (OL.nil (AW.seq (AW.sg hE rfl (mvD rfl ?_)))))))
  refine lnL sl.intss rfl rfl (mvD rfl (OL.nil (AW.block (AW.rename 24 33 rfl ?_))))
  refine AW.whileK (α := Nat × Nat × Nat) [(2, _), (25, _), (26, _)] [] (fun (i, b, c) => [(6, .osl 33 b (L.take i).flatten.length c), (27, .d (dI i))]) (fun (i, b, c) => [(33, .row b c T.int 1 ((L.take i).flatten.map dI))]) (fun (i, b, c) => i ≤ L.length) (fun (i, b, c) => L.length - i) (0, b24, c24) (.cons (knM rfl) (.cons (knD rfl) (.cons (knD rfl) .nil))) .nil ⟨Nat.zero_le _, .cons (VLe.osl) .rq1, .cons rfl .nil⟩ ?_
  rintro ⟨i, b, c⟩ h1
  refine AW.sg hE rfl (c_lss rfl rfl rfl (OL.nil (AW.seq (AW.cond rfl (fun h28 => ?_) (fun h28 => ?_)))))
  ·try simp only [dx9] at h28
   refine AW.skip (AW.seq (AW.block (AW.sg hE rfl (ixLn sl.intss [] rfl rfl (by omega) rfl rfl (ldRC ce.ints rfl (asD rfl (OL.nil ?_)))))))
   have hle := flat_take_le (L := L) (i + 1)
   rw [flat_take_succ (by omega), List.length_append] at hle
   refine AW.rg hE rfl (mvO rfl (mvD rfl ?_))
   refine apO sl.ints rfl rfl rfl (by rw [List.length_map]) (VC.d _) dI_len (by rw [List.length_map]; omega) (by rw [List.length_map]; omega) (.inr rfl) (ys := ((L.take i).flatten ++ L.getD i []).map dI) (by rw [List.map_append]) (n2 := ((L.take i).flatten ++ L.getD i []).length) (by rw [List.length_map, List.length_append]) fun b2 c2 => ?_
   refine asO rfl (OL.nil (AW.rg hE rfl (add_i64 rfl rfl (by omega) (mvD rfl (OL.nil ?_)))))
   exact AW.again (x := (i, b, c)) (i + 1, b2, c2) (by (simp only []; omega)) ⟨by omega, Knows.app .rq3 (.cons (by rw [flat_take_succ (by omega)]; exact VLe.refl _) .rq1), .cons (by rw [flat_take_succ (by omega)]; rfl) .nil⟩
  ·try simp only [dx9] at h28
   refine AW.exit (AW.seq ?_)
   obtain rfl : i = L.length := by omega
   refine AW.freeze 33 rfl (AW.to [(6, .d (ints L.flatten))] [] (.cons (frz_osl (by rw [List.length_map]) (by rw [List.take_length])) .nil) .nil ?_)
   exact AW.rg hE rfl (mvD rfl (asD rfl (OL.nil (AW.ret (RetQ.r ⟨_, .tmp rfl .nil, .le (VLe.refl _)⟩)))))
theorem list_range_getD {α : Type} (l : List α) (d : α) : (List.range l.length).map (fun j => l.getD j d) = l := by
 refine List.ext_getElem (by simp) fun k h1 h2 => ?_
 simp [List.getD_eq_getElem?_getD, List.getElem?_eq_getElem h2]
theorem fresh_eachRat {l : List (Rat)} {C : Nat} (hl : Small C l) (hC : 1 ≤ C ∧ C ≤ 68719476736) (nl : l.length ≤ 1048576) : FSpec P F.fresh_each_Rat [.d (dQs l), .fn F.fresh_Rat []] (.d (dQs l)) := by
 refine FSpec.intro fn.fresh_each_Rat (by rfl) (by rfl) (nb9 (by rfl)) fun E hE => (AW.sg hE rfl (asM rfl (OL.nil (AW.seq (AW.sg hE rfl (mvD rfl (isNil sl.Rats.u rfl (fun y hy => by obtain ⟨a, _, rfl⟩ := List.mem_map.1 hy; exact Nat.succ_pos _) rfl fun b hb => ?_)))))))
 refine OL.nil (AW.cond rfl (fun h => ?_) (fun h => ?_))
 ·have hL : l = [] := by have := hb h; simpa using this
  exact AW.sg hE rfl (asM rfl (OL.nil (AW.ret (RetQ.r ⟨_, .tmp rfl .nil, .le (hL ▸ VLe.mt)⟩))))
 ·have _h := h
  refine AW.skip (AW.sg hE rfl (mvD rfl (lnL sl.Rats rfl rfl (mkL dQ 0 sl.Rats z.Rat vcs_q0 rfl rfl (Nat.le_refl _) (by omega) (by omega) rfl fun b12 => (asO rfl (OL.nil (AW.seq ?_)))))))
  refine AW.sg hE rfl (mvD rfl (lnL sl.Rats rfl rfl (mvD rfl (OL.nil (AW.block ?_)))))
  refine AW.whileK (α := Nat) [(1, _), (4, _), (5, _), (13, _), (14, _)] [] (fun i => [(15, .d (dI i))]) (fun i => [(12, .row b12 l.length T.Rat 3 ((fillF 0 (fun j => l.getD j 0) l.length i).map dQ))]) (fun i => i ≤ l.length) (fun i => l.length - i) 0 (.cons (knF rfl) (.cons (knM rfl) (.cons (knO rfl) (.cons (knD rfl) (.cons (knD rfl) .nil))))) .nil ⟨Nat.zero_le _, .rq1, .cons (by rw [fillF_zero]; rfl) .nil⟩ ?_
  intro i h1
  have h1 : i ≤ l.length := h1
  have hfl := fillF_len 0 (fun j => l.getD j 0) l.length i
  refine AW.sg hE rfl (c_lss rfl rfl rfl (OL.nil (AW.seq (AW.cond rfl (fun h16 => ?_) (fun h16 => ?_)))))
  ·try simp only [dx9] at h16
   refine AW.skip (AW.seq (AW.block (AW.sg hE rfl (mvD rfl (ixLn sl.Rats 0 rfl rfl (by omega) rfl rfl (ldRA ag.Rat rfl (vs := [_,_,_]) rfl (nb9 rfl) (al z.Rat rfl fun b7 => ?_)))))))
   refine asD rfl (sto sz.Rat rfl rfl rfl rfl rfl (nb9 rfl) (cells2 := [_,_,_]) rfl (OL.nil (AW.rg hE rfl (mvO rfl (mvD rfl (mvF rfl (ldPA ag.Rat rfl rfl (vs := [_,_,_]) rfl (nb9 rfl) ?_)))))))
   refine clv rfl (.cons (VLe.refl _) (.nil)) (fresh_Rat (Nat.le_trans (hl.get hC.1 i) hC.2)) (ixOn sl.Rats rfl rfl (by omega) (stE sz.Rat rfl vd_q rfl rfl (by rw [List.length_map]; omega) (es2 := (fillF 0 (fun j => l.getD j 0) l.length (i + 1)).map dQ) (by rw [← fillF_set (show i < l.length by omega), List.map_set]) (OL.nil (AW.rg hE rfl (add_i64 rfl rfl (by omega) (mvD rfl (OL.nil ?_)))))))
   exact AW.again (x := i) (i + 1) (by omega) ⟨by omega, Knows.app .rq5 .rq1, .cons rfl .nil⟩
  ·try simp only [dx9] at h16
   refine AW.exit (AW.seq ?_)
   obtain rfl : i = l.length := by omega
   have hfr : (List.range l.length).map (fun j => l.getD j 0) = l := list_range_getD l 0
   refine AW.freeze 12 rfl (AW.to [(5, .d (dQs l))] [] (.cons (frz_osl (by rw [List.length_map, fillF_len]) (by rw [fillF_all, hfr])) .nil) .nil ?_)
   exact AW.rg hE rfl (mvD rfl (asD rfl (OL.nil (AW.ret (RetQ.r ⟨_, .tmp rfl .nil, .le (VLe.refl _)⟩)))))
theorem fresh_Rats {l : List (Rat)} {C : Nat} (hl : Small C l) (hC : 1 ≤ C ∧ C ≤ 68719476736) (nl : l.length ≤ 1048576) : FSpec P F.fresh_Rats [.d (dQs l)] (.d (dQs l)) := by
 refine FSpec.intro fn.fresh_Rats (by rfl) (by rfl) (nb9 (by rfl)) fun E hE => (AW.sg hE rfl (asM rfl (OL.nil (AW.sg hE rfl (mvD rfl (clv rfl (.cons (VLe.refl _) (.cons (VLe.refl _) (.nil))) (fresh_eachRat hl hC nl) (asD rfl ?_)))))))
 exact OL.nil (AW.ret (RetQ.r ⟨_, .tmp rfl .nil, .le (VLe.refl _)⟩))
theorem fresh_eachRats {l : List (List Rat)} {C : Nat} (hl : ∀ i, Small C (l.getD i []) ∧ (l.getD i []).length ≤ 1048576) (hC : 1 ≤ C ∧ C ≤ 68719476736) (nl : l.length ≤ 1048576) : FSpec P F.fresh_each_Rats [.d (dQss l), .fn F.fresh_Rats []] (.d (dQss l)) := by
 refine FSpec.intro fn.fresh_each_Rats (by rfl) (by rfl) (nb9 (by rfl)) fun E hE => (AW.sg hE rfl (asM rfl (OL.nil (AW.seq (AW.sg hE rfl (mvD rfl (isNil sl.Ratss.u rfl (fun y hy => by obtain ⟨a, _, rfl⟩ := List.mem_map.1 hy; exact Nat.succ_pos _) rfl fun b hb => ?_)))))))
 refine OL.nil (AW.cond rfl (fun h => ?_) (fun h => ?_))
 ·have hL : l = [] := by have := hb h; simpa using this
  exact AW.sg hE rfl (asM rfl (OL.nil (AW.ret (RetQ.r ⟨_, .tmp rfl .nil, .le (hL ▸ VLe.mt)⟩))))
 ·have _h := h
  refine AW.skip (AW.sg hE rfl (mvD rfl (lnL sl.Ratss rfl rfl (mkL dQs [] sl.Ratss z.Rats vcs_mt_rowF rfl rfl (Nat.le_refl _) (by omega) (by omega) rfl fun b12 => (asO rfl (OL.nil (AW.seq ?_)))))))
  refine AW.sg hE rfl (mvD rfl (lnL sl.Ratss rfl rfl (mvD rfl (OL.nil (AW.block ?_)))))
  refine AW.whileK (α := Nat) [(1, _), (4, _), (5, _), (13, _), (14, _)] [] (fun i => [(15, .d (dI i))]) (fun i => [(12, .row b12 l.length T.Rats 1 ((fillF [] (fun j => l.getD j []) l.length i).map dQs))]) (fun i => i ≤ l.length) (fun i => l.length - i) 0 (.cons (knF rfl) (.cons (knM rfl) (.cons (knO rfl) (.cons (knD rfl) (.cons (knD rfl) .nil))))) .nil ⟨Nat.zero_le _, .rq1, .cons (by rw [fillF_zero]; rfl) .nil⟩ ?_
  intro i h1
  have h1 : i ≤ l.length := h1
  have hfl := fillF_len [] (fun j => l.getD j []) l.length i
  refine AW.sg hE rfl (c_lss rfl rfl rfl (OL.nil (AW.seq (AW.cond rfl (fun h16 => ?_) (fun h16 => ?_)))))
  ·try simp only [dx9] at h16
   refine AW.skip (AW.seq (AW.block (AW.sg hE rfl (mvD rfl (ixLn sl.Ratss [] rfl rfl (by omega) rfl rfl (ldRC ce.Rats rfl (asD rfl ?_)))))))
   refine asD rfl (OL.nil (AW.rg hE rfl (mvO rfl (mvD rfl (mvF rfl (mvD rfl (clv rfl (.cons (VLe.refl _) (.nil)) (fresh_Rats (hl i).1 hC (hl i).2) ?_)))))))
   exact ixOn sl.Ratss rfl rfl (by omega) (stE sz.Rats rfl (VC.d _).vd rfl rfl (by rw [List.length_map]; omega) (es2 := (fillF [] (fun j => l.getD j []) l.length (i + 1)).map dQs) (by rw [← fillF_set (show i < l.length by omega), List.map_set]) (OL.nil (AW.rg hE rfl (add_i64 rfl rfl (by omega) (mvD rfl (OL.nil (AW.again (x := i) (i + 1) (by omega) ⟨by omega, Knows.app .rq5 .rq1, .cons rfl .nil⟩)))))))
  ·try simp only [dx9] at h16
   refine AW.exit (AW.seq ?_)
   obtain rfl : i = l.length := by omega
   have hfr : (List.range l.length).map (fun j => l.getD j []) = l := list_range_getD l []
   refine AW.freeze 12 rfl (AW.to [(5, .d (dQss l))] [] (.cons (frz_osl (by rw [List.length_map, fillF_len]) (by rw [fillF_all, hfr])) .nil) .nil ?_)
   exact AW.rg hE rfl (mvD rfl (asD rfl (OL.nil (AW.ret (RetQ.r ⟨_, .tmp rfl .nil, .le (VLe.refl _)⟩)))))
theorem fresh_Rows {l : List (List Rat)} {C : Nat} (hl : ∀ i, Small C (l.getD i []) ∧ (l.getD i []).length ≤ 1048576) (hC : 1 ≤ C ∧ C ≤ 68719476736) (nl : l.length ≤ 1048576) : FSpec P F.fresh_Rows [.d (dQss l)] (.d (dQss l)) := by
 refine FSpec.intro fn.fresh_Rows (by rfl) (by rfl) (nb9 (by rfl)) fun E hE => (AW.sg hE rfl (asM rfl (OL.nil (AW.sg hE rfl (mvD rfl (clv rfl (.cons (VLe.refl _) (.cons (VLe.refl _) (.nil))) (fresh_eachRats hl hC nl) (asD rfl ?_)))))))
 exact OL.nil (AW.ret (RetQ.r ⟨_, .tmp rfl .nil, .le (VLe.refl _)⟩))
theorem row_small {l : List (List Rat)} {n m C : Nat} (hl : l.length = n) (hr : ∀ i, i < n → (l.getD i []).length = m) (hz : ∀ i, Small C (l.getD i [])) (hm : m ≤ 1048576) (i : Nat) : Small C (l.getD i []) ∧ (l.getD i []).length ≤ 1048576 := by
 refine ⟨hz i, ?_⟩
 rcases Nat.lt_or_ge i n with h | h
 ·rw [hr i h]; exact hm
 ·rw [getD_ge (by omega)]; exact Nat.zero_le _
set_option maxRecDepth 6000 in
set_option maxHeartbeats 3200000 in
theorem fresh_Hidden {h : HM} {B : Nat} (f : HM.FormX 1048576 B h) : FSpec P F.fresh_Hidden [vHM h] (vHM h) := by
 have n1 := f.st1
 have s1 := f.sym1
 have e1 := f.ini
 have e2 := f.trans
 have e3 := f.stop
 have e4 := f.emit
 have e5 := f.ties
 have e6 : h.silent.length = h.st := by rw [f.silent]; simp
 have hb1 := f.b1
 have bB := f.bB
 have zE := f.zE
 refine FSpec.intro fn.fresh_Hidden (by rfl) (by rfl) (nb9 (by rfl)) fun E hE => (AW.sg hE rfl (bxA rfl rfl fun b1 => (al z.Hidden rfl fun b2 => (OL.nil (AW.seq (AW.dg 1 [0,1,2,3,4,5,6,7,8,9,10,11,12,13,14,15,16,17,18,19,20,21,22,23,24,25,26] order_free hE rfl (by kernel_rfl) (OI.of_OL (os := [_,_,_,_,_,_,_,_,_,_,_,_,_,_,_,_,_,_,_,_,_,_,_,_,_,_,_]) rfl ?_)))))))
 refine faP fd.Hidden_0 rfl rfl (ldPC ce.int rfl rfl rfl (faP fd.Hidden_1 rfl rfl (ldPC ce.int rfl rfl rfl (faP fd.Hidden_2 rfl rfl (ldPA ag.Rat rfl rfl (vs := [_,_,_]) rfl (nb9 rfl) (clv rfl (.cons (VLe.refl _) (.nil)) (fresh_Rat (q := h.empty) (by omega)) (faP fd.Hidden_3 rfl rfl ?_)))))))
 refine ldPC ce.Rats rfl rfl rfl (clv rfl (.cons (VLe.refl _) (.nil)) (fresh_Rats f.zI ⟨hb1, by omega⟩ (by omega)) (faP fd.Hidden_4 rfl rfl (ldPC ce.Ratss rfl rfl rfl (clv rfl (.cons (VLe.refl _) (.nil)) (fresh_Rows (row_small f.trans f.trow f.zT (by omega)) ⟨hb1, by omega⟩ (by omega)) (faP fd.Hidden_5 rfl rfl (ldPC ce.Rats rfl rfl rfl (clv rfl (.cons (VLe.refl _) (.nil)) (fresh_Rats f.zS ⟨hb1, by omega⟩ (by omega)) ?_)))))))
 refine faP fd.Hidden_6 rfl rfl (ldPC ce.Ratss rfl rfl rfl (clv rfl (.cons (VLe.refl _) (.nil)) (fresh_Rows (row_small f.emit f.erow f.zM (by omega)) ⟨hb1, by omega⟩ (by omega)) (faP fd.Hidden_7 rfl rfl (ldPC ce.bools rfl rfl rfl (clv rfl (.cons (VLe.refl _) (.nil)) (clone_bools (by omega)) (faP fd.Hidden_8 rfl rfl (ldPC ce.ints rfl rfl rfl ?_)))))))
 refine clv rfl (.cons (VLe.refl _) (.nil)) (clone_ints (by omega)) ?_
 refine bd2 (cs := [_,_,_,_,_,_,_,_,_,_,_]) z.Hidden pl.Hidden (pvC (by exact evD rfl) (pvC (by exact evD rfl) (pvC (by exact evA rfl) (pvC (by exact evD rfl) (pvC (by exact evD rfl) (pvC (by exact evD rfl) (pvC (by exact evD rfl) (pvC (by exact evD rfl) (pvC (by exact evD rfl) (pvN)))))))))) (by rfl) ?_
 refine sto sz.Hidden rfl rfl rfl rfl rfl (nb9 rfl) (cells2 := [_,_,_,_,_,_,_,_,_,_,_]) rfl (OL.nil ?_)
 exact AW.ret (RetQ.r ⟨_, .cellA rfl rfl ag.Hidden (nb9 rfl) .nil, .ag (.cons (.le (VLe.refl _)) (.cons (.le (VLe.refl _)) (.cons (.le (VLe.refl _)) (.cons (.le (VLe.refl _)) (.cons (.le (VLe.refl _)) (.cons (.le (VLe.refl _)) (.cons (.le (VLe.refl _)) (.cons (.le (VLe.refl _)) (.cons (.le (VLe.refl _)) (.cons (.le (VLe.refl _)) (.cons (.le (VLe.refl _)) .nil)))))))))))⟩)
end Go.Proofs.YtjghehkgmanmbaaGreat

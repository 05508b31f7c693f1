/-
  Walks of package online, part 1: lists; fresh.Hidden (printed by mk2.py).
-/
import Derived.Test.YtcebciggodhmcaaGreatKVitC
import Derived.Test.YtcebciggodhmcaaGreatKFwdA
import Derived.Test.YtcebciggodhmcaaGreatKAlg27
import Derived.Test.YtcebciggodhmcaaGreatKMod37b
set_option linter.unusedVariables false
set_option linter.unusedSimpArgs false
namespace Go.Proofs.YtcebciggodhmcaaGreat
open Go Go.AL
def cmpI (a b : Int) : Int := if a < b then -1 else if b < a then 1 else 0
theorem cmpL_drop {l m : List Int} {i : Nat} (h1 : i < l.length) (h2 : i < m.length) : cmpL (l.drop i) (m.drop i) = if cmpI (l.getD i 0) (m.getD i 0) = 0 then cmpL (l.drop (i + 1)) (m.drop (i + 1)) else cmpI (l.getD i 0) (m.getD i 0) := by
  have e1 : l.getD i 0 = l[i] := by rw [List.getD_eq_getElem?_getD, List.getElem?_eq_getElem h1]; rfl
  have e2 : m.getD i 0 = m[i] := by rw [List.getD_eq_getElem?_getD, List.getElem?_eq_getElem h2]; rfl
  rw [List.drop_eq_getElem_cons h1, List.drop_eq_getElem_cons h2, cmpL, e1, e2]
  unfold cmpI
  by_cases a : l[i] < m[i]
  · rw [if_pos a, if_pos a, if_neg (by decide)]
  · rw [if_neg a, if_neg a]
    by_cases b : m[i] < l[i]
    · rw [if_pos b, if_pos b, if_neg (by decide)]
    · rw [if_neg b, if_neg b, if_pos rfl]
theorem flat_take_succ {L : List (List Int)} {i : Nat} (hi : i < L.length) : (L.take (i + 1)).flatten = (L.take i).flatten ++ L.getD i [] := by
  rw [List.take_succ_eq_append_getElem hi, List.flatten_append, List.getD_eq_getElem?_getD, List.getElem?_eq_getElem hi]
  simp
theorem flat_take_le {L : List (List Int)} (i : Nat) : (L.take i).flatten.length ≤ L.flatten.length := by
  have h : L.flatten = (L.take i).flatten ++ (L.drop i).flatten := by rw [← List.flatten_append, List.take_append_drop]
  rw [h, List.length_append]; exact Nat.le_add_right ..
theorem cmp_isNaN_int {x : Int} : FSpec P F.cmp_isNaN_int [.d (dI x)] (.d (dB false)) := by
  refine FSpec.intro fn.cmp_isNaN_int (by rfl) (by rfl) (Nat.le_of_ble_eq_true (by rfl)) fun E hE => ?_
  refine AW.seq ?_
  refine AW.region (by rw [hE]; rfl) ?_
  refine asD rfl ?_
  refine OL.nil ?_
  refine AW.seq ?_
  refine AW.region (by rw [hE]; rfl) ?_
  refine mvD rfl ?_
  refine mvD rfl ?_
  refine c_neq rfl rfl rfl ?_
  refine asD rfl ?_
  refine OL.nil ?_
  exact AW.ret (RetQ.r ⟨_, .tmp rfl .nil, .le (by first | exact VLe.refl _ | exact VLe.mt | exact vle_q0 | exact VLe.int (by omega) | exact VLe.bool (by simp_all))⟩)
theorem cmp_Compare_int {x y : Int} : FSpec P F.cmp_Compare_int [.d (dI x), .d (dI y)] (.d (dI (cmpI x y))) := by
  refine FSpec.intro fn.cmp_Compare_int (by rfl) (by rfl) (Nat.le_of_ble_eq_true (by rfl)) fun E hE => ?_
  refine AW.seq ?_
  refine AW.region (by rw [hE]; rfl) ?_
  refine asD rfl ?_
  refine OL.nil ?_
  refine AW.seq ?_
  refine AW.region (by rw [hE]; rfl) ?_
  refine mvD rfl ?_
  refine clv rfl (.cons (VLe.refl _) (.nil)) (cmp_isNaN_int) ?_
  refine asD rfl ?_
  refine OL.nil ?_
  refine AW.seq ?_
  refine AW.region (by rw [hE]; rfl) ?_
  refine mvD rfl ?_
  refine clv rfl (.cons (VLe.refl _) (.nil)) (cmp_isNaN_int) ?_
  refine asD rfl ?_
  refine OL.nil ?_
  refine AW.seq ?_
  refine AW.seq ?_
  refine AW.region (by rw [hE]; rfl) ?_
  refine mvD rfl ?_
  refine OL.nil ?_
  refine AW.cond rfl (fun hno => absurd hno (by decide)) (fun _ => ?_)
  refine AW.skip ?_
  refine AW.seq ?_
  refine AW.seq ?_
  refine AW.region (by rw [hE]; rfl) ?_
  refine mvD rfl ?_
  refine OL.nil ?_
  refine AW.cond rfl (fun hno => absurd hno (by decide)) (fun _ => ?_)
  refine AW.skip ?_
  refine AW.seq ?_
  refine AW.seq ?_
  refine AW.region (by rw [hE]; rfl) ?_
  refine mvD rfl ?_
  refine mvD rfl ?_
  refine c_lss rfl rfl rfl ?_
  refine OL.nil ?_
  refine AW.cond rfl (fun h1 => ?_) (fun h1 => ?_)
  · have h1 := of_decide_eq_true h1
    refine AW.seq ?_
    refine AW.region (by rw [hE]; rfl) ?_
    refine asD rfl ?_
    refine OL.nil ?_
    exact AW.ret (RetQ.r ⟨_, .tmp rfl .nil, .le (VLe.int ((if_pos h1).symm))⟩)
  · have h1 := of_decide_eq_false h1
    refine AW.skip ?_
    refine AW.seq ?_
    refine AW.seq ?_
    refine AW.region (by rw [hE]; rfl) ?_
    refine mvD rfl ?_
    refine mvD rfl ?_
    refine c_gtr rfl rfl rfl ?_
    refine OL.nil ?_
    refine AW.cond rfl (fun h2 => ?_) (fun h2 => ?_)
    · have h2 := of_decide_eq_true h2
      refine AW.seq ?_
      refine AW.region (by rw [hE]; rfl) ?_
      refine asD rfl ?_
      refine OL.nil ?_
      exact AW.ret (RetQ.r ⟨_, .tmp rfl .nil, .le (VLe.int (by unfold cmpI; rw [if_neg h1, if_pos h2]))⟩)
    · have h2 := of_decide_eq_false h2
      refine AW.skip ?_
      refine AW.seq ?_
      refine AW.region (by rw [hE]; rfl) ?_
      refine asD rfl ?_
      refine OL.nil ?_
      exact AW.ret (RetQ.r ⟨_, .tmp rfl .nil, .le (VLe.int (by unfold cmpI; rw [if_neg h1, if_neg h2]))⟩)
theorem compare_ints {l m : List Int} (nl : l.length ≤ 1099511627776) : FSpec P F.slices_Compare_ints_int [.d (ints l), .d (ints m)] (.d (dI (cmpL l m))) := by
  refine FSpec.intro fn.slices_Compare_ints_int (by rfl) (by rfl) (Nat.le_of_ble_eq_true (by rfl)) fun E hE => ?_
  refine AW.seq ?_
  refine AW.region (by rw [hE]; rfl) ?_
  refine asD rfl ?_
  refine OL.nil ?_
  refine AW.seq ?_
  refine AW.seq ?_
  refine AW.region (by rw [hE]; rfl) ?_
  refine mvD rfl ?_
  refine lnL sl.ints rfl rfl ?_
  refine mvD rfl ?_
  refine OL.nil ?_
  refine AW.block ?_
  refine AW.whileK (α := Nat) [(0, _), (1, _), (9, _), (10, _)] [] (fun i => [(11, .d (dI i))]) (fun i => []) (fun i => i ≤ l.length ∧ i ≤ m.length ∧ cmpL l m = cmpL (l.drop i) (m.drop i)) (fun i => l.length - i) 0 (by repeat (first | exact Knows.nil | refine Knows.cons (by first | exact knD rfl | exact knA rfl | exact knP rfl | exact knO rfl | exact knM rfl | exact knE rfl | exact knR rfl | exact knF rfl | exact knT rfl | exact knJ) ?_)) .nil ⟨⟨Nat.zero_le _, Nat.zero_le _, rfl⟩, .cons (by first | exact VLe.refl _ | exact VLe.int (by omega) | exact VLe.mt | exact vle_q0 | exact VLe.osl | exact VLe.ptr) .nil, .nil⟩ ?_
  rintro i ⟨h1, h2, h3⟩
  have h1 : i ≤ l.length := h1
  have h2 : i ≤ m.length := h2
  have h3 : cmpL l m = cmpL (l.drop i) (m.drop i) := h3
  refine AW.seq ?_
  refine AW.region (by rw [hE]; rfl) ?_
  refine c_lss rfl rfl rfl ?_
  refine OL.nil ?_
  refine AW.seq ?_
  refine AW.cond rfl (fun h12 => ?_) (fun h12 => ?_)
  · first | (simp only [decide_eq_true_eq, decide_eq_false_iff_not, Bool.not_eq_true', Bool.not_eq_false', Bool.not_not, Bool.and_eq_true, Bool.and_eq_false_iff, Bool.or_eq_true, Bool.or_eq_false_iff] at h12) | skip
    refine AW.skip ?_
    refine AW.seq ?_
    refine AW.block ?_
    refine AW.seq ?_
    refine AW.region (by rw [hE]; rfl) ?_
    refine mvD rfl ?_
    refine ixLn sl.ints 0 rfl rfl (by omega) rfl rfl ?_
    refine ldRC ce.int rfl ?_
    refine asD rfl ?_
    refine asD rfl ?_
    refine OL.nil ?_
    refine AW.seq ?_
    refine AW.seq ?_
    refine AW.region (by rw [hE]; rfl) ?_
    refine mvD rfl ?_
    refine mvD rfl ?_
    refine lnL sl.ints rfl rfl ?_
    refine c_geq rfl rfl rfl ?_
    refine OL.nil ?_
    refine AW.cond rfl (fun hm => ?_) (fun hm => ?_)
    · have hm : m.length ≤ i := by have := of_decide_eq_true hm; omega
      refine AW.seq ?_
      refine AW.region (by rw [hE]; rfl) ?_
      refine asD rfl ?_
      refine OL.nil ?_
      exact AW.ret (RetQ.r ⟨_, .tmp rfl .nil, .le (VLe.int (by rw [h3, List.drop_eq_nil_of_le hm, List.drop_eq_getElem_cons (show i < l.length by omega), cmpL]))⟩)
    · have hm : i < m.length := by have := of_decide_eq_false hm; omega
      refine AW.skip ?_
      refine AW.seq ?_
      refine AW.region (by rw [hE]; rfl) ?_
      refine mvD rfl ?_
      refine mvD rfl ?_
      refine ixLn sl.ints 0 rfl rfl (by omega) rfl rfl ?_
      refine ldRC ce.int rfl ?_
      refine asD rfl ?_
      refine OL.nil ?_
      refine AW.seq ?_
      refine AW.region (by rw [hE]; rfl) ?_
      refine mvD rfl ?_
      refine mvD rfl ?_
      refine clv rfl (.cons (VLe.refl _) (.cons (VLe.refl _) (.nil))) (cmp_Compare_int) ?_
      refine asD rfl ?_
      refine OL.nil ?_
      refine AW.seq ?_
      refine AW.region (by rw [hE]; rfl) ?_
      refine mvD rfl ?_
      refine c_neq rfl rfl rfl ?_
      refine OL.nil ?_
      refine AW.cond rfl (fun hc => ?_) (fun hc => ?_)
      · have hc := nd_t hc
        refine AW.seq ?_
        refine AW.region (by rw [hE]; rfl) ?_
        refine mvD rfl ?_
        refine asD rfl ?_
        refine OL.nil ?_
        exact AW.ret (RetQ.r ⟨_, .tmp rfl .nil, .le (VLe.int (by rw [h3, cmpL_drop (by omega) hm, if_neg hc]))⟩)
      · have hc := nd_f hc
        refine AW.skip ?_
        refine AW.region (by rw [hE]; rfl) ?_
        refine add_i64 rfl rfl (by omega) ?_
        refine mvD rfl ?_
        refine OL.nil ?_
        exact AW.again (x := i) (i + 1) (by first | omega | (simp only []; omega)) ⟨⟨by omega, by omega, by rw [h3, cmpL_drop (by omega) (by omega), if_pos hc]⟩, Knows.app (.cons (VLe.refl _) (.cons (VLe.refl _) (.cons (VLe.refl _) (.cons (VLe.refl _) .nil)))) (.cons (by first | exact VLe.refl _ | exact VLe.int (by omega) | exact VLe.mt | exact vle_q0 | exact VLe.osl | exact VLe.ptr) .nil), .nil⟩
  · first | (simp only [decide_eq_true_eq, decide_eq_false_iff_not, Bool.not_eq_true', Bool.not_eq_false', Bool.not_not, Bool.and_eq_true, Bool.and_eq_false_iff, Bool.or_eq_true, Bool.or_eq_false_iff] at h12) | skip
    refine AW.exit ?_
    refine AW.seq ?_
    refine AW.seq ?_
    refine AW.region (by rw [hE]; rfl) ?_
    refine mvD rfl ?_
    refine lnL sl.ints rfl rfl ?_
    refine mvD rfl ?_
    refine lnL sl.ints rfl rfl ?_
    refine c_lss rfl rfl rfl ?_
    refine OL.nil ?_
    refine AW.cond rfl (fun hl => ?_) (fun hl => ?_)
    · have hl : l.length < m.length := by have := of_decide_eq_true hl; omega
      refine AW.seq ?_
      refine AW.region (by rw [hE]; rfl) ?_
      refine asD rfl ?_
      refine OL.nil ?_
      exact AW.ret (RetQ.r ⟨_, .tmp rfl .nil, .le (VLe.int (by rw [h3, List.drop_eq_nil_of_le (show l.length ≤ i by omega), List.drop_eq_getElem_cons (show i < m.length by omega), cmpL]))⟩)
    · have hl : m.length ≤ l.length := by have := of_decide_eq_false hl; omega
      refine AW.skip ?_
      refine AW.seq ?_
      refine AW.region (by rw [hE]; rfl) ?_
      refine asD rfl ?_
      refine OL.nil ?_
      exact AW.ret (RetQ.r ⟨_, .tmp rfl .nil, .le (VLe.int (by rw [h3, List.drop_eq_nil_of_le (show l.length ≤ i by omega), List.drop_eq_nil_of_le (show m.length ≤ i by omega), cmpL]))⟩)
theorem clone_ints {l : List Int} (nl : l.length ≤ 1099511627776) : FSpec P F.slices_Clone_ints_int [.d (ints l)] (.d (ints l)) := by
  refine FSpec.intro fn.slices_Clone_ints_int (by rfl) (by rfl) (Nat.le_of_ble_eq_true (by rfl)) fun E hE => ?_
  refine AW.seq ?_
  refine AW.region (by rw [hE]; rfl) ?_
  refine asM rfl ?_
  refine OL.nil ?_
  refine AW.seq ?_
  refine AW.seq ?_
  refine AW.region (by rw [hE]; rfl) ?_
  refine mvD rfl ?_
  refine isNil sl.ints.u rfl (fun y hy => by obtain ⟨a, _, rfl⟩ := List.mem_map.1 hy; exact Nat.succ_pos _) rfl fun b hb => ?_
  refine OL.nil ?_
  refine AW.cond rfl (fun h => ?_) (fun h => ?_)
  · have hL : l = [] := by have := hb h; simpa using this
    refine AW.seq ?_
    refine AW.region (by rw [hE]; rfl) ?_
    refine asM rfl ?_
    refine OL.nil ?_
    exact AW.ret (RetQ.r ⟨_, .tmp rfl .nil, .le (hL ▸ VLe.mt)⟩)
  · have _h := h
    refine AW.skip ?_
    refine AW.seq ?_
    refine AW.region (by rw [hE]; rfl) ?_
    refine lt0 sl.ints ?_
    refine mvD rfl ?_
    refine apMD sl.ints rfl rfl (VC.d _) (fun y hy => by obtain ⟨a, _, rfl⟩ := List.mem_map.1 hy; rfl) (by simp; omega) (by simp; omega) ?_
    refine asD rfl ?_
    refine OL.nil ?_
    exact AW.ret (RetQ.r ⟨_, .tmp rfl .nil, .le (by first | exact VLe.refl _ | exact VLe.mt | exact vle_q0 | exact VLe.int (by omega) | exact VLe.bool (by simp_all))⟩)
theorem clone_bools {l : List Bool} (nl : l.length ≤ 1099511627776) : FSpec P F.slices_Clone_bools_bool [.d (bools l)] (.d (bools l)) := by
  refine FSpec.intro fn.slices_Clone_bools_bool (by rfl) (by rfl) (Nat.le_of_ble_eq_true (by rfl)) fun E hE => ?_
  refine AW.seq ?_
  refine AW.region (by rw [hE]; rfl) ?_
  refine asM rfl ?_
  refine OL.nil ?_
  refine AW.seq ?_
  refine AW.seq ?_
  refine AW.region (by rw [hE]; rfl) ?_
  refine mvD rfl ?_
  refine isNil sl.bools.u rfl (fun y hy => by obtain ⟨a, _, rfl⟩ := List.mem_map.1 hy; exact Nat.succ_pos _) rfl fun b hb => ?_
  refine OL.nil ?_
  refine AW.cond rfl (fun h => ?_) (fun h => ?_)
  · have hL : l = [] := by have := hb h; simpa using this
    refine AW.seq ?_
    refine AW.region (by rw [hE]; rfl) ?_
    refine asM rfl ?_
    refine OL.nil ?_
    exact AW.ret (RetQ.r ⟨_, .tmp rfl .nil, .le (hL ▸ VLe.mt)⟩)
  · have _h := h
    refine AW.skip ?_
    refine AW.seq ?_
    refine AW.region (by rw [hE]; rfl) ?_
    refine lt0 sl.bools ?_
    refine mvD rfl ?_
    refine apMD sl.bools rfl rfl (VC.d _) (fun y hy => by obtain ⟨a, _, rfl⟩ := List.mem_map.1 hy; rfl) (by simp; omega) (by simp; omega) ?_
    refine asD rfl ?_
    refine OL.nil ?_
    exact AW.ret (RetQ.r ⟨_, .tmp rfl .nil, .le (by first | exact VLe.refl _ | exact VLe.mt | exact vle_q0 | exact VLe.int (by omega) | exact VLe.bool (by simp_all))⟩)
theorem clone_intsR {l : List Int} (nl : l.length ≤ 1099511627776) : FSpecR P F.slices_Clone_ints_int [.d (ints l)] l.length T.int 1 (l.map dI) := by
  refine FSpecR.intro fn.slices_Clone_ints_int (by rfl) (by rfl) (Nat.le_of_ble_eq_true (by rfl)) 2 rfl fun E hE => ?_
  refine AW.seq ?_
  refine AW.region (by rw [hE]; rfl) ?_
  refine asM rfl ?_
  refine OL.nil ?_
  refine AW.seq ?_
  refine AW.seq ?_
  refine AW.region (by rw [hE]; rfl) ?_
  refine mvD rfl ?_
  refine isNil sl.ints.u rfl (fun y hy => by obtain ⟨a, _, rfl⟩ := List.mem_map.1 hy; exact Nat.succ_pos _) rfl fun b hb => ?_
  refine OL.nil ?_
  refine AW.cond rfl (fun h => ?_) (fun h => ?_)
  · have hL : l = [] := by have := hb h; simpa using this
    subst hL
    refine AW.seq ?_
    refine AW.region (by rw [hE]; rfl) ?_
    refine asM rfl ?_
    refine OL.nil ?_
    refine AW.own 2 99 T.int 1 rfl rfl ?_
    exact AW.ret ⟨.inr rfl, 99, 0, 0, [], rfl, rfl, Nat.le_refl _, rfl⟩
  · have _h := h
    refine AW.skip ?_
    refine AW.seq ?_
    refine AW.region (by rw [hE]; rfl) ?_
    refine lt0 sl.ints ?_
    refine mvD rfl ?_
    refine apM sl.ints rfl rfl (VC.d _) dI_len (by simp; omega) (by simp; omega) rfl fun b7 c7 => ?_
    refine asO rfl ?_
    refine OL.nil ?_
    exact AW.ret ⟨.inr rfl, 7, b7, c7, l.map dI, by show V.osl 7 b7 (List.map dI l).length c7 = _; rw [List.length_map], rfl, by rw [List.length_map]; exact Nat.le_refl _, List.take_of_length_le (by rw [List.length_map]; exact Nat.le_refl _)⟩
theorem grow_ints {n : Nat} (hn : n ≤ 1099511627776) : FSpecR P F.slices_Grow_ints_int [.mt, .d (dI n)] 0 T.int 1 [] := by
  refine FSpecR.intro fn.slices_Grow_ints_int (by rfl) (by rfl) (Nat.le_of_ble_eq_true (by rfl)) 4 rfl fun E hE => ?_
  refine AW.seq ?_
  refine AW.region (by rw [hE]; rfl) ?_
  refine asM rfl ?_
  refine OL.nil ?_
  refine AW.seq ?_
  refine AW.seq ?_
  refine AW.region (by rw [hE]; rfl) ?_
  refine mvD rfl ?_
  refine c_lss rfl rfl rfl ?_
  refine OL.nil ?_
  refine AW.cond rfl (fun hno => absurd hno (by simp)) (fun _ => ?_)
  refine AW.skip ?_
  refine AW.seq ?_
  refine AW.seq ?_
  refine AW.region (by rw [hE]; rfl) ?_
  refine mvD rfl ?_
  refine mvM rfl ?_
  refine OL.pure (.capM rfl rfl sl.ints) ?_
  refine mvM rfl ?_
  refine lnM sl.ints rfl rfl ?_
  refine sub_i64 rfl rfl (by omega) ?_
  refine sub_i64 rfl rfl (by omega) ?_
  refine asD rfl ?_
  refine OL.nil ?_
  refine AW.seq ?_
  refine AW.region (by rw [hE]; rfl) ?_
  refine mvD rfl ?_
  refine c_gtr rfl rfl rfl ?_
  refine OL.nil ?_
  refine AW.cond rfl (fun h16 => ?_) (fun h16 => ?_)
  · first | (simp only [decide_eq_true_eq, decide_eq_false_iff_not, Bool.not_eq_true', Bool.not_eq_false', Bool.not_not, Bool.and_eq_true, Bool.and_eq_false_iff, Bool.or_eq_true, Bool.or_eq_false_iff] at h16) | skip
    refine AW.region (by rw [hE]; rfl) ?_
    refine mvM rfl ?_
    refine mvM rfl ?_
    refine OL.pure (.capM rfl rfl sl.ints) ?_
    refine OL.pure (v := .mt) (.cutM rfl sl.ints rfl ⟨.i64, rfl⟩) ?_
    refine mvD rfl ?_
    refine apZ (n := n) sl.ints it.int rfl rfl (by show V.d (D.sc (Value.int IntKind.i64 _)) = _; congr 3) (by omega) (by omega) (by omega) rfl fun b c => ?_
    refine mvM rfl ?_
    refine lnM sl.ints rfl rfl ?_
    refine slO (h := 0) sl.ints rfl rfl (Nat.zero_le _) ?_
    refine asO rfl ?_
    refine OL.nil ?_
    refine AW.seq ?_
    refine AW.region (by rw [hE]; rfl) ?_
    refine mvO rfl ?_
    refine asO rfl ?_
    refine OL.nil ?_
    exact AW.ret ⟨.inr rfl, 22, b, c, [], rfl, rfl, Nat.le_refl _, rfl⟩
  · have h16 := h16
    refine AW.own 0 99 T.int 1 rfl rfl ?_
    refine AW.skip ?_
    refine AW.seq ?_
    refine AW.region (by rw [hE]; rfl) ?_
    refine mvO rfl ?_
    refine asO rfl ?_
    refine OL.nil ?_
    exact AW.ret ⟨.inr rfl, 99, 0, 0, [], rfl, rfl, Nat.le_refl _, rfl⟩
theorem concat_ints {L : List (List Int)} (nL : L.length ≤ 1099511627776) (nF : L.flatten.length ≤ 68719476736) : FSpec P F.slices_Concat_ints_int [.d (dIss L)] (.d (ints L.flatten)) := by
  refine FSpec.intro fn.slices_Concat_ints_int (by rfl) (by rfl) (Nat.le_of_ble_eq_true (by rfl)) fun E hE => ?_
  refine AW.seq ?_
  refine AW.region (by rw [hE]; rfl) ?_
  refine asM rfl ?_
  refine OL.nil ?_
  refine AW.seq ?_
  refine AW.region (by rw [hE]; rfl) ?_
  refine asD rfl ?_
  refine OL.nil ?_
  refine AW.seq ?_
  refine AW.seq ?_
  refine AW.region (by rw [hE]; rfl) ?_
  refine mvD rfl ?_
  refine lnL sl.intss rfl rfl ?_
  refine mvD rfl ?_
  refine OL.nil ?_
  refine AW.block ?_
  refine AW.whileK (α := Nat) [(0, _), (2, _), (9, _), (10, _)] [] (fun i => [(3, .d (dI (L.take i).flatten.length)), (11, .d (dI i))]) (fun i => []) (fun i => i ≤ L.length) (fun i => L.length - i) 0 (by repeat (first | exact Knows.nil | refine Knows.cons (by first | exact knD rfl | exact knA rfl | exact knP rfl | exact knO rfl | exact knM rfl | exact knE rfl | exact knR rfl | exact knF rfl | exact knT rfl | exact knJ) ?_)) .nil ⟨Nat.zero_le _, .cons (by first | exact VLe.refl _ | exact VLe.int (by omega) | exact VLe.mt | exact vle_q0 | exact VLe.osl | exact VLe.ptr) (.cons (by first | exact VLe.refl _ | exact VLe.int (by omega) | exact VLe.mt | exact vle_q0 | exact VLe.osl | exact VLe.ptr) .nil), .nil⟩ ?_
  intro i h1
  refine AW.seq ?_
  refine AW.region (by rw [hE]; rfl) ?_
  refine c_lss rfl rfl rfl ?_
  refine OL.nil ?_
  refine AW.seq ?_
  refine AW.cond rfl (fun h12 => ?_) (fun h12 => ?_)
  · first | (simp only [decide_eq_true_eq, decide_eq_false_iff_not, Bool.not_eq_true', Bool.not_eq_false', Bool.not_not, Bool.and_eq_true, Bool.and_eq_false_iff, Bool.or_eq_true, Bool.or_eq_false_iff] at h12) | skip
    refine AW.skip ?_
    refine AW.seq ?_
    refine AW.block ?_
    refine AW.seq ?_
    refine AW.region (by rw [hE]; rfl) ?_
    refine ixLn sl.intss [] rfl rfl (by omega) rfl rfl ?_
    refine ldRC ce.ints rfl ?_
    refine asD rfl ?_
    refine OL.nil ?_
    refine AW.seq ?_
    have hle := flat_take_le (L := L) (i + 1)
    rw [flat_take_succ (by omega), List.length_append] at hle
    refine AW.region (by rw [hE]; rfl) ?_
    refine mvD rfl ?_
    refine mvD rfl ?_
    refine lnL sl.ints rfl rfl ?_
    refine add_i64 rfl rfl (by omega) ?_
    refine asD rfl ?_
    refine OL.nil ?_
    refine AW.seq ?_
    refine AW.region (by rw [hE]; rfl) ?_
    refine mvD rfl ?_
    refine c_lss rfl rfl rfl ?_
    refine OL.nil ?_
    refine AW.cond rfl (fun hno => absurd hno (by simp; omega)) (fun _ => ?_)
    refine AW.skip ?_
    refine AW.region (by rw [hE]; rfl) ?_
    refine add_i64 rfl rfl (by omega) ?_
    refine mvD rfl ?_
    refine OL.nil ?_
    exact AW.again (x := i) (i + 1) (by first | omega | (simp only []; omega)) ⟨by omega, Knows.app (.cons (VLe.refl _) (.cons (VLe.refl _) (.cons (VLe.refl _) (.cons (VLe.refl _) .nil)))) (.cons (VLe.int (by rw [flat_take_succ (by omega), List.length_append]; omega)) (.cons (by first | exact VLe.refl _ | exact VLe.int (by omega) | exact VLe.mt | exact vle_q0 | exact VLe.osl | exact VLe.ptr) .nil)), .nil⟩
  · first | (simp only [decide_eq_true_eq, decide_eq_false_iff_not, Bool.not_eq_true', Bool.not_eq_false', Bool.not_not, Bool.and_eq_true, Bool.and_eq_false_iff, Bool.or_eq_true, Bool.or_eq_false_iff] at h12) | skip
    refine AW.exit ?_
    refine AW.seq ?_
    obtain rfl : i = L.length := by omega
    rw [List.take_length]
    refine AW.region (by rw [hE]; rfl) ?_
    refine mvD rfl ?_
    refine clR rfl (.cons (VLe.refl _) (.cons (VLe.refl _) .nil)) (grow_ints (n := L.flatten.length) (by omega)) rfl fun b24 c24 => ?_
    refine asO rfl ?_
    refine OL.nil ?_
    refine AW.seq ?_
    refine AW.seq ?_
    refine AW.region (by rw [hE]; rfl) ?_
    refine mvD rfl ?_
    refine lnL sl.intss rfl rfl ?_
    refine mvD rfl ?_
    refine OL.nil ?_
    refine AW.block ?_
    refine AW.rename 24 33 rfl ?_
    refine AW.whileK (α := Nat × Nat × Nat) [(2, _), (25, _), (26, _)] [] (fun (i, b, c) => [(6, .osl 33 b (L.take i).flatten.length c), (27, .d (dI i))]) (fun (i, b, c) => [(33, .row b c T.int 1 ((L.take i).flatten.map dI))]) (fun (i, b, c) => i ≤ L.length) (fun (i, b, c) => L.length - i) (0, b24, c24) (by repeat (first | exact Knows.nil | refine Knows.cons (by first | exact knD rfl | exact knA rfl | exact knP rfl | exact knO rfl | exact knM rfl | exact knE rfl | exact knR rfl | exact knF rfl | exact knT rfl | exact knJ) ?_)) .nil ⟨Nat.zero_le _, .cons (by first | exact VLe.refl _ | exact VLe.int (by omega) | exact VLe.mt | exact vle_q0 | exact VLe.osl | exact VLe.ptr) (.cons (by first | exact VLe.refl _ | exact VLe.int (by omega) | exact VLe.mt | exact vle_q0 | exact VLe.osl | exact VLe.ptr) .nil), .cons rfl .nil⟩ ?_
    rintro ⟨i, b, c⟩ h1
    refine AW.seq ?_
    refine AW.region (by rw [hE]; rfl) ?_
    refine c_lss rfl rfl rfl ?_
    refine OL.nil ?_
    refine AW.seq ?_
    refine AW.cond rfl (fun h28 => ?_) (fun h28 => ?_)
    · first | (simp only [decide_eq_true_eq, decide_eq_false_iff_not, Bool.not_eq_true', Bool.not_eq_false', Bool.not_not, Bool.and_eq_true, Bool.and_eq_false_iff, Bool.or_eq_true, Bool.or_eq_false_iff] at h28) | skip
      refine AW.skip ?_
      refine AW.seq ?_
      refine AW.block ?_
      refine AW.seq ?_
      refine AW.region (by rw [hE]; rfl) ?_
      refine ixLn sl.intss [] rfl rfl (by omega) rfl rfl ?_
      refine ldRC ce.ints rfl ?_
      refine asD rfl ?_
      refine OL.nil ?_
      have hle := flat_take_le (L := L) (i + 1)
      rw [flat_take_succ (by omega), List.length_append] at hle
      refine AW.region (by rw [hE]; rfl) ?_
      refine mvO rfl ?_
      refine mvD rfl ?_
      refine apO sl.ints rfl rfl rfl (by rw [List.length_map]) (VC.d _) dI_len (by rw [List.length_map]; omega) (by rw [List.length_map]; omega) (.inr rfl) (ys := ((L.take i).flatten ++ L.getD i []).map dI) (by rw [List.map_append]) (n2 := ((L.take i).flatten ++ L.getD i []).length) (by rw [List.length_map, List.length_append]) fun b2 c2 => ?_
      refine asO rfl ?_
      refine OL.nil ?_
      refine AW.region (by rw [hE]; rfl) ?_
      refine add_i64 rfl rfl (by omega) ?_
      refine mvD rfl ?_
      refine OL.nil ?_
      exact AW.again (x := (i, b, c)) (i + 1, b2, c2) (by first | omega | (simp only []; omega)) ⟨by omega, Knows.app (.cons (VLe.refl _) (.cons (VLe.refl _) (.cons (VLe.refl _) .nil))) (.cons (by rw [flat_take_succ (by omega)]; exact VLe.refl _) (.cons (by first | exact VLe.refl _ | exact VLe.int (by omega) | exact VLe.mt | exact vle_q0 | exact VLe.osl | exact VLe.ptr) .nil)), .cons (by rw [flat_take_succ (by omega)]; rfl) .nil⟩
    · first | (simp only [decide_eq_true_eq, decide_eq_false_iff_not, Bool.not_eq_true', Bool.not_eq_false', Bool.not_not, Bool.and_eq_true, Bool.and_eq_false_iff, Bool.or_eq_true, Bool.or_eq_false_iff] at h28) | skip
      refine AW.exit ?_
      refine AW.seq ?_
      obtain rfl : i = L.length := by omega
      refine AW.freeze 33 rfl (AW.to [(6, .d (ints L.flatten))] [] (.cons (frz_osl (by rw [List.length_map]) (by rw [List.take_length])) .nil) .nil ?_)
      refine AW.region (by rw [hE]; rfl) ?_
      refine mvD rfl ?_
      refine asD rfl ?_
      refine OL.nil ?_
      exact AW.ret (RetQ.r ⟨_, .tmp rfl .nil, .le (by first | exact VLe.refl _ | exact VLe.mt | exact vle_q0 | exact VLe.int (by omega) | exact VLe.bool (by simp_all))⟩)
theorem list_range_getD {α : Type} (l : List α) (d : α) : (List.range l.length).map (fun j => l.getD j d) = l := by
  refine List.ext_getElem (by simp) fun k h1 h2 => ?_
  simp [List.getD_eq_getElem?_getD, List.getElem?_eq_getElem h2]
theorem fresh_eachRat {l : List (Rat)} {C : Nat} (hl : Small C l) (hC : 1 ≤ C ∧ C ≤ 68719476736) (nl : l.length ≤ 1048576) : FSpec P F.fresh_each_Rat [.d (dQs l), .fn F.fresh_Rat []] (.d (dQs l)) := by
  refine FSpec.intro fn.fresh_each_Rat (by rfl) (by rfl) (Nat.le_of_ble_eq_true (by rfl)) fun E hE => ?_
  refine AW.seq ?_
  refine AW.region (by rw [hE]; rfl) ?_
  refine asM rfl ?_
  refine OL.nil ?_
  refine AW.seq ?_
  refine AW.seq ?_
  refine AW.region (by rw [hE]; rfl) ?_
  refine mvD rfl ?_
  refine isNil sl.Rats.u rfl (fun y hy => by obtain ⟨a, _, rfl⟩ := List.mem_map.1 hy; exact Nat.succ_pos _) rfl fun b hb => ?_
  refine OL.nil ?_
  refine AW.cond rfl (fun h => ?_) (fun h => ?_)
  · have hL : l = [] := by have := hb h; simpa using this
    refine AW.seq ?_
    refine AW.region (by rw [hE]; rfl) ?_
    refine asM rfl ?_
    refine OL.nil ?_
    exact AW.ret (RetQ.r ⟨_, .tmp rfl .nil, .le (hL ▸ VLe.mt)⟩)
  · have _h := h
    refine AW.skip ?_
    refine AW.seq ?_
    refine AW.region (by rw [hE]; rfl) ?_
    refine mvD rfl ?_
    refine lnL sl.Rats rfl rfl ?_
    refine mkL dQ 0 sl.Rats z.Rat vcs_q0 rfl rfl (Nat.le_refl _) (by omega) (by omega) rfl fun b12 => ?_
    refine asO rfl ?_
    refine OL.nil ?_
    refine AW.seq ?_
    refine AW.seq ?_
    refine AW.region (by rw [hE]; rfl) ?_
    refine mvD rfl ?_
    refine lnL sl.Rats rfl rfl ?_
    refine mvD rfl ?_
    refine OL.nil ?_
    refine AW.block ?_
    refine AW.whileK (α := Nat) [(1, _), (4, _), (5, _), (13, _), (14, _)] [] (fun i => [(15, .d (dI i))]) (fun i => [(12, .row b12 l.length T.Rat 3 ((fillF 0 (fun j => l.getD j 0) l.length i).map dQ))]) (fun i => i ≤ l.length) (fun i => l.length - i) 0 (by repeat (first | exact Knows.nil | refine Knows.cons (by first | exact knD rfl | exact knA rfl | exact knP rfl | exact knO rfl | exact knM rfl | exact knE rfl | exact knR rfl | exact knF rfl | exact knT rfl | exact knJ) ?_)) .nil ⟨Nat.zero_le _, .cons (by first | exact VLe.refl _ | exact VLe.int (by omega) | exact VLe.mt | exact vle_q0 | exact VLe.osl | exact VLe.ptr) .nil, .cons (by rw [fillF_zero]; rfl) .nil⟩ ?_
    intro i h1
    have h1 : i ≤ l.length := h1
    have hfl := fillF_len 0 (fun j => l.getD j 0) l.length i
    refine AW.seq ?_
    refine AW.region (by rw [hE]; rfl) ?_
    refine c_lss rfl rfl rfl ?_
    refine OL.nil ?_
    refine AW.seq ?_
    refine AW.cond rfl (fun h16 => ?_) (fun h16 => ?_)
    · first | (simp only [decide_eq_true_eq, decide_eq_false_iff_not, Bool.not_eq_true', Bool.not_eq_false', Bool.not_not, Bool.and_eq_true, Bool.and_eq_false_iff, Bool.or_eq_true, Bool.or_eq_false_iff] at h16) | skip
      refine AW.skip ?_
      refine AW.seq ?_
      refine AW.block ?_
      refine AW.seq ?_
      refine AW.region (by rw [hE]; rfl) ?_
      refine mvD rfl ?_
      refine ixLn sl.Rats 0 rfl rfl (by omega) rfl rfl ?_
      refine ldRA ag.Rat rfl (vs := [_, _, _]) rfl (Nat.le_of_ble_eq_true rfl) ?_
      refine al z.Rat rfl fun b7 => ?_
      refine asD rfl ?_
      refine sto sz.Rat rfl rfl rfl rfl rfl (Nat.le_of_ble_eq_true rfl) (cells2 := [_, _, _]) rfl ?_
      refine OL.nil ?_
      refine AW.region (by rw [hE]; rfl) ?_
      refine mvO rfl ?_
      refine mvD rfl ?_
      refine mvF rfl ?_
      refine ldPA ag.Rat rfl rfl (vs := [_, _, _]) rfl (Nat.le_of_ble_eq_true rfl) ?_
      refine clv rfl (.cons (VLe.refl _) (.nil)) (fresh_Rat (Nat.le_trans (hl.get hC.1 i) hC.2)) ?_
      refine ixOn sl.Rats rfl rfl (by omega) ?_
      refine stE sz.Rat rfl vd_q rfl rfl (by rw [List.length_map]; omega) (es2 := (fillF 0 (fun j => l.getD j 0) l.length (i + 1)).map dQ) (by rw [← fillF_set (show i < l.length by omega), List.map_set]) ?_
      refine OL.nil ?_
      refine AW.region (by rw [hE]; rfl) ?_
      refine add_i64 rfl rfl (by omega) ?_
      refine mvD rfl ?_
      refine OL.nil ?_
      exact AW.again (x := i) (i + 1) (by first | omega | (simp only []; omega)) ⟨by omega, Knows.app (.cons (VLe.refl _) (.cons (VLe.refl _) (.cons (VLe.refl _) (.cons (VLe.refl _) (.cons (VLe.refl _) .nil))))) (.cons (by first | exact VLe.refl _ | exact VLe.int (by omega) | exact VLe.mt | exact vle_q0 | exact VLe.osl | exact VLe.ptr) .nil), .cons rfl .nil⟩
    · first | (simp only [decide_eq_true_eq, decide_eq_false_iff_not, Bool.not_eq_true', Bool.not_eq_false', Bool.not_not, Bool.and_eq_true, Bool.and_eq_false_iff, Bool.or_eq_true, Bool.or_eq_false_iff] at h16) | skip
      refine AW.exit ?_
      refine AW.seq ?_
      obtain rfl : i = l.length := by omega
      have hfr : (List.range l.length).map (fun j => l.getD j 0) = l := list_range_getD l 0
      refine AW.freeze 12 rfl (AW.to [(5, .d (dQs l))] [] (.cons (frz_osl (by rw [List.length_map, fillF_len]) (by rw [fillF_all, hfr])) .nil) .nil ?_)
      refine AW.region (by rw [hE]; rfl) ?_
      refine mvD rfl ?_
      refine asD rfl ?_
      refine OL.nil ?_
      exact AW.ret (RetQ.r ⟨_, .tmp rfl .nil, .le (by first | exact VLe.refl _ | exact VLe.mt | exact vle_q0 | exact VLe.int (by omega) | exact VLe.bool (by simp_all))⟩)
theorem fresh_Rats {l : List (Rat)} {C : Nat} (hl : Small C l) (hC : 1 ≤ C ∧ C ≤ 68719476736) (nl : l.length ≤ 1048576) : FSpec P F.fresh_Rats [.d (dQs l)] (.d (dQs l)) := by
  refine FSpec.intro fn.fresh_Rats (by rfl) (by rfl) (Nat.le_of_ble_eq_true (by rfl)) fun E hE => ?_
  refine AW.seq ?_
  refine AW.region (by rw [hE]; rfl) ?_
  refine asM rfl ?_
  refine OL.nil ?_
  refine AW.seq ?_
  refine AW.region (by rw [hE]; rfl) ?_
  refine mvD rfl ?_
  refine clv rfl (.cons (VLe.refl _) (.cons (VLe.refl _) (.nil))) (fresh_eachRat hl hC nl) ?_
  refine asD rfl ?_
  refine OL.nil ?_
  exact AW.ret (RetQ.r ⟨_, .tmp rfl .nil, .le (by first | exact VLe.refl _ | exact VLe.mt | exact vle_q0 | exact VLe.int (by omega) | exact VLe.bool (by simp_all))⟩)
theorem fresh_eachRats {l : List (List Rat)} {C : Nat} (hl : ∀ i, Small C (l.getD i []) ∧ (l.getD i []).length ≤ 1048576) (hC : 1 ≤ C ∧ C ≤ 68719476736) (nl : l.length ≤ 1048576) : FSpec P F.fresh_each_Rats [.d (dQss l), .fn F.fresh_Rats []] (.d (dQss l)) := by
  refine FSpec.intro fn.fresh_each_Rats (by rfl) (by rfl) (Nat.le_of_ble_eq_true (by rfl)) fun E hE => ?_
  refine AW.seq ?_
  refine AW.region (by rw [hE]; rfl) ?_
  refine asM rfl ?_
  refine OL.nil ?_
  refine AW.seq ?_
  refine AW.seq ?_
  refine AW.region (by rw [hE]; rfl) ?_
  refine mvD rfl ?_
  refine isNil sl.Ratss.u rfl (fun y hy => by obtain ⟨a, _, rfl⟩ := List.mem_map.1 hy; exact Nat.succ_pos _) rfl fun b hb => ?_
  refine OL.nil ?_
  refine AW.cond rfl (fun h => ?_) (fun h => ?_)
  · have hL : l = [] := by have := hb h; simpa using this
    refine AW.seq ?_
    refine AW.region (by rw [hE]; rfl) ?_
    refine asM rfl ?_
    refine OL.nil ?_
    exact AW.ret (RetQ.r ⟨_, .tmp rfl .nil, .le (hL ▸ VLe.mt)⟩)
  · have _h := h
    refine AW.skip ?_
    refine AW.seq ?_
    refine AW.region (by rw [hE]; rfl) ?_
    refine mvD rfl ?_
    refine lnL sl.Ratss rfl rfl ?_
    refine mkL dQs [] sl.Ratss z.Rats vcs_mt_rowF rfl rfl (Nat.le_refl _) (by omega) (by omega) rfl fun b12 => ?_
    refine asO rfl ?_
    refine OL.nil ?_
    refine AW.seq ?_
    refine AW.seq ?_
    refine AW.region (by rw [hE]; rfl) ?_
    refine mvD rfl ?_
    refine lnL sl.Ratss rfl rfl ?_
    refine mvD rfl ?_
    refine OL.nil ?_
    refine AW.block ?_
    refine AW.whileK (α := Nat) [(1, _), (4, _), (5, _), (13, _), (14, _)] [] (fun i => [(15, .d (dI i))]) (fun i => [(12, .row b12 l.length T.Rats 1 ((fillF [] (fun j => l.getD j []) l.length i).map dQs))]) (fun i => i ≤ l.length) (fun i => l.length - i) 0 (by repeat (first | exact Knows.nil | refine Knows.cons (by first | exact knD rfl | exact knA rfl | exact knP rfl | exact knO rfl | exact knM rfl | exact knE rfl | exact knR rfl | exact knF rfl | exact knT rfl | exact knJ) ?_)) .nil ⟨Nat.zero_le _, .cons (by first | exact VLe.refl _ | exact VLe.int (by omega) | exact VLe.mt | exact vle_q0 | exact VLe.osl | exact VLe.ptr) .nil, .cons (by rw [fillF_zero]; rfl) .nil⟩ ?_
    intro i h1
    have h1 : i ≤ l.length := h1
    have hfl := fillF_len [] (fun j => l.getD j []) l.length i
    refine AW.seq ?_
    refine AW.region (by rw [hE]; rfl) ?_
    refine c_lss rfl rfl rfl ?_
    refine OL.nil ?_
    refine AW.seq ?_
    refine AW.cond rfl (fun h16 => ?_) (fun h16 => ?_)
    · first | (simp only [decide_eq_true_eq, decide_eq_false_iff_not, Bool.not_eq_true', Bool.not_eq_false', Bool.not_not, Bool.and_eq_true, Bool.and_eq_false_iff, Bool.or_eq_true, Bool.or_eq_false_iff] at h16) | skip
      refine AW.skip ?_
      refine AW.seq ?_
      refine AW.block ?_
      refine AW.seq ?_
      refine AW.region (by rw [hE]; rfl) ?_
      refine mvD rfl ?_
      refine ixLn sl.Ratss [] rfl rfl (by omega) rfl rfl ?_
      refine ldRC ce.Rats rfl ?_
      refine asD rfl ?_
      refine asD rfl ?_
      refine OL.nil ?_
      refine AW.region (by rw [hE]; rfl) ?_
      refine mvO rfl ?_
      refine mvD rfl ?_
      refine mvF rfl ?_
      refine mvD rfl ?_
      refine clv rfl (.cons (VLe.refl _) (.nil)) (fresh_Rats (hl i).1 hC (hl i).2) ?_
      refine ixOn sl.Ratss rfl rfl (by omega) ?_
      refine stE sz.Rats rfl (VC.d _).vd rfl rfl (by rw [List.length_map]; omega) (es2 := (fillF [] (fun j => l.getD j []) l.length (i + 1)).map dQs) (by rw [← fillF_set (show i < l.length by omega), List.map_set]) ?_
      refine OL.nil ?_
      refine AW.region (by rw [hE]; rfl) ?_
      refine add_i64 rfl rfl (by omega) ?_
      refine mvD rfl ?_
      refine OL.nil ?_
      exact AW.again (x := i) (i + 1) (by first | omega | (simp only []; omega)) ⟨by omega, Knows.app (.cons (VLe.refl _) (.cons (VLe.refl _) (.cons (VLe.refl _) (.cons (VLe.refl _) (.cons (VLe.refl _) .nil))))) (.cons (by first | exact VLe.refl _ | exact VLe.int (by omega) | exact VLe.mt | exact vle_q0 | exact VLe.osl | exact VLe.ptr) .nil), .cons rfl .nil⟩
    · first | (simp only [decide_eq_true_eq, decide_eq_false_iff_not, Bool.not_eq_true', Bool.not_eq_false', Bool.not_not, Bool.and_eq_true, Bool.and_eq_false_iff, Bool.or_eq_true, Bool.or_eq_false_iff] at h16) | skip
      refine AW.exit ?_
      refine AW.seq ?_
      obtain rfl : i = l.length := by omega
      have hfr : (List.range l.length).map (fun j => l.getD j []) = l := list_range_getD l []
      refine AW.freeze 12 rfl (AW.to [(5, .d (dQss l))] [] (.cons (frz_osl (by rw [List.length_map, fillF_len]) (by rw [fillF_all, hfr])) .nil) .nil ?_)
      refine AW.region (by rw [hE]; rfl) ?_
      refine mvD rfl ?_
      refine asD rfl ?_
      refine OL.nil ?_
      exact AW.ret (RetQ.r ⟨_, .tmp rfl .nil, .le (by first | exact VLe.refl _ | exact VLe.mt | exact vle_q0 | exact VLe.int (by omega) | exact VLe.bool (by simp_all))⟩)
theorem fresh_Rows {l : List (List Rat)} {C : Nat} (hl : ∀ i, Small C (l.getD i []) ∧ (l.getD i []).length ≤ 1048576) (hC : 1 ≤ C ∧ C ≤ 68719476736) (nl : l.length ≤ 1048576) : FSpec P F.fresh_Rows [.d (dQss l)] (.d (dQss l)) := by
  refine FSpec.intro fn.fresh_Rows (by rfl) (by rfl) (Nat.le_of_ble_eq_true (by rfl)) fun E hE => ?_
  refine AW.seq ?_
  refine AW.region (by rw [hE]; rfl) ?_
  refine asM rfl ?_
  refine OL.nil ?_
  refine AW.seq ?_
  refine AW.region (by rw [hE]; rfl) ?_
  refine mvD rfl ?_
  refine clv rfl (.cons (VLe.refl _) (.cons (VLe.refl _) (.nil))) (fresh_eachRats hl hC nl) ?_
  refine asD rfl ?_
  refine OL.nil ?_
  exact AW.ret (RetQ.r ⟨_, .tmp rfl .nil, .le (by first | exact VLe.refl _ | exact VLe.mt | exact vle_q0 | exact VLe.int (by omega) | exact VLe.bool (by simp_all))⟩)
theorem row_small {l : List (List Rat)} {n m C : Nat} (hl : l.length = n) (hr : ∀ i, i < n → (l.getD i []).length = m) (hz : ∀ i, Small C (l.getD i [])) (hm : m ≤ 1048576) (i : Nat) : Small C (l.getD i []) ∧ (l.getD i []).length ≤ 1048576 := by
  refine ⟨hz i, ?_⟩
  rcases Nat.lt_or_ge i n with h | h
  · rw [hr i h]; exact hm
  · rw [getD_ge (by omega)]; exact Nat.zero_le _
set_option maxRecDepth 6000 in
set_option maxHeartbeats 3200000 in
theorem fresh_Hidden {h : HM} {B : Nat} (f : h.Form B) : FSpec P F.fresh_Hidden [vHM h] (vHM h) := by
  have n1 := f.st1
  have s1 := f.sym1
  have e1 := f.ini
  have e2 := f.trans
  have e3 := f.stop
  have e4 := f.emit
  have e5 := f.ties
  have e6 : h.silent.length = h.st := by rw [f.silent]; simp
  have hb1 := f.b1
  have bB := f.bB
  have zE := f.zE
  refine FSpec.intro fn.fresh_Hidden (by rfl) (by rfl) (Nat.le_of_ble_eq_true (by rfl)) fun E hE => ?_
  refine AW.seq ?_
  refine AW.region (by rw [hE]; rfl) ?_
  refine bxA rfl rfl fun b1 => ?_
  refine al z.Hidden rfl fun b2 => ?_
  refine OL.nil ?_
  refine AW.seq ?_
  refine AW.region_draw 1 [0, 1, 2, 3, 4, 5, 6, 7, 8, 9, 10, 11, 12, 13, 14, 15, 16, 17, 18, 19, 20, 21, 22, 23, 24, 25, 26] order_free (by rw [hE]; rfl) (by kernel_rfl) (OI.of_OL (os := [_, _, _, _, _, _, _, _, _, _, _, _, _, _, _, _, _, _, _, _, _, _, _, _, _, _, _]) rfl ?_)
  refine faP fd.Hidden_0 rfl rfl ?_
  refine ldPC ce.int rfl rfl rfl ?_
  refine faP fd.Hidden_1 rfl rfl ?_
  refine ldPC ce.int rfl rfl rfl ?_
  refine faP fd.Hidden_2 rfl rfl ?_
  refine ldPA ag.Rat rfl rfl (vs := [_, _, _]) rfl (Nat.le_of_ble_eq_true rfl) ?_
  refine clv rfl (.cons (VLe.refl _) (.nil)) (fresh_Rat (q := h.empty) (by omega)) ?_
  refine faP fd.Hidden_3 rfl rfl ?_
  refine ldPC ce.Rats rfl rfl rfl ?_
  refine clv rfl (.cons (VLe.refl _) (.nil)) (fresh_Rats f.zI ⟨hb1, by omega⟩ (by omega)) ?_
  refine faP fd.Hidden_4 rfl rfl ?_
  refine ldPC ce.Ratss rfl rfl rfl ?_
  refine clv rfl (.cons (VLe.refl _) (.nil)) (fresh_Rows (row_small f.trans f.trow f.zT (by omega)) ⟨hb1, by omega⟩ (by omega)) ?_
  refine faP fd.Hidden_5 rfl rfl ?_
  refine ldPC ce.Rats rfl rfl rfl ?_
  refine clv rfl (.cons (VLe.refl _) (.nil)) (fresh_Rats f.zS ⟨hb1, by omega⟩ (by omega)) ?_
  refine faP fd.Hidden_6 rfl rfl ?_
  refine ldPC ce.Ratss rfl rfl rfl ?_
  refine clv rfl (.cons (VLe.refl _) (.nil)) (fresh_Rows (row_small f.emit f.erow f.zM (by omega)) ⟨hb1, by omega⟩ (by omega)) ?_
  refine faP fd.Hidden_7 rfl rfl ?_
  refine ldPC ce.bools rfl rfl rfl ?_
  refine clv rfl (.cons (VLe.refl _) (.nil)) (clone_bools (by omega)) ?_
  refine faP fd.Hidden_8 rfl rfl ?_
  refine ldPC ce.ints rfl rfl rfl ?_
  refine clv rfl (.cons (VLe.refl _) (.nil)) (clone_ints (by omega)) ?_
  refine bd2 (cs := [_, _, _, _, _, _, _, _, _, _, _]) z.Hidden pl.Hidden (pvC (by first | exact evD rfl | exact evA rfl | exact evM rfl | exact evO rfl | exact evP rfl) (pvC (by first | exact evD rfl | exact evA rfl | exact evM rfl | exact evO rfl | exact evP rfl) (pvC (by first | exact evD rfl | exact evA rfl | exact evM rfl | exact evO rfl | exact evP rfl) (pvC (by first | exact evD rfl | exact evA rfl | exact evM rfl | exact evO rfl | exact evP rfl) (pvC (by first | exact evD rfl | exact evA rfl | exact evM rfl | exact evO rfl | exact evP rfl) (pvC (by first | exact evD rfl | exact evA rfl | exact evM rfl | exact evO rfl | exact evP rfl) (pvC (by first | exact evD rfl | exact evA rfl | exact evM rfl | exact evO rfl | exact evP rfl) (pvC (by first | exact evD rfl | exact evA rfl | exact evM rfl | exact evO rfl | exact evP rfl) (pvC (by first | exact evD rfl | exact evA rfl | exact evM rfl | exact evO rfl | exact evP rfl) (pvN)))))))))) (by rfl) ?_
  refine sto sz.Hidden rfl rfl rfl rfl rfl (Nat.le_of_ble_eq_true rfl) (cells2 := [_, _, _, _, _, _, _, _, _, _, _]) rfl ?_
  refine OL.nil ?_
  exact AW.ret (RetQ.r ⟨_, .cellA rfl rfl ag.Hidden (Nat.le_of_ble_eq_true rfl) .nil, .ag (.cons (.le (by first | exact VLe.refl _ | exact VLe.mt | exact vle_q0 | exact VLe.int (by omega) | exact VLe.bool (by simp_all))) (.cons (.le (by first | exact VLe.refl _ | exact VLe.mt | exact vle_q0 | exact VLe.int (by omega) | exact VLe.bool (by simp_all))) (.cons (.le (by first | exact VLe.refl _ | exact VLe.mt | exact vle_q0 | exact VLe.int (by omega) | exact VLe.bool (by simp_all))) (.cons (.le (by first | exact VLe.refl _ | exact VLe.mt | exact vle_q0 | exact VLe.int (by omega) | exact VLe.bool (by simp_all))) (.cons (.le (by first | exact VLe.refl _ | exact VLe.mt | exact vle_q0 | exact VLe.int (by omega) | exact VLe.bool (by simp_all))) (.cons (.le (by first | exact VLe.refl _ | exact VLe.mt | exact vle_q0 | exact VLe.int (by omega) | exact VLe.bool (by simp_all))) (.cons (.le (by first | exact VLe.refl _ | exact VLe.mt | exact vle_q0 | exact VLe.int (by omega) | exact VLe.bool (by simp_all))) (.cons (.le (by first | exact VLe.refl _ | exact VLe.mt | exact vle_q0 | exact VLe.int (by omega) | exact VLe.bool (by simp_all))) (.cons (.le (by first | exact VLe.refl _ | exact VLe.mt | exact vle_q0 | exact VLe.int (by omega) | exact VLe.bool (by simp_all))) (.cons (.le (by first | exact VLe.refl _ | exact VLe.mt | exact vle_q0 | exact VLe.int (by omega) | exact VLe.bool (by simp_all))) (.cons (.le (by first | exact VLe.refl _ | exact VLe.mt | exact vle_q0 | exact VLe.int (by omega) | exact VLe.bool (by simp_all))) .nil)))))))))))⟩)
end Go.Proofs.YtcebciggodhmcaaGreat

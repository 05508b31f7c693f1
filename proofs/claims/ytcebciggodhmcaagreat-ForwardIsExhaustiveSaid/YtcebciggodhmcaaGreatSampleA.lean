/-
  Walks of drawings, part 1: words, intervals (printed by mk2.py).
-/
import Derived.Test.YtcebciggodhmcaaGreatMade
import Derived.Test.YtcebciggodhmcaaGreatMod40b
set_option linter.unusedVariables false
set_option linter.unusedSimpArgs false
namespace Go.Proofs.YtcebciggodhmcaaGreat
open Go Go.AL
abbrev vSpan (s : Span) : V := .ag [.d (dB (ofQ s.lo).neg), .d (u32s (ofQ s.lo).num), .d (u32s (ofQ s.lo).den), .d (dB (ofQ s.len).neg), .d (u32s (ofQ s.len).num), .d (u32s (ofQ s.len).den)]
abbrev cellsSpan (s : Span) : List V := [.d (dB (ofQ s.lo).neg), .d (u32s (ofQ s.lo).num), .d (u32s (ofQ s.lo).den), .d (dB (ofQ s.len).neg), .d (u32s (ofQ s.len).num), .d (u32s (ofQ s.len).den)]
abbrev vDrawn (s w : List Int) (u : Int) : V := .ag [.d (ints s), .d (ints w), .d (dI u)]

theorem law40_coins {l : List Int} {most : Nat} (hm : most ≤ 1000000) : FSpec P F.law40_coins [.d (ints l), .d (dI most)] (.d (ints (coinsF l most))) := by
  refine FSpec.intro fn.law40_coins (by rfl) (by rfl) (Nat.le_of_ble_eq_true (by rfl)) fun E hE => ?_
  refine AW.seq ?_
  refine AW.region (by rw [hE]; rfl) ?_
  refine asM rfl ?_
  refine OL.nil ?_
  refine AW.seq ?_
  refine AW.region (by rw [hE]; rfl) ?_
  refine asM rfl ?_
  refine OL.nil ?_
  refine AW.seq ?_
  refine AW.seq ?_
  refine AW.region (by rw [hE]; rfl) ?_
  refine asD rfl ?_
  refine OL.nil ?_
  refine AW.own 5 25 T.int 1 rfl rfl ?_
  refine AW.block ?_
  refine AW.whileK (α := Nat × Nat × Nat) [(0, _), (1, _), (4, _)] [] (fun (i, b, c) => [(5, .osl 25 b i c), (6, .d (dI i))]) (fun (i, b, c) => [(25, .row b c T.int 1 ((coinsF l i).map dI))]) (fun (i, b, c) => i ≤ l.length ∧ i ≤ most) (fun (i, b, c) => most - i) (0, 0, 0) (by repeat (first | exact Knows.nil | refine Knows.cons (by first | exact knD rfl | exact knA rfl | exact knP rfl | exact knO rfl | exact knM rfl | exact knE rfl | exact knR rfl | exact knF rfl | exact knT rfl | exact knJ) ?_)) .nil ⟨⟨Nat.zero_le _, Nat.zero_le _⟩, .cons (by first | exact VLe.refl _ | exact VLe.int (by omega) | exact VLe.mt | exact vle_q0 | exact VLe.osl | exact VLe.ptr) (.cons (by first | exact VLe.refl _ | exact VLe.int (by omega) | exact VLe.mt | exact vle_q0 | exact VLe.osl | exact VLe.ptr) .nil), .cons rfl .nil⟩ ?_
  rintro ⟨i, b, c⟩ ⟨h1, h2⟩
  have h1 : i ≤ l.length := h1
  have h2 : i ≤ most := h2
  have hcl : (coinsF l i).length = i := by simp [coinsF]; omega
  refine AW.seq ?_
  refine AW.seq ?_
  refine AW.region (by rw [hE]; rfl) ?_
  refine mvD rfl ?_
  first | refine mvD rfl ?_ | refine mvO rfl ?_ | refine mvM rfl ?_
  first | refine lnL sl.ints rfl rfl ?_ | refine lnO sl.ints rfl rfl ?_ | refine lnM sl.ints rfl rfl ?_ | refine lnD sl.ints rfl rfl rfl ?_
  refine c_lss rfl rfl rfl ?_
  refine mvD rfl ?_
  refine OL.split 11 rfl (fun g11 => ?_) (fun g11 => ?_)
  · first | (simp only [decide_eq_true_eq, decide_eq_false_iff_not, Bool.not_eq_true', Bool.not_eq_false', Bool.not_not, Bool.and_eq_true, Bool.and_eq_false_iff, Bool.or_eq_true, Bool.or_eq_false_iff] at g11) | skip
    refine OL.yes rfl ?_
    refine mvD rfl ?_
    refine OL.yes rfl ?_
    refine mvD rfl ?_
    refine OL.yes rfl ?_
    refine c_lss rfl rfl rfl ?_
    refine pkT rfl rfl ?_
    refine OL.nil ?_
    refine AW.cond rfl (fun hc => ?_) (fun hc => ?_)
    · first | (simp only [decide_eq_true_eq, decide_eq_false_iff_not, Bool.not_eq_true', Bool.not_eq_false', Bool.not_not, Bool.and_eq_true, Bool.and_eq_false_iff, Bool.or_eq_true, Bool.or_eq_false_iff] at hc) | skip
      refine AW.skip ?_
      refine AW.seq ?_
      refine AW.block ?_
      refine AW.region (by rw [hE]; rfl) ?_
      first | refine mvD rfl ?_ | refine mvO rfl ?_ | refine mvM rfl ?_
      first | refine mvD rfl ?_ | refine mvO rfl ?_ | refine mvM rfl ?_
      refine mvD rfl ?_
      first | refine ixO sl.ints rfl rfl (by omega) (by omega) rfl ?_ | refine ixLn sl.ints 0 rfl rfl (by omega) rfl rfl ?_ | refine ixL sl.ints 0 rfl rfl (by omega) (by omega) rfl rfl ?_
      first | refine ldRC ce.int rfl ?_ | refine ldPC ce.int rfl rfl rfl ?_
      refine clv rfl (.cons (by first | exact VLe.refl _ | exact VLe.mt | exact vle_q0 | exact VLe.ptr) (.cons (by first | exact VLe.refl _ | exact VLe.mt | exact vle_q0 | exact VLe.ptr) .nil)) (world_Within (by first | assumption | omega)) ?_
      refine lt1 sl.ints (VC.d _).vd rfl (by decide) ?_
      refine apO sl.ints rfl rfl rfl (by rw [List.length_map, hcl]) (VC.d _) (by simp [D.cells]) (by simp; omega) (by simp; omega) (.inr rfl) (ys := (coinsF l (i + 1)).map dI) (by unfold coinsF; rw [take_succ_getD (by omega) 0, List.map_append, List.map_append]; rfl) (n2 := i + 1) (by simp) fun b2 c2 => ?_
      first | refine asD rfl ?_ | refine asO rfl ?_ | refine asM rfl ?_
      refine OL.nil ?_
      refine AW.region (by rw [hE]; rfl) ?_
      refine mvD rfl ?_
      refine add_i64 rfl rfl (by omega) ?_
      refine asD rfl ?_
      refine OL.nil ?_
      exact AW.again (x := (i, b, c)) (i + 1, b2, c2) (by first | omega | (simp only []; omega)) ⟨⟨by omega, by omega⟩, Knows.app (.cons (VLe.refl _) (.cons (VLe.refl _) (.cons (VLe.refl _) .nil))) (.cons (by first | exact VLe.refl _ | exact VLe.int (by omega) | exact VLe.mt | exact vle_q0 | exact VLe.osl | exact VLe.ptr) (.cons (by first | exact VLe.refl _ | exact VLe.int (by omega) | exact VLe.mt | exact vle_q0 | exact VLe.osl | exact VLe.ptr) .nil)), .cons rfl .nil⟩
    · first | (simp only [decide_eq_true_eq, decide_eq_false_iff_not, Bool.not_eq_true', Bool.not_eq_false', Bool.not_not, Bool.and_eq_true, Bool.and_eq_false_iff, Bool.or_eq_true, Bool.or_eq_false_iff] at hc) | skip
      refine AW.exit ?_
      refine AW.seq ?_
      have he : coinsF l i = coinsF l most := by unfold coinsF; rcases Nat.lt_or_ge i l.length with h | h; (obtain rfl : i = most := (by omega)); rfl; rw [List.take_of_length_le (by omega), List.take_of_length_le (by omega)]
      refine AW.freeze 25 rfl (AW.to [(5, .d (ints (coinsF l most)))] [] (.cons (frz_osl (by rw [List.length_map, hcl]) (by rw [he])) .nil) .nil ?_)
      refine AW.region (by rw [hE]; rfl) ?_
      first | refine mvD rfl ?_ | refine mvO rfl ?_ | refine mvM rfl ?_
      first | refine asD rfl ?_ | refine asO rfl ?_ | refine asM rfl ?_
      refine OL.nil ?_
      exact AW.ret (RetQ.r ⟨_, .tmp rfl .nil, .le (by first | exact VLe.refl _ | exact VLe.mt | exact vle_q0 | exact VLe.int (by omega) | exact VLe.bool (by simp_all))⟩)
  · first | (simp only [decide_eq_true_eq, decide_eq_false_iff_not, Bool.not_eq_true', Bool.not_eq_false', Bool.not_not, Bool.and_eq_true, Bool.and_eq_false_iff, Bool.or_eq_true, Bool.or_eq_false_iff] at g11) | skip
    refine OL.no rfl (by decide) ?_
    refine OL.no rfl (by decide) ?_
    refine OL.no rfl (by decide) ?_
    refine pkF rfl rfl ?_
    refine OL.nil ?_
    refine AW.cond rfl (fun hno => absurd hno (by decide)) (fun _ => ?_)
    refine AW.exit ?_
    refine AW.seq ?_
    have he : coinsF l i = coinsF l most := by unfold coinsF; rcases Nat.lt_or_ge i l.length with h | h; (obtain rfl : i = most := (by omega)); rfl; rw [List.take_of_length_le (by omega), List.take_of_length_le (by omega)]
    refine AW.freeze 25 rfl (AW.to [(5, .d (ints (coinsF l most)))] [] (.cons (frz_osl (by rw [List.length_map, hcl]) (by rw [he])) .nil) .nil ?_)
    refine AW.region (by rw [hE]; rfl) ?_
    first | refine mvD rfl ?_ | refine mvO rfl ?_ | refine mvM rfl ?_
    first | refine asD rfl ?_ | refine asO rfl ?_ | refine asM rfl ?_
    refine OL.nil ?_
    exact AW.ret (RetQ.r ⟨_, .tmp rfl .nil, .le (by first | exact VLe.refl _ | exact VLe.mt | exact vle_q0 | exact VLe.int (by omega) | exact VLe.bool (by simp_all))⟩)
theorem law40_same {l m : List Int} (nl : l.length ≤ 9223372036854775807) : FSpec P F.law40_same [.d (ints l), .d (ints m)] (.d (dB (decide (l = m)))) := by
  refine FSpec.intro fn.law40_same (by rfl) (by rfl) (Nat.le_of_ble_eq_true (by rfl)) fun E hE => ?_
  refine AW.seq ?_
  refine AW.region (by rw [hE]; rfl) ?_
  refine asD rfl ?_
  refine OL.nil ?_
  refine AW.seq ?_
  refine AW.seq ?_
  refine AW.region (by rw [hE]; rfl) ?_
  first | refine mvD rfl ?_ | refine mvO rfl ?_ | refine mvM rfl ?_
  first | refine lnL sl.ints rfl rfl ?_ | refine lnO sl.ints rfl rfl ?_ | refine lnM sl.ints rfl rfl ?_ | refine lnD sl.ints rfl rfl rfl ?_
  first | refine mvD rfl ?_ | refine mvO rfl ?_ | refine mvM rfl ?_
  first | refine lnL sl.ints rfl rfl ?_ | refine lnO sl.ints rfl rfl ?_ | refine lnM sl.ints rfl rfl ?_ | refine lnD sl.ints rfl rfl rfl ?_
  refine c_neq rfl rfl rfl ?_
  refine OL.nil ?_
  refine AW.cond rfl (fun h10 => ?_) (fun h10 => ?_)
  · have hl : l.length ≠ m.length := by simp at h10; omega
    refine AW.seq ?_
    refine AW.region (by rw [hE]; rfl) ?_
    refine asD rfl ?_
    refine OL.nil ?_
    exact AW.ret (RetQ.r ⟨_, .tmp rfl .nil, .le (VLe.bool ((decide_eq_false fun e => hl (by rw [e])).symm))⟩)
  · have hl : l.length = m.length := by simp at h10; omega
    refine AW.skip ?_
    refine AW.seq ?_
    refine AW.seq ?_
    refine AW.region (by rw [hE]; rfl) ?_
    refine asD rfl ?_
    refine OL.nil ?_
    refine AW.block ?_
    refine AW.whileK (α := Nat) [(0, _), (1, _)] [] (fun i => [(5, .d (dI i))]) (fun i => []) (fun i => i ≤ l.length ∧ ∀ j, j < i → l.getD j 0 = m.getD j 0) (fun i => l.length - i) 0 (by repeat (first | exact Knows.nil | refine Knows.cons (by first | exact knD rfl | exact knA rfl | exact knP rfl | exact knO rfl | exact knM rfl | exact knE rfl | exact knR rfl | exact knF rfl | exact knT rfl | exact knJ) ?_)) .nil ⟨⟨Nat.zero_le _, fun j hj => by omega⟩, .cons (by first | exact VLe.refl _ | exact VLe.int (by omega) | exact VLe.mt | exact vle_q0 | exact VLe.osl | exact VLe.ptr) .nil, .nil⟩ ?_
    rintro i ⟨h1, h2⟩
    refine AW.seq ?_
    refine AW.seq ?_
    refine AW.region (by rw [hE]; rfl) ?_
    refine mvD rfl ?_
    first | refine mvD rfl ?_ | refine mvO rfl ?_ | refine mvM rfl ?_
    first | refine lnL sl.ints rfl rfl ?_ | refine lnO sl.ints rfl rfl ?_ | refine lnM sl.ints rfl rfl ?_ | refine lnD sl.ints rfl rfl rfl ?_
    refine c_lss rfl rfl rfl ?_
    refine OL.nil ?_
    refine AW.cond rfl (fun h14 => ?_) (fun h14 => ?_)
    · first | (simp only [decide_eq_true_eq, decide_eq_false_iff_not, Bool.not_eq_true', Bool.not_eq_false', Bool.not_not, Bool.and_eq_true, Bool.and_eq_false_iff, Bool.or_eq_true, Bool.or_eq_false_iff] at h14) | skip
      refine AW.skip ?_
      refine AW.seq ?_
      refine AW.block ?_
      refine AW.seq ?_
      refine AW.region_draw 1 [0, 1, 2, 3, 4, 5, 6, 7, 8] order_free (by rw [hE]; rfl) (by kernel_rfl) (OI.of_OL (os := [_, _, _, _, _, _, _, _, _]) rfl ?_)
      first | refine mvD rfl ?_ | refine mvO rfl ?_ | refine mvM rfl ?_
      refine mvD rfl ?_
      first | refine ixO sl.ints rfl rfl (by omega) (by omega) rfl ?_ | refine ixLn sl.ints 0 rfl rfl (by omega) rfl rfl ?_ | refine ixL sl.ints 0 rfl rfl (by omega) (by omega) rfl rfl ?_
      first | refine ldRC ce.int rfl ?_ | refine ldPC ce.int rfl rfl rfl ?_
      first | refine mvD rfl ?_ | refine mvO rfl ?_ | refine mvM rfl ?_
      refine mvD rfl ?_
      first | refine ixO sl.ints rfl rfl (by omega) (by omega) rfl ?_ | refine ixLn sl.ints 0 rfl rfl (by omega) rfl rfl ?_ | refine ixL sl.ints 0 rfl rfl (by omega) (by omega) rfl rfl ?_
      first | refine ldRC ce.int rfl ?_ | refine ldPC ce.int rfl rfl rfl ?_
      refine c_neq rfl rfl rfl ?_
      refine OL.nil ?_
      refine AW.cond rfl (fun hc => ?_) (fun hc => ?_)
      · have hc : l.getD i 0 ≠ m.getD i 0 := fun e => by rw [e] at hc; simp at hc
        refine AW.seq ?_
        refine AW.region (by rw [hE]; rfl) ?_
        refine asD rfl ?_
        refine OL.nil ?_
        exact AW.ret (RetQ.r ⟨_, .tmp rfl .nil, .le (VLe.bool ((decide_eq_false fun e => hc (by rw [e])).symm))⟩)
      · have hc : l.getD i 0 = m.getD i 0 := nd_f hc
        refine AW.skip ?_
        refine AW.region (by rw [hE]; rfl) ?_
        refine mvD rfl ?_
        refine add_i64 rfl rfl (by omega) ?_
        refine asD rfl ?_
        refine OL.nil ?_
        exact AW.again (x := i) (i + 1) (by first | omega | (simp only []; omega)) ⟨⟨by omega, fun j hj => by rcases Nat.lt_or_ge j i with h | h; exact h2 j h; obtain rfl : j = i := (by omega); exact hc⟩, Knows.app (.cons (VLe.refl _) (.cons (VLe.refl _) .nil)) (.cons (by first | exact VLe.refl _ | exact VLe.int (by omega) | exact VLe.mt | exact vle_q0 | exact VLe.osl | exact VLe.ptr) .nil), .nil⟩
    · first | (simp only [decide_eq_true_eq, decide_eq_false_iff_not, Bool.not_eq_true', Bool.not_eq_false', Bool.not_not, Bool.and_eq_true, Bool.and_eq_false_iff, Bool.or_eq_true, Bool.or_eq_false_iff] at h14) | skip
      refine AW.exit ?_
      refine AW.seq ?_
      refine AW.region (by rw [hE]; rfl) ?_
      refine asD rfl ?_
      refine OL.nil ?_
      exact AW.ret (RetQ.r ⟨_, .tmp rfl .nil, .le (VLe.bool ((decide_eq_true (list_eq_getD hl 0 fun j hj => h2 j (by omega))).symm))⟩)
theorem ref05_Compare {l m : List Int} (nl : l.length ≤ 9223372036854775807) : FSpec P F.ref05_Compare [.d (ints l), .d (ints m)] (.d (dI (cmpI l m))) := by
  refine FSpec.intro fn.ref05_Compare (by rfl) (by rfl) (Nat.le_of_ble_eq_true (by rfl)) fun E hE => ?_
  refine AW.seq ?_
  refine AW.region (by rw [hE]; rfl) ?_
  refine asD rfl ?_
  refine OL.nil ?_
  refine AW.seq ?_
  refine AW.seq ?_
  refine AW.region (by rw [hE]; rfl) ?_
  first | refine mvD rfl ?_ | refine mvO rfl ?_ | refine mvM rfl ?_
  first | refine lnL sl.ints rfl rfl ?_ | refine lnO sl.ints rfl rfl ?_ | refine lnM sl.ints rfl rfl ?_ | refine lnD sl.ints rfl rfl rfl ?_
  first | refine mvD rfl ?_ | refine mvO rfl ?_ | refine mvM rfl ?_
  first | refine lnL sl.ints rfl rfl ?_ | refine lnO sl.ints rfl rfl ?_ | refine lnM sl.ints rfl rfl ?_ | refine lnD sl.ints rfl rfl rfl ?_
  refine c_neq rfl rfl rfl ?_
  refine OL.nil ?_
  refine AW.cond rfl (fun h10 => ?_) (fun h10 => ?_)
  · have hl : l.length ≠ m.length := by simp at h10; omega
    refine AW.seq ?_
    refine AW.seq ?_
    refine AW.region (by rw [hE]; rfl) ?_
    first | refine mvD rfl ?_ | refine mvO rfl ?_ | refine mvM rfl ?_
    first | refine lnL sl.ints rfl rfl ?_ | refine lnO sl.ints rfl rfl ?_ | refine lnM sl.ints rfl rfl ?_ | refine lnD sl.ints rfl rfl rfl ?_
    first | refine mvD rfl ?_ | refine mvO rfl ?_ | refine mvM rfl ?_
    first | refine lnL sl.ints rfl rfl ?_ | refine lnO sl.ints rfl rfl ?_ | refine lnM sl.ints rfl rfl ?_ | refine lnD sl.ints rfl rfl rfl ?_
    refine c_lss rfl rfl rfl ?_
    refine OL.nil ?_
    refine AW.cond rfl (fun h15 => ?_) (fun h15 => ?_)
    · first | (simp only [decide_eq_true_eq, decide_eq_false_iff_not, Bool.not_eq_true', Bool.not_eq_false', Bool.not_not, Bool.and_eq_true, Bool.and_eq_false_iff, Bool.or_eq_true, Bool.or_eq_false_iff] at h15) | skip
      refine AW.seq ?_
      refine AW.region (by rw [hE]; rfl) ?_
      refine asD rfl ?_
      refine OL.nil ?_
      exact AW.ret (RetQ.r ⟨_, .tmp rfl .nil, .le (VLe.int (by unfold cmpI; rw [if_pos hl, if_pos (by omega)]))⟩)
    · first | (simp only [decide_eq_true_eq, decide_eq_false_iff_not, Bool.not_eq_true', Bool.not_eq_false', Bool.not_not, Bool.and_eq_true, Bool.and_eq_false_iff, Bool.or_eq_true, Bool.or_eq_false_iff] at h15) | skip
      refine AW.skip ?_
      refine AW.seq ?_
      refine AW.region (by rw [hE]; rfl) ?_
      refine asD rfl ?_
      refine OL.nil ?_
      exact AW.ret (RetQ.r ⟨_, .tmp rfl .nil, .le (VLe.int (by unfold cmpI; rw [if_pos hl, if_neg (by omega)]))⟩)
  · have hl : l.length = m.length := by simp at h10; omega
    refine AW.skip ?_
    refine AW.seq ?_
    refine AW.seq ?_
    refine AW.region (by rw [hE]; rfl) ?_
    refine asD rfl ?_
    refine OL.nil ?_
    refine AW.block ?_
    refine AW.whileK (α := Nat) [(0, _), (1, _)] [] (fun i => [(5, .d (dI i))]) (fun i => []) (fun i => i ≤ l.length ∧ lexI (l.drop i) (m.drop i) = lexI l m) (fun i => l.length - i) 0 (by repeat (first | exact Knows.nil | refine Knows.cons (by first | exact knD rfl | exact knA rfl | exact knP rfl | exact knO rfl | exact knM rfl | exact knE rfl | exact knR rfl | exact knF rfl | exact knT rfl | exact knJ) ?_)) .nil ⟨⟨Nat.zero_le _, rfl⟩, .cons (by first | exact VLe.refl _ | exact VLe.int (by omega) | exact VLe.mt | exact vle_q0 | exact VLe.osl | exact VLe.ptr) .nil, .nil⟩ ?_
    rintro i ⟨h1, h2⟩
    refine AW.seq ?_
    refine AW.seq ?_
    refine AW.region (by rw [hE]; rfl) ?_
    refine mvD rfl ?_
    first | refine mvD rfl ?_ | refine mvO rfl ?_ | refine mvM rfl ?_
    first | refine lnL sl.ints rfl rfl ?_ | refine lnO sl.ints rfl rfl ?_ | refine lnM sl.ints rfl rfl ?_ | refine lnD sl.ints rfl rfl rfl ?_
    refine c_lss rfl rfl rfl ?_
    refine OL.nil ?_
    refine AW.cond rfl (fun h19 => ?_) (fun h19 => ?_)
    · first | (simp only [decide_eq_true_eq, decide_eq_false_iff_not, Bool.not_eq_true', Bool.not_eq_false', Bool.not_not, Bool.and_eq_true, Bool.and_eq_false_iff, Bool.or_eq_true, Bool.or_eq_false_iff] at h19) | skip
      refine AW.skip ?_
      refine AW.seq ?_
      refine AW.block ?_
      refine AW.seq ?_
      refine AW.seq ?_
      refine AW.region_draw 1 [0, 1, 2, 3, 4, 5, 6, 7, 8] order_free (by rw [hE]; rfl) (by kernel_rfl) (OI.of_OL (os := [_, _, _, _, _, _, _, _, _]) rfl ?_)
      first | refine mvD rfl ?_ | refine mvO rfl ?_ | refine mvM rfl ?_
      refine mvD rfl ?_
      first | refine ixO sl.ints rfl rfl (by omega) (by omega) rfl ?_ | refine ixLn sl.ints 0 rfl rfl (by omega) rfl rfl ?_ | refine ixL sl.ints 0 rfl rfl (by omega) (by omega) rfl rfl ?_
      first | refine ldRC ce.int rfl ?_ | refine ldPC ce.int rfl rfl rfl ?_
      first | refine mvD rfl ?_ | refine mvO rfl ?_ | refine mvM rfl ?_
      refine mvD rfl ?_
      first | refine ixO sl.ints rfl rfl (by omega) (by omega) rfl ?_ | refine ixLn sl.ints 0 rfl rfl (by omega) rfl rfl ?_ | refine ixL sl.ints 0 rfl rfl (by omega) (by omega) rfl rfl ?_
      first | refine ldRC ce.int rfl ?_ | refine ldPC ce.int rfl rfl rfl ?_
      refine c_lss rfl rfl rfl ?_
      refine OL.nil ?_
      refine AW.cond rfl (fun h30 => ?_) (fun h30 => ?_)
      · first | (simp only [decide_eq_true_eq, decide_eq_false_iff_not, Bool.not_eq_true', Bool.not_eq_false', Bool.not_not, Bool.and_eq_true, Bool.and_eq_false_iff, Bool.or_eq_true, Bool.or_eq_false_iff] at h30) | skip
        refine AW.seq ?_
        refine AW.region (by rw [hE]; rfl) ?_
        refine asD rfl ?_
        refine OL.nil ?_
        exact AW.ret (RetQ.r ⟨_, .tmp rfl .nil, .le (VLe.int (by unfold cmpI; rw [if_neg (by omega), ← h2, lexI_step (by omega) (by omega), if_pos h30]))⟩)
      · first | (simp only [decide_eq_true_eq, decide_eq_false_iff_not, Bool.not_eq_true', Bool.not_eq_false', Bool.not_not, Bool.and_eq_true, Bool.and_eq_false_iff, Bool.or_eq_true, Bool.or_eq_false_iff] at h30) | skip
        refine AW.skip ?_
        refine AW.seq ?_
        refine AW.region_draw 1 [0, 1, 2, 3, 4, 5, 6, 7, 8] order_free (by rw [hE]; rfl) (by kernel_rfl) (OI.of_OL (os := [_, _, _, _, _, _, _, _, _]) rfl ?_)
        first | refine mvD rfl ?_ | refine mvO rfl ?_ | refine mvM rfl ?_
        refine mvD rfl ?_
        first | refine ixO sl.ints rfl rfl (by omega) (by omega) rfl ?_ | refine ixLn sl.ints 0 rfl rfl (by omega) rfl rfl ?_ | refine ixL sl.ints 0 rfl rfl (by omega) (by omega) rfl rfl ?_
        first | refine ldRC ce.int rfl ?_ | refine ldPC ce.int rfl rfl rfl ?_
        first | refine mvD rfl ?_ | refine mvO rfl ?_ | refine mvM rfl ?_
        refine mvD rfl ?_
        first | refine ixO sl.ints rfl rfl (by omega) (by omega) rfl ?_ | refine ixLn sl.ints 0 rfl rfl (by omega) rfl rfl ?_ | refine ixL sl.ints 0 rfl rfl (by omega) (by omega) rfl rfl ?_
        first | refine ldRC ce.int rfl ?_ | refine ldPC ce.int rfl rfl rfl ?_
        refine c_gtr rfl rfl rfl ?_
        refine OL.nil ?_
        refine AW.cond rfl (fun h39 => ?_) (fun h39 => ?_)
        · first | (simp only [decide_eq_true_eq, decide_eq_false_iff_not, Bool.not_eq_true', Bool.not_eq_false', Bool.not_not, Bool.and_eq_true, Bool.and_eq_false_iff, Bool.or_eq_true, Bool.or_eq_false_iff] at h39) | skip
          refine AW.seq ?_
          refine AW.region (by rw [hE]; rfl) ?_
          refine asD rfl ?_
          refine OL.nil ?_
          exact AW.ret (RetQ.r ⟨_, .tmp rfl .nil, .le (VLe.int (by unfold cmpI; rw [if_neg (by omega), ← h2, lexI_step (by omega) (by omega), if_neg h30, if_pos h39]))⟩)
        · first | (simp only [decide_eq_true_eq, decide_eq_false_iff_not, Bool.not_eq_true', Bool.not_eq_false', Bool.not_not, Bool.and_eq_true, Bool.and_eq_false_iff, Bool.or_eq_true, Bool.or_eq_false_iff] at h39) | skip
          refine AW.skip ?_
          refine AW.region (by rw [hE]; rfl) ?_
          refine mvD rfl ?_
          refine add_i64 rfl rfl (by omega) ?_
          refine asD rfl ?_
          refine OL.nil ?_
          exact AW.again (x := i) (i + 1) (by first | omega | (simp only []; omega)) ⟨⟨by omega, by rw [lexI_step (by omega) (by omega), if_neg h30, if_neg h39] at h2; exact h2⟩, Knows.app (.cons (VLe.refl _) (.cons (VLe.refl _) .nil)) (.cons (by first | exact VLe.refl _ | exact VLe.int (by omega) | exact VLe.mt | exact vle_q0 | exact VLe.osl | exact VLe.ptr) .nil), .nil⟩
    · first | (simp only [decide_eq_true_eq, decide_eq_false_iff_not, Bool.not_eq_true', Bool.not_eq_false', Bool.not_not, Bool.and_eq_true, Bool.and_eq_false_iff, Bool.or_eq_true, Bool.or_eq_false_iff] at h19) | skip
      refine AW.exit ?_
      refine AW.seq ?_
      refine AW.region (by rw [hE]; rfl) ?_
      refine asD rfl ?_
      refine OL.nil ?_
      exact AW.ret (RetQ.r ⟨_, .tmp rfl .nil, .le (VLe.int (by unfold cmpI; rw [if_neg (by omega), ← h2, List.drop_eq_nil_of_le (by omega)]; simp [lexI]))⟩)
theorem ref40_Same {s1 w1 s2 w2 : List Int} {u1 u2 : Int} (n1 : s1.length ≤ 9223372036854775807) (n2 : w1.length ≤ 9223372036854775807) : FSpec P F.ref40_Same [vDrawn s1 w1 u1, vDrawn s2 w2 u2] (.d (dB (decide (u1 = u2 ∧ s1 = s2 ∧ w1 = w2)))) := by
  refine FSpec.intro fn.ref40_Same (by rfl) (by rfl) (Nat.le_of_ble_eq_true (by rfl)) fun E hE => ?_
  refine AW.seq ?_
  refine AW.region (by rw [hE]; rfl) ?_
  first | refine bxA rfl rfl fun b2 => ?_ | refine bxD rfl rfl fun b2 => ?_
  first | refine bxA rfl rfl fun b3 => ?_ | refine bxD rfl rfl fun b3 => ?_
  refine asD rfl ?_
  refine OL.nil ?_
  refine AW.seq ?_
  refine AW.region (by rw [hE]; rfl) ?_
  first | refine faP fd.Drawn_2 rfl rfl ?_ | refine faR fd.Drawn_2 rfl rfl ?_ | refine faE fd.Drawn_2 rfl rfl ?_
  first | refine ldRC ce.int rfl ?_ | refine ldPC ce.int rfl rfl rfl ?_
  first | refine faP fd.Drawn_2 rfl rfl ?_ | refine faR fd.Drawn_2 rfl rfl ?_ | refine faE fd.Drawn_2 rfl rfl ?_
  first | refine ldRC ce.int rfl ?_ | refine ldPC ce.int rfl rfl rfl ?_
  refine c_eql rfl rfl rfl ?_
  refine mvD rfl ?_
  refine OL.split 10 rfl (fun g10 => ?_) (fun g10 => ?_)
  · first | (simp only [decide_eq_true_eq, decide_eq_false_iff_not, Bool.not_eq_true', Bool.not_eq_false', Bool.not_not, Bool.and_eq_true, Bool.and_eq_false_iff, Bool.or_eq_true, Bool.or_eq_false_iff] at g10) | skip
    refine OL.yes rfl ?_
    first | refine faP fd.Drawn_0 rfl rfl ?_ | refine faR fd.Drawn_0 rfl rfl ?_ | refine faE fd.Drawn_0 rfl rfl ?_
    refine OL.yes rfl ?_
    first | refine ldRC ce.ints rfl ?_ | refine ldPC ce.ints rfl rfl rfl ?_
    refine OL.yes rfl ?_
    first | refine faP fd.Drawn_0 rfl rfl ?_ | refine faR fd.Drawn_0 rfl rfl ?_ | refine faE fd.Drawn_0 rfl rfl ?_
    refine OL.yes rfl ?_
    first | refine ldRC ce.ints rfl ?_ | refine ldPC ce.ints rfl rfl rfl ?_
    refine OL.yes rfl ?_
    refine clv rfl (.cons (by first | exact VLe.refl _ | exact VLe.mt | exact vle_q0 | exact VLe.ptr) (.cons (by first | exact VLe.refl _ | exact VLe.mt | exact vle_q0 | exact VLe.ptr) .nil)) (ref05_Compare (by omega)) ?_
    refine OL.yes rfl ?_
    refine c_eql rfl rfl rfl ?_
    refine pkT rfl rfl ?_
    refine mvD rfl ?_
    refine OL.split 18 rfl (fun g18 => ?_) (fun g18 => ?_)
    · have g18 : s1 = s2 := cmpI_zero.1 (of_decide_eq_true g18)
      refine OL.yes rfl ?_
      first | refine faP fd.Drawn_1 rfl rfl ?_ | refine faR fd.Drawn_1 rfl rfl ?_ | refine faE fd.Drawn_1 rfl rfl ?_
      refine OL.yes rfl ?_
      first | refine ldRC ce.ints rfl ?_ | refine ldPC ce.ints rfl rfl rfl ?_
      refine OL.yes rfl ?_
      first | refine faP fd.Drawn_1 rfl rfl ?_ | refine faR fd.Drawn_1 rfl rfl ?_ | refine faE fd.Drawn_1 rfl rfl ?_
      refine OL.yes rfl ?_
      first | refine ldRC ce.ints rfl ?_ | refine ldPC ce.ints rfl rfl rfl ?_
      refine OL.yes rfl ?_
      refine clv rfl (.cons (by first | exact VLe.refl _ | exact VLe.mt | exact vle_q0 | exact VLe.ptr) (.cons (by first | exact VLe.refl _ | exact VLe.mt | exact vle_q0 | exact VLe.ptr) .nil)) (ref05_Compare (by omega)) ?_
      refine OL.yes rfl ?_
      refine c_eql rfl rfl rfl ?_
      refine pkT rfl rfl ?_
      refine asD rfl ?_
      refine OL.nil ?_
      exact AW.ret (RetQ.r ⟨_, .tmp rfl .nil, .le (VLe.bool (decide_eq_decide.2 ⟨fun h => ⟨g10, g18, cmpI_zero.1 h⟩, fun h => cmpI_zero.2 h.2.2⟩))⟩)
    · have g18 : s1 ≠ s2 := fun e => of_decide_eq_false g18 (cmpI_zero.2 e)
      refine OL.no rfl (by decide) ?_
      refine OL.no rfl (by decide) ?_
      refine OL.no rfl (by decide) ?_
      refine OL.no rfl (by decide) ?_
      refine OL.no rfl (by decide) ?_
      refine OL.no rfl (by decide) ?_
      refine pkF rfl rfl ?_
      refine asD rfl ?_
      refine OL.nil ?_
      exact AW.ret (RetQ.r ⟨_, .tmp rfl .nil, .le (VLe.bool ((decide_eq_false fun h => g18 h.2.1).symm))⟩)
  · first | (simp only [decide_eq_true_eq, decide_eq_false_iff_not, Bool.not_eq_true', Bool.not_eq_false', Bool.not_not, Bool.and_eq_true, Bool.and_eq_false_iff, Bool.or_eq_true, Bool.or_eq_false_iff] at g10) | skip
    refine OL.no rfl (by decide) ?_
    refine OL.no rfl (by decide) ?_
    refine OL.no rfl (by decide) ?_
    refine OL.no rfl (by decide) ?_
    refine OL.no rfl (by decide) ?_
    refine OL.no rfl (by decide) ?_
    refine pkF rfl rfl ?_
    refine mvD rfl ?_
    refine OL.no rfl (by decide) ?_
    refine OL.no rfl (by decide) ?_
    refine OL.no rfl (by decide) ?_
    refine OL.no rfl (by decide) ?_
    refine OL.no rfl (by decide) ?_
    refine OL.no rfl (by decide) ?_
    refine pkF rfl rfl ?_
    refine asD rfl ?_
    refine OL.nil ?_
    exact AW.ret (RetQ.r ⟨_, .tmp rfl .nil, .le (VLe.bool ((decide_eq_false fun h => g10 h.1).symm))⟩)
theorem ref33_Whole {n : Int} (hn : -9223372036854775808 ≤ n ∧ n ≤ 9223372036854775807) : FSpec P F.ref33_Whole [.d (dI n)] (vQ (n : Rat)) := by
  refine FSpec.intro fn.ref33_Whole (by rfl) (by rfl) (Nat.le_of_ble_eq_true (by rfl)) fun E hE => ?_
  refine AW.seq ?_
  refine AW.region (by rw [hE]; rfl) ?_
  refine al z.Rat rfl fun b2 => ?_
  refine OL.nil ?_
  refine AW.seq ?_
  refine AW.region (by rw [hE]; rfl) ?_
  refine mvD rfl ?_
  refine clv rfl (.cons (VLe.refl _) (.cons (VLe.refl _) .nil)) (ref_Make hn (by decide) (by decide)) ?_
  rw [show (n : Rat) / ((1 : Int) : Rat) = (n : Rat) by rw [show ((1 : Int) : Rat) = 1 from rfl]; grind]
  first | refine mvD rfl ?_ | refine mvT rfl ?_ | refine mvP rfl ?_ | refine mvR rfl ?_ | refine mvE rfl ?_ | refine mvF rfl ?_ | refine mvA rfl ?_ | refine mvO rfl ?_ | refine mvM rfl ?_ | refine mvJ rfl ?_
  refine ex rfl rfl ?_
  refine ex rfl rfl ?_
  refine al z.Rat rfl fun b3 => ?_
  first | refine sto sz.Rat rfl rfl rfl rfl rfl (Nat.le_of_ble_eq_true rfl) (cells2 := [_, _, _]) rfl ?_ | refine stE sz.Rat rfl (VC.d _).vd rfl rfl (by omega) rfl ?_
  refine asD rfl ?_
  refine OL.nil ?_
  refine AW.seq ?_
  refine AW.region (by rw [hE]; rfl) ?_
  first | refine ldPA ag.Rat rfl rfl (vs := [_, _, _]) rfl (Nat.le_of_ble_eq_true rfl) ?_ | refine ldRA ag.Rat rfl (vs := [_, _, _]) rfl (Nat.le_of_ble_eq_true rfl) ?_
  first | refine sto sz.Rat rfl rfl rfl rfl rfl (Nat.le_of_ble_eq_true rfl) (cells2 := [_, _, _]) rfl ?_ | refine stE sz.Rat rfl (VC.d _).vd rfl rfl (by omega) rfl ?_
  refine OL.nil ?_
  exact AW.ret (RetQ.r ⟨_, .cellA rfl rfl ag.Rat (Nat.le_of_ble_eq_true rfl) .nil, .ag (.cons (.le (by first | exact VLe.refl _ | exact VLe.mt | exact vle_q0 | exact VLe.int (by omega) | exact VLe.bool (by simp_all))) (.cons (.le (by first | exact VLe.refl _ | exact VLe.mt | exact vle_q0 | exact VLe.int (by omega) | exact VLe.bool (by simp_all))) (.cons (.le (by first | exact VLe.refl _ | exact VLe.mt | exact vle_q0 | exact VLe.int (by omega) | exact VLe.bool (by simp_all))) .nil)))⟩)
theorem ref33_Whole1 : FSpec P F.ref33_Whole [.d (dI 1)] (vQ 1) := by
  have h := ref33_Whole (n := 1) (by decide)
  rw [show ((1 : Int) : Rat) = 1 from rfl] at h; exact h
theorem ref_half : FSpec P F.ref01_Make [.d (dI 1), .d (dI 2)] (.tup [vQ (1 / 2), .d (dI 0)]) := by
  have h := ref_Make (n := 1) (d := 2) (by decide) (by decide) (by decide)
  rw [half_eq] at h; exact h
theorem rational_half : FSpec P F.rational_Make [.d (dI 1), .d (dI 2)] (.tup [vQ (1 / 2), .d (dI 0)]) := by
  have h := rational_MakeQ (n := 1) (d := 2) (by decide) (by decide) (by decide)
  rw [half_eq] at h; exact h
theorem law40_coinQ {q o : Rat} (hq : FSpec P F.ref01_Make [.d (dI 1), .d (dI 2)] (.tup [vQ q, .d (dI 0)])) (ho : FSpec P F.ref33_Whole [.d (dI 1)] (vQ o)) : FSpec P F.law40_coin [] (vHM ⟨2, 1, 0, [o], [[q]], [q], [[q, q]], [false], [0]⟩) := by
  refine FSpec.intro fn.law40_coin (by rfl) (by rfl) (Nat.le_of_ble_eq_true (by rfl)) fun E hE => ?_
  refine AW.seq ?_
  refine AW.region (by rw [hE]; rfl) ?_
  refine al z.Hidden rfl fun b0 => ?_
  refine OL.nil ?_
  refine AW.seq ?_
  refine AW.region (by rw [hE]; rfl) ?_
  refine clv rfl (.cons (VLe.refl _) (.cons (VLe.refl _) .nil)) hq ?_
  first | refine mvD rfl ?_ | refine mvT rfl ?_ | refine mvP rfl ?_ | refine mvR rfl ?_ | refine mvE rfl ?_ | refine mvF rfl ?_ | refine mvA rfl ?_ | refine mvO rfl ?_ | refine mvM rfl ?_ | refine mvJ rfl ?_
  refine ex rfl rfl ?_
  refine ex rfl rfl ?_
  refine al z.Rat rfl fun b1 => ?_
  first | refine sto sz.Rat rfl rfl rfl rfl rfl (Nat.le_of_ble_eq_true rfl) (cells2 := [_, _, _]) rfl ?_ | refine stE sz.Rat rfl (VC.d _).vd rfl rfl (by omega) rfl ?_
  refine asD rfl ?_
  refine OL.nil ?_
  refine AW.seq ?_
  refine AW.region_draw 1 [0, 1, 2, 3, 4, 5, 6, 7, 8, 9, 10, 11, 12, 13, 14] order_free (by rw [hE]; rfl) (by kernel_rfl) (OI.of_OL (os := [_, _, _, _, _, _, _, _, _, _, _, _, _, _, _]) rfl ?_)
  refine clv rfl (.cons (VLe.refl _) .nil) ho ?_
  refine lt1 (y := dQ _) sl.Rats vd_q rfl (by decide) ?_
  first | refine ldPA ag.Rat rfl rfl (vs := [_, _, _]) rfl (Nat.le_of_ble_eq_true rfl) ?_ | refine ldRA ag.Rat rfl (vs := [_, _, _]) rfl (Nat.le_of_ble_eq_true rfl) ?_
  refine lt1 (y := dQ _) sl.Rats vd_q rfl (by decide) ?_
  refine lt1 sl.Ratss (VC.d _).vd rfl (by decide) ?_
  first | refine ldPA ag.Rat rfl rfl (vs := [_, _, _]) rfl (Nat.le_of_ble_eq_true rfl) ?_ | refine ldRA ag.Rat rfl (vs := [_, _, _]) rfl (Nat.le_of_ble_eq_true rfl) ?_
  refine lt1 (y := dQ _) sl.Rats vd_q rfl (by decide) ?_
  first | refine ldPA ag.Rat rfl rfl (vs := [_, _, _]) rfl (Nat.le_of_ble_eq_true rfl) ?_ | refine ldRA ag.Rat rfl (vs := [_, _, _]) rfl (Nat.le_of_ble_eq_true rfl) ?_
  first | refine ldPA ag.Rat rfl rfl (vs := [_, _, _]) rfl (Nat.le_of_ble_eq_true rfl) ?_ | refine ldRA ag.Rat rfl (vs := [_, _, _]) rfl (Nat.le_of_ble_eq_true rfl) ?_
  refine lt2 (y := dQ _) (y2 := dQ _) sl.Rats vd_q vd_q ⟨rfl, rfl⟩ (by decide) ?_
  refine lt1 sl.Ratss (VC.d _).vd rfl (by decide) ?_
  refine lt1 sl.bools (VC.d _).vd rfl (by decide) ?_
  refine lt1 sl.ints (VC.d _).vd rfl (by decide) ?_
  refine bd2 (cs := [_, _, _, _, _, _, _, _, _, _, _]) z.Hidden pl.Hidden (pvC (by first | exact evD rfl | exact evA rfl | exact evM rfl | exact evO rfl | exact evP rfl) (pvC (by first | exact evD rfl | exact evA rfl | exact evM rfl | exact evO rfl | exact evP rfl) (pvC (by first | exact evD rfl | exact evA rfl | exact evM rfl | exact evO rfl | exact evP rfl) (pvC (by first | exact evD rfl | exact evA rfl | exact evM rfl | exact evO rfl | exact evP rfl) (pvC (by first | exact evD rfl | exact evA rfl | exact evM rfl | exact evO rfl | exact evP rfl) (pvC (by first | exact evD rfl | exact evA rfl | exact evM rfl | exact evO rfl | exact evP rfl) (pvC (by first | exact evD rfl | exact evA rfl | exact evM rfl | exact evO rfl | exact evP rfl) (pvC (by first | exact evD rfl | exact evA rfl | exact evM rfl | exact evO rfl | exact evP rfl) (pvN))))))))) (by rfl) ?_
  first | refine sto sz.Hidden rfl rfl rfl rfl rfl (Nat.le_of_ble_eq_true rfl) (cells2 := [_, _, _, _, _, _, _, _, _, _, _]) rfl ?_ | refine stE sz.Hidden rfl (VC.d _).vd rfl rfl (by omega) rfl ?_
  refine OL.nil ?_
  exact AW.ret (RetQ.r ⟨_, .cellA rfl rfl ag.Hidden (Nat.le_of_ble_eq_true rfl) .nil, .ag (.cons (.le (by first | exact VLe.refl _ | exact VLe.mt | exact vle_q0 | exact VLe.int (by omega) | exact VLe.bool (by simp_all))) (.cons (.le (by first | exact VLe.refl _ | exact VLe.mt | exact vle_q0 | exact VLe.int (by omega) | exact VLe.bool (by simp_all))) (.cons (.le (vle_of_eq (by show _ = V.d (dB (ofQ 0).neg); rw [ofQ_zero]))) (.cons (.le (by show VLe _ (.d (u32s (ofQ 0).num)); rw [ofQ_zero]; exact VLe.mt)) (.cons (.le (by show VLe _ (.d (u32s (ofQ 0).den)); rw [ofQ_zero]; exact VLe.mt)) (.cons (.le (by first | exact VLe.refl _ | exact VLe.mt | exact vle_q0 | exact VLe.int (by omega) | exact VLe.bool (by simp_all))) (.cons (.le (by first | exact VLe.refl _ | exact VLe.mt | exact vle_q0 | exact VLe.int (by omega) | exact VLe.bool (by simp_all))) (.cons (.le (by first | exact VLe.refl _ | exact VLe.mt | exact vle_q0 | exact VLe.int (by omega) | exact VLe.bool (by simp_all))) (.cons (.le (by first | exact VLe.refl _ | exact VLe.mt | exact vle_q0 | exact VLe.int (by omega) | exact VLe.bool (by simp_all))) (.cons (.le (by first | exact VLe.refl _ | exact VLe.mt | exact vle_q0 | exact VLe.int (by omega) | exact VLe.bool (by simp_all))) (.cons (.le (by first | exact VLe.refl _ | exact VLe.mt | exact vle_q0 | exact VLe.int (by omega) | exact VLe.bool (by simp_all))) .nil)))))))))))⟩)
theorem law40_coin : FSpec P F.law40_coin [] (vHM coinHM) := law40_coinQ ref_half ref33_Whole1
theorem sample_one  : FSpec P F.sample_one [] (vQ 1) := by
  refine FSpec.intro fn.sample_one (by rfl) (by rfl) (Nat.le_of_ble_eq_true (by rfl)) fun E hE => ?_
  refine AW.seq ?_
  refine AW.region (by rw [hE]; rfl) ?_
  refine al z.Rat rfl fun b0 => ?_
  refine OL.nil ?_
  refine AW.seq ?_
  refine AW.region (by rw [hE]; rfl) ?_
  refine clv rfl (.cons (VLe.refl _) (.cons (VLe.refl _) .nil)) (rational_MakeQ (n := 1) (d := 1) (by decide) (by decide) (by decide)) ?_
  rw [q11]
  first | refine mvD rfl ?_ | refine mvT rfl ?_ | refine mvP rfl ?_ | refine mvR rfl ?_ | refine mvE rfl ?_ | refine mvF rfl ?_ | refine mvA rfl ?_ | refine mvO rfl ?_ | refine mvM rfl ?_ | refine mvJ rfl ?_
  refine ex rfl rfl ?_
  refine ex rfl rfl ?_
  refine al z.Rat rfl fun b1 => ?_
  first | refine sto sz.Rat rfl rfl rfl rfl rfl (Nat.le_of_ble_eq_true rfl) (cells2 := [_, _, _]) rfl ?_ | refine stE sz.Rat rfl (VC.d _).vd rfl rfl (by omega) rfl ?_
  refine asD rfl ?_
  refine OL.nil ?_
  refine AW.seq ?_
  refine AW.region (by rw [hE]; rfl) ?_
  first | refine ldPA ag.Rat rfl rfl (vs := [_, _, _]) rfl (Nat.le_of_ble_eq_true rfl) ?_ | refine ldRA ag.Rat rfl (vs := [_, _, _]) rfl (Nat.le_of_ble_eq_true rfl) ?_
  first | refine sto sz.Rat rfl rfl rfl rfl rfl (Nat.le_of_ble_eq_true rfl) (cells2 := [_, _, _]) rfl ?_ | refine stE sz.Rat rfl (VC.d _).vd rfl rfl (by omega) rfl ?_
  refine OL.nil ?_
  exact AW.ret (RetQ.r ⟨_, .cellA rfl rfl ag.Rat (Nat.le_of_ble_eq_true rfl) .nil, .ag (.cons (.le (by first | exact VLe.refl _ | exact VLe.mt | exact vle_q0 | exact VLe.int (by omega) | exact VLe.bool (by simp_all))) (.cons (.le (by first | exact VLe.refl _ | exact VLe.mt | exact vle_q0 | exact VLe.int (by omega) | exact VLe.bool (by simp_all))) (.cons (.le (by first | exact VLe.refl _ | exact VLe.mt | exact vle_q0 | exact VLe.int (by omega) | exact VLe.bool (by simp_all))) .nil)))⟩)
theorem sample_refuse {h : HM} {B : Nat} (g : h.Good B) : FSpec P F.sample_refuse [vHM h] (.d (dI 0)) := by
  refine FSpec.intro fn.sample_refuse (by rfl) (by rfl) (Nat.le_of_ble_eq_true (by rfl)) fun E hE => ?_
  refine AW.seq ?_
  refine AW.region (by rw [hE]; rfl) ?_
  first | refine bxA rfl rfl fun b1 => ?_ | refine bxD rfl rfl fun b1 => ?_
  refine asD rfl ?_
  refine OL.nil ?_
  refine AW.seq ?_
  refine AW.seq ?_
  refine AW.region (by rw [hE]; rfl) ?_
  first | refine ldPA ag.Hidden rfl rfl (vs := [_, _, _, _, _, _, _, _, _, _, _]) rfl (Nat.le_of_ble_eq_true rfl) ?_ | refine ldRA ag.Hidden rfl (vs := [_, _, _, _, _, _, _, _, _, _, _]) rfl (Nat.le_of_ble_eq_true rfl) ?_
  refine clv rfl (.cons (by first | exact VLe.refl _ | exact VLe.mt | exact vle_q0 | exact VLe.ptr) .nil) (hmm_Valid_ok (by assumption)) ?_
  refine asD rfl ?_
  refine OL.nil ?_
  refine AW.seq ?_
  refine AW.region (by rw [hE]; rfl) ?_
  refine mvD rfl ?_
  refine c_neq rfl rfl (c := false) (by first | exact decide_eq_true (by omega) | exact decide_eq_false (by omega) | exact cne_f (by omega) | exact cne_t (by omega) | rfl) ?_
  refine OL.nil ?_
  refine AW.cond rfl (fun hno => absurd hno (by decide)) (fun _ => ?_)
  refine AW.skip ?_
  refine AW.seq ?_
  refine AW.seq ?_
  refine AW.region (by rw [hE]; rfl) ?_
  first | refine ldPA ag.Hidden rfl rfl (vs := [_, _, _, _, _, _, _, _, _, _, _]) rfl (Nat.le_of_ble_eq_true rfl) ?_ | refine ldRA ag.Hidden rfl (vs := [_, _, _, _, _, _, _, _, _, _, _]) rfl (Nat.le_of_ble_eq_true rfl) ?_
  refine clv rfl (.cons (by first | exact VLe.refl _ | exact VLe.mt | exact vle_q0 | exact VLe.ptr) .nil) (hmm_Plain_ok (by assumption)) ?_
  refine nt rfl ?_
  refine OL.nil ?_
  refine AW.cond rfl (fun hno => absurd hno (by decide)) (fun _ => ?_)
  refine AW.skip ?_
  refine AW.seq ?_
  refine AW.region (by rw [hE]; rfl) ?_
  refine asD rfl ?_
  refine OL.nil ?_
  exact AW.ret (RetQ.r ⟨_, .tmp rfl .nil, .le (by first | exact VLe.refl _ | exact VLe.mt | exact vle_q0 | exact VLe.int (by omega) | exact VLe.bool (by simp_all))⟩)
theorem clone_RatsR {l : List Rat} (nl : l.length ≤ 1099511627776) : FSpecR P F.slices_Clone_Rats_Rat [.d (dQs l)] l.length T.Rat 3 (l.map dQ) := by
  refine FSpecR.intro fn.slices_Clone_Rats_Rat (by rfl) (by rfl) (Nat.le_of_ble_eq_true (by rfl)) 2 rfl fun E hE => ?_
  refine AW.seq ?_
  refine AW.region (by rw [hE]; rfl) ?_
  refine asM rfl ?_
  refine OL.nil ?_
  refine AW.seq ?_
  refine AW.seq ?_
  refine AW.region (by rw [hE]; rfl) ?_
  first | refine mvD rfl ?_ | refine mvO rfl ?_ | refine mvM rfl ?_
  refine isNil sl.Rats.u rfl (fun y hy => by obtain ⟨a, _, rfl⟩ := List.mem_map.1 hy; exact Nat.succ_pos _) rfl fun b hb => ?_
  refine OL.nil ?_
  refine AW.cond rfl (fun h => ?_) (fun h => ?_)
  · have hL : l = [] := by have := hb h; simpa using this
    subst hL
    refine AW.seq ?_
    refine AW.region (by rw [hE]; rfl) ?_
    refine asM rfl ?_
    refine OL.nil ?_
    refine AW.own 2 99 T.Rat 3 rfl rfl ?_
    exact AW.ret ⟨.inr rfl, 99, 0, 0, [], rfl, rfl, Nat.le_refl _, rfl⟩
  · have _h := h
    refine AW.skip ?_
    refine AW.seq ?_
    refine AW.region (by rw [hE]; rfl) ?_
    refine lt0 sl.Rats ?_
    first | refine mvD rfl ?_ | refine mvO rfl ?_ | refine mvM rfl ?_
    refine apM sl.Rats rfl rfl (VC.d _) dQ_len (by simp; omega) (by simp; omega) rfl fun b7 c7 => ?_
    first | refine asD rfl ?_ | refine asO rfl ?_ | refine asM rfl ?_
    refine OL.nil ?_
    exact AW.ret ⟨.inr rfl, 7, b7, c7, l.map dQ, by show V.osl 7 b7 (List.map dQ l).length c7 = _; rw [List.length_map], rfl, by rw [List.length_map]; exact Nat.le_refl _, List.take_of_length_le (by rw [List.length_map]; exact Nat.le_refl _)⟩
theorem sample_next {h : HM} {B : Nat} (f : h.Form B) {fr : Int} (hf : -1 ≤ fr ∧ fr < h.st) : FSpec P F.sample_next [vHM h, .d (dI fr)] (.d (dQs (if fr < 0 then h.ini ++ [h.empty] else h.trans.getD fr.toNat [] ++ [h.stop.getD fr.toNat 0]))) := by
  have e1 := f.ini
  have e2 := f.trans
  have e3 := f.stop
  have n1 := f.st1
  refine FSpec.intro fn.sample_next (by rfl) (by rfl) (Nat.le_of_ble_eq_true (by rfl)) fun E hE => ?_
  refine AW.seq ?_
  refine AW.region (by rw [hE]; rfl) ?_
  first | refine bxA rfl rfl fun b2 => ?_ | refine bxD rfl rfl fun b2 => ?_
  refine asM rfl ?_
  refine OL.nil ?_
  refine AW.seq ?_
  refine AW.seq ?_
  refine AW.region (by rw [hE]; rfl) ?_
  refine mvD rfl ?_
  refine c_lss rfl rfl rfl ?_
  refine OL.nil ?_
  refine AW.cond rfl (fun hc => ?_) (fun hc => ?_)
  · have hc := of_decide_eq_true hc
    rw [if_pos hc]
    refine AW.seq ?_
    refine AW.region_draw 22 [0, 1, 3, 4, 5, 2, 6, 7] order_free (by rw [hE]; rfl) (by kernel_rfl) (OI.of_OL (os := [_, _, _, _, _, _, _, _]) rfl ?_)
    first | refine faP fd.Hidden_3 rfl rfl ?_ | refine faR fd.Hidden_3 rfl rfl ?_ | refine faE fd.Hidden_3 rfl rfl ?_
    first | refine ldRC ce.Rats rfl ?_ | refine ldPC ce.Rats rfl rfl rfl ?_
    first | refine faP fd.Hidden_2 rfl rfl ?_ | refine faR fd.Hidden_2 rfl rfl ?_ | refine faE fd.Hidden_2 rfl rfl ?_
    first | refine ldPA ag.Rat rfl rfl (vs := [_, _, _]) rfl (Nat.le_of_ble_eq_true rfl) ?_ | refine ldRA ag.Rat rfl (vs := [_, _, _]) rfl (Nat.le_of_ble_eq_true rfl) ?_
    refine lt1 (y := dQ _) sl.Rats vd_q rfl (by decide) ?_
    refine clRd rfl (.cons (VLe.refl _) .nil) (clone_RatsR (by omega)) rfl rfl fun b9 c9 => ?_
    refine apO sl.Rats rfl rfl rfl (by rw [List.length_map]) (VC.d _) (by simp [D.cells]) (by simp; omega) (by simp; omega) (.inl rfl) (ys := (h.ini ++ [h.empty]).map dQ) (by rw [List.map_append]; rfl) (n2 := (h.ini ++ [h.empty]).length) (by simp) fun b2 c2 => ?_
    first | refine asD rfl ?_ | refine asO rfl ?_ | refine asM rfl ?_
    refine OL.nil ?_
    exact AW.ret (RetQ.r ⟨_, .tmp rfl .nil, RO.row rfl (by rw [List.length_map]) rfl⟩)
  · have hc := of_decide_eq_false hc
    have t1 := f.trow fr.toNat (by omega)
    rw [if_neg hc]
    refine AW.skip ?_
    refine AW.seq ?_
    refine AW.region_draw 42 [0, 1, 2, 3, 4, 6, 7, 8, 9, 10, 11, 5, 12, 13] order_free (by rw [hE]; rfl) (by kernel_rfl) (OI.of_OL (os := [_, _, _, _, _, _, _, _, _, _, _, _, _, _]) rfl ?_)
    first | refine faP fd.Hidden_4 rfl rfl ?_ | refine faR fd.Hidden_4 rfl rfl ?_ | refine faE fd.Hidden_4 rfl rfl ?_
    first | refine ldRC ce.Ratss rfl ?_ | refine ldPC ce.Ratss rfl rfl rfl ?_
    refine mvD rfl ?_
    first | refine ixO sl.Ratss rfl rfl (by omega) (by omega) rfl ?_ | refine ixLn sl.Ratss [] rfl rfl (by omega) rfl rfl ?_ | refine ixL sl.Ratss [] rfl rfl (by omega) (by omega) rfl rfl ?_
    first | refine ldRC ce.Rats rfl ?_ | refine ldPC ce.Rats rfl rfl rfl ?_
    first | refine faP fd.Hidden_5 rfl rfl ?_ | refine faR fd.Hidden_5 rfl rfl ?_ | refine faE fd.Hidden_5 rfl rfl ?_
    first | refine ldRC ce.Rats rfl ?_ | refine ldPC ce.Rats rfl rfl rfl ?_
    refine mvD rfl ?_
    first | refine ixO sl.Rats rfl rfl (by omega) (by omega) rfl ?_ | refine ixLn sl.Rats 0 rfl rfl (by omega) rfl rfl ?_ | refine ixL sl.Rats 0 rfl rfl (by omega) (by omega) rfl rfl ?_
    first | refine ldPA ag.Rat rfl rfl (vs := [_, _, _]) rfl (Nat.le_of_ble_eq_true rfl) ?_ | refine ldRA ag.Rat rfl (vs := [_, _, _]) rfl (Nat.le_of_ble_eq_true rfl) ?_
    refine lt1 (y := dQ _) sl.Rats vd_q rfl (by decide) ?_
    refine clRd rfl (.cons (VLe.refl _) .nil) (clone_RatsR (by omega)) rfl rfl fun b9 c9 => ?_
    refine apO sl.Rats rfl rfl rfl (by rw [List.length_map]) (VC.d _) (by simp [D.cells]) (by simp only [List.length_cons, List.length_nil]; omega) (by simp only [List.length_cons, List.length_nil]; omega) (.inl rfl) (ys := (h.trans.getD fr.toNat [] ++ [h.stop.getD fr.toNat 0]).map dQ) (by rw [List.map_append]; rfl) (n2 := (h.trans.getD fr.toNat [] ++ [h.stop.getD fr.toNat 0]).length) (by simp) fun b2 c2 => ?_
    first | refine asD rfl ?_ | refine asO rfl ?_ | refine asM rfl ?_
    refine OL.nil ?_
    exact AW.ret (RetQ.r ⟨_, .tmp rfl .nil, RO.row rfl (by rw [List.length_map]) rfl⟩)
end Go.Proofs.YtcebciggodhmcaaGreat

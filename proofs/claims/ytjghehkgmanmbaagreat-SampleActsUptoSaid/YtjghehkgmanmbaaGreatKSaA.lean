/-
  Walks of drawings of models with great numbers, part 1 (printed by mk2.py).
-/
import Derived.Test.YtjghehkgmanmbaaGreatKVaC
import Derived.Test.YtjghehkgmanmbaaGreatKMod41
import Derived.Test.YtjghehkgmanmbaaGreatKAlgd
set_option linter.unusedVariables false
set_option linter.unusedSimpArgs false
namespace Go.Proofs.YtjghehkgmanmbaaGreat
open Go Go.AL
abbrev vSpan (s : Span) : V := .ag [.d (dB (ofQ s.lo).neg), .d (u32s (ofQ s.lo).num), .d (u32s (ofQ s.lo).den), .d (dB (ofQ s.len).neg), .d (u32s (ofQ s.len).num), .d (u32s (ofQ s.len).den)]
abbrev cellsSpan (s : Span) : List V := [.d (dB (ofQ s.lo).neg), .d (u32s (ofQ s.lo).num), .d (u32s (ofQ s.lo).den), .d (dB (ofQ s.len).neg), .d (u32s (ofQ s.len).num), .d (u32s (ofQ s.len).den)]
abbrev vDrawn (s w : List Int) (u : Int) : V := .ag [.d (ints s), .d (ints w), .d (dI u)]
theorem ref_half : FSpec P F.ref01_Make [.d (dI 1), .d (dI 2)] (.tup [vQ (1 / 2), .d (dI 0)]) := by
 have h := ref_Make (n := 1) (d := 2) (by decide) (by decide) (by decide)
 rw [half_eq] at h; exact h
theorem rational_half : FSpec P F.rational_Make [.d (dI 1), .d (dI 2)] (.tup [vQ (1 / 2), .d (dI 0)]) := by
 have h := rational_MakeQ (n := 1) (d := 2) (by decide) (by decide) (by decide)
 rw [half_eq] at h; exact h
theorem law40_same {l m : List Int} (nl : l.length ≤ 9223372036854775807) : FSpec P F.law40_same [.d (ints l), .d (ints m)] (.d (dB (decide (l = m)))) := by
 refine FSpec.intro fn.law40_same (by rfl) (by rfl) (nb9 (by rfl)) fun E hE => ?_
 refine AW.sg hE rfl ?_
 refine asD rfl ?_
 refine OL.nil ?_
 refine AW.seq ?_
 refine AW.sg hE rfl ?_
 first | refine mvD rfl ?_ | refine mvO rfl ?_ | refine mvM rfl ?_
 first | refine lnL sl.ints rfl rfl ?_ | refine lnO sl.ints rfl rfl ?_ | refine lnM sl.ints rfl rfl ?_ | refine lnD sl.ints rfl rfl rfl ?_
 first | refine mvD rfl ?_ | refine mvO rfl ?_ | refine mvM rfl ?_
 first | refine lnL sl.ints rfl rfl ?_ | refine lnO sl.ints rfl rfl ?_ | refine lnM sl.ints rfl rfl ?_ | refine lnD sl.ints rfl rfl rfl ?_
 refine c_neq rfl rfl rfl ?_
 refine OL.nil ?_
 refine AW.cond rfl (fun h10 => ?_) (fun h10 => ?_)
 ·have hl : l.length ≠ m.length := by simp at h10; omega
  refine AW.sg hE rfl ?_
  refine asD rfl ?_
  refine OL.nil ?_
  exact AW.ret (RetQ.r ⟨_, .tmp rfl .nil, .le (VLe.bool ((decide_eq_false fun e => hl (by rw [e])).symm))⟩)
 ·have hl : l.length = m.length := by simp at h10; omega
  refine AW.skip ?_
  refine AW.seq ?_
  refine AW.sg hE rfl ?_
  refine asD rfl ?_
  refine OL.nil ?_
  refine AW.block ?_
  refine AW.whileK (α := Nat) [(0, _), (1, _)] [] (fun i => [(5, .d (dI i))]) (fun i => []) (fun i => i ≤ l.length ∧ ∀ j, j < i → l.getD j 0 = m.getD j 0) (fun i => l.length - i) 0 (by repeat (first | exact Knows.nil | refine Knows.cons (by first | exact knD rfl | exact knA rfl | exact knP rfl | exact knO rfl | exact knM rfl | exact knE rfl | exact knR rfl | exact knF rfl | exact knT rfl | exact knJ) ?_)) .nil ⟨⟨Nat.zero_le _, fun j hj => by omega⟩, .cons (by first | exact VLe.refl _ | exact VLe.int (by omega) | exact VLe.mt | exact vle_q0 | exact VLe.osl | exact VLe.ptr) .nil, .nil⟩ ?_
  rintro i ⟨h1, h2⟩
  refine AW.seq ?_
  refine AW.sg hE rfl ?_
  refine mvD rfl ?_
  first | refine mvD rfl ?_ | refine mvO rfl ?_ | refine mvM rfl ?_
  first | refine lnL sl.ints rfl rfl ?_ | refine lnO sl.ints rfl rfl ?_ | refine lnM sl.ints rfl rfl ?_ | refine lnD sl.ints rfl rfl rfl ?_
  refine c_lss rfl rfl rfl ?_
  refine OL.nil ?_
  refine AW.cond rfl (fun h14 => ?_) (fun h14 => ?_)
  ·try simp only [dx9] at h14
   refine AW.skip ?_
   refine AW.seq ?_
   refine AW.block ?_
   refine AW.seq ?_
   refine AW.dg 1 [0,1,2,3,4,5,6,7,8] order_free hE rfl (by kernel_rfl) (OI.of_OL (os := [_,_,_,_,_,_,_,_,_]) rfl ?_)
   first | refine mvD rfl ?_ | refine mvO rfl ?_ | refine mvM rfl ?_
   refine mvD rfl ?_
   first | refine ixO sl.ints rfl rfl (by omega) (by omega) rfl ?_ | refine ixLn sl.ints 0 rfl rfl (by omega) rfl rfl ?_ | refine ixL sl.ints 0 rfl rfl (by omega) (by omega) rfl rfl ?_
   first | refine ldRC ce.int rfl ?_ | refine ldPC ce.int rfl rfl rfl ?_
   first | refine mvD rfl ?_ | refine mvO rfl ?_ | refine mvM rfl ?_
   refine mvD rfl ?_
   first | refine ixO sl.ints rfl rfl (by omega) (by omega) rfl ?_ | refine ixLn sl.ints 0 rfl rfl (by omega) rfl rfl ?_ | refine ixL sl.ints 0 rfl rfl (by omega) (by omega) rfl rfl ?_
   first | refine ldRC ce.int rfl ?_ | refine ldPC ce.int rfl rfl rfl ?_
   refine c_neq rfl rfl rfl ?_
   refine OL.nil ?_
   refine AW.cond rfl (fun hc => ?_) (fun hc => ?_)
   ·have hc : l.getD i 0 ≠ m.getD i 0 := fun e => by rw [e] at hc; simp at hc
    refine AW.sg hE rfl ?_
    refine asD rfl ?_
    refine OL.nil ?_
    exact AW.ret (RetQ.r ⟨_, .tmp rfl .nil, .le (VLe.bool ((decide_eq_false fun e => hc (by rw [e])).symm))⟩)
   ·have hc : l.getD i 0 = m.getD i 0 := nd_f hc
    refine AW.skip ?_
    refine AW.rg hE rfl ?_
    refine mvD rfl ?_
    refine add_i64 rfl rfl (by omega) ?_
    refine asD rfl ?_
    refine OL.nil ?_
    exact AW.again (x := i) (i + 1) (by first | omega | (simp only []; omega)) ⟨⟨by omega, fun j hj => by rcases Nat.lt_or_ge j i with h | h; exact h2 j h; obtain rfl : j = i := (by omega); exact hc⟩, Knows.app (.cons (VLe.refl _) (.cons (VLe.refl _) .nil)) (.cons (by first | exact VLe.refl _ | exact VLe.int (by omega) | exact VLe.mt | exact vle_q0 | exact VLe.osl | exact VLe.ptr) .nil), .nil⟩
  ·try simp only [dx9] at h14
   refine AW.exit ?_
   refine AW.sg hE rfl ?_
   refine asD rfl ?_
   refine OL.nil ?_
   exact AW.ret (RetQ.r ⟨_, .tmp rfl .nil, .le (VLe.bool ((decide_eq_true (list_eq_getD hl 0 fun j hj => h2 j (by omega))).symm))⟩)
theorem ref05_Compare {l m : List Int} (nl : l.length ≤ 9223372036854775807) : FSpec P F.ref05_Compare [.d (ints l), .d (ints m)] (.d (dI (cmpI l m))) := by
 refine FSpec.intro fn.ref05_Compare (by rfl) (by rfl) (nb9 (by rfl)) fun E hE => ?_
 refine AW.sg hE rfl ?_
 refine asD rfl ?_
 refine OL.nil ?_
 refine AW.seq ?_
 refine AW.sg hE rfl ?_
 first | refine mvD rfl ?_ | refine mvO rfl ?_ | refine mvM rfl ?_
 first | refine lnL sl.ints rfl rfl ?_ | refine lnO sl.ints rfl rfl ?_ | refine lnM sl.ints rfl rfl ?_ | refine lnD sl.ints rfl rfl rfl ?_
 first | refine mvD rfl ?_ | refine mvO rfl ?_ | refine mvM rfl ?_
 first | refine lnL sl.ints rfl rfl ?_ | refine lnO sl.ints rfl rfl ?_ | refine lnM sl.ints rfl rfl ?_ | refine lnD sl.ints rfl rfl rfl ?_
 refine c_neq rfl rfl rfl ?_
 refine OL.nil ?_
 refine AW.cond rfl (fun h10 => ?_) (fun h10 => ?_)
 ·have hl : l.length ≠ m.length := by simp at h10; omega
  refine AW.seq ?_
  refine AW.sg hE rfl ?_
  first | refine mvD rfl ?_ | refine mvO rfl ?_ | refine mvM rfl ?_
  first | refine lnL sl.ints rfl rfl ?_ | refine lnO sl.ints rfl rfl ?_ | refine lnM sl.ints rfl rfl ?_ | refine lnD sl.ints rfl rfl rfl ?_
  first | refine mvD rfl ?_ | refine mvO rfl ?_ | refine mvM rfl ?_
  first | refine lnL sl.ints rfl rfl ?_ | refine lnO sl.ints rfl rfl ?_ | refine lnM sl.ints rfl rfl ?_ | refine lnD sl.ints rfl rfl rfl ?_
  refine c_lss rfl rfl rfl ?_
  refine OL.nil ?_
  refine AW.cond rfl (fun h15 => ?_) (fun h15 => ?_)
  ·try simp only [dx9] at h15
   refine AW.sg hE rfl ?_
   refine asD rfl ?_
   refine OL.nil ?_
   exact AW.ret (RetQ.r ⟨_, .tmp rfl .nil, .le (VLe.int (by unfold cmpI; rw [if_pos hl, if_pos (by omega)]))⟩)
  ·try simp only [dx9] at h15
   refine AW.skip ?_
   refine AW.sg hE rfl ?_
   refine asD rfl ?_
   refine OL.nil ?_
   exact AW.ret (RetQ.r ⟨_, .tmp rfl .nil, .le (VLe.int (by unfold cmpI; rw [if_pos hl, if_neg (by omega)]))⟩)
 ·have hl : l.length = m.length := by simp at h10; omega
  refine AW.skip ?_
  refine AW.seq ?_
  refine AW.sg hE rfl ?_
  refine asD rfl ?_
  refine OL.nil ?_
  refine AW.block ?_
  refine AW.whileK (α := Nat) [(0, _), (1, _)] [] (fun i => [(5, .d (dI i))]) (fun i => []) (fun i => i ≤ l.length ∧ lexI (l.drop i) (m.drop i) = lexI l m) (fun i => l.length - i) 0 (by repeat (first | exact Knows.nil | refine Knows.cons (by first | exact knD rfl | exact knA rfl | exact knP rfl | exact knO rfl | exact knM rfl | exact knE rfl | exact knR rfl | exact knF rfl | exact knT rfl | exact knJ) ?_)) .nil ⟨⟨Nat.zero_le _, rfl⟩, .cons (by first | exact VLe.refl _ | exact VLe.int (by omega) | exact VLe.mt | exact vle_q0 | exact VLe.osl | exact VLe.ptr) .nil, .nil⟩ ?_
  rintro i ⟨h1, h2⟩
  refine AW.seq ?_
  refine AW.sg hE rfl ?_
  refine mvD rfl ?_
  first | refine mvD rfl ?_ | refine mvO rfl ?_ | refine mvM rfl ?_
  first | refine lnL sl.ints rfl rfl ?_ | refine lnO sl.ints rfl rfl ?_ | refine lnM sl.ints rfl rfl ?_ | refine lnD sl.ints rfl rfl rfl ?_
  refine c_lss rfl rfl rfl ?_
  refine OL.nil ?_
  refine AW.cond rfl (fun h19 => ?_) (fun h19 => ?_)
  ·try simp only [dx9] at h19
   refine AW.skip ?_
   refine AW.seq ?_
   refine AW.block ?_
   refine AW.seq ?_
   refine AW.seq ?_
   refine AW.dg 1 [0,1,2,3,4,5,6,7,8] order_free hE rfl (by kernel_rfl) (OI.of_OL (os := [_,_,_,_,_,_,_,_,_]) rfl ?_)
   first | refine mvD rfl ?_ | refine mvO rfl ?_ | refine mvM rfl ?_
   refine mvD rfl ?_
   first | refine ixO sl.ints rfl rfl (by omega) (by omega) rfl ?_ | refine ixLn sl.ints 0 rfl rfl (by omega) rfl rfl ?_ | refine ixL sl.ints 0 rfl rfl (by omega) (by omega) rfl rfl ?_
   first | refine ldRC ce.int rfl ?_ | refine ldPC ce.int rfl rfl rfl ?_
   first | refine mvD rfl ?_ | refine mvO rfl ?_ | refine mvM rfl ?_
   refine mvD rfl ?_
   first | refine ixO sl.ints rfl rfl (by omega) (by omega) rfl ?_ | refine ixLn sl.ints 0 rfl rfl (by omega) rfl rfl ?_ | refine ixL sl.ints 0 rfl rfl (by omega) (by omega) rfl rfl ?_
   first | refine ldRC ce.int rfl ?_ | refine ldPC ce.int rfl rfl rfl ?_
   refine c_lss rfl rfl rfl ?_
   refine OL.nil ?_
   refine AW.cond rfl (fun h30 => ?_) (fun h30 => ?_)
   ·try simp only [dx9] at h30
    refine AW.sg hE rfl ?_
    refine asD rfl ?_
    refine OL.nil ?_
    exact AW.ret (RetQ.r ⟨_, .tmp rfl .nil, .le (VLe.int (by unfold cmpI; rw [if_neg (by omega), ← h2, lexI_step (by omega) (by omega), if_pos h30]))⟩)
   ·try simp only [dx9] at h30
    refine AW.skip ?_
    refine AW.seq ?_
    refine AW.dg 1 [0,1,2,3,4,5,6,7,8] order_free hE rfl (by kernel_rfl) (OI.of_OL (os := [_,_,_,_,_,_,_,_,_]) rfl ?_)
    first | refine mvD rfl ?_ | refine mvO rfl ?_ | refine mvM rfl ?_
    refine mvD rfl ?_
    first | refine ixO sl.ints rfl rfl (by omega) (by omega) rfl ?_ | refine ixLn sl.ints 0 rfl rfl (by omega) rfl rfl ?_ | refine ixL sl.ints 0 rfl rfl (by omega) (by omega) rfl rfl ?_
    first | refine ldRC ce.int rfl ?_ | refine ldPC ce.int rfl rfl rfl ?_
    first | refine mvD rfl ?_ | refine mvO rfl ?_ | refine mvM rfl ?_
    refine mvD rfl ?_
    first | refine ixO sl.ints rfl rfl (by omega) (by omega) rfl ?_ | refine ixLn sl.ints 0 rfl rfl (by omega) rfl rfl ?_ | refine ixL sl.ints 0 rfl rfl (by omega) (by omega) rfl rfl ?_
    first | refine ldRC ce.int rfl ?_ | refine ldPC ce.int rfl rfl rfl ?_
    refine c_gtr rfl rfl rfl ?_
    refine OL.nil ?_
    refine AW.cond rfl (fun h39 => ?_) (fun h39 => ?_)
    ·try simp only [dx9] at h39
     refine AW.sg hE rfl ?_
     refine asD rfl ?_
     refine OL.nil ?_
     exact AW.ret (RetQ.r ⟨_, .tmp rfl .nil, .le (VLe.int (by unfold cmpI; rw [if_neg (by omega), ← h2, lexI_step (by omega) (by omega), if_neg h30, if_pos h39]))⟩)
    ·try simp only [dx9] at h39
     refine AW.skip ?_
     refine AW.rg hE rfl ?_
     refine mvD rfl ?_
     refine add_i64 rfl rfl (by omega) ?_
     refine asD rfl ?_
     refine OL.nil ?_
     exact AW.again (x := i) (i + 1) (by first | omega | (simp only []; omega)) ⟨⟨by omega, by rw [lexI_step (by omega) (by omega), if_neg h30, if_neg h39] at h2; exact h2⟩, Knows.app (.cons (VLe.refl _) (.cons (VLe.refl _) .nil)) (.cons (by first | exact VLe.refl _ | exact VLe.int (by omega) | exact VLe.mt | exact vle_q0 | exact VLe.osl | exact VLe.ptr) .nil), .nil⟩
  ·try simp only [dx9] at h19
   refine AW.exit ?_
   refine AW.sg hE rfl ?_
   refine asD rfl ?_
   refine OL.nil ?_
   exact AW.ret (RetQ.r ⟨_, .tmp rfl .nil, .le (VLe.int (by unfold cmpI; rw [if_neg (by omega), ← h2, List.drop_eq_nil_of_le (by omega)]; simp [lexI]))⟩)
theorem ref40_Same {s1 w1 s2 w2 : List Int} {u1 u2 : Int} (n1 : s1.length ≤ 9223372036854775807) (n2 : w1.length ≤ 9223372036854775807) : FSpec P F.ref40_Same [vDrawn s1 w1 u1, vDrawn s2 w2 u2] (.d (dB (decide (u1 = u2 ∧ s1 = s2 ∧ w1 = w2)))) := by
 refine FSpec.intro fn.ref40_Same (by rfl) (by rfl) (nb9 (by rfl)) fun E hE => ?_
 refine AW.sg hE rfl ?_
 first | refine bxA rfl rfl fun b2 => ?_ | refine bxD rfl rfl fun b2 => ?_
 first | refine bxA rfl rfl fun b3 => ?_ | refine bxD rfl rfl fun b3 => ?_
 refine asD rfl ?_
 refine OL.nil ?_
 refine AW.sg hE rfl ?_
 first | refine faP fd.Drawn_2 rfl rfl ?_ | refine faR fd.Drawn_2 rfl rfl ?_ | refine faE fd.Drawn_2 rfl rfl ?_
 first | refine ldRC ce.int rfl ?_ | refine ldPC ce.int rfl rfl rfl ?_
 first | refine faP fd.Drawn_2 rfl rfl ?_ | refine faR fd.Drawn_2 rfl rfl ?_ | refine faE fd.Drawn_2 rfl rfl ?_
 first | refine ldRC ce.int rfl ?_ | refine ldPC ce.int rfl rfl rfl ?_
 refine c_eql rfl rfl rfl ?_
 refine mvD rfl ?_
 refine OL.split 10 rfl (fun g10 => ?_) (fun g10 => ?_)
 ·try simp only [dx9] at g10
  refine OL.yes rfl ?_
  first | refine faP fd.Drawn_0 rfl rfl ?_ | refine faR fd.Drawn_0 rfl rfl ?_ | refine faE fd.Drawn_0 rfl rfl ?_
  refine OL.yes rfl ?_
  first | refine ldRC ce.ints rfl ?_ | refine ldPC ce.ints rfl rfl rfl ?_
  refine OL.yes rfl ?_
  first | refine faP fd.Drawn_0 rfl rfl ?_ | refine faR fd.Drawn_0 rfl rfl ?_ | refine faE fd.Drawn_0 rfl rfl ?_
  refine OL.yes rfl ?_
  first | refine ldRC ce.ints rfl ?_ | refine ldPC ce.ints rfl rfl rfl ?_
  refine OL.yes rfl ?_
  refine clv rfl (.cons (by first | exact VLe.refl _ | exact VLe.mt | exact vle_q0 | exact VLe.ptr) (.cons (by first | exact VLe.refl _ | exact VLe.mt | exact vle_q0 | exact VLe.ptr) .nil)) (ref05_Compare (by omega)) ?_
  refine OL.yes rfl ?_
  refine c_eql rfl rfl rfl ?_
  refine pkT rfl rfl ?_
  refine mvD rfl ?_
  refine OL.split 18 rfl (fun g18 => ?_) (fun g18 => ?_)
  ·have g18 : s1 = s2 := cmpI_zero.1 (of_decide_eq_true g18)
   refine OL.yes rfl ?_
   first | refine faP fd.Drawn_1 rfl rfl ?_ | refine faR fd.Drawn_1 rfl rfl ?_ | refine faE fd.Drawn_1 rfl rfl ?_
   refine OL.yes rfl ?_
   first | refine ldRC ce.ints rfl ?_ | refine ldPC ce.ints rfl rfl rfl ?_
   refine OL.yes rfl ?_
   first | refine faP fd.Drawn_1 rfl rfl ?_ | refine faR fd.Drawn_1 rfl rfl ?_ | refine faE fd.Drawn_1 rfl rfl ?_
   refine OL.yes rfl ?_
   first | refine ldRC ce.ints rfl ?_ | refine ldPC ce.ints rfl rfl rfl ?_
   refine OL.yes rfl ?_
   refine clv rfl (.cons (by first | exact VLe.refl _ | exact VLe.mt | exact vle_q0 | exact VLe.ptr) (.cons (by first | exact VLe.refl _ | exact VLe.mt | exact vle_q0 | exact VLe.ptr) .nil)) (ref05_Compare (by omega)) ?_
   refine OL.yes rfl ?_
   refine c_eql rfl rfl rfl ?_
   refine pkT rfl rfl ?_
   refine asD rfl ?_
   refine OL.nil ?_
   exact AW.ret (RetQ.r ⟨_, .tmp rfl .nil, .le (VLe.bool (decide_eq_decide.2 ⟨fun h => ⟨g10, g18, cmpI_zero.1 h⟩, fun h => cmpI_zero.2 h.2.2⟩))⟩)
  ·have g18 : s1 ≠ s2 := fun e => of_decide_eq_false g18 (cmpI_zero.2 e)
   refine OL.no rfl (by decide) ?_
   refine OL.no rfl (by decide) ?_
   refine OL.no rfl (by decide) ?_
   refine OL.no rfl (by decide) ?_
   refine OL.no rfl (by decide) ?_
   refine OL.no rfl (by decide) ?_
   refine pkF rfl rfl ?_
   refine asD rfl ?_
   refine OL.nil ?_
   exact AW.ret (RetQ.r ⟨_, .tmp rfl .nil, .le (VLe.bool ((decide_eq_false fun h => g18 h.2.1).symm))⟩)
 ·try simp only [dx9] at g10
  refine OL.no rfl (by decide) ?_
  refine OL.no rfl (by decide) ?_
  refine OL.no rfl (by decide) ?_
  refine OL.no rfl (by decide) ?_
  refine OL.no rfl (by decide) ?_
  refine OL.no rfl (by decide) ?_
  refine pkF rfl rfl ?_
  refine mvD rfl ?_
  refine OL.no rfl (by decide) ?_
  refine OL.no rfl (by decide) ?_
  refine OL.no rfl (by decide) ?_
  refine OL.no rfl (by decide) ?_
  refine OL.no rfl (by decide) ?_
  refine OL.no rfl (by decide) ?_
  refine pkF rfl rfl ?_
  refine asD rfl ?_
  refine OL.nil ?_
  exact AW.ret (RetQ.r ⟨_, .tmp rfl .nil, .le (VLe.bool ((decide_eq_false fun h => g10 h.1).symm))⟩)
theorem law40_coinQ {q o : Rat} (hq : FSpec P F.ref01_Make [.d (dI 1), .d (dI 2)] (.tup [vQ q, .d (dI 0)])) (ho : FSpec P F.ref33_Whole [.d (dI 1)] (vQ o)) : FSpec P F.law40_coin [] (vHM ⟨2, 1, 0, [o], [[q]], [q], [[q, q]], [false], [0]⟩) := by
 refine FSpec.intro fn.law40_coin (by rfl) (by rfl) (nb9 (by rfl)) fun E hE => ?_
 refine AW.sg hE rfl ?_
 refine al z.Hidden rfl fun b0 => ?_
 refine OL.nil ?_
 refine AW.sg hE rfl ?_
 refine clv rfl (.cons (VLe.refl _) (.cons (VLe.refl _) .nil)) hq ?_
 first | refine mvD rfl ?_ | refine mvT rfl ?_ | refine mvP rfl ?_ | refine mvR rfl ?_ | refine mvE rfl ?_ | refine mvF rfl ?_ | refine mvA rfl ?_ | refine mvO rfl ?_ | refine mvM rfl ?_ | refine mvJ rfl ?_
 refine ex rfl rfl ?_
 refine ex rfl rfl ?_
 refine al z.Rat rfl fun b1 => ?_
 first | refine sto sz.Rat rfl rfl rfl rfl rfl (nb9 rfl) (cells2 := [_,_,_]) rfl ?_ | refine stE sz.Rat rfl (VC.d _).vd rfl rfl (by omega) rfl ?_
 refine asD rfl ?_
 refine OL.nil ?_
 refine AW.seq ?_
 refine AW.dg 1 [0,1,2,3,4,5,6,7,8,9,10,11,12,13,14] order_free hE rfl (by kernel_rfl) (OI.of_OL (os := [_,_,_,_,_,_,_,_,_,_,_,_,_,_,_]) rfl ?_)
 refine clv rfl (.cons (VLe.refl _) .nil) ho ?_
 refine lt1 (y := dQ _) sl.Rats vd_q rfl (by decide) ?_
 first | refine ldPA ag.Rat rfl rfl (vs := [_,_,_]) rfl (nb9 rfl) ?_ | refine ldRA ag.Rat rfl (vs := [_,_,_]) rfl (nb9 rfl) ?_
 refine lt1 (y := dQ _) sl.Rats vd_q rfl (by decide) ?_
 refine lt1 sl.Ratss (VC.d _).vd rfl (by decide) ?_
 first | refine ldPA ag.Rat rfl rfl (vs := [_,_,_]) rfl (nb9 rfl) ?_ | refine ldRA ag.Rat rfl (vs := [_,_,_]) rfl (nb9 rfl) ?_
 refine lt1 (y := dQ _) sl.Rats vd_q rfl (by decide) ?_
 first | refine ldPA ag.Rat rfl rfl (vs := [_,_,_]) rfl (nb9 rfl) ?_ | refine ldRA ag.Rat rfl (vs := [_,_,_]) rfl (nb9 rfl) ?_
 first | refine ldPA ag.Rat rfl rfl (vs := [_,_,_]) rfl (nb9 rfl) ?_ | refine ldRA ag.Rat rfl (vs := [_,_,_]) rfl (nb9 rfl) ?_
 refine lt2 (y := dQ _) (y2 := dQ _) sl.Rats vd_q vd_q ⟨rfl, rfl⟩ (by decide) ?_
 refine lt1 sl.Ratss (VC.d _).vd rfl (by decide) ?_
 refine lt1 sl.bools (VC.d _).vd rfl (by decide) ?_
 refine lt1 sl.ints (VC.d _).vd rfl (by decide) ?_
 refine bd2 (cs := [_,_,_,_,_,_,_,_,_,_,_]) z.Hidden pl.Hidden (pvC (by first | exact evD rfl | exact evA rfl | exact evM rfl | exact evO rfl | exact evP rfl) (pvC (by first | exact evD rfl | exact evA rfl | exact evM rfl | exact evO rfl | exact evP rfl) (pvC (by first | exact evD rfl | exact evA rfl | exact evM rfl | exact evO rfl | exact evP rfl) (pvC (by first | exact evD rfl | exact evA rfl | exact evM rfl | exact evO rfl | exact evP rfl) (pvC (by first | exact evD rfl | exact evA rfl | exact evM rfl | exact evO rfl | exact evP rfl) (pvC (by first | exact evD rfl | exact evA rfl | exact evM rfl | exact evO rfl | exact evP rfl) (pvC (by first | exact evD rfl | exact evA rfl | exact evM rfl | exact evO rfl | exact evP rfl) (pvC (by first | exact evD rfl | exact evA rfl | exact evM rfl | exact evO rfl | exact evP rfl) (pvN))))))))) (by rfl) ?_
 first | refine sto sz.Hidden rfl rfl rfl rfl rfl (nb9 rfl) (cells2 := [_,_,_,_,_,_,_,_,_,_,_]) rfl ?_ | refine stE sz.Hidden rfl (VC.d _).vd rfl rfl (by omega) rfl ?_
 refine OL.nil ?_
 exact AW.ret (RetQ.r ⟨_, .cellA rfl rfl ag.Hidden (nb9 rfl) .nil, .ag (.cons (.le (by first | exact VLe.refl _ | exact VLe.mt | exact vle_q0 | exact VLe.int (by omega) | exact VLe.bool (by simp_all))) (.cons (.le (by first | exact VLe.refl _ | exact VLe.mt | exact vle_q0 | exact VLe.int (by omega) | exact VLe.bool (by simp_all))) (.cons (.le (vle_of_eq (by show _ = V.d (dB (ofQ 0).neg); rw [ofQ_zero]))) (.cons (.le (by show VLe _ (.d (u32s (ofQ 0).num)); rw [ofQ_zero]; exact VLe.mt)) (.cons (.le (by show VLe _ (.d (u32s (ofQ 0).den)); rw [ofQ_zero]; exact VLe.mt)) (.cons (.le (by first | exact VLe.refl _ | exact VLe.mt | exact vle_q0 | exact VLe.int (by omega) | exact VLe.bool (by simp_all))) (.cons (.le (by first | exact VLe.refl _ | exact VLe.mt | exact vle_q0 | exact VLe.int (by omega) | exact VLe.bool (by simp_all))) (.cons (.le (by first | exact VLe.refl _ | exact VLe.mt | exact vle_q0 | exact VLe.int (by omega) | exact VLe.bool (by simp_all))) (.cons (.le (by first | exact VLe.refl _ | exact VLe.mt | exact vle_q0 | exact VLe.int (by omega) | exact VLe.bool (by simp_all))) (.cons (.le (by first | exact VLe.refl _ | exact VLe.mt | exact vle_q0 | exact VLe.int (by omega) | exact VLe.bool (by simp_all))) (.cons (.le (by first | exact VLe.refl _ | exact VLe.mt | exact vle_q0 | exact VLe.int (by omega) | exact VLe.bool (by simp_all))) .nil)))))))))))⟩)
theorem law40_coin : FSpec P F.law40_coin [] (vHM coinHM) := law40_coinQ ref_half ref33_Whole1
theorem sample_one  : FSpec P F.sample_one [] (vQ 1) := by
 refine FSpec.intro fn.sample_one (by rfl) (by rfl) (nb9 (by rfl)) fun E hE => ?_
 refine AW.sg hE rfl ?_
 refine al z.Rat rfl fun b0 => ?_
 refine OL.nil ?_
 refine AW.sg hE rfl ?_
 refine clv rfl (.cons (VLe.refl _) (.cons (VLe.refl _) .nil)) (rational_MakeQ (n := 1) (d := 1) (by decide) (by decide) (by decide)) ?_
 rw [q11]
 first | refine mvD rfl ?_ | refine mvT rfl ?_ | refine mvP rfl ?_ | refine mvR rfl ?_ | refine mvE rfl ?_ | refine mvF rfl ?_ | refine mvA rfl ?_ | refine mvO rfl ?_ | refine mvM rfl ?_ | refine mvJ rfl ?_
 refine ex rfl rfl ?_
 refine ex rfl rfl ?_
 refine al z.Rat rfl fun b1 => ?_
 first | refine sto sz.Rat rfl rfl rfl rfl rfl (nb9 rfl) (cells2 := [_,_,_]) rfl ?_ | refine stE sz.Rat rfl (VC.d _).vd rfl rfl (by omega) rfl ?_
 refine asD rfl ?_
 refine OL.nil ?_
 refine AW.sg hE rfl ?_
 first | refine ldPA ag.Rat rfl rfl (vs := [_,_,_]) rfl (nb9 rfl) ?_ | refine ldRA ag.Rat rfl (vs := [_,_,_]) rfl (nb9 rfl) ?_
 first | refine sto sz.Rat rfl rfl rfl rfl rfl (nb9 rfl) (cells2 := [_,_,_]) rfl ?_ | refine stE sz.Rat rfl (VC.d _).vd rfl rfl (by omega) rfl ?_
 refine OL.nil ?_
 exact AW.ret (RetQ.r ⟨_, .cellA rfl rfl ag.Rat (nb9 rfl) .nil, .ag (.cons (.le (by first | exact VLe.refl _ | exact VLe.mt | exact vle_q0 | exact VLe.int (by omega) | exact VLe.bool (by simp_all))) (.cons (.le (by first | exact VLe.refl _ | exact VLe.mt | exact vle_q0 | exact VLe.int (by omega) | exact VLe.bool (by simp_all))) (.cons (.le (by first | exact VLe.refl _ | exact VLe.mt | exact vle_q0 | exact VLe.int (by omega) | exact VLe.bool (by simp_all))) .nil)))⟩)
theorem clone_RatsR {l : List Rat} (nl : l.length ≤ 1099511627776) : FSpecR P F.slices_Clone_Rats_Rat [.d (dQs l)] l.length T.Rat 3 (l.map dQ) := by
 refine FSpecR.intro fn.slices_Clone_Rats_Rat (by rfl) (by rfl) (nb9 (by rfl)) 2 rfl fun E hE => ?_
 refine AW.sg hE rfl ?_
 refine asM rfl ?_
 refine OL.nil ?_
 refine AW.seq ?_
 refine AW.sg hE rfl ?_
 first | refine mvD rfl ?_ | refine mvO rfl ?_ | refine mvM rfl ?_
 refine isNil sl.Rats.u rfl (fun y hy => by obtain ⟨a, _, rfl⟩ := List.mem_map.1 hy; exact Nat.succ_pos _) rfl fun b hb => ?_
 refine OL.nil ?_
 refine AW.cond rfl (fun h => ?_) (fun h => ?_)
 ·have hL : l = [] := by have := hb h; simpa using this
  subst hL
  refine AW.sg hE rfl ?_
  refine asM rfl ?_
  refine OL.nil ?_
  refine AW.own 2 99 T.Rat 3 rfl rfl ?_
  exact AW.ret ⟨.inr rfl, 99, 0, 0, [], rfl, rfl, Nat.le_refl _, rfl⟩
 ·have _h := h
  refine AW.skip ?_
  refine AW.sg hE rfl ?_
  refine lt0 sl.Rats ?_
  first | refine mvD rfl ?_ | refine mvO rfl ?_ | refine mvM rfl ?_
  refine apM sl.Rats rfl rfl (VC.d _) dQ_len (by simp; omega) (by simp; omega) rfl fun b7 c7 => ?_
  first | refine asD rfl ?_ | refine asO rfl ?_ | refine asM rfl ?_
  refine OL.nil ?_
  exact AW.ret ⟨.inr rfl, 7, b7, c7, l.map dQ, by show V.osl 7 b7 (List.map dQ l).length c7 = _; rw [List.length_map], rfl, by rw [List.length_map]; exact Nat.le_refl _, List.take_of_length_le (by rw [List.length_map]; exact Nat.le_refl _)⟩
theorem sample_next {h : HM} {B : Nat} (f : HM.FormX 1048576 B h) {fr : Int} (hf : -1 ≤ fr ∧ fr < h.st) : FSpec P F.sample_next [vHM h, .d (dI fr)] (.d (dQs (if fr < 0 then h.ini ++ [h.empty] else h.trans.getD fr.toNat [] ++ [h.stop.getD fr.toNat 0]))) := by
 have e1 := f.ini
 have e2 := f.trans
 have e3 := f.stop
 have n1 := f.st1
 refine FSpec.intro fn.sample_next (by rfl) (by rfl) (nb9 (by rfl)) fun E hE => ?_
 refine AW.sg hE rfl ?_
 first | refine bxA rfl rfl fun b2 => ?_ | refine bxD rfl rfl fun b2 => ?_
 refine asM rfl ?_
 refine OL.nil ?_
 refine AW.seq ?_
 refine AW.sg hE rfl ?_
 refine mvD rfl ?_
 refine c_lss rfl rfl rfl ?_
 refine OL.nil ?_
 refine AW.cond rfl (fun hc => ?_) (fun hc => ?_)
 ·have hc := of_decide_eq_true hc
  rw [if_pos hc]
  refine AW.seq ?_
  refine AW.dg 22 [0,1,3,4,5,2,6,7] order_free hE rfl (by kernel_rfl) (OI.of_OL (os := [_,_,_,_,_,_,_,_]) rfl ?_)
  first | refine faP fd.Hidden_3 rfl rfl ?_ | refine faR fd.Hidden_3 rfl rfl ?_ | refine faE fd.Hidden_3 rfl rfl ?_
  first | refine ldRC ce.Rats rfl ?_ | refine ldPC ce.Rats rfl rfl rfl ?_
  first | refine faP fd.Hidden_2 rfl rfl ?_ | refine faR fd.Hidden_2 rfl rfl ?_ | refine faE fd.Hidden_2 rfl rfl ?_
  first | refine ldPA ag.Rat rfl rfl (vs := [_,_,_]) rfl (nb9 rfl) ?_ | refine ldRA ag.Rat rfl (vs := [_,_,_]) rfl (nb9 rfl) ?_
  refine lt1 (y := dQ _) sl.Rats vd_q rfl (by decide) ?_
  refine clRd rfl (.cons (VLe.refl _) .nil) (clone_RatsR (by omega)) rfl rfl fun b9 c9 => ?_
  refine apO sl.Rats rfl rfl rfl (by rw [List.length_map]) (VC.d _) (by simp [D.cells]) (by simp; omega) (by simp; omega) (.inl rfl) (ys := (h.ini ++ [h.empty]).map dQ) (by rw [List.map_append]; rfl) (n2 := (h.ini ++ [h.empty]).length) (by simp) fun b2 c2 => ?_
  first | refine asD rfl ?_ | refine asO rfl ?_ | refine asM rfl ?_
  refine OL.nil ?_
  exact AW.ret (RetQ.r ⟨_, .tmp rfl .nil, RO.row rfl (by rw [List.length_map]) rfl⟩)
 ·have hc := of_decide_eq_false hc
  have t1 := f.trow fr.toNat (by omega)
  rw [if_neg hc]
  refine AW.skip ?_
  refine AW.seq ?_
  refine AW.dg 42 [0,1,2,3,4,6,7,8,9,10,11,5,12,13] order_free hE rfl (by kernel_rfl) (OI.of_OL (os := [_,_,_,_,_,_,_,_,_,_,_,_,_,_]) rfl ?_)
  first | refine faP fd.Hidden_4 rfl rfl ?_ | refine faR fd.Hidden_4 rfl rfl ?_ | refine faE fd.Hidden_4 rfl rfl ?_
  first | refine ldRC ce.Ratss rfl ?_ | refine ldPC ce.Ratss rfl rfl rfl ?_
  refine mvD rfl ?_
  first | refine ixO sl.Ratss rfl rfl (by omega) (by omega) rfl ?_ | refine ixLn sl.Ratss [] rfl rfl (by omega) rfl rfl ?_ | refine ixL sl.Ratss [] rfl rfl (by omega) (by omega) rfl rfl ?_
  first | refine ldRC ce.Rats rfl ?_ | refine ldPC ce.Rats rfl rfl rfl ?_
  first | refine faP fd.Hidden_5 rfl rfl ?_ | refine faR fd.Hidden_5 rfl rfl ?_ | refine faE fd.Hidden_5 rfl rfl ?_
  first | refine ldRC ce.Rats rfl ?_ | refine ldPC ce.Rats rfl rfl rfl ?_
  refine mvD rfl ?_
  first | refine ixO sl.Rats rfl rfl (by omega) (by omega) rfl ?_ | refine ixLn sl.Rats 0 rfl rfl (by omega) rfl rfl ?_ | refine ixL sl.Rats 0 rfl rfl (by omega) (by omega) rfl rfl ?_
  first | refine ldPA ag.Rat rfl rfl (vs := [_,_,_]) rfl (nb9 rfl) ?_ | refine ldRA ag.Rat rfl (vs := [_,_,_]) rfl (nb9 rfl) ?_
  refine lt1 (y := dQ _) sl.Rats vd_q rfl (by decide) ?_
  refine clRd rfl (.cons (VLe.refl _) .nil) (clone_RatsR (by omega)) rfl rfl fun b9 c9 => ?_
  refine apO sl.Rats rfl rfl rfl (by rw [List.length_map]) (VC.d _) (by simp [D.cells]) (by simp only [List.length_cons, List.length_nil]; omega) (by simp only [List.length_cons, List.length_nil]; omega) (.inl rfl) (ys := (h.trans.getD fr.toNat [] ++ [h.stop.getD fr.toNat 0]).map dQ) (by rw [List.map_append]; rfl) (n2 := (h.trans.getD fr.toNat [] ++ [h.stop.getD fr.toNat 0]).length) (by simp) fun b2 c2 => ?_
  first | refine asD rfl ?_ | refine asO rfl ?_ | refine asM rfl ?_
  refine OL.nil ?_
  exact AW.ret (RetQ.r ⟨_, .tmp rfl .nil, RO.row rfl (by rw [List.length_map]) rfl⟩)
theorem sample_refuseR {h : RM} (zz : h.Sz) : FSpec P F.sample_refuse [vRM h] (.d (dI (chkP h))) := by
 refine FSpec.intro fn.sample_refuse (by rfl) (by rfl) (nb9 (by rfl)) fun E hE => ?_
 refine AW.sg hE rfl ?_
 first | refine bxA rfl rfl fun b1 => ?_ | refine bxD rfl rfl fun b1 => ?_
 refine asD rfl ?_
 refine OL.nil ?_
 refine AW.seq ?_
 refine AW.sg hE rfl ?_
 first | refine ldPA ag.Hidden rfl rfl (vs := [_,_,_,_,_,_,_,_,_,_,_]) rfl (nb9 rfl) ?_ | refine ldRA ag.Hidden rfl (vs := [_,_,_,_,_,_,_,_,_,_,_]) rfl (nb9 rfl) ?_
 refine clv rfl (.cons (VLe.refl _) (.nil)) (hmm_ValidR zz) ?_
 refine asD rfl ?_
 refine OL.nil ?_
 refine AW.sg hE rfl ?_
 refine mvD rfl ?_
 refine c_neq rfl rfl rfl ?_
 refine OL.nil ?_
 refine AW.cond rfl (fun c7 => ?_) (fun c7 => ?_)
 ·have c7 : ¬ chkE h = 0 := by simpa using c7
  refine AW.sg hE rfl ?_
  refine mvD rfl ?_
  refine asD rfl ?_
  refine OL.nil ?_
  exact AW.ret (RetQ.r ⟨_, .tmp rfl .nil, .le (VLe.int (chkP_e c7))⟩)
 ·have c7 : chkE h = 0 := by simpa using c7
  refine AW.skip ?_
  refine AW.seq ?_
  refine AW.sg hE rfl ?_
  first | refine ldPA ag.Hidden rfl rfl (vs := [_,_,_,_,_,_,_,_,_,_,_]) rfl (nb9 rfl) ?_ | refine ldRA ag.Hidden rfl (vs := [_,_,_,_,_,_,_,_,_,_,_]) rfl (nb9 rfl) ?_
  refine clv rfl (.cons (VLe.refl _) (.nil)) (hmm_PlainR zz) ?_
  refine nt rfl ?_
  refine OL.nil ?_
  refine AW.cond rfl (fun c11 => ?_) (fun c11 => ?_)
  ·have c11 : ¬ chkP h = 0 := by simpa using c11
   refine AW.sg hE rfl ?_
   refine asD rfl ?_
   refine OL.nil ?_
   exact AW.ret (RetQ.r ⟨_, .tmp rfl .nil, .le (VLe.int (chkP_4 c7 c11))⟩)
  ·have c11 : chkP h = 0 := by simpa using c11
   refine AW.skip ?_
   refine AW.sg hE rfl ?_
   refine asD rfl ?_
   refine OL.nil ?_
   exact AW.ret (RetQ.r ⟨_, .tmp rfl .nil, .le (VLe.int (c11.symm))⟩)
abbrev rdB (b : Nat) (bits : List Int) (r : Rd) : Blk := .box b T.reader [.d (ints bits), .d (dI r.used), .d (dB (ofQ r.read.lo).neg), .d (u32s (ofQ r.read.lo).num), .d (u32s (ofQ r.read.lo).den), .d (dB (ofQ r.read.len).neg), .d (u32s (ofQ r.read.len).num), .d (u32s (ofQ r.read.len).den)]
theorem sample_part {Q t : Nat} {s : Span} {ch : List Rat} (hd : Q ≠ 0 ∧ ll Q ≤ 42992000) (hs : SpanW Q t s) (ht : t ≤ 518) (hc : RowD Q ch) (hn : ch.length ≤ 40) {k : Nat} (hk : k < ch.length) : FSpec P F.sample_span_part [vSpan s, .d (dQs ch), .d (dI k)] (vSpan (s.part ch k)) := by
 obtain ⟨z1, z2, z3⟩ := hs.szs hd.1 hd.2 (by omega)
 have hkl : (ch.take k).length = k := take_len (by omega)
 refine FSpec.intro fn.sample_span_part (by rfl) (by rfl) (nb9 (by rfl)) fun E hE => ?_
 refine AW.sg hE rfl ?_
 first | refine bxA rfl rfl fun b3 => ?_ | refine bxD rfl rfl fun b3 => ?_
 refine al z.span rfl fun b6 => ?_
 refine OL.nil ?_
 refine AW.sg hE rfl ?_
 first | refine faP fd.span_0 rfl rfl ?_ | refine faR fd.span_0 rfl rfl ?_ | refine faE fd.span_0 rfl rfl ?_
 first | refine ldPA ag.Rat rfl rfl (vs := [_,_,_]) rfl (nb9 rfl) ?_ | refine ldRA ag.Rat rfl (vs := [_,_,_]) rfl (nb9 rfl) ?_
 refine al z.Rat rfl fun b7 => ?_
 first | refine sto sz.Rat rfl rfl rfl rfl rfl (nb9 rfl) (cells2 := [_,_,_]) rfl ?_ | refine stE sz.Rat rfl (VC.d _).vd rfl rfl (by omega) rfl ?_
 refine OL.nil ?_
 refine AW.seq ?_
 refine AW.sg hE rfl ?_
 first | refine mvD rfl ?_ | refine mvO rfl ?_ | refine mvM rfl ?_
 refine mvD rfl ?_
 refine slTo sl.Rats rfl rfl (fun _ => rfl) (by omega) (l2 := ch.take k) (by rw [Int.toNat_natCast]) ?_
 first | refine lnL sl.Rats rfl rfl ?_ | refine lnO sl.Rats rfl rfl ?_ | refine lnM sl.Rats rfl rfl ?_ | refine lnD sl.Rats rfl rfl rfl ?_
 refine mvD rfl ?_
 refine OL.nil ?_
 refine AW.block ?_
 refine AW.whileK (α := Nat) [(1, _), (2, _), (3, _), (6, _), (7, _), (14, _), (15, _)] [(3, _), (6, _)] (fun i => [(16, .d (dI i))]) (fun i => [(7, .box b7 T.Rat (cellsQ (partLo s ((ch.take k).take i))))]) (fun i => i ≤ (ch.take k).length) (fun i => (ch.take k).length - i) 0 (by repeat (first | exact Knows.nil | refine Knows.cons (by first | exact knD rfl | exact knA rfl | exact knP rfl | exact knO rfl | exact knM rfl | exact knE rfl | exact knR rfl | exact knF rfl | exact knT rfl | exact knJ) ?_)) (by repeat (first | exact Owns.nil | refine Owns.cons (by first | exact owB rfl | exact owR rfl | exact owL rfl | exact owT rfl) ?_)) ⟨Nat.zero_le _, .cons (by first | exact VLe.refl _ | exact VLe.int (by omega) | exact VLe.mt | exact vle_q0 | exact VLe.osl | exact VLe.ptr) .nil, .cons rfl .nil⟩ ?_
 intro i h1
 refine AW.sg hE rfl ?_
 refine c_lss rfl rfl rfl ?_
 refine OL.nil ?_
 refine AW.seq ?_
 refine AW.cond rfl (fun h17 => ?_) (fun h17 => ?_)
 ·try simp only [dx9] at h17
  refine AW.skip ?_
  refine AW.seq ?_
  refine AW.block ?_
  refine AW.sg hE rfl ?_
  first | refine ixO sl.Rats rfl rfl (by omega) (by omega) rfl ?_ | refine ixLn sl.Rats 0 rfl rfl (by omega) rfl rfl ?_ | refine ixL sl.Rats 0 rfl rfl (by omega) (by omega) rfl rfl ?_
  first | refine ldPA ag.Rat rfl rfl (vs := [_,_,_]) rfl (nb9 rfl) ?_ | refine ldRA ag.Rat rfl (vs := [_,_,_]) rfl (nb9 rfl) ?_
  refine al z.Rat rfl fun b9 => ?_
  first | refine sto sz.Rat rfl rfl rfl rfl rfl (nb9 rfl) (cells2 := [_,_,_]) rfl ?_ | refine stE sz.Rat rfl (VC.d _).vd rfl rfl (by omega) rfl ?_
  refine OL.nil ?_
  have hx := (hc.sm.take k).get (by decide) i
  have hm := sz_mul s.len ((ch.take k).getD i 0)
  have hp : sz (partLo s ((ch.take k).take i)) ≤ 22355840001 := by rw [List.take_take]; exact hs.plo_sz hd.1 hc hd.2 (by omega) _
  refine AW.dg 1 [0,1,2,3,4,5,6] order_free hE rfl (by kernel_rfl) (OI.of_OL (os := [_,_,_,_,_,_,_]) rfl ?_)
  first | refine ldPA ag.Rat rfl rfl (vs := [_,_,_]) rfl (nb9 rfl) ?_ | refine ldRA ag.Rat rfl (vs := [_,_,_]) rfl (nb9 rfl) ?_
  first | refine faP fd.span_1 rfl rfl ?_ | refine faR fd.span_1 rfl rfl ?_ | refine faE fd.span_1 rfl rfl ?_
  first | refine ldPA ag.Rat rfl rfl (vs := [_,_,_]) rfl (nb9 rfl) ?_ | refine ldRA ag.Rat rfl (vs := [_,_,_]) rfl (nb9 rfl) ?_
  first | refine ldPA ag.Rat rfl rfl (vs := [_,_,_]) rfl (nb9 rfl) ?_ | refine ldRA ag.Rat rfl (vs := [_,_,_]) rfl (nb9 rfl) ?_
  refine clv rfl (.cons (by first | exact VLe.refl _ | exact VLe.mt | exact vle_q0 | exact VLe.ptr) (.cons (by first | exact VLe.refl _ | exact VLe.mt | exact vle_q0 | exact VLe.ptr) .nil)) (rational_MulQ (by first | assumption | omega) (by first | assumption | omega)) ?_
  refine clv rfl (.cons (by first | exact VLe.refl _ | exact VLe.mt | exact vle_q0 | exact VLe.ptr) (.cons (by first | exact VLe.refl _ | exact VLe.mt | exact vle_q0 | exact VLe.ptr) .nil)) (rational_AddQ (by first | assumption | omega) (by first | assumption | omega)) ?_
  first | refine sto sz.Rat rfl rfl rfl rfl rfl (nb9 rfl) (cells2 := [_,_,_]) rfl ?_ | refine stE sz.Rat rfl (VC.d _).vd rfl rfl (by omega) rfl ?_
  refine OL.nil ?_
  refine AW.rg hE rfl ?_
  refine add_i64 rfl rfl (by omega) ?_
  refine mvD rfl ?_
  refine OL.nil ?_
  exact AW.again (x := i) (i + 1) (by first | omega | (simp only []; omega)) ⟨by omega, Knows.app (.cons (VLe.refl _) (.cons (VLe.refl _) (.cons (VLe.refl _) (.cons (VLe.refl _) (.cons (VLe.refl _) (.cons (VLe.refl _) (.cons (VLe.refl _) .nil))))))) (.cons (by first | exact VLe.refl _ | exact VLe.int (by omega) | exact VLe.mt | exact vle_q0 | exact VLe.osl | exact VLe.ptr) .nil), Owns.app (.cons rfl (.cons rfl .nil)) (.cons (by rw [partLo_take_succ (by omega)]; rfl) .nil)⟩
 ·try simp only [dx9] at h17
  refine AW.exit ?_
  refine AW.seq ?_
  obtain rfl : i = (ch.take k).length := by omega
  have hx := hc.sm.get (by decide) k
  refine AW.dg 1 [0,1,2,3,4,5,6,7,8,9] order_free hE rfl (by kernel_rfl) (OI.of_OL (os := [_,_,_,_,_,_,_,_,_,_]) rfl ?_)
  first | refine ldPA ag.Rat rfl rfl (vs := [_,_,_]) rfl (nb9 rfl) ?_ | refine ldRA ag.Rat rfl (vs := [_,_,_]) rfl (nb9 rfl) ?_
  first | refine faP fd.span_1 rfl rfl ?_ | refine faR fd.span_1 rfl rfl ?_ | refine faE fd.span_1 rfl rfl ?_
  first | refine ldPA ag.Rat rfl rfl (vs := [_,_,_]) rfl (nb9 rfl) ?_ | refine ldRA ag.Rat rfl (vs := [_,_,_]) rfl (nb9 rfl) ?_
  first | refine mvD rfl ?_ | refine mvO rfl ?_ | refine mvM rfl ?_
  refine mvD rfl ?_
  first | refine ixO sl.Rats rfl rfl (by omega) (by omega) rfl ?_ | refine ixLn sl.Rats 0 rfl rfl (by omega) rfl rfl ?_ | refine ixL sl.Rats 0 rfl rfl (by omega) (by omega) rfl rfl ?_
  first | refine ldPA ag.Rat rfl rfl (vs := [_,_,_]) rfl (nb9 rfl) ?_ | refine ldRA ag.Rat rfl (vs := [_,_,_]) rfl (nb9 rfl) ?_
  refine clv rfl (.cons (by first | exact VLe.refl _ | exact VLe.mt | exact vle_q0 | exact VLe.ptr) (.cons (by first | exact VLe.refl _ | exact VLe.mt | exact vle_q0 | exact VLe.ptr) .nil)) (rational_MulQ (by first | assumption | omega) (by first | assumption | omega)) ?_
  refine bd z.span pl.span (cs := [_,_,_,_,_,_]) rfl ?_
  first | refine sto sz.span rfl rfl rfl rfl rfl (nb9 rfl) (cells2 := [_,_,_,_,_,_]) rfl ?_ | refine stE sz.span rfl (VC.d _).vd rfl rfl (by omega) rfl ?_
  refine OL.nil ?_
  exact AW.ret (RetQ.r ⟨_, .cellA rfl rfl ag.span (nb9 rfl) .nil, .ag (.cons (.le (by rw [List.take_length]; exact VLe.refl _)) (.cons (.le (by rw [List.take_length]; exact VLe.refl _)) (.cons (.le (by rw [List.take_length]; exact VLe.refl _)) (.cons (.le (by first | exact VLe.refl _ | exact VLe.mt | exact vle_q0 | exact VLe.int (by omega) | exact VLe.bool (by simp_all))) (.cons (.le (by first | exact VLe.refl _ | exact VLe.mt | exact vle_q0 | exact VLe.int (by omega) | exact VLe.bool (by simp_all))) (.cons (.le (by first | exact VLe.refl _ | exact VLe.mt | exact vle_q0 | exact VLe.int (by omega) | exact VLe.bool (by simp_all))) .nil))))))⟩)
theorem sample_inside {s u : Span} (h1 : sz s.lo ≤ 30000000000) (h2 : sz s.len ≤ 30000000000) (h3 : sz u.lo ≤ 30000000000) (h4 : sz u.len ≤ 30000000000) : FSpec P F.sample_span_inside [vSpan s, vSpan u] (.d (dB (decide (s.inside u)))) := by
 have a1 := sz_add s.lo s.len
 have a2 := sz_add u.lo u.len
 refine FSpec.intro fn.sample_span_inside (by rfl) (by rfl) (nb9 (by rfl)) fun E hE => ?_
 refine AW.sg hE rfl ?_
 first | refine bxA rfl rfl fun b2 => ?_ | refine bxD rfl rfl fun b2 => ?_
 first | refine bxA rfl rfl fun b3 => ?_ | refine bxD rfl rfl fun b3 => ?_
 refine asD rfl ?_
 refine OL.nil ?_
 refine AW.seq ?_
 refine AW.dg 1 [0,1,2,3,4,5,6,7,8,9,10,11,12,13,14,15,16,17,18,19,20] order_free hE rfl (by kernel_rfl) (OI.of_OL (os := [_,_,_,_,_,_,_,_,_,_,_,_,_,_,_,_,_,_,_,_,_]) rfl ?_)
 first | refine faP fd.span_0 rfl rfl ?_ | refine faR fd.span_0 rfl rfl ?_ | refine faE fd.span_0 rfl rfl ?_
 first | refine ldPA ag.Rat rfl rfl (vs := [_,_,_]) rfl (nb9 rfl) ?_ | refine ldRA ag.Rat rfl (vs := [_,_,_]) rfl (nb9 rfl) ?_
 first | refine faP fd.span_0 rfl rfl ?_ | refine faR fd.span_0 rfl rfl ?_ | refine faE fd.span_0 rfl rfl ?_
 first | refine ldPA ag.Rat rfl rfl (vs := [_,_,_]) rfl (nb9 rfl) ?_ | refine ldRA ag.Rat rfl (vs := [_,_,_]) rfl (nb9 rfl) ?_
 refine clv rfl (.cons (by first | exact VLe.refl _ | exact VLe.mt | exact vle_q0 | exact VLe.ptr) (.cons (by first | exact VLe.refl _ | exact VLe.mt | exact vle_q0 | exact VLe.ptr) .nil)) (rational_CompareQ (by first | assumption | omega) (by first | assumption | omega)) ?_
 refine c_leq rfl rfl rfl ?_
 refine mvD rfl ?_
 refine OL.split 11 rfl (fun g => ?_) (fun g => ?_)
 ·have g : u.lo ≤ s.lo := cmpQ_le.1 (of_decide_eq_true g)
  refine OL.yes rfl ?_
  first | refine faP fd.span_0 rfl rfl ?_ | refine faR fd.span_0 rfl rfl ?_ | refine faE fd.span_0 rfl rfl ?_
  refine OL.yes rfl ?_
  first | refine ldPA ag.Rat rfl rfl (vs := [_,_,_]) rfl (nb9 rfl) ?_ | refine ldRA ag.Rat rfl (vs := [_,_,_]) rfl (nb9 rfl) ?_
  refine OL.yes rfl ?_
  first | refine faP fd.span_1 rfl rfl ?_ | refine faR fd.span_1 rfl rfl ?_ | refine faE fd.span_1 rfl rfl ?_
  refine OL.yes rfl ?_
  first | refine ldPA ag.Rat rfl rfl (vs := [_,_,_]) rfl (nb9 rfl) ?_ | refine ldRA ag.Rat rfl (vs := [_,_,_]) rfl (nb9 rfl) ?_
  refine OL.yes rfl ?_
  refine clv rfl (.cons (by first | exact VLe.refl _ | exact VLe.mt | exact vle_q0 | exact VLe.ptr) (.cons (by first | exact VLe.refl _ | exact VLe.mt | exact vle_q0 | exact VLe.ptr) .nil)) (rational_AddQ (by first | assumption | omega) (by first | assumption | omega)) ?_
  refine OL.yes rfl ?_
  first | refine faP fd.span_0 rfl rfl ?_ | refine faR fd.span_0 rfl rfl ?_ | refine faE fd.span_0 rfl rfl ?_
  refine OL.yes rfl ?_
  first | refine ldPA ag.Rat rfl rfl (vs := [_,_,_]) rfl (nb9 rfl) ?_ | refine ldRA ag.Rat rfl (vs := [_,_,_]) rfl (nb9 rfl) ?_
  refine OL.yes rfl ?_
  first | refine faP fd.span_1 rfl rfl ?_ | refine faR fd.span_1 rfl rfl ?_ | refine faE fd.span_1 rfl rfl ?_
  refine OL.yes rfl ?_
  first | refine ldPA ag.Rat rfl rfl (vs := [_,_,_]) rfl (nb9 rfl) ?_ | refine ldRA ag.Rat rfl (vs := [_,_,_]) rfl (nb9 rfl) ?_
  refine OL.yes rfl ?_
  refine clv rfl (.cons (by first | exact VLe.refl _ | exact VLe.mt | exact vle_q0 | exact VLe.ptr) (.cons (by first | exact VLe.refl _ | exact VLe.mt | exact vle_q0 | exact VLe.ptr) .nil)) (rational_AddQ (by first | assumption | omega) (by first | assumption | omega)) ?_
  refine OL.yes rfl ?_
  refine clv rfl (.cons (by first | exact VLe.refl _ | exact VLe.mt | exact vle_q0 | exact VLe.ptr) (.cons (by first | exact VLe.refl _ | exact VLe.mt | exact vle_q0 | exact VLe.ptr) .nil)) (rational_CompareQ (by first | assumption | omega) (by first | assumption | omega)) ?_
  refine OL.yes rfl ?_
  refine c_leq rfl rfl rfl ?_
  refine pkT rfl rfl ?_
  refine asD rfl ?_
  refine OL.nil ?_
  exact AW.ret (RetQ.r ⟨_, .tmp rfl .nil, .le (VLe.bool (decide_eq_decide.2 ⟨fun h => ⟨g, cmpQ_le.1 h⟩, fun h => cmpQ_le.2 h.2⟩))⟩)
 ·have g : ¬ u.lo ≤ s.lo := fun e => of_decide_eq_false g (cmpQ_le.2 e)
  refine OL.no rfl (by decide) ?_
  refine OL.no rfl (by decide) ?_
  refine OL.no rfl (by decide) ?_
  refine OL.no rfl (by decide) ?_
  refine OL.no rfl (by decide) ?_
  refine OL.no rfl (by decide) ?_
  refine OL.no rfl (by decide) ?_
  refine OL.no rfl (by decide) ?_
  refine OL.no rfl (by decide) ?_
  refine OL.no rfl (by decide) ?_
  refine OL.no rfl (by decide) ?_
  refine OL.no rfl (by decide) ?_
  refine pkF rfl rfl ?_
  refine asD rfl ?_
  refine OL.nil ?_
  exact AW.ret (RetQ.r ⟨_, .tmp rfl .nil, .le (VLe.bool ((decide_eq_false fun h => g h.1).symm))⟩)
theorem sample_choose {bits : List Int} {r : Rd} {b : Nat} {Q t : Nat} {s : Span} {ch : List Rat} (hd : Q ≠ 0 ∧ ll Q ≤ 42992000) (hs : SpanW Q t s) (ht : t ≤ 518) (hc : RowD Q ch) (hn : ch.length ≤ 40) (hr : RdOK bits r) : FSpecM P F.sample_reader_choose [.ptr 1000 b 0, vSpan s, .d (dQs ch)] (mem1 1000 (rdB b bits r)) (.tup [.d (dI (chK (chooseB bits s ch r))), vSpan (chS s ch (chooseB bits s ch r)), .d (dI (chE (chooseB bits s ch r)))]) (mem1 1000 (rdB b bits (chEnd bits s ch r))) := by
 refine FSpecM.intro fn.sample_reader_choose (by rfl) (by rfl) (nb9 (by rfl)) fun E hE => ?_
 refine AW.sg hE rfl ?_
 first | refine bxA rfl rfl fun b4 => ?_ | refine bxD rfl rfl fun b4 => ?_
 refine asD rfl ?_
 refine al z.span rfl fun b7 => ?_
 refine asD rfl ?_
 refine OL.nil ?_
 refine AW.block ?_
 refine AW.whileK (α := Rd) [(0, _), (2, _), (4, _), (7, _)] [(4, _)] (fun q => []) (fun q => [(1000, rdB b bits q), (7, .box b7 T.span [.d (dB false), .mt, .mt, .d (dB false), .mt, .mt])]) (fun q => RdOK bits q ∧ chooseB bits s ch q = chooseB bits s ch r ∧ chEnd bits s ch q = chEnd bits s ch r) (fun q => bits.length - q.used) r (by repeat (first | exact Knows.nil | refine Knows.cons (by first | exact knD rfl | exact knA rfl | exact knP rfl | exact knO rfl | exact knM rfl | exact knE rfl | exact knR rfl | exact knF rfl | exact knT rfl | exact knJ) ?_)) (.cons (by first | exact owB rfl | exact owR rfl | exact owL rfl | exact owT rfl) .nil) ⟨⟨hr, rfl, rfl⟩, .nil, .cons rfl (.cons rfl .nil)⟩ ?_
 rintro q ⟨hq, e1, e2⟩
 have q1 := hq.used
 have q2 := hq.bits
 have q3 := hq.lo
 have q4 := hq.len
 obtain ⟨z1, z2, z3⟩ := hs.szs hd.1 hd.2 (by omega)
 refine AW.block ?_
 refine AW.midK (α := Unit) [(0, _), (2, _), (4, _), (7, _)] [(4, _), (1000, _)] (fun _u => []) (fun _u => [(7, .box b7 T.span [.d (dB false), .mt, .mt, .d (dB false), .mt, .mt])]) (fun _u => firstK q.read s ch = none) (by repeat (first | exact Knows.nil | refine Knows.cons (by first | exact knD rfl | exact knA rfl | exact knP rfl | exact knO rfl | exact knM rfl | exact knE rfl | exact knR rfl | exact knF rfl | exact knT rfl | exact knJ) ?_)) (by repeat (first | exact Owns.nil | refine Owns.cons (by first | exact owB rfl | exact owR rfl | exact owL rfl | exact owT rfl) ?_)) ?_ ?_
 ·refine AW.sg hE rfl ?_
  first | refine mvD rfl ?_ | refine mvO rfl ?_ | refine mvM rfl ?_
  first | refine lnL sl.Rats rfl rfl ?_ | refine lnO sl.Rats rfl rfl ?_ | refine lnM sl.Rats rfl rfl ?_ | refine lnD sl.Rats rfl rfl rfl ?_
  refine mvD rfl ?_
  refine OL.nil ?_
  refine AW.block ?_
  refine AW.whileK (α := Nat) [(0, _), (2, _), (4, _), (7, _), (14, _), (15, _)] [(4, _), (1000, _)] (fun i => [(16, .d (dI i))]) (fun i => [(7, .box b7 T.span [.d (dB false), .mt, .mt, .d (dB false), .mt, .mt])]) (fun i => i ≤ ch.length ∧ ∀ j, j < i → ¬ Sure q.read s ch j) (fun i => ch.length - i) 0 (by repeat (first | exact Knows.nil | refine Knows.cons (by first | exact knD rfl | exact knA rfl | exact knP rfl | exact knO rfl | exact knM rfl | exact knE rfl | exact knR rfl | exact knF rfl | exact knT rfl | exact knJ) ?_)) (by repeat (first | exact Owns.nil | refine Owns.cons (by first | exact owB rfl | exact owR rfl | exact owL rfl | exact owT rfl) ?_)) ⟨⟨Nat.zero_le _, fun j hj => by omega⟩, .cons (by first | exact VLe.refl _ | exact VLe.int (by omega) | exact VLe.mt | exact vle_q0 | exact VLe.osl | exact VLe.ptr) .nil, .cons rfl .nil⟩ ?_
  rintro i ⟨h1, h2⟩
  refine AW.sg hE rfl ?_
  refine c_lss rfl rfl rfl ?_
  refine OL.nil ?_
  refine AW.seq ?_
  refine AW.cond rfl (fun h17 => ?_) (fun h17 => ?_)
  ·try simp only [dx9] at h17
   refine AW.skip ?_
   refine AW.seq ?_
   refine AW.block ?_
   refine AW.sg hE rfl ?_
   refine mvD rfl ?_
   first | refine ixO sl.Rats rfl rfl (by omega) (by omega) rfl ?_ | refine ixLn sl.Rats 0 rfl rfl (by omega) rfl rfl ?_ | refine ixL sl.Rats 0 rfl rfl (by omega) (by omega) rfl rfl ?_
   first | refine ldPA ag.Rat rfl rfl (vs := [_,_,_]) rfl (nb9 rfl) ?_ | refine ldRA ag.Rat rfl (vs := [_,_,_]) rfl (nb9 rfl) ?_
   refine al z.Rat rfl fun b10 => ?_
   refine asD rfl ?_
   first | refine sto sz.Rat rfl rfl rfl rfl rfl (nb9 rfl) (cells2 := [_,_,_]) rfl ?_ | refine stE sz.Rat rfl (VC.d _).vd rfl rfl (by omega) rfl ?_
   refine OL.nil ?_
   refine AW.seq ?_
   have hx := hc.sm.get (by decide) i
   refine AW.rg hE rfl ?_
   first | refine ldPA ag.Rat rfl rfl (vs := [_,_,_]) rfl (nb9 rfl) ?_ | refine ldRA ag.Rat rfl (vs := [_,_,_]) rfl (nb9 rfl) ?_
   refine clv rfl (.cons (by first | exact VLe.refl _ | exact VLe.mt | exact vle_q0 | exact VLe.ptr) .nil) (rational_SignQ (by first | assumption | omega)) ?_
   refine c_gtr rfl rfl rfl ?_
   refine OL.nil ?_
   refine AW.cond rfl (fun hpos => ?_) (fun hpos => ?_)
   ·have hpos : 0 < ch.getD i 0 := by have h3 := sgnQ_cases (ch.getD i 0); have h4 := of_decide_eq_true hpos; exact sgnQ_pos.1 (by omega)
    refine AW.sg hE rfl ?_
    first | refine ldPA ag.span rfl rfl (vs := [_,_,_,_,_,_]) rfl (nb9 rfl) ?_ | refine ldRA ag.span rfl (vs := [_,_,_,_,_,_]) rfl (nb9 rfl) ?_
    first | refine mvD rfl ?_ | refine mvO rfl ?_ | refine mvM rfl ?_
    refine mvD rfl ?_
    refine clv rfl (.cons (VLe.refl _) (.cons (VLe.refl _) (.cons (VLe.refl _) .nil))) (sample_part hd hs ht hc hn (by omega)) ?_
    have hP := hs.part hd.1 hc i (by omega)
    obtain ⟨p1, p2, p3⟩ := hP.szs hd.1 hd.2 (by omega)
    refine al z.span rfl fun b11 => ?_
    first | refine sto sz.span rfl rfl rfl rfl rfl (nb9 rfl) (cells2 := [_,_,_,_,_,_]) rfl ?_ | refine stE sz.span rfl (VC.d _).vd rfl rfl (by omega) rfl ?_
    refine OL.nil ?_
    refine AW.seq ?_
    refine AW.dg 1 [0,1,2,3,4,5] order_free hE rfl (by kernel_rfl) (OI.of_OL (os := [_,_,_,_,_,_]) rfl ?_)
    first | refine mvD rfl ?_ | refine mvT rfl ?_ | refine mvP rfl ?_ | refine mvR rfl ?_ | refine mvE rfl ?_ | refine mvF rfl ?_ | refine mvA rfl ?_ | refine mvO rfl ?_ | refine mvM rfl ?_ | refine mvJ rfl ?_
    first | refine ncP rfl ?_ | refine ncR rfl ?_ | refine ncE rfl ?_
    first | refine faP fd.reader_2 rfl rfl ?_ | refine faR fd.reader_2 rfl rfl ?_ | refine faE fd.reader_2 rfl rfl ?_
    first | refine ldPA ag.span rfl rfl (vs := [_,_,_,_,_,_]) rfl (nb9 rfl) ?_ | refine ldRA ag.span rfl (vs := [_,_,_,_,_,_]) rfl (nb9 rfl) ?_
    first | refine ldPA ag.span rfl rfl (vs := [_,_,_,_,_,_]) rfl (nb9 rfl) ?_ | refine ldRA ag.span rfl (vs := [_,_,_,_,_,_]) rfl (nb9 rfl) ?_
    refine clv rfl (.cons (VLe.refl _) (.cons (VLe.refl _) .nil)) (sample_inside (s := q.read) (by omega) (by omega) (by omega) (by omega)) ?_
    refine OL.nil ?_
    refine AW.cond rfl (fun hin => ?_) (fun hin => ?_)
    ·have hin := of_decide_eq_true hin
     have hfk := firstK_some (by omega) ⟨hpos, hin⟩ h2
     have e3 : chooseB bits s ch r = some (i, q) := by rw [← e1, chooseB, hfk]
     have e4 : chEnd bits s ch r = q := by rw [← e2, chEnd, hfk]
     rw [e3, e4]
     refine AW.seq ?_
     refine AW.dg 1 [0,1,2,3,4] order_free hE rfl (by kernel_rfl) (OI.of_OL (os := [_,_,_,_,_]) rfl ?_)
     refine mvD rfl ?_
     first | refine ldPA ag.span rfl rfl (vs := [_,_,_,_,_,_]) rfl (nb9 rfl) ?_ | refine ldRA ag.span rfl (vs := [_,_,_,_,_,_]) rfl (nb9 rfl) ?_
     refine asD rfl ?_
     first | refine sto sz.span rfl rfl rfl rfl rfl (nb9 rfl) (cells2 := [_,_,_,_,_,_]) rfl ?_ | refine stE sz.span rfl (VC.d _).vd rfl rfl (by omega) rfl ?_
     refine asD rfl ?_
     refine OL.nil ?_
     exact AW.ret ⟨⟨_, .tmp rfl (.cellA rfl rfl ag.span (nb9 rfl) (.tmp rfl .nil)), _, .cons (.le (by first | exact VLe.refl _ | exact VLe.mt | exact vle_q0 | exact VLe.int (by omega) | exact VLe.bool (by simp_all))) (.cons (.ag (.cons (.le (by first | exact VLe.refl _ | exact VLe.mt | exact vle_q0 | exact VLe.int (by omega) | exact VLe.bool (by simp_all))) (.cons (.le (by first | exact VLe.refl _ | exact VLe.mt | exact vle_q0 | exact VLe.int (by omega) | exact VLe.bool (by simp_all))) (.cons (.le (by first | exact VLe.refl _ | exact VLe.mt | exact vle_q0 | exact VLe.int (by omega) | exact VLe.bool (by simp_all))) (.cons (.le (by first | exact VLe.refl _ | exact VLe.mt | exact vle_q0 | exact VLe.int (by omega) | exact VLe.bool (by simp_all))) (.cons (.le (by first | exact VLe.refl _ | exact VLe.mt | exact vle_q0 | exact VLe.int (by omega) | exact VLe.bool (by simp_all))) (.cons (.le (by first | exact VLe.refl _ | exact VLe.mt | exact vle_q0 | exact VLe.int (by omega) | exact VLe.bool (by simp_all))) .nil))))))) (.cons (.le (by first | exact VLe.refl _ | exact VLe.mt | exact vle_q0 | exact VLe.int (by omega) | exact VLe.bool (by simp_all))) .nil)), rfl⟩, mem1_keep rfl⟩
    ·have hin := of_decide_eq_false hin
     refine AW.skip ?_
     refine AW.rg hE rfl ?_
     refine add_i64 rfl rfl (by omega) ?_
     refine mvD rfl ?_
     refine OL.nil ?_
     exact AW.again (x := i) (i + 1) (by first | omega | (simp only []; omega)) ⟨⟨by omega, fun j hj => by rcases Nat.lt_or_ge j i with h | h; exact h2 j h; obtain rfl : j = i := (by omega); exact fun hS => hin hS.2⟩, Knows.app (.cons (VLe.refl _) (.cons (VLe.refl _) (.cons (VLe.refl _) (.cons (VLe.refl _) (.cons (VLe.refl _) (.cons (VLe.refl _) .nil)))))) (.cons (by first | exact VLe.refl _ | exact VLe.int (by omega) | exact VLe.mt | exact vle_q0 | exact VLe.osl | exact VLe.ptr) .nil), Owns.app (.cons rfl (.cons rfl .nil)) (.cons rfl .nil)⟩
   ·have hpos : ¬ 0 < ch.getD i 0 := fun e => by have h4 := of_decide_eq_false hpos; rw [sgnQ_pos.2 e] at h4; exact h4 (by decide)
    refine AW.skip ?_
    refine AW.rg hE rfl ?_
    refine add_i64 rfl rfl (by omega) ?_
    refine mvD rfl ?_
    refine OL.nil ?_
    exact AW.again (x := i) (i + 1) (by first | omega | (simp only []; omega)) ⟨⟨by omega, fun j hj => by rcases Nat.lt_or_ge j i with h | h; exact h2 j h; obtain rfl : j = i := (by omega); exact fun hS => hpos hS.1⟩, Knows.app (.cons (VLe.refl _) (.cons (VLe.refl _) (.cons (VLe.refl _) (.cons (VLe.refl _) (.cons (VLe.refl _) (.cons (VLe.refl _) .nil)))))) (.cons (by first | exact VLe.refl _ | exact VLe.int (by omega) | exact VLe.mt | exact vle_q0 | exact VLe.osl | exact VLe.ptr) .nil), Owns.app (.cons rfl (.cons rfl .nil)) (.cons rfl .nil)⟩
  ·try simp only [dx9] at h17
   refine AW.exit ?_
   exact AW.reach () ⟨firstK_none fun j hj => h2 j (by omega), Knows.app (.cons (VLe.refl _) (.cons (VLe.refl _) (.cons (VLe.refl _) (.cons (VLe.refl _) .nil)))) (.nil), Owns.app (.cons rfl (.cons rfl .nil)) (.cons rfl .nil)⟩
 rintro ⟨⟩ hno
 refine AW.seq ?_
 refine AW.seq ?_
 refine AW.dg 1 [0,1,2,3,4,5,6,7,8,9] order_free hE rfl (by kernel_rfl) (OI.of_OL (os := [_,_,_,_,_,_,_,_,_,_]) rfl ?_)
 first | refine mvD rfl ?_ | refine mvT rfl ?_ | refine mvP rfl ?_ | refine mvR rfl ?_ | refine mvE rfl ?_ | refine mvF rfl ?_ | refine mvA rfl ?_ | refine mvO rfl ?_ | refine mvM rfl ?_ | refine mvJ rfl ?_
 first | refine ncP rfl ?_ | refine ncR rfl ?_ | refine ncE rfl ?_
 first | refine faP fd.reader_1 rfl rfl ?_ | refine faR fd.reader_1 rfl rfl ?_ | refine faE fd.reader_1 rfl rfl ?_
 first | refine ldRC ce.int rfl ?_ | refine ldPC ce.int rfl rfl rfl ?_
 first | refine mvD rfl ?_ | refine mvT rfl ?_ | refine mvP rfl ?_ | refine mvR rfl ?_ | refine mvE rfl ?_ | refine mvF rfl ?_ | refine mvA rfl ?_ | refine mvO rfl ?_ | refine mvM rfl ?_ | refine mvJ rfl ?_
 first | refine ncP rfl ?_ | refine ncR rfl ?_ | refine ncE rfl ?_
 first | refine faP fd.reader_0 rfl rfl ?_ | refine faR fd.reader_0 rfl rfl ?_ | refine faE fd.reader_0 rfl rfl ?_
 first | refine ldRC ce.ints rfl ?_ | refine ldPC ce.ints rfl rfl rfl ?_
 first | refine lnL sl.ints rfl rfl ?_ | refine lnO sl.ints rfl rfl ?_ | refine lnM sl.ints rfl rfl ?_ | refine lnD sl.ints rfl rfl rfl ?_
 refine c_eql rfl rfl rfl ?_
 refine OL.nil ?_
 refine AW.cond rfl (fun hend => ?_) (fun hend => ?_)
 ·have hend := of_decide_eq_true hend
  have e3 : chooseB bits s ch r = none := by rw [← e1, chooseB, hno]; simp only; rw [if_neg (by omega)]
  have e4 : chEnd bits s ch r = q := by rw [← e2, chEnd, hno]; simp only; rw [if_neg (by omega)]
  rw [e3, e4]
  refine AW.sg hE rfl ?_
  refine bd z.span pl.span (cs := [_,_,_,_,_,_]) rfl ?_
  refine asD rfl ?_
  first | refine sto sz.span rfl rfl rfl rfl rfl (nb9 rfl) (cells2 := [_,_,_,_,_,_]) rfl ?_ | refine stE sz.span rfl (VC.d _).vd rfl rfl (by omega) rfl ?_
  refine asD rfl ?_
  refine OL.nil ?_
  exact AW.ret ⟨⟨_, .tmp rfl (.cellA rfl rfl ag.span (nb9 rfl) (.tmp rfl .nil)), _, .cons (.le (by first | exact VLe.refl _ | exact VLe.mt | exact vle_q0 | exact VLe.int (by omega) | exact VLe.bool (by simp_all))) (.cons (.ag (.cons (.le (by show VLe _ (.d (dB (ofQ 0).neg)); rw [ofQ_zero]; exact VLe.refl _)) (.cons (.le (by show VLe _ (.d (u32s (ofQ 0).num)); rw [ofQ_zero]; exact VLe.mt)) (.cons (.le (by show VLe _ (.d (u32s (ofQ 0).den)); rw [ofQ_zero]; exact VLe.mt)) (.cons (.le (by show VLe _ (.d (dB (ofQ 0).neg)); rw [ofQ_zero]; exact VLe.refl _)) (.cons (.le (by show VLe _ (.d (u32s (ofQ 0).num)); rw [ofQ_zero]; exact VLe.mt)) (.cons (.le (by show VLe _ (.d (u32s (ofQ 0).den)); rw [ofQ_zero]; exact VLe.mt)) .nil))))))) (.cons (.le (by first | exact VLe.refl _ | exact VLe.mt | exact vle_q0 | exact VLe.int (by omega) | exact VLe.bool (by simp_all))) .nil)), rfl⟩, mem1_keep rfl⟩
 ·have hend := of_decide_eq_false hend
  have hlt : q.used < bits.length := by omega
  have hst := hq.step hlt
  have u1 := hst.used
  have u3 := hst.lo
  have hh := half_sz
  have hM := rational_half
  have u4 := sz_mul q.read.len (1 / 2)
  generalize hgh : (1 / 2 : Rat) = half at *
  refine AW.skip ?_
  refine AW.sg hE rfl ?_
  refine clv rfl (.cons (VLe.refl _) (.cons (VLe.refl _) .nil)) hM ?_
  first | refine mvD rfl ?_ | refine mvT rfl ?_ | refine mvP rfl ?_ | refine mvR rfl ?_ | refine mvE rfl ?_ | refine mvF rfl ?_ | refine mvA rfl ?_ | refine mvO rfl ?_ | refine mvM rfl ?_ | refine mvJ rfl ?_
  refine ex rfl rfl ?_
  refine ex rfl rfl ?_
  refine al z.Rat rfl fun b12 => ?_
  first | refine sto sz.Rat rfl rfl rfl rfl rfl (nb9 rfl) (cells2 := [_,_,_]) rfl ?_ | refine stE sz.Rat rfl (VC.d _).vd rfl rfl (by omega) rfl ?_
  refine asD rfl ?_
  refine OL.nil ?_
  refine AW.seq ?_
  refine AW.dg 1 [0,1,2,3,4,5,6,7,8,9,10,11] order_free hE rfl (by kernel_rfl) (OI.of_OL (os := [_,_,_,_,_,_,_,_,_,_,_,_]) rfl ?_)
  first | refine mvD rfl ?_ | refine mvT rfl ?_ | refine mvP rfl ?_ | refine mvR rfl ?_ | refine mvE rfl ?_ | refine mvF rfl ?_ | refine mvA rfl ?_ | refine mvO rfl ?_ | refine mvM rfl ?_ | refine mvJ rfl ?_
  first | refine mvD rfl ?_ | refine mvT rfl ?_ | refine mvP rfl ?_ | refine mvR rfl ?_ | refine mvE rfl ?_ | refine mvF rfl ?_ | refine mvA rfl ?_ | refine mvO rfl ?_ | refine mvM rfl ?_ | refine mvJ rfl ?_
  first | refine ncP rfl ?_ | refine ncR rfl ?_ | refine ncE rfl ?_
  first | refine faP fd.reader_2 rfl rfl ?_ | refine faR fd.reader_2 rfl rfl ?_ | refine faE fd.reader_2 rfl rfl ?_
  first | refine faP fd.span_1 rfl rfl ?_ | refine faR fd.span_1 rfl rfl ?_ | refine faE fd.span_1 rfl rfl ?_
  first | refine ldPA ag.Rat rfl rfl (vs := [_,_,_]) rfl (nb9 rfl) ?_ | refine ldRA ag.Rat rfl (vs := [_,_,_]) rfl (nb9 rfl) ?_
  first | refine ldPA ag.Rat rfl rfl (vs := [_,_,_]) rfl (nb9 rfl) ?_ | refine ldRA ag.Rat rfl (vs := [_,_,_]) rfl (nb9 rfl) ?_
  refine clv rfl (.cons (by first | exact VLe.refl _ | exact VLe.mt | exact vle_q0 | exact VLe.ptr) (.cons (by first | exact VLe.refl _ | exact VLe.mt | exact vle_q0 | exact VLe.ptr) .nil)) (rational_MulQ (by first | assumption | omega) (by first | assumption | omega)) ?_
  first | refine ncP rfl ?_ | refine ncR rfl ?_ | refine ncE rfl ?_
  first | refine faP fd.reader_2 rfl rfl ?_ | refine faR fd.reader_2 rfl rfl ?_ | refine faE fd.reader_2 rfl rfl ?_
  first | refine faP fd.span_1 rfl rfl ?_ | refine faR fd.span_1 rfl rfl ?_ | refine faE fd.span_1 rfl rfl ?_
  first | refine sto sz.Rat rfl rfl rfl rfl rfl (nb9 rfl) rfl ?_ | refine stE sz.Rat rfl (VC.d _).vd rfl rfl (by omega) rfl ?_
  refine OL.nil ?_
  refine AW.midK (α := Unit) [(0, _), (2, _), (4, _), (7, _)] [(4, _), (7, _)] (fun _u => []) (fun _u => [(1000, .box b T.reader [.d (ints bits), .d (dI q.used), .d (dB (ofQ (q.step bits).read.lo).neg), .d (u32s (ofQ (q.step bits).read.lo).num), .d (u32s (ofQ (q.step bits).read.lo).den), .d (dB (ofQ (q.step bits).read.len).neg), .d (u32s (ofQ (q.step bits).read.len).num), .d (u32s (ofQ (q.step bits).read.len).den)])]) (fun _u => True) (by repeat (first | exact Knows.nil | refine Knows.cons (by first | exact knD rfl | exact knA rfl | exact knP rfl | exact knO rfl | exact knM rfl | exact knE rfl | exact knR rfl | exact knF rfl | exact knT rfl | exact knJ) ?_)) (by repeat (first | exact Owns.nil | refine Owns.cons (by first | exact owB rfl | exact owR rfl | exact owL rfl | exact owT rfl) ?_)) ?_ ?_
  ·refine AW.seq ?_
   refine AW.dg 1 [0,1,2,3,4,5,6,7,8,9,10] order_free hE rfl (by kernel_rfl) (OI.of_OL (os := [_,_,_,_,_,_,_,_,_,_,_]) rfl ?_)
   first | refine mvD rfl ?_ | refine mvT rfl ?_ | refine mvP rfl ?_ | refine mvR rfl ?_ | refine mvE rfl ?_ | refine mvF rfl ?_ | refine mvA rfl ?_ | refine mvO rfl ?_ | refine mvM rfl ?_ | refine mvJ rfl ?_
   first | refine ncP rfl ?_ | refine ncR rfl ?_ | refine ncE rfl ?_
   first | refine faP fd.reader_0 rfl rfl ?_ | refine faR fd.reader_0 rfl rfl ?_ | refine faE fd.reader_0 rfl rfl ?_
   first | refine ldRC ce.ints rfl ?_ | refine ldPC ce.ints rfl rfl rfl ?_
   first | refine mvD rfl ?_ | refine mvT rfl ?_ | refine mvP rfl ?_ | refine mvR rfl ?_ | refine mvE rfl ?_ | refine mvF rfl ?_ | refine mvA rfl ?_ | refine mvO rfl ?_ | refine mvM rfl ?_ | refine mvJ rfl ?_
   first | refine ncP rfl ?_ | refine ncR rfl ?_ | refine ncE rfl ?_
   first | refine faP fd.reader_1 rfl rfl ?_ | refine faR fd.reader_1 rfl rfl ?_ | refine faE fd.reader_1 rfl rfl ?_
   first | refine ldRC ce.int rfl ?_ | refine ldPC ce.int rfl rfl rfl ?_
   refine ixLn sl.ints 0 rfl rfl (by omega) rfl rfl ?_
   first | refine ldRC ce.int rfl ?_ | refine ldPC ce.int rfl rfl rfl ?_
   refine c_eql rfl rfl rfl ?_
   refine OL.nil ?_
   refine AW.cond rfl (fun h73 => ?_) (fun h73 => ?_)
   ·try simp only [dx9] at h73
    refine AW.dg 1 [0,1,2,3,4,5,6,7,8,9,10,11,12,13,14,15] order_free hE rfl (by kernel_rfl) (OI.of_OL (os := [_,_,_,_,_,_,_,_,_,_,_,_,_,_,_,_]) rfl ?_)
    first | refine mvD rfl ?_ | refine mvT rfl ?_ | refine mvP rfl ?_ | refine mvR rfl ?_ | refine mvE rfl ?_ | refine mvF rfl ?_ | refine mvA rfl ?_ | refine mvO rfl ?_ | refine mvM rfl ?_ | refine mvJ rfl ?_
    first | refine mvD rfl ?_ | refine mvT rfl ?_ | refine mvP rfl ?_ | refine mvR rfl ?_ | refine mvE rfl ?_ | refine mvF rfl ?_ | refine mvA rfl ?_ | refine mvO rfl ?_ | refine mvM rfl ?_ | refine mvJ rfl ?_
    first | refine ncP rfl ?_ | refine ncR rfl ?_ | refine ncE rfl ?_
    first | refine faP fd.reader_2 rfl rfl ?_ | refine faR fd.reader_2 rfl rfl ?_ | refine faE fd.reader_2 rfl rfl ?_
    first | refine faP fd.span_0 rfl rfl ?_ | refine faR fd.span_0 rfl rfl ?_ | refine faE fd.span_0 rfl rfl ?_
    first | refine ldPA ag.Rat rfl rfl (vs := [_,_,_]) rfl (nb9 rfl) ?_ | refine ldRA ag.Rat rfl (vs := [_,_,_]) rfl (nb9 rfl) ?_
    first | refine mvD rfl ?_ | refine mvT rfl ?_ | refine mvP rfl ?_ | refine mvR rfl ?_ | refine mvE rfl ?_ | refine mvF rfl ?_ | refine mvA rfl ?_ | refine mvO rfl ?_ | refine mvM rfl ?_ | refine mvJ rfl ?_
    first | refine ncP rfl ?_ | refine ncR rfl ?_ | refine ncE rfl ?_
    first | refine faP fd.reader_2 rfl rfl ?_ | refine faR fd.reader_2 rfl rfl ?_ | refine faE fd.reader_2 rfl rfl ?_
    first | refine faP fd.span_1 rfl rfl ?_ | refine faR fd.span_1 rfl rfl ?_ | refine faE fd.span_1 rfl rfl ?_
    first | refine ldPA ag.Rat rfl rfl (vs := [_,_,_]) rfl (nb9 rfl) ?_ | refine ldRA ag.Rat rfl (vs := [_,_,_]) rfl (nb9 rfl) ?_
    refine clv rfl (.cons (by first | exact VLe.refl _ | exact VLe.mt | exact vle_q0 | exact VLe.ptr) (.cons (by first | exact VLe.refl _ | exact VLe.mt | exact vle_q0 | exact VLe.ptr) .nil)) (rational_AddQ (by first | assumption | omega) (by first | assumption | omega)) ?_
    first | refine ncP rfl ?_ | refine ncR rfl ?_ | refine ncE rfl ?_
    first | refine faP fd.reader_2 rfl rfl ?_ | refine faR fd.reader_2 rfl rfl ?_ | refine faE fd.reader_2 rfl rfl ?_
    first | refine faP fd.span_0 rfl rfl ?_ | refine faR fd.span_0 rfl rfl ?_ | refine faE fd.span_0 rfl rfl ?_
    first | refine sto sz.Rat rfl rfl rfl rfl rfl (nb9 rfl) rfl ?_ | refine stE sz.Rat rfl (VC.d _).vd rfl rfl (by omega) rfl ?_
    refine OL.nil ?_
    exact AW.reach () ⟨trivial, Knows.app (.cons (VLe.refl _) (.cons (VLe.refl _) (.cons (VLe.refl _) (.cons (VLe.refl _) .nil)))) (.nil), Owns.app (.cons rfl (.cons rfl .nil)) (.cons (by unfold Rd.step; rw [if_pos (by omega), hgh]; rfl) .nil)⟩
   ·try simp only [dx9] at h73
    refine AW.skip ?_
    exact AW.reach () ⟨trivial, Knows.app (.cons (VLe.refl _) (.cons (VLe.refl _) (.cons (VLe.refl _) (.cons (VLe.refl _) .nil)))) (.nil), Owns.app (.cons rfl (.cons rfl .nil)) (.cons (by unfold Rd.step; rw [if_neg (by omega), hgh]; rfl) .nil)⟩
  rintro ⟨⟩ hφ
  refine AW.rg hE rfl ?_
  first | refine mvD rfl ?_ | refine mvT rfl ?_ | refine mvP rfl ?_ | refine mvR rfl ?_ | refine mvE rfl ?_ | refine mvF rfl ?_ | refine mvA rfl ?_ | refine mvO rfl ?_ | refine mvM rfl ?_ | refine mvJ rfl ?_
  first | refine ncP rfl ?_ | refine ncR rfl ?_ | refine ncE rfl ?_
  first | refine faP fd.reader_1 rfl rfl ?_ | refine faR fd.reader_1 rfl rfl ?_ | refine faE fd.reader_1 rfl rfl ?_
  first | refine ldRC ce.int rfl ?_ | refine ldPC ce.int rfl rfl rfl ?_
  refine add_i64 rfl rfl (by omega) ?_
  first | refine ncP rfl ?_ | refine ncR rfl ?_ | refine ncE rfl ?_
  first | refine faP fd.reader_1 rfl rfl ?_ | refine faR fd.reader_1 rfl rfl ?_ | refine faE fd.reader_1 rfl rfl ?_
  first | refine sto sz.int rfl rfl rfl rfl rfl (nb9 rfl) rfl ?_ | refine stE sz.int rfl (VC.d _).vd rfl rfl (by omega) rfl ?_
  refine OL.nil ?_
  exact AW.again (x := q) (q.step bits) (by simp only [Rd.step]; omega) ⟨⟨hq.step hlt, (chooseB_step hno hlt).trans e1, (chEnd_step hno hlt).trans e2⟩, Knows.app (.cons (VLe.refl _) (.cons (VLe.refl _) (.cons (VLe.refl _) (.cons (VLe.refl _) .nil)))) (.nil), Owns.app (.cons rfl .nil) (.cons rfl (.cons rfl .nil))⟩
theorem vles_span1 : VLes [.d (dB false), .mt, .mt, .d (dB (ofQ 1).neg), .d (u32s (ofQ 1).num), .d (u32s (ofQ 1).den)] (cellsSpan .one) := by
 have e : cellsSpan .one = [.d (dB (ofQ 0).neg), .d (u32s (ofQ 0).num), .d (u32s (ofQ 0).den), .d (dB (ofQ 1).neg), .d (u32s (ofQ 1).num), .d (u32s (ofQ 1).den)] := rfl
 rw [e, ofQ_zero]
 exact .cons (VLe.refl _) (.cons VLe.mt (.cons VLe.mt (VLes.refl _)))
theorem vles_rd {bits : List Int} : VLes [.d (ints bits), .d (.sc (.int .i64 0)), .d (dB false), .mt, .mt, .d (dB (ofQ 1).neg), .d (u32s (ofQ 1).num), .d (u32s (ofQ 1).den)] [.d (ints bits), .d (dI ((0 : Nat) : Int)), .d (dB (ofQ 0).neg), .d (u32s (ofQ 0).num), .d (u32s (ofQ 0).den), .d (dB (ofQ 1).neg), .d (u32s (ofQ 1).num), .d (u32s (ofQ 1).den)] := by
 rw [ofQ_zero]
 exact .cons (VLe.refl _) (.cons (VLe.refl _) (.cons (VLe.refl _) (.cons VLe.mt (.cons VLe.mt (VLes.refl _)))))
theorem rd0_ok {bits : List Int} (hb : bits.length ≤ 2000) : RdOK bits ⟨0, .one⟩ := ⟨Nat.zero_le _, hb, by show sz 0 ≤ _; rw [sz_zero]; omega, by show sz 1 ≤ _; rw [sz_one]; omega⟩
theorem sample_draw {h : HM} {Q : Nat} {bits : List Int} (g : h.GoodW 1048576) (hQ : h.Den Q) (hl : ll Q ≤ 42992000) (hb : bits.length ≤ 2000) : FSpec P F.sample_draw [vHM h, .d (ints bits)] (.tup [vDrawn (drS (draw h bits)) (drW (draw h bits)) (drU (draw h bits)), .d (dI (drE (draw h bits)))]) := by
 have f := g.form
 have f1 := f.sym1
 have f2 := f.st1
 have f3 := f.emit
 have f4 := f.bB
 refine FSpec.intro fn.sample_draw (by rfl) (by rfl) (nb9 (by rfl)) fun E hE => ?_
 refine AW.sg hE rfl ?_
 first | refine bxA rfl rfl fun b2 => ?_ | refine bxD rfl rfl fun b2 => ?_
 refine al z.Drawn rfl fun b4 => ?_
 refine asD rfl ?_
 refine OL.nil ?_
 refine AW.sg hE rfl ?_
 first | refine mvD rfl ?_ | refine mvO rfl ?_ | refine mvM rfl ?_
 refine clv rfl (.nil) (sample_one) ?_
 refine bd z.span pl.span (cs := [_,_,_,_,_,_]) rfl ?_
 refine bd z.reader pl.reader (cs := [_,_,_,_,_,_,_,_]) rfl ?_
 first | refine bxA rfl rfl fun b17 => ?_ | refine bxD rfl rfl fun b17 => ?_
 first | refine asD rfl ?_ | refine asT rfl ?_ | refine asP rfl ?_ | refine asR rfl ?_ | refine asE rfl ?_ | refine asF rfl ?_ | refine asA rfl ?_ | refine asO rfl ?_ | refine asM rfl ?_ | refine asJ rfl ?_
 refine OL.nil ?_
 refine AW.seq ?_
 refine AW.rename 17 1000 rfl ?_
 refine AW.boxW 1000 [.d (ints bits), .d (dI ((0 : Nat) : Int)), .d (dB (ofQ 0).neg), .d (u32s (ofQ 0).num), .d (u32s (ofQ 0).den), .d (dB (ofQ 1).neg), .d (u32s (ofQ 1).num), .d (u32s (ofQ 1).den)] rfl vles_rd ?_
 refine AW.rg hE rfl ?_
 refine clv rfl (.nil) (sample_one) ?_
 refine bd z.span pl.span (cs := [_,_,_,_,_,_]) rfl ?_
 refine al z.span rfl fun b7 => ?_
 first | refine sto sz.span rfl rfl rfl rfl rfl (nb9 rfl) (cells2 := [_,_,_,_,_,_]) rfl ?_ | refine stE sz.span rfl (VC.d _).vd rfl rfl (by omega) rfl ?_
 refine asD rfl ?_
 refine OL.nil ?_
 refine AW.sg hE rfl ?_
 refine al z.Drawn rfl fun b9 => ?_
 refine OL.nil ?_
 refine AW.boxW 7 (cellsSpan .one) rfl vles_span1 ?_
 refine AW.boxW 9 [.osl 75 0 0 0, .osl 81 0 0 0, .d (dI 0)] rfl (.cons VLe.mtO (.cons VLe.mtO (.cons (VLe.refl _) .nil))) ?_
 refine AW.row0 75 T.int 1 rfl ?_
 refine AW.row0 81 T.int 1 rfl ?_
 refine AW.block ?_
 refine AW.whileK (α := Rd × Span × Option Nat × List Int × List Int × Nat × Nat × Nat × Nat) [(2, _), (4, _), (7, _), (9, _)] [(2, _)] (fun (r, s, fr, st, w, p1, c1, p2, c2) => [(6, .ptr 1000 b17 0), (8, .d (dI (frI fr)))]) (fun (r, s, fr, st, w, p1, c1, p2, c2) => [(7, .box b7 T.span (cellsSpan s)), (9, .box b9 T.Drawn [.osl 75 p1 st.length c1, .osl 81 p2 w.length c2, .d (dI 0)]), (75, .row p1 c1 T.int 1 (st.map dI)), (81, .row p2 c2 T.int 1 (w.map dI)), (1000, rdB b17 bits r), (4, .box b4 T.Drawn [.mt, .mt, .d (dI 0)])]) (fun (r, s, fr, st, w, p1, c1, p2, c2) => drawF h bits (257 - w.length) r s fr st w = draw h bits ∧ w.length ≤ 256 ∧ st.length = w.length ∧ RdOK bits r ∧ SpanW Q (2 * w.length) s ∧ FrOK h fr) (fun (r, s, fr, st, w, p1, c1, p2, c2) => 256 - w.length) (⟨0, .one⟩, .one, none, [], [], 0, 0, 0, 0) (by repeat (first | exact Knows.nil | refine Knows.cons (by first | exact knD rfl | exact knA rfl | exact knP rfl | exact knO rfl | exact knM rfl | exact knE rfl | exact knR rfl | exact knF rfl | exact knT rfl | exact knJ) ?_)) (.cons (by first | exact owB rfl | exact owR rfl | exact owL rfl | exact owT rfl) .nil) ⟨⟨rfl, by decide, rfl, rd0_ok hb, SpanW.one hQ.ne 0, fun i hi => by cases hi⟩, .cons (by first | exact VLe.refl _ | exact VLe.int (by omega) | exact VLe.mt | exact vle_q0 | exact VLe.osl | exact VLe.ptr) (.cons (by first | exact VLe.refl _ | exact VLe.int (by omega) | exact VLe.mt | exact vle_q0 | exact VLe.osl | exact VLe.ptr) .nil), .cons rfl (.cons rfl (.cons rfl (.cons rfl (.cons rfl (.cons rfl .nil)))))⟩ ?_
 rintro ⟨r, s, fr, st, w, p1, c1, p2, c2⟩ ⟨hD, hw, hst, hr, hs, hfr⟩
 have hw : w.length ≤ 256 := hw
 have hst : st.length = w.length := hst
 have hfi := frI_range hfr
 have hnl := next_lenX f hfr
 have hns := next_row g hQ hfr
 obtain ⟨n, hn⟩ : ∃ n, 257 - w.length = n + 1 := ⟨256 - w.length, by omega⟩
 have hD : drawF h bits (257 - w.length) r s fr st w = draw h bits := hD
 rw [hn, drawF] at hD
 refine AW.block ?_
 refine AW.seq ?_
 refine AW.dg 55 [0,1,2,3,4,5,6,7,8,9,10,11,12,13] order_free hE rfl (by kernel_rfl) (OI.of_OL (os := [_,_,_,_,_,_,_,_,_,_,_,_,_,_]) rfl ?_)
 first | refine mvD rfl ?_ | refine mvT rfl ?_ | refine mvP rfl ?_ | refine mvR rfl ?_ | refine mvE rfl ?_ | refine mvF rfl ?_ | refine mvA rfl ?_ | refine mvO rfl ?_ | refine mvM rfl ?_ | refine mvJ rfl ?_
 first | refine ldPA ag.span rfl rfl (vs := [_,_,_,_,_,_]) rfl (nb9 rfl) ?_ | refine ldRA ag.span rfl (vs := [_,_,_,_,_,_]) rfl (nb9 rfl) ?_
 first | refine ldPA ag.Hidden rfl rfl (vs := [_,_,_,_,_,_,_,_,_,_,_]) rfl (nb9 rfl) ?_ | refine ldRA ag.Hidden rfl (vs := [_,_,_,_,_,_,_,_,_,_,_]) rfl (nb9 rfl) ?_
 refine mvD rfl ?_
 refine clv rfl (.cons (VLe.refl _) (.cons (VLe.refl _) .nil)) (sample_next f hfi) ?_
 rw [next_frI]
 refine OL.callMd (v := .tup [.d (dI (chK (chooseB bits s (h.next fr) r))), vSpan (chS s (h.next fr) (chooseB bits s (h.next fr) r)), .d (dI (chE (chooseB bits s (h.next fr) r)))]) (.mk (args' := [.ptr 1000 b17 0, vSpan s, .d (dQs (h.next fr))]) rfl (.cons (by first | exact VLe.refl _ | exact VLe.ptr) (.cons (by first | exact VLe.refl _ | exact VLe.ptr) (.cons (by first | exact VLe.refl _ | exact VLe.ptr) (.nil)))) (mem1_keep (id := 1000) (blk := rdB b17 bits r) rfl) mem1_sub (sample_choose ⟨hQ.ne, hl⟩ hs (by omega) hns (by omega) hr)) rfl ?_
 first | refine mvD rfl ?_ | refine mvT rfl ?_ | refine mvP rfl ?_ | refine mvR rfl ?_ | refine mvE rfl ?_ | refine mvF rfl ?_ | refine mvA rfl ?_ | refine mvO rfl ?_ | refine mvM rfl ?_ | refine mvJ rfl ?_
 refine ex rfl rfl ?_
 refine ex rfl rfl ?_
 refine ex rfl rfl ?_
 refine al z.span rfl fun b11 => ?_
 refine asD rfl ?_
 first | refine sto sz.span rfl rfl rfl rfl rfl (nb9 rfl) (cells2 := [_,_,_,_,_,_]) rfl ?_ | refine stE sz.span rfl (VC.d _).vd rfl rfl (by omega) rfl ?_
 refine asD rfl ?_
 refine OL.nil ?_
 refine AW.seq ?_
 refine AW.block ?_
 refine AW.sg hE rfl ?_
 refine mvD rfl ?_
 refine c_neq rfl rfl rfl ?_
 refine asD rfl ?_
 refine OL.nil ?_
 refine AW.cond rfl (fun h30 => ?_) (fun h30 => ?_)
 ·have h30 : chooseB bits s (h.next fr) r = none := chE_ne (by simpa using h30)
  rw [h30] at hD
  have hdr : draw h bits = .err 17 := hD.symm
  rw [h30]
  refine AW.sg hE rfl ?_
  refine bd z.Drawn pl.Drawn (cs := [_,_,_]) rfl ?_
  refine mvD rfl ?_
  first | refine sto sz.Drawn rfl rfl rfl rfl rfl (nb9 rfl) (cells2 := [_,_,_]) rfl ?_ | refine stE sz.Drawn rfl (VC.d _).vd rfl rfl (by omega) rfl ?_
  refine asD rfl ?_
  refine OL.nil ?_
  exact AW.ret (RetQ.r ⟨_, .cellA rfl rfl ag.Drawn (nb9 rfl) (.tmp rfl .nil), _, .cons (.ag (.cons (.le (by rw [hdr]; exact VLe.mt)) (.cons (.le (by rw [hdr]; exact VLe.mt)) (.cons (.le (VLe.int (by rw [hdr]; rfl))) .nil)))) (.cons (.le (VLe.int (by rw [hdr]; rfl))) .nil), rfl⟩)
 ·obtain ⟨k, r1, hch⟩ := chE_eq (show chE (chooseB bits s (h.next fr) r) = 0 by simpa using h30)
  rw [hch, choose_end hch]
  rw [hch] at hD
  simp only at hD
  have hk := choose_lt hch
  have hr1 := choose_end hch ▸ chEnd_ok (s := s) (ch := h.next fr) hr
  have hP := hs.part hQ.ne hns k hk
  refine AW.sg hE rfl ?_
  refine mvD rfl ?_
  first | refine faP fd.Hidden_1 rfl rfl ?_ | refine faR fd.Hidden_1 rfl rfl ?_ | refine faE fd.Hidden_1 rfl rfl ?_
  first | refine ldRC ce.int rfl ?_ | refine ldPC ce.int rfl rfl rfl ?_
  refine c_eql rfl rfl rfl ?_
  refine asD rfl ?_
  refine OL.nil ?_
  refine AW.cond rfl (fun h35 => ?_) (fun h35 => ?_)
  ·have h35 : k = h.st := by have := of_decide_eq_true h35; change (k : Int) = _ at this; omega
   rw [if_pos h35] at hD
   have hdr : draw h bits = .run st w r1.used := hD.symm
   rw [hdr]
   refine AW.sg hE rfl ?_
   first | refine mvD rfl ?_ | refine mvT rfl ?_ | refine mvP rfl ?_ | refine mvR rfl ?_ | refine mvE rfl ?_ | refine mvF rfl ?_ | refine mvA rfl ?_ | refine mvO rfl ?_ | refine mvM rfl ?_ | refine mvJ rfl ?_
   first | refine ncP rfl ?_ | refine ncR rfl ?_ | refine ncE rfl ?_
   first | refine faP fd.reader_1 rfl rfl ?_ | refine faR fd.reader_1 rfl rfl ?_ | refine faE fd.reader_1 rfl rfl ?_
   first | refine ldRC ce.int rfl ?_ | refine ldPC ce.int rfl rfl rfl ?_
   first | refine faP fd.Drawn_2 rfl rfl ?_ | refine faR fd.Drawn_2 rfl rfl ?_ | refine faE fd.Drawn_2 rfl rfl ?_
   first | refine sto sz.int rfl rfl rfl rfl rfl (nb9 rfl) (cells2 := [_,_,_]) rfl ?_ | refine stE sz.int rfl (VC.d _).vd rfl rfl (by omega) rfl ?_
   refine OL.nil ?_
   refine AW.sg hE rfl ?_
   first | refine ldPA ag.Drawn rfl rfl (vs := [_,_,_]) rfl (nb9 rfl) ?_ | refine ldRA ag.Drawn rfl (vs := [_,_,_]) rfl (nb9 rfl) ?_
   first | refine sto sz.Drawn rfl rfl rfl rfl rfl (nb9 rfl) (cells2 := [_,_,_]) rfl ?_ | refine stE sz.Drawn rfl (VC.d _).vd rfl rfl (by omega) rfl ?_
   refine asD rfl ?_
   refine OL.nil ?_
   exact AW.ret (RetQ.r ⟨_, .cellA rfl rfl ag.Drawn (nb9 rfl) (.tmp rfl .nil), _, .cons (.ag (.cons (RO.row rfl (by rw [List.length_map]) rfl) (.cons (RO.row rfl (by rw [List.length_map]) rfl) (.cons (.le (VLe.refl _)) .nil)))) (.cons (.le (by first | exact VLe.refl _ | exact VLe.mt | exact vle_q0 | exact VLe.int (by omega) | exact VLe.bool (by simp_all))) .nil), rfl⟩)
  ·have h35 : k ≠ h.st := fun e => of_decide_eq_false h35 (by show (k : Int) = _; omega)
   rw [if_neg h35] at hD
   refine AW.sg hE rfl ?_
   first | refine faP fd.Drawn_1 rfl rfl ?_ | refine faR fd.Drawn_1 rfl rfl ?_ | refine faE fd.Drawn_1 rfl rfl ?_
   first | refine ldRC ce.ints rfl ?_ | refine ldPC ce.ints rfl rfl rfl ?_
   first | refine lnL sl.ints rfl rfl ?_ | refine lnO sl.ints rfl rfl ?_ | refine lnM sl.ints rfl rfl ?_ | refine lnD sl.ints rfl rfl rfl ?_
   refine c_eql rfl rfl rfl ?_
   refine asD rfl ?_
   refine OL.nil ?_
   refine AW.cond rfl (fun h46 => ?_) (fun h46 => ?_)
   ·have h46 := of_decide_eq_true h46
    rw [if_pos (show n = 0 by omega)] at hD
    have hdr : draw h bits = .err 2 := hD.symm
    refine AW.sg hE rfl ?_
    refine bd z.Drawn pl.Drawn (cs := [_,_,_]) rfl ?_
    first | refine sto sz.Drawn rfl rfl rfl rfl rfl (nb9 rfl) (cells2 := [_,_,_]) rfl ?_ | refine stE sz.Drawn rfl (VC.d _).vd rfl rfl (by omega) rfl ?_
    refine asD rfl ?_
    refine OL.nil ?_
    exact AW.ret (RetQ.r ⟨_, .cellA rfl rfl ag.Drawn (nb9 rfl) (.tmp rfl .nil), _, .cons (.ag (.cons (.le (by rw [hdr]; exact VLe.mt)) (.cons (.le (by rw [hdr]; exact VLe.mt)) (.cons (.le (VLe.int (by rw [hdr]; rfl))) .nil)))) (.cons (.le (VLe.int (by rw [hdr]; rfl))) .nil), rfl⟩)
   ·have h46 := of_decide_eq_false h46
    rw [if_neg (show n ≠ 0 by omega)] at hD
    have hem := f.erow k (by omega)
    have hes := emit_row g hQ (show k < h.st by omega)
    refine AW.skip ?_
    refine AW.seq ?_
    refine AW.dg 1 [0,1,2,3] order_free hE rfl (by kernel_rfl) (OI.of_OL (os := [_,_,_,_]) rfl ?_)
    refine mvD rfl ?_
    first | refine ldPA ag.span rfl rfl (vs := [_,_,_,_,_,_]) rfl (nb9 rfl) ?_ | refine ldRA ag.span rfl (vs := [_,_,_,_,_,_]) rfl (nb9 rfl) ?_
    refine asD rfl ?_
    first | refine sto sz.span rfl rfl rfl rfl rfl (nb9 rfl) (cells2 := [_,_,_,_,_,_]) rfl ?_ | refine stE sz.span rfl (VC.d _).vd rfl rfl (by omega) rfl ?_
    refine OL.nil ?_
    refine AW.seq ?_
    refine AW.dg 127 [0,1,2,3,4,5,6,7,8,9,10,11,12,13,14] order_free hE rfl (by kernel_rfl) (OI.of_OL (os := [_,_,_,_,_,_,_,_,_,_,_,_,_,_,_]) rfl ?_)
    first | refine mvD rfl ?_ | refine mvT rfl ?_ | refine mvP rfl ?_ | refine mvR rfl ?_ | refine mvE rfl ?_ | refine mvF rfl ?_ | refine mvA rfl ?_ | refine mvO rfl ?_ | refine mvM rfl ?_ | refine mvJ rfl ?_
    first | refine ldPA ag.span rfl rfl (vs := [_,_,_,_,_,_]) rfl (nb9 rfl) ?_ | refine ldRA ag.span rfl (vs := [_,_,_,_,_,_]) rfl (nb9 rfl) ?_
    first | refine faP fd.Hidden_6 rfl rfl ?_ | refine faR fd.Hidden_6 rfl rfl ?_ | refine faE fd.Hidden_6 rfl rfl ?_
    first | refine ldRC ce.Ratss rfl ?_ | refine ldPC ce.Ratss rfl rfl rfl ?_
    refine mvD rfl ?_
    refine ixLe k sl.Ratss [] rfl rfl rfl (by omega) rfl rfl ?_
    first | refine ldRC ce.Rats rfl ?_ | refine ldPC ce.Rats rfl rfl rfl ?_
    refine OL.callMd (v := .tup [.d (dI (chK (chooseB bits (s.part (h.next fr) k) (h.emit.getD k []) r1))), vSpan (chS (s.part (h.next fr) k) (h.emit.getD k []) (chooseB bits (s.part (h.next fr) k) (h.emit.getD k []) r1)), .d (dI (chE (chooseB bits (s.part (h.next fr) k) (h.emit.getD k []) r1)))]) (.mk (args' := [.ptr 1000 b17 0, vSpan (s.part (h.next fr) k), .d (dQs (h.emit.getD k []))]) rfl (.cons (by first | exact VLe.refl _ | exact VLe.ptr) (.cons (by first | exact VLe.refl _ | exact VLe.ptr) (.cons (by first | exact VLe.refl _ | exact VLe.ptr) (.nil)))) (mem1_keep (id := 1000) (blk := rdB b17 bits r1) rfl) mem1_sub (sample_choose ⟨hQ.ne, hl⟩ hP (by omega) hes (by omega) hr1)) rfl ?_
    first | refine mvD rfl ?_ | refine mvT rfl ?_ | refine mvP rfl ?_ | refine mvR rfl ?_ | refine mvE rfl ?_ | refine mvF rfl ?_ | refine mvA rfl ?_ | refine mvO rfl ?_ | refine mvM rfl ?_ | refine mvJ rfl ?_
    refine ex rfl rfl ?_
    refine ex rfl rfl ?_
    refine ex rfl rfl ?_
    refine asD rfl ?_
    first | refine sto sz.span rfl rfl rfl rfl rfl (nb9 rfl) (cells2 := [_,_,_,_,_,_]) rfl ?_ | refine stE sz.span rfl (VC.d _).vd rfl rfl (by omega) rfl ?_
    refine asD rfl ?_
    refine OL.nil ?_
    refine AW.seq ?_
    refine AW.sg hE rfl ?_
    refine mvD rfl ?_
    refine c_neq rfl rfl rfl ?_
    refine OL.nil ?_
    refine AW.cond rfl (fun h67 => ?_) (fun h67 => ?_)
    ·have h67 := chE_ne (o := chooseB bits (s.part (h.next fr) k) (h.emit.getD k []) r1) (by simpa using h67)
     rw [h67] at hD
     have hdr : draw h bits = .err 17 := hD.symm
     rw [h67]
     refine AW.sg hE rfl ?_
     refine bd z.Drawn pl.Drawn (cs := [_,_,_]) rfl ?_
     refine mvD rfl ?_
     first | refine sto sz.Drawn rfl rfl rfl rfl rfl (nb9 rfl) (cells2 := [_,_,_]) rfl ?_ | refine stE sz.Drawn rfl (VC.d _).vd rfl rfl (by omega) rfl ?_
     refine asD rfl ?_
     refine OL.nil ?_
     exact AW.ret (RetQ.r ⟨_, .cellA rfl rfl ag.Drawn (nb9 rfl) (.tmp rfl .nil), _, .cons (.ag (.cons (.le (by rw [hdr]; exact VLe.mt)) (.cons (.le (by rw [hdr]; exact VLe.mt)) (.cons (.le (VLe.int (by rw [hdr]; rfl))) .nil)))) (.cons (.le (VLe.int (by rw [hdr]; rfl))) .nil), rfl⟩)
    ·obtain ⟨x, r2, hch2⟩ := chE_eq (o := chooseB bits (s.part (h.next fr) k) (h.emit.getD k []) r1) (by simpa using h67)
     rw [hch2, choose_end hch2]
     have hx := choose_lt hch2
     have hr2 := choose_end hch2 ▸ chEnd_ok (s := s.part (h.next fr) k) (ch := h.emit.getD k []) hr1
     have hP2 := hP.part hQ.ne hes x hx
     rw [show 2 * w.length + 1 + 1 = 2 * (w.length + 1) by omega] at hP2
     refine AW.skip ?_
     refine AW.sg hE rfl ?_
     first | refine ldPA ag.span rfl rfl (vs := [_,_,_,_,_,_]) rfl (nb9 rfl) ?_ | refine ldRA ag.span rfl (vs := [_,_,_,_,_,_]) rfl (nb9 rfl) ?_
     first | refine sto sz.span rfl rfl rfl rfl rfl (nb9 rfl) (cells2 := [_,_,_,_,_,_]) rfl ?_ | refine stE sz.span rfl (VC.d _).vd rfl rfl (by omega) rfl ?_
     refine OL.nil ?_
     refine AW.dg 2 [0,1,2,3,5,6,7,8,9,4,11,10,12,13,14] order_free hE rfl (by kernel_rfl) (OI.of_OL (os := [_,_,_,_,_,_,_,_,_,_,_,_,_,_,_]) rfl ?_)
     first | refine faP fd.Drawn_0 rfl rfl ?_ | refine faR fd.Drawn_0 rfl rfl ?_ | refine faE fd.Drawn_0 rfl rfl ?_
     first | refine ldRC ce.ints rfl ?_ | refine ldPC ce.ints rfl rfl rfl ?_
     refine mvD rfl ?_
     refine lt1 sl.ints (VC.d _).vd rfl (by decide) ?_
     first | refine faP fd.Drawn_1 rfl rfl ?_ | refine faR fd.Drawn_1 rfl rfl ?_ | refine faE fd.Drawn_1 rfl rfl ?_
     first | refine ldRC ce.ints rfl ?_ | refine ldPC ce.ints rfl rfl rfl ?_
     refine mvD rfl ?_
     refine bo rfl rfl (bin_add (c := (x : Int) + 1) rfl (wrap_i64 (by omega))) ?_
     refine lt1 sl.ints (VC.d _).vd rfl (by decide) ?_
     refine apO sl.ints rfl rfl rfl (by rw [List.length_map]) (VC.d _) (by simp [D.cells]) (by simp only [List.length_cons, List.length_nil]; omega) (by simp only [List.length_cons, List.length_nil]; omega) (.inr rfl) (ys := (st ++ [(k : Int)]).map dI) (by rw [List.map_append]; rfl) (n2 := (st ++ [(k : Int)]).length) (by simp) fun q1 d1 => ?_
     first | refine faP fd.Drawn_0 rfl rfl ?_ | refine faR fd.Drawn_0 rfl rfl ?_ | refine faE fd.Drawn_0 rfl rfl ?_
     refine apO sl.ints rfl rfl rfl (by rw [List.length_map]) (VC.d _) (by simp [D.cells]) (by simp only [List.length_cons, List.length_nil]; omega) (by simp only [List.length_cons, List.length_nil]; omega) (.inr rfl) (ys := (w ++ [(x : Int) + 1]).map dI) (by rw [List.map_append]; rfl) (n2 := (w ++ [(x : Int) + 1]).length) (by simp) fun q2 d2 => ?_
     first | refine sto sz.ints rfl rfl rfl rfl rfl (nb9 rfl) (cells2 := [_,_,_]) rfl ?_ | refine stE sz.ints rfl (VC.d _).vd rfl rfl (by omega) rfl ?_
     first | refine faP fd.Drawn_1 rfl rfl ?_ | refine faR fd.Drawn_1 rfl rfl ?_ | refine faE fd.Drawn_1 rfl rfl ?_
     first | refine sto sz.ints rfl rfl rfl rfl rfl (nb9 rfl) (cells2 := [_,_,_]) rfl ?_ | refine stE sz.ints rfl (VC.d _).vd rfl rfl (by omega) rfl ?_
     refine OL.nil ?_
     exact AW.again (x := (r, s, fr, st, w, p1, c1, p2, c2)) (r2, (s.part (h.next fr) k).part (h.emit.getD k []) x, some k, st ++ [(k : Int)], w ++ [(x : Int) + 1], q1, d1, q2, d2) (by simp; omega) ⟨⟨by rw [hch2] at hD; simp only at hD; rw [← hD, List.length_append, List.length_singleton, show 257 - (w.length + 1) = n by omega], by simp; omega, by simp [hst], hr2, by rw [List.length_append, List.length_singleton]; exact hP2, fun i hi => by cases hi; omega⟩, Knows.app (.cons (VLe.refl _) (.cons (VLe.refl _) (.cons (VLe.refl _) (.cons (VLe.refl _) .nil)))) (.cons (by first | exact VLe.refl _ | exact VLe.int (by omega) | exact VLe.mt | exact vle_q0 | exact VLe.osl | exact VLe.ptr) (.cons (by first | exact VLe.refl _ | exact VLe.int (by omega) | exact VLe.mt | exact vle_q0 | exact VLe.osl | exact VLe.ptr) .nil)), Owns.app (.cons rfl .nil) (.cons rfl (.cons rfl (.cons rfl (.cons rfl (.cons rfl (.cons rfl .nil))))))⟩
end Go.Proofs.YtjghehkgmanmbaaGreat

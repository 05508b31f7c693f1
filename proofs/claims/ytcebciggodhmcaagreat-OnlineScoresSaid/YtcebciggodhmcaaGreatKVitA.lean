/-
  Walks of package viterbi, part 1: refusals, states, one step, the joint probability; ref01.Mul, fresh.Rat (printed by mk2.py).
-/
import Derived.Test.YtcebciggodhmcaaGreatKFresh
import Derived.Test.YtcebciggodhmcaaGreatKMul
import Derived.Test.YtcebciggodhmcaaGreatKMod40d
set_option linter.unusedVariables false
set_option linter.unusedSimpArgs false
namespace Go.Proofs.YtcebciggodhmcaaGreat
open Go Go.AL
theorem vle_fnp {f i j b o : Nat} : VLe (.fn f [.ptr i b o]) (.fn f [.ptr j b o]) := fun F v h => by
  cases h with
  | @fn _ us _ hl hr =>
    refine .fn hl fun n c u hc hu => ?_
    cases n with
    | zero =>
      have h1 := hr 0 (.ptr i b o) u rfl hu
      cases hc
      cases h1
      exact .ptr
    | succ n => simp at hc
theorem index_intsM {l : List Int} {f b : Nat} {blk : Blk} {p : Int → Bool} (hf : ∀ q, q ∈ l → FSpecM P f [.d (dI q), .ptr 1000 b 0] (mem1 1000 blk) (.d (dB (p q))) (mem1 1000 blk)) (nl : l.length ≤ 1099511627776) : FSpecM P F.slices_IndexFunc_ints_int [.d (ints l), .fn f [.ptr 1000 b 0]] (mem1 1000 blk) (.d (dI (idx1 p l))) (mem1 1000 blk) := by
  refine FSpecM.intro fn.slices_IndexFunc_ints_int (by rfl) (by rfl) (Nat.le_of_ble_eq_true (by rfl)) fun E hE => ?_
  refine AW.seq ?_
  refine AW.region (by rw [hE]; rfl) ?_
  refine asD rfl ?_
  refine OL.nil ?_
  refine AW.seq ?_
  refine AW.seq ?_
  refine AW.region (by rw [hE]; rfl) ?_
  refine mvD rfl ?_
  refine lnL sl.ints rfl rfl ?_
  refine mvD rfl ?_
  refine OL.nil ?_
  refine AW.block ?_
  refine AW.whileK (α := Nat) [(0, _), (1, _), (7, _)] [] (fun i => [(8, .d (dI i))]) (fun i => [(1000, blk)]) (fun i => i ≤ l.length ∧ ∀ j, j < i → p (l.getD j 0) = false) (fun i => l.length - i) 0 (by repeat (first | exact Knows.nil | refine Knows.cons (by first | exact knD rfl | exact knA rfl | exact knP rfl | exact knO rfl | exact knM rfl | exact knE rfl | exact knR rfl | exact knF rfl | exact knT rfl | exact knJ) ?_)) .nil ⟨⟨Nat.zero_le _, fun j hj => by omega⟩, .cons (by first | exact VLe.refl _ | exact VLe.int (by omega) | exact VLe.mt | exact vle_q0 | exact VLe.osl | exact VLe.ptr) .nil, .cons rfl .nil⟩ ?_
  rintro i ⟨h1, h2⟩
  refine AW.seq ?_
  refine AW.region (by rw [hE]; rfl) ?_
  refine c_lss rfl rfl rfl ?_
  refine OL.nil ?_
  refine AW.seq ?_
  refine AW.cond rfl (fun h9 => ?_) (fun h9 => ?_)
  · first | (simp only [decide_eq_true_eq, decide_eq_false_iff_not, Bool.not_eq_true', Bool.not_eq_false', Bool.not_not, Bool.and_eq_true, Bool.and_eq_false_iff, Bool.or_eq_true, Bool.or_eq_false_iff] at h9) | skip
    refine AW.skip ?_
    refine AW.seq ?_
    refine AW.block ?_
    refine AW.seq ?_
    refine AW.region (by rw [hE]; rfl) ?_
    refine mvD rfl ?_
    refine asD rfl ?_
    refine OL.nil ?_
    refine AW.seq ?_
    refine AW.region (by rw [hE]; rfl) ?_
    refine mvF rfl ?_
    refine mvD rfl ?_
    refine mvD rfl ?_
    refine ixLn sl.ints 0 rfl rfl (by omega) rfl rfl ?_
    refine ldRC ce.int rfl ?_
    refine OL.callM (v := .d (dB (p (l.getD i 0)))) (.mk (args' := [.d (dI (l.getD i 0)), .ptr 1000 b 0]) rfl (VLes.refl _) (mem1_keep (id := 1000) (blk := blk) rfl) mem1_sub (hf (l.getD i 0) (getD_mem (by omega) _))) ?_
    refine OL.nil ?_
    refine AW.cond rfl (fun h16 => ?_) (fun h16 => ?_)
    · have h16 := h16
      refine AW.seq ?_
      refine AW.region (by rw [hE]; rfl) ?_
      refine mvD rfl ?_
      refine asD rfl ?_
      refine OL.nil ?_
      exact AW.ret ⟨⟨_, .tmp rfl .nil, .le (VLe.int ((idx1_found (by omega) 0 h16 h2).symm))⟩, mem1_keep rfl⟩
    · have h16 := h16
      refine AW.skip ?_
      refine AW.region (by rw [hE]; rfl) ?_
      refine add_i64 rfl rfl (by omega) ?_
      refine mvD rfl ?_
      refine OL.nil ?_
      exact AW.again (x := i) (i + 1) (by first | omega | (simp only []; omega)) ⟨⟨by omega, fun j hj => by rcases Nat.lt_or_ge j i with h | h; exact h2 j h; obtain rfl : j = i := (by omega); exact h16⟩, Knows.app (.cons (VLe.refl _) (.cons (VLe.refl _) (.cons (VLe.refl _) .nil))) (.cons (by first | exact VLe.refl _ | exact VLe.int (by omega) | exact VLe.mt | exact vle_q0 | exact VLe.osl | exact VLe.ptr) .nil), .cons rfl .nil⟩
  · first | (simp only [decide_eq_true_eq, decide_eq_false_iff_not, Bool.not_eq_true', Bool.not_eq_false', Bool.not_not, Bool.and_eq_true, Bool.and_eq_false_iff, Bool.or_eq_true, Bool.or_eq_false_iff] at h9) | skip
    refine AW.exit ?_
    refine AW.seq ?_
    refine AW.region (by rw [hE]; rfl) ?_
    refine asD rfl ?_
    refine OL.nil ?_
    exact AW.ret ⟨⟨_, .tmp rfl .nil, .le (VLe.int ((idx1_none 0 fun j hj => h2 j (by omega)).symm))⟩, mem1_keep rfl⟩
theorem contains_intsM {l : List Int} {f b : Nat} {blk : Blk} {p : Int → Bool} (hf : ∀ q, q ∈ l → FSpecM P f [.d (dI q), .ptr 1000 b 0] (mem1 1000 blk) (.d (dB (p q))) (mem1 1000 blk)) (nl : l.length ≤ 1099511627776) : FSpecM P F.slices_ContainsFunc_ints_int [.d (ints l), .fn f [.ptr 1000 b 0]] (mem1 1000 blk) (.d (dB (l.any p))) (mem1 1000 blk) := by
  refine FSpecM.intro fn.slices_ContainsFunc_ints_int (by rfl) (by rfl) (Nat.le_of_ble_eq_true (by rfl)) fun E hE => ?_
  refine AW.seq ?_
  refine AW.region (by rw [hE]; rfl) ?_
  refine asD rfl ?_
  refine OL.nil ?_
  refine AW.seq ?_
  refine AW.region (by rw [hE]; rfl) ?_
  refine mvD rfl ?_
  refine mvF rfl ?_
  refine OL.callM (v := .d (dI (idx1 p l))) (.mk (args' := [.d (ints l), .fn f [.ptr 1000 b 0]]) rfl (VLes.refl _) (mem1_keep (id := 1000) (blk := blk) rfl) mem1_sub (index_intsM hf nl)) ?_
  refine c_geq rfl rfl rfl ?_
  refine asD rfl ?_
  refine OL.nil ?_
  exact AW.ret ⟨⟨_, .tmp rfl .nil, .le (VLe.bool (idx1_any p l))⟩, mem1_keep rfl⟩
end Go.Proofs.YtcebciggodhmcaaGreat

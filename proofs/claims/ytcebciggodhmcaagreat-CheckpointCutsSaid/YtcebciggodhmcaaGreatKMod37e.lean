/-
  M, chapter 36: columns in two parts; the best of the last column.
-/
import Derived.Test.YtcebciggodhmcaaGreatKMod37d
set_option linter.unusedVariables false
set_option linter.unusedSimpArgs false
namespace Go.AL
open Go Go.BigFrame
def colX (h : HM) (x : Nat) (c : List Rat) : List Rat := (List.range h.st).map fun j => colN h c j c.length * emQ h j x
def colsL (h : HM) (w : List Int) (fr n : Nat) : List (List Rat) := (List.range n).map fun m => colF h w (fr + m + 1)
theorem colsL_len (h : HM) (w : List Int) (fr n : Nat) : (colsL h w fr n).length = n := by simp [colsL]
theorem colsL_succ (h : HM) (w : List Int) (fr n : Nat) : colsL h w fr (n + 1) = colsL h w fr n ++ [colF h w (fr + n + 1)] := by
  unfold colsL; rw [List.range_succ, List.map_append]; rfl
theorem colsL_get {h : HM} {w : List Int} {fr n m : Nat} (hm : m < n) : (colsL h w fr n).getD m [] = colF h w (fr + m + 1) := map_getD_range (fun m => colF h w (fr + m + 1)) _ hm
theorem colsL_cut (h : HM) (w : List Int) (k m : Nat) : colsL h w 0 k ++ colsL h w k m = colsL h w 0 (k + m) := by
  induction m with
  | zero => rw [show colsL h w k 0 = [] from rfl, List.append_nil]; rfl
  | succ m ih => rw [colsL_succ, ← List.append_assoc, ih, ← Nat.add_assoc, colsL_succ, Nat.zero_add]
section
variable {h : HM} {B : Nat} {w : List Int}
theorem share_mul {a b : Rat} (ha : Share a) (hb : Share b) : Share (a * b) := by
  refine ⟨Rat.mul_nonneg ha.1 hb.1, ?_⟩
  have e := Rat.mul_le_mul_of_nonneg_right (c := b) ha.2 hb.1
  rw [Rat.one_mul] at e
  exact Rat.le_trans e hb.2
theorem share_zero : Share 0 := ⟨Rat.le_refl, by decide⟩
theorem colN_share (g : h.Good B) {c : List Rat} (hc : Shares c) (j : Nat) : ∀ n, Share (colN h c j n)
  | 0 => by
    rw [colN]
    split
    · exact g.pI.get j
    · exact share_zero
  | n + 1 => by
    rw [colN]
    split
    · exact share_mul (hc.get n) ((g.pT n).get j)
    · exact colN_share g hc j n
theorem colF_shares (g : h.Good B) (w : List Int) : ∀ t, Shares (colF h w t)
  | 0 => fun q hq => by rw [colF] at hq; simp at hq
  | t + 1 => fun q hq => by
    rw [colF] at hq
    obtain ⟨j, _, rfl⟩ := List.mem_map.1 hq
    exact share_mul (colN_share g (colF_shares g w t) j _) ((g.pM j).get _)
theorem colN_sz (f : h.Form B) {c : List Rat} {C : Nat} (hc : Small C c) (hC : 1 ≤ C) (j : Nat) : ∀ n, sz (colN h c j n) ≤ C + 1024
  | 0 => by
    rw [colN]
    split
    · have := ini_sz f j; omega
    · rw [sz_zero]; omega
  | n + 1 => by
    rw [colN]
    split
    · have a := hc.get hC n
      have b := tr_sz f n j
      have d := sz_mul (c.getD n 0) (trQ h n j)
      omega
    · exact colN_sz f hc hC j n
theorem colX_sz (f : h.Form B) {c : List Rat} {C : Nat} (hc : Small C c) (hC : 1 ≤ C) (x : Nat) : Small (C + 2048) (colX h x c) := fun q hq => by
  obtain ⟨j, _, rfl⟩ := List.mem_map.1 hq
  have a := colN_sz f hc hC j c.length
  have b := em_sz f j x
  have d := sz_mul (colN h c j c.length) (emQ h j x)
  omega
theorem colF_sz (f : h.Form B) (w : List Int) : ∀ t, Small (1 + 2048 * t) (colF h w t)
  | 0 => fun q hq => by rw [colF] at hq; simp at hq
  | t + 1 => by
    rw [Nat.mul_add, Nat.mul_one, ← Nat.add_assoc]
    exact colX_sz f (colF_sz f w t) (by omega) (symX w t)
theorem endW_len {v : Nat → Rat × List Int} {n : Nat} (g : h.Good B) (h0 : ∀ i, 0 ≤ (v i).1) (hv : ∀ i, 0 < (v i).1 → (v i).2.length = n) : ∀ k, 0 < (endW h v k).1 → (endW h v k).2.length = n
  | 0, e => absurd e (by show ¬ (0 : Rat) < 0; decide)
  | k + 1, e => by
    rw [endW, putW] at e ⊢
    by_cases hb : betterP ((v k).1 * h.stop.getD k 0) (v k).2 (endW h v k)
    · rw [if_pos hb] at e ⊢
      exact hv k (pos_of_mul (h0 k) (stop_nonneg g k) e).1
    · rw [if_neg hb] at e ⊢
      exact endW_len g h0 hv k e
theorem endW_nonneg {v : Nat → Rat × List Int} (g : h.Good B) (h0 : ∀ i, 0 ≤ (v i).1) : ∀ k, 0 ≤ (endW h v k).1
  | 0 => Rat.le_refl
  | k + 1 => by
    rw [endW]
    exact putW_nonneg (endW_nonneg g h0 k) (Rat.mul_nonneg (h0 k) (stop_nonneg g k))
theorem endW_sz {v : Nat → Rat × List Int} {C : Nat} (f : h.Form B) (hv : ∀ i, sz (v i).1 ≤ C) : ∀ k, sz (endW h v k).1 ≤ C + 1024
  | 0 => by show sz 0 ≤ _; rw [sz_zero]; omega
  | k + 1 => by
    rw [endW, putW]
    split
    · have a := hv k
      have b := stop_sz f k
      have d := sz_mul (v k).1 (h.stop.getD k 0)
      simp only
      omega
    · exact endW_sz f hv k
theorem endC_sz {c : List Rat} {C : Nat} (f : h.Form B) (hc : Small C c) (hC : 1 ≤ C) : ∀ k, sz (endC h c k) ≤ C + 1024
  | 0 => by show sz 0 ≤ _; rw [sz_zero]; omega
  | k + 1 => by
    rw [endC]
    split
    · have a := hc.get hC k
      have b := stop_sz f k
      have d := sz_mul (c.getD k 0) (h.stop.getD k 0)
      omega
    · exact endC_sz f hc hC k
theorem best_cols (g : h.Good B) (w : List Int) (hw : w.length ≠ 0) : (endW h (wayF h w w.length) h.st).1 = endC h (colF h w w.length) h.st :=
  end_col h.st fun i hi => way_col g w.length hw i hi
end
end Go.AL

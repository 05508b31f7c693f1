/-
  M, chapter 35, part 2: what Best and Within hand back; sets of states as numbers.
-/
import Derived.Test.YtcebciggodhmcaaGreatKMod35
set_option linter.unusedVariables false
set_option linter.unusedSimpArgs false
namespace Go.AL
open Go Go.BigFrame
def bestR (h : HM) (w : List Int) (p : Nat → Nat → Bool) : Rat := if w.length = 0 then h.empty else bestG h w p
def vitP (h : HM) (w : List Int) (p : Nat → Nat → Bool) : List Int := if w.length = 0 ∨ bestG h w p = 0 then [] else pathG h w p w.length
def vitE (h : HM) (w : List Int) (p : Nat → Nat → Bool) : Int := if bestR h w p = 0 then 11 else 0
theorem vitE_zero {h : HM} {w : List Int} {p : Nat → Nat → Bool} : vitE h w p = 0 ↔ bestR h w p ≠ 0 := by
  unfold vitE
  by_cases e : bestR h w p = 0
  · rw [if_pos e]; exact ⟨fun x => absurd x (by decide), fun x => absurd e x⟩
  · rw [if_neg e]; exact ⟨fun _ => e, fun _ => rfl⟩
theorem vitE_cases (h : HM) (w : List Int) (p : Nat → Nat → Bool) : vitE h w p = 0 ∨ vitE h w p = 11 := by
  unfold vitE; split
  · exact .inr rfl
  · exact .inl rfl
theorem vitP_len {h : HM} {w : List Int} {p : Nat → Nat → Bool} (e : vitE h w p = 0) : (vitP h w p).length = w.length := by
  have e := vitE_zero.1 e
  unfold vitP
  by_cases h0 : w.length = 0
  · rw [if_pos (.inl h0), h0]; rfl
  · have e2 : bestG h w p ≠ 0 := by unfold bestR at e; rw [if_neg h0] at e; exact e
    rw [if_neg fun x => x.elim h0 e2, pathG_len]
theorem vitP_nil {h : HM} {w : List Int} {p : Nat → Nat → Bool} (e : vitE h w p ≠ 0) : vitP h w p = [] := by
  unfold vitP
  by_cases h0 : w.length = 0
  · rw [if_pos (.inl h0)]
  · have e2 : bestG h w p = 0 := by
      have : ¬ bestR h w p ≠ 0 := fun x => e (vitE_zero.2 x)
      unfold bestR at this
      rw [if_neg h0] at this
      exact Decidable.of_not_not this
    rw [if_pos (.inr e2)]
theorem bestR_sz {h : HM} {B : Nat} (f : h.Form B) {w : List Int} (hw : w.length ≤ 256) (p : Nat → Nat → Bool) : sz (bestR h w p) ≤ 1052672 := by
  unfold bestR
  split
  · have := f.zE; have := f.bB; omega
  · have := aheadF_sz f (-1) (symX w 0) (restG_szB f w p (d := w.length - 1 - 0) (by omega)) (by decide) h.st
    show sz (aheadF h (-1) (symX w 0) (restG h w p (w.length - 1 - 0)) h.st).1 ≤ _
    omega
def setF (sets : List Int) (t : Nat) : Nat := if t < sets.length then (within (sets.getD t 0) 8).toNat else 7
def bitS (x s : Nat) : Bool := decide (x / 2 ^ s % 2 = 1)
def rowA (x n : Nat) : List Int := ((List.range n).filter fun s => bitS x s).map fun s : Nat => (s : Int)
def FitsA (h : HM) (w sets : List Int) (n : Nat) : Prop := vitE h w every = 0 ∧ ∀ t, t < n → bitS (setF sets t) ((vitP h w every).getD t 0).toNat = true
instance (h : HM) (w sets : List Int) (n : Nat) : Decidable (FitsA h w sets n) := inferInstanceAs (Decidable (_ ∧ _))
end Go.AL

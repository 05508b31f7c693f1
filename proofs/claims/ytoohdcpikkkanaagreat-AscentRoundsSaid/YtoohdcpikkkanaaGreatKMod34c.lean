/-
  M, chapter 34: the sums of beginnings times ends; the expected numbers fit together.
-/
import Derived.Test.YtoohdcpikkkanaaGreatKMod40b
import Derived.KernelRfl
import Derived.Test.YtoohdcpikkkanaaGreatKMod34b
set_option linter.unusedVariables false
set_option linter.unusedSimpArgs false
namespace Go.AL
open Go Go.BigFrame
deriving instance DecidableEq for Drawing
end Go.AL

set_option linter.unusedVariables false
set_option linter.unusedSimpArgs false
namespace Go.AL
open Go Go.BigFrame
def sumL (l : List Rat) : Rat := sumN (fun i => l.getD i 0) l.length
theorem small_map {C n : Nat} {f : Nat → Rat} (h : ∀ i, i < n → sz (f i) ≤ C) : Small C ((List.range n).map f) := fun q hq => by
  obtain ⟨i, hi, rfl⟩ := List.mem_map.1 hq
  exact h i (List.mem_range.1 hi)
structure Fit (h : HM) (w : List Int) : Prop where
  row : ∀ t, t < w.length → sumL (postF h w t) = 1
  show_ : ∀ i, sumL (showRow h w w.length i) = sumN (fun t => postQ h w t i) w.length
  out : ∀ i, i < h.st → sumL (moveRow h w (w.length - 1) i) + postQ h w (w.length - 1) i = sumN (fun t => postQ h w t i) w.length
  into : ∀ i, i < h.st → postQ h w 0 i + sumN (fun j => moveQ h w (w.length - 1) j i) h.st = sumN (fun t => postQ h w t i) w.length
structure Got (h : HM) (w : List Int) : Prop where
  pl : (postR h w).length = w.length
  pg : ∀ t, t < w.length → (postR h w).getD t [] = postF h w t
  sS : exS h w = postF h w 0
  sE : exE h w = postF h w (w.length - 1)
  lM : (exM h w).length = h.st
  lO : (exO h w).length = h.st
  gM : ∀ i, i < h.st → (exM h w).getD i [] = moveRow h w (w.length - 1) i
  gO : ∀ i, i < h.st → (exO h w).getD i [] = showRow h w w.length i
theorem show_small {h : HM} {B : Nat} (f : h.Form B) {w : List Int} (k : Few h w) (i : Nat) : Small 160000000 (showRow h w w.length i) := small_map fun x _ => show_sz f k (Nat.le_refl _) i x
theorem move_small {h : HM} {B : Nat} (f : h.Form B) {w : List Int} (k : Few h w) (hn : w.length ≠ 0) (i : Nat) : Small 160000000 (moveRow h w (w.length - 1) i) := small_map fun j _ => move_sz f k (by omega) i j
end Go.AL

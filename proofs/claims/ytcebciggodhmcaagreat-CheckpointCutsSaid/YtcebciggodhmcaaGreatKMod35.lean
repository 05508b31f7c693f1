/-
  M, chapter 35: best paths among permitted states.
-/
import Derived.Test.YtcebciggodhmcaaGreatKMod36b
set_option linter.unusedVariables false
set_option linter.unusedSimpArgs false
namespace Go.AL
open Go Go.BigFrame
def rowG (h : HM) (p : Nat → Bool) (g : Nat → Rat) : List Rat := (List.range h.st).map fun i => if p i = true then g i else 0
def restG (h : HM) (w : List Int) (p : Nat → Nat → Bool) : Nat → List Rat
  | 0 => rowG h (p (w.length - 1)) fun i => h.stop.getD i 0
  | d + 1 => rowG h (p (w.length - 1 - (d + 1))) fun i => (aheadF h (i : Nat) (symX w (w.length - 1 - d)) (restG h w p d) h.st).1
def ahdG (h : HM) (w : List Int) (p : Nat → Nat → Bool) (fr : Int) (t : Nat) : Rat × Nat := aheadF h fr (symX w t) (restG h w p (w.length - 1 - t)) h.st
def toG (h : HM) (w : List Int) (p : Nat → Nat → Bool) : Nat → Int
  | 0 => -1
  | t + 1 => ((ahdG h w p (toG h w p t) t).2 : Nat)
def pathG (h : HM) (w : List Int) (p : Nat → Nat → Bool) (t : Nat) : List Int := (List.range t).map fun i => toG h w p (i + 1)
def bestG (h : HM) (w : List Int) (p : Nat → Nat → Bool) : Rat := (ahdG h w p (-1) 0).1
def every : Nat → Nat → Bool := fun _ _ => true
structure AhdSpec (h : HM) (fr : Int) (x : Nat) (rest : List Rat) (n : Nat) (r : Rat × Nat) : Prop where
  nonneg : 0 ≤ r.1
  le : ∀ i, i < n → viaQ h fr x rest i ≤ r.1
  zero : r.1 = 0 → r.2 = 0
  lt : 0 < r.1 → r.2 < n
  eq : 0 < r.1 → viaQ h fr x rest r.2 = r.1
  least : 0 < r.1 → ∀ i, i < r.2 → viaQ h fr x rest i < r.1
theorem stop_nonneg {h : HM} {B : Nat} (g : h.Good B) (i : Nat) : 0 ≤ h.stop.getD i 0 := (g.pS.get i).1
end Go.AL

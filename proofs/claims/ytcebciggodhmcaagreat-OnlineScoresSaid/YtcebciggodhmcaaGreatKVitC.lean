/-
  Walks of package viterbi, part 3: the best path, Best, Within; words; sanity checks (printed by mk2.py).
-/
import Derived.Test.YtcebciggodhmcaaGreatKMod35
import Derived.Test.YtcebciggodhmcaaGreatKVitA
import Derived.Test.YtcebciggodhmcaaGreatKAlg26
import Derived.Test.YtcebciggodhmcaaGreatKWord
set_option linter.unusedVariables false
set_option linter.unusedSimpArgs false
namespace Go.AL
open Go Go.BigFrame
def bestR (h : HM) (w : List Int) (p : Nat → Nat → Bool) : Rat := if w.length = 0 then h.empty else bestG h w p
def vitP (h : HM) (w : List Int) (p : Nat → Nat → Bool) : List Int := if w.length = 0 ∨ bestG h w p = 0 then [] else pathG h w p w.length
def vitE (h : HM) (w : List Int) (p : Nat → Nat → Bool) : Int := if bestR h w p = 0 then 11 else 0
def setF (sets : List Int) (t : Nat) : Nat := if t < sets.length then (within (sets.getD t 0) 8).toNat else 7
def bitS (x s : Nat) : Bool := decide (x / 2 ^ s % 2 = 1)
def rowA (x n : Nat) : List Int := ((List.range n).filter fun s => bitS x s).map fun s : Nat => (s : Int)
def FitsA (h : HM) (w sets : List Int) (n : Nat) : Prop := vitE h w every = 0 ∧ ∀ t, t < n → bitS (setF sets t) ((vitP h w every).getD t 0).toNat = true
instance (h : HM) (w sets : List Int) (n : Nat) : Decidable (FitsA h w sets n) := inferInstanceAs (Decidable (_ ∧ _))
end Go.AL

set_option linter.unusedVariables false
set_option linter.unusedSimpArgs false
namespace Go.Proofs.YtcebciggodhmcaaGreat
open Go Go.AL
abbrev dIss (l : List (List Int)) : D := .sl (l.map ints)
theorem vd_q0B : VD (.ag [.d (dB false), .mt, .mt]) (dQ 0) := VD.ag vcs_q0
end Go.Proofs.YtcebciggodhmcaaGreat

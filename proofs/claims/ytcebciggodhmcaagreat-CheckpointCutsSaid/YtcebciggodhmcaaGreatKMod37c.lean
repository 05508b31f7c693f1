/-
  M, chapter 37: the end of a word; when states are committed.
-/
import Derived.Test.YtcebciggodhmcaaGreatKMod37b
set_option linter.unusedVariables false
set_option linter.unusedSimpArgs false
namespace Go.AL
open Go Go.BigFrame
def endQ (h : HM) (o : Dec) (i : Nat) : Rat := o.sc.getD i 0 * h.stop.getD i 0
structure FinSpec (h : HM) (o : Dec) (n : Nat) (m : Rat × List Int) : Prop where
  nonneg : 0 ≤ m.1
  le : ∀ i, i < n → endQ h o i ≤ m.1
  pos : 0 < m.1 → ∃ i, i < n ∧ m = (endQ h o i, o.tl.getD i [])
  least : 0 < m.1 → ∀ i, i < n → endQ h o i = m.1 → cmpL m.2 (o.tl.getD i []) ≤ 0
section
variable {h : HM} {B : Nat} {u : List Int} {o : Dec}
structure TimesOK (ts : List Int) (n : Nat) : Prop where
  ge : ∀ s, s < ts.length → (s : Int) + 1 ≤ ts.getD s 0
  le : ∀ s, s < ts.length → ts.getD s 0 ≤ n
  mono : ∀ s, s + 1 < ts.length → ts.getD s 0 ≤ ts.getD (s + 1) 0
end
end Go.AL

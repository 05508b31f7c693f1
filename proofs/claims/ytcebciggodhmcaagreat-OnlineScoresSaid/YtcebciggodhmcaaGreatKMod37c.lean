/-
  M, chapter 37: the end of a word; when states are committed.
-/
import Derived.Test.YtcebciggodhmcaaGreatKMod37b
set_option linter.unusedVariables false
set_option linter.unusedSimpArgs false
namespace Go.AL
open Go Go.BigFrame
def endQ (h : HM) (o : Dec) (i : Nat) : Rat := o.sc.getD i 0 * h.stop.getD i 0
structure FinSpec (h : HM) (o : Dec) (n : Nat) (m : Rat × List Int) : Prop where
  nonneg : 0 ≤ m.1
  le : ∀ i, i < n → endQ h o i ≤ m.1
  pos : 0 < m.1 → ∃ i, i < n ∧ m = (endQ h o i, o.tl.getD i [])
  least : 0 < m.1 → ∀ i, i < n → endQ h o i = m.1 → cmpL m.2 (o.tl.getD i []) ≤ 0
section
variable {h : HM} {B : Nat} {u : List Int} {o : Dec}
def runD (h : HM) (w : List Int) : Nat → Dec × List Int
  | 0 => (⟨0, [], [], []⟩, [])
  | t + 1 => (stepD h (runD h w t).1 (symX w t), (runD h w t).2 ++ List.replicate (cmtF h (runD h w t).1 (symX w t) h.st).length ((t + 1 : Nat) : Int))
theorem run_t (h : HM) (w : List Int) : ∀ t, (runD h w t).1.t = t
  | 0 => rfl
  | t + 1 => by show (runD h w t).1.t + 1 = _; rw [run_t h w t]
structure TimesOK (ts : List Int) (n : Nat) : Prop where
  ge : ∀ s, s < ts.length → (s : Int) + 1 ≤ ts.getD s 0
  le : ∀ s, s < ts.length → ts.getD s 0 ≤ n
  mono : ∀ s, s + 1 < ts.length → ts.getD s 0 ≤ ts.getD (s + 1) 0
theorem run_inv (g : h.Good B) {t : Nat} (ht : t < u.length) (k : InvD h u (runD h u t).1) (hs : someN h (runD h u t).1 (symX u t) h.st = true) : InvD h u (runD h u (t + 1)).1 := by
  have e := run_t h u t
  have a := inv_step g k (by omega) (by rw [e]; exact someN_iff.1 hs)
  rw [e] at a
  exact a
end
end Go.AL

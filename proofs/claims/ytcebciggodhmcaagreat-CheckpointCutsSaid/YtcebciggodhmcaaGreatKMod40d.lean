/-
  M, chapter 40, part 4: the interval of a run.
-/
import Derived.Test.YtcebciggodhmcaaGreatKMod40b
import Derived.KernelRfl
import Derived.Test.YtcebciggodhmcaaGreatKMod36
set_option linter.unusedVariables false
set_option linter.unusedSimpArgs false
namespace Go.AL
open Go Go.BigFrame
deriving instance DecidableEq for Drawing
end Go.AL

set_option linter.unusedVariables false
set_option linter.unusedSimpArgs false
namespace Go.AL
open Go Go.BigFrame
def rdN (bits : List Int) : Nat → Rd
  | 0 => ⟨0, .one⟩
  | n + 1 => (rdN bits n).step bits
theorem firstK_spec {read s : Span} {ch : List Rat} {k : Nat} (h : firstK read s ch = some k) : Sure read s ch k := by
  have := List.find?_some h
  exact of_decide_eq_true this
theorem firstK_not {read s : Span} {ch : List Rat} (h : firstK read s ch = none) : ∀ j, j < ch.length → ¬ Sure read s ch j := fun j hj e => by
  have := List.find?_eq_none.1 h j (List.mem_range.2 hj)
  exact this (decide_eq_true e)
theorem choose_spec {bits : List Int} {s : Span} {ch : List Rat} {r r1 : Rd} {k : Nat} (h : chooseB bits s ch r = some (k, r1)) (hr : r = rdN bits r.used) :
    r1 = rdN bits r1.used ∧ Sure r1.read s ch k ∧ r.used ≤ r1.used ∧ ∀ v, r.used ≤ v → v < r1.used → ∀ j, j < ch.length → ¬ Sure (rdN bits v).read s ch j := by
  rw [chooseB] at h
  split at h
  · rename_i k' hk
    cases h
    exact ⟨hr, firstK_spec hk, Nat.le_refl _, fun v h1 h2 => by omega⟩
  · rename_i hk
    split at h
    · rename_i hlt
      have hs : r.step bits = rdN bits (r.step bits).used := by
        show r.step bits = rdN bits (r.used + 1)
        rw [rdN, ← hr]
      obtain ⟨a1, a2, a3, a4⟩ := choose_spec h hs
      have e : (r.step bits).used = r.used + 1 := rfl
      refine ⟨a1, a2, by omega, fun v h1 h2 j hj => ?_⟩
      rcases Nat.lt_or_ge r.used v with hv | hv
      · exact a4 v (by omega) h2 j hj
      · obtain rfl : v = r.used := by omega
        rw [← hr]
        exact firstK_not hk j hj
    · cases h
termination_by bits.length - r.used
decreasing_by simp only [Rd.step]; omega
structure Fair (ch : List Rat) : Prop where
  pos : ∀ q, q ∈ ch → 0 ≤ q
  sum : sumQ ch = 1
def RunOK (h : HM) (st w : List Int) : Prop := st.length = w.length ∧ w.length ≤ 256 ∧ (∀ x, x ∈ st → 0 ≤ x ∧ x < h.st) ∧ ∀ x, x ∈ w → 1 ≤ x ∧ x ≤ h.sym
theorem RunOK.word {h : HM} {st w : List Int} (k : RunOK h st w) : WordOK h w := ⟨k.2.1, k.2.2.2⟩
end Go.AL

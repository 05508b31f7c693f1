/-
  M, chapter 34: all paths; the sum of the joint probabilities is the likelihood, that of the paths through a state its share.
-/
import Derived.Test.YtcebciggodhmcaaGreatKMod34c
set_option linter.unusedVariables false
set_option linter.unusedSimpArgs false
namespace Go.AL
open Go Go.BigFrame
def pathsF (n : Nat) : Nat → List (List Int)
  | 0 => [[]]
  | k + 1 => (pathsF n k).flatMap fun p => (List.range n).map fun (s : Nat) => p ++ [(s : Int)]
theorem pathsF_mem {n : Nat} : ∀ {k : Nat} {p : List Int}, p ∈ pathsF n k → p.length = k ∧ ∀ x, x ∈ p → 0 ≤ x ∧ x < (n : Int)
  | 0, p, h => by
    rw [pathsF, List.mem_singleton] at h
    subst h
    exact ⟨rfl, fun x hx => by simp at hx⟩
  | k + 1, p, h => by
    rw [pathsF, List.mem_flatMap] at h
    obtain ⟨q, hq, hp⟩ := h
    obtain ⟨s, hs, rfl⟩ := List.mem_map.1 hp
    have h1 := pathsF_mem hq
    have hs := List.mem_range.1 hs
    refine ⟨by rw [List.length_append, h1.1]; rfl, fun x hx => ?_⟩
    rcases List.mem_append.1 hx with hx | hx
    · exact h1.2 x hx
    · rw [List.mem_singleton.1 hx]; omega
def atP (p : List Int) (t : Nat) : Nat := (p.getD t 0).toNat
theorem atP_lt {n k t : Nat} {p : List Int} (h : p ∈ pathsF n k) (ht : t < k) : atP p t < n ∧ p.getD t 0 = (atP p t : Int) := by
  obtain ⟨h1, h2⟩ := pathsF_mem h
  have := h2 (p.getD t 0) (getD_mem (by omega) 0)
  unfold atP
  omega
theorem atP_snoc {p : List Int} {s t : Nat} (ht : t < p.length) : atP (p ++ [(s : Int)]) t = atP p t := by unfold atP; rw [getD_snoc_lt ht]
theorem atP_last {p : List Int} {s t : Nat} (ht : t = p.length) : atP (p ++ [(s : Int)]) t = s := by unfold atP; rw [getD_snoc_eq ht]; exact Int.toNat_natCast s
def wgt (h : HM) (w : List Int) (p : List Int) : Nat → Rat
  | 0 => h.ini.getD (atP p 0) 0
  | t + 1 => (if t = 0 then wgt h w p t else wgt h w p t * trQ h (atP p (t - 1)) (atP p t)) * emQ h (atP p t) (symX w t)
theorem wgt_snoc {h : HM} {w p : List Int} {s : Nat} : ∀ {t : Nat}, t + 1 ≤ p.length → wgt h w (p ++ [(s : Int)]) (t + 1) = wgt h w p (t + 1)
  | 0, ht => by
    rw [wgt, wgt, if_pos rfl, wgt, if_pos rfl, wgt, atP_snoc (show 0 < p.length by omega)]
  | t + 1, ht => by
    rw [wgt, if_neg (by omega), wgt_snoc (by omega), atP_snoc (show t + 1 < p.length by omega), show t + 1 - 1 = t from rfl, atP_snoc (show t < p.length by omega)]
    conv => rhs; rw [wgt, if_neg (by omega)]
    rfl
end Go.AL

/-
  Walks of package online, part 3: one more symbol (printed by mk2.py).
-/
import Derived.Test.YtcebciggodhmcaaGreatKCkA
import Derived.Test.YtcebciggodhmcaaGreatKMul
import Derived.Test.YtcebciggodhmcaaGreatKMod40d
import Derived.Test.YtcebciggodhmcaaGreatKAlg26
import Derived.Test.YtcebciggodhmcaaGreatKMod35
import Derived.Test.YtcebciggodhmcaaGreatKWord
import Derived.Test.YtcebciggodhmcaaGreatKMod34
import Derived.Test.YtcebciggodhmcaaGreatKAlg27
import Derived.Test.YtcebciggodhmcaaGreatKMod37b
set_option linter.unusedVariables false
set_option linter.unusedSimpArgs false
namespace Go.Proofs.YtcebciggodhmcaaGreat
open Go Go.AL
def cmpI (a b : Int) : Int := if a < b then -1 else if b < a then 1 else 0
theorem cmpL_drop {l m : List Int} {i : Nat} (h1 : i < l.length) (h2 : i < m.length) : cmpL (l.drop i) (m.drop i) = if cmpI (l.getD i 0) (m.getD i 0) = 0 then cmpL (l.drop (i + 1)) (m.drop (i + 1)) else cmpI (l.getD i 0) (m.getD i 0) := by
  have e1 : l.getD i 0 = l[i] := by rw [List.getD_eq_getElem?_getD, List.getElem?_eq_getElem h1]; rfl
  have e2 : m.getD i 0 = m[i] := by rw [List.getD_eq_getElem?_getD, List.getElem?_eq_getElem h2]; rfl
  rw [List.drop_eq_getElem_cons h1, List.drop_eq_getElem_cons h2, cmpL, e1, e2]
  unfold cmpI
  by_cases a : l[i] < m[i]
  · rw [if_pos a, if_pos a, if_neg (by decide)]
  · rw [if_neg a, if_neg a]
    by_cases b : m[i] < l[i]
    · rw [if_pos b, if_pos b, if_neg (by decide)]
    · rw [if_neg b, if_neg b, if_pos rfl]
end Go.Proofs.YtcebciggodhmcaaGreat

set_option linter.unusedVariables false
set_option linter.unusedSimpArgs false
namespace Go.Proofs.YtcebciggodhmcaaGreat
open Go Go.AL
theorem sgn_gt {q : Rat} : 0 < sgnQ q ↔ 0 < q := by
  rw [← sgnQ_pos]
  have := sgnQ_cases q
  omega
end Go.Proofs.YtcebciggodhmcaaGreat

set_option linter.unusedVariables false
set_option linter.unusedSimpArgs false
namespace Go.Proofs.YtcebciggodhmcaaGreat
open Go Go.AL
theorem upneS {ρ : Nat → V} {f : Nat → Option Blk} {a t : Nat} {v y : Option Blk} (h : t ≠ a) (hf : f t = y) : (⟨ρ, upd f a v⟩ : S).M t = y := (upd_ne _ _ h).trans hf
theorem upsmS {ρ : Nat → V} {f : Nat → Option Blk} {a : Nat} {v : Option Blk} : (⟨ρ, upd f a v⟩ : S).M a = v := upd_same _ _ _
theorem rhoS {ρ : Nat → V} {f : Nat → Option Blk} {t : Nat} {v : V} (h : ρ t = v) : (⟨ρ, f⟩ : S).ρ t = v := h
theorem putneS {s : S} {d t : Nat} {v w : V} (h : t ≠ d) (hf : s.ρ t = v) : (s.put (some d) w).ρ t = v := (upd_ne _ _ h).trans hf
theorem putsmS {s : S} {d : Nat} {w : V} : (s.put (some d) w).ρ d = w := upd_same _ _ _
theorem putM {s : S} {d t : Nat} {w : V} {y : Option Blk} (hf : s.M t = y) : (s.put (some d) w).M t = y := hf
end Go.Proofs.YtcebciggodhmcaaGreat

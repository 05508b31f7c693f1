/-
  M, chapter 37: the order of paths; the best path of chapter 35 is the greatest and the least.
-/
import Derived.Test.YtcebciggodhmcaaGreatKMod34d
import Derived.Test.YtcebciggodhmcaaGreatKVitC
set_option linter.unusedVariables false
set_option linter.unusedSimpArgs false
namespace Go.AL
open Go Go.BigFrame
def cmpL : List Int → List Int → Int
  | [], [] => 0
  | [], _ :: _ => -1
  | _ :: _, [] => 1
  | a :: x, b :: y => if a < b then -1 else if b < a then 1 else cmpL x y
theorem cmpL_self : ∀ x : List Int, cmpL x x = 0
  | [] => rfl
  | a :: x => by rw [cmpL, if_neg (by omega), if_neg (by omega), cmpL_self x]
theorem cmpL_neg : ∀ x y : List Int, cmpL y x = -cmpL x y
  | [], [] => rfl
  | [], _ :: _ => rfl
  | _ :: _, [] => rfl
  | a :: x, b :: y => by
    rw [cmpL, cmpL, cmpL_neg x y]
    by_cases h1 : a < b
    · rw [if_neg (by omega), if_pos h1, if_pos h1]; rfl
    · rw [if_neg h1]
      by_cases h2 : b < a
      · rw [if_pos h2, if_neg h1, if_pos h2]
      · rw [if_neg h2, if_neg h2, if_neg h1]
theorem cmpL_trans : ∀ {x y z : List Int}, cmpL x y ≤ 0 → cmpL y z ≤ 0 → cmpL x z ≤ 0
  | [], _, [], _, _ => by rw [cmpL]; decide
  | [], _, _ :: _, _, _ => by rw [cmpL]; decide
  | _ :: _, [], _, h, _ => by rw [cmpL] at h; exact absurd h (by decide)
  | _ :: _, _ :: _, [], _, h => by rw [cmpL] at h; exact absurd h (by decide)
  | a :: x, b :: y, c :: z, h1, h2 => by
    rw [cmpL] at h1 h2 ⊢
    by_cases hab : a < b
    · by_cases hcb : c < b
      · rw [if_neg (by omega), if_pos hcb] at h2; exact absurd h2 (by decide)
      · rw [if_pos (by omega)]; decide
    · rw [if_neg hab] at h1
      by_cases hba : b < a
      · rw [if_pos hba] at h1; exact absurd h1 (by decide)
      · rw [if_neg hba] at h1
        by_cases hbc : b < c
        · rw [if_pos (by omega)]; decide
        · rw [if_neg hbc] at h2
          by_cases hcb : c < b
          · rw [if_pos hcb] at h2; exact absurd h2 (by decide)
          · rw [if_neg hcb] at h2
            rw [if_neg (by omega), if_neg (by omega)]
            exact cmpL_trans h1 h2
theorem cmpL_left (d : List Int) {x y : List Int} : cmpL (d ++ x) (d ++ y) = cmpL x y := by
  induction d with
  | nil => rfl
  | cons a d ih => rw [List.cons_append, List.cons_append, cmpL, if_neg (by omega), if_neg (by omega), ih]
theorem cmpL_snoc {a b : Int} : ∀ {x y : List Int}, x.length = y.length → cmpL (x ++ [a]) (y ++ [b]) = if cmpL x y = 0 then (if a < b then -1 else if b < a then 1 else 0) else cmpL x y
  | [], [], _ => by rw [List.nil_append, List.nil_append, cmpL, cmpL, if_pos rfl, cmpL]
  | [], _ :: _, h => by simp at h
  | _ :: _, [], h => by simp at h
  | c :: x, d :: y, h => by
    rw [List.cons_append, List.cons_append, cmpL, cmpL, cmpL_snoc (by simpa using h)]
    by_cases h1 : c < d
    · rw [if_pos h1, if_pos h1, if_neg (by decide)]
    · rw [if_neg h1, if_neg h1]
      by_cases h2 : d < c
      · rw [if_pos h2, if_pos h2, if_neg (by decide)]
      · rw [if_neg h2, if_neg h2]
theorem cmpL_snoc_same {a : Int} {x y : List Int} (h : x.length = y.length) : cmpL (x ++ [a]) (y ++ [a]) = cmpL x y := by
  rw [cmpL_snoc h]
  split
  · rename_i e; rw [if_neg (by omega), if_neg (by omega), e]
  · rfl
theorem paths_snoc {n k s : Nat} {p : List Int} (hp : p ∈ pathsF n k) (hs : s < n) : p ++ [(s : Int)] ∈ pathsF n (k + 1) := List.mem_flatMap.2 ⟨p, hp, List.mem_map.2 ⟨s, List.mem_range.2 hs, rfl⟩⟩
theorem paths_cut {n k : Nat} {p : List Int} (hp : p ∈ pathsF n (k + 1)) : ∃ q s, q ∈ pathsF n k ∧ s < n ∧ p = q ++ [(s : Int)] := by
  rw [pathsF, List.mem_flatMap] at hp
  obtain ⟨q, hq, h⟩ := hp
  obtain ⟨s, hs, rfl⟩ := List.mem_map.1 h
  exact ⟨q, s, hq, List.mem_range.1 hs, rfl⟩
theorem tr_nonneg {h : HM} {B : Nat} (g : h.Good B) (i j : Nat) : 0 ≤ trQ h i j := ((g.pT i).get j).1
theorem em_nonneg {h : HM} {B : Nat} (g : h.Good B) (i x : Nat) : 0 ≤ emQ h i x := ((g.pM i).get x).1
theorem ini_nonneg {h : HM} {B : Nat} (g : h.Good B) (i : Nat) : 0 ≤ h.ini.getD i 0 := (g.pI.get i).1
theorem wgt_nonneg {h : HM} {B : Nat} (g : h.Good B) (w p : List Int) : ∀ t, 0 ≤ wgt h w p t
  | 0 => ini_nonneg g _
  | t + 1 => by
    rw [wgt]
    split
    · exact Rat.mul_nonneg (wgt_nonneg g w p t) (em_nonneg g _ _)
    · exact Rat.mul_nonneg (Rat.mul_nonneg (wgt_nonneg g w p t) (tr_nonneg g _ _)) (em_nonneg g _ _)
theorem wgt_step {h : HM} {w p : List Int} {t : Nat} (ht : t ≠ 0) : wgt h w p (t + 1) = wgt h w p t * trQ h (atP p (t - 1)) (atP p t) * emQ h (atP p t) (symX w t) := by rw [wgt, if_neg ht]
theorem wgt_one {h : HM} {w p : List Int} : wgt h w p 1 = h.ini.getD (atP p 0) 0 * emQ h (atP p 0) (symX w 0) := by rw [wgt, if_pos rfl, wgt]
end Go.AL

/-
  M, chapters 35 to 37: the best way to each state, kept in lists of one.
-/
import Derived.Test.YtcebciggodhmcaaGreatKMod37c
set_option linter.unusedVariables false
set_option linter.unusedSimpArgs false
namespace Go.AL
open Go Go.BigFrame
def putW (x : Rat) (y : List Int) (m : Rat × List Int) : Rat × List Int := if betterP x y m then (x, y) else m
def wayN (h : HM) (v : Nat → Rat × List Int) (x j : Nat) : Nat → Rat × List Int
  | 0 => (0, [])
  | i + 1 => putW ((v i).1 * trQ h i j * emQ h j x) ((v i).2 ++ [(j : Int)]) (wayN h v x j i)
def wayF (h : HM) (w : List Int) : Nat → Nat → Rat × List Int
  | 0, _ => (0, [])
  | t + 1, j => if t = 0 then putW (h.ini.getD j 0 * emQ h j (symX w 0)) [(j : Int)] (0, []) else wayN h (wayF h w t) (symX w t) j h.st
theorem putW_zero {y : List Int} {m : Rat × List Int} (h : 0 ≤ m.1) : putW 0 y m = m := if_neg fun k => k.elim (fun k => absurd k (Rat.not_lt.2 h)) fun k => absurd k.2.1 (by decide)
theorem putW_first {x : Rat} {y z : List Int} (h : 0 < x) : putW x y (0, z) = (x, y) := if_pos (.inl h)
theorem putW_nonneg {x : Rat} {y : List Int} {m : Rat × List Int} (h : 0 ≤ m.1) (hx : 0 ≤ x) : 0 ≤ (putW x y m).1 := by unfold putW; split; exact hx; exact h
theorem putW_fst {x : Rat} {y : List Int} {m : Rat × List Int} : (putW x y m).1 = if m.1 < x then x else m.1 := by
  unfold putW
  by_cases h : m.1 < x
  · rw [if_pos (show betterP x y m from .inl h), if_pos h]
  · rw [if_neg h]
    by_cases k : betterP x y m
    · rw [if_pos k]; exact (Or.resolve_left k h).1
    · rw [if_neg k]
section
variable {h : HM} {B : Nat} {u : List Int} {o : Dec}
theorem wayN_nonneg (g : h.Good B) {v : Nat → Rat × List Int} (hv : ∀ i, 0 ≤ (v i).1) (x j : Nat) : ∀ n, 0 ≤ (wayN h v x j n).1
  | 0 => Rat.le_refl
  | n + 1 => by
    rw [wayN]
    exact putW_nonneg (wayN_nonneg g hv x j n) (Rat.mul_nonneg (Rat.mul_nonneg (hv n) (tr_nonneg g n j)) (em_nonneg g j x))
theorem wayF_nonneg (g : h.Good B) (w : List Int) : ∀ t j, 0 ≤ (wayF h w t j).1
  | 0, _ => Rat.le_refl
  | t + 1, j => by
    rw [wayF]
    split
    · exact putW_nonneg Rat.le_refl (Rat.mul_nonneg (ini_nonneg g j) (em_nonneg g j _))
    · exact wayN_nonneg g (wayF_nonneg g w t) _ j _
theorem wayN_len (g : h.Good B) {v : Nat → Rat × List Int} {n : Nat} (h0 : ∀ i, 0 ≤ (v i).1) (hv : ∀ i, 0 < (v i).1 → (v i).2.length = n) (x j : Nat) : ∀ k, 0 < (wayN h v x j k).1 → (wayN h v x j k).2.length = n + 1
  | 0, e => absurd e (by show ¬ (0 : Rat) < 0; decide)
  | k + 1, e => by
    rw [wayN, putW] at e ⊢
    by_cases hb : betterP ((v k).1 * trQ h k j * emQ h j x) ((v k).2 ++ [(j : Int)]) (wayN h v x j k)
    · rw [if_pos hb] at e ⊢
      have a := (pos_of_mul (Rat.mul_nonneg (h0 k) (tr_nonneg g k j)) (em_nonneg g j x) e).1
      have b := (pos_of_mul (h0 k) (tr_nonneg g k j) a).1
      simp only [List.length_append, List.length_singleton, hv k b]
    · rw [if_neg hb] at e ⊢
      exact wayN_len g h0 hv x j k e
theorem wayF_len (g : h.Good B) (w : List Int) : ∀ t j, 0 < (wayF h w t j).1 → (wayF h w t j).2.length = t
  | 0, _, e => absurd e (by show ¬ (0 : Rat) < 0; decide)
  | t + 1, j, e => by
    rw [wayF] at e ⊢
    by_cases h0 : t = 0
    · subst h0
      rw [if_pos rfl, putW] at e ⊢
      by_cases hb : betterP (h.ini.getD j 0 * emQ h j (symX w 0)) [(j : Int)] (0, [])
      · rw [if_pos hb]; rfl
      · rw [if_neg hb] at e; exact absurd e (by show ¬ (0 : Rat) < 0; decide)
    · rw [if_neg h0] at e ⊢
      exact wayN_len g (wayF_nonneg g w t) (wayF_len g w t) _ j h.st e
theorem wayN_sz (f : h.Form B) {v : Nat → Rat × List Int} {C : Nat} (hv : ∀ i, sz (v i).1 ≤ C) (x j : Nat) : ∀ k, sz (wayN h v x j k).1 ≤ C + 2048
  | 0 => by rw [wayN]; show sz 0 ≤ _; rw [sz_zero]; omega
  | k + 1 => by
    rw [wayN, putW]
    split
    · have a := hv k
      have b := tr_sz f k j
      have c := em_sz f j x
      have d := sz_mul (v k).1 (trQ h k j)
      have e := sz_mul ((v k).1 * trQ h k j) (emQ h j x)
      simp only
      omega
    · exact wayN_sz f hv x j k
theorem wayF_sz (f : h.Form B) (w : List Int) : ∀ t j, sz (wayF h w t j).1 ≤ 1 + 2048 * t
  | 0, _ => by show sz 0 ≤ _; rw [sz_zero]; omega
  | t + 1, j => by
    rw [wayF, Nat.mul_add, Nat.mul_one, ← Nat.add_assoc]
    generalize hq : 2048 * t = q
    have ih : ∀ i, sz (wayF h w t i).1 ≤ 1 + q := fun i => by rw [← hq]; exact wayF_sz f w t i
    split
    · rw [putW]
      split
      · have a := ini_sz f j
        have b := em_sz f j (symX w 0)
        have d := sz_mul (h.ini.getD j 0) (emQ h j (symX w 0))
        simp only
        omega
      · show sz 0 ≤ _; rw [sz_zero]; omega
    · have := wayN_sz f ih (symX w t) j h.st
      omega
def colN (h : HM) (c : List Rat) (j : Nat) : Nat → Rat
  | 0 => if c.length = 0 then h.ini.getD j 0 else 0
  | i + 1 => if colN h c j i < c.getD i 0 * trQ h i j then c.getD i 0 * trQ h i j else colN h c j i
def colS (h : HM) (w : List Int) (t : Nat) (c : List Rat) : List Rat := (List.range h.st).map fun j => colN h c j c.length * emQ h j (symX w t)
def colF (h : HM) (w : List Int) : Nat → List Rat
  | 0 => []
  | t + 1 => colS h w t (colF h w t)
theorem colS_len (h : HM) (w : List Int) (t : Nat) (c : List Rat) : (colS h w t c).length = h.st := by simp [colS]
theorem colF_len (h : HM) (w : List Int) : ∀ {t : Nat}, t ≠ 0 → (colF h w t).length = h.st
  | 0, h0 => absurd rfl h0
  | t + 1, _ => colS_len ..
theorem mul_ite_lt {a b q : Rat} (hq : 0 ≤ q) : (if b * q < a * q then a * q else b * q) = (if b < a then a else b) * q := by
  rcases rat_pos hq with e | e
  · by_cases hb : b < a
    · rw [if_pos hb, if_pos (Rat.mul_lt_mul_of_pos_right hb e)]
    · rw [if_neg hb, if_neg fun k => hb ((Rat.mul_lt_mul_right e).1 k)]
  · rw [← e, Rat.mul_zero, Rat.mul_zero, Rat.mul_zero, if_neg (by decide)]
theorem wayN_col (g : h.Good B) {v : Nat → Rat × List Int} {c : List Rat} (hc : c.length ≠ 0) (x j : Nat) : ∀ n, (∀ i, i < n → (v i).1 = c.getD i 0) → (wayN h v x j n).1 = colN h c j n * emQ h j x
  | 0, _ => by rw [wayN, colN, if_neg hc, Rat.zero_mul]
  | n + 1, hv => by
    rw [wayN, putW_fst, wayN_col g hc x j n (fun i hi => hv i (by omega)), colN, hv n (Nat.lt_succ_self n), mul_ite_lt (em_nonneg g j x)]
theorem way_col (g : h.Good B) : ∀ t, t ≠ 0 → ∀ j, j < h.st → (wayF h u t j).1 = (colF h u t).getD j 0
  | 0, h0 => absurd rfl h0
  | t + 1, _ => fun j hj => by
    have e : (colF h u (t + 1)).getD j 0 = colN h (colF h u t) j (colF h u t).length * emQ h j (symX u t) := map_getD_range _ _ hj
    rw [e, wayF]
    by_cases h0 : t = 0
    · subst h0
      rw [if_pos rfl, colF, List.length_nil, colN, if_pos (show ([] : List Rat).length = 0 from rfl), putW_fst]
      split
      · rfl
      · rename_i hn
        exact Rat.le_antisymm (Rat.mul_nonneg (ini_nonneg g j) (em_nonneg g j _)) (Rat.not_lt.1 hn)
    · have n0 := g.form.st0
      rw [if_neg h0, colF_len h u h0]
      exact wayN_col g (by rw [colF_len h u h0]; omega) _ j h.st fun i hi => way_col g t h0 i hi
def endW (h : HM) (v : Nat → Rat × List Int) : Nat → Rat × List Int
  | 0 => (0, [])
  | i + 1 => putW ((v i).1 * h.stop.getD i 0) (v i).2 (endW h v i)
def endC (h : HM) (c : List Rat) : Nat → Rat
  | 0 => 0
  | i + 1 => if endC h c i < c.getD i 0 * h.stop.getD i 0 then c.getD i 0 * h.stop.getD i 0 else endC h c i
theorem end_col {v : Nat → Rat × List Int} {c : List Rat} : ∀ n, (∀ i, i < n → (v i).1 = c.getD i 0) → (endW h v n).1 = endC h c n
  | 0, _ => rfl
  | n + 1, hv => by rw [endW, putW_fst, end_col n (fun i hi => hv i (by omega)), endC, hv n (Nat.lt_succ_self n)]
theorem endC_nonneg (c : List Rat) : ∀ n, 0 ≤ endC h c n
  | 0 => Rat.le_refl
  | n + 1 => by
    rw [endC]
    split
    · rename_i e; exact Rat.le_of_lt (Std.lt_of_le_of_lt (endC_nonneg c n) e)
    · exact endC_nonneg c n
end
end Go.AL

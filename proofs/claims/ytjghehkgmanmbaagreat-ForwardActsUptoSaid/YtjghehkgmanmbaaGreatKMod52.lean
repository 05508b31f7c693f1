/-
  M, part 52: the first and the last row of expected numbers, as the specification fills them.
-/
import Derived.Test.YtjghehkgmanmbaaGreatKMod51
set_option linter.unusedVariables false
set_option linter.unusedSimpArgs false
namespace Go.AL
open Go Go.BigFrame
def stR (h : HM) (w : List Int) (t i : Nat) : List Rat := (List.range h.st).map fun k => if 0 < t ∨ k < i then postQ h w 0 k else 0
def enR (h : HM) (w : List Int) (t i : Nat) : List Rat := (List.range h.st).map fun k => if w.length ≠ 0 ∧ (w.length ≤ t ∨ (t + 1 = w.length ∧ k < i)) then postQ h w (w.length - 1) k else 0
section
variable {h : HM} {w : List Int} {t i : Nat}
theorem stR_len : (stR h w t i).length = h.st := by simp [stR]
theorem enR_len : (enR h w t i).length = h.st := by simp [enR]
theorem stR_zero : stR h w 0 0 = List.replicate h.st 0 := by
 refine List.ext_getElem (by simp [stR]) fun k h1 h2 => ?_
 simp only [stR, List.getElem_map, List.getElem_range, List.getElem_replicate]
 rw [if_neg (by omega)]
theorem enR_zero : enR h w 0 0 = List.replicate h.st 0 := by
 refine List.ext_getElem (by simp [enR]) fun k h1 h2 => ?_
 simp only [enR, List.getElem_map, List.getElem_range, List.getElem_replicate]
 rw [if_neg (by omega)]
theorem stR_set (hi : i < h.st) : (stR h w 0 i).set i (postQ h w 0 i) = stR h w 0 (i + 1) := by
 refine List.ext_getElem (by simp [stR]) fun k h1 h2 => ?_
 rw [List.getElem_set]
 simp only [stR, List.getElem_map, List.getElem_range]
 by_cases e : i = k
 ·subst e; rw [if_pos rfl, if_pos (by omega)]
 ·rw [if_neg e]
  by_cases h3 : k < i
  ·rw [if_pos (by omega), if_pos (by omega)]
  ·rw [if_neg (by omega), if_neg (by omega)]
theorem stR_keep (ht : 0 < t) : stR h w t i = stR h w t (i + 1) := List.map_congr_left fun k _ => by rw [if_pos (.inl ht), if_pos (.inl ht)]
theorem stR_next : stR h w t h.st = stR h w (t + 1) 0 := List.map_congr_left fun k hk => by
 rw [if_pos (.inr (List.mem_range.1 hk)), if_pos (.inl (Nat.succ_pos t))]
theorem enR_set (hi : i < h.st) (ht : t + 1 = w.length) : (enR h w t i).set i (postQ h w t i) = enR h w t (i + 1) := by
 refine List.ext_getElem (by simp [enR]) fun k h1 h2 => ?_
 rw [List.getElem_set]
 simp only [enR, List.getElem_map, List.getElem_range]
 by_cases e : i = k
 ·subst e; rw [if_pos rfl, if_pos (by omega), show w.length - 1 = t by omega]
 ·rw [if_neg e]
  by_cases h3 : k < i
  ·rw [if_pos (by omega), if_pos (by omega)]
  ·rw [if_neg (by omega), if_neg (by omega)]
theorem enR_keep (ht : t + 1 < w.length) : enR h w t i = enR h w t (i + 1) := List.map_congr_left fun k _ => by rw [if_neg (by omega), if_neg (by omega)]
theorem enR_next (ht : t < w.length) : enR h w t h.st = enR h w (t + 1) 0 := List.map_congr_left fun k hk => by
 have := List.mem_range.1 hk
 by_cases e : t + 1 = w.length
 ·rw [if_pos (by omega), if_pos (by omega)]
 ·rw [if_neg (by omega), if_neg (by omega)]
theorem stR_end : stR h w w.length 0 = if w.length = 0 then List.replicate h.st 0 else postF h w 0 := by
 split
 ·rename_i e; rw [e]; exact stR_zero
 ·exact List.map_congr_left fun k _ => by rw [if_pos (by omega)]
theorem enR_end : enR h w w.length 0 = if w.length = 0 then List.replicate h.st 0 else postF h w (w.length - 1) := by
 split
 ·rename_i e; rw [e]; exact enR_zero
 ·exact List.map_congr_left fun k _ => by rw [if_pos (by omega)]
end
end Go.AL

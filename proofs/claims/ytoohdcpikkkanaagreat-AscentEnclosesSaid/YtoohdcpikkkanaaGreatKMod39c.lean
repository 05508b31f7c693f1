/-
  M, chapter 39: expected numbers of all words together.
-/
import Derived.Test.YtoohdcpikkkanaaGreatKMod34d
import Derived.Test.YtoohdcpikkkanaaGreatKMod39b
set_option linter.unusedVariables false
set_option linter.unusedSimpArgs false
namespace Go.AL
open Go Go.BigFrame
structure DataOK (h : HM) (D : List (List Int)) : Prop where
  len : 1 ≤ D.length ∧ D.length ≤ 5
  word : ∀ w, w ∈ D → WordOK h w ∧ Few h w
theorem DataOK.get {h : HM} {D : List (List Int)} (k : DataOK h D) {i : Nat} (hi : i < D.length) : WordOK h (D.getD i []) ∧ Few h (D.getD i []) := k.word _ (getD_mem hi [])
section
variable {h : HM} {w : List Int} {B : Nat}
theorem exS_len (hz : likF h w ≠ 0) : (exS h w).length = h.st := by
  unfold exS; rw [if_neg hz]; split
  · simp
  · exact postF_len ..
theorem exE_len (hz : likF h w ≠ 0) : (exE h w).length = h.st := by
  unfold exE; rw [if_neg hz]; split
  · simp
  · exact postF_len ..
theorem exM_len (hz : likF h w ≠ 0) : (exM h w).length = h.st := by unfold exM; rw [if_neg hz]; simp
theorem exO_len (hz : likF h w ≠ 0) : (exO h w).length = h.st := by unfold exO; rw [if_neg hz]; simp
theorem exM_row (hz : likF h w ≠ 0) {i : Nat} (hi : i < h.st) : (exM h w).getD i [] = moveRow h w (w.length - 1) i := by
  unfold exM; rw [if_neg hz]; exact map_get9 _ _ hi
theorem exO_row (hz : likF h w ≠ 0) {i : Nat} (hi : i < h.st) : (exO h w).getD i [] = showRow h w w.length i := by
  unfold exO; rw [if_neg hz]; exact map_get9 _ _ hi
theorem post_small9 (f : h.Form B) (k : Few h w) {t : Nat} (ht : t < w.length) : Small 160000000 (postF h w t) := small_map fun i _ => Nat.le_trans (post_sz f k ht i) (by decide)
theorem small_rep (n C : Nat) (hC : 1 ≤ C) : Small C (List.replicate n 0) := fun q hq => by rw [(List.mem_replicate.1 hq).2, sz_zero]; exact hC
theorem exS_small (f : h.Form B) (k : Few h w) (hz : likF h w ≠ 0) : Small 160000000 (exS h w) := by
  unfold exS; rw [if_neg hz]; split
  · exact small_rep _ _ (by decide)
  · exact post_small9 f k (t := 0) (by omega)
theorem exE_small (f : h.Form B) (k : Few h w) (hz : likF h w ≠ 0) : Small 160000000 (exE h w) := by
  unfold exE; rw [if_neg hz]; split
  · exact small_rep _ _ (by decide)
  · exact post_small9 f k (t := w.length - 1) (by omega)
theorem exM_small (f : h.Form B) (k : Few h w) (hz : likF h w ≠ 0) (i : Nat) : Small 160000000 ((exM h w).getD i []) := by
  rcases Nat.lt_or_ge i h.st with hi | hi
  · rw [exM_row hz hi]
    by_cases h0 : w.length = 0
    · rw [h0, moveRow_zero]; exact small_rep _ _ (by decide)
    · exact move_small f k h0 i
  · rw [getD_ge (by rw [exM_len hz]; exact hi)]; exact Small.nil
theorem exO_small (f : h.Form B) (k : Few h w) (hz : likF h w ≠ 0) (i : Nat) : Small 160000000 ((exO h w).getD i []) := by
  rcases Nat.lt_or_ge i h.st with hi | hi
  · rw [exO_row hz hi]; exact show_small f k i
  · rw [getD_ge (by rw [exO_len hz]; exact hi)]; exact Small.nil
end
def addL (a l : List Rat) : List Rat := (List.range a.length).map fun i => a.getD i 0 + l.getD i 0
theorem addL_len (a l : List Rat) : (addL a l).length = a.length := by simp [addL]
theorem addL_get {a l : List Rat} {i : Nat} (hi : i < a.length) : (addL a l).getD i 0 = a.getD i 0 + l.getD i 0 := map_get9 _ _ hi
def mixB (a b : List Rat) (n i : Nat) : List Rat := (List.range n).map fun k => if k < i then a.getD k 0 else b.getD k 0
theorem mixB_len (a b : List Rat) (n i : Nat) : (mixB a b n i).length = n := by simp [mixB]
theorem mixB_zero {a b : List Rat} {n : Nat} (h : b.length = n) : mixB a b n 0 = b := by
  refine List.ext_getElem (by simp [mixB, h]) fun k h1 h2 => ?_
  simp only [mixB, List.getElem_map, List.getElem_range]
  rw [if_neg (by omega), getD_lt h2]
theorem mixB_get {a b : List Rat} {n i : Nat} (hi : i < n) : (mixB a b n i).getD i 0 = b.getD i 0 := by
  unfold mixB
  rw [map_get9 _ _ hi, if_neg (by omega)]
theorem mixB_set {a b : List Rat} {n i : Nat} {x : Rat} (hi : i < n) (hx : a.getD i 0 = x) : (mixB a b n i).set i x = mixB a b n (i + 1) := by
  refine List.ext_getElem (by simp [mixB]) fun k h1 h2 => ?_
  rw [List.getElem_set]
  simp only [mixB, List.getElem_map, List.getElem_range]
  by_cases e : i = k
  · subst e; rw [if_pos rfl, if_pos (by omega), hx]
  · rw [if_neg e]
    by_cases h3 : k < i
    · rw [if_pos h3, if_pos (by omega)]
    · rw [if_neg h3, if_neg (by omega)]
def accL (n : Nat) (f : List Int → List Rat) (D : List (List Int)) : List Rat := (List.range n).map fun i => lsum (fun w => (f w).getD i 0) D
theorem accL_len (n : Nat) (f : List Int → List Rat) (D : List (List Int)) : (accL n f D).length = n := by simp [accL]
theorem accL_get {n : Nat} {f : List Int → List Rat} {D : List (List Int)} {i : Nat} (hi : i < n) : (accL n f D).getD i 0 = lsum (fun w => (f w).getD i 0) D := map_get9 _ _ hi
theorem accL_nil (n : Nat) (f : List Int → List Rat) : accL n f [] = List.replicate n 0 := by
  refine List.ext_getElem (by simp [accL]) fun k h1 h2 => ?_
  simp [accL, lsum]
theorem accL_step {n : Nat} {f : List Int → List Rat} {D : List (List Int)} {k : Nat} (hk : k < D.length) : accL n f (D.take (k + 1)) = addL (accL n f (D.take k)) (f (D.getD k [])) := by
  refine List.ext_getElem (by simp [accL, addL]) fun j h1 h2 => ?_
  have hj : j < n := by simpa [accL] using h1
  rw [← getD_lt h1 0, ← getD_lt h2 0, accL_get hj, addL_get (by rw [accL_len]; exact hj), accL_get hj, lsum_take_succ _ [] hk]
theorem accL_small {n C : Nat} {f : List Int → List Rat} {D : List (List Int)} (hf : ∀ w, w ∈ D → Small C (f w)) (hC : 1 ≤ C) : Small (1 + D.length * (C + 1)) (accL n f D) := small_map fun i _ => lsum_sz D fun w hw => (hf w hw).get hC i
def stL (h : HM) (D : List (List Int)) : List Rat := accL h.st (exS h) D
def enL (h : HM) (D : List (List Int)) : List Rat := accL h.st (exE h) D
def mvL (h : HM) (D : List (List Int)) (i : Nat) : List Rat := accL h.st (fun w => (exM h w).getD i []) D
def shL (h : HM) (D : List (List Int)) (i : Nat) : List Rat := accL h.sym (fun w => (exO h w).getD i []) D
def emN (D : List (List Int)) : Nat := (D.filter fun w => decide (w.length = 0)).length
theorem emN_le (D : List (List Int)) : emN D ≤ D.length := List.length_filter_le ..
theorem emN_step {D : List (List Int)} {k : Nat} (hk : k < D.length) : emN (D.take (k + 1)) = emN (D.take k) + if (D.getD k []).length = 0 then 1 else 0 := by
  unfold emN
  rw [take_succ_getD hk [], List.filter_append, List.length_append]
  by_cases e : (D.getD k []).length = 0
  · rw [if_pos e, List.filter_cons, if_pos (decide_eq_true e)]; rfl
  · rw [if_neg e, List.filter_cons, if_neg (fun k => e (of_decide_eq_true k))]; rfl
def AllL (h : HM) (D : List (List Int)) : Prop := ∀ w, w ∈ D → likF h w ≠ 0
end Go.AL

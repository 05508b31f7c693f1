/-
  M, chapter 34, part 2: expected numbers.
-/
import Derived.Test.YtjghehkgmanmbaaGreatKMod34
set_option linter.unusedVariables false
set_option linter.unusedSimpArgs false
namespace Go.AL
open Go Go.BigFrame
def xiQ (h : HM) (w : List Int) (t i j : Nat) : Rat := (fwdF h w t).getD i 0 * trQ h i j * (emQ h j (symX w (t + 1)) * (bwdF h w (w.length - 1 - (t + 1))).getD j 0) / likF h w
def showQ (h : HM) (w : List Int) (n i x : Nat) : Rat := sumN (fun t => if symX w t = x then postQ h w t i else 0) n
def moveQ (h : HM) (w : List Int) (n i j : Nat) : Rat := sumN (fun t => xiQ h w t i j) n
def showRow (h : HM) (w : List Int) (n i : Nat) : List Rat := (List.range h.sym).map fun x => showQ h w n i x
def moveRow (h : HM) (w : List Int) (n i : Nat) : List Rat := (List.range h.st).map fun j => moveQ h w n i j
theorem showRow_len (h : HM) (w : List Int) (n i : Nat) : (showRow h w n i).length = h.sym := by simp [showRow]
theorem moveRow_len (h : HM) (w : List Int) (n i : Nat) : (moveRow h w n i).length = h.st := by simp [moveRow]
theorem showRow_get {h : HM} {w : List Int} {n i x : Nat} (hx : x < h.sym) : (showRow h w n i).getD x 0 = showQ h w n i x := map_getD_range _ _ hx
theorem showQ_add {h : HM} {w : List Int} {n i x : Nat} (e : symX w n = x) : showQ h w (n + 1) i x = showQ h w n i x + postQ h w n i := by
 unfold showQ
 rw [sumN, if_pos e]
theorem showQ_same {h : HM} {w : List Int} {n i x : Nat} (e : symX w n ≠ x) : showQ h w (n + 1) i x = showQ h w n i x := by
 unfold showQ
 rw [sumN, if_neg e, Rat.add_zero]
theorem showRow_set {h : HM} {w : List Int} {n i x : Nat} (e : symX w n = x) : (showRow h w n i).set x (showQ h w n i x + postQ h w n i) = showRow h w (n + 1) i := by
 refine List.ext_getElem (by simp [showRow]) fun k h1 h2 => ?_
 rw [List.getElem_set]
 simp only [showRow, List.getElem_map, List.getElem_range]
 by_cases hq : x = k
 ·subst hq; rw [if_pos rfl, showQ_add e]
 ·rw [if_neg hq, showQ_same (by omega)]
def mixM (h : HM) (w : List Int) (T i j : Nat) : List Rat := (List.range h.st).map fun j' => if j' < j then moveQ h w (T + 1) i j' else moveQ h w T i j'
theorem mixM_len (h : HM) (w : List Int) (T i j : Nat) : (mixM h w T i j).length = h.st := by simp [mixM]
theorem mixM_zero (h : HM) (w : List Int) (T i : Nat) : mixM h w T i 0 = moveRow h w T i := List.map_congr_left fun j _ => if_neg (by omega)
theorem mixM_all (h : HM) (w : List Int) (T i : Nat) : mixM h w T i h.st = moveRow h w (T + 1) i := List.map_congr_left fun j hj => if_pos (List.mem_range.1 hj)
theorem mixM_get {h : HM} {w : List Int} {T i j : Nat} (hj : j < h.st) : (mixM h w T i j).getD j 0 = moveQ h w T i j := by
 unfold mixM
 rw [map_getD_range _ _ hj, if_neg (by omega)]
theorem mixM_set {h : HM} {w : List Int} {T i j : Nat} (hj : j < h.st) : (mixM h w T i j).set j (moveQ h w T i j + xiQ h w T i j) = mixM h w T i (j + 1) := by
 refine List.ext_getElem (by simp [mixM]) fun k h1 h2 => ?_
 rw [List.getElem_set]
 simp only [mixM, List.getElem_map, List.getElem_range]
 by_cases e : j = k
 ·subst e; rw [if_pos rfl, if_pos (by omega)]; rfl
 ·rw [if_neg e]
  by_cases h3 : k < j
  ·rw [if_pos h3, if_pos (by omega)]
  ·rw [if_neg h3, if_neg (by omega)]
def rowsT (h : HM) (f : Nat → Nat → List Rat) (a b i : Nat) : List (List D) := (List.range h.st).map fun i' => (f (if i' < i then b else a) i').map dQ
theorem rowsT_len (h : HM) (f : Nat → Nat → List Rat) (a b i : Nat) : (rowsT h f a b i).length = h.st := by simp [rowsT]
theorem rowsT_get {h : HM} {f : Nat → Nat → List Rat} {a b i : Nat} (hi : i < h.st) : (rowsT h f a b i)[i]? = some ((f a i).map dQ) := by
 unfold rowsT
 rw [List.getElem?_map, List.getElem?_range hi, Option.map_some, if_neg (by omega)]
theorem rowsT_set {h : HM} {f : Nat → Nat → List Rat} {a b i : Nat} (hi : i < h.st) : (rowsT h f a b i).set i ((f b i).map dQ) = rowsT h f a b (i + 1) := by
 refine List.ext_getElem (by simp [rowsT]) fun k h1 h2 => ?_
 rw [List.getElem_set]
 simp only [rowsT, List.getElem_map, List.getElem_range]
 by_cases e : i = k
 ·subst e; rw [if_pos rfl, if_pos (by omega)]
 ·rw [if_neg e]
  by_cases h3 : k < i
  ·rw [if_pos h3, if_pos (by omega)]
  ·rw [if_neg h3, if_neg (by omega)]
theorem rowsT_same {h : HM} {f : Nat → Nat → List Rat} {a i i2 : Nat} : rowsT h f a a i = rowsT h f a a i2 := List.map_congr_left fun j _ => by split <;> split <;> rfl
theorem rowsT_all {h : HM} {f : Nat → Nat → List Rat} {a b c : Nat} : rowsT h f a b h.st = rowsT h f b c 0 := List.map_congr_left fun j hj => by
 rw [if_pos (List.mem_range.1 hj), if_neg (by omega)]
theorem rowsT_sl {h : HM} {f : Nat → Nat → List Rat} {a c : Nat} : (rowsT h f a c 0).map D.sl = ((List.range h.st).map (f a)).map dQs := by
 unfold rowsT
 rw [List.map_map, List.map_map]
 refine List.map_congr_left fun i _ => ?_
 show D.sl ((f (if i < 0 then c else a) i).map dQ) = dQs (f a i)
 rw [if_neg (by omega)]
theorem sumN_szL {C : Nat} {f : Nat → Rat} : ∀ n, (∀ i, i < n → sz (f i) ≤ C) → sz (sumN f n) ≤ 1 + n * (C + 1)
 | 0, _ => by show sz 0 ≤ _; rw [sz_zero]; omega
 | n + 1, hf => by
  rw [sumN, Nat.add_mul]
  have h1 := sumN_szL n fun i hi => hf i (by omega)
  have h2 := sz_add (sumN f n) (f n)
  have h3 := hf n (by omega)
  omega
def exS (h : HM) (w : List Int) : List Rat := if likF h w = 0 then [] else if w.length = 0 then List.replicate h.st 0 else postF h w 0
def exE (h : HM) (w : List Int) : List Rat := if likF h w = 0 then [] else if w.length = 0 then List.replicate h.st 0 else postF h w (w.length - 1)
def exM (h : HM) (w : List Int) : List (List Rat) := if likF h w = 0 then [] else (List.range h.st).map fun i => moveRow h w (w.length - 1) i
def exO (h : HM) (w : List Int) : List (List Rat) := if likF h w = 0 then [] else (List.range h.st).map fun i => showRow h w w.length i
theorem rows_zero {h : HM} {f : Nat → Nat → List Rat} {n b : Nat} (hf : ∀ i, i < h.st → f 0 i = List.replicate n 0) : rowsT h f 0 b 0 = List.replicate h.st ((List.replicate n 0).map dQ) := by
 refine List.ext_getElem (by simp [rowsT]) fun k h1 h2 => ?_
 have hk : k < h.st := by simpa [rowsT] using h1
 simp only [rowsT, List.getElem_map, List.getElem_range, List.getElem_replicate]
 rw [if_neg (by omega), hf k hk]
theorem showRow_zero (h : HM) (w : List Int) (i : Nat) : showRow h w 0 i = List.replicate h.sym 0 := by
 refine List.ext_getElem (by simp [showRow]) fun k h1 h2 => ?_
 simp only [showRow, List.getElem_map, List.getElem_range, List.getElem_replicate]
 rfl
theorem moveRow_zero (h : HM) (w : List Int) (i : Nat) : moveRow h w 0 i = List.replicate h.st 0 := by
 refine List.ext_getElem (by simp [moveRow]) fun k h1 h2 => ?_
 simp only [moveRow, List.getElem_map, List.getElem_range, List.getElem_replicate]
 rfl
end Go.AL

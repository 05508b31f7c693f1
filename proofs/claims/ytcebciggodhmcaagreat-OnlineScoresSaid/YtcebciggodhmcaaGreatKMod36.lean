/-
  M, chapter 36: best paths by columns of what follows: plain functions, sizes.
-/
import Derived.Test.YtcebciggodhmcaaGreatKNumb
set_option linter.unusedVariables false
set_option linter.unusedSimpArgs false
namespace Go.AL
open Go Go.BigFrame
theorem rat_pos {a : Rat} (h : 0 ≤ a) : 0 < a ∨ 0 = a := by
  by_cases e : a ≤ 0
  · exact .inr (Rat.le_antisymm h e)
  · exact .inl (Rat.not_le.1 e)
def stepQ (h : HM) (fr : Int) (i : Nat) : Rat := if 0 ≤ fr then (h.trans.getD fr.toNat []).getD i 0 else h.ini.getD i 0
def viaQ (h : HM) (fr : Int) (x : Nat) (rest : List Rat) (i : Nat) : Rat := stepQ h fr i * (h.emit.getD i []).getD x 0 * rest.getD i 0
def aheadF (h : HM) (fr : Int) (x : Nat) (rest : List Rat) : Nat → Rat × Nat
  | 0 => (0, 0)
  | i + 1 => if (aheadF h fr x rest i).1 < viaQ h fr x rest i then (viaQ h fr x rest i, i) else aheadF h fr x rest i
def symX (w : List Int) (t : Nat) : Nat := (w.getD t 0).toNat - 1
def WordOK (h : HM) (w : List Int) : Prop := w.length ≤ 256 ∧ ∀ x, x ∈ w → 1 ≤ x ∧ x ≤ h.sym
theorem WordOK.get {h : HM} {w : List Int} (k : WordOK h w) {t : Nat} (ht : t < w.length) : 1 ≤ w.getD t 0 ∧ w.getD t 0 ≤ h.sym := k.2 _ (getD_mem ht 0)
theorem WordOK.symX {h : HM} {w : List Int} (k : WordOK h w) {t : Nat} (ht : t < w.length) : Go.AL.symX w t < h.sym ∧ w.getD t 0 = ((Go.AL.symX w t + 1 : Nat) : Int) := by
  have := k.get ht
  unfold Go.AL.symX
  omega
theorem cmpQ_gt {x y : Rat} : 0 < cmpQ x y ↔ y < x := by
  rw [← Rat.not_le, ← cmpQ_le]; omega
theorem map_getD_range {α : Type} {n k : Nat} (f : Nat → α) (d : α) (hk : k < n) : ((List.range n).map f).getD k d = f k := by
  rw [List.getD_eq_getElem?_getD, List.getElem?_map, List.getElem?_range hk]; rfl
def fillF {α : Type} (d : α) (g : Nat → α) (n i : Nat) : List α := (List.range n).map fun j => if j < i then g j else d
theorem fillF_len {α : Type} (d : α) (g : Nat → α) (n i : Nat) : (fillF d g n i).length = n := by simp [fillF]
theorem fillF_zero {α : Type} (d : α) (g : Nat → α) (n : Nat) : fillF d g n 0 = List.replicate n d := by
  refine List.ext_getElem (by simp [fillF]) fun k h1 h2 => ?_
  simp [fillF]
theorem fillF_set {α : Type} {d : α} {g : Nat → α} {n i : Nat} (hi : i < n) : (fillF d g n i).set i (g i) = fillF d g n (i + 1) := by
  refine List.ext_getElem (by simp [fillF]) fun k h1 h2 => ?_
  rw [List.getElem_set]
  simp only [fillF, List.getElem_map, List.getElem_range]
  by_cases he : i = k
  · subst he; rw [if_pos rfl, if_pos (by omega)]
  · rw [if_neg he]
    by_cases h3 : k < i
    · rw [if_pos h3, if_pos (by omega)]
    · rw [if_neg h3, if_neg (by omega)]
theorem fillF_all {α : Type} (d : α) (g : Nat → α) (n : Nat) : fillF d g n n = (List.range n).map g := by
  refine List.map_congr_left fun j hj => ?_
  rw [if_pos (List.mem_range.1 hj)]
end Go.AL

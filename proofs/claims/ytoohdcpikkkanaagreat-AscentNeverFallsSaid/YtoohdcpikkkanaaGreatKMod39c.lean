/-
  M, chapter 39: expected numbers of all words together.
-/
import Derived.Test.YtoohdcpikkkanaaGreatKMod34c
import Derived.Test.YtoohdcpikkkanaaGreatKMod39b
set_option linter.unusedVariables false
set_option linter.unusedSimpArgs false
namespace Go.AL
open Go Go.BigFrame
def lsum {α : Type} (f : α → Rat) : List α → Rat
 | [] => 0
 | x :: r => f x + lsum f r
theorem lsum_append {α : Type} (f : α → Rat) : ∀ a b : List α, lsum f (a ++ b) = lsum f a + lsum f b
 | [], b => by rw [List.nil_append, lsum, Rat.zero_add]
 | x :: a, b => by rw [List.cons_append, lsum, lsum, lsum_append f a b, Rat.add_assoc]
theorem lsum_flatMap {α β : Type} (f : β → Rat) (g : α → List β) : ∀ l : List α, lsum f (l.flatMap g) = lsum (fun x => lsum f (g x)) l
 | [] => rfl
 | x :: l => by rw [List.flatMap_cons, lsum_append, lsum_flatMap f g l]; rfl
theorem lsum_map {α β : Type} (f : β → Rat) (g : α → β) : ∀ l : List α, lsum f (l.map g) = lsum (fun x => f (g x)) l
 | [] => rfl
 | x :: l => by rw [List.map_cons, lsum, lsum_map f g l]; rfl
theorem lsum_congr {α : Type} {f g : α → Rat} : ∀ {l : List α}, (∀ x, x ∈ l → f x = g x) → lsum f l = lsum g l
 | [], _ => rfl
 | x :: l, h => by rw [lsum, lsum, h x (List.mem_cons_self ..), lsum_congr fun y hy => h y (List.mem_cons_of_mem _ hy)]
theorem lsum_range (f : Nat → Rat) : ∀ n, lsum f (List.range n) = sumN f n
 | 0 => rfl
 | n + 1 => by rw [List.range_succ, lsum_append, lsum_range f n, sumN, lsum, lsum, Rat.add_zero]
theorem lsum_take_succ {α : Type} (f : α → Rat) (d : α) {l : List α} {i : Nat} (h : i < l.length) : lsum f (l.take (i + 1)) = lsum f (l.take i) + f (l.getD i d) := by
 rw [List.take_succ_eq_append_getElem h, lsum_append, lsum, lsum, Rat.add_zero, List.getD_eq_getElem?_getD, List.getElem?_eq_getElem h]; rfl
theorem lsum_sz {α : Type} {f : α → Rat} {C : Nat} : ∀ l : List α, (∀ x, x ∈ l → sz (f x) ≤ C) → sz (lsum f l) ≤ 1 + l.length * (C + 1)
 | [], _ => by rw [lsum, sz_zero]; exact Nat.le_add_right ..
 | x :: l, h => by
  have h1 := lsum_sz l fun y hy => h y (List.mem_cons_of_mem _ hy)
  have h2 := h x (List.mem_cons_self ..)
  have h3 := sz_add (f x) (lsum f l)
  rw [lsum, List.length_cons, Nat.succ_mul]
  omega
def pathsF (n : Nat) : Nat → List (List Int)
 | 0 => [[]]
 | k + 1 => (pathsF n k).flatMap fun p => (List.range n).map fun (s : Nat) => p ++ [(s : Int)]
theorem pathsF_mem {n : Nat} : ∀ {k : Nat} {p : List Int}, p ∈ pathsF n k → p.length = k ∧ ∀ x, x ∈ p → 0 ≤ x ∧ x < (n : Int)
 | 0, p, h => by
  rw [pathsF, List.mem_singleton] at h
  subst h
  exact ⟨rfl, fun x hx => by simp at hx⟩
 | k + 1, p, h => by
  rw [pathsF, List.mem_flatMap] at h
  obtain ⟨q, hq, hp⟩ := h
  obtain ⟨s, hs, rfl⟩ := List.mem_map.1 hp
  have h1 := pathsF_mem hq
  have hs := List.mem_range.1 hs
  refine ⟨by rw [List.length_append, h1.1]; rfl, fun x hx => ?_⟩
  rcases List.mem_append.1 hx with hx | hx
  ·exact h1.2 x hx
  ·rw [List.mem_singleton.1 hx]; omega
def atP (p : List Int) (t : Nat) : Nat := (p.getD t 0).toNat
theorem atP_lt {n k t : Nat} {p : List Int} (h : p ∈ pathsF n k) (ht : t < k) : atP p t < n ∧ p.getD t 0 = (atP p t : Int) := by
 obtain ⟨h1, h2⟩ := pathsF_mem h
 have := h2 (p.getD t 0) (getD_mem (by omega) 0)
 unfold atP
 omega
theorem atP_snoc {p : List Int} {s t : Nat} (ht : t < p.length) : atP (p ++ [(s : Int)]) t = atP p t := by unfold atP; rw [getD_snoc_lt ht]
theorem atP_last {p : List Int} {s t : Nat} (ht : t = p.length) : atP (p ++ [(s : Int)]) t = s := by unfold atP; rw [getD_snoc_eq ht]; exact Int.toNat_natCast s
def wgt (h : HM) (w : List Int) (p : List Int) : Nat → Rat
 | 0 => h.ini.getD (atP p 0) 0
 | t + 1 => (if t = 0 then wgt h w p t else wgt h w p t * trQ h (atP p (t - 1)) (atP p t)) * emQ h (atP p t) (symX w t)
def jointE (h : HM) (w p : List Int) : Rat := if w.length = 0 then h.empty else wgt h w p w.length * h.stop.getD (atP p (w.length - 1)) 0
theorem wgt_snoc {h : HM} {w p : List Int} {s : Nat} : ∀ {t : Nat}, t + 1 ≤ p.length → wgt h w (p ++ [(s : Int)]) (t + 1) = wgt h w p (t + 1)
 | 0, ht => by
  rw [wgt, wgt, if_pos rfl, wgt, if_pos rfl, wgt, atP_snoc (show 0 < p.length by omega)]
 | t + 1, ht => by
  rw [wgt, if_neg (by omega), wgt_snoc (by omega), atP_snoc (show t + 1 < p.length by omega), show t + 1 - 1 = t from rfl, atP_snoc (show t < p.length by omega)]
  conv => rhs; rw [wgt, if_neg (by omega)]
  rfl
theorem paths_end {h : HM} {w : List Int} : ∀ (t : Nat) (g : Nat → Rat), lsum (fun p => wgt h w p (t + 1) * g (atP p t)) (pathsF h.st (t + 1)) = sumN (fun j => (fwdF h w t).getD j 0 * g j) h.st
 | 0, g => by
  rw [pathsF, pathsF, List.flatMap_cons, List.flatMap_nil, List.append_nil, lsum_map, lsum_range]
  refine sumN_congr fun j hj => ?_
  have ea : atP [(j : Int)] 0 = j := Int.toNat_natCast j
  rw [List.nil_append, wgt, if_pos rfl, wgt, ea, fwd_zero hj]
 | t + 1, g => by
  rw [pathsF, lsum_flatMap]
  have e1 : ∀ p, p ∈ pathsF h.st (t + 1) → lsum (fun p => wgt h w p (t + 1 + 1) * g (atP p (t + 1))) ((List.range h.st).map fun (s : Nat) => p ++ [(s : Int)]) = wgt h w p (t + 1) * sumN (fun s => trQ h (atP p t) s * (emQ h s (symX w (t + 1)) * g s)) h.st := fun p hp => by
   have hl := (pathsF_mem hp).1
   rw [lsum_map, lsum_range, ← sumN_mulL]
   refine sumN_congr fun s _ => ?_
   rw [wgt, if_neg (by omega), wgt_snoc (by omega), atP_last (show t + 1 = p.length by omega), show t + 1 - 1 = t from rfl, atP_snoc (show t < p.length by omega)]
   grind
  rw [lsum_congr e1, paths_end t fun i => sumN (fun s => trQ h i s * (emQ h s (symX w (t + 1)) * g s)) h.st]
  have e2 : ∀ i, i < h.st → (fwdF h w t).getD i 0 * sumN (fun s => trQ h i s * (emQ h s (symX w (t + 1)) * g s)) h.st = sumN (fun s => (fwdF h w t).getD i 0 * trQ h i s * (emQ h s (symX w (t + 1)) * g s)) h.st := fun i _ => by
   rw [← sumN_mulL]
   exact sumN_congr fun s _ => by rw [Rat.mul_assoc]
  rw [sumN_congr e2, sumN_swap]
  refine sumN_congr fun j hj => ?_
  rw [sumN_mulR, fwd_pos (t := t + 1) (by omega) hj, show t + 1 - 1 = t from rfl, preF, Rat.mul_assoc]
theorem paths_step {h : HM} {w : List Int} {a j t : Nat} (ha : a ≤ t) (g : Nat → Rat) :
  lsum (fun p => if atP p a = j then wgt h w p (t + 1 + 1) * g (atP p (t + 1)) else 0) (pathsF h.st (t + 1 + 1)) =
  lsum (fun p => if atP p a = j then wgt h w p (t + 1) * sumN (fun s => trQ h (atP p t) s * (emQ h s (symX w (t + 1)) * g s)) h.st else 0) (pathsF h.st (t + 1)) := by
 rw [pathsF, lsum_flatMap]
 refine lsum_congr fun p hp => ?_
 have hl := (pathsF_mem hp).1
 rw [lsum_map, lsum_range]
 by_cases he : atP p a = j
 ·rw [if_pos he, ← sumN_mulL]
  refine sumN_congr fun s _ => ?_
  rw [atP_snoc (show a < p.length by omega), if_pos he, wgt, if_neg (by omega), wgt_snoc (by omega), atP_last (show t + 1 = p.length by omega), show t + 1 - 1 = t from rfl, atP_snoc (show t < p.length by omega)]
  grind
 ·rw [if_neg he]
  exact sumN_zero fun s _ => by rw [atP_snoc (show a < p.length by omega), if_neg he]
theorem paths_thru {h : HM} {w : List Int} {a j : Nat} (hj : j < h.st) : ∀ {d : Nat}, a + d < w.length →
  lsum (fun p => if atP p a = j then wgt h w p (a + d + 1) * (bwdF h w (w.length - 1 - (a + d))).getD (atP p (a + d)) 0 else 0) (pathsF h.st (a + d + 1)) = (fwdF h w a).getD j 0 * (bwdF h w (w.length - 1 - a)).getD j 0
 | 0, hd => by
  have e := paths_end (h := h) (w := w) a fun i => if j = i then (bwdF h w (w.length - 1 - a)).getD i 0 else 0
  have e1 : ∀ p : List Int, (if atP p a = j then wgt h w p (a + 1) * (bwdF h w (w.length - 1 - a)).getD (atP p a) 0 else 0) = wgt h w p (a + 1) * (if j = atP p a then (bwdF h w (w.length - 1 - a)).getD (atP p a) 0 else 0) := fun p => by
   by_cases he : atP p a = j
   ·rw [if_pos he, if_pos he.symm]
   ·rw [if_neg he, if_neg (fun e => he e.symm), Rat.mul_zero]
  show lsum (fun p => if atP p a = j then wgt h w p (a + 1) * (bwdF h w (w.length - 1 - a)).getD (atP p a) 0 else 0) (pathsF h.st (a + 1)) = _
  rw [lsum_congr fun p _ => e1 p, e, ← sumN_pick (v := fun i => (fwdF h w a).getD i 0 * (bwdF h w (w.length - 1 - a)).getD i 0) hj]
  refine sumN_congr fun i _ => ?_
  by_cases hi : j = i
  ·rw [if_pos hi, if_pos hi]
  ·rw [if_neg hi, if_neg hi, Rat.mul_zero]
 | d + 1, hd => by
  rw [← paths_thru hj (d := d) (by omega)]
  show lsum (fun p => if atP p a = j then wgt h w p (a + d + 1 + 1) * (bwdF h w (w.length - 1 - (a + d + 1))).getD (atP p (a + d + 1)) 0 else 0) (pathsF h.st (a + d + 1 + 1)) = _
  rw [paths_step (by omega) fun i => (bwdF h w (w.length - 1 - (a + d + 1))).getD i 0]
  refine lsum_congr fun p hp => ?_
  by_cases he : atP p a = j
  ·have hl := (atP_lt (t := a + d) hp (by omega)).1
   rw [if_pos he, if_pos he, bwd_pos (d := w.length - 1 - (a + d)) (a := a + d) (by omega) (by omega) hl, show w.length - 1 - (a + d) - 1 = w.length - 1 - (a + d + 1) by omega]
   rfl
  ·rw [if_neg he, if_neg he]
theorem joint_sum {h : HM} {w : List Int} : lsum (jointE h w) (pathsF h.st w.length) = likF h w := by
 by_cases hn : w.length = 0
 ·rw [hn, pathsF, lsum, lsum, Rat.add_zero, jointE, if_pos hn, likF, if_pos hn]
 ·obtain ⟨n, hw⟩ : ∃ n, w.length = n + 1 := ⟨w.length - 1, by omega⟩
  have e := paths_end (h := h) (w := w) n fun i => h.stop.getD i 0
  rw [show likF h w = likN h (fwdF h w (w.length - 1)) h.st from if_neg hn, likN, show w.length - 1 = n by omega, ← e, hw]
  exact lsum_congr fun p _ => by rw [jointE, if_neg hn, hw]; rfl
theorem joint_share {h : HM} {w : List Int} {a j : Nat} (ha : a < w.length) (hj : j < h.st) : lsum (fun p => if atP p a = j then jointE h w p else 0) (pathsF h.st w.length) / likF h w = postQ h w a j := by
 have e := paths_thru (h := h) (w := w) hj (a := a) (d := w.length - 1 - a) (by omega)
 rw [show a + (w.length - 1 - a) = w.length - 1 by omega, show w.length - 1 + 1 = w.length by omega, Nat.sub_self] at e
 unfold postQ
 rw [← e]
 congr 1
 refine lsum_congr fun p hp => ?_
 by_cases he : atP p a = j
 ·rw [if_pos he, if_pos he, jointE, if_neg (by omega), bwd_zero (atP_lt hp (by omega)).1]
 ·rw [if_neg he, if_neg he]
end Go.AL

set_option linter.unusedVariables false
set_option linter.unusedSimpArgs false
namespace Go.AL
open Go Go.BigFrame
structure DataOK (h : HM) (D : List (List Int)) : Prop where
 len : 1 ≤ D.length ∧ D.length ≤ 5
 word : ∀ w, w ∈ D → WordOK h w ∧ Few h w
theorem DataOK.get {h : HM} {D : List (List Int)} (k : DataOK h D) {i : Nat} (hi : i < D.length) : WordOK h (D.getD i []) ∧ Few h (D.getD i []) := k.word _ (getD_mem hi [])
section
variable {h : HM} {w : List Int} {B : Nat}
theorem exS_len (hz : likF h w ≠ 0) : (exS h w).length = h.st := by
 unfold exS; rw [if_neg hz]; split
 ·simp
 ·exact postF_len ..
theorem exE_len (hz : likF h w ≠ 0) : (exE h w).length = h.st := by
 unfold exE; rw [if_neg hz]; split
 ·simp
 ·exact postF_len ..
theorem exM_len (hz : likF h w ≠ 0) : (exM h w).length = h.st := by unfold exM; rw [if_neg hz]; simp
theorem exO_len (hz : likF h w ≠ 0) : (exO h w).length = h.st := by unfold exO; rw [if_neg hz]; simp
theorem exM_row (hz : likF h w ≠ 0) {i : Nat} (hi : i < h.st) : (exM h w).getD i [] = moveRow h w (w.length - 1) i := by
 unfold exM; rw [if_neg hz]; exact map_get9 _ _ hi
theorem exO_row (hz : likF h w ≠ 0) {i : Nat} (hi : i < h.st) : (exO h w).getD i [] = showRow h w w.length i := by
 unfold exO; rw [if_neg hz]; exact map_get9 _ _ hi
theorem post_small9 (f : h.Form B) (k : Few h w) {t : Nat} (ht : t < w.length) : Small 160000000 (postF h w t) := small_map fun i _ => Nat.le_trans (post_sz f k ht i) (by decide)
theorem small_rep (n C : Nat) (hC : 1 ≤ C) : Small C (List.replicate n 0) := fun q hq => by rw [(List.mem_replicate.1 hq).2, sz_zero]; exact hC
theorem exS_small (f : h.Form B) (k : Few h w) (hz : likF h w ≠ 0) : Small 160000000 (exS h w) := by
 unfold exS; rw [if_neg hz]; split
 ·exact small_rep _ _ (by decide)
 ·exact post_small9 f k (t := 0) (by omega)
theorem exE_small (f : h.Form B) (k : Few h w) (hz : likF h w ≠ 0) : Small 160000000 (exE h w) := by
 unfold exE; rw [if_neg hz]; split
 ·exact small_rep _ _ (by decide)
 ·exact post_small9 f k (t := w.length - 1) (by omega)
theorem exM_small (f : h.Form B) (k : Few h w) (hz : likF h w ≠ 0) (i : Nat) : Small 160000000 ((exM h w).getD i []) := by
 rcases Nat.lt_or_ge i h.st with hi | hi
 ·rw [exM_row hz hi]
  by_cases h0 : w.length = 0
  ·rw [h0, moveRow_zero]; exact small_rep _ _ (by decide)
  ·exact move_small f k h0 i
 ·rw [getD_ge (by rw [exM_len hz]; exact hi)]; exact Small.nil
theorem exO_small (f : h.Form B) (k : Few h w) (hz : likF h w ≠ 0) (i : Nat) : Small 160000000 ((exO h w).getD i []) := by
 rcases Nat.lt_or_ge i h.st with hi | hi
 ·rw [exO_row hz hi]; exact show_small f k i
 ·rw [getD_ge (by rw [exO_len hz]; exact hi)]; exact Small.nil
end
def addL (a l : List Rat) : List Rat := (List.range a.length).map fun i => a.getD i 0 + l.getD i 0
theorem addL_len (a l : List Rat) : (addL a l).length = a.length := by simp [addL]
theorem addL_get {a l : List Rat} {i : Nat} (hi : i < a.length) : (addL a l).getD i 0 = a.getD i 0 + l.getD i 0 := map_get9 _ _ hi
def mixB (a b : List Rat) (n i : Nat) : List Rat := (List.range n).map fun k => if k < i then a.getD k 0 else b.getD k 0
theorem mixB_len (a b : List Rat) (n i : Nat) : (mixB a b n i).length = n := by simp [mixB]
theorem mixB_zero {a b : List Rat} {n : Nat} (h : b.length = n) : mixB a b n 0 = b := by
 refine List.ext_getElem (by simp [mixB, h]) fun k h1 h2 => ?_
 simp only [mixB, List.getElem_map, List.getElem_range]
 rw [if_neg (by omega), getD_lt h2]
theorem mixB_get {a b : List Rat} {n i : Nat} (hi : i < n) : (mixB a b n i).getD i 0 = b.getD i 0 := by
 unfold mixB
 rw [map_get9 _ _ hi, if_neg (by omega)]
theorem mixB_set {a b : List Rat} {n i : Nat} {x : Rat} (hi : i < n) (hx : a.getD i 0 = x) : (mixB a b n i).set i x = mixB a b n (i + 1) := by
 refine List.ext_getElem (by simp [mixB]) fun k h1 h2 => ?_
 rw [List.getElem_set]
 simp only [mixB, List.getElem_map, List.getElem_range]
 by_cases e : i = k
 ·subst e; rw [if_pos rfl, if_pos (by omega), hx]
 ·rw [if_neg e]
  by_cases h3 : k < i
  ·rw [if_pos h3, if_pos (by omega)]
  ·rw [if_neg h3, if_neg (by omega)]
def accL (n : Nat) (f : List Int → List Rat) (D : List (List Int)) : List Rat := (List.range n).map fun i => lsum (fun w => (f w).getD i 0) D
theorem accL_len (n : Nat) (f : List Int → List Rat) (D : List (List Int)) : (accL n f D).length = n := by simp [accL]
theorem accL_get {n : Nat} {f : List Int → List Rat} {D : List (List Int)} {i : Nat} (hi : i < n) : (accL n f D).getD i 0 = lsum (fun w => (f w).getD i 0) D := map_get9 _ _ hi
theorem accL_nil (n : Nat) (f : List Int → List Rat) : accL n f [] = List.replicate n 0 := by
 refine List.ext_getElem (by simp [accL]) fun k h1 h2 => ?_
 simp [accL, lsum]
theorem accL_step {n : Nat} {f : List Int → List Rat} {D : List (List Int)} {k : Nat} (hk : k < D.length) : accL n f (D.take (k + 1)) = addL (accL n f (D.take k)) (f (D.getD k [])) := by
 refine List.ext_getElem (by simp [accL, addL]) fun j h1 h2 => ?_
 have hj : j < n := by simpa [accL] using h1
 rw [← getD_lt h1 0, ← getD_lt h2 0, accL_get hj, addL_get (by rw [accL_len]; exact hj), accL_get hj, lsum_take_succ _ [] hk]
theorem accL_small {n C : Nat} {f : List Int → List Rat} {D : List (List Int)} (hf : ∀ w, w ∈ D → Small C (f w)) (hC : 1 ≤ C) : Small (1 + D.length * (C + 1)) (accL n f D) := small_map fun i _ => lsum_sz D fun w hw => (hf w hw).get hC i
def stL (h : HM) (D : List (List Int)) : List Rat := accL h.st (exS h) D
def enL (h : HM) (D : List (List Int)) : List Rat := accL h.st (exE h) D
def mvL (h : HM) (D : List (List Int)) (i : Nat) : List Rat := accL h.st (fun w => (exM h w).getD i []) D
def shL (h : HM) (D : List (List Int)) (i : Nat) : List Rat := accL h.sym (fun w => (exO h w).getD i []) D
def emN (D : List (List Int)) : Nat := (D.filter fun w => decide (w.length = 0)).length
theorem emN_le (D : List (List Int)) : emN D ≤ D.length := List.length_filter_le ..
theorem emN_step {D : List (List Int)} {k : Nat} (hk : k < D.length) : emN (D.take (k + 1)) = emN (D.take k) + if (D.getD k []).length = 0 then 1 else 0 := by
 unfold emN
 rw [take_succ_getD hk [], List.filter_append, List.length_append]
 by_cases e : (D.getD k []).length = 0
 ·rw [if_pos e, List.filter_cons, if_pos (decide_eq_true e)]; rfl
 ·rw [if_neg e, List.filter_cons, if_neg (fun k => e (of_decide_eq_true k))]; rfl
def AllL (h : HM) (D : List (List Int)) : Prop := ∀ w, w ∈ D → likF h w ≠ 0
end Go.AL

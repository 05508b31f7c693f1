/-
  M, chapter 34: the sums of beginnings times ends; the expected numbers fit together.
-/
import Derived.Test.YtjghehkgmanmbaaGreatKMod34b
import Derived.Test.YtjghehkgmanmbaaGreatKMod40e
set_option linter.unusedVariables false
set_option linter.unusedSimpArgs false
namespace Go.AL
open Go Go.BigFrame
theorem sumN_congr {f g : Nat → Rat} : ∀ {n : Nat}, (∀ i, i < n → f i = g i) → sumN f n = sumN g n
 | 0, _ => rfl
 | n + 1, h => by rw [sumN, sumN, sumN_congr fun i hi => h i (by omega), h n (Nat.lt_succ_self n)]
theorem sumN_zero {f : Nat → Rat} : ∀ {n : Nat}, (∀ i, i < n → f i = 0) → sumN f n = 0
 | 0, _ => rfl
 | n + 1, h => by rw [sumN, sumN_zero fun i hi => h i (by omega), h n (Nat.lt_succ_self n)]; grind
theorem sumN_add (f g : Nat → Rat) : ∀ n, sumN (fun i => f i + g i) n = sumN f n + sumN g n
 | 0 => by rw [sumN, sumN, sumN]; grind
 | n + 1 => by rw [sumN, sumN, sumN, sumN_add f g n]; grind
theorem sumN_mulR (f : Nat → Rat) (c : Rat) : ∀ n, sumN (fun i => f i * c) n = sumN f n * c
 | 0 => by rw [sumN, sumN, Rat.zero_mul]
 | n + 1 => by rw [sumN, sumN, sumN_mulR f c n, Rat.add_mul]
theorem sumN_mulL (f : Nat → Rat) (c : Rat) (n : Nat) : sumN (fun i => c * f i) n = c * sumN f n := by
 rw [Rat.mul_comm, ← sumN_mulR]; exact sumN_congr fun i _ => Rat.mul_comm ..
theorem sumN_divR (f : Nat → Rat) (c : Rat) (n : Nat) : sumN (fun i => f i / c) n = sumN f n / c := by
 rw [Rat.div_def, ← sumN_mulR]; exact sumN_congr fun i _ => Rat.div_def ..
theorem sumN_swap (f : Nat → Nat → Rat) (m : Nat) : ∀ n, sumN (fun i => sumN (fun j => f i j) m) n = sumN (fun j => sumN (fun i => f i j) n) m
 | 0 => by rw [sumN]; exact (sumN_zero fun _ _ => rfl).symm
 | n + 1 => by
  rw [sumN, sumN_swap f m n, ← sumN_add]
  exact sumN_congr fun j _ => rfl
theorem sumN_front (f : Nat → Rat) : ∀ n, f 0 + sumN (fun t => f (t + 1)) n = sumN f (n + 1)
 | 0 => by rw [sumN, sumN, sumN]; grind
 | n + 1 => by rw [sumN, sumN, ← sumN_front f n]; grind
theorem step_sum {h : HM} {w : List Int} {t d : Nat} (ht : d + 1 + t + 1 = w.length) : sumN (fun i => (fwdF h w t).getD i 0 * (bwdF h w (d + 1)).getD i 0) h.st = sumN (fun j => (fwdF h w (t + 1)).getD j 0 * (bwdF h w d).getD j 0) h.st := by
 have e1 : ∀ i, i < h.st → (fwdF h w t).getD i 0 * (bwdF h w (d + 1)).getD i 0 = sumN (fun j => (fwdF h w t).getD i 0 * trQ h i j * (emQ h j (symX w (t + 1)) * (bwdF h w d).getD j 0)) h.st := fun i hi => by
  rw [bwd_pos (d := d + 1) (a := t) (by omega) (by omega) hi, sufF, ← sumN_mulL]
  exact sumN_congr fun j _ => by rw [show d + 1 - 1 = d from rfl, Rat.mul_assoc]
 rw [sumN_congr e1, sumN_swap]
 refine sumN_congr fun j hj => ?_
 rw [sumN_mulR, fwd_pos (t := t + 1) (by omega) hj, show t + 1 - 1 = t from rfl, preF, Rat.mul_assoc]
theorem fb_sum {h : HM} {w : List Int} : ∀ {d t : Nat}, d + t + 1 = w.length → sumN (fun i => (fwdF h w t).getD i 0 * (bwdF h w d).getD i 0) h.st = likF h w
 | 0, t, ht => by
  rw [show likF h w = likN h (fwdF h w (w.length - 1)) h.st from if_neg (by omega), likN, show w.length - 1 = t by omega]
  exact sumN_congr fun i hi => by rw [bwd_zero hi]
 | d + 1, t, ht => by
  rw [step_sum (by omega)]
  exact fb_sum (by omega)
theorem post_row {h : HM} {w : List Int} {t : Nat} (ht : t < w.length) (hz : likF h w ≠ 0) : sumN (fun i => postQ h w t i) h.st = 1 := by
 unfold postQ
 rw [sumN_divR, fb_sum (by omega), Rat.div_def, Rat.mul_inv_cancel _ hz]
theorem xi_row {h : HM} {w : List Int} {t i : Nat} (ht : t + 1 < w.length) (hi : i < h.st) : sumN (fun j => xiQ h w t i j) h.st = postQ h w t i := by
 unfold xiQ postQ
 rw [sumN_divR, bwd_pos (d := w.length - 1 - t) (a := t) (by omega) (by omega) hi, sufF, ← sumN_mulL, show w.length - 1 - (t + 1) = w.length - 1 - t - 1 by omega]
 congr 1
 exact sumN_congr fun j _ => Rat.mul_assoc ..
theorem xi_col {h : HM} {w : List Int} {t j : Nat} (hj : j < h.st) : sumN (fun i => xiQ h w t i j) h.st = postQ h w (t + 1) j := by
 unfold xiQ postQ
 rw [sumN_divR, sumN_mulR, fwd_pos (t := t + 1) (by omega) hj, show t + 1 - 1 = t from rfl, preF, Rat.mul_assoc]
theorem sumN_pick {v : Nat → Rat} {x n : Nat} (hx : x < n) : sumN (fun y => if x = y then v y else 0) n = v x := by
 induction n with
 | zero => omega
 | succ n ih =>
  rw [sumN]
  by_cases hn : x = n
  ·rw [if_pos hn, hn, sumN_zero fun i hi => if_neg (by omega)]; grind
  ·rw [if_neg hn, ih (by omega)]; grind
theorem show_sum {h : HM} {w : List Int} {i : Nat} : ∀ {n : Nat}, (∀ t, t < n → symX w t < h.sym) → sumN (fun x => showQ h w n i x) h.sym = sumN (fun t => postQ h w t i) n
 | 0, _ => sumN_zero fun _ _ => rfl
 | n + 1, hx => by
  rw [sumN, ← show_sum fun t ht => hx t (by omega)]
  rw [← sumN_pick (v := fun _ => postQ h w n i) (hx n (Nat.lt_succ_self n)), ← sumN_add]
  exact sumN_congr fun x _ => rfl
theorem move_sum {h : HM} {w : List Int} {i : Nat} (hi : i < h.st) : ∀ {n : Nat}, n < w.length → sumN (fun j => moveQ h w n i j) h.st + postQ h w n i = sumN (fun t => postQ h w t i) (n + 1) := fun {n} hn => by
 rw [sumN]
 congr 1
 unfold moveQ
 rw [sumN_swap]
 exact sumN_congr fun t ht => xi_row (by omega) hi
theorem into_sum {h : HM} {w : List Int} {i n : Nat} (hi : i < h.st) : postQ h w 0 i + sumN (fun j => moveQ h w n j i) h.st = sumN (fun t => postQ h w t i) (n + 1) := by
 rw [← sumN_front]
 congr 1
 unfold moveQ
 rw [sumN_swap]
 exact sumN_congr fun t _ => xi_col hi
def sumL (l : List Rat) : Rat := sumN (fun i => l.getD i 0) l.length
theorem sumL_map {f : Nat → Rat} (n : Nat) : sumL ((List.range n).map f) = sumN f n := by
 unfold sumL
 rw [List.length_map, List.length_range]
 exact sumN_congr fun i hi => map_getD_range _ _ hi
theorem small_map {C n : Nat} {f : Nat → Rat} (h : ∀ i, i < n → sz (f i) ≤ C) : Small C ((List.range n).map f) := fun q hq => by
 obtain ⟨i, hi, rfl⟩ := List.mem_map.1 hq
 exact h i (List.mem_range.1 hi)
structure Fit (h : HM) (w : List Int) : Prop where
 row : ∀ t, t < w.length → sumL (postF h w t) = 1
 show_ : ∀ i, sumL (showRow h w w.length i) = sumN (fun t => postQ h w t i) w.length
 out : ∀ i, i < h.st → sumL (moveRow h w (w.length - 1) i) + postQ h w (w.length - 1) i = sumN (fun t => postQ h w t i) w.length
 into : ∀ i, i < h.st → postQ h w 0 i + sumN (fun j => moveQ h w (w.length - 1) j i) h.st = sumN (fun t => postQ h w t i) w.length
theorem fit {h : HM} {w : List Int} (hx : ∀ t, t < w.length → symX w t < h.sym) (hz : likF h w ≠ 0) (hn : w.length ≠ 0) : Fit h w :=
 ⟨fun t ht => (sumL_map _).trans (post_row ht hz), fun i => (sumL_map _).trans (show_sum hx),
  fun i hi => by rw [show moveRow h w (w.length - 1) i = (List.range h.st).map fun j => moveQ h w (w.length - 1) i j from rfl, sumL_map, move_sum hi (by omega), show w.length - 1 + 1 = w.length by omega],
  fun i hi => by rw [into_sum hi, show w.length - 1 + 1 = w.length by omega]⟩
structure Got (h : HM) (w : List Int) : Prop where
 pl : (postR h w).length = w.length
 pg : ∀ t, t < w.length → (postR h w).getD t [] = postF h w t
 sS : exS h w = postF h w 0
 sE : exE h w = postF h w (w.length - 1)
 lM : (exM h w).length = h.st
 lO : (exO h w).length = h.st
 gM : ∀ i, i < h.st → (exM h w).getD i [] = moveRow h w (w.length - 1) i
 gO : ∀ i, i < h.st → (exO h w).getD i [] = showRow h w w.length i
end Go.AL

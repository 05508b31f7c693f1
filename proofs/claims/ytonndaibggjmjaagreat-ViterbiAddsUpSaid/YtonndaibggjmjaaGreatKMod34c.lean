/-
  M, chapter 34: the sums of beginnings times ends; the expected numbers fit together.
-/
import Derived.Test.YtonndaibggjmjaaGreatKFresh
import Derived.Test.YtonndaibggjmjaaGreatKMod34
import Derived.Test.YtonndaibggjmjaaGreatKMod40d
set_option linter.unusedVariables false
set_option linter.unusedSimpArgs false
namespace Go.AL
open Go
section
variable {α : Type} (lt : α → α → Prop) (d : α)
def swpL (l : List α) (i j : Nat) : List α := (l.set i (l.getD j d)).set j (l.getD i d)
structure Weak : Prop where
 asym : ∀ a b, lt a b → ¬ lt b a
 trans : ∀ a b c, ¬ lt a b → ¬ lt b c → ¬ lt a c
def HeapN (n : Nat) (l : List α) : Prop := ∀ k, 0 < k → k < n → ¬ lt (l.getD k d) (l.getD ((k - 1) / 2) d)
structure UpInv (n : Nat) (l : List α) (j : Nat) : Prop where
 other : ∀ k, 0 < k → k < n → k ≠ j → ¬ lt (l.getD k d) (l.getD ((k - 1) / 2) d)
 grand : 0 < j → ∀ k, 0 < k → k < n → (k - 1) / 2 = j → ¬ lt (l.getD k d) (l.getD ((j - 1) / 2) d)
structure DownInv (n : Nat) (l : List α) (i : Nat) : Prop where
 other : ∀ k, 0 < k → k < n → (k - 1) / 2 ≠ i → ¬ lt (l.getD k d) (l.getD ((k - 1) / 2) d)
 grand : 0 < i → ∀ k, 0 < k → k < n → (k - 1) / 2 = i → ¬ lt (l.getD k d) (l.getD ((i - 1) / 2) d)
end
section
variable {α : Type} {lt : α → α → Prop} {d : α} {l : List α} {n i j : Nat}
theorem swpL_len : (swpL d l i j).length = l.length := by simp [swpL]
theorem swpL_get (hi : i < l.length) (hj : j < l.length) (k : Nat) : (swpL d l i j).getD k d = if k = j then l.getD i d else if k = i then l.getD j d else l.getD k d := by
 unfold swpL
 rw [List.getD_eq_getElem?_getD, List.getElem?_set, List.length_set, List.getElem?_set]
 by_cases h1 : j = k
 ·subst h1; rw [if_pos rfl, if_pos hj, if_pos rfl]; rfl
 ·rw [if_neg h1, if_neg (show ¬ k = j from fun e => h1 e.symm)]
  by_cases h2 : i = k
  ·subst h2; rw [if_pos rfl, if_pos hi, if_pos rfl]; rfl
  ·rw [if_neg h2, if_neg (show ¬ k = i from fun e => h2 e.symm), List.getD_eq_getElem?_getD]
theorem swpL_perm (hi : i < l.length) (hj : j < l.length) (hne : i ≠ j) : (swpL d l i j).Perm l := by
 have e1 : l.getD i d = l[i] := by rw [List.getD_eq_getElem?_getD, List.getElem?_eq_getElem hi]; rfl
 have e2 : l.getD j d = l[j] := by rw [List.getD_eq_getElem?_getD, List.getElem?_eq_getElem hj]; rfl
 unfold swpL
 rw [e1, e2]
 exact List.set_set_perm hi hj
theorem Weak.irr (W : Weak lt) (a : α) : ¬ lt a a := fun h => W.asym a a h h
theorem up_done (h : UpInv lt d n l j) (hj : j = 0 ∨ ¬ lt (l.getD j d) (l.getD ((j - 1) / 2) d)) : HeapN lt d n l := fun k h0 hk => by
 by_cases e : k = j
 ·subst e
  rcases hj with hj | hj
  ·omega
  ·exact hj
 ·exact h.other k h0 hk e
theorem up_step (W : Weak lt) (h : UpInv lt d n l j) (hn : n ≤ l.length) (hj0 : 0 < j) (hjn : j < n) (hl : lt (l.getD j d) (l.getD ((j - 1) / 2) d)) : UpInv lt d n (swpL d l ((j - 1) / 2) j) ((j - 1) / 2) := by
 have hi : (j - 1) / 2 < l.length := by omega
 have hj : j < l.length := by omega
 have g := swpL_get (d := d) hi hj
 refine ⟨fun k h0 hk hne => ?_, fun hp k h0 hk he => ?_⟩
 ·rw [g k, g ((k - 1) / 2)]
  by_cases e1 : k = j
  ·subst e1
   rw [if_pos rfl, if_neg (show ¬ (k - 1) / 2 = k by omega), if_pos rfl]
   exact W.asym _ _ hl
  ·rw [if_neg e1, if_neg hne]
   by_cases e2 : (k - 1) / 2 = j
   ·rw [if_pos e2]; exact h.grand hj0 k h0 hk e2
   ·rw [if_neg e2]
    by_cases e3 : (k - 1) / 2 = (j - 1) / 2
    ·rw [if_pos e3]
     exact W.trans _ _ _ (by have := h.other k h0 hk e1; rw [e3] at this; exact this) (W.asym _ _ hl)
    ·rw [if_neg e3]; exact h.other k h0 hk e1
 ·rw [g k, g (((j - 1) / 2 - 1) / 2)]
  rw [if_neg (show ¬ ((j - 1) / 2 - 1) / 2 = j by omega), if_neg (show ¬ ((j - 1) / 2 - 1) / 2 = (j - 1) / 2 by omega)]
  by_cases e1 : k = j
  ·rw [if_pos e1]; exact h.other _ hp (by omega) (by omega)
  ·rw [if_neg e1, if_neg (show ¬ k = (j - 1) / 2 by omega)]
   have a := h.other k h0 hk e1
   rw [he] at a
   exact W.trans _ _ _ a (h.other _ hp (by omega) (by omega))
theorem down_done (h : DownInv lt d n l i) (hc : ∀ k, 0 < k → k < n → (k - 1) / 2 = i → ¬ lt (l.getD k d) (l.getD i d)) : HeapN lt d n l := fun k h0 hk => by
 by_cases e : (k - 1) / 2 = i
 ·rw [e]; exact hc k h0 hk e
 ·exact h.other k h0 hk e
theorem down_step (W : Weak lt) (h : DownInv lt d n l i) (hn : n ≤ l.length) (hj0 : 0 < j) (hjn : j < n) (hji : (j - 1) / 2 = i) (hl : lt (l.getD j d) (l.getD i d)) (hm : ∀ k, 0 < k → k < n → (k - 1) / 2 = i → ¬ lt (l.getD k d) (l.getD j d)) :
  DownInv lt d n (swpL d l i j) j := by
 have hi : i < l.length := by omega
 have hj : j < l.length := by omega
 have g := swpL_get (d := d) hi hj
 refine ⟨fun k h0 hk hne => ?_, fun _ k h0 hk he => ?_⟩
 ·rw [g k, g ((k - 1) / 2), if_neg hne]
  by_cases e1 : k = j
  ·subst e1
   rw [if_pos rfl, if_pos hji]
   exact W.asym _ _ hl
  ·rw [if_neg e1]
   by_cases e2 : (k - 1) / 2 = i
   ·rw [if_pos e2, if_neg (show ¬ k = i by omega)]; exact hm k h0 hk e2
   ·rw [if_neg e2]
    by_cases e3 : k = i
    ·rw [if_pos e3]; subst e3; exact h.grand h0 j hj0 hjn hji
    ·rw [if_neg e3]; exact h.other k h0 hk e2
 ·rw [g k, g ((j - 1) / 2), hji, if_neg (show ¬ i = j by omega), if_pos rfl, if_neg (show ¬ k = j by omega), if_neg (show ¬ k = i by omega)]
  have := h.other k h0 hk (by omega)
  rw [he] at this
  exact this
theorem heap_root (W : Weak lt) (h : HeapN lt d n l) : ∀ k, k < n → ¬ lt (l.getD k d) (l.getD 0 d) := by
 intro k
 induction k using Nat.strongRecOn with
 | ind k ih =>
  intro hk
  by_cases h0 : k = 0
  ·subst h0; exact W.irr _
  ·exact W.trans _ _ _ (h k (by omega) hk) (ih ((k - 1) / 2) (by omega) (by omega))
end
end Go.AL

set_option linter.unusedVariables false
set_option linter.unusedSimpArgs false
namespace Go.AL
open Go Go.BigFrame
def xiQ (h : HM) (w : List Int) (t i j : Nat) : Rat := (fwdF h w t).getD i 0 * trQ h i j * (emQ h j (symX w (t + 1)) * (bwdF h w (w.length - 1 - (t + 1))).getD j 0) / likF h w
def showQ (h : HM) (w : List Int) (n i x : Nat) : Rat := sumN (fun t => if symX w t = x then postQ h w t i else 0) n
def moveQ (h : HM) (w : List Int) (n i j : Nat) : Rat := sumN (fun t => xiQ h w t i j) n
def showRow (h : HM) (w : List Int) (n i : Nat) : List Rat := (List.range h.sym).map fun x => showQ h w n i x
def moveRow (h : HM) (w : List Int) (n i : Nat) : List Rat := (List.range h.st).map fun j => moveQ h w n i j
def exS (h : HM) (w : List Int) : List Rat := if likF h w = 0 then [] else if w.length = 0 then List.replicate h.st 0 else postF h w 0
def exE (h : HM) (w : List Int) : List Rat := if likF h w = 0 then [] else if w.length = 0 then List.replicate h.st 0 else postF h w (w.length - 1)
def exM (h : HM) (w : List Int) : List (List Rat) := if likF h w = 0 then [] else (List.range h.st).map fun i => moveRow h w (w.length - 1) i
def exO (h : HM) (w : List Int) : List (List Rat) := if likF h w = 0 then [] else (List.range h.st).map fun i => showRow h w w.length i
end Go.AL

set_option linter.unusedVariables false
set_option linter.unusedSimpArgs false
namespace Go.AL
open Go Go.BigFrame
theorem sumN_congr {f g : Nat → Rat} : ∀ {n : Nat}, (∀ i, i < n → f i = g i) → sumN f n = sumN g n
 | 0, _ => rfl
 | n + 1, h => by rw [sumN, sumN, sumN_congr fun i hi => h i (by omega), h n (Nat.lt_succ_self n)]
theorem sumN_zero {f : Nat → Rat} : ∀ {n : Nat}, (∀ i, i < n → f i = 0) → sumN f n = 0
 | 0, _ => rfl
 | n + 1, h => by rw [sumN, sumN_zero fun i hi => h i (by omega), h n (Nat.lt_succ_self n)]; grind
theorem sumN_add (f g : Nat → Rat) : ∀ n, sumN (fun i => f i + g i) n = sumN f n + sumN g n
 | 0 => by rw [sumN, sumN, sumN]; grind
 | n + 1 => by rw [sumN, sumN, sumN, sumN_add f g n]; grind
theorem sumN_mulR (f : Nat → Rat) (c : Rat) : ∀ n, sumN (fun i => f i * c) n = sumN f n * c
 | 0 => by rw [sumN, sumN, Rat.zero_mul]
 | n + 1 => by rw [sumN, sumN, sumN_mulR f c n, Rat.add_mul]
theorem sumN_mulL (f : Nat → Rat) (c : Rat) (n : Nat) : sumN (fun i => c * f i) n = c * sumN f n := by
 rw [Rat.mul_comm, ← sumN_mulR]; exact sumN_congr fun i _ => Rat.mul_comm ..
theorem sumN_swap (f : Nat → Nat → Rat) (m : Nat) : ∀ n, sumN (fun i => sumN (fun j => f i j) m) n = sumN (fun j => sumN (fun i => f i j) n) m
 | 0 => by rw [sumN]; exact (sumN_zero fun _ _ => rfl).symm
 | n + 1 => by
  rw [sumN, sumN_swap f m n, ← sumN_add]
  exact sumN_congr fun j _ => rfl
def sumL (l : List Rat) : Rat := sumN (fun i => l.getD i 0) l.length
structure Fit (h : HM) (w : List Int) : Prop where
 row : ∀ t, t < w.length → sumL (postF h w t) = 1
 show_ : ∀ i, sumL (showRow h w w.length i) = sumN (fun t => postQ h w t i) w.length
 out : ∀ i, i < h.st → sumL (moveRow h w (w.length - 1) i) + postQ h w (w.length - 1) i = sumN (fun t => postQ h w t i) w.length
 into : ∀ i, i < h.st → postQ h w 0 i + sumN (fun j => moveQ h w (w.length - 1) j i) h.st = sumN (fun t => postQ h w t i) w.length
structure Got (h : HM) (w : List Int) : Prop where
 pl : (postR h w).length = w.length
 pg : ∀ t, t < w.length → (postR h w).getD t [] = postF h w t
 sS : exS h w = postF h w 0
 sE : exE h w = postF h w (w.length - 1)
 lM : (exM h w).length = h.st
 lO : (exO h w).length = h.st
 gM : ∀ i, i < h.st → (exM h w).getD i [] = moveRow h w (w.length - 1) i
 gO : ∀ i, i < h.st → (exO h w).getD i [] = showRow h w w.length i
end Go.AL

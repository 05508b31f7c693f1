/-
  M, chapter 34: the sums of beginnings times ends; the expected numbers fit together.
-/
import Derived.Test.YtonndaibggjmjaaGreatKFresh
import Derived.Test.YtonndaibggjmjaaGreatKMod40d
set_option linter.unusedVariables false
set_option linter.unusedSimpArgs false
namespace Go.AL
open Go
section
variable {α : Type} (lt : α → α → Prop) (d : α)
def swpL (l : List α) (i j : Nat) : List α := (l.set i (l.getD j d)).set j (l.getD i d)
structure Weak : Prop where
 asym : ∀ a b, lt a b → ¬ lt b a
 trans : ∀ a b c, ¬ lt a b → ¬ lt b c → ¬ lt a c
def HeapN (n : Nat) (l : List α) : Prop := ∀ k, 0 < k → k < n → ¬ lt (l.getD k d) (l.getD ((k - 1) / 2) d)
structure UpInv (n : Nat) (l : List α) (j : Nat) : Prop where
 other : ∀ k, 0 < k → k < n → k ≠ j → ¬ lt (l.getD k d) (l.getD ((k - 1) / 2) d)
 grand : 0 < j → ∀ k, 0 < k → k < n → (k - 1) / 2 = j → ¬ lt (l.getD k d) (l.getD ((j - 1) / 2) d)
structure DownInv (n : Nat) (l : List α) (i : Nat) : Prop where
 other : ∀ k, 0 < k → k < n → (k - 1) / 2 ≠ i → ¬ lt (l.getD k d) (l.getD ((k - 1) / 2) d)
 grand : 0 < i → ∀ k, 0 < k → k < n → (k - 1) / 2 = i → ¬ lt (l.getD k d) (l.getD ((i - 1) / 2) d)
end
section
variable {α : Type} {lt : α → α → Prop} {d : α} {l : List α} {n i j : Nat}
theorem swpL_len : (swpL d l i j).length = l.length := by simp [swpL]
theorem swpL_get (hi : i < l.length) (hj : j < l.length) (k : Nat) : (swpL d l i j).getD k d = if k = j then l.getD i d else if k = i then l.getD j d else l.getD k d := by
 unfold swpL
 rw [List.getD_eq_getElem?_getD, List.getElem?_set, List.length_set, List.getElem?_set]
 by_cases h1 : j = k
 ·subst h1; rw [if_pos rfl, if_pos hj, if_pos rfl]; rfl
 ·rw [if_neg h1, if_neg (show ¬ k = j from fun e => h1 e.symm)]
  by_cases h2 : i = k
  ·subst h2; rw [if_pos rfl, if_pos hi, if_pos rfl]; rfl
  ·rw [if_neg h2, if_neg (show ¬ k = i from fun e => h2 e.symm), List.getD_eq_getElem?_getD]
theorem swpL_perm (hi : i < l.length) (hj : j < l.length) (hne : i ≠ j) : (swpL d l i j).Perm l := by
 have e1 : l.getD i d = l[i] := by rw [List.getD_eq_getElem?_getD, List.getElem?_eq_getElem hi]; rfl
 have e2 : l.getD j d = l[j] := by rw [List.getD_eq_getElem?_getD, List.getElem?_eq_getElem hj]; rfl
 unfold swpL
 rw [e1, e2]
 exact List.set_set_perm hi hj
theorem Weak.irr (W : Weak lt) (a : α) : ¬ lt a a := fun h => W.asym a a h h
theorem up_done (h : UpInv lt d n l j) (hj : j = 0 ∨ ¬ lt (l.getD j d) (l.getD ((j - 1) / 2) d)) : HeapN lt d n l := fun k h0 hk => by
 by_cases e : k = j
 ·subst e
  rcases hj with hj | hj
  ·omega
  ·exact hj
 ·exact h.other k h0 hk e
theorem up_step (W : Weak lt) (h : UpInv lt d n l j) (hn : n ≤ l.length) (hj0 : 0 < j) (hjn : j < n) (hl : lt (l.getD j d) (l.getD ((j - 1) / 2) d)) : UpInv lt d n (swpL d l ((j - 1) / 2) j) ((j - 1) / 2) := by
 have hi : (j - 1) / 2 < l.length := by omega
 have hj : j < l.length := by omega
 have g := swpL_get (d := d) hi hj
 refine ⟨fun k h0 hk hne => ?_, fun hp k h0 hk he => ?_⟩
 ·rw [g k, g ((k - 1) / 2)]
  by_cases e1 : k = j
  ·subst e1
   rw [if_pos rfl, if_neg (show ¬ (k - 1) / 2 = k by omega), if_pos rfl]
   exact W.asym _ _ hl
  ·rw [if_neg e1, if_neg hne]
   by_cases e2 : (k - 1) / 2 = j
   ·rw [if_pos e2]; exact h.grand hj0 k h0 hk e2
   ·rw [if_neg e2]
    by_cases e3 : (k - 1) / 2 = (j - 1) / 2
    ·rw [if_pos e3]
     exact W.trans _ _ _ (by have := h.other k h0 hk e1; rw [e3] at this; exact this) (W.asym _ _ hl)
    ·rw [if_neg e3]; exact h.other k h0 hk e1
 ·rw [g k, g (((j - 1) / 2 - 1) / 2)]
  rw [if_neg (show ¬ ((j - 1) / 2 - 1) / 2 = j by omega), if_neg (show ¬ ((j - 1) / 2 - 1) / 2 = (j - 1) / 2 by omega)]
  by_cases e1 : k = j
  ·rw [if_pos e1]; exact h.other _ hp (by omega) (by omega)
  ·rw [if_neg e1, if_neg (show ¬ k = (j - 1) / 2 by omega)]
   have a := h.other k h0 hk e1
   rw [he] at a
   exact W.trans _ _ _ a (h.other _ hp (by omega) (by omega))
theorem down_done (h : DownInv lt d n l i) (hc : ∀ k, 0 < k → k < n → (k - 1) / 2 = i → ¬ lt (l.getD k d) (l.getD i d)) : HeapN lt d n l := fun k h0 hk => by
 by_cases e : (k - 1) / 2 = i
 ·rw [e]; exact hc k h0 hk e
 ·exact h.other k h0 hk e
theorem down_step (W : Weak lt) (h : DownInv lt d n l i) (hn : n ≤ l.length) (hj0 : 0 < j) (hjn : j < n) (hji : (j - 1) / 2 = i) (hl : lt (l.getD j d) (l.getD i d)) (hm : ∀ k, 0 < k → k < n → (k - 1) / 2 = i → ¬ lt (l.getD k d) (l.getD j d)) :
  DownInv lt d n (swpL d l i j) j := by
 have hi : i < l.length := by omega
 have hj : j < l.length := by omega
 have g := swpL_get (d := d) hi hj
 refine ⟨fun k h0 hk hne => ?_, fun _ k h0 hk he => ?_⟩
 ·rw [g k, g ((k - 1) / 2), if_neg hne]
  by_cases e1 : k = j
  ·subst e1
   rw [if_pos rfl, if_pos hji]
   exact W.asym _ _ hl
  ·rw [if_neg e1]
   by_cases e2 : (k - 1) / 2 = i
   ·rw [if_pos e2, if_neg (show ¬ k = i by omega)]; exact hm k h0 hk e2
   ·rw [if_neg e2]
    by_cases e3 : k = i
    ·rw [if_pos e3]; subst e3; exact h.grand h0 j hj0 hjn hji
    ·rw [if_neg e3]; exact h.other k h0 hk e2
 ·rw [g k, g ((j - 1) / 2), hji, if_neg (show ¬ i = j by omega), if_pos rfl, if_neg (show ¬ k = j by omega), if_neg (show ¬ k = i by omega)]
  have := h.other k h0 hk (by omega)
  rw [he] at this
  exact this
theorem heap_root (W : Weak lt) (h : HeapN lt d n l) : ∀ k, k < n → ¬ lt (l.getD k d) (l.getD 0 d) := by
 intro k
 induction k using Nat.strongRecOn with
 | ind k ih =>
  intro hk
  by_cases h0 : k = 0
  ·subst h0; exact W.irr _
  ·exact W.trans _ _ _ (h k (by omega) hk) (ih ((k - 1) / 2) (by omega) (by omega))
end
end Go.AL

set_option linter.unusedVariables false
set_option linter.unusedSimpArgs false
namespace Go.AL
open Go Go.BigFrame
def sumN (f : Nat → Rat) : Nat → Rat
 | 0 => 0
 | n + 1 => sumN f n + f n
def trQ (h : HM) (i j : Nat) : Rat := (h.trans.getD i []).getD j 0
def emQ (h : HM) (i x : Nat) : Rat := (h.emit.getD i []).getD x 0
def preF (h : HM) (w : List Int) (prev : List Rat) (t j : Nat) : Nat → Rat := sumN fun i => prev.getD i 0 * trQ h i j
def fwdF (h : HM) (w : List Int) : Nat → List Rat
 | 0 => (List.range h.st).map fun j => h.ini.getD j 0 * emQ h j (symX w 0)
 | t + 1 => (List.range h.st).map fun j => preF h w (fwdF h w t) t j h.st * emQ h j (symX w (t + 1))
def sufF (h : HM) (w : List Int) (next : List Rat) (t i : Nat) : Nat → Rat := sumN fun j => trQ h i j * (emQ h j (symX w (t + 1)) * next.getD j 0)
def bwdF (h : HM) (w : List Int) : Nat → List Rat
 | 0 => (List.range h.st).map fun i => h.stop.getD i 0
 | d + 1 => (List.range h.st).map fun i => sufF h w (bwdF h w d) (w.length - 1 - (d + 1)) i h.st
def likN (h : HM) (row : List Rat) : Nat → Rat := sumN fun i => row.getD i 0 * h.stop.getD i 0
def likF (h : HM) (w : List Int) : Rat := if w.length = 0 then h.empty else likN h (fwdF h w (w.length - 1)) h.st
def postQ (h : HM) (w : List Int) (t i : Nat) : Rat := (fwdF h w t).getD i 0 * (bwdF h w (w.length - 1 - t)).getD i 0 / likF h w
def postF (h : HM) (w : List Int) (t : Nat) : List Rat := (List.range h.st).map fun i => postQ h w t i
structure Few (h : HM) (w : List Int) : Prop where
 st : h.st ≤ 4
 len : w.length ≤ 6
theorem tr_sz {h : HM} {B : Nat} (f : h.Form B) (i j : Nat) : sz (trQ h i j) ≤ 1024 := Nat.le_trans ((f.zT i).get f.b1 j) f.bB
theorem em_sz {h : HM} {B : Nat} (f : h.Form B) (i x : Nat) : sz (emQ h i x) ≤ 1024 := Nat.le_trans ((f.zM i).get f.b1 x) f.bB
theorem stop_sz {h : HM} {B : Nat} (f : h.Form B) (i : Nat) : sz (h.stop.getD i 0) ≤ 1024 := Nat.le_trans (f.zS.get f.b1 i) f.bB
theorem ini_sz {h : HM} {B : Nat} (f : h.Form B) (i : Nat) : sz (h.ini.getD i 0) ≤ 1024 := Nat.le_trans (f.zI.get f.b1 i) f.bB
structure FwdSz (h : HM) (w : List Int) : Prop where
 empty : sz h.empty ≤ 68719476736
 ini : ∀ i, sz (h.ini.getD i 0) ≤ 68719476736
 em : ∀ i x, sz (emQ h i x) ≤ 68719476736
 tr : ∀ i j, sz (trQ h i j) ≤ 68719476736
 stop : ∀ i, sz (h.stop.getD i 0) ≤ 68719476736
 fwd : ∀ t, t < w.length → ∀ i, sz ((fwdF h w t).getD i 0) ≤ 68719476736
 pre : ∀ t j n, t < w.length → n ≤ h.st → sz (preF h w (fwdF h w t) t j n) ≤ 68719476736
 preM : ∀ t i j, t < w.length → sz ((fwdF h w t).getD i 0 * trQ h i j) ≤ 68719476736
 lik : ∀ t n, t < w.length → n ≤ h.st → sz (likN h (fwdF h w t) n) ≤ 68719476736
 likM : ∀ t i, t < w.length → sz ((fwdF h w t).getD i 0 * h.stop.getD i 0) ≤ 68719476736
def postR (h : HM) (w : List Int) : List (List Rat) := if likF h w = 0 then [] else (List.range w.length).map (postF h w)
end Go.AL

set_option linter.unusedVariables false
set_option linter.unusedSimpArgs false
namespace Go.AL
open Go Go.BigFrame
def xiQ (h : HM) (w : List Int) (t i j : Nat) : Rat := (fwdF h w t).getD i 0 * trQ h i j * (emQ h j (symX w (t + 1)) * (bwdF h w (w.length - 1 - (t + 1))).getD j 0) / likF h w
def showQ (h : HM) (w : List Int) (n i x : Nat) : Rat := sumN (fun t => if symX w t = x then postQ h w t i else 0) n
def moveQ (h : HM) (w : List Int) (n i j : Nat) : Rat := sumN (fun t => xiQ h w t i j) n
def showRow (h : HM) (w : List Int) (n i : Nat) : List Rat := (List.range h.sym).map fun x => showQ h w n i x
def moveRow (h : HM) (w : List Int) (n i : Nat) : List Rat := (List.range h.st).map fun j => moveQ h w n i j
def exS (h : HM) (w : List Int) : List Rat := if likF h w = 0 then [] else if w.length = 0 then List.replicate h.st 0 else postF h w 0
def exE (h : HM) (w : List Int) : List Rat := if likF h w = 0 then [] else if w.length = 0 then List.replicate h.st 0 else postF h w (w.length - 1)
def exM (h : HM) (w : List Int) : List (List Rat) := if likF h w = 0 then [] else (List.range h.st).map fun i => moveRow h w (w.length - 1) i
def exO (h : HM) (w : List Int) : List (List Rat) := if likF h w = 0 then [] else (List.range h.st).map fun i => showRow h w w.length i
end Go.AL

set_option linter.unusedVariables false
set_option linter.unusedSimpArgs false
namespace Go.AL
open Go Go.BigFrame
def sumL (l : List Rat) : Rat := sumN (fun i => l.getD i 0) l.length
structure Fit (h : HM) (w : List Int) : Prop where
 row : ∀ t, t < w.length → sumL (postF h w t) = 1
 show_ : ∀ i, sumL (showRow h w w.length i) = sumN (fun t => postQ h w t i) w.length
 out : ∀ i, i < h.st → sumL (moveRow h w (w.length - 1) i) + postQ h w (w.length - 1) i = sumN (fun t => postQ h w t i) w.length
 into : ∀ i, i < h.st → postQ h w 0 i + sumN (fun j => moveQ h w (w.length - 1) j i) h.st = sumN (fun t => postQ h w t i) w.length
structure Got (h : HM) (w : List Int) : Prop where
 pl : (postR h w).length = w.length
 pg : ∀ t, t < w.length → (postR h w).getD t [] = postF h w t
 sS : exS h w = postF h w 0
 sE : exE h w = postF h w (w.length - 1)
 lM : (exM h w).length = h.st
 lO : (exO h w).length = h.st
 gM : ∀ i, i < h.st → (exM h w).getD i [] = moveRow h w (w.length - 1) i
 gO : ∀ i, i < h.st → (exO h w).getD i [] = showRow h w w.length i
end Go.AL

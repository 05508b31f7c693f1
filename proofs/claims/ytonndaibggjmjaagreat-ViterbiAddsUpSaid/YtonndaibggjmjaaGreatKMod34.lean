/-
  M, chapter 34: the probabilities of beginnings and ends; posteriors; sizes.
-/
import Derived.Test.YtonndaibggjmjaaGreatKFresh
set_option linter.unusedVariables false
set_option linter.unusedSimpArgs false
namespace Go.AL
open Go Go.BigFrame
def sumN (f : Nat → Rat) : Nat → Rat
 | 0 => 0
 | n + 1 => sumN f n + f n
def trQ (h : HM) (i j : Nat) : Rat := (h.trans.getD i []).getD j 0
def emQ (h : HM) (i x : Nat) : Rat := (h.emit.getD i []).getD x 0
def preF (h : HM) (w : List Int) (prev : List Rat) (t j : Nat) : Nat → Rat := sumN fun i => prev.getD i 0 * trQ h i j
def fwdF (h : HM) (w : List Int) : Nat → List Rat
 | 0 => (List.range h.st).map fun j => h.ini.getD j 0 * emQ h j (symX w 0)
 | t + 1 => (List.range h.st).map fun j => preF h w (fwdF h w t) t j h.st * emQ h j (symX w (t + 1))
def sufF (h : HM) (w : List Int) (next : List Rat) (t i : Nat) : Nat → Rat := sumN fun j => trQ h i j * (emQ h j (symX w (t + 1)) * next.getD j 0)
def bwdF (h : HM) (w : List Int) : Nat → List Rat
 | 0 => (List.range h.st).map fun i => h.stop.getD i 0
 | d + 1 => (List.range h.st).map fun i => sufF h w (bwdF h w d) (w.length - 1 - (d + 1)) i h.st
def likN (h : HM) (row : List Rat) : Nat → Rat := sumN fun i => row.getD i 0 * h.stop.getD i 0
def likF (h : HM) (w : List Int) : Rat := if w.length = 0 then h.empty else likN h (fwdF h w (w.length - 1)) h.st
def postQ (h : HM) (w : List Int) (t i : Nat) : Rat := (fwdF h w t).getD i 0 * (bwdF h w (w.length - 1 - t)).getD i 0 / likF h w
def postF (h : HM) (w : List Int) (t : Nat) : List Rat := (List.range h.st).map fun i => postQ h w t i
theorem fwdF_len (h : HM) (w : List Int) (t : Nat) : (fwdF h w t).length = h.st := by cases t <;> simp [fwdF]
theorem sumN_sz {C : Nat} {f : Nat → Rat} (hf : ∀ i, sz (f i) ≤ C) : ∀ n, sz (sumN f n) ≤ 1 + n * (C + 1)
 | 0 => by show sz 0 ≤ _; rw [sz_zero]; omega
 | n + 1 => by
  rw [sumN, Nat.add_mul]
  have h1 := sumN_sz hf n
  have h2 := sz_add (sumN f n) (f n)
  have h3 := hf n
  omega
theorem sumN_sz4 {C n : Nat} {f : Nat → Rat} (hf : ∀ i, sz (f i) ≤ C) (hn : n ≤ 4) : sz (sumN f n) ≤ 1 + 4 * (C + 1) := by
 have h1 := sumN_sz hf n
 have h2 : n * (C + 1) ≤ 4 * (C + 1) := Nat.mul_le_mul_right _ hn
 omega
structure Few (h : HM) (w : List Int) : Prop where
 st : h.st ≤ 4
 len : w.length ≤ 6
def FC : Nat → Nat
 | 0 => 2048
 | t + 1 => 4 * (FC t + 1026) + 1026
theorem FC_le {t : Nat} (ht : t ≤ 5) : 1 ≤ FC t ∧ FC t ≤ 4000000 := by
 have : t = 0 ∨ t = 1 ∨ t = 2 ∨ t = 3 ∨ t = 4 ∨ t = 5 := by omega
 rcases this with rfl | rfl | rfl | rfl | rfl | rfl <;> decide
theorem tr_sz {h : HM} {B : Nat} (f : h.Form B) (i j : Nat) : sz (trQ h i j) ≤ 1024 := Nat.le_trans ((f.zT i).get f.b1 j) f.bB
theorem em_sz {h : HM} {B : Nat} (f : h.Form B) (i x : Nat) : sz (emQ h i x) ≤ 1024 := Nat.le_trans ((f.zM i).get f.b1 x) f.bB
theorem stop_sz {h : HM} {B : Nat} (f : h.Form B) (i : Nat) : sz (h.stop.getD i 0) ≤ 1024 := Nat.le_trans (f.zS.get f.b1 i) f.bB
theorem ini_sz {h : HM} {B : Nat} (f : h.Form B) (i : Nat) : sz (h.ini.getD i 0) ≤ 1024 := Nat.le_trans (f.zI.get f.b1 i) f.bB
theorem pre_sz {h : HM} {B C n : Nat} (f : h.Form B) {prev : List Rat} (hp : Small C prev) (hC : 1 ≤ C) (hn : n ≤ 4) (w : List Int) (t j : Nat) : sz (preF h w prev t j n) ≤ 1 + 4 * (C + 1024 + 1) := sumN_sz4 (fun i => by
  have h1 := sz_mul (prev.getD i 0) (trQ h i j)
  have h2 := tr_sz f i j
  have h3 := hp.get hC i
  omega) hn
theorem fwd_small {h : HM} {B : Nat} (f : h.Form B) (hs : h.st ≤ 4) (w : List Int) : ∀ t, Small (FC t) (fwdF h w t)
 | 0 => fun q hq => by
  obtain ⟨j, _, rfl⟩ := List.mem_map.1 hq
  have h1 := sz_mul (h.ini.getD j 0) (emQ h j (symX w 0))
  have h2 := ini_sz f j
  have h3 := em_sz f j (symX w 0)
  show _ ≤ 2048
  omega
 | t + 1 => fun q hq => by
  obtain ⟨j, _, rfl⟩ := List.mem_map.1 hq
  have hC : 1 ≤ FC t := by cases t <;> simp only [FC] <;> omega
  have h1 := sz_mul (preF h w (fwdF h w t) t j h.st) (emQ h j (symX w (t + 1)))
  have h2 := pre_sz f (fwd_small f hs w t) hC hs w t j
  have h3 := em_sz f j (symX w (t + 1))
  show _ ≤ 4 * (FC t + 1026) + 1026
  omega
theorem fwd_szB {h : HM} {B : Nat} (f : h.Form B) {w : List Int} (k : Few h w) {t : Nat} (ht : t < w.length) : Small 4000000 (fwdF h w t) := (fwd_small f k.st w t).mono (FC_le (by have := k.len; omega)).2
theorem likN_sz {h : HM} {B n : Nat} (f : h.Form B) {row : List Rat} (hr : Small 4000000 row) (hn : n ≤ 4) : sz (likN h row n) ≤ 16010000 := by
 have : sz (likN h row n) ≤ 1 + 4 * (4001024 + 1) := sumN_sz4 (fun i => by
  have h1 := sz_mul (row.getD i 0) (h.stop.getD i 0)
  have h2 := stop_sz f i
  have h3 := hr.get (by decide) i
  omega) hn
 omega
theorem lik_sz {h : HM} {B : Nat} (f : h.Form B) {w : List Int} (k : Few h w) : sz (likF h w) ≤ 16010000 := by
 unfold likF
 split
 ·have := f.zE; have := f.bB; omega
 ·exact likN_sz f (fwd_szB f k (by omega)) k.st
structure FwdSz (h : HM) (w : List Int) : Prop where
 empty : sz h.empty ≤ 68719476736
 ini : ∀ i, sz (h.ini.getD i 0) ≤ 68719476736
 em : ∀ i x, sz (emQ h i x) ≤ 68719476736
 tr : ∀ i j, sz (trQ h i j) ≤ 68719476736
 stop : ∀ i, sz (h.stop.getD i 0) ≤ 68719476736
 fwd : ∀ t, t < w.length → ∀ i, sz ((fwdF h w t).getD i 0) ≤ 68719476736
 pre : ∀ t j n, t < w.length → n ≤ h.st → sz (preF h w (fwdF h w t) t j n) ≤ 68719476736
 preM : ∀ t i j, t < w.length → sz ((fwdF h w t).getD i 0 * trQ h i j) ≤ 68719476736
 lik : ∀ t n, t < w.length → n ≤ h.st → sz (likN h (fwdF h w t) n) ≤ 68719476736
 likM : ∀ t i, t < w.length → sz ((fwdF h w t).getD i 0 * h.stop.getD i 0) ≤ 68719476736
theorem fwdSz {h : HM} {B : Nat} (f : h.Form B) {w : List Int} (k : Few h w) : FwdSz h w := by
 have ks := k.st
 refine ⟨by have := f.zE; have := f.bB; omega, fun i => by have := ini_sz f i; omega, fun i x => by have := em_sz f i x; omega, fun i j => by have := tr_sz f i j; omega, fun i => by have := stop_sz f i; omega,
  fun t ht i => Nat.le_trans ((fwd_szB f k ht).get (by decide) i) (by decide), fun t j n ht hn => Nat.le_trans (pre_sz f (fwd_szB f k ht) (by decide) (by omega) w t j) (by decide), fun t i j ht => ?_, fun t n ht hn => Nat.le_trans (likN_sz f (fwd_szB f k ht) (by omega)) (by decide), fun t i ht => ?_⟩
 ·have h1 := (fwd_szB f k ht).get (by decide) i
  have h2 := tr_sz f i j
  have := sz_mul ((fwdF h w t).getD i 0) (trQ h i j)
  omega
 ·have h1 := (fwd_szB f k ht).get (by decide) i
  have h2 := stop_sz f i
  have := sz_mul ((fwdF h w t).getD i 0) (h.stop.getD i 0)
  omega
theorem fill_row {l : List Rat} {n : Nat} (h : l.length = n) : fillF 0 (fun j => l.getD j 0) n n = l := by
 rw [fillF_all]
 refine list_eq_getD (by rw [h]; simp) 0 fun i hi => ?_
 rw [List.length_map, List.length_range] at hi
 exact map_getD_range _ _ hi
def rowsD (h : HM) (w : List Int) (n : Nat) : List (List D) := (List.range n).map fun i => (fwdF h w i).map dQ
theorem rowsD_succ (h : HM) (w : List Int) (n : Nat) : rowsD h w (n + 1) = rowsD h w n ++ [(fwdF h w n).map dQ] := by unfold rowsD; rw [List.range_succ, List.map_append]; rfl
theorem rowsD_len (h : HM) (w : List Int) (n : Nat) : (rowsD h w n).length = n := by simp [rowsD]
theorem rowsD_get {h : HM} {w : List Int} {n i : Nat} (hi : i < n) : (rowsD h w n)[i]? = some ((fwdF h w i).map dQ) := by
 unfold rowsD
 rw [List.getElem?_map, List.getElem?_range hi]; rfl
theorem snd_get {α β : Type} {rs : List (α × β)} {l : List β} (h : rs.map Prod.snd = l) {i : Nat} {x : β} (hx : l[i]? = some x) : ∃ b, rs[i]? = some (b, x) := by
 rw [← h, List.getElem?_map] at hx
 cases hq : rs[i]? with
 | none => rw [hq] at hx; cases hx
 | some q => rw [hq] at hx; cases hx; exact ⟨q.1, rfl⟩
theorem snd_len {α β : Type} {rs : List (α × β)} {l : List β} (h : rs.map Prod.snd = l) : rs.length = l.length := by rw [← h]; simp
theorem set_same {α : Type} {l : List α} {i : Nat} {x : α} (h : l[i]? = some x) : l.set i x = l := by
 have hi : i < l.length := (List.getElem?_eq_some_iff.1 h).1
 refine List.ext_getElem? fun k => ?_
 by_cases e : i = k
 ·subst e; rw [List.getElem?_set_self hi, h]
 ·rw [List.getElem?_set_ne e]
theorem fwd_zero {h : HM} {w : List Int} {j : Nat} (hj : j < h.st) : (fwdF h w 0).getD j 0 = h.ini.getD j 0 * emQ h j (symX w 0) := map_getD_range _ _ hj
theorem fwd_pos {h : HM} {w : List Int} {t j : Nat} (ht : 0 < t) (hj : j < h.st) : (fwdF h w t).getD j 0 = preF h w (fwdF h w (t - 1)) (t - 1) j h.st * emQ h j (symX w t) := by
 obtain ⟨u, rfl⟩ : ∃ u, t = u + 1 := ⟨t - 1, by omega⟩
 exact map_getD_range _ _ hj
def postR (h : HM) (w : List Int) : List (List Rat) := if likF h w = 0 then [] else (List.range w.length).map (postF h w)
end Go.AL

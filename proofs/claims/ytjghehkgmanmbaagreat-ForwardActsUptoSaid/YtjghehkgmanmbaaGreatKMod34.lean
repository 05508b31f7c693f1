/-
  M, chapter 34: the probabilities of beginnings and ends; posteriors; sizes.
-/
import Derived.Test.YtjghehkgmanmbaaGreatKMod40e
set_option linter.unusedVariables false
set_option linter.unusedSimpArgs false
namespace Go.AL
open Go Go.BigFrame
def sumN (f : Nat → Rat) : Nat → Rat
 | 0 => 0
 | n + 1 => sumN f n + f n
def trQ (h : HM) (i j : Nat) : Rat := (h.trans.getD i []).getD j 0
def emQ (h : HM) (i x : Nat) : Rat := (h.emit.getD i []).getD x 0
def preF (h : HM) (w : List Int) (prev : List Rat) (t j : Nat) : Nat → Rat := sumN fun i => prev.getD i 0 * trQ h i j
def fwdF (h : HM) (w : List Int) : Nat → List Rat
 | 0 => (List.range h.st).map fun j => h.ini.getD j 0 * emQ h j (symX w 0)
 | t + 1 => (List.range h.st).map fun j => preF h w (fwdF h w t) t j h.st * emQ h j (symX w (t + 1))
def sufF (h : HM) (w : List Int) (next : List Rat) (t i : Nat) : Nat → Rat := sumN fun j => trQ h i j * (emQ h j (symX w (t + 1)) * next.getD j 0)
def bwdF (h : HM) (w : List Int) : Nat → List Rat
 | 0 => (List.range h.st).map fun i => h.stop.getD i 0
 | d + 1 => (List.range h.st).map fun i => sufF h w (bwdF h w d) (w.length - 1 - (d + 1)) i h.st
def likN (h : HM) (row : List Rat) : Nat → Rat := sumN fun i => row.getD i 0 * h.stop.getD i 0
def likF (h : HM) (w : List Int) : Rat := if w.length = 0 then h.empty else likN h (fwdF h w (w.length - 1)) h.st
def postQ (h : HM) (w : List Int) (t i : Nat) : Rat := (fwdF h w t).getD i 0 * (bwdF h w (w.length - 1 - t)).getD i 0 / likF h w
def postF (h : HM) (w : List Int) (t : Nat) : List Rat := (List.range h.st).map fun i => postQ h w t i
theorem fwdF_len (h : HM) (w : List Int) (t : Nat) : (fwdF h w t).length = h.st := by cases t <;> simp [fwdF]
theorem bwdF_len (h : HM) (w : List Int) (d : Nat) : (bwdF h w d).length = h.st := by cases d <;> simp [bwdF]
theorem postF_len (h : HM) (w : List Int) (t : Nat) : (postF h w t).length = h.st := by simp [postF]
theorem sz_div (x y : Rat) : sz (x / y) ≤ sz x + sz y := by
 by_cases h0 : y = 0
 ·rw [h0, Rat.div_def, Rat.inv_zero, Rat.mul_zero, sz_zero]
  have := sz_zero
  omega
 ·have hy : y.num.natAbs ≠ 0 := by
   intro e
   have : y.num = 0 := by omega
   exact h0 (Rat.num_eq_zero.1 this)
  have hx := fr_ofQ x
  have hyq := fr_ofQ y
  have hd := fr_div (s := decide (x.num < 0)) (t := decide (y.num < 0)) (a := x.num.natAbs) (b := y.num.natAbs) (d1 := x.den) (d2 := y.den) x.den_nz y.den_nz hy
  rw [hx, hyq] at hd
  rw [hd]
  have l1 := len_mul x.num.natAbs y.den
  have l2 := len_mul x.den y.num.natAbs
  have a1 := sz_num x
  have a2 := sz_den x
  have a3 := sz_num y
  have a4 := sz_den y
  exact sz_fr (Nat.mul_ne_zero x.den_nz hy) (by omega) (by omega)
structure Few (h : HM) (w : List Int) : Prop where
 st : h.st ≤ 4
 len : w.length ≤ 6
structure FwdSz (h : HM) (w : List Int) : Prop where
 empty : sz h.empty ≤ 68719476736
 ini : ∀ i, sz (h.ini.getD i 0) ≤ 68719476736
 em : ∀ i x, sz (emQ h i x) ≤ 68719476736
 tr : ∀ i j, sz (trQ h i j) ≤ 68719476736
 stop : ∀ i, sz (h.stop.getD i 0) ≤ 68719476736
 fwd : ∀ t, t < w.length → ∀ i, sz ((fwdF h w t).getD i 0) ≤ 68719476736
 pre : ∀ t j n, t < w.length → n ≤ h.st → sz (preF h w (fwdF h w t) t j n) ≤ 68719476736
 preM : ∀ t i j, t < w.length → sz ((fwdF h w t).getD i 0 * trQ h i j) ≤ 68719476736
 lik : ∀ t n, t < w.length → n ≤ h.st → sz (likN h (fwdF h w t) n) ≤ 68719476736
 likM : ∀ t i, t < w.length → sz ((fwdF h w t).getD i 0 * h.stop.getD i 0) ≤ 68719476736
theorem postF_get {h : HM} {w : List Int} {t i : Nat} (hi : i < h.st) : (postF h w t).getD i 0 = postQ h w t i := map_getD_range _ _ hi
theorem fill_row {l : List Rat} {n : Nat} (h : l.length = n) : fillF 0 (fun j => l.getD j 0) n n = l := by
 rw [fillF_all]
 refine list_eq_getD (by rw [h]; simp) 0 fun i hi => ?_
 rw [List.length_map, List.length_range] at hi
 exact map_getD_range _ _ hi
def rowsD (h : HM) (w : List Int) (n : Nat) : List (List D) := (List.range n).map fun i => (fwdF h w i).map dQ
theorem rowsD_succ (h : HM) (w : List Int) (n : Nat) : rowsD h w (n + 1) = rowsD h w n ++ [(fwdF h w n).map dQ] := by unfold rowsD; rw [List.range_succ, List.map_append]; rfl
theorem rowsD_len (h : HM) (w : List Int) (n : Nat) : (rowsD h w n).length = n := by simp [rowsD]
theorem rowsD_get {h : HM} {w : List Int} {n i : Nat} (hi : i < n) : (rowsD h w n)[i]? = some ((fwdF h w i).map dQ) := by
 unfold rowsD
 rw [List.getElem?_map, List.getElem?_range hi]; rfl
theorem snd_get {α β : Type} {rs : List (α × β)} {l : List β} (h : rs.map Prod.snd = l) {i : Nat} {x : β} (hx : l[i]? = some x) : ∃ b, rs[i]? = some (b, x) := by
 rw [← h, List.getElem?_map] at hx
 cases hq : rs[i]? with
 | none => rw [hq] at hx; cases hx
 | some q => rw [hq] at hx; cases hx; exact ⟨q.1, rfl⟩
theorem snd_len {α β : Type} {rs : List (α × β)} {l : List β} (h : rs.map Prod.snd = l) : rs.length = l.length := by rw [← h]; simp
theorem set_same {α : Type} {l : List α} {i : Nat} {x : α} (h : l[i]? = some x) : l.set i x = l := by
 have hi : i < l.length := (List.getElem?_eq_some_iff.1 h).1
 refine List.ext_getElem? fun k => ?_
 by_cases e : i = k
 ·subst e; rw [List.getElem?_set_self hi, h]
 ·rw [List.getElem?_set_ne e]
def colsB (h : HM) (w : List Int) (d : Nat) : List (List Rat) := (List.range w.length).map fun j => if w.length ≤ j + d then bwdF h w (w.length - 1 - j) else []
theorem colsB_len (h : HM) (w : List Int) (d : Nat) : (colsB h w d).length = w.length := by simp [colsB]
theorem colsB_zero (h : HM) (w : List Int) : colsB h w 0 = List.replicate w.length [] := by
 refine List.ext_getElem (by simp [colsB]) fun k h1 h2 => ?_
 have hk : k < w.length := by simpa [colsB] using h1
 simp only [colsB, List.getElem_map, List.getElem_range, List.getElem_replicate]
 rw [if_neg (by omega)]
theorem colsB_set {h : HM} {w : List Int} {d a : Nat} (hd : d < w.length) (ha : a = w.length - 1 - d) : (colsB h w d).set a (bwdF h w d) = colsB h w (d + 1) := by
 refine List.ext_getElem (by simp [colsB]) fun k h1 h2 => ?_
 have hk : k < w.length := by simpa [colsB] using h2
 rw [List.getElem_set]
 simp only [colsB, List.getElem_map, List.getElem_range]
 by_cases hq : a = k
 ·rw [if_pos hq, if_pos (by omega), show w.length - 1 - k = d by omega]
 ·rw [if_neg hq]
  by_cases h3 : w.length ≤ k + d
  ·rw [if_pos h3, if_pos (by omega)]
  ·rw [if_neg h3, if_neg (by omega)]
theorem colsB_get {h : HM} {w : List Int} {d j : Nat} (hj : j < w.length) (hd : w.length ≤ j + d) : (colsB h w d).getD j [] = bwdF h w (w.length - 1 - j) := by
 unfold colsB
 rw [map_getD_range _ _ hj, if_pos hd]
theorem fwd_zero {h : HM} {w : List Int} {j : Nat} (hj : j < h.st) : (fwdF h w 0).getD j 0 = h.ini.getD j 0 * emQ h j (symX w 0) := map_getD_range _ _ hj
theorem fwd_pos {h : HM} {w : List Int} {t j : Nat} (ht : 0 < t) (hj : j < h.st) : (fwdF h w t).getD j 0 = preF h w (fwdF h w (t - 1)) (t - 1) j h.st * emQ h j (symX w t) := by
 obtain ⟨u, rfl⟩ : ∃ u, t = u + 1 := ⟨t - 1, by omega⟩
 exact map_getD_range _ _ hj
theorem bwd_zero {h : HM} {w : List Int} {i : Nat} (hi : i < h.st) : (bwdF h w 0).getD i 0 = h.stop.getD i 0 := map_getD_range _ _ hi
theorem bwd_pos {h : HM} {w : List Int} {d a i : Nat} (hd : 0 < d) (ha : a = w.length - 1 - d) (hi : i < h.st) : (bwdF h w d).getD i 0 = sufF h w (bwdF h w (d - 1)) a i h.st := by
 obtain ⟨u, rfl⟩ : ∃ u, d = u + 1 := ⟨d - 1, by omega⟩
 subst ha
 exact map_getD_range _ _ hi
theorem fill_at {α : Type} {d : α} {g : Nat → α} {n i : Nat} (hi : i < n) : (fillF d g n i).getD i d = d := by
 unfold fillF
 rw [map_getD_range _ _ hi, if_neg (by omega)]
theorem fill_set_self {g : Nat → Rat} {n i : Nat} (hi : i < n) : (fillF 0 g n i).set i 0 = fillF 0 g n i := by
 refine List.ext_getElem (by simp) fun k h1 h2 => ?_
 rw [List.getElem_set]
 split
 ·rename_i e
  subst e
  have := fill_at (d := (0 : Rat)) (g := g) hi
  rw [getD_lt h2] at this
  exact this.symm
 ·rfl
def postR (h : HM) (w : List Int) : List (List Rat) := if likF h w = 0 then [] else (List.range w.length).map (postF h w)
def postE (h : HM) (w : List Int) : Int := if likF h w = 0 then 11 else 0
def postD (h : HM) (w : List Int) (t : Nat) : List (List D) := (List.range w.length).map fun i => (if i < t then postF h w i else fwdF h w i).map dQ
def mixR (h : HM) (w : List Int) (t i : Nat) : List Rat := (List.range h.st).map fun j => if j < i then postQ h w t j else (fwdF h w t).getD j 0
theorem postD_zero (h : HM) (w : List Int) : postD h w 0 = rowsD h w w.length := List.map_congr_left fun i _ => by rw [if_neg (by omega)]
theorem postD_get {h : HM} {w : List Int} {t : Nat} (ht : t < w.length) : (postD h w t)[t]? = some ((fwdF h w t).map dQ) := by
 unfold postD
 rw [List.getElem?_map, List.getElem?_range ht, Option.map_some, if_neg (by omega)]
theorem postD_len (h : HM) (w : List Int) (t : Nat) : (postD h w t).length = w.length := by simp [postD]
theorem postD_set {h : HM} {w : List Int} {t : Nat} (ht : t < w.length) : (postD h w t).set t ((postF h w t).map dQ) = postD h w (t + 1) := by
 refine List.ext_getElem (by simp [postD]) fun k h1 h2 => ?_
 rw [List.getElem_set]
 simp only [postD, List.getElem_map, List.getElem_range]
 by_cases e : t = k
 ·subst e; rw [if_pos rfl, if_pos (by omega)]
 ·rw [if_neg e]
  by_cases h3 : k < t
  ·rw [if_pos h3, if_pos (by omega)]
  ·rw [if_neg h3, if_neg (by omega)]
theorem postD_all (h : HM) (w : List Int) : (postD h w w.length).map D.sl = ((List.range w.length).map (postF h w)).map dQs := by
 unfold postD
 rw [List.map_map, List.map_map]
 refine List.map_congr_left fun i hi => ?_
 have := List.mem_range.1 hi
 show D.sl ((if i < w.length then postF h w i else fwdF h w i).map dQ) = dQs (postF h w i)
 rw [if_pos this]
theorem mixR_len (h : HM) (w : List Int) (t i : Nat) : (mixR h w t i).length = h.st := by simp [mixR]
theorem mixR_zero (h : HM) (w : List Int) (t : Nat) : mixR h w t 0 = fwdF h w t := by
 refine list_eq_getD (by rw [mixR_len, fwdF_len]) 0 fun i hi => ?_
 rw [mixR_len] at hi
 unfold mixR
 rw [map_getD_range _ _ hi, if_neg (by omega)]
theorem mixR_get {h : HM} {w : List Int} {t i : Nat} (hi : i < h.st) : (mixR h w t i).getD i 0 = (fwdF h w t).getD i 0 := by
 unfold mixR
 rw [map_getD_range _ _ hi, if_neg (by omega)]
theorem mixR_set {h : HM} {w : List Int} {t i : Nat} (hi : i < h.st) : (mixR h w t i).set i (postQ h w t i) = mixR h w t (i + 1) := by
 refine List.ext_getElem (by simp [mixR]) fun k h1 h2 => ?_
 rw [List.getElem_set]
 simp only [mixR, List.getElem_map, List.getElem_range]
 by_cases e : i = k
 ·subst e; rw [if_pos rfl, if_pos (by omega)]
 ·rw [if_neg e]
  by_cases h3 : k < i
  ·rw [if_pos h3, if_pos (by omega)]
  ·rw [if_neg h3, if_neg (by omega)]
theorem mixR_all (h : HM) (w : List Int) (t : Nat) : mixR h w t h.st = postF h w t := by
 unfold mixR postF
 refine List.map_congr_left fun j hj => ?_
 rw [if_pos (List.mem_range.1 hj)]
end Go.AL

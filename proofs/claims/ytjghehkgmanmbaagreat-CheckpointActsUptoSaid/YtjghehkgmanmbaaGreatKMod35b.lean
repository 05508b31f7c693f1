/-
  M, chapter 35, part 2: what Best and Within hand back; sets of states as numbers.
-/
import Derived.Test.YtjghehkgmanmbaaGreatKMod40e
import Derived.Test.YtjghehkgmanmbaaGreatKMod40c
set_option linter.unusedVariables false
set_option linter.unusedSimpArgs false
namespace Go.AL
open Go Go.BigFrame
def sumN (f : Nat → Rat) : Nat → Rat
 | 0 => 0
 | n + 1 => sumN f n + f n
def trQ (h : HM) (i j : Nat) : Rat := (h.trans.getD i []).getD j 0
def emQ (h : HM) (i x : Nat) : Rat := (h.emit.getD i []).getD x 0
def preF (h : HM) (w : List Int) (prev : List Rat) (t j : Nat) : Nat → Rat := sumN fun i => prev.getD i 0 * trQ h i j
def fwdF (h : HM) (w : List Int) : Nat → List Rat
 | 0 => (List.range h.st).map fun j => h.ini.getD j 0 * emQ h j (symX w 0)
 | t + 1 => (List.range h.st).map fun j => preF h w (fwdF h w t) t j h.st * emQ h j (symX w (t + 1))
def sufF (h : HM) (w : List Int) (next : List Rat) (t i : Nat) : Nat → Rat := sumN fun j => trQ h i j * (emQ h j (symX w (t + 1)) * next.getD j 0)
def bwdF (h : HM) (w : List Int) : Nat → List Rat
 | 0 => (List.range h.st).map fun i => h.stop.getD i 0
 | d + 1 => (List.range h.st).map fun i => sufF h w (bwdF h w d) (w.length - 1 - (d + 1)) i h.st
def likN (h : HM) (row : List Rat) : Nat → Rat := sumN fun i => row.getD i 0 * h.stop.getD i 0
def likF (h : HM) (w : List Int) : Rat := if w.length = 0 then h.empty else likN h (fwdF h w (w.length - 1)) h.st
def postQ (h : HM) (w : List Int) (t i : Nat) : Rat := (fwdF h w t).getD i 0 * (bwdF h w (w.length - 1 - t)).getD i 0 / likF h w
def postF (h : HM) (w : List Int) (t : Nat) : List Rat := (List.range h.st).map fun i => postQ h w t i
structure Few (h : HM) (w : List Int) : Prop where
 st : h.st ≤ 4
 len : w.length ≤ 6
structure FwdSz (h : HM) (w : List Int) : Prop where
 empty : sz h.empty ≤ 68719476736
 ini : ∀ i, sz (h.ini.getD i 0) ≤ 68719476736
 em : ∀ i x, sz (emQ h i x) ≤ 68719476736
 tr : ∀ i j, sz (trQ h i j) ≤ 68719476736
 stop : ∀ i, sz (h.stop.getD i 0) ≤ 68719476736
 fwd : ∀ t, t < w.length → ∀ i, sz ((fwdF h w t).getD i 0) ≤ 68719476736
 pre : ∀ t j n, t < w.length → n ≤ h.st → sz (preF h w (fwdF h w t) t j n) ≤ 68719476736
 preM : ∀ t i j, t < w.length → sz ((fwdF h w t).getD i 0 * trQ h i j) ≤ 68719476736
 lik : ∀ t n, t < w.length → n ≤ h.st → sz (likN h (fwdF h w t) n) ≤ 68719476736
 likM : ∀ t i, t < w.length → sz ((fwdF h w t).getD i 0 * h.stop.getD i 0) ≤ 68719476736
def postR (h : HM) (w : List Int) : List (List Rat) := if likF h w = 0 then [] else (List.range w.length).map (postF h w)
end Go.AL

set_option linter.unusedVariables false
set_option linter.unusedSimpArgs false
namespace Go.AL
open Go Go.BigFrame
def xiQ (h : HM) (w : List Int) (t i j : Nat) : Rat := (fwdF h w t).getD i 0 * trQ h i j * (emQ h j (symX w (t + 1)) * (bwdF h w (w.length - 1 - (t + 1))).getD j 0) / likF h w
def showQ (h : HM) (w : List Int) (n i x : Nat) : Rat := sumN (fun t => if symX w t = x then postQ h w t i else 0) n
def moveQ (h : HM) (w : List Int) (n i j : Nat) : Rat := sumN (fun t => xiQ h w t i j) n
def showRow (h : HM) (w : List Int) (n i : Nat) : List Rat := (List.range h.sym).map fun x => showQ h w n i x
def moveRow (h : HM) (w : List Int) (n i : Nat) : List Rat := (List.range h.st).map fun j => moveQ h w n i j
def exS (h : HM) (w : List Int) : List Rat := if likF h w = 0 then [] else if w.length = 0 then List.replicate h.st 0 else postF h w 0
def exE (h : HM) (w : List Int) : List Rat := if likF h w = 0 then [] else if w.length = 0 then List.replicate h.st 0 else postF h w (w.length - 1)
def exM (h : HM) (w : List Int) : List (List Rat) := if likF h w = 0 then [] else (List.range h.st).map fun i => moveRow h w (w.length - 1) i
def exO (h : HM) (w : List Int) : List (List Rat) := if likF h w = 0 then [] else (List.range h.st).map fun i => showRow h w w.length i
end Go.AL

set_option linter.unusedVariables false
set_option linter.unusedSimpArgs false
namespace Go.AL
open Go Go.BigFrame
def sumL (l : List Rat) : Rat := sumN (fun i => l.getD i 0) l.length
structure Fit (h : HM) (w : List Int) : Prop where
 row : ∀ t, t < w.length → sumL (postF h w t) = 1
 show_ : ∀ i, sumL (showRow h w w.length i) = sumN (fun t => postQ h w t i) w.length
 out : ∀ i, i < h.st → sumL (moveRow h w (w.length - 1) i) + postQ h w (w.length - 1) i = sumN (fun t => postQ h w t i) w.length
 into : ∀ i, i < h.st → postQ h w 0 i + sumN (fun j => moveQ h w (w.length - 1) j i) h.st = sumN (fun t => postQ h w t i) w.length
structure Got (h : HM) (w : List Int) : Prop where
 pl : (postR h w).length = w.length
 pg : ∀ t, t < w.length → (postR h w).getD t [] = postF h w t
 sS : exS h w = postF h w 0
 sE : exE h w = postF h w (w.length - 1)
 lM : (exM h w).length = h.st
 lO : (exO h w).length = h.st
 gM : ∀ i, i < h.st → (exM h w).getD i [] = moveRow h w (w.length - 1) i
 gO : ∀ i, i < h.st → (exO h w).getD i [] = showRow h w w.length i
end Go.AL

set_option linter.unusedVariables false
set_option linter.unusedSimpArgs false
namespace Go.AL
open Go Go.BigFrame
def pathsF (n : Nat) : Nat → List (List Int)
 | 0 => [[]]
 | k + 1 => (pathsF n k).flatMap fun p => (List.range n).map fun (s : Nat) => p ++ [(s : Int)]
theorem pathsF_mem {n : Nat} : ∀ {k : Nat} {p : List Int}, p ∈ pathsF n k → p.length = k ∧ ∀ x, x ∈ p → 0 ≤ x ∧ x < (n : Int)
 | 0, p, h => by
  rw [pathsF, List.mem_singleton] at h
  subst h
  exact ⟨rfl, fun x hx => by simp at hx⟩
 | k + 1, p, h => by
  rw [pathsF, List.mem_flatMap] at h
  obtain ⟨q, hq, hp⟩ := h
  obtain ⟨s, hs, rfl⟩ := List.mem_map.1 hp
  have h1 := pathsF_mem hq
  have hs := List.mem_range.1 hs
  refine ⟨by rw [List.length_append, h1.1]; rfl, fun x hx => ?_⟩
  rcases List.mem_append.1 hx with hx | hx
  ·exact h1.2 x hx
  ·rw [List.mem_singleton.1 hx]; omega
def atP (p : List Int) (t : Nat) : Nat := (p.getD t 0).toNat
theorem atP_lt {n k t : Nat} {p : List Int} (h : p ∈ pathsF n k) (ht : t < k) : atP p t < n ∧ p.getD t 0 = (atP p t : Int) := by
 obtain ⟨h1, h2⟩ := pathsF_mem h
 have := h2 (p.getD t 0) (getD_mem (by omega) 0)
 unfold atP
 omega
theorem atP_snoc {p : List Int} {s t : Nat} (ht : t < p.length) : atP (p ++ [(s : Int)]) t = atP p t := by unfold atP; rw [getD_snoc_lt ht]
theorem atP_last {p : List Int} {s t : Nat} (ht : t = p.length) : atP (p ++ [(s : Int)]) t = s := by unfold atP; rw [getD_snoc_eq ht]; exact Int.toNat_natCast s
def wgt (h : HM) (w : List Int) (p : List Int) : Nat → Rat
 | 0 => h.ini.getD (atP p 0) 0
 | t + 1 => (if t = 0 then wgt h w p t else wgt h w p t * trQ h (atP p (t - 1)) (atP p t)) * emQ h (atP p t) (symX w t)
theorem wgt_snoc {h : HM} {w p : List Int} {s : Nat} : ∀ {t : Nat}, t + 1 ≤ p.length → wgt h w (p ++ [(s : Int)]) (t + 1) = wgt h w p (t + 1)
 | 0, ht => by
  rw [wgt, wgt, if_pos rfl, wgt, if_pos rfl, wgt, atP_snoc (show 0 < p.length by omega)]
 | t + 1, ht => by
  rw [wgt, if_neg (by omega), wgt_snoc (by omega), atP_snoc (show t + 1 < p.length by omega), show t + 1 - 1 = t from rfl, atP_snoc (show t < p.length by omega)]
  conv => rhs; rw [wgt, if_neg (by omega)]
  rfl
end Go.AL

set_option linter.unusedVariables false
set_option linter.unusedSimpArgs false
namespace Go.AL
open Go Go.BigFrame
def pairHM : HM := ⟨2, 2, 0, [1 / 2, 1 / 2], [[0, 1 / 2], [0, 0]], [1 / 2, 1], [[1, 0], [0, 1]], [false, false], [0, 1]⟩
theorem pair_best : bestP pairHM [1, 2] ≠ 0 ∧ pathF pairHM [1, 2] 2 = [0, 1] := by decide +kernel
theorem pair_word : WordOK pairHM [1, 2] := ⟨by decide, by decide⟩
theorem getD_two {α : Type} {P : α → Prop} {a b d : α} (ha : P a) (hb : P b) (hd : P d) (i : Nat) : P ([a, b].getD i d) := by
 match i with
 | 0 => exact ha
 | 1 => exact hb
 | i + 2 => exact hd
theorem two_cases {i : Nat} (h : i < 2) : i = 0 ∨ i = 1 := by omega
theorem small2 {a b : Rat} (ha : sz a ≤ 1) (hb : sz b ≤ 1) : Small 1 [a, b] := Small.cons ha (Small.one hb)
theorem shares2 {a b : Rat} (ha : Share a) (hb : Share b) : Shares [a, b] := fun q hq => by
 rcases List.mem_cons.1 hq with rfl | hq
 ·exact ha
 ·rw [List.mem_singleton.1 hq]; exact hb
theorem pair_good : pairHM.Good 1 := by
 have z0 : sz 0 ≤ 1 := by rw [sz_zero]; decide
 have z1 : sz 1 ≤ 1 := by rw [sz_one]; decide
 have zh : sz (1 / 2) ≤ 1 := half_sz
 have p0 : Share 0 := by decide +kernel
 have p1 : Share 1 := by decide +kernel
 have ph : Share (1 / 2) := by decide +kernel
 have st : pairHM.st = 2 := rfl
 refine ⟨⟨by decide, by decide, by decide, by decide, rfl, rfl, fun i hi => ?_, rfl, rfl, fun i hi => ?_, rfl, rfl, fun i hi => ?_, by decide, by decide, z0, small2 zh zh, small2 zh z1, fun i => ?_, fun i => ?_⟩,
  p0, shares2 ph ph, shares2 ph p1, fun i => ?_, fun i => ?_, by decide +kernel, fun i hi => ?_, fun i hi => ?_, fun i j hi hj he => ?_⟩
 ·rcases two_cases hi with rfl | rfl <;> rfl
 ·rcases two_cases hi with rfl | rfl <;> rfl
 ·rcases two_cases hi with rfl | rfl <;> decide
 ·exact getD_two (small2 z0 zh) (small2 z0 z0) Small.nil i
 ·exact getD_two (small2 z1 z0) (small2 z0 z1) Small.nil i
 ·exact getD_two (P := Shares) (shares2 p0 ph) (shares2 p0 p0) (fun q hq => by simp at hq) i
 ·exact getD_two (P := Shares) (shares2 p1 p0) (shares2 p0 p1) (fun q hq => by simp at hq) i
 ·rcases two_cases hi with rfl | rfl <;> decide +kernel
 ·rcases two_cases hi with rfl | rfl <;> decide +kernel
 ·rcases two_cases hi with rfl | rfl
  ·omega
  ·obtain rfl : j = 0 := by omega
   exact absurd he (by decide)
end Go.AL

set_option linter.unusedVariables false
set_option linter.unusedSimpArgs false
namespace Go.AL
open Go Go.BigFrame
def rowG (h : HM) (p : Nat → Bool) (g : Nat → Rat) : List Rat := (List.range h.st).map fun i => if p i = true then g i else 0
def restG (h : HM) (w : List Int) (p : Nat → Nat → Bool) : Nat → List Rat
 | 0 => rowG h (p (w.length - 1)) fun i => h.stop.getD i 0
 | d + 1 => rowG h (p (w.length - 1 - (d + 1))) fun i => (aheadF h (i : Nat) (symX w (w.length - 1 - d)) (restG h w p d) h.st).1
def ahdG (h : HM) (w : List Int) (p : Nat → Nat → Bool) (fr : Int) (t : Nat) : Rat × Nat := aheadF h fr (symX w t) (restG h w p (w.length - 1 - t)) h.st
def toG (h : HM) (w : List Int) (p : Nat → Nat → Bool) : Nat → Int
 | 0 => -1
 | t + 1 => ((ahdG h w p (toG h w p t) t).2 : Nat)
def pathG (h : HM) (w : List Int) (p : Nat → Nat → Bool) (t : Nat) : List Int := (List.range t).map fun i => toG h w p (i + 1)
def bestG (h : HM) (w : List Int) (p : Nat → Nat → Bool) : Rat := (ahdG h w p (-1) 0).1
def every : Nat → Nat → Bool := fun _ _ => true
theorem rowG_get {h : HM} {p : Nat → Bool} {g : Nat → Rat} {i : Nat} (hi : i < h.st) : (rowG h p g).getD i 0 = if p i = true then g i else 0 := map_getD_range _ _ hi
theorem rowG_len (h : HM) (p : Nat → Bool) (g : Nat → Rat) : (rowG h p g).length = h.st := by simp [rowG]
theorem restG_len (h : HM) (w : List Int) (p : Nat → Nat → Bool) : ∀ d, (restG h w p d).length = h.st
 | 0 => rowG_len ..
 | d + 1 => rowG_len ..
theorem rowG_out {h : HM} {p : Nat → Bool} {g : Nat → Rat} {i : Nat} (hi : ¬ i < h.st) : (rowG h p g).getD i 0 = 0 := getD_ge (by rw [rowG_len]; omega)
theorem rowG_nonneg {h : HM} {p : Nat → Bool} {g : Nat → Rat} (hg : ∀ i, i < h.st → 0 ≤ g i) (i : Nat) : 0 ≤ (rowG h p g).getD i 0 := by
 by_cases hi : i < h.st
 ·rw [rowG_get hi]
  split
  ·exact hg i hi
  ·exact Rat.le_refl
 ·rw [rowG_out hi]; exact Rat.le_refl
theorem pathG_succ (h : HM) (w : List Int) (p : Nat → Nat → Bool) (t : Nat) : pathG h w p (t + 1) = pathG h w p t ++ [toG h w p (t + 1)] := by unfold pathG; rw [List.range_succ, List.map_append]; rfl
theorem pathG_get {h : HM} {w : List Int} {p : Nat → Nat → Bool} {t n : Nat} (ht : t < n) : (pathG h w p n).getD t 0 = toG h w p (t + 1) := map_getD_range _ _ ht
structure AhdSpec (h : HM) (fr : Int) (x : Nat) (rest : List Rat) (n : Nat) (r : Rat × Nat) : Prop where
 nonneg : 0 ≤ r.1
 le : ∀ i, i < n → viaQ h fr x rest i ≤ r.1
 zero : r.1 = 0 → r.2 = 0
 lt : 0 < r.1 → r.2 < n
 eq : 0 < r.1 → viaQ h fr x rest r.2 = r.1
 least : 0 < r.1 → ∀ i, i < r.2 → viaQ h fr x rest i < r.1
theorem ahead_spec (h : HM) (fr : Int) (x : Nat) (rest : List Rat) : ∀ n, AhdSpec h fr x rest n (aheadF h fr x rest n)
 | 0 => ⟨Rat.le_refl, fun i hi => absurd hi (Nat.not_lt_zero i), fun _ => rfl, fun hp => absurd hp (by show ¬ (0 : Rat) < 0; decide), fun hp => absurd hp (by show ¬ (0 : Rat) < 0; decide), fun hp => absurd hp (by show ¬ (0 : Rat) < 0; decide)⟩
 | n + 1 => by
  have ih := ahead_spec h fr x rest n
  rw [aheadF]
  split
  ·rename_i hlt
   have h0 := ih.nonneg
   have hpos : 0 < viaQ h fr x rest n := Std.lt_of_le_of_lt h0 hlt
   refine ⟨Rat.le_of_lt hpos, fun i hi => ?_, fun e => ?_, fun _ => Nat.lt_succ_self n, fun _ => rfl, fun _ i hi => ?_⟩
   ·rcases Nat.lt_or_ge i n with h1 | h1
    ·exact Rat.le_trans (ih.le i h1) (Rat.le_of_lt hlt)
    ·obtain rfl : i = n := by omega
     exact Rat.le_refl
   ·simp only at e
    rw [e] at hpos
    exact absurd hpos (by decide)
   ·exact Std.lt_of_le_of_lt (ih.le i hi) hlt
  ·rename_i hlt
   refine ⟨ih.nonneg, fun i hi => ?_, ih.zero, fun hp => Nat.lt_succ_of_lt (ih.lt hp), ih.eq, ih.least⟩
   rcases Nat.lt_or_ge i n with h1 | h1
   ·exact ih.le i h1
   ·obtain rfl : i = n := by omega
    exact Rat.not_lt.1 hlt
theorem stop_nonneg {h : HM} {bb B : Nat} (g : HM.GoodX bb B h) (i : Nat) : 0 ≤ h.stop.getD i 0 := (g.pS.get i).1
theorem restG_nonneg {h : HM} {bb B : Nat} (g : HM.GoodX bb B h) (w : List Int) (p : Nat → Nat → Bool) (d i : Nat) : 0 ≤ (restG h w p d).getD i 0 := by
 cases d with
 | zero => exact rowG_nonneg (fun i _ => stop_nonneg g i) i
 | succ d => exact rowG_nonneg (fun i _ => (ahead_spec ..).nonneg) i
theorem restG_every {h : HM} {bb B : Nat} (f : HM.FormX bb B h) (w : List Int) : ∀ d, restG h w every d = restF h w d
 | 0 => by
  refine list_eq_getD (by rw [restG_len]; exact f.stop.symm) 0 fun i hi => ?_
  rw [restG_len] at hi
  rw [restG, rowG_get hi]; exact if_pos rfl
 | d + 1 => by
  refine list_eq_getD (by rw [restG_len, restF_len f]) 0 fun i hi => ?_
  rw [restG_len] at hi
  rw [restG, rowG_get hi, restF, beforeF, map_getD_range _ _ hi, restG_every f w d]; exact if_pos rfl
theorem ahdG_every {h : HM} {bb B : Nat} (f : HM.FormX bb B h) (w : List Int) (fr : Int) (t : Nat) : ahdG h w every fr t = ahd h w fr t := by rw [ahdG, ahd, restG_every f]
theorem toG_every {h : HM} {bb B : Nat} (f : HM.FormX bb B h) (w : List Int) : ∀ t, toG h w every t = toF h w t
 | 0 => rfl
 | t + 1 => by rw [toG, toF, toG_every f w t, ahdG_every f]
theorem pathG_every {h : HM} {bb B : Nat} (f : HM.FormX bb B h) (w : List Int) (t : Nat) : pathG h w every t = pathF h w t := List.map_congr_left fun i _ => toG_every f w (i + 1)
theorem bestG_every {h : HM} {bb B : Nat} (f : HM.FormX bb B h) (w : List Int) : bestG h w every = bestP h w := by rw [bestG, bestP, ahdG_every f]
theorem toG_range {h : HM} (h0 : 1 ≤ h.st) (w : List Int) (p : Nat → Nat → Bool) : ∀ t, -1 ≤ toG h w p t ∧ toG h w p t < h.st
 | 0 => ⟨by show (-1 : Int) ≤ -1; omega, by show (-1 : Int) < _; omega⟩
 | t + 1 => by
  have := aheadF_lt h (toG h w p t) (symX w t) (restG h w p (w.length - 1 - t)) h0 h.st (Nat.le_refl _)
  rw [toG, ahdG]; omega
theorem toG_nonneg (h : HM) (w : List Int) (p : Nat → Nat → Bool) (t : Nat) : 0 ≤ toG h w p (t + 1) := by rw [toG]; omega
theorem bestG_nonneg (h : HM) (w : List Int) (p : Nat → Nat → Bool) : 0 ≤ bestG h w p := (ahead_spec ..).nonneg
end Go.AL

set_option linter.unusedVariables false
set_option linter.unusedSimpArgs false
namespace Go.AL
open Go Go.BigFrame
def bestR (h : HM) (w : List Int) (p : Nat → Nat → Bool) : Rat := if w.length = 0 then h.empty else bestG h w p
def vitP (h : HM) (w : List Int) (p : Nat → Nat → Bool) : List Int := if w.length = 0 ∨ bestG h w p = 0 then [] else pathG h w p w.length
def vitE (h : HM) (w : List Int) (p : Nat → Nat → Bool) : Int := if bestR h w p = 0 then 11 else 0
def setF (sets : List Int) (t : Nat) : Nat := if t < sets.length then (within (sets.getD t 0) 8).toNat else 7
def bitS (x s : Nat) : Bool := decide (x / 2 ^ s % 2 = 1)
def rowA (x n : Nat) : List Int := ((List.range n).filter fun s => bitS x s).map fun s : Nat => (s : Int)
def FitsA (h : HM) (w sets : List Int) (n : Nat) : Prop := vitE h w every = 0 ∧ ∀ t, t < n → bitS (setF sets t) ((vitP h w every).getD t 0).toNat = true
instance (h : HM) (w sets : List Int) (n : Nat) : Decidable (FitsA h w sets n) := inferInstanceAs (Decidable (_ ∧ _))
end Go.AL

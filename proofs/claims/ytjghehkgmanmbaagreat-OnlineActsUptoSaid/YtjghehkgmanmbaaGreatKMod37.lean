/-
  M, chapter 37: the order of paths; the best path of chapter 35 is the greatest and the least.
-/
import Derived.Test.YtjghehkgmanmbaaGreatKMod34c
import Derived.Test.YtjghehkgmanmbaaGreatKMod40e
set_option linter.unusedVariables false
set_option linter.unusedSimpArgs false
namespace Go.AL
open Go Go.BigFrame
def pathsF (n : Nat) : Nat → List (List Int)
 | 0 => [[]]
 | k + 1 => (pathsF n k).flatMap fun p => (List.range n).map fun (s : Nat) => p ++ [(s : Int)]
theorem pathsF_mem {n : Nat} : ∀ {k : Nat} {p : List Int}, p ∈ pathsF n k → p.length = k ∧ ∀ x, x ∈ p → 0 ≤ x ∧ x < (n : Int)
 | 0, p, h => by
  rw [pathsF, List.mem_singleton] at h
  subst h
  exact ⟨rfl, fun x hx => by simp at hx⟩
 | k + 1, p, h => by
  rw [pathsF, List.mem_flatMap] at h
  obtain ⟨q, hq, hp⟩ := h
  obtain ⟨s, hs, rfl⟩ := List.mem_map.1 hp
  have h1 := pathsF_mem hq
  have hs := List.mem_range.1 hs
  refine ⟨by rw [List.length_append, h1.1]; rfl, fun x hx => ?_⟩
  rcases List.mem_append.1 hx with hx | hx
  ·exact h1.2 x hx
  ·rw [List.mem_singleton.1 hx]; omega
def atP (p : List Int) (t : Nat) : Nat := (p.getD t 0).toNat
theorem atP_lt {n k t : Nat} {p : List Int} (h : p ∈ pathsF n k) (ht : t < k) : atP p t < n ∧ p.getD t 0 = (atP p t : Int) := by
 obtain ⟨h1, h2⟩ := pathsF_mem h
 have := h2 (p.getD t 0) (getD_mem (by omega) 0)
 unfold atP
 omega
theorem atP_last {p : List Int} {s t : Nat} (ht : t = p.length) : atP (p ++ [(s : Int)]) t = s := by unfold atP; rw [getD_snoc_eq ht]; exact Int.toNat_natCast s
def wgt (h : HM) (w : List Int) (p : List Int) : Nat → Rat
 | 0 => h.ini.getD (atP p 0) 0
 | t + 1 => (if t = 0 then wgt h w p t else wgt h w p t * trQ h (atP p (t - 1)) (atP p t)) * emQ h (atP p t) (symX w t)
end Go.AL

set_option linter.unusedVariables false
set_option linter.unusedSimpArgs false
namespace Go.AL
open Go Go.BigFrame
def pairHM : HM := ⟨2, 2, 0, [1 / 2, 1 / 2], [[0, 1 / 2], [0, 0]], [1 / 2, 1], [[1, 0], [0, 1]], [false, false], [0, 1]⟩
theorem getD_two {α : Type} {P : α → Prop} {a b d : α} (ha : P a) (hb : P b) (hd : P d) (i : Nat) : P ([a, b].getD i d) := by
 match i with
 | 0 => exact ha
 | 1 => exact hb
 | i + 2 => exact hd
theorem two_cases {i : Nat} (h : i < 2) : i = 0 ∨ i = 1 := by omega
theorem small2 {a b : Rat} (ha : sz a ≤ 1) (hb : sz b ≤ 1) : Small 1 [a, b] := Small.cons ha (Small.one hb)
theorem shares2 {a b : Rat} (ha : Share a) (hb : Share b) : Shares [a, b] := fun q hq => by
 rcases List.mem_cons.1 hq with rfl | hq
 ·exact ha
 ·rw [List.mem_singleton.1 hq]; exact hb
theorem pair_good : pairHM.Good 1 := by
 have z0 : sz 0 ≤ 1 := by rw [sz_zero]; decide
 have z1 : sz 1 ≤ 1 := by rw [sz_one]; decide
 have zh : sz (1 / 2) ≤ 1 := half_sz
 have p0 : Share 0 := by decide +kernel
 have p1 : Share 1 := by decide +kernel
 have ph : Share (1 / 2) := by decide +kernel
 have st : pairHM.st = 2 := rfl
 refine ⟨⟨by decide, by decide, by decide, by decide, rfl, rfl, fun i hi => ?_, rfl, rfl, fun i hi => ?_, rfl, rfl, fun i hi => ?_, by decide, by decide, z0, small2 zh zh, small2 zh z1, fun i => ?_, fun i => ?_⟩,
  p0, shares2 ph ph, shares2 ph p1, fun i => ?_, fun i => ?_, by decide +kernel, fun i hi => ?_, fun i hi => ?_, fun i j hi hj he => ?_⟩
 ·rcases two_cases hi with rfl | rfl <;> rfl
 ·rcases two_cases hi with rfl | rfl <;> rfl
 ·rcases two_cases hi with rfl | rfl <;> decide
 ·exact getD_two (small2 z0 zh) (small2 z0 z0) Small.nil i
 ·exact getD_two (small2 z1 z0) (small2 z0 z1) Small.nil i
 ·exact getD_two (P := Shares) (shares2 p0 ph) (shares2 p0 p0) (fun q hq => by simp at hq) i
 ·exact getD_two (P := Shares) (shares2 p1 p0) (shares2 p0 p1) (fun q hq => by simp at hq) i
 ·rcases two_cases hi with rfl | rfl <;> decide +kernel
 ·rcases two_cases hi with rfl | rfl <;> decide +kernel
 ·rcases two_cases hi with rfl | rfl
  ·omega
  ·obtain rfl : j = 0 := by omega
   exact absurd he (by decide)
end Go.AL

set_option linter.unusedVariables false
set_option linter.unusedSimpArgs false
namespace Go.AL
open Go Go.BigFrame
def rowG (h : HM) (p : Nat → Bool) (g : Nat → Rat) : List Rat := (List.range h.st).map fun i => if p i = true then g i else 0
def restG (h : HM) (w : List Int) (p : Nat → Nat → Bool) : Nat → List Rat
 | 0 => rowG h (p (w.length - 1)) fun i => h.stop.getD i 0
 | d + 1 => rowG h (p (w.length - 1 - (d + 1))) fun i => (aheadF h (i : Nat) (symX w (w.length - 1 - d)) (restG h w p d) h.st).1
def ahdG (h : HM) (w : List Int) (p : Nat → Nat → Bool) (fr : Int) (t : Nat) : Rat × Nat := aheadF h fr (symX w t) (restG h w p (w.length - 1 - t)) h.st
def toG (h : HM) (w : List Int) (p : Nat → Nat → Bool) : Nat → Int
 | 0 => -1
 | t + 1 => ((ahdG h w p (toG h w p t) t).2 : Nat)
def pathG (h : HM) (w : List Int) (p : Nat → Nat → Bool) (t : Nat) : List Int := (List.range t).map fun i => toG h w p (i + 1)
def bestG (h : HM) (w : List Int) (p : Nat → Nat → Bool) : Rat := (ahdG h w p (-1) 0).1
def every : Nat → Nat → Bool := fun _ _ => true
structure AhdSpec (h : HM) (fr : Int) (x : Nat) (rest : List Rat) (n : Nat) (r : Rat × Nat) : Prop where
 nonneg : 0 ≤ r.1
 le : ∀ i, i < n → viaQ h fr x rest i ≤ r.1
 zero : r.1 = 0 → r.2 = 0
 lt : 0 < r.1 → r.2 < n
 eq : 0 < r.1 → viaQ h fr x rest r.2 = r.1
 least : 0 < r.1 → ∀ i, i < r.2 → viaQ h fr x rest i < r.1
theorem stop_nonneg {h : HM} {bb B : Nat} (g : HM.GoodX bb B h) (i : Nat) : 0 ≤ h.stop.getD i 0 := (g.pS.get i).1
end Go.AL

set_option linter.unusedVariables false
set_option linter.unusedSimpArgs false
namespace Go.AL
open Go Go.BigFrame
def bestR (h : HM) (w : List Int) (p : Nat → Nat → Bool) : Rat := if w.length = 0 then h.empty else bestG h w p
def vitP (h : HM) (w : List Int) (p : Nat → Nat → Bool) : List Int := if w.length = 0 ∨ bestG h w p = 0 then [] else pathG h w p w.length
def vitE (h : HM) (w : List Int) (p : Nat → Nat → Bool) : Int := if bestR h w p = 0 then 11 else 0
def setF (sets : List Int) (t : Nat) : Nat := if t < sets.length then (within (sets.getD t 0) 8).toNat else 7
def bitS (x s : Nat) : Bool := decide (x / 2 ^ s % 2 = 1)
def rowA (x n : Nat) : List Int := ((List.range n).filter fun s => bitS x s).map fun s : Nat => (s : Int)
def FitsA (h : HM) (w sets : List Int) (n : Nat) : Prop := vitE h w every = 0 ∧ ∀ t, t < n → bitS (setF sets t) ((vitP h w every).getD t 0).toNat = true
instance (h : HM) (w sets : List Int) (n : Nat) : Decidable (FitsA h w sets n) := inferInstanceAs (Decidable (_ ∧ _))
end Go.AL

set_option linter.unusedVariables false
set_option linter.unusedSimpArgs false
namespace Go.AL
open Go Go.BigFrame
def cmpL : List Int → List Int → Int
 | [], [] => 0
 | [], _ :: _ => -1
 | _ :: _, [] => 1
 | a :: x, b :: y => if a < b then -1 else if b < a then 1 else cmpL x y
theorem cmpL_self : ∀ x : List Int, cmpL x x = 0
 | [] => rfl
 | a :: x => by rw [cmpL, if_neg (by omega), if_neg (by omega), cmpL_self x]
theorem cmpL_neg : ∀ x y : List Int, cmpL y x = -cmpL x y
 | [], [] => rfl
 | [], _ :: _ => rfl
 | _ :: _, [] => rfl
 | a :: x, b :: y => by
  rw [cmpL, cmpL, cmpL_neg x y]
  by_cases h1 : a < b
  ·rw [if_neg (by omega), if_pos h1, if_pos h1]; rfl
  ·rw [if_neg h1]
   by_cases h2 : b < a
   ·rw [if_pos h2, if_neg h1, if_pos h2]
   ·rw [if_neg h2, if_neg h2, if_neg h1]
theorem cmpL_trans : ∀ {x y z : List Int}, cmpL x y ≤ 0 → cmpL y z ≤ 0 → cmpL x z ≤ 0
 | [], _, [], _, _ => by rw [cmpL]; decide
 | [], _, _ :: _, _, _ => by rw [cmpL]; decide
 | _ :: _, [], _, h, _ => by rw [cmpL] at h; exact absurd h (by decide)
 | _ :: _, _ :: _, [], _, h => by rw [cmpL] at h; exact absurd h (by decide)
 | a :: x, b :: y, c :: z, h1, h2 => by
  rw [cmpL] at h1 h2 ⊢
  by_cases hab : a < b
  ·by_cases hcb : c < b
   ·rw [if_neg (by omega), if_pos hcb] at h2; exact absurd h2 (by decide)
   ·rw [if_pos (by omega)]; decide
  ·rw [if_neg hab] at h1
   by_cases hba : b < a
   ·rw [if_pos hba] at h1; exact absurd h1 (by decide)
   ·rw [if_neg hba] at h1
    by_cases hbc : b < c
    ·rw [if_pos (by omega)]; decide
    ·rw [if_neg hbc] at h2
     by_cases hcb : c < b
     ·rw [if_pos hcb] at h2; exact absurd h2 (by decide)
     ·rw [if_neg hcb] at h2
      rw [if_neg (by omega), if_neg (by omega)]
      exact cmpL_trans h1 h2
theorem cmpL_left (d : List Int) {x y : List Int} : cmpL (d ++ x) (d ++ y) = cmpL x y := by
 induction d with
 | nil => rfl
 | cons a d ih => rw [List.cons_append, List.cons_append, cmpL, if_neg (by omega), if_neg (by omega), ih]
theorem paths_snoc {n k s : Nat} {p : List Int} (hp : p ∈ pathsF n k) (hs : s < n) : p ++ [(s : Int)] ∈ pathsF n (k + 1) := List.mem_flatMap.2 ⟨p, hp, List.mem_map.2 ⟨s, List.mem_range.2 hs, rfl⟩⟩
theorem tr_nonneg {h : HM} {bb B : Nat} (g : HM.GoodX bb B h) (i j : Nat) : 0 ≤ trQ h i j := ((g.pT i).get j).1
theorem em_nonneg {h : HM} {bb B : Nat} (g : HM.GoodX bb B h) (i x : Nat) : 0 ≤ emQ h i x := ((g.pM i).get x).1
theorem ini_nonneg {h : HM} {bb B : Nat} (g : HM.GoodX bb B h) (i : Nat) : 0 ≤ h.ini.getD i 0 := (g.pI.get i).1
section
variable {h : HM} {bb B : Nat} {u : List Int}
def follow (h : HM) (u : List Int) (s i : Nat) : Rat := (restG h u every (u.length - 1 - s)).getD i 0
def upto (h : HM) (u p : List Int) (t : Nat) : Rat := wgt h u p t * follow h u (t - 1) (atP p (t - 1))
end
end Go.AL

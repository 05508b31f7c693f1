/-
  M, chapter 34: all paths; the sum of the joint probabilities is the likelihood, that of the paths through a state its share.
-/
import Derived.Test.YtonndaibggjmjaaGreatKMod34c
set_option linter.unusedVariables false
set_option linter.unusedSimpArgs false
namespace Go.AL
open Go Go.BigFrame
def lsum {α : Type} (f : α → Rat) : List α → Rat
 | [] => 0
 | x :: r => f x + lsum f r
theorem lsum_append {α : Type} (f : α → Rat) : ∀ a b : List α, lsum f (a ++ b) = lsum f a + lsum f b
 | [], b => by rw [List.nil_append, lsum, Rat.zero_add]
 | x :: a, b => by rw [List.cons_append, lsum, lsum, lsum_append f a b, Rat.add_assoc]
theorem lsum_flatMap {α β : Type} (f : β → Rat) (g : α → List β) : ∀ l : List α, lsum f (l.flatMap g) = lsum (fun x => lsum f (g x)) l
 | [] => rfl
 | x :: l => by rw [List.flatMap_cons, lsum_append, lsum_flatMap f g l]; rfl
theorem lsum_map {α β : Type} (f : β → Rat) (g : α → β) : ∀ l : List α, lsum f (l.map g) = lsum (fun x => f (g x)) l
 | [] => rfl
 | x :: l => by rw [List.map_cons, lsum, lsum_map f g l]; rfl
theorem lsum_congr {α : Type} {f g : α → Rat} : ∀ {l : List α}, (∀ x, x ∈ l → f x = g x) → lsum f l = lsum g l
 | [], _ => rfl
 | x :: l, h => by rw [lsum, lsum, h x (List.mem_cons_self ..), lsum_congr fun y hy => h y (List.mem_cons_of_mem _ hy)]
theorem lsum_range (f : Nat → Rat) : ∀ n, lsum f (List.range n) = sumN f n
 | 0 => rfl
 | n + 1 => by rw [List.range_succ, lsum_append, lsum_range f n, sumN, lsum, lsum, Rat.add_zero]
def pathsF (n : Nat) : Nat → List (List Int)
 | 0 => [[]]
 | k + 1 => (pathsF n k).flatMap fun p => (List.range n).map fun (s : Nat) => p ++ [(s : Int)]
theorem pathsF_mem {n : Nat} : ∀ {k : Nat} {p : List Int}, p ∈ pathsF n k → p.length = k ∧ ∀ x, x ∈ p → 0 ≤ x ∧ x < (n : Int)
 | 0, p, h => by
  rw [pathsF, List.mem_singleton] at h
  subst h
  exact ⟨rfl, fun x hx => by simp at hx⟩
 | k + 1, p, h => by
  rw [pathsF, List.mem_flatMap] at h
  obtain ⟨q, hq, hp⟩ := h
  obtain ⟨s, hs, rfl⟩ := List.mem_map.1 hp
  have h1 := pathsF_mem hq
  have hs := List.mem_range.1 hs
  refine ⟨by rw [List.length_append, h1.1]; rfl, fun x hx => ?_⟩
  rcases List.mem_append.1 hx with hx | hx
  ·exact h1.2 x hx
  ·rw [List.mem_singleton.1 hx]; omega
theorem pathsF_len (n : Nat) : ∀ k, (pathsF n k).length = n ^ k
 | 0 => rfl
 | k + 1 => by
  rw [pathsF, List.length_flatMap, show (fun p : List Int => ((List.range n).map fun (s : Nat) => p ++ [(s : Int)]).length) = fun _ => n by funext p; simp, List.map_const', List.sum_replicate_nat, pathsF_len n k, Nat.pow_succ]
def atP (p : List Int) (t : Nat) : Nat := (p.getD t 0).toNat
theorem atP_lt {n k t : Nat} {p : List Int} (h : p ∈ pathsF n k) (ht : t < k) : atP p t < n ∧ p.getD t 0 = (atP p t : Int) := by
 obtain ⟨h1, h2⟩ := pathsF_mem h
 have := h2 (p.getD t 0) (getD_mem (by omega) 0)
 unfold atP
 omega
theorem atP_snoc {p : List Int} {s t : Nat} (ht : t < p.length) : atP (p ++ [(s : Int)]) t = atP p t := by unfold atP; rw [getD_snoc_lt ht]
theorem atP_last {p : List Int} {s t : Nat} (ht : t = p.length) : atP (p ++ [(s : Int)]) t = s := by unfold atP; rw [getD_snoc_eq ht]; exact Int.toNat_natCast s
def wgt (h : HM) (w : List Int) (p : List Int) : Nat → Rat
 | 0 => h.ini.getD (atP p 0) 0
 | t + 1 => (if t = 0 then wgt h w p t else wgt h w p t * trQ h (atP p (t - 1)) (atP p t)) * emQ h (atP p t) (symX w t)
def jointE (h : HM) (w p : List Int) : Rat := if w.length = 0 then h.empty else wgt h w p w.length * h.stop.getD (atP p (w.length - 1)) 0
theorem wgt_snoc {h : HM} {w p : List Int} {s : Nat} : ∀ {t : Nat}, t + 1 ≤ p.length → wgt h w (p ++ [(s : Int)]) (t + 1) = wgt h w p (t + 1)
 | 0, ht => by
  rw [wgt, wgt, if_pos rfl, wgt, if_pos rfl, wgt, atP_snoc (show 0 < p.length by omega)]
 | t + 1, ht => by
  rw [wgt, if_neg (by omega), wgt_snoc (by omega), atP_snoc (show t + 1 < p.length by omega), show t + 1 - 1 = t from rfl, atP_snoc (show t < p.length by omega)]
  conv => rhs; rw [wgt, if_neg (by omega)]
  rfl
theorem paths_end {h : HM} {w : List Int} : ∀ (t : Nat) (g : Nat → Rat), lsum (fun p => wgt h w p (t + 1) * g (atP p t)) (pathsF h.st (t + 1)) = sumN (fun j => (fwdF h w t).getD j 0 * g j) h.st
 | 0, g => by
  rw [pathsF, pathsF, List.flatMap_cons, List.flatMap_nil, List.append_nil, lsum_map, lsum_range]
  refine sumN_congr fun j hj => ?_
  have ea : atP [(j : Int)] 0 = j := Int.toNat_natCast j
  rw [List.nil_append, wgt, if_pos rfl, wgt, ea, fwd_zero hj]
 | t + 1, g => by
  rw [pathsF, lsum_flatMap]
  have e1 : ∀ p, p ∈ pathsF h.st (t + 1) → lsum (fun p => wgt h w p (t + 1 + 1) * g (atP p (t + 1))) ((List.range h.st).map fun (s : Nat) => p ++ [(s : Int)]) = wgt h w p (t + 1) * sumN (fun s => trQ h (atP p t) s * (emQ h s (symX w (t + 1)) * g s)) h.st := fun p hp => by
   have hl := (pathsF_mem hp).1
   rw [lsum_map, lsum_range, ← sumN_mulL]
   refine sumN_congr fun s _ => ?_
   rw [wgt, if_neg (by omega), wgt_snoc (by omega), atP_last (show t + 1 = p.length by omega), show t + 1 - 1 = t from rfl, atP_snoc (show t < p.length by omega)]
   grind
  rw [lsum_congr e1, paths_end t fun i => sumN (fun s => trQ h i s * (emQ h s (symX w (t + 1)) * g s)) h.st]
  have e2 : ∀ i, i < h.st → (fwdF h w t).getD i 0 * sumN (fun s => trQ h i s * (emQ h s (symX w (t + 1)) * g s)) h.st = sumN (fun s => (fwdF h w t).getD i 0 * trQ h i s * (emQ h s (symX w (t + 1)) * g s)) h.st := fun i _ => by
   rw [← sumN_mulL]
   exact sumN_congr fun s _ => by rw [Rat.mul_assoc]
  rw [sumN_congr e2, sumN_swap]
  refine sumN_congr fun j hj => ?_
  rw [sumN_mulR, fwd_pos (t := t + 1) (by omega) hj, show t + 1 - 1 = t from rfl, preF, Rat.mul_assoc]
theorem joint_sum {h : HM} {w : List Int} : lsum (jointE h w) (pathsF h.st w.length) = likF h w := by
 by_cases hn : w.length = 0
 ·rw [hn, pathsF, lsum, lsum, Rat.add_zero, jointE, if_pos hn, likF, if_pos hn]
 ·obtain ⟨n, hw⟩ : ∃ n, w.length = n + 1 := ⟨w.length - 1, by omega⟩
  have e := paths_end (h := h) (w := w) n fun i => h.stop.getD i 0
  rw [show likF h w = likN h (fwdF h w (w.length - 1)) h.st from if_neg hn, likN, show w.length - 1 = n by omega, ← e, hw]
  exact lsum_congr fun p _ => by rw [jointE, if_neg hn, hw]; rfl
theorem wgt_sz {h : HM} {B : Nat} (f : h.Form B) (w p : List Int) : ∀ t, sz (wgt h w p t) ≤ 1024 + t * 2048
 | 0 => by have := ini_sz f (atP p 0); rw [wgt]; omega
 | t + 1 => by
  have h1 := wgt_sz f w p t
  have h2 := tr_sz f (atP p (t - 1)) (atP p t)
  have h3 := em_sz f (atP p t) (symX w t)
  rw [wgt]
  split
  ·have := sz_mul (wgt h w p t) (emQ h (atP p t) (symX w t)); omega
  ·have h4 := sz_mul (wgt h w p t) (trQ h (atP p (t - 1)) (atP p t))
   have := sz_mul (wgt h w p t * trQ h (atP p (t - 1)) (atP p t)) (emQ h (atP p t) (symX w t)); omega
theorem jointE_sz {h : HM} {B : Nat} (f : h.Form B) {w : List Int} (hw : w.length ≤ 6) (p : List Int) : sz (jointE h w p) ≤ 20000 := by
 have h1 := wgt_sz f w p w.length
 have h2 := stop_sz f (atP p (w.length - 1))
 have h3 := f.zE
 have h4 := f.bB
 unfold jointE
 split
 ·omega
 ·have := sz_mul (wgt h w p w.length) (h.stop.getD (atP p (w.length - 1)) 0); omega
end Go.AL

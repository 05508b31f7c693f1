/-
  M, chapter 34: all paths; the sum of the joint probabilities is the likelihood, that of the paths through a state its share.
-/
import Derived.Test.YtonndaibggjmjaaGreatKMod34c
set_option linter.unusedVariables false
set_option linter.unusedSimpArgs false
namespace Go.AL
open Go Go.BigFrame
def pathsF (n : Nat) : Nat → List (List Int)
 | 0 => [[]]
 | k + 1 => (pathsF n k).flatMap fun p => (List.range n).map fun (s : Nat) => p ++ [(s : Int)]
theorem pathsF_mem {n : Nat} : ∀ {k : Nat} {p : List Int}, p ∈ pathsF n k → p.length = k ∧ ∀ x, x ∈ p → 0 ≤ x ∧ x < (n : Int)
 | 0, p, h => by
  rw [pathsF, List.mem_singleton] at h
  subst h
  exact ⟨rfl, fun x hx => by simp at hx⟩
 | k + 1, p, h => by
  rw [pathsF, List.mem_flatMap] at h
  obtain ⟨q, hq, hp⟩ := h
  obtain ⟨s, hs, rfl⟩ := List.mem_map.1 hp
  have h1 := pathsF_mem hq
  have hs := List.mem_range.1 hs
  refine ⟨by rw [List.length_append, h1.1]; rfl, fun x hx => ?_⟩
  rcases List.mem_append.1 hx with hx | hx
  ·exact h1.2 x hx
  ·rw [List.mem_singleton.1 hx]; omega
theorem pathsF_len (n : Nat) : ∀ k, (pathsF n k).length = n ^ k
 | 0 => rfl
 | k + 1 => by
  rw [pathsF, List.length_flatMap, show (fun p : List Int => ((List.range n).map fun (s : Nat) => p ++ [(s : Int)]).length) = fun _ => n by funext p; simp, List.map_const', List.sum_replicate_nat, pathsF_len n k, Nat.pow_succ]
def atP (p : List Int) (t : Nat) : Nat := (p.getD t 0).toNat
theorem atP_lt {n k t : Nat} {p : List Int} (h : p ∈ pathsF n k) (ht : t < k) : atP p t < n ∧ p.getD t 0 = (atP p t : Int) := by
 obtain ⟨h1, h2⟩ := pathsF_mem h
 have := h2 (p.getD t 0) (getD_mem (by omega) 0)
 unfold atP
 omega
theorem atP_snoc {p : List Int} {s t : Nat} (ht : t < p.length) : atP (p ++ [(s : Int)]) t = atP p t := by unfold atP; rw [getD_snoc_lt ht]
theorem atP_last {p : List Int} {s t : Nat} (ht : t = p.length) : atP (p ++ [(s : Int)]) t = s := by unfold atP; rw [getD_snoc_eq ht]; exact Int.toNat_natCast s
def wgt (h : HM) (w : List Int) (p : List Int) : Nat → Rat
 | 0 => h.ini.getD (atP p 0) 0
 | t + 1 => (if t = 0 then wgt h w p t else wgt h w p t * trQ h (atP p (t - 1)) (atP p t)) * emQ h (atP p t) (symX w t)
def jointE (h : HM) (w p : List Int) : Rat := if w.length = 0 then h.empty else wgt h w p w.length * h.stop.getD (atP p (w.length - 1)) 0
theorem wgt_snoc {h : HM} {w p : List Int} {s : Nat} : ∀ {t : Nat}, t + 1 ≤ p.length → wgt h w (p ++ [(s : Int)]) (t + 1) = wgt h w p (t + 1)
 | 0, ht => by
  rw [wgt, wgt, if_pos rfl, wgt, if_pos rfl, wgt, atP_snoc (show 0 < p.length by omega)]
 | t + 1, ht => by
  rw [wgt, if_neg (by omega), wgt_snoc (by omega), atP_snoc (show t + 1 < p.length by omega), show t + 1 - 1 = t from rfl, atP_snoc (show t < p.length by omega)]
  conv => rhs; rw [wgt, if_neg (by omega)]
  rfl
theorem wgt_sz {h : HM} {B : Nat} (f : h.Form B) (w p : List Int) : ∀ t, sz (wgt h w p t) ≤ 1024 + t * 2048
 | 0 => by have := ini_sz f (atP p 0); rw [wgt]; omega
 | t + 1 => by
  have h1 := wgt_sz f w p t
  have h2 := tr_sz f (atP p (t - 1)) (atP p t)
  have h3 := em_sz f (atP p t) (symX w t)
  rw [wgt]
  split
  ·have := sz_mul (wgt h w p t) (emQ h (atP p t) (symX w t)); omega
  ·have h4 := sz_mul (wgt h w p t) (trQ h (atP p (t - 1)) (atP p t))
   have := sz_mul (wgt h w p t * trQ h (atP p (t - 1)) (atP p t)) (emQ h (atP p t) (symX w t)); omega
theorem jointE_sz {h : HM} {B : Nat} (f : h.Form B) {w : List Int} (hw : w.length ≤ 6) (p : List Int) : sz (jointE h w p) ≤ 20000 := by
 have h1 := wgt_sz f w p w.length
 have h2 := stop_sz f (atP p (w.length - 1))
 have h3 := f.zE
 have h4 := f.bB
 unfold jointE
 split
 ·omega
 ·have := sz_mul (wgt h w p w.length) (h.stop.getD (atP p (w.length - 1)) 0); omega
def pathsStep (n : Nat) (l : List (List Int)) (i : Nat) : List (List Int) := (l.take i).flatMap fun p => (List.range n).map fun (s : Nat) => p ++ [(s : Int)]
theorem pathsStep_len (n : Nat) (l : List (List Int)) {i : Nat} (hi : i ≤ l.length) : (pathsStep n l i).length = i * n := by
 rw [pathsStep, List.length_flatMap, show (fun p : List Int => ((List.range n).map fun (s : Nat) => p ++ [(s : Int)]).length) = fun _ => n by funext p; simp, List.map_const', List.sum_replicate_nat, List.length_take, Nat.min_eq_left hi]
theorem pathsStep_succ (n : Nat) {l : List (List Int)} {i : Nat} (h : i < l.length) : pathsStep n l (i + 1) = pathsStep n l i ++ (List.range n).map fun (s : Nat) => l.getD i [] ++ [(s : Int)] := by
 unfold pathsStep
 rw [List.take_succ_eq_append_getElem h, List.flatMap_append, List.getD_eq_getElem?_getD, List.getElem?_eq_getElem h]
 simp
theorem pathsStep_all (n k : Nat) : pathsStep n (pathsF n k) (pathsF n k).length = pathsF n (k + 1) := by rw [pathsStep, List.take_length]; rfl
theorem pow_le {n k : Nat} (hn : n ≤ 3) (hk : k ≤ 4) : n ^ k ≤ 81 := Nat.le_trans (Nat.pow_le_pow_left hn k) (Nat.le_trans (Nat.pow_le_pow_right (by decide) hk) (by decide))
def pathsMid (n : Nat) (l : List (List Int)) (i s : Nat) : List (List Int) := pathsStep n l i ++ (List.range s).map fun (s' : Nat) => l.getD i [] ++ [(s' : Int)]
theorem pathsMid_len (n : Nat) (l : List (List Int)) {i s : Nat} (hi : i ≤ l.length) : (pathsMid n l i s).length = i * n + s := by rw [pathsMid, List.length_append, pathsStep_len n l hi]; simp
theorem pathsMid_zero (n : Nat) (l : List (List Int)) (i : Nat) : pathsMid n l i 0 = pathsStep n l i := by unfold pathsMid; simp
theorem pathsMid_succ (n : Nat) (l : List (List Int)) (i s : Nat) : pathsMid n l i (s + 1) = pathsMid n l i s ++ [l.getD i [] ++ [(s : Int)]] := by unfold pathsMid; rw [List.range_succ, List.map_append, List.append_assoc]; rfl
theorem pathsMid_all (n : Nat) {l : List (List Int)} {i : Nat} (h : i < l.length) : pathsMid n l i n = pathsStep n l (i + 1) := (pathsStep_succ n h).symm
end Go.AL

/-
  M, chapter 35: the best that can become of the beginning of a path, as the search of List uses it.
-/
import Derived.Test.YtonndaibggjmjaaGreatKMod37
import Derived.Test.YtonndaibggjmjaaGreatKMod62
import Derived.Test.YtonndaibggjmjaaGreatKMod40d
set_option linter.unusedVariables false
set_option linter.unusedSimpArgs false
namespace Go.AL
open Go Go.BigFrame
def lcpL : List Int → List Int → Nat
 | a :: x, b :: y => if a = b then lcpL x y + 1 else 0
 | _, _ => 0
def comF (al : Nat → Bool) (ps : Nat → List Int) : Nat → Int × List Int
 | 0 => (-1, [])
 | i + 1 => if al i = true then
   (if (comF al ps i).1 < 0 then (((min (ps i).length (lcpL (ps i) (ps i)) : Nat) : Int), ps i) else (((min (comF al ps i).1.toNat (lcpL (ps i) (comF al ps i).2) : Nat) : Int), (comF al ps i).2)) else comF al ps i
structure ComSpec (al : Nat → Bool) (ps : Nat → List Int) (n : Nat) (c : Int × List Int) : Prop where
 none : (∀ i, i < n → al i = false) → c = (-1, [])
 some : (∃ i, i < n ∧ al i = true) → 0 ≤ c.1 ∧ (∃ i, i < n ∧ al i = true ∧ c.2 = ps i) ∧ (∀ i, i < n → al i = true → c.1.toNat ≤ (ps i).length ∧ (ps i).take c.1.toNat = c.2.take c.1.toNat) ∧
  ∀ m, (∀ i, i < n → al i = true → m ≤ (ps i).length ∧ (ps i).take m = c.2.take m) → m ≤ c.1.toNat
structure Dec where
 t : Nat
 sc : List Rat
 tl : List (List Int)
 dn : List Int
def betterP (x : Rat) (y : List Int) (m : Rat × List Int) : Prop := m.1 < x ∨ (x = m.1 ∧ 0 < x ∧ cmpL y m.2 < 0)
instance (x : Rat) (y : List Int) (m : Rat × List Int) : Decidable (betterP x y m) := by unfold betterP; infer_instance
def comeQ (h : HM) (o : Dec) (j i : Nat) : Rat := o.sc.getD i 0 * trQ h i j
section
variable {h : HM} {bb B : Nat} {u : List Int} {o : Dec}
structure Heads (h : HM) (u : List Int) (t : Nat) (S : Nat → Rat) (Q : Nat → List Int) : Prop where
 nonneg : ∀ j, j < h.st → 0 ≤ S j
 max : ∀ p, p ∈ pathsF h.st t → wgt h u p t ≤ S (atP p (t - 1))
 live : ∀ j, j < h.st → 0 < S j → Q j ∈ pathsF h.st t ∧ atP (Q j) (t - 1) = j ∧ wgt h u (Q j) t = S j ∧ ∀ p, p ∈ pathsF h.st t → atP p (t - 1) = j → wgt h u p t = S j → cmpL (Q j) p ≤ 0
structure InvD (h : HM) (u : List Int) (o : Dec) : Prop where
 le : o.t ≤ u.length
 zero : o.t = 0 → o.sc = [] ∧ o.tl = [] ∧ o.dn = []
 len : o.t ≠ 0 → o.sc.length = h.st ∧ o.tl.length = h.st
 heads : o.t ≠ 0 → Heads h u o.t (fun j => o.sc.getD j 0) fun j => o.dn ++ o.tl.getD j []
 dead : ∀ j, ¬ 0 < o.sc.getD j 0 → o.tl.getD j [] = []
 some : o.t ≠ 0 → ∃ j, j < h.st ∧ 0 < o.sc.getD j 0
 com : o.t ≠ 0 → (comF (fun j => decide (0 < o.sc.getD j 0)) (fun j => o.tl.getD j []) h.st).1 = 0
 small : Small (1 + 2048 * o.t) o.sc
structure PickSpec (h : HM) (o : Dec) (j n : Nat) (m : Rat × List Int) : Prop where
 nonneg : 0 ≤ m.1
 le : ∀ i, i < n → comeQ h o j i ≤ m.1
 pos : 0 < m.1 → ∃ i, i < n ∧ m = (comeQ h o j i, o.tl.getD i [])
 least : 0 < m.1 → ∀ i, i < n → comeQ h o j i = m.1 → cmpL m.2 (o.tl.getD i []) ≤ 0
end
end Go.AL

set_option linter.unusedVariables false
set_option linter.unusedSimpArgs false
namespace Go.AL
open Go Go.BigFrame
def endQ (h : HM) (o : Dec) (i : Nat) : Rat := o.sc.getD i 0 * h.stop.getD i 0
structure FinSpec (h : HM) (o : Dec) (n : Nat) (m : Rat × List Int) : Prop where
 nonneg : 0 ≤ m.1
 le : ∀ i, i < n → endQ h o i ≤ m.1
 pos : 0 < m.1 → ∃ i, i < n ∧ m = (endQ h o i, o.tl.getD i [])
 least : 0 < m.1 → ∀ i, i < n → endQ h o i = m.1 → cmpL m.2 (o.tl.getD i []) ≤ 0
section
variable {h : HM} {bb B : Nat} {u : List Int} {o : Dec}
theorem upto_end {p : List Int} (hp : p ∈ pathsF h.st u.length) (hn : 0 < u.length) : upto h u p u.length = wgt h u p u.length * h.stop.getD (atP p (u.length - 1)) 0 := by
 unfold upto
 rw [follow_last (atP_lt hp (show u.length - 1 < u.length by omega)).1]
structure TimesOK (ts : List Int) (n : Nat) : Prop where
 ge : ∀ s, s < ts.length → (s : Int) + 1 ≤ ts.getD s 0
 le : ∀ s, s < ts.length → ts.getD s 0 ≤ n
 mono : ∀ s, s + 1 < ts.length → ts.getD s 0 ≤ ts.getD (s + 1) 0
end
end Go.AL

set_option linter.unusedVariables false
set_option linter.unusedSimpArgs false
namespace Go.AL
open Go Go.BigFrame
section
variable {h : HM} {bb B : Nat} {w : List Int}
def bstL (h : HM) (w p : List Int) : Rat := if p.length = 0 then bestG h w every else upto h w p p.length
def soL (h : HM) (w p : List Int) : Rat := if p.length = 0 then 0 else wgt h w p p.length
def prtL (h : HM) (w p : List Int) : Prt := ⟨bstL h w p, soL h w p, p⟩
def frL (p : List Int) : Int := if p.length = 0 then -1 else p.getD (p.length - 1) 0
def InS (n : Nat) (p : List Int) : Prop := ∀ x, x ∈ p → 0 ≤ x ∧ x < (n : Int)
theorem paths_in {n : Nat} : ∀ {k : Nat} {p : List Int}, p.length = k → InS n p → p ∈ pathsF n k
 | 0, p, hl, _ => by rw [List.eq_nil_of_length_eq_zero hl]; exact List.mem_singleton.2 rfl
 | k + 1, p, hl, hx => by
  have hne : p ≠ [] := fun e => by rw [e] at hl; simp at hl
  have e : p = p.dropLast ++ [p.getLast hne] := (List.dropLast_concat_getLast hne).symm
  have h1 := hx (p.getLast hne) (List.getLast_mem hne)
  have h2 : p.getLast hne = (((p.getLast hne).toNat : Nat) : Int) := by omega
  rw [e, h2]
  exact paths_snoc (paths_in (by rw [List.length_dropLast, hl]; rfl) fun x hx' => hx x (List.dropLast_subset _ hx')) (by omega)
theorem upto_snoc {p : List Int} {s : Nat} {t : Nat} (ht : t + 1 ≤ p.length) : upto h w (p ++ [(s : Int)]) (t + 1) = upto h w p (t + 1) := by
 unfold upto
 rw [wgt_snoc ht, show t + 1 - 1 = t from rfl, atP_snoc (by omega)]
theorem bst_child (g : HM.GoodX bb B h) (p : List Int) (s : Int) (hp : p.length < w.length) (hx : InS h.st p) (s0 : 0 ≤ s) (s1 : s < (h.st : Int)) : bstL h w (p ++ [s]) ≤ bstL h w p := by
 obtain ⟨s, rfl⟩ : ∃ k : Nat, s = (k : Int) := ⟨s.toNat, by omega⟩
 have hm : p ++ [(s : Int)] ∈ pathsF h.st (p.length + 1) := paths_snoc (paths_in rfl hx) (by omega)
 have hl : (p ++ [(s : Int)]).length = p.length + 1 := by rw [List.length_append]; rfl
 unfold bstL
 rw [hl, if_neg (Nat.succ_ne_zero _)]
 by_cases h0 : p.length = 0
 ·rw [if_pos h0]
  exact upto_le g hm (Nat.lt_succ_self _) hp
 ·rw [if_neg h0]
  obtain ⟨t, ht⟩ : ∃ t, p.length = t + 1 := ⟨p.length - 1, by omega⟩
  rw [ht, ← upto_snoc (s := s) (show t + 1 ≤ p.length by omega)]
  have := upto_mono (u := w) g hm (d := 1) (t := t) (by omega) (by omega)
  exact this
theorem so_child {n : Nat} (p : List Int) (i : Nat) (hx : InS n p) : soL h w (p ++ [(i : Int)]) = if 0 < p.length then soL h w p * entQ h (frL p) i (symX w p.length) else entQ h (-1) i (symX w p.length) := by
 have hl : (p ++ [(i : Int)]).length = p.length + 1 := by rw [List.length_append]; rfl
 unfold soL
 rw [hl, if_neg (Nat.succ_ne_zero _)]
 unfold entQ stepQ frL
 by_cases h0 : p.length = 0
 ·rw [if_neg (by omega), h0, wgt_one, atP_last (by omega), if_neg (by decide)]
  rfl
 ·rw [if_pos (by omega), if_neg h0, if_neg h0, wgt_step h0, atP_last rfl]
  obtain ⟨t, ht⟩ : ∃ t, p.length = t + 1 := ⟨p.length - 1, by omega⟩
  rw [ht, wgt_snoc (by omega), show t + 1 - 1 = t from rfl, atP_snoc (by omega), Rat.mul_assoc]
  congr 2
  unfold trQ atP
  have h1 := (hx (p.getD t 0) (getD_mem (by omega) 0)).1
  rw [if_pos h1]
theorem bst_so (p : List Int) (i : Nat) (hp : p.length < w.length) : bstL h w (p ++ [(i : Int)]) = soL h w (p ++ [(i : Int)]) * (restG h w every (w.length - 1 - p.length)).getD i 0 := by
 have hl : (p ++ [(i : Int)]).length = p.length + 1 := by rw [List.length_append]; rfl
 unfold bstL soL
 rw [hl, if_neg (Nat.succ_ne_zero _), if_neg (Nat.succ_ne_zero _)]
 unfold upto follow
 rw [show p.length + 1 - 1 = p.length from rfl, atP_last rfl]
theorem bst_whole {p : List Int} (hp : p ∈ pathsF h.st w.length) (hn : 0 < w.length) : bstL h w p = jointE h w p := by
 have hl := (pathsF_mem hp).1
 unfold bstL jointE
 rw [hl, if_neg (by omega), if_neg (by omega), upto_end hp hn]
end
end Go.AL

/-
  M, chapters 35 to 37: the best way to each state, kept in lists of one.
-/
import Derived.Test.YtjghehkgmanmbaaGreatKMod37
set_option linter.unusedVariables false
set_option linter.unusedSimpArgs false
namespace Go.AL
open Go Go.BigFrame
def lcpL : List Int → List Int → Nat
 | a :: x, b :: y => if a = b then lcpL x y + 1 else 0
 | _, _ => 0
def comF (al : Nat → Bool) (ps : Nat → List Int) : Nat → Int × List Int
 | 0 => (-1, [])
 | i + 1 => if al i = true then
   (if (comF al ps i).1 < 0 then (((min (ps i).length (lcpL (ps i) (ps i)) : Nat) : Int), ps i) else (((min (comF al ps i).1.toNat (lcpL (ps i) (comF al ps i).2) : Nat) : Int), (comF al ps i).2)) else comF al ps i
structure ComSpec (al : Nat → Bool) (ps : Nat → List Int) (n : Nat) (c : Int × List Int) : Prop where
 none : (∀ i, i < n → al i = false) → c = (-1, [])
 some : (∃ i, i < n ∧ al i = true) → 0 ≤ c.1 ∧ (∃ i, i < n ∧ al i = true ∧ c.2 = ps i) ∧ (∀ i, i < n → al i = true → c.1.toNat ≤ (ps i).length ∧ (ps i).take c.1.toNat = c.2.take c.1.toNat) ∧
  ∀ m, (∀ i, i < n → al i = true → m ≤ (ps i).length ∧ (ps i).take m = c.2.take m) → m ≤ c.1.toNat
structure Dec where
 t : Nat
 sc : List Rat
 tl : List (List Int)
 dn : List Int
def betterP (x : Rat) (y : List Int) (m : Rat × List Int) : Prop := m.1 < x ∨ (x = m.1 ∧ 0 < x ∧ cmpL y m.2 < 0)
instance (x : Rat) (y : List Int) (m : Rat × List Int) : Decidable (betterP x y m) := by unfold betterP; infer_instance
def comeQ (h : HM) (o : Dec) (j i : Nat) : Rat := o.sc.getD i 0 * trQ h i j
section
variable {h : HM} {bb B : Nat} {u : List Int} {o : Dec}
structure Heads (h : HM) (u : List Int) (t : Nat) (S : Nat → Rat) (Q : Nat → List Int) : Prop where
 nonneg : ∀ j, j < h.st → 0 ≤ S j
 max : ∀ p, p ∈ pathsF h.st t → wgt h u p t ≤ S (atP p (t - 1))
 live : ∀ j, j < h.st → 0 < S j → Q j ∈ pathsF h.st t ∧ atP (Q j) (t - 1) = j ∧ wgt h u (Q j) t = S j ∧ ∀ p, p ∈ pathsF h.st t → atP p (t - 1) = j → wgt h u p t = S j → cmpL (Q j) p ≤ 0
structure InvD (h : HM) (u : List Int) (o : Dec) : Prop where
 le : o.t ≤ u.length
 zero : o.t = 0 → o.sc = [] ∧ o.tl = [] ∧ o.dn = []
 len : o.t ≠ 0 → o.sc.length = h.st ∧ o.tl.length = h.st
 heads : o.t ≠ 0 → Heads h u o.t (fun j => o.sc.getD j 0) fun j => o.dn ++ o.tl.getD j []
 dead : ∀ j, ¬ 0 < o.sc.getD j 0 → o.tl.getD j [] = []
 some : o.t ≠ 0 → ∃ j, j < h.st ∧ 0 < o.sc.getD j 0
 com : o.t ≠ 0 → (comF (fun j => decide (0 < o.sc.getD j 0)) (fun j => o.tl.getD j []) h.st).1 = 0
 small : Small (1 + 2048 * o.t) o.sc
structure PickSpec (h : HM) (o : Dec) (j n : Nat) (m : Rat × List Int) : Prop where
 nonneg : 0 ≤ m.1
 le : ∀ i, i < n → comeQ h o j i ≤ m.1
 pos : 0 < m.1 → ∃ i, i < n ∧ m = (comeQ h o j i, o.tl.getD i [])
 least : 0 < m.1 → ∀ i, i < n → comeQ h o j i = m.1 → cmpL m.2 (o.tl.getD i []) ≤ 0
end
end Go.AL

set_option linter.unusedVariables false
set_option linter.unusedSimpArgs false
namespace Go.AL
open Go Go.BigFrame
def endQ (h : HM) (o : Dec) (i : Nat) : Rat := o.sc.getD i 0 * h.stop.getD i 0
structure FinSpec (h : HM) (o : Dec) (n : Nat) (m : Rat × List Int) : Prop where
 nonneg : 0 ≤ m.1
 le : ∀ i, i < n → endQ h o i ≤ m.1
 pos : 0 < m.1 → ∃ i, i < n ∧ m = (endQ h o i, o.tl.getD i [])
 least : 0 < m.1 → ∀ i, i < n → endQ h o i = m.1 → cmpL m.2 (o.tl.getD i []) ≤ 0
section
variable {h : HM} {bb B : Nat} {u : List Int} {o : Dec}
structure TimesOK (ts : List Int) (n : Nat) : Prop where
 ge : ∀ s, s < ts.length → (s : Int) + 1 ≤ ts.getD s 0
 le : ∀ s, s < ts.length → ts.getD s 0 ≤ n
 mono : ∀ s, s + 1 < ts.length → ts.getD s 0 ≤ ts.getD (s + 1) 0
end
end Go.AL

set_option linter.unusedVariables false
set_option linter.unusedSimpArgs false
namespace Go.AL
open Go Go.BigFrame
section
variable {h : HM} {bb B : Nat} {u : List Int} {o : Dec}
def colN (h : HM) (c : List Rat) (j : Nat) : Nat → Rat
 | 0 => if c.length = 0 then h.ini.getD j 0 else 0
 | i + 1 => if colN h c j i < c.getD i 0 * trQ h i j then c.getD i 0 * trQ h i j else colN h c j i
end
end Go.AL

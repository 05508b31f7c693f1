/-
  M, chapter 34: the probabilities of beginnings and ends; posteriors; sizes.
-/
import Derived.Test.YtcebciggodhmcaaGreatKMod35
import Derived.Test.YtcebciggodhmcaaGreatKMod36
set_option linter.unusedVariables false
set_option linter.unusedSimpArgs false
namespace Go.AL
open Go Go.BigFrame
def bestR (h : HM) (w : List Int) (p : Nat → Nat → Bool) : Rat := if w.length = 0 then h.empty else bestG h w p
def vitP (h : HM) (w : List Int) (p : Nat → Nat → Bool) : List Int := if w.length = 0 ∨ bestG h w p = 0 then [] else pathG h w p w.length
def vitE (h : HM) (w : List Int) (p : Nat → Nat → Bool) : Int := if bestR h w p = 0 then 11 else 0
def setF (sets : List Int) (t : Nat) : Nat := if t < sets.length then (within (sets.getD t 0) 8).toNat else 7
def bitS (x s : Nat) : Bool := decide (x / 2 ^ s % 2 = 1)
def rowA (x n : Nat) : List Int := ((List.range n).filter fun s => bitS x s).map fun s : Nat => (s : Int)
def FitsA (h : HM) (w sets : List Int) (n : Nat) : Prop := vitE h w every = 0 ∧ ∀ t, t < n → bitS (setF sets t) ((vitP h w every).getD t 0).toNat = true
instance (h : HM) (w sets : List Int) (n : Nat) : Decidable (FitsA h w sets n) := inferInstanceAs (Decidable (_ ∧ _))
end Go.AL

set_option linter.unusedVariables false
set_option linter.unusedSimpArgs false
namespace Go.AL
open Go Go.BigFrame
def sumN (f : Nat → Rat) : Nat → Rat
  | 0 => 0
  | n + 1 => sumN f n + f n
def trQ (h : HM) (i j : Nat) : Rat := (h.trans.getD i []).getD j 0
def emQ (h : HM) (i x : Nat) : Rat := (h.emit.getD i []).getD x 0
def preF (h : HM) (w : List Int) (prev : List Rat) (t j : Nat) : Nat → Rat := sumN fun i => prev.getD i 0 * trQ h i j
def fwdF (h : HM) (w : List Int) : Nat → List Rat
  | 0 => (List.range h.st).map fun j => h.ini.getD j 0 * emQ h j (symX w 0)
  | t + 1 => (List.range h.st).map fun j => preF h w (fwdF h w t) t j h.st * emQ h j (symX w (t + 1))
def sufF (h : HM) (w : List Int) (next : List Rat) (t i : Nat) : Nat → Rat := sumN fun j => trQ h i j * (emQ h j (symX w (t + 1)) * next.getD j 0)
def bwdF (h : HM) (w : List Int) : Nat → List Rat
  | 0 => (List.range h.st).map fun i => h.stop.getD i 0
  | d + 1 => (List.range h.st).map fun i => sufF h w (bwdF h w d) (w.length - 1 - (d + 1)) i h.st
def likN (h : HM) (row : List Rat) : Nat → Rat := sumN fun i => row.getD i 0 * h.stop.getD i 0
def likF (h : HM) (w : List Int) : Rat := if w.length = 0 then h.empty else likN h (fwdF h w (w.length - 1)) h.st
def postQ (h : HM) (w : List Int) (t i : Nat) : Rat := (fwdF h w t).getD i 0 * (bwdF h w (w.length - 1 - t)).getD i 0 / likF h w
def postF (h : HM) (w : List Int) (t : Nat) : List Rat := (List.range h.st).map fun i => postQ h w t i
structure Few (h : HM) (w : List Int) : Prop where
  st : h.st ≤ 4
  len : w.length ≤ 6
theorem tr_sz {h : HM} {B : Nat} (f : h.Form B) (i j : Nat) : sz (trQ h i j) ≤ 1024 := Nat.le_trans ((f.zT i).get f.b1 j) f.bB
theorem em_sz {h : HM} {B : Nat} (f : h.Form B) (i x : Nat) : sz (emQ h i x) ≤ 1024 := Nat.le_trans ((f.zM i).get f.b1 x) f.bB
theorem stop_sz {h : HM} {B : Nat} (f : h.Form B) (i : Nat) : sz (h.stop.getD i 0) ≤ 1024 := Nat.le_trans (f.zS.get f.b1 i) f.bB
theorem ini_sz {h : HM} {B : Nat} (f : h.Form B) (i : Nat) : sz (h.ini.getD i 0) ≤ 1024 := Nat.le_trans (f.zI.get f.b1 i) f.bB
def postR (h : HM) (w : List Int) : List (List Rat) := if likF h w = 0 then [] else (List.range w.length).map (postF h w)
end Go.AL

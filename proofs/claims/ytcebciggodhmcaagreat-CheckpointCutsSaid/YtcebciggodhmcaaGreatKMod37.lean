/-
  M, chapter 37: the order of paths; the best path of chapter 35 is the greatest and the least.
-/
import Derived.Test.YtcebciggodhmcaaGreatKMod34
import Derived.Test.YtcebciggodhmcaaGreatKMod40d
set_option linter.unusedVariables false
set_option linter.unusedSimpArgs false
namespace Go.AL
open Go Go.BigFrame
def xiQ (h : HM) (w : List Int) (t i j : Nat) : Rat := (fwdF h w t).getD i 0 * trQ h i j * (emQ h j (symX w (t + 1)) * (bwdF h w (w.length - 1 - (t + 1))).getD j 0) / likF h w
def showQ (h : HM) (w : List Int) (n i x : Nat) : Rat := sumN (fun t => if symX w t = x then postQ h w t i else 0) n
def moveQ (h : HM) (w : List Int) (n i j : Nat) : Rat := sumN (fun t => xiQ h w t i j) n
def showRow (h : HM) (w : List Int) (n i : Nat) : List Rat := (List.range h.sym).map fun x => showQ h w n i x
def moveRow (h : HM) (w : List Int) (n i : Nat) : List Rat := (List.range h.st).map fun j => moveQ h w n i j
def exS (h : HM) (w : List Int) : List Rat := if likF h w = 0 then [] else if w.length = 0 then List.replicate h.st 0 else postF h w 0
def exE (h : HM) (w : List Int) : List Rat := if likF h w = 0 then [] else if w.length = 0 then List.replicate h.st 0 else postF h w (w.length - 1)
def exM (h : HM) (w : List Int) : List (List Rat) := if likF h w = 0 then [] else (List.range h.st).map fun i => moveRow h w (w.length - 1) i
def exO (h : HM) (w : List Int) : List (List Rat) := if likF h w = 0 then [] else (List.range h.st).map fun i => showRow h w w.length i
end Go.AL

set_option linter.unusedVariables false
set_option linter.unusedSimpArgs false
namespace Go.AL
open Go Go.BigFrame
def sumL (l : List Rat) : Rat := sumN (fun i => l.getD i 0) l.length
structure Fit (h : HM) (w : List Int) : Prop where
  row : ∀ t, t < w.length → sumL (postF h w t) = 1
  show_ : ∀ i, sumL (showRow h w w.length i) = sumN (fun t => postQ h w t i) w.length
  out : ∀ i, i < h.st → sumL (moveRow h w (w.length - 1) i) + postQ h w (w.length - 1) i = sumN (fun t => postQ h w t i) w.length
  into : ∀ i, i < h.st → postQ h w 0 i + sumN (fun j => moveQ h w (w.length - 1) j i) h.st = sumN (fun t => postQ h w t i) w.length
structure Got (h : HM) (w : List Int) : Prop where
  pl : (postR h w).length = w.length
  pg : ∀ t, t < w.length → (postR h w).getD t [] = postF h w t
  sS : exS h w = postF h w 0
  sE : exE h w = postF h w (w.length - 1)
  lM : (exM h w).length = h.st
  lO : (exO h w).length = h.st
  gM : ∀ i, i < h.st → (exM h w).getD i [] = moveRow h w (w.length - 1) i
  gO : ∀ i, i < h.st → (exO h w).getD i [] = showRow h w w.length i
end Go.AL

set_option linter.unusedVariables false
set_option linter.unusedSimpArgs false
namespace Go.AL
open Go Go.BigFrame
def pathsF (n : Nat) : Nat → List (List Int)
  | 0 => [[]]
  | k + 1 => (pathsF n k).flatMap fun p => (List.range n).map fun (s : Nat) => p ++ [(s : Int)]
def atP (p : List Int) (t : Nat) : Nat := (p.getD t 0).toNat
def wgt (h : HM) (w : List Int) (p : List Int) : Nat → Rat
  | 0 => h.ini.getD (atP p 0) 0
  | t + 1 => (if t = 0 then wgt h w p t else wgt h w p t * trQ h (atP p (t - 1)) (atP p t)) * emQ h (atP p t) (symX w t)
end Go.AL

set_option linter.unusedVariables false
set_option linter.unusedSimpArgs false
namespace Go.AL
open Go Go.BigFrame
def cmpL : List Int → List Int → Int
  | [], [] => 0
  | [], _ :: _ => -1
  | _ :: _, [] => 1
  | a :: x, b :: y => if a < b then -1 else if b < a then 1 else cmpL x y
theorem tr_nonneg {h : HM} {B : Nat} (g : h.Good B) (i j : Nat) : 0 ≤ trQ h i j := ((g.pT i).get j).1
theorem em_nonneg {h : HM} {B : Nat} (g : h.Good B) (i x : Nat) : 0 ≤ emQ h i x := ((g.pM i).get x).1
theorem ini_nonneg {h : HM} {B : Nat} (g : h.Good B) (i : Nat) : 0 ≤ h.ini.getD i 0 := (g.pI.get i).1
end Go.AL

/-
  M, chapter 40, part 7: the runs that all lists of some bits choose ascend.
-/
import Derived.Test.YtjghehkgmanmbaaGreatKMod40f
set_option linter.unusedVariables false
set_option linter.unusedSimpArgs false
namespace Go.AL
open Go Go.BigFrame
structure DRun where
 st : List Int
 w : List Int
 u : Int
def dr0 : DRun := ⟨[], [], 0⟩
def LastIs (out : List DRun) (st w : List Int) : Prop := 0 < out.length ∧ (out.getD (out.length - 1) dr0).st = st ∧ (out.getD (out.length - 1) dr0).w = w
instance (out : List DRun) (st w : List Int) : Decidable (LastIs out st w) := inferInstanceAs (Decidable (_ ∧ _))
def addRun (out : List DRun) : Drawing → List DRun
 | .err _ => out
 | .run st w u => if LastIs out st w then out else out ++ [⟨st, w, u⟩]
def allF (h : HM) (b : Nat) : Nat → List DRun
 | 0 => []
 | n + 1 => addRun (allF h b n) (draw h (bitsN b n))
theorem addRun_len (out : List DRun) (d : Drawing) : (addRun out d).length ≤ out.length + 1 := by
 cases d with
 | err e => exact Nat.le_succ _
 | run st w u => unfold addRun; simp only; split <;> simp
theorem allF_len (h : HM) (b : Nat) : ∀ n, (allF h b n).length ≤ n
 | 0 => Nat.le_refl _
 | n + 1 => Nat.le_trans (addRun_len _ _) (Nat.succ_le_succ (allF_len h b n))
def DRun.iv (h : HM) (x : DRun) : Span := rangeS h x.st x.w
structure Asc (h : HM) (b n : Nat) (out : List DRun) : Prop where
 ok : ∀ i, i < out.length → RunOK h (out.getD i dr0).st (out.getD i dr0).w
 asc : ∀ i, i + 1 < out.length → ((out.getD i dr0).iv h).before ((out.getD (i + 1) dr0).iv h)
 last : 0 < out.length → ∃ j u, j < n ∧ draw h (bitsN b j) = .run (out.getD (out.length - 1) dr0).st (out.getD (out.length - 1) dr0).w u
end Go.AL

/-
  M, chapter 40: drawings, in plain mathematics.
-/
import Derived.Test.YtoohdcpikkkanaaGreatKNumb
set_option linter.unusedVariables false
set_option linter.unusedSimpArgs false
namespace Go.AL
open Go Go.BigFrame
structure Span where
  lo : Rat
  len : Rat
def Span.part (s : Span) (ch : List Rat) (k : Nat) : Span := ⟨(ch.take k).foldl (fun a p => a + s.len * p) s.lo, s.len * ch.getD k 0⟩
def Span.inside (s t : Span) : Prop := t.lo ≤ s.lo ∧ s.lo + s.len ≤ t.lo + t.len
instance (s t : Span) : Decidable (s.inside t) := inferInstanceAs (Decidable (_ ∧ _))
def Span.one : Span := ⟨0, 1⟩
def Sure (read s : Span) (ch : List Rat) (k : Nat) : Prop := 0 < ch.getD k 0 ∧ read.inside (s.part ch k)
instance (read s : Span) (ch : List Rat) (k : Nat) : Decidable (Sure read s ch k) := inferInstanceAs (Decidable (_ ∧ _))
structure Rd where
  used : Nat
  read : Span
def Rd.step (bits : List Int) (r : Rd) : Rd := ⟨r.used + 1, ⟨if bits.getD r.used 0 = 1 then r.read.lo + r.read.len * (1 / 2) else r.read.lo, r.read.len * (1 / 2)⟩⟩
def HM.next (h : HM) : Option Nat → List Rat
  | none => h.ini ++ [h.empty]
  | some i => h.trans.getD i [] ++ [h.stop.getD i 0]
inductive Drawing where
  | err (e : Int)
  | run (states word : List Int) (used : Nat)
end Go.AL

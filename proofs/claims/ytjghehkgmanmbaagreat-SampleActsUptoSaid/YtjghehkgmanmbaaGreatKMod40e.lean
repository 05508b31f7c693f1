/-
  M, chapter 40, part 5: different runs have disjoint intervals; the runs of all lists of bits.
-/
import Derived.Test.YtjghehkgmanmbaaGreatKMod40d
set_option linter.unusedVariables false
set_option linter.unusedSimpArgs false
namespace Go.AL
open Go Go.BigFrame
def Span.before (s t : Span) : Prop := s.lo + s.len ≤ t.lo
def StepsOK (h : HM) (r : List (Nat × Nat)) : Prop := ∀ p, p ∈ r → p.1 < h.st ∧ p.2 < h.sym
theorem StepsOK.tail {h : HM} {p : Nat × Nat} {r : List (Nat × Nat)} (k : StepsOK h (p :: r)) : StepsOK h r := fun q hq => k q (List.mem_cons_of_mem _ hq)
end Go.AL

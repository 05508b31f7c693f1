/-
  M, chapters 35 to 37: the best way to each state, kept in lists of one.
-/
import Derived.Test.YtonndaibggjmjaaGreatKMod63
set_option linter.unusedVariables false
set_option linter.unusedSimpArgs false
namespace Go.AL
open Go Go.BigFrame
section
variable {h : HM} {bb B : Nat} {u : List Int} {o : Dec}
def wayD (o : Dec) (j : Nat) : Rat × List Int := (o.sc.getD j 0, if 0 < o.sc.getD j 0 then o.dn ++ o.tl.getD j [] else [])
end
end Go.AL

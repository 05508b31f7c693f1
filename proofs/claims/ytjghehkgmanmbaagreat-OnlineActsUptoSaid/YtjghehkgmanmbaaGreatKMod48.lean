/-
  M, part 48: sizes of the best ways, for great numbers.
-/
import Derived.Test.YtjghehkgmanmbaaGreatKSaC
set_option linter.unusedVariables false
set_option linter.unusedSimpArgs false
namespace Go.AL
open Go Go.BigFrame
section
variable {h : HM} {B : Nat}
theorem stop_szV (f : HM.FormX 1048576 B h) (i : Nat) : sz (h.stop.getD i 0) ≤ 1048576 := Nat.le_trans (f.zS.get f.b1 i) f.bB
end
end Go.AL

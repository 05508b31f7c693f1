/-
  AL, part 31: regions whose order is open, with a memory that is told layer by layer.
-/
import Derived.Test.YtjghehkgmanmbaaGreatKAlg30
set_option linter.unusedVariables false
set_option linter.unusedSimpArgs false
namespace Go.AL
open Go Go.BigFrame
structure Tell where
 id : Nat
 op : Nat
 b : (Nat → Nat × Nat) → Blk
end Go.AL

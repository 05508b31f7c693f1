/-
  M, chapter 40, part 3: a drawing reckoned.
-/
import Derived.Test.YtcebciggodhmcaaGreatKMod40b
import Derived.KernelRfl
set_option linter.unusedVariables false
set_option linter.unusedSimpArgs false
namespace Go.AL
open Go Go.BigFrame
deriving instance DecidableEq for Drawing
end Go.AL

/-
  Walks of package forward, part 1: beginnings and ends of words (printed by mk2.py).
-/
import Derived.Test.YtcebciggodhmcaaGreatKFresh
import Derived.Test.YtcebciggodhmcaaGreatKAlg26
import Derived.Test.YtcebciggodhmcaaGreatKMod34
set_option linter.unusedVariables false
set_option linter.unusedSimpArgs false
namespace Go.Proofs.YtcebciggodhmcaaGreat
open Go Go.AL
theorem vcs_mt_rowF : VCs [.mt] (dQs []).cells := .cons VC.mt .nil
end Go.Proofs.YtcebciggodhmcaaGreat

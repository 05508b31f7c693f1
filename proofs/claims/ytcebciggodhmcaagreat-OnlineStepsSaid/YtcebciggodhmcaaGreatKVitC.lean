/-
  Walks of package viterbi, part 3: the best path, Best, Within; words; sanity checks (printed by mk2.py).
-/
import Derived.Test.YtcebciggodhmcaaGreatKVitA
import Derived.Test.YtcebciggodhmcaaGreatKAlg26
import Derived.Test.YtcebciggodhmcaaGreatKMod35
import Derived.Test.YtcebciggodhmcaaGreatKWord
import Derived.Test.YtcebciggodhmcaaGreatKMod35b
set_option linter.unusedVariables false
set_option linter.unusedSimpArgs false
namespace Go.Proofs.YtcebciggodhmcaaGreat
open Go Go.AL
abbrev dIss (l : List (List Int)) : D := .sl (l.map ints)
theorem vd_q0B : VD (.ag [.d (dB false), .mt, .mt]) (dQ 0) := VD.ag vcs_q0
end Go.Proofs.YtcebciggodhmcaaGreat

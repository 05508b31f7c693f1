/-
  Closed facts of this seat's program that each of its rows asks; no condition.
-/
import Derived.Test.YtcebciggodhmcaaRows
import Derived.JoinedOf
import Derived.KernelRfl
namespace Go.Proofs.Ytcebciggodhmcaa
open Go
theorem fact.laidOut : laidOutB Try.prog = true := by kernel_rfl
theorem fact.mapsRowed : mapsRowed Try.prog = true := by kernel_rfl
theorem fact.lifts : (false == Try.prog.liftsFinal) = true := by kernel_rfl
theorem fact.heard : Try.prog.stopsHeard = true := by kernel_rfl
theorem fact.enter : Try.prog.mayEnter = true := by kernel_rfl
theorem fact.keys : (true == Try.prog.plainKeys) = true := by kernel_rfl
end Go.Proofs.Ytcebciggodhmcaa

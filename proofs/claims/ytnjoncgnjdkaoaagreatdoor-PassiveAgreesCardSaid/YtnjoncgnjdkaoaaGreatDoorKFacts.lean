/-
  Closed facts of this seat's program that each of its rows asks; no condition.
-/
import Derived.Test.YtnjoncgnjdkaoaaGreatDoorRows
import Derived.JoinedOf
import Derived.KernelRfl
namespace Go.Proofs.YtnjoncgnjdkaoaaGreatDoor
open Go
theorem fact.laidOut:laidOutB Tryz.prog=true:=by kernel_rfl
theorem fact.mapsRowed:mapsRowed Tryz.prog=true:=by kernel_rfl
theorem fact.lifts:(false == Tryz.prog.liftsFinal)=true:=by kernel_rfl
theorem fact.heard:Tryz.prog.stopsHeard=true:=by kernel_rfl
theorem fact.enter:Tryz.prog.mayEnter=true:=by kernel_rfl
theorem fact.keys:(false == Tryz.prog.plainKeys)=true:=by kernel_rfl
end Go.Proofs.YtnjoncgnjdkaoaaGreatDoor

/-
  No cell of these rows narrows 'for every input' (looked for: loops, veiled, ifaces, maps, wideKeys, modest, calm, conditions, laid).
  DERIVED. THE GIVEN ROWS OF THIS SEAT. 4 by the template 'for every input the law returns true; each argument reads behind the call as it read before'; 0 by the template 'total and deterministic' (their statements: YtoohdcpikkkanaaGreatTotals.lean).
  GIVEN WITH THE SEED: the statements are not yours to turn. If you find one false, say at which input.
  Laid BY PROGRAM, IN A SANDBOX (cutbox-rows.mjs): the forced cells as the released guide's own fill.sh prints them over the translation 6340436eeec7ae27… (all of the seat's roots in one cut). By AI agents, Wed Nov 11 2026. No macro, syntax, notation, axiom, sorry.
-/
import Derived.Test.YtoohdcpikkkanaaGreatChecked
import GoSem.Claim
import GoSem.ClaimJoined
import GoSem.ClaimMapViews
import Derived.JoinedTies
import Derived.KernelRfl
namespace Go.Proofs.YtoohdcpikkkanaaGreat
/- THE CELL 'sum', in the pinned program and in every row, IS THE sha256 OF THE DUMP (.gsa) THAT YtoohdcpikkkanaaGreatProg.lean LOADS. Nothing in Lean hashes anything: it is a label: what it is worth is what the hold of that sum in a sandbox is worth. -/
noncomputable def Tryz.pinned : Pinned := { name := "ytoohdcpikkkanaagreat", sum := "6340436eeec7ae272826898819046d39d69360a367bf567119937b2b2f50fe86", checked := Tryz.checked }
namespace Rows
def none {H : Type} : Left H := { results := [], args := [] }

/-- 'weightedlaw39.AscentRounds': WHATEVER THE INPUT: true; the input reads as it did. -/
def ascentRoundsSpec : ChangeSpec := { name := "ascentRounds", fn := fun _ => fun
  | [d1, d2] => { results := [.lit (.bool true)], args := [d1, d2] }
  | _ => none }
def ascentRoundsRow : OpenClaim := { program := "ytoohdcpikkkanaagreat", sum := "6340436eeec7ae272826898819046d39d69360a367bf567119937b2b2f50fe86", func := "weighted/weightedlaw39.AscentRounds", spec := "ascentRounds", unfollowed := true, recurses := true, apart := false }
def AscentRoundsSaid : Prop := ascentRoundsRow.holds Tryz.pinned (OpenSpec.ofChange ascentRoundsSpec)

/-- ITS FALSE NEIGHBOUR: 'it returns false'. Refute it at one input. -/
def ascentRoundsWrong : ChangeSpec := { name := "ascentRounds", fn := fun _ => fun
  | [d1, d2] => { results := [.lit (.bool false)], args := [d1, d2] }
  | _ => none }
def AscentRoundsWrongFalsely : Prop := ascentRoundsRow.holds Tryz.pinned (OpenSpec.ofChange ascentRoundsWrong)

/-- 'weightedlaw39.AscentNeverFalls': WHATEVER THE INPUT: true; the input reads as it did. -/
def ascentNeverFallsSpec : ChangeSpec := { name := "ascentNeverFalls", fn := fun _ => fun
  | [d1, d2] => { results := [.lit (.bool true)], args := [d1, d2] }
  | _ => none }
def ascentNeverFallsRow : OpenClaim := { program := "ytoohdcpikkkanaagreat", sum := "6340436eeec7ae272826898819046d39d69360a367bf567119937b2b2f50fe86", func := "weighted/weightedlaw39.AscentNeverFalls", spec := "ascentNeverFalls", unfollowed := true, recurses := true, apart := false }
def AscentNeverFallsSaid : Prop := ascentNeverFallsRow.holds Tryz.pinned (OpenSpec.ofChange ascentNeverFallsSpec)

/-- ITS FALSE NEIGHBOUR: 'it returns false'. Refute it at one input. -/
def ascentNeverFallsWrong : ChangeSpec := { name := "ascentNeverFalls", fn := fun _ => fun
  | [d1, d2] => { results := [.lit (.bool false)], args := [d1, d2] }
  | _ => none }
def AscentNeverFallsWrongFalsely : Prop := ascentNeverFallsRow.holds Tryz.pinned (OpenSpec.ofChange ascentNeverFallsWrong)

/-- 'weightedlaw39.AscentEncloses': WHATEVER THE INPUT: true; the input reads as it did. -/
def ascentEnclosesSpec : ChangeSpec := { name := "ascentEncloses", fn := fun _ => fun
  | [d1, d2, d3] => { results := [.lit (.bool true)], args := [d1, d2, d3] }
  | _ => none }
def ascentEnclosesRow : OpenClaim := { program := "ytoohdcpikkkanaagreat", sum := "6340436eeec7ae272826898819046d39d69360a367bf567119937b2b2f50fe86", func := "weighted/weightedlaw39.AscentEncloses", spec := "ascentEncloses", unfollowed := true, recurses := true, apart := false }
def AscentEnclosesSaid : Prop := ascentEnclosesRow.holds Tryz.pinned (OpenSpec.ofChange ascentEnclosesSpec)

/-- ITS FALSE NEIGHBOUR: 'it returns false'. Refute it at one input. -/
def ascentEnclosesWrong : ChangeSpec := { name := "ascentEncloses", fn := fun _ => fun
  | [d1, d2, d3] => { results := [.lit (.bool false)], args := [d1, d2, d3] }
  | _ => none }
def AscentEnclosesWrongFalsely : Prop := ascentEnclosesRow.holds Tryz.pinned (OpenSpec.ofChange ascentEnclosesWrong)

/-- 'weightedlaw39.AscentClimbs': WHATEVER THE INPUT: true; the input reads as it did. -/
def ascentClimbsSpec : ChangeSpec := { name := "ascentClimbs", fn := fun _ => fun
  | [d1, d2, d3, d4] => { results := [.lit (.bool true)], args := [d1, d2, d3, d4] }
  | _ => none }
def ascentClimbsRow : OpenClaim := { program := "ytoohdcpikkkanaagreat", sum := "6340436eeec7ae272826898819046d39d69360a367bf567119937b2b2f50fe86", func := "weighted/weightedlaw39.AscentClimbs", spec := "ascentClimbs", unfollowed := true, recurses := true, apart := false }
def AscentClimbsSaid : Prop := ascentClimbsRow.holds Tryz.pinned (OpenSpec.ofChange ascentClimbsSpec)

/-- ITS FALSE NEIGHBOUR: 'it returns false'. Refute it at one input. -/
def ascentClimbsWrong : ChangeSpec := { name := "ascentClimbs", fn := fun _ => fun
  | [d1, d2, d3, d4] => { results := [.lit (.bool false)], args := [d1, d2, d3, d4] }
  | _ => none }
def AscentClimbsWrongFalsely : Prop := ascentClimbsRow.holds Tryz.pinned (OpenSpec.ofChange ascentClimbsWrong)

/- THE SECOND FORM. 'bulk': how many values and letters a reading holds, each counted each time it is reached (what is shared counts as often as it is met; a slice's spare places count too). A statement '..UptoSaid' is the law's where the arguments, and the package variables that the reading takes, are together of bulk at most 1048576: NARROWER than '..Said'. Prove '..Said' where nothing that the law and all that it calls make is longer than what came in: it says more and counts as full. Else prove '..UptoSaid'. A law counts once. -/
mutual
def uptoBulk {H : Type} : DataW H → Nat
  | .lit (.string bytes) => bytes.length + 1
  | .lit _ => 1
  | .nil => 1
  | .ptr d => uptoBulk d + 1
  | .slice elems spare => uptoBulkAll elems + uptoBulkAll spare + 1
  | .agg parts => uptoBulkAll parts + 1
  | .iface _ d => uptoBulk d + 1
  | .map entries => uptoBulkEntries entries + 1
  | .held _ => 1
def uptoBulkAll {H : Type} : List (DataW H) → Nat
  | [] => 0
  | d :: r => uptoBulk d + uptoBulkAll r
def uptoBulkEntries {H : Type} : List (Lit × DataW H) → Nat
  | [] => 0
  | x :: r => uptoBulkEntry x + uptoBulkEntries r
def uptoBulkEntry {H : Type} : Lit × DataW H → Nat
  | (.string bytes, d) => bytes.length + uptoBulk d + 1
  | (_, d) => uptoBulk d + 1
 end
def uptoSmall : (H : Type) → List (DataW H) → Bool := fun _ ds => decide (uptoBulkAll ds ≤ 1048576)
def OpenSpec.upto (s : _root_.Go.ChangeSpec) : _root_.Go.OpenSpec := { _root_.Go.OpenSpec.ofChange s with cond := some uptoSmall }

/-- 'weightedlaw39.AscentRounds', WHERE WHAT IT READS IS OF BULK AT MOST 1048576: true; the input reads as it did. -/
def ascentRoundsUptoRow : OpenClaim := { program := "ytoohdcpikkkanaagreat", sum := "6340436eeec7ae272826898819046d39d69360a367bf567119937b2b2f50fe86", func := "weighted/weightedlaw39.AscentRounds", spec := "ascentRounds", unfollowed := true, recurses := true, apart := false, narrowed := true }
def AscentRoundsUptoSaid : Prop := ascentRoundsUptoRow.holds Tryz.pinned (OpenSpec.upto ascentRoundsSpec)

/-- 'weightedlaw39.AscentNeverFalls', WHERE WHAT IT READS IS OF BULK AT MOST 1048576: true; the input reads as it did. -/
def ascentNeverFallsUptoRow : OpenClaim := { program := "ytoohdcpikkkanaagreat", sum := "6340436eeec7ae272826898819046d39d69360a367bf567119937b2b2f50fe86", func := "weighted/weightedlaw39.AscentNeverFalls", spec := "ascentNeverFalls", unfollowed := true, recurses := true, apart := false, narrowed := true }
def AscentNeverFallsUptoSaid : Prop := ascentNeverFallsUptoRow.holds Tryz.pinned (OpenSpec.upto ascentNeverFallsSpec)

/-- 'weightedlaw39.AscentEncloses', WHERE WHAT IT READS IS OF BULK AT MOST 1048576: true; the input reads as it did. -/
def ascentEnclosesUptoRow : OpenClaim := { program := "ytoohdcpikkkanaagreat", sum := "6340436eeec7ae272826898819046d39d69360a367bf567119937b2b2f50fe86", func := "weighted/weightedlaw39.AscentEncloses", spec := "ascentEncloses", unfollowed := true, recurses := true, apart := false, narrowed := true }
def AscentEnclosesUptoSaid : Prop := ascentEnclosesUptoRow.holds Tryz.pinned (OpenSpec.upto ascentEnclosesSpec)

/-- 'weightedlaw39.AscentClimbs', WHERE WHAT IT READS IS OF BULK AT MOST 1048576: true; the input reads as it did. -/
def ascentClimbsUptoRow : OpenClaim := { program := "ytoohdcpikkkanaagreat", sum := "6340436eeec7ae272826898819046d39d69360a367bf567119937b2b2f50fe86", func := "weighted/weightedlaw39.AscentClimbs", spec := "ascentClimbs", unfollowed := true, recurses := true, apart := false, narrowed := true }
def AscentClimbsUptoSaid : Prop := ascentClimbsUptoRow.holds Tryz.pinned (OpenSpec.upto ascentClimbsSpec)

end Rows
end Go.Proofs.YtoohdcpikkkanaaGreat

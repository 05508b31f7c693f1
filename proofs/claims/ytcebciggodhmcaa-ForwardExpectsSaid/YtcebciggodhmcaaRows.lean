/-
  No cell of these rows narrows 'for every input' (looked for: loops, veiled, ifaces, maps, wideKeys, modest, calm, conditions, laid).
  DERIVED. THE GIVEN ROWS OF THIS SEAT. 3 by the template 'for every input the law returns true; each argument reads behind the call as it read before'; 0 by the template 'total and deterministic' (their statements: YtcebciggodhmcaaTotals.lean).
  GIVEN WITH THE SEED: the statements are not yours to turn. If you find one false, say at which input.
  Laid BY PROGRAM, IN A SANDBOX (cutbox-rows.mjs): the forced cells as the released guide's own fill.sh prints them over the translation 1933e00b9c0cade9… (all of the seat's roots in one cut). By AI agents, Wed Nov 11 2026. No macro, syntax, notation, axiom, sorry.
-/
import Derived.Test.YtcebciggodhmcaaChecked
import GoSem.Claim
import GoSem.ClaimJoined
import GoSem.ClaimMapViews
import Derived.JoinedTies
import Derived.KernelRfl
namespace Go.Proofs.Ytcebciggodhmcaa
/- THE CELL 'sum', in the pinned program and in every row, IS THE sha256 OF THE DUMP (.gsa) THAT YtcebciggodhmcaaProg.lean LOADS. Nothing in Lean hashes anything: it is a label: what it is worth is what the hold of that sum in a sandbox is worth. -/
noncomputable def Try.pinned : Pinned := { name := "ytcebciggodhmcaa", sum := "1933e00b9c0cade95dce2840177c8264812f266d90ed91b1aab3844f6136c19a", checked := Try.checked }
namespace Rows
def none {H : Type} : Left H := { results := [], args := [] }

/-- 'weightedlaw40.SampleReadsNoMore': WHATEVER THE INPUT: true; the input reads as it did. -/
def sampleReadsNoMoreSpec : ChangeSpec := { name := "sampleReadsNoMore", fn := fun _ => fun
  | [d1, d2, d3] => { results := [.lit (.bool true)], args := [d1, d2, d3] }
  | _ => none }
def sampleReadsNoMoreRow : OpenClaim := { program := "ytcebciggodhmcaa", sum := "1933e00b9c0cade95dce2840177c8264812f266d90ed91b1aab3844f6136c19a", func := "weighted/weightedlaw40.SampleReadsNoMore", spec := "sampleReadsNoMore", unfollowed := true, recurses := true, apart := false }
def SampleReadsNoMoreSaid : Prop := sampleReadsNoMoreRow.holds Try.pinned (OpenSpec.ofChange sampleReadsNoMoreSpec)

/-- ITS FALSE NEIGHBOUR: 'it returns false'. Refute it at one input. -/
def sampleReadsNoMoreWrong : ChangeSpec := { name := "sampleReadsNoMore", fn := fun _ => fun
  | [d1, d2, d3] => { results := [.lit (.bool false)], args := [d1, d2, d3] }
  | _ => none }
def SampleReadsNoMoreWrongFalsely : Prop := sampleReadsNoMoreRow.holds Try.pinned (OpenSpec.ofChange sampleReadsNoMoreWrong)

/-- 'weightedlaw36.CheckpointStores': WHATEVER THE INPUT: true; the input reads as it did. -/
def checkpointStoresSpec : ChangeSpec := { name := "checkpointStores", fn := fun _ => fun
  | [d1, d2] => { results := [.lit (.bool true)], args := [d1, d2] }
  | _ => none }
def checkpointStoresRow : OpenClaim := { program := "ytcebciggodhmcaa", sum := "1933e00b9c0cade95dce2840177c8264812f266d90ed91b1aab3844f6136c19a", func := "weighted/weightedlaw36.CheckpointStores", spec := "checkpointStores", unfollowed := true, recurses := true, apart := false }
def CheckpointStoresSaid : Prop := checkpointStoresRow.holds Try.pinned (OpenSpec.ofChange checkpointStoresSpec)

/-- ITS FALSE NEIGHBOUR: 'it returns false'. Refute it at one input. -/
def checkpointStoresWrong : ChangeSpec := { name := "checkpointStores", fn := fun _ => fun
  | [d1, d2] => { results := [.lit (.bool false)], args := [d1, d2] }
  | _ => none }
def CheckpointStoresWrongFalsely : Prop := checkpointStoresRow.holds Try.pinned (OpenSpec.ofChange checkpointStoresWrong)

/-- 'weightedlaw34.ForwardExpects': WHATEVER THE INPUT: true; the input reads as it did. -/
def forwardExpectsSpec : ChangeSpec := { name := "forwardExpects", fn := fun _ => fun
  | [d1, d2] => { results := [.lit (.bool true)], args := [d1, d2] }
  | _ => none }
def forwardExpectsRow : OpenClaim := { program := "ytcebciggodhmcaa", sum := "1933e00b9c0cade95dce2840177c8264812f266d90ed91b1aab3844f6136c19a", func := "weighted/weightedlaw34.ForwardExpects", spec := "forwardExpects", unfollowed := true, recurses := true, apart := false }
def ForwardExpectsSaid : Prop := forwardExpectsRow.holds Try.pinned (OpenSpec.ofChange forwardExpectsSpec)

/-- ITS FALSE NEIGHBOUR: 'it returns false'. Refute it at one input. -/
def forwardExpectsWrong : ChangeSpec := { name := "forwardExpects", fn := fun _ => fun
  | [d1, d2] => { results := [.lit (.bool false)], args := [d1, d2] }
  | _ => none }
def ForwardExpectsWrongFalsely : Prop := forwardExpectsRow.holds Try.pinned (OpenSpec.ofChange forwardExpectsWrong)

/- THE SECOND FORM. 'bulk': how many values and letters a reading holds, each counted each time it is reached (what is shared counts as often as it is met; a slice's spare places count too). A statement '..UptoSaid' is the law's where the arguments, and the package variables that the reading takes, are together of bulk at most 1048576: NARROWER than '..Said'. Prove '..Said' where nothing that the law and all that it calls make is longer than what came in: it says more and counts as full. Else prove '..UptoSaid'. A law counts once. -/
mutual
def uptoBulk {H : Type} : DataW H → Nat
  | .lit (.string bytes) => bytes.length + 1
  | .lit _ => 1
  | .nil => 1
  | .ptr d => uptoBulk d + 1
  | .slice elems spare => uptoBulkAll elems + uptoBulkAll spare + 1
  | .agg parts => uptoBulkAll parts + 1
  | .iface _ d => uptoBulk d + 1
  | .map entries => uptoBulkEntries entries + 1
  | .held _ => 1
def uptoBulkAll {H : Type} : List (DataW H) → Nat
  | [] => 0
  | d :: r => uptoBulk d + uptoBulkAll r
def uptoBulkEntries {H : Type} : List (Lit × DataW H) → Nat
  | [] => 0
  | x :: r => uptoBulkEntry x + uptoBulkEntries r
def uptoBulkEntry {H : Type} : Lit × DataW H → Nat
  | (.string bytes, d) => bytes.length + uptoBulk d + 1
  | (_, d) => uptoBulk d + 1
 end
def uptoSmall : (H : Type) → List (DataW H) → Bool := fun _ ds => decide (uptoBulkAll ds ≤ 1048576)
def OpenSpec.upto (s : _root_.Go.ChangeSpec) : _root_.Go.OpenSpec := { _root_.Go.OpenSpec.ofChange s with cond := some uptoSmall }

/-- 'weightedlaw40.SampleReadsNoMore', WHERE WHAT IT READS IS OF BULK AT MOST 1048576: true; the input reads as it did. -/
def sampleReadsNoMoreUptoRow : OpenClaim := { program := "ytcebciggodhmcaa", sum := "1933e00b9c0cade95dce2840177c8264812f266d90ed91b1aab3844f6136c19a", func := "weighted/weightedlaw40.SampleReadsNoMore", spec := "sampleReadsNoMore", unfollowed := true, recurses := true, apart := false, narrowed := true }
def SampleReadsNoMoreUptoSaid : Prop := sampleReadsNoMoreUptoRow.holds Try.pinned (OpenSpec.upto sampleReadsNoMoreSpec)

/-- 'weightedlaw36.CheckpointStores', WHERE WHAT IT READS IS OF BULK AT MOST 1048576: true; the input reads as it did. -/
def checkpointStoresUptoRow : OpenClaim := { program := "ytcebciggodhmcaa", sum := "1933e00b9c0cade95dce2840177c8264812f266d90ed91b1aab3844f6136c19a", func := "weighted/weightedlaw36.CheckpointStores", spec := "checkpointStores", unfollowed := true, recurses := true, apart := false, narrowed := true }
def CheckpointStoresUptoSaid : Prop := checkpointStoresUptoRow.holds Try.pinned (OpenSpec.upto checkpointStoresSpec)

/-- 'weightedlaw34.ForwardExpects', WHERE WHAT IT READS IS OF BULK AT MOST 1048576: true; the input reads as it did. -/
def forwardExpectsUptoRow : OpenClaim := { program := "ytcebciggodhmcaa", sum := "1933e00b9c0cade95dce2840177c8264812f266d90ed91b1aab3844f6136c19a", func := "weighted/weightedlaw34.ForwardExpects", spec := "forwardExpects", unfollowed := true, recurses := true, apart := false, narrowed := true }
def ForwardExpectsUptoSaid : Prop := forwardExpectsUptoRow.holds Try.pinned (OpenSpec.upto forwardExpectsSpec)

end Rows
end Go.Proofs.Ytcebciggodhmcaa

/-
  No cell of these rows narrows 'for every input' (looked for: loops, veiled, ifaces, maps, wideKeys, modest, calm, conditions, laid).
  DERIVED. THE GIVEN ROWS OF THIS SEAT. 15 by the template 'for every input the law returns true; each argument reads behind the call as it read before'; 0 by the template 'total and deterministic' (their statements: YtcebciggodhmcaaGreatTotals.lean).
  GIVEN WITH THE SEED: the statements are not yours to turn. If you find one false, say at which input.
  Laid BY PROGRAM, IN A SANDBOX (cutbox-rows.mjs): the forced cells as the released guide's own fill.sh prints them over the translation 9e543168369854de… (all of the seat's roots in one cut). By AI agents, Wed Nov 11 2026. No macro, syntax, notation, axiom, sorry.
-/
import Derived.Test.YtcebciggodhmcaaGreatChecked
import GoSem.Claim
import GoSem.ClaimJoined
import GoSem.ClaimMapViews
import Derived.JoinedTies
import Derived.KernelRfl
namespace Go.Proofs.YtcebciggodhmcaaGreat
/- THE CELL 'sum', in the pinned program and in every row, IS THE sha256 OF THE DUMP (.gsa) THAT YtcebciggodhmcaaGreatProg.lean LOADS. Nothing in Lean hashes anything: it is a label: what it is worth is what the hold of that sum in a sandbox is worth. -/
noncomputable def Tryz.pinned : Pinned := { name := "ytcebciggodhmcaagreat", sum := "9e543168369854de8a004b2f35a8ad2498b98b9f5bf314bad1d917c1c09762cd", checked := Tryz.checked }
namespace Rows
def none {H : Type} : Left H := { results := [], args := [] }

/-- 'weightedlaw35.ViterbiWithin': WHATEVER THE INPUT: true; the input reads as it did. -/
def viterbiWithinSpec : ChangeSpec := { name := "viterbiWithin", fn := fun _ => fun
  | [d1, d2, d3] => { results := [.lit (.bool true)], args := [d1, d2, d3] }
  | _ => none }
def viterbiWithinRow : OpenClaim := { program := "ytcebciggodhmcaagreat", sum := "9e543168369854de8a004b2f35a8ad2498b98b9f5bf314bad1d917c1c09762cd", func := "weighted/weightedlaw35.ViterbiWithin", spec := "viterbiWithin", unfollowed := true, recurses := true, apart := false }
def ViterbiWithinSaid : Prop := viterbiWithinRow.holds Tryz.pinned (OpenSpec.ofChange viterbiWithinSpec)

/-- ITS FALSE NEIGHBOUR: 'it returns false'. Refute it at one input. -/
def viterbiWithinWrong : ChangeSpec := { name := "viterbiWithin", fn := fun _ => fun
  | [d1, d2, d3] => { results := [.lit (.bool false)], args := [d1, d2, d3] }
  | _ => none }
def ViterbiWithinWrongFalsely : Prop := viterbiWithinRow.holds Tryz.pinned (OpenSpec.ofChange viterbiWithinWrong)

/-- 'weightedlaw34.ForwardIsExhaustive': WHATEVER THE INPUT: true; the input reads as it did. -/
def forwardIsExhaustiveSpec : ChangeSpec := { name := "forwardIsExhaustive", fn := fun _ => fun
  | [d1, d2, d3, d4] => { results := [.lit (.bool true)], args := [d1, d2, d3, d4] }
  | _ => none }
def forwardIsExhaustiveRow : OpenClaim := { program := "ytcebciggodhmcaagreat", sum := "9e543168369854de8a004b2f35a8ad2498b98b9f5bf314bad1d917c1c09762cd", func := "weighted/weightedlaw34.ForwardIsExhaustive", spec := "forwardIsExhaustive", unfollowed := true, recurses := true, apart := false }
def ForwardIsExhaustiveSaid : Prop := forwardIsExhaustiveRow.holds Tryz.pinned (OpenSpec.ofChange forwardIsExhaustiveSpec)

/-- ITS FALSE NEIGHBOUR: 'it returns false'. Refute it at one input. -/
def forwardIsExhaustiveWrong : ChangeSpec := { name := "forwardIsExhaustive", fn := fun _ => fun
  | [d1, d2, d3, d4] => { results := [.lit (.bool false)], args := [d1, d2, d3, d4] }
  | _ => none }
def ForwardIsExhaustiveWrongFalsely : Prop := forwardIsExhaustiveRow.holds Tryz.pinned (OpenSpec.ofChange forwardIsExhaustiveWrong)

/-- 'weightedlaw40.SampleIsFair': WHATEVER THE INPUT: true; the input reads as it did. -/
def sampleIsFairSpec : ChangeSpec := { name := "sampleIsFair", fn := fun _ => fun
  | [d1, d2, d3] => { results := [.lit (.bool true)], args := [d1, d2, d3] }
  | _ => none }
def sampleIsFairRow : OpenClaim := { program := "ytcebciggodhmcaagreat", sum := "9e543168369854de8a004b2f35a8ad2498b98b9f5bf314bad1d917c1c09762cd", func := "weighted/weightedlaw40.SampleIsFair", spec := "sampleIsFair", unfollowed := true, recurses := true, apart := false }
def SampleIsFairSaid : Prop := sampleIsFairRow.holds Tryz.pinned (OpenSpec.ofChange sampleIsFairSpec)

/-- ITS FALSE NEIGHBOUR: 'it returns false'. Refute it at one input. -/
def sampleIsFairWrong : ChangeSpec := { name := "sampleIsFair", fn := fun _ => fun
  | [d1, d2, d3] => { results := [.lit (.bool false)], args := [d1, d2, d3] }
  | _ => none }
def SampleIsFairWrongFalsely : Prop := sampleIsFairRow.holds Tryz.pinned (OpenSpec.ofChange sampleIsFairWrong)

/-- 'weightedlaw40.SampleActs': WHATEVER THE INPUT: true; the input reads as it did. -/
def sampleActsSpec : ChangeSpec := { name := "sampleActs", fn := fun _ => fun
  | [d1, d2, d3, d4, d5] => { results := [.lit (.bool true)], args := [d1, d2, d3, d4, d5] }
  | _ => none }
def sampleActsRow : OpenClaim := { program := "ytcebciggodhmcaagreat", sum := "9e543168369854de8a004b2f35a8ad2498b98b9f5bf314bad1d917c1c09762cd", func := "weighted/weightedlaw40.SampleActs", spec := "sampleActs", unfollowed := true, recurses := true, apart := false }
def SampleActsSaid : Prop := sampleActsRow.holds Tryz.pinned (OpenSpec.ofChange sampleActsSpec)

/-- ITS FALSE NEIGHBOUR: 'it returns false'. Refute it at one input. -/
def sampleActsWrong : ChangeSpec := { name := "sampleActs", fn := fun _ => fun
  | [d1, d2, d3, d4, d5] => { results := [.lit (.bool false)], args := [d1, d2, d3, d4, d5] }
  | _ => none }
def SampleActsWrongFalsely : Prop := sampleActsRow.holds Tryz.pinned (OpenSpec.ofChange sampleActsWrong)

/-- 'weightedlaw40.SampleIsInOrder': WHATEVER THE INPUT: true; the input reads as it did. -/
def sampleIsInOrderSpec : ChangeSpec := { name := "sampleIsInOrder", fn := fun _ => fun
  | [d1, d2] => { results := [.lit (.bool true)], args := [d1, d2] }
  | _ => none }
def sampleIsInOrderRow : OpenClaim := { program := "ytcebciggodhmcaagreat", sum := "9e543168369854de8a004b2f35a8ad2498b98b9f5bf314bad1d917c1c09762cd", func := "weighted/weightedlaw40.SampleIsInOrder", spec := "sampleIsInOrder", unfollowed := true, recurses := true, apart := false }
def SampleIsInOrderSaid : Prop := sampleIsInOrderRow.holds Tryz.pinned (OpenSpec.ofChange sampleIsInOrderSpec)

/-- ITS FALSE NEIGHBOUR: 'it returns false'. Refute it at one input. -/
def sampleIsInOrderWrong : ChangeSpec := { name := "sampleIsInOrder", fn := fun _ => fun
  | [d1, d2] => { results := [.lit (.bool false)], args := [d1, d2] }
  | _ => none }
def SampleIsInOrderWrongFalsely : Prop := sampleIsInOrderRow.holds Tryz.pinned (OpenSpec.ofChange sampleIsInOrderWrong)

/-- 'weightedlaw34.ForwardActs': WHATEVER THE INPUT: true; the input reads as it did. -/
def forwardActsSpec : ChangeSpec := { name := "forwardActs", fn := fun _ => fun
  | [d1, d2] => { results := [.lit (.bool true)], args := [d1, d2] }
  | _ => none }
def forwardActsRow : OpenClaim := { program := "ytcebciggodhmcaagreat", sum := "9e543168369854de8a004b2f35a8ad2498b98b9f5bf314bad1d917c1c09762cd", func := "weighted/weightedlaw34.ForwardActs", spec := "forwardActs", unfollowed := true, recurses := true, apart := false }
def ForwardActsSaid : Prop := forwardActsRow.holds Tryz.pinned (OpenSpec.ofChange forwardActsSpec)

/-- ITS FALSE NEIGHBOUR: 'it returns false'. Refute it at one input. -/
def forwardActsWrong : ChangeSpec := { name := "forwardActs", fn := fun _ => fun
  | [d1, d2] => { results := [.lit (.bool false)], args := [d1, d2] }
  | _ => none }
def ForwardActsWrongFalsely : Prop := forwardActsRow.holds Tryz.pinned (OpenSpec.ofChange forwardActsWrong)

/-- 'weightedlaw36.CheckpointActs': WHATEVER THE INPUT: true; the input reads as it did. -/
def checkpointActsSpec : ChangeSpec := { name := "checkpointActs", fn := fun _ => fun
  | [d1, d2, d3, d4, d5, d6] => { results := [.lit (.bool true)], args := [d1, d2, d3, d4, d5, d6] }
  | _ => none }
def checkpointActsRow : OpenClaim := { program := "ytcebciggodhmcaagreat", sum := "9e543168369854de8a004b2f35a8ad2498b98b9f5bf314bad1d917c1c09762cd", func := "weighted/weightedlaw36.CheckpointActs", spec := "checkpointActs", unfollowed := true, recurses := true, apart := false }
def CheckpointActsSaid : Prop := checkpointActsRow.holds Tryz.pinned (OpenSpec.ofChange checkpointActsSpec)

/-- ITS FALSE NEIGHBOUR: 'it returns false'. Refute it at one input. -/
def checkpointActsWrong : ChangeSpec := { name := "checkpointActs", fn := fun _ => fun
  | [d1, d2, d3, d4, d5, d6] => { results := [.lit (.bool false)], args := [d1, d2, d3, d4, d5, d6] }
  | _ => none }
def CheckpointActsWrongFalsely : Prop := checkpointActsRow.holds Tryz.pinned (OpenSpec.ofChange checkpointActsWrong)

/-- 'weightedlaw36.CheckpointCuts': WHATEVER THE INPUT: true; the input reads as it did. -/
def checkpointCutsSpec : ChangeSpec := { name := "checkpointCuts", fn := fun _ => fun
  | [d1, d2, d3] => { results := [.lit (.bool true)], args := [d1, d2, d3] }
  | _ => none }
def checkpointCutsRow : OpenClaim := { program := "ytcebciggodhmcaagreat", sum := "9e543168369854de8a004b2f35a8ad2498b98b9f5bf314bad1d917c1c09762cd", func := "weighted/weightedlaw36.CheckpointCuts", spec := "checkpointCuts", unfollowed := true, recurses := true, apart := false }
def CheckpointCutsSaid : Prop := checkpointCutsRow.holds Tryz.pinned (OpenSpec.ofChange checkpointCutsSpec)

/-- ITS FALSE NEIGHBOUR: 'it returns false'. Refute it at one input. -/
def checkpointCutsWrong : ChangeSpec := { name := "checkpointCuts", fn := fun _ => fun
  | [d1, d2, d3] => { results := [.lit (.bool false)], args := [d1, d2, d3] }
  | _ => none }
def CheckpointCutsWrongFalsely : Prop := checkpointCutsRow.holds Tryz.pinned (OpenSpec.ofChange checkpointCutsWrong)

/-- 'weightedlaw40.SampleHitsItsRange': WHATEVER THE INPUT: true; the input reads as it did. -/
def sampleHitsItsRangeSpec : ChangeSpec := { name := "sampleHitsItsRange", fn := fun _ => fun
  | [d1, d2] => { results := [.lit (.bool true)], args := [d1, d2] }
  | _ => none }
def sampleHitsItsRangeRow : OpenClaim := { program := "ytcebciggodhmcaagreat", sum := "9e543168369854de8a004b2f35a8ad2498b98b9f5bf314bad1d917c1c09762cd", func := "weighted/weightedlaw40.SampleHitsItsRange", spec := "sampleHitsItsRange", unfollowed := true, recurses := true, apart := false }
def SampleHitsItsRangeSaid : Prop := sampleHitsItsRangeRow.holds Tryz.pinned (OpenSpec.ofChange sampleHitsItsRangeSpec)

/-- ITS FALSE NEIGHBOUR: 'it returns false'. Refute it at one input. -/
def sampleHitsItsRangeWrong : ChangeSpec := { name := "sampleHitsItsRange", fn := fun _ => fun
  | [d1, d2] => { results := [.lit (.bool false)], args := [d1, d2] }
  | _ => none }
def SampleHitsItsRangeWrongFalsely : Prop := sampleHitsItsRangeRow.holds Tryz.pinned (OpenSpec.ofChange sampleHitsItsRangeWrong)

/-- 'weightedlaw37.OnlineSteps': WHATEVER THE INPUT: true; the input reads as it did. -/
def onlineStepsSpec : ChangeSpec := { name := "onlineSteps", fn := fun _ => fun
  | [d1, d2] => { results := [.lit (.bool true)], args := [d1, d2] }
  | _ => none }
def onlineStepsRow : OpenClaim := { program := "ytcebciggodhmcaagreat", sum := "9e543168369854de8a004b2f35a8ad2498b98b9f5bf314bad1d917c1c09762cd", func := "weighted/weightedlaw37.OnlineSteps", spec := "onlineSteps", unfollowed := true, recurses := true, apart := false }
def OnlineStepsSaid : Prop := onlineStepsRow.holds Tryz.pinned (OpenSpec.ofChange onlineStepsSpec)

/-- ITS FALSE NEIGHBOUR: 'it returns false'. Refute it at one input. -/
def onlineStepsWrong : ChangeSpec := { name := "onlineSteps", fn := fun _ => fun
  | [d1, d2] => { results := [.lit (.bool false)], args := [d1, d2] }
  | _ => none }
def OnlineStepsWrongFalsely : Prop := onlineStepsRow.holds Tryz.pinned (OpenSpec.ofChange onlineStepsWrong)

/-- 'weightedlaw37.OnlineScores': WHATEVER THE INPUT: true; the input reads as it did. -/
def onlineScoresSpec : ChangeSpec := { name := "onlineScores", fn := fun _ => fun
  | [d1, d2] => { results := [.lit (.bool true)], args := [d1, d2] }
  | _ => none }
def onlineScoresRow : OpenClaim := { program := "ytcebciggodhmcaagreat", sum := "9e543168369854de8a004b2f35a8ad2498b98b9f5bf314bad1d917c1c09762cd", func := "weighted/weightedlaw37.OnlineScores", spec := "onlineScores", unfollowed := true, recurses := true, apart := false }
def OnlineScoresSaid : Prop := onlineScoresRow.holds Tryz.pinned (OpenSpec.ofChange onlineScoresSpec)

/-- ITS FALSE NEIGHBOUR: 'it returns false'. Refute it at one input. -/
def onlineScoresWrong : ChangeSpec := { name := "onlineScores", fn := fun _ => fun
  | [d1, d2] => { results := [.lit (.bool false)], args := [d1, d2] }
  | _ => none }
def OnlineScoresWrongFalsely : Prop := onlineScoresRow.holds Tryz.pinned (OpenSpec.ofChange onlineScoresWrong)

/-- 'weightedlaw36.CheckpointIsViterbi': WHATEVER THE INPUT: true; the input reads as it did. -/
def checkpointIsViterbiSpec : ChangeSpec := { name := "checkpointIsViterbi", fn := fun _ => fun
  | [d1, d2, d3, d4] => { results := [.lit (.bool true)], args := [d1, d2, d3, d4] }
  | _ => none }
def checkpointIsViterbiRow : OpenClaim := { program := "ytcebciggodhmcaagreat", sum := "9e543168369854de8a004b2f35a8ad2498b98b9f5bf314bad1d917c1c09762cd", func := "weighted/weightedlaw36.CheckpointIsViterbi", spec := "checkpointIsViterbi", unfollowed := true, recurses := true, apart := false }
def CheckpointIsViterbiSaid : Prop := checkpointIsViterbiRow.holds Tryz.pinned (OpenSpec.ofChange checkpointIsViterbiSpec)

/-- ITS FALSE NEIGHBOUR: 'it returns false'. Refute it at one input. -/
def checkpointIsViterbiWrong : ChangeSpec := { name := "checkpointIsViterbi", fn := fun _ => fun
  | [d1, d2, d3, d4] => { results := [.lit (.bool false)], args := [d1, d2, d3, d4] }
  | _ => none }
def CheckpointIsViterbiWrongFalsely : Prop := checkpointIsViterbiRow.holds Tryz.pinned (OpenSpec.ofChange checkpointIsViterbiWrong)

/-- 'weightedlaw37.OnlineNeverTakesBack': WHATEVER THE INPUT: true; the input reads as it did. -/
def onlineNeverTakesBackSpec : ChangeSpec := { name := "onlineNeverTakesBack", fn := fun _ => fun
  | [d1, d2, d3] => { results := [.lit (.bool true)], args := [d1, d2, d3] }
  | _ => none }
def onlineNeverTakesBackRow : OpenClaim := { program := "ytcebciggodhmcaagreat", sum := "9e543168369854de8a004b2f35a8ad2498b98b9f5bf314bad1d917c1c09762cd", func := "weighted/weightedlaw37.OnlineNeverTakesBack", spec := "onlineNeverTakesBack", unfollowed := true, recurses := true, apart := false }
def OnlineNeverTakesBackSaid : Prop := onlineNeverTakesBackRow.holds Tryz.pinned (OpenSpec.ofChange onlineNeverTakesBackSpec)

/-- ITS FALSE NEIGHBOUR: 'it returns false'. Refute it at one input. -/
def onlineNeverTakesBackWrong : ChangeSpec := { name := "onlineNeverTakesBack", fn := fun _ => fun
  | [d1, d2, d3] => { results := [.lit (.bool false)], args := [d1, d2, d3] }
  | _ => none }
def OnlineNeverTakesBackWrongFalsely : Prop := onlineNeverTakesBackRow.holds Tryz.pinned (OpenSpec.ofChange onlineNeverTakesBackWrong)

/-- 'weightedlaw37.OnlineActs': WHATEVER THE INPUT: true; the input reads as it did. -/
def onlineActsSpec : ChangeSpec := { name := "onlineActs", fn := fun _ => fun
  | [d1, d2, d3, d4] => { results := [.lit (.bool true)], args := [d1, d2, d3, d4] }
  | _ => none }
def onlineActsRow : OpenClaim := { program := "ytcebciggodhmcaagreat", sum := "9e543168369854de8a004b2f35a8ad2498b98b9f5bf314bad1d917c1c09762cd", func := "weighted/weightedlaw37.OnlineActs", spec := "onlineActs", unfollowed := true, recurses := true, apart := false }
def OnlineActsSaid : Prop := onlineActsRow.holds Tryz.pinned (OpenSpec.ofChange onlineActsSpec)

/-- ITS FALSE NEIGHBOUR: 'it returns false'. Refute it at one input. -/
def onlineActsWrong : ChangeSpec := { name := "onlineActs", fn := fun _ => fun
  | [d1, d2, d3, d4] => { results := [.lit (.bool false)], args := [d1, d2, d3, d4] }
  | _ => none }
def OnlineActsWrongFalsely : Prop := onlineActsRow.holds Tryz.pinned (OpenSpec.ofChange onlineActsWrong)

/-- 'weightedlaw37.OnlineIsViterbi': WHATEVER THE INPUT: true; the input reads as it did. -/
def onlineIsViterbiSpec : ChangeSpec := { name := "onlineIsViterbi", fn := fun _ => fun
  | [d1, d2] => { results := [.lit (.bool true)], args := [d1, d2] }
  | _ => none }
def onlineIsViterbiRow : OpenClaim := { program := "ytcebciggodhmcaagreat", sum := "9e543168369854de8a004b2f35a8ad2498b98b9f5bf314bad1d917c1c09762cd", func := "weighted/weightedlaw37.OnlineIsViterbi", spec := "onlineIsViterbi", unfollowed := true, recurses := true, apart := false }
def OnlineIsViterbiSaid : Prop := onlineIsViterbiRow.holds Tryz.pinned (OpenSpec.ofChange onlineIsViterbiSpec)

/-- ITS FALSE NEIGHBOUR: 'it returns false'. Refute it at one input. -/
def onlineIsViterbiWrong : ChangeSpec := { name := "onlineIsViterbi", fn := fun _ => fun
  | [d1, d2] => { results := [.lit (.bool false)], args := [d1, d2] }
  | _ => none }
def OnlineIsViterbiWrongFalsely : Prop := onlineIsViterbiRow.holds Tryz.pinned (OpenSpec.ofChange onlineIsViterbiWrong)

/- THE SECOND FORM. 'bulk': how many values and letters a reading holds, each counted each time it is reached (what is shared counts as often as it is met; a slice's spare places count too). A statement '..UptoSaid' is the law's where the arguments, and the package variables that the reading takes, are together of bulk at most 1048576: NARROWER than '..Said'. Prove '..Said' where nothing that the law and all that it calls make is longer than what came in: it says more and counts as full. Else prove '..UptoSaid'. A law counts once. -/
mutual
def uptoBulk {H : Type} : DataW H → Nat
  | .lit (.string bytes) => bytes.length + 1
  | .lit _ => 1
  | .nil => 1
  | .ptr d => uptoBulk d + 1
  | .slice elems spare => uptoBulkAll elems + uptoBulkAll spare + 1
  | .agg parts => uptoBulkAll parts + 1
  | .iface _ d => uptoBulk d + 1
  | .map entries => uptoBulkEntries entries + 1
  | .held _ => 1
def uptoBulkAll {H : Type} : List (DataW H) → Nat
  | [] => 0
  | d :: r => uptoBulk d + uptoBulkAll r
def uptoBulkEntries {H : Type} : List (Lit × DataW H) → Nat
  | [] => 0
  | x :: r => uptoBulkEntry x + uptoBulkEntries r
def uptoBulkEntry {H : Type} : Lit × DataW H → Nat
  | (.string bytes, d) => bytes.length + uptoBulk d + 1
  | (_, d) => uptoBulk d + 1
 end
def uptoSmall : (H : Type) → List (DataW H) → Bool := fun _ ds => decide (uptoBulkAll ds ≤ 1048576)
def OpenSpec.upto (s : _root_.Go.ChangeSpec) : _root_.Go.OpenSpec := { _root_.Go.OpenSpec.ofChange s with cond := some uptoSmall }

/-- 'weightedlaw35.ViterbiWithin', WHERE WHAT IT READS IS OF BULK AT MOST 1048576: true; the input reads as it did. -/
def viterbiWithinUptoRow : OpenClaim := { program := "ytcebciggodhmcaagreat", sum := "9e543168369854de8a004b2f35a8ad2498b98b9f5bf314bad1d917c1c09762cd", func := "weighted/weightedlaw35.ViterbiWithin", spec := "viterbiWithin", unfollowed := true, recurses := true, apart := false, narrowed := true }
def ViterbiWithinUptoSaid : Prop := viterbiWithinUptoRow.holds Tryz.pinned (OpenSpec.upto viterbiWithinSpec)

/-- 'weightedlaw34.ForwardIsExhaustive', WHERE WHAT IT READS IS OF BULK AT MOST 1048576: true; the input reads as it did. -/
def forwardIsExhaustiveUptoRow : OpenClaim := { program := "ytcebciggodhmcaagreat", sum := "9e543168369854de8a004b2f35a8ad2498b98b9f5bf314bad1d917c1c09762cd", func := "weighted/weightedlaw34.ForwardIsExhaustive", spec := "forwardIsExhaustive", unfollowed := true, recurses := true, apart := false, narrowed := true }
def ForwardIsExhaustiveUptoSaid : Prop := forwardIsExhaustiveUptoRow.holds Tryz.pinned (OpenSpec.upto forwardIsExhaustiveSpec)

/-- 'weightedlaw40.SampleIsFair', WHERE WHAT IT READS IS OF BULK AT MOST 1048576: true; the input reads as it did. -/
def sampleIsFairUptoRow : OpenClaim := { program := "ytcebciggodhmcaagreat", sum := "9e543168369854de8a004b2f35a8ad2498b98b9f5bf314bad1d917c1c09762cd", func := "weighted/weightedlaw40.SampleIsFair", spec := "sampleIsFair", unfollowed := true, recurses := true, apart := false, narrowed := true }
def SampleIsFairUptoSaid : Prop := sampleIsFairUptoRow.holds Tryz.pinned (OpenSpec.upto sampleIsFairSpec)

/-- 'weightedlaw40.SampleActs', WHERE WHAT IT READS IS OF BULK AT MOST 1048576: true; the input reads as it did. -/
def sampleActsUptoRow : OpenClaim := { program := "ytcebciggodhmcaagreat", sum := "9e543168369854de8a004b2f35a8ad2498b98b9f5bf314bad1d917c1c09762cd", func := "weighted/weightedlaw40.SampleActs", spec := "sampleActs", unfollowed := true, recurses := true, apart := false, narrowed := true }
def SampleActsUptoSaid : Prop := sampleActsUptoRow.holds Tryz.pinned (OpenSpec.upto sampleActsSpec)

/-- 'weightedlaw40.SampleIsInOrder', WHERE WHAT IT READS IS OF BULK AT MOST 1048576: true; the input reads as it did. -/
def sampleIsInOrderUptoRow : OpenClaim := { program := "ytcebciggodhmcaagreat", sum := "9e543168369854de8a004b2f35a8ad2498b98b9f5bf314bad1d917c1c09762cd", func := "weighted/weightedlaw40.SampleIsInOrder", spec := "sampleIsInOrder", unfollowed := true, recurses := true, apart := false, narrowed := true }
def SampleIsInOrderUptoSaid : Prop := sampleIsInOrderUptoRow.holds Tryz.pinned (OpenSpec.upto sampleIsInOrderSpec)

/-- 'weightedlaw34.ForwardActs', WHERE WHAT IT READS IS OF BULK AT MOST 1048576: true; the input reads as it did. -/
def forwardActsUptoRow : OpenClaim := { program := "ytcebciggodhmcaagreat", sum := "9e543168369854de8a004b2f35a8ad2498b98b9f5bf314bad1d917c1c09762cd", func := "weighted/weightedlaw34.ForwardActs", spec := "forwardActs", unfollowed := true, recurses := true, apart := false, narrowed := true }
def ForwardActsUptoSaid : Prop := forwardActsUptoRow.holds Tryz.pinned (OpenSpec.upto forwardActsSpec)

/-- 'weightedlaw36.CheckpointActs', WHERE WHAT IT READS IS OF BULK AT MOST 1048576: true; the input reads as it did. -/
def checkpointActsUptoRow : OpenClaim := { program := "ytcebciggodhmcaagreat", sum := "9e543168369854de8a004b2f35a8ad2498b98b9f5bf314bad1d917c1c09762cd", func := "weighted/weightedlaw36.CheckpointActs", spec := "checkpointActs", unfollowed := true, recurses := true, apart := false, narrowed := true }
def CheckpointActsUptoSaid : Prop := checkpointActsUptoRow.holds Tryz.pinned (OpenSpec.upto checkpointActsSpec)

/-- 'weightedlaw36.CheckpointCuts', WHERE WHAT IT READS IS OF BULK AT MOST 1048576: true; the input reads as it did. -/
def checkpointCutsUptoRow : OpenClaim := { program := "ytcebciggodhmcaagreat", sum := "9e543168369854de8a004b2f35a8ad2498b98b9f5bf314bad1d917c1c09762cd", func := "weighted/weightedlaw36.CheckpointCuts", spec := "checkpointCuts", unfollowed := true, recurses := true, apart := false, narrowed := true }
def CheckpointCutsUptoSaid : Prop := checkpointCutsUptoRow.holds Tryz.pinned (OpenSpec.upto checkpointCutsSpec)

/-- 'weightedlaw40.SampleHitsItsRange', WHERE WHAT IT READS IS OF BULK AT MOST 1048576: true; the input reads as it did. -/
def sampleHitsItsRangeUptoRow : OpenClaim := { program := "ytcebciggodhmcaagreat", sum := "9e543168369854de8a004b2f35a8ad2498b98b9f5bf314bad1d917c1c09762cd", func := "weighted/weightedlaw40.SampleHitsItsRange", spec := "sampleHitsItsRange", unfollowed := true, recurses := true, apart := false, narrowed := true }
def SampleHitsItsRangeUptoSaid : Prop := sampleHitsItsRangeUptoRow.holds Tryz.pinned (OpenSpec.upto sampleHitsItsRangeSpec)

/-- 'weightedlaw37.OnlineSteps', WHERE WHAT IT READS IS OF BULK AT MOST 1048576: true; the input reads as it did. -/
def onlineStepsUptoRow : OpenClaim := { program := "ytcebciggodhmcaagreat", sum := "9e543168369854de8a004b2f35a8ad2498b98b9f5bf314bad1d917c1c09762cd", func := "weighted/weightedlaw37.OnlineSteps", spec := "onlineSteps", unfollowed := true, recurses := true, apart := false, narrowed := true }
def OnlineStepsUptoSaid : Prop := onlineStepsUptoRow.holds Tryz.pinned (OpenSpec.upto onlineStepsSpec)

/-- 'weightedlaw37.OnlineScores', WHERE WHAT IT READS IS OF BULK AT MOST 1048576: true; the input reads as it did. -/
def onlineScoresUptoRow : OpenClaim := { program := "ytcebciggodhmcaagreat", sum := "9e543168369854de8a004b2f35a8ad2498b98b9f5bf314bad1d917c1c09762cd", func := "weighted/weightedlaw37.OnlineScores", spec := "onlineScores", unfollowed := true, recurses := true, apart := false, narrowed := true }
def OnlineScoresUptoSaid : Prop := onlineScoresUptoRow.holds Tryz.pinned (OpenSpec.upto onlineScoresSpec)

/-- 'weightedlaw36.CheckpointIsViterbi', WHERE WHAT IT READS IS OF BULK AT MOST 1048576: true; the input reads as it did. -/
def checkpointIsViterbiUptoRow : OpenClaim := { program := "ytcebciggodhmcaagreat", sum := "9e543168369854de8a004b2f35a8ad2498b98b9f5bf314bad1d917c1c09762cd", func := "weighted/weightedlaw36.CheckpointIsViterbi", spec := "checkpointIsViterbi", unfollowed := true, recurses := true, apart := false, narrowed := true }
def CheckpointIsViterbiUptoSaid : Prop := checkpointIsViterbiUptoRow.holds Tryz.pinned (OpenSpec.upto checkpointIsViterbiSpec)

/-- 'weightedlaw37.OnlineNeverTakesBack', WHERE WHAT IT READS IS OF BULK AT MOST 1048576: true; the input reads as it did. -/
def onlineNeverTakesBackUptoRow : OpenClaim := { program := "ytcebciggodhmcaagreat", sum := "9e543168369854de8a004b2f35a8ad2498b98b9f5bf314bad1d917c1c09762cd", func := "weighted/weightedlaw37.OnlineNeverTakesBack", spec := "onlineNeverTakesBack", unfollowed := true, recurses := true, apart := false, narrowed := true }
def OnlineNeverTakesBackUptoSaid : Prop := onlineNeverTakesBackUptoRow.holds Tryz.pinned (OpenSpec.upto onlineNeverTakesBackSpec)

/-- 'weightedlaw37.OnlineActs', WHERE WHAT IT READS IS OF BULK AT MOST 1048576: true; the input reads as it did. -/
def onlineActsUptoRow : OpenClaim := { program := "ytcebciggodhmcaagreat", sum := "9e543168369854de8a004b2f35a8ad2498b98b9f5bf314bad1d917c1c09762cd", func := "weighted/weightedlaw37.OnlineActs", spec := "onlineActs", unfollowed := true, recurses := true, apart := false, narrowed := true }
def OnlineActsUptoSaid : Prop := onlineActsUptoRow.holds Tryz.pinned (OpenSpec.upto onlineActsSpec)

/-- 'weightedlaw37.OnlineIsViterbi', WHERE WHAT IT READS IS OF BULK AT MOST 1048576: true; the input reads as it did. -/
def onlineIsViterbiUptoRow : OpenClaim := { program := "ytcebciggodhmcaagreat", sum := "9e543168369854de8a004b2f35a8ad2498b98b9f5bf314bad1d917c1c09762cd", func := "weighted/weightedlaw37.OnlineIsViterbi", spec := "onlineIsViterbi", unfollowed := true, recurses := true, apart := false, narrowed := true }
def OnlineIsViterbiUptoSaid : Prop := onlineIsViterbiUptoRow.holds Tryz.pinned (OpenSpec.upto onlineIsViterbiSpec)

end Rows
end Go.Proofs.YtcebciggodhmcaaGreat

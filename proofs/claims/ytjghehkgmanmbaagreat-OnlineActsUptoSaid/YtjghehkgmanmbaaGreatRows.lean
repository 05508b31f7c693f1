/-
  No cell of these rows narrows 'for every input' (looked for: loops, veiled, ifaces, maps, wideKeys, modest, calm, conditions, laid).
  DERIVED. THE GIVEN ROWS OF THIS SEAT. 4 by the template 'for every input the law returns true; each argument reads behind the call as it read before'; 0 by the template 'total and deterministic' (their statements: YtjghehkgmanmbaaGreatTotals.lean).
  GIVEN WITH THE SEED: the statements are not yours to turn. If you find one false, say at which input.
  Laid BY PROGRAM, IN A SANDBOX (cutbox-rows.mjs): the forced cells as the released guide's own fill.sh prints them over the translation 2daef76d00582130… (all of the seat's roots in one cut). By AI agents, Wed Nov 11 2026. No macro, syntax, notation, axiom, sorry.
-/
import Derived.Test.YtjghehkgmanmbaaGreatChecked
import GoSem.Claim
import GoSem.ClaimJoined
import GoSem.ClaimMapViews
import Derived.JoinedTies
import Derived.KernelRfl
namespace Go.Proofs.YtjghehkgmanmbaaGreat
/- THE CELL 'sum', in the pinned program and in every row, IS THE sha256 OF THE DUMP (.gsa) THAT YtjghehkgmanmbaaGreatProg.lean LOADS. Nothing in Lean hashes anything: it is a label: what it is worth is what the hold of that sum in a sandbox is worth. -/
noncomputable def Tryz.pinned : Pinned := { name := "ytjghehkgmanmbaagreat", sum := "2daef76d005821303dc038e8c57b3a8389d11ae29ab8baa440cbfa53b393f3ef", checked := Tryz.checked }
namespace Rows
def none {H : Type} : Left H := { results := [], args := [] }

/-- 'weightedlaw40.SampleActs': WHATEVER THE INPUT: true; the input reads as it did. -/
def sampleActsSpec : ChangeSpec := { name := "sampleActs", fn := fun _ => fun
  | [d1, d2, d3, d4, d5] => { results := [.lit (.bool true)], args := [d1, d2, d3, d4, d5] }
  | _ => none }
def sampleActsRow : OpenClaim := { program := "ytjghehkgmanmbaagreat", sum := "2daef76d005821303dc038e8c57b3a8389d11ae29ab8baa440cbfa53b393f3ef", func := "weighted/weightedlaw40.SampleActs", spec := "sampleActs", unfollowed := true, recurses := true, apart := false }
def SampleActsSaid : Prop := sampleActsRow.holds Tryz.pinned (OpenSpec.ofChange sampleActsSpec)

/-- ITS FALSE NEIGHBOUR: 'it returns false'. Refute it at one input. -/
def sampleActsWrong : ChangeSpec := { name := "sampleActs", fn := fun _ => fun
  | [d1, d2, d3, d4, d5] => { results := [.lit (.bool false)], args := [d1, d2, d3, d4, d5] }
  | _ => none }
def SampleActsWrongFalsely : Prop := sampleActsRow.holds Tryz.pinned (OpenSpec.ofChange sampleActsWrong)

/-- 'weightedlaw34.ForwardActs': WHATEVER THE INPUT: true; the input reads as it did. -/
def forwardActsSpec : ChangeSpec := { name := "forwardActs", fn := fun _ => fun
  | [d1, d2] => { results := [.lit (.bool true)], args := [d1, d2] }
  | _ => none }
def forwardActsRow : OpenClaim := { program := "ytjghehkgmanmbaagreat", sum := "2daef76d005821303dc038e8c57b3a8389d11ae29ab8baa440cbfa53b393f3ef", func := "weighted/weightedlaw34.ForwardActs", spec := "forwardActs", unfollowed := true, recurses := true, apart := false }
def ForwardActsSaid : Prop := forwardActsRow.holds Tryz.pinned (OpenSpec.ofChange forwardActsSpec)

/-- ITS FALSE NEIGHBOUR: 'it returns false'. Refute it at one input. -/
def forwardActsWrong : ChangeSpec := { name := "forwardActs", fn := fun _ => fun
  | [d1, d2] => { results := [.lit (.bool false)], args := [d1, d2] }
  | _ => none }
def ForwardActsWrongFalsely : Prop := forwardActsRow.holds Tryz.pinned (OpenSpec.ofChange forwardActsWrong)

/-- 'weightedlaw36.CheckpointActs': WHATEVER THE INPUT: true; the input reads as it did. -/
def checkpointActsSpec : ChangeSpec := { name := "checkpointActs", fn := fun _ => fun
  | [d1, d2, d3, d4, d5, d6] => { results := [.lit (.bool true)], args := [d1, d2, d3, d4, d5, d6] }
  | _ => none }
def checkpointActsRow : OpenClaim := { program := "ytjghehkgmanmbaagreat", sum := "2daef76d005821303dc038e8c57b3a8389d11ae29ab8baa440cbfa53b393f3ef", func := "weighted/weightedlaw36.CheckpointActs", spec := "checkpointActs", unfollowed := true, recurses := true, apart := false }
def CheckpointActsSaid : Prop := checkpointActsRow.holds Tryz.pinned (OpenSpec.ofChange checkpointActsSpec)

/-- ITS FALSE NEIGHBOUR: 'it returns false'. Refute it at one input. -/
def checkpointActsWrong : ChangeSpec := { name := "checkpointActs", fn := fun _ => fun
  | [d1, d2, d3, d4, d5, d6] => { results := [.lit (.bool false)], args := [d1, d2, d3, d4, d5, d6] }
  | _ => none }
def CheckpointActsWrongFalsely : Prop := checkpointActsRow.holds Tryz.pinned (OpenSpec.ofChange checkpointActsWrong)

/-- 'weightedlaw37.OnlineActs': WHATEVER THE INPUT: true; the input reads as it did. -/
def onlineActsSpec : ChangeSpec := { name := "onlineActs", fn := fun _ => fun
  | [d1, d2, d3, d4] => { results := [.lit (.bool true)], args := [d1, d2, d3, d4] }
  | _ => none }
def onlineActsRow : OpenClaim := { program := "ytjghehkgmanmbaagreat", sum := "2daef76d005821303dc038e8c57b3a8389d11ae29ab8baa440cbfa53b393f3ef", func := "weighted/weightedlaw37.OnlineActs", spec := "onlineActs", unfollowed := true, recurses := true, apart := false }
def OnlineActsSaid : Prop := onlineActsRow.holds Tryz.pinned (OpenSpec.ofChange onlineActsSpec)

/-- ITS FALSE NEIGHBOUR: 'it returns false'. Refute it at one input. -/
def onlineActsWrong : ChangeSpec := { name := "onlineActs", fn := fun _ => fun
  | [d1, d2, d3, d4] => { results := [.lit (.bool false)], args := [d1, d2, d3, d4] }
  | _ => none }
def OnlineActsWrongFalsely : Prop := onlineActsRow.holds Tryz.pinned (OpenSpec.ofChange onlineActsWrong)

/- THE SECOND FORM. 'bulk': how many values and letters a reading holds, each counted each time it is reached (what is shared counts as often as it is met; a slice's spare places count too). A statement '..UptoSaid' is the law's where the arguments, and the package variables that the reading takes, are together of bulk at most 1048576: NARROWER than '..Said'. Prove '..Said' where nothing that the law and all that it calls make is longer than what came in: it says more and counts as full. Else prove '..UptoSaid'. A law counts once. -/
mutual
def uptoBulk {H : Type} : DataW H → Nat
  | .lit (.string bytes) => bytes.length + 1
  | .lit _ => 1
  | .nil => 1
  | .ptr d => uptoBulk d + 1
  | .slice elems spare => uptoBulkAll elems + uptoBulkAll spare + 1
  | .agg parts => uptoBulkAll parts + 1
  | .iface _ d => uptoBulk d + 1
  | .map entries => uptoBulkEntries entries + 1
  | .held _ => 1
def uptoBulkAll {H : Type} : List (DataW H) → Nat
  | [] => 0
  | d :: r => uptoBulk d + uptoBulkAll r
def uptoBulkEntries {H : Type} : List (Lit × DataW H) → Nat
  | [] => 0
  | x :: r => uptoBulkEntry x + uptoBulkEntries r
def uptoBulkEntry {H : Type} : Lit × DataW H → Nat
  | (.string bytes, d) => bytes.length + uptoBulk d + 1
  | (_, d) => uptoBulk d + 1
 end
def uptoSmall : (H : Type) → List (DataW H) → Bool := fun _ ds => decide (uptoBulkAll ds ≤ 1048576)
def OpenSpec.upto (s : _root_.Go.ChangeSpec) : _root_.Go.OpenSpec := { _root_.Go.OpenSpec.ofChange s with cond := some uptoSmall }

/-- 'weightedlaw40.SampleActs', WHERE WHAT IT READS IS OF BULK AT MOST 1048576: true; the input reads as it did. -/
def sampleActsUptoRow : OpenClaim := { program := "ytjghehkgmanmbaagreat", sum := "2daef76d005821303dc038e8c57b3a8389d11ae29ab8baa440cbfa53b393f3ef", func := "weighted/weightedlaw40.SampleActs", spec := "sampleActs", unfollowed := true, recurses := true, apart := false, narrowed := true }
def SampleActsUptoSaid : Prop := sampleActsUptoRow.holds Tryz.pinned (OpenSpec.upto sampleActsSpec)

/-- 'weightedlaw34.ForwardActs', WHERE WHAT IT READS IS OF BULK AT MOST 1048576: true; the input reads as it did. -/
def forwardActsUptoRow : OpenClaim := { program := "ytjghehkgmanmbaagreat", sum := "2daef76d005821303dc038e8c57b3a8389d11ae29ab8baa440cbfa53b393f3ef", func := "weighted/weightedlaw34.ForwardActs", spec := "forwardActs", unfollowed := true, recurses := true, apart := false, narrowed := true }
def ForwardActsUptoSaid : Prop := forwardActsUptoRow.holds Tryz.pinned (OpenSpec.upto forwardActsSpec)

/-- 'weightedlaw36.CheckpointActs', WHERE WHAT IT READS IS OF BULK AT MOST 1048576: true; the input reads as it did. -/
def checkpointActsUptoRow : OpenClaim := { program := "ytjghehkgmanmbaagreat", sum := "2daef76d005821303dc038e8c57b3a8389d11ae29ab8baa440cbfa53b393f3ef", func := "weighted/weightedlaw36.CheckpointActs", spec := "checkpointActs", unfollowed := true, recurses := true, apart := false, narrowed := true }
def CheckpointActsUptoSaid : Prop := checkpointActsUptoRow.holds Tryz.pinned (OpenSpec.upto checkpointActsSpec)

/-- 'weightedlaw37.OnlineActs', WHERE WHAT IT READS IS OF BULK AT MOST 1048576: true; the input reads as it did. -/
def onlineActsUptoRow : OpenClaim := { program := "ytjghehkgmanmbaagreat", sum := "2daef76d005821303dc038e8c57b3a8389d11ae29ab8baa440cbfa53b393f3ef", func := "weighted/weightedlaw37.OnlineActs", spec := "onlineActs", unfollowed := true, recurses := true, apart := false, narrowed := true }
def OnlineActsUptoSaid : Prop := onlineActsUptoRow.holds Tryz.pinned (OpenSpec.upto onlineActsSpec)

end Rows
end Go.Proofs.YtjghehkgmanmbaaGreat

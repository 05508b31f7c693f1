/-
  AL, part 27: a region whose order is open, by what each of its operations does wherever it comes.
-/
import Derived.Test.YtjghehkgmanmbaaGreatKAlg26
set_option linter.unusedVariables false
set_option linter.unusedSimpArgs false
namespace Go.AL
open Go Go.BigFrame
def pS (s0 : S) (val : Nat → (Nat → Nat × Nat) → V) (blk : Nat → (Nat → Nat × Nat) → Option Blk) (own : Nat → Option Nat) (β : Nat → Nat × Nat) (L : Array Bool) : S :=
  ⟨fun t => match own t with | some i => if L.getD i false = true then val t β else s0.ρ t | none => s0.ρ t,
   fun t => match own t with | some i => if L.getD i false = true then (match blk t β with | some b => some b | none => s0.M t) else s0.M t | none => s0.M t⟩
def depB (ops : Array Oper) (i j : Nat) : Bool := match ops[i]? with | some o => o.after.toList.any fun e => Region.binds .any e && e.on == j | none => false
structure Come (ops : Array Oper) (L : Array Bool) (i : Nat) : Prop where
 size : L.size = ops.size
 no : L.getD i false = false
 dep : ∀ j, depB ops i j = true → L.getD j false = true
 closed : ∀ k j, L.getD k false = true → depB ops k j = true → L.getD j false = true
section
variable {P : Program} {E : Env} {s0 : S} {val : Nat → (Nat → Nat × Nat) → V} {blk : Nat → (Nat → Nat × Nat) → Option Blk} {own : Nat → Option Nat} {β : Nat → Nat × Nat} {L : Array Bool}
theorem OG.of_OL {m : Nat} {ops : Array Oper} {o : Oper} {K : S → Prop} {s : S} (h : OL P m ops K [o] s) : OG P m ops o K s := h
end
end Go.AL

/-
  AL, part 30: a region whose order is open, by a plan that tells the memory too; slices that are none.
-/
import Derived.Test.YtjghehkgmanmbaaGreatKAlg29
set_option linter.unusedVariables false
set_option linter.unusedSimpArgs false
namespace Go.AL
open Go Go.BigFrame
section
variable {P : Program} {E : Env} {K : S → Prop} {s : S} {pos : String} {after : Array Edge} {ty : Nat}
theorem SL.nil {ops : Array Oper} (h : K s) : SL P E ops K [] s := h
theorem AW.dead {k : Code} {Q : Exit → S → Prop} (id : Nat) (hM : s.M id = none) (h : AW P E k Q ⟨s.ρ, upd s.M id (some deadBlk)⟩) : AW P E k Q s := fun F a w hr => by
 have e : upd s.M id none = s.M := by funext j; unfold upd; split; rename_i e2; rw [e2, hM]; rfl
 exact h F a w (Run.undrop (s := s) (by rw [e]; exact hr))
end
end Go.AL

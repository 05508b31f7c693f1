/-
  AL, part 25: a region whose order is open, by all of its orders.
-/
import Derived.Test.YtjghehkgmanmbaaGreatKAlgd
import Derived.Test.YtjghehkgmanmbaaGreatKNumb
set_option linter.unusedVariables false
set_option linter.unusedSimpArgs false
namespace Go.AL
open Go Go.BigFrame
theorem mem1_get {i : Nat} {blk b : Blk} {id : Nat} (h : mem1 i blk id = some b) : id = i ∧ b = blk := by
 unfold mem1 at h
 split at h
 ·rename_i e; exact ⟨e, by cases h; rfl⟩
 ·cases h
end Go.AL

set_option linter.unusedVariables false
set_option linter.unusedSimpArgs false
namespace Go.AL
open Go Go.BigFrame
section
variable {P : Program}
def OT (P : Program) (ops : Array Oper) (K : S → Prop) : Nat → Array Bool → S → Prop
 | 0, listed, s => Region.ready .any ops listed = [] ∧ K s
 | n + 1, listed, s => Region.ready .any ops listed ≠ [] ∧ ∀ i, i ∈ Region.ready .any ops listed → ∃ o, ops[i]? = some o ∧ OG P 0 ops o (OT P ops K n (listed.setIfInBounds i true)) s
def OTs (P : Program) (ops : Array Oper) (K : S → Prop) (n : Nat) (listed : Array Bool) (s : S) : List Nat → List Oper → Prop
 | [], [] => True
 | i :: l, o :: os => OL P 0 ops (OT P ops K n (listed.setIfInBounds i true)) [o] s ∧ OTs P ops K n listed s l os
 | _, _ => False
theorem OTs.get {ops : Array Oper} {K : S → Prop} {n : Nat} {listed : Array Bool} {s : S} : ∀ (l : List Nat) (os : List Oper), l.map (fun i => ops[i]?) = os.map some → OTs P ops K n listed s l os → ∀ i, i ∈ l → ∃ o, ops[i]? = some o ∧ OG P 0 ops o (OT P ops K n (listed.setIfInBounds i true)) s
 | [], _, _, _, i, hi => by simp at hi
 | j :: l, [], h, _, _, _ => by simp at h
 | j :: l, o :: os, h, ht, i, hi => by
  simp only [List.map_cons, List.cons.injEq] at h
  rcases List.mem_cons.1 hi with rfl | hi
  ·exact ⟨o, h.1, ht.1⟩
  ·exact OTs.get l os h.2 ht.2 i hi
end
end Go.AL

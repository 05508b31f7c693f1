/-
  M, chapter 39: the coin of the sanity check, and what stays near on rounding.
-/
import Derived.Test.YtoohdcpikkkanaaGreatKMod39d
import Derived.Test.YtoohdcpikkkanaaGreatKMod39b
set_option linter.unusedVariables false
set_option linter.unusedSimpArgs false
namespace Go.AL
open Go Go.BigFrame
def coin9 : HM := ⟨2, 1, 0, [1], [[0]], [1], [[1 / 3, 2 / 3]], [false], [0]⟩
def X9 : List (List Int) := [[1], [1], [1], [2]]
theorem sz_12 : sz (1 / 2) = 1 := by decide +kernel
theorem sz_13 : sz (1 / 3) = 1 := by decide +kernel
theorem sz_23 : sz (2 / 3) = 1 := by decide +kernel
theorem coin9_good : coin9.Good 1 := by
  have s1 : Small 1 [1] := Small.one (by rw [sz_one]; decide)
  have s0 : Small 1 [0] := Small.one (by rw [sz_zero]; decide)
  have hs2 : Small 1 [1 / 3, 2 / 3] := Small.cons (by rw [sz_13]; decide) (Small.one (by rw [sz_23]; decide))
  have p1 : Shares [1] := fun q hq => by rw [List.mem_singleton.1 hq]; decide +kernel
  have p0 : Shares [0] := fun q hq => by rw [List.mem_singleton.1 hq]; decide +kernel
  have sh2 : Shares [1 / 3, 2 / 3] := fun q hq => by
    rcases List.mem_cons.1 hq with rfl | hq
    · decide +kernel
    · rw [List.mem_singleton.1 hq]; decide +kernel
  have i0 : ∀ i, i < coin9.st → i = 0 := fun i hi => by have : i < 1 := hi; omega
  have row : ∀ (x : List Rat) (i : Nat), i ≠ 0 → [x].getD i [] = [] := fun x i hi => getD_ge (by simp; omega)
  refine ⟨⟨by decide, by decide, by decide, by decide, rfl, rfl, fun i hi => by rw [i0 i hi]; rfl, rfl, rfl, fun i hi => by rw [i0 i hi]; rfl, rfl, rfl, fun i hi => by rw [i0 i hi]; decide, by decide, by decide, by rw [show coin9.empty = 0 from rfl, sz_zero]; decide, s1, s1, fun i => ?_, fun i => ?_⟩,
    by decide +kernel, p1, p1, fun i => ?_, fun i => ?_, by decide +kernel, fun i hi => by rw [i0 i hi]; decide +kernel, fun i hi => by rw [i0 i hi]; decide +kernel, fun i j hi hj _ => by have := i0 i hi; omega⟩
  · by_cases hi : i = 0
    · subst hi; exact s0
    · show Small 1 ([[0]].getD i []); rw [row _ i hi]; exact Small.nil
  · by_cases hi : i = 0
    · subst hi; exact hs2
    · show Small 1 ([[1 / 3, 2 / 3]].getD i []); rw [row _ i hi]; exact Small.nil
  · by_cases hi : i = 0
    · subst hi; exact p0
    · show Shares ([[0]].getD i []); rw [row _ i hi]; intro q hq; simp at hq
  · by_cases hi : i = 0
    · subst hi; exact sh2
    · show Shares ([[1 / 3, 2 / 3]].getD i []); rw [row _ i hi]; intro q hq; simp at hq
theorem coin9_data : DataOK coin9 X9 := ⟨by decide, fun w hw => by
  rcases List.mem_cons.1 hw with rfl | hw
  · exact ⟨⟨by decide, by decide⟩, ⟨by decide, by decide⟩⟩
  · rcases List.mem_cons.1 hw with rfl | hw
    · exact ⟨⟨by decide, by decide⟩, ⟨by decide, by decide⟩⟩
    · rcases List.mem_cons.1 hw with rfl | hw
      · exact ⟨⟨by decide, by decide⟩, ⟨by decide, by decide⟩⟩
      · rw [List.mem_singleton.1 hw]; exact ⟨⟨by decide, by decide⟩, ⟨by decide, by decide⟩⟩⟩
theorem coin9_all : AllL coin9 X9 := fun w hw => by
  rcases List.mem_cons.1 hw with rfl | hw
  · decide +kernel
  · rcases List.mem_cons.1 hw with rfl | hw
    · decide +kernel
    · rcases List.mem_cons.1 hw with rfl | hw
      · decide +kernel
      · rw [List.mem_singleton.1 hw]; decide +kernel
theorem coin9_re : (reHM coin9 X9).emit = [[3 / 4, 1 / 4]] := by decide +kernel
theorem coin9_round : (roundHM coin9 2).emit = [[1 / 2, 1 / 2]] := by decide +kernel
theorem chain_sym9 (L : List Int) (cs cy most : Int) : (chainHM L cs cy most).sym ≤ 12 := by
  have := chSym_range cy
  show chSym cy ≤ 12
  omega
end Go.AL

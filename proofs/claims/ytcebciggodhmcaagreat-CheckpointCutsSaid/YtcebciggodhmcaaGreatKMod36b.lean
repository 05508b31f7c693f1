/-
  M, chapter 36, part 2: the model of the sanity check; how many columns are kept.
-/
import Derived.Test.YtcebciggodhmcaaGreatKMod36
import Derived.Test.YtcebciggodhmcaaGreatKMod40d
set_option linter.unusedVariables false
set_option linter.unusedSimpArgs false
namespace Go.AL
open Go Go.BigFrame
def pairHM : HM := ⟨2, 2, 0, [1 / 2, 1 / 2], [[0, 1 / 2], [0, 0]], [1 / 2, 1], [[1, 0], [0, 1]], [false, false], [0, 1]⟩
theorem pair_best : bestP pairHM [1, 2] ≠ 0 ∧ pathF pairHM [1, 2] 2 = [0, 1] := by decide +kernel
theorem pair_word : WordOK pairHM [1, 2] := ⟨by decide, by decide⟩
theorem getD_two {α : Type} {P : α → Prop} {a b d : α} (ha : P a) (hb : P b) (hd : P d) (i : Nat) : P ([a, b].getD i d) := by
  match i with
  | 0 => exact ha
  | 1 => exact hb
  | i + 2 => exact hd
theorem two_cases {i : Nat} (h : i < 2) : i = 0 ∨ i = 1 := by omega
theorem small2 {a b : Rat} (ha : sz a ≤ 1) (hb : sz b ≤ 1) : Small 1 [a, b] := Small.cons ha (Small.one hb)
theorem shares2 {a b : Rat} (ha : Share a) (hb : Share b) : Shares [a, b] := fun q hq => by
  rcases List.mem_cons.1 hq with rfl | hq
  · exact ha
  · rw [List.mem_singleton.1 hq]; exact hb
theorem pair_good : pairHM.Good 1 := by
  have z0 : sz 0 ≤ 1 := by rw [sz_zero]; decide
  have z1 : sz 1 ≤ 1 := by rw [sz_one]; decide
  have zh : sz (1 / 2) ≤ 1 := half_sz
  have p0 : Share 0 := by decide +kernel
  have p1 : Share 1 := by decide +kernel
  have ph : Share (1 / 2) := by decide +kernel
  have st : pairHM.st = 2 := rfl
  refine ⟨⟨by decide, by decide, by decide, by decide, rfl, rfl, fun i hi => ?_, rfl, rfl, fun i hi => ?_, rfl, rfl, fun i hi => ?_, by decide, by decide, z0, small2 zh zh, small2 zh z1, fun i => ?_, fun i => ?_⟩,
    p0, shares2 ph ph, shares2 ph p1, fun i => ?_, fun i => ?_, by decide +kernel, fun i hi => ?_, fun i hi => ?_, fun i j hi hj he => ?_⟩
  · rcases two_cases hi with rfl | rfl <;> rfl
  · rcases two_cases hi with rfl | rfl <;> rfl
  · rcases two_cases hi with rfl | rfl <;> decide
  · exact getD_two (small2 z0 zh) (small2 z0 z0) Small.nil i
  · exact getD_two (small2 z1 z0) (small2 z0 z1) Small.nil i
  · exact getD_two (P := Shares) (shares2 p0 ph) (shares2 p0 p0) (fun q hq => by simp at hq) i
  · exact getD_two (P := Shares) (shares2 p1 p0) (shares2 p0 p1) (fun q hq => by simp at hq) i
  · rcases two_cases hi with rfl | rfl <;> decide +kernel
  · rcases two_cases hi with rfl | rfl <;> decide +kernel
  · rcases two_cases hi with rfl | rfl
    · omega
    · obtain rfl : j = 0 := by omega
      exact absurd he (by decide)
end Go.AL

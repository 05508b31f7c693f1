/-
  M, chapter 36, part 2: the model of the sanity check; how many columns are kept.
-/
import Derived.Test.YtcebciggodhmcaaGreatMod36
import Derived.Test.YtcebciggodhmcaaGreatMod40c
set_option linter.unusedVariables false
set_option linter.unusedSimpArgs false
namespace Go.AL
open Go Go.BigFrame

def pairHM : HM := ⟨2, 2, 0, [1 / 2, 1 / 2], [[0, 1 / 2], [0, 0]], [1 / 2, 1], [[1, 0], [0, 1]], [false, false], [0, 1]⟩
theorem pair_best : bestP pairHM [1, 2] ≠ 0 ∧ pathF pairHM [1, 2] 2 = [0, 1] := by decide +kernel
theorem pair_word : WordOK pairHM [1, 2] := ⟨by decide, by decide⟩
theorem getD_two {α : Type} {P : α → Prop} {a b d : α} (ha : P a) (hb : P b) (hd : P d) (i : Nat) : P ([a, b].getD i d) := by
  match i with
  | 0 => exact ha
  | 1 => exact hb
  | i + 2 => exact hd
theorem two_cases {i : Nat} (h : i < 2) : i = 0 ∨ i = 1 := by omega
theorem small2 {a b : Rat} (ha : sz a ≤ 1) (hb : sz b ≤ 1) : Small 1 [a, b] := Small.cons ha (Small.one hb)
theorem shares2 {a b : Rat} (ha : Share a) (hb : Share b) : Shares [a, b] := fun q hq => by
  rcases List.mem_cons.1 hq with rfl | hq
  · exact ha
  · rw [List.mem_singleton.1 hq]; exact hb
theorem pair_good : pairHM.Good 1 := by
  have z0 : sz 0 ≤ 1 := by rw [sz_zero]; decide
  have z1 : sz 1 ≤ 1 := by rw [sz_one]; decide
  have zh : sz (1 / 2) ≤ 1 := half_sz
  have p0 : Share 0 := by decide +kernel
  have p1 : Share 1 := by decide +kernel
  have ph : Share (1 / 2) := by decide +kernel
  have st : pairHM.st = 2 := rfl
  refine ⟨⟨by decide, by decide, by decide, by decide, rfl, rfl, fun i hi => ?_, rfl, rfl, fun i hi => ?_, rfl, rfl, fun i hi => ?_, by decide, by decide, z0, small2 zh zh, small2 zh z1, fun i => ?_, fun i => ?_⟩,
    p0, shares2 ph ph, shares2 ph p1, fun i => ?_, fun i => ?_, by decide +kernel, fun i hi => ?_, fun i hi => ?_, fun i j hi hj he => ?_⟩
  · rcases two_cases hi with rfl | rfl <;> rfl
  · rcases two_cases hi with rfl | rfl <;> rfl
  · rcases two_cases hi with rfl | rfl <;> decide
  · exact getD_two (small2 z0 zh) (small2 z0 z0) Small.nil i
  · exact getD_two (small2 z1 z0) (small2 z0 z1) Small.nil i
  · exact getD_two (P := Shares) (shares2 p0 ph) (shares2 p0 p0) (fun q hq => by simp at hq) i
  · exact getD_two (P := Shares) (shares2 p1 p0) (shares2 p0 p1) (fun q hq => by simp at hq) i
  · rcases two_cases hi with rfl | rfl <;> decide +kernel
  · rcases two_cases hi with rfl | rfl <;> decide +kernel
  · rcases two_cases hi with rfl | rfl
    · omega
    · obtain rfl : j = 0 := by omega
      exact absurd he (by decide)

/-! ### How many columns -/
theorem numK_mul {n b : Nat} (hb : 1 ≤ b) : n ≤ numK n b * b := by
  have h : ¬ numK n b * b < n := fun e => Nat.lt_irrefl _ ((numK_lt hb).2 e)
  omega
theorem numK_le {n b c : Nat} (hb : 1 ≤ b) (h : n ≤ c * b) : numK n b ≤ c := by
  rcases Nat.lt_or_ge c (numK n b) with e | e
  · have := (numK_lt hb).1 e; omega
  · exact e
theorem numK_pos {n b : Nat} (hb : 1 ≤ b) (hn : 1 ≤ n) : 1 ≤ numK n b := (numK_lt hb).2 (by omega)
theorem stored_le {n b : Nat} (hb : 1 ≤ b) (hn : 1 ≤ n) : numK n b + min b n ≤ n + 1 := by
  rcases Nat.le_total b n with h | h
  · rw [Nat.min_eq_left h]
    have : numK n b ≤ n - b + 1 := numK_le hb (by
      obtain ⟨d, rfl⟩ : ∃ d, n = b + d := ⟨n - b, by omega⟩
      obtain ⟨c, rfl⟩ : ∃ c, b = c + 1 := ⟨b - 1, by omega⟩
      rw [show c + 1 + d - (c + 1) + 1 = d + 1 by omega, Nat.mul_add, Nat.mul_one, Nat.add_mul, Nat.one_mul]
      omega)
    omega
  · rw [Nat.min_eq_right h]
    have : numK n b ≤ 1 := numK_le hb (by omega)
    omega
theorem sq_sum (x y : Nat) : 4 * (x * y) ≤ (x + y) * (x + y) := by
  have e : (x + y) * (x + y) = x * x + y * y + 2 * (x * y) := by rw [Nat.add_mul, Nat.mul_add, Nat.mul_add, Nat.mul_comm y x]; omega
  rcases Nat.le_total x y with h | h
  · obtain ⟨d, rfl⟩ := Nat.exists_eq_add_of_le h
    have e2 : x * (x + d) = x * x + x * d := Nat.mul_add ..
    have e3 : (x + d) * (x + d) = x * x + x * d + (x * d + d * d) := by rw [Nat.add_mul, Nat.mul_add, Nat.mul_add, Nat.mul_comm d x]
    omega
  · obtain ⟨d, rfl⟩ := Nat.exists_eq_add_of_le h
    have e2 : (y + d) * y = y * y + d * y := Nat.add_mul ..
    have e3 : (y + d) * (y + d) = y * y + d * y + (d * y + d * d) := by rw [Nat.add_mul, Nat.mul_add, Nat.mul_add, Nat.mul_comm y d]
    omega
theorem stored_ge {n b : Nat} (hb : 1 ≤ b) (hn : 1 ≤ n) : 4 * n ≤ (numK n b + min b n + 1) * (numK n b + min b n + 1) := by
  have h0 := numK_pos hb hn
  have h1 : n ≤ numK n b * min b n := by
    rcases Nat.le_total b n with h | h
    · rw [Nat.min_eq_left h]; exact numK_mul hb
    · rw [Nat.min_eq_right h]; exact Nat.le_mul_of_pos_left n h0
  have h2 := sq_sum (numK n b) (min b n)
  have h3 : (numK n b + min b n) * (numK n b + min b n) ≤ (numK n b + min b n + 1) * (numK n b + min b n + 1) := Nat.mul_le_mul (by omega) (by omega)
  omega
theorem stored_root {n r : Nat} (hr : 1 ≤ r) (h : n ≤ r * r) : numK n r + min r n ≤ 2 * r + 1 := by
  have := numK_le hr h
  omega
end Go.AL

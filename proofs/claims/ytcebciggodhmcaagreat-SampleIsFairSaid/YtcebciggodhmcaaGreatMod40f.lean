/-
  M, chapter 40, part 6: all lists of bits in order; the runs that they choose ascend.
-/
import Derived.Test.YtcebciggodhmcaaGreatMod40e
set_option linter.unusedVariables false
set_option linter.unusedSimpArgs false
namespace Go.AL
open Go Go.BigFrame

/-! ### A run by its steps -/
def stepN (st w : List Int) (t : Nat) : Nat × Nat := ((st.getD t 0).toNat, (w.getD t 0).toNat - 1)
def stepsOf (st w : List Int) : List (Nat × Nat) := (List.range w.length).map (stepN st w)
theorem range_tail (f : Nat → Nat × Nat) (a d : Nat) : (List.range (d + 1)).map (fun j => f (a + j)) = f a :: (List.range d).map fun j => f (a + 1 + j) := by
  rw [List.range_succ_eq_map, List.map_cons, List.map_map]
  have e : (List.range d).map ((fun j => f (a + j)) ∘ Nat.succ) = (List.range d).map fun j => f (a + 1 + j) := List.map_congr_left fun j _ => by
    show f (a + (j + 1)) = f (a + 1 + j)
    rw [show a + (j + 1) = a + 1 + j by omega]
  rw [e]; rfl
theorem rangeL_from (h : HM) (st w : List Int) : ∀ d, d ≤ w.length → rangeL h (spF h st w (w.length - d)).1 (spF h st w (w.length - d)).2 ((List.range d).map fun j => stepN st w (w.length - d + j)) = rangeS h st w
  | 0, _ => rfl
  | d + 1, hd => by
    rw [range_tail]
    have ih := rangeL_from h st w d (by omega)
    rw [show w.length - d = w.length - (d + 1) + 1 by omega] at ih
    exact ih
theorem rangeL_eq (h : HM) (st w : List Int) : rangeL h .one none (stepsOf st w) = rangeS h st w := by
  have := rangeL_from h st w w.length (Nat.le_refl _)
  rw [Nat.sub_self] at this
  simp only [Nat.zero_add] at this
  exact this
theorem steps_ok {h : HM} {st w : List Int} (k : RunOK h st w) : StepsOK h (stepsOf st w) := fun p hp => by
  obtain ⟨t, ht, rfl⟩ := List.mem_map.1 hp
  have ht := List.mem_range.1 ht
  have h1 := k.state ht
  have h2 := k.word.symX ht
  exact ⟨by show (st.getD t 0).toNat < h.st; omega, h2.1⟩
theorem steps_inj {h : HM} {st w st2 w2 : List Int} (k : RunOK h st w) (k2 : RunOK h st2 w2) (e : stepsOf st w = stepsOf st2 w2) : st = st2 ∧ w = w2 := by
  have hl : w.length = w2.length := by have := congrArg List.length e; simpa [stepsOf] using this
  have hg : ∀ t, t < w.length → stepN st w t = stepN st2 w2 t := fun t ht => by
    have h1 : (stepsOf st w).getD t (0, 0) = stepN st w t := map_getD_range _ _ ht
    have h2 : (stepsOf st2 w2).getD t (0, 0) = stepN st2 w2 t := map_getD_range _ _ (by omega)
    rw [← h1, ← h2, e]
  refine ⟨list_eq_getD (by rw [k.1, k2.1, hl]) 0 fun t ht => ?_, list_eq_getD hl 0 fun t ht => ?_⟩
  · rw [k.1] at ht
    have h1 := congrArg Prod.fst (hg t ht)
    have h2 := k.state ht
    have h3 := k2.state (t := t) (by omega)
    simp only [stepN] at h1
    omega
  · have h1 := congrArg Prod.snd (hg t ht)
    have h2 := k.word.get ht
    have h3 := k2.word.get (t := t) (by omega)
    simp only [stepN] at h1
    omega
theorem one_nonneg : 0 ≤ Span.one.len := by decide
theorem range_in_one {h : HM} {B : Nat} (g : h.Good B) {st w : List Int} (k : RunOK h st w) : (rangeS h st w).inside .one := by
  rw [← rangeL_eq]; exact rangeL_in g _ (steps_ok k) (fun i hi => by cases hi) one_nonneg
theorem range_apart {h : HM} {B : Nat} (g : h.Good B) {st w st2 w2 : List Int} (k : RunOK h st w) (k2 : RunOK h st2 w2) (hne : ¬ (st = st2 ∧ w = w2)) : (rangeS h st w).before (rangeS h st2 w2) ∨ (rangeS h st2 w2).before (rangeS h st w) := by
  rw [← rangeL_eq, ← rangeL_eq]
  exact rangeL_apart g _ _ (steps_ok k) (steps_ok k2) (fun i hi => by cases hi) one_nonneg fun e => hne (steps_inj k k2 e)
/-! ### Lists of bits -/
def bitsN (b n : Nat) : List Int := (List.range b).map fun i => ((n / 2 ^ (b - 1 - i) % 2 : Nat) : Int)
theorem bitsN_len (b n : Nat) : (bitsN b n).length = b := by simp [bitsN]
theorem bitsN_bit (b n : Nat) : ∀ x, x ∈ bitsN b n → x = 0 ∨ x = 1 := fun x hx => by
  obtain ⟨i, _, rfl⟩ := List.mem_map.1 hx
  omega
def lenT : Nat → Rat
  | 0 => 1
  | t + 1 => lenT t * (1 / 2)
theorem half_pos : (0 : Rat) < 1 / 2 := by decide +kernel
theorem lenT_pos : ∀ t, 0 < lenT t
  | 0 => by decide
  | t + 1 => Rat.mul_pos (lenT_pos t) half_pos
theorem rdN_len (bits : List Int) : ∀ t, (rdN bits t).read.len = lenT t
  | 0 => rfl
  | t + 1 => by rw [rdN_succ]; show (rdN bits t).read.len * (1 / 2) = lenT t * (1 / 2); rw [rdN_len bits t]
theorem rdN_inside (bits : List Int) (u : Nat) : ∀ d, (rdN bits (u + d)).read.inside (rdN bits u).read
  | 0 => ⟨Rat.le_refl, Rat.le_refl⟩
  | d + 1 => by
    refine inside_trans ?_ (rdN_inside bits u d)
    have hp := lenT_pos (u + d)
    rw [← rdN_len bits] at hp
    rw [show u + (d + 1) = u + d + 1 by omega, rdN_succ]
    have hh := half_pos
    have e : (1 / 2 : Rat) + 1 / 2 = 1 := by decide +kernel
    generalize (1 / 2 : Rat) = q at hh e
    have hq := Rat.mul_pos hp hh
    refine ⟨?_, ?_⟩
    · show (rdN bits (u + d)).read.lo ≤ if _ then _ else _
      split <;> grind
    · show (if _ then _ else _) + _ ≤ _
      have e2 : (rdN bits (u + d)).read.len * q + (rdN bits (u + d)).read.len * q = (rdN bits (u + d)).read.len := by rw [← Rat.mul_add, e, Rat.mul_one]
      simp only
      split <;> grind
theorem bitsN_get {b n t : Nat} (ht : t < b) : (bitsN b n).getD t 0 = ((n / 2 ^ (b - 1 - t) % 2 : Nat) : Int) := map_getD_range _ _ ht
theorem rdN_bits {b n : Nat} (hn : n < 2 ^ b) : ∀ t, t ≤ b → (rdN (bitsN b n) t).read.lo = ((n / 2 ^ (b - t) : Nat) : Rat) * lenT t
  | 0, _ => by
    rw [Nat.sub_zero, Nat.div_eq_of_lt hn]
    show (0 : Rat) = ((0 : Nat) : Rat) * 1
    decide +kernel
  | t + 1, ht => by
    rw [rdN_succ]
    show (if (bitsN b n).getD t 0 = 1 then _ else _) = _
    rw [bitsN_get (by omega), rdN_bits hn t (by omega), rdN_len, show b - (t + 1) = b - 1 - t by omega]
    have e1 : n / 2 ^ (b - t) = n / 2 ^ (b - 1 - t) / 2 := by rw [Nat.div_div_eq_div_mul, ← Nat.pow_succ, show (b - 1 - t).succ = b - t by omega]
    rw [e1]
    generalize n / 2 ^ (b - 1 - t) = m
    show _ = (m : Rat) * (lenT t * (1 / 2))
    have e : (2 : Rat) * (1 / 2) = 1 := by decide +kernel
    generalize (1 / 2 : Rat) = q at e
    rcases Nat.mod_two_eq_zero_or_one m with h0 | h1
    · rw [h0, if_neg (by decide)]
      have : m = 2 * (m / 2) := by omega
      generalize m / 2 = k at this
      subst this
      rw [Rat.natCast_mul]
      grind
    · rw [h1, if_pos (by rfl)]
      have : m = 2 * (m / 2) + 1 := by omega
      generalize m / 2 = k at this
      subst this
      rw [Rat.natCast_add, Rat.natCast_mul]
      grind
theorem bits_before {b j n : Nat} (hjn : j < n) (hn : n < 2 ^ b) : (rdN (bitsN b j) b).read.before (rdN (bitsN b n) b).read := by
  have hp := lenT_pos b
  show (rdN (bitsN b j) b).read.lo + (rdN (bitsN b j) b).read.len ≤ (rdN (bitsN b n) b).read.lo
  rw [rdN_bits (by omega) b (Nat.le_refl _), rdN_bits hn b (Nat.le_refl _), rdN_len, Nat.sub_self, Nat.pow_zero, Nat.div_one, Nat.div_one]
  have h1 : ((j + 1 : Nat) : Rat) ≤ ((n : Nat) : Rat) := Rat.natCast_le_natCast.2 hjn
  have h2 := Rat.mul_le_mul_of_nonneg_right h1 (Rat.le_of_lt hp)
  rw [Rat.natCast_add] at h2
  grind
end Go.AL

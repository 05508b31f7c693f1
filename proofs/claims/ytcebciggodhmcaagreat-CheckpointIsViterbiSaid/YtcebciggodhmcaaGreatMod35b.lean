/-
  M, chapter 35, part 2: what Best and Within hand back; sets of states as numbers.
-/
import Derived.Test.YtcebciggodhmcaaGreatMod35
set_option linter.unusedVariables false
set_option linter.unusedSimpArgs false
namespace Go.AL
open Go Go.BigFrame

def bestR (h : HM) (w : List Int) (p : Nat → Nat → Bool) : Rat := if w.length = 0 then h.empty else bestG h w p
def vitP (h : HM) (w : List Int) (p : Nat → Nat → Bool) : List Int := if w.length = 0 ∨ bestG h w p = 0 then [] else pathG h w p w.length
def vitE (h : HM) (w : List Int) (p : Nat → Nat → Bool) : Int := if bestR h w p = 0 then 11 else 0
theorem vitE_zero {h : HM} {w : List Int} {p : Nat → Nat → Bool} : vitE h w p = 0 ↔ bestR h w p ≠ 0 := by
  unfold vitE
  by_cases e : bestR h w p = 0
  · rw [if_pos e]; exact ⟨fun x => absurd x (by decide), fun x => absurd e x⟩
  · rw [if_neg e]; exact ⟨fun _ => e, fun _ => rfl⟩
theorem vitE_cases (h : HM) (w : List Int) (p : Nat → Nat → Bool) : vitE h w p = 0 ∨ vitE h w p = 11 := by
  unfold vitE; split
  · exact .inr rfl
  · exact .inl rfl
theorem vitP_len {h : HM} {w : List Int} {p : Nat → Nat → Bool} (e : vitE h w p = 0) : (vitP h w p).length = w.length := by
  have e := vitE_zero.1 e
  unfold vitP
  by_cases h0 : w.length = 0
  · rw [if_pos (.inl h0), h0]; rfl
  · have e2 : bestG h w p ≠ 0 := by unfold bestR at e; rw [if_neg h0] at e; exact e
    rw [if_neg fun x => x.elim h0 e2, pathG_len]
theorem vitP_nil {h : HM} {w : List Int} {p : Nat → Nat → Bool} (e : vitE h w p ≠ 0) : vitP h w p = [] := by
  unfold vitP
  by_cases h0 : w.length = 0
  · rw [if_pos (.inl h0)]
  · have e2 : bestG h w p = 0 := by
      have : ¬ bestR h w p ≠ 0 := fun x => e (vitE_zero.2 x)
      unfold bestR at this
      rw [if_neg h0] at this
      exact Decidable.of_not_not this
    rw [if_pos (.inr e2)]
theorem vitP_get {h : HM} {w : List Int} {p : Nat → Nat → Bool} (e : vitE h w p = 0) {t : Nat} (ht : t < w.length) : (vitP h w p).getD t 0 = toG h w p (t + 1) := by
  have e := vitE_zero.1 e
  have h0 : w.length ≠ 0 := by omega
  have e2 : bestG h w p ≠ 0 := by unfold bestR at e; rw [if_neg h0] at e; exact e
  unfold vitP
  rw [if_neg fun x => x.elim h0 e2]
  exact pathG_get ht
theorem vit_pos {h : HM} {w : List Int} {p : Nat → Nat → Bool} (e : vitE h w p = 0) (h0 : w.length ≠ 0) : 0 < bestG h w p := by
  have e := vitE_zero.1 e
  unfold bestR at e
  rw [if_neg h0] at e
  exact (rat_pos (bestG_nonneg h w p)).resolve_right fun x => e x.symm
theorem bestR_sz {h : HM} {B : Nat} (f : h.Form B) {w : List Int} (hw : w.length ≤ 256) (p : Nat → Nat → Bool) : sz (bestR h w p) ≤ 1052672 := by
  unfold bestR
  split
  · have := f.zE; have := f.bB; omega
  · have := aheadF_sz f (-1) (symX w 0) (restG_szB f w p (d := w.length - 1 - 0) (by omega)) (by decide) h.st
    show sz (aheadF h (-1) (symX w 0) (restG h w p (w.length - 1 - 0)) h.st).1 ≤ _
    omega
/-! ### Within -/
theorem within_le {h : HM} {B : Nat} (g : h.Good B) (w : List Int) (p : Nat → Nat → Bool) : bestR h w p ≤ bestR h w every := by
  unfold bestR
  split
  · exact Rat.le_refl
  · exact bestG_mono g w fun _ _ _ => rfl
theorem best_nonneg {h : HM} {B : Nat} (g : h.Good B) (w : List Int) (p : Nat → Nat → Bool) : 0 ≤ bestR h w p := by
  unfold bestR
  split
  · exact g.pE.1
  · exact bestG_nonneg h w p
theorem within_ok {h : HM} {B : Nat} (g : h.Good B) {w : List Int} {p : Nat → Nat → Bool} (e : vitE h w p = 0) : vitE h w every = 0 := by
  rw [vitE_zero] at e ⊢
  intro h0
  have h1 := within_le g w p
  rw [h0] at h1
  exact e (Rat.le_antisymm h1 (best_nonneg g w p))
theorem within_fits {h : HM} {B : Nat} (g : h.Good B) {w : List Int} {p : Nat → Nat → Bool} (e : vitE h w every = 0) (hfit : ∀ t, t < w.length → p t ((vitP h w every).getD t 0).toNat = true) : vitE h w p = 0 ∧ vitP h w p = vitP h w every := by
  by_cases h0 : w.length = 0
  · refine ⟨?_, ?_⟩
    · rw [vitE_zero] at e ⊢
      unfold bestR at e ⊢
      rw [if_pos h0] at e ⊢
      exact e
    · unfold vitP
      rw [if_pos (.inl h0), if_pos (.inl h0)]
  · obtain ⟨b1, b2⟩ := best_fits (p := p) (q := every) g (by omega) (fun _ _ _ => rfl) (vit_pos e h0) fun t ht => by rw [← vitP_get e ht]; exact hfit t ht
    refine ⟨?_, ?_⟩
    · rw [vitE_zero] at e ⊢
      unfold bestR at e ⊢
      rw [if_neg h0] at e ⊢
      rw [b1]; exact e
    · unfold vitP
      rw [b1, b2]
theorem within_permitted {h : HM} {B : Nat} (g : h.Good B) {w : List Int} {p : Nat → Nat → Bool} (e : vitE h w p = 0) {t : Nat} (ht : t < w.length) : p t ((vitP h w p).getD t 0).toNat = true := by
  rw [vitP_get e ht]
  exact best_permitted g (vit_pos e (by omega)) ht
/-! ### Sets of states -/
def setF (sets : List Int) (t : Nat) : Nat := if t < sets.length then (within (sets.getD t 0) 8).toNat else 7
def bitS (x s : Nat) : Bool := decide (x / 2 ^ s % 2 = 1)
def rowA (x n : Nat) : List Int := ((List.range n).filter fun s => bitS x s).map fun s : Nat => (s : Int)
def allowA (sets : List Int) (n m : Nat) : List (List Int) := (List.range m).map fun t => rowA (setF sets t) n
def permA (al : List (List Int)) (t i : Nat) : Bool := (al.getD t []).any fun y => ((i : Nat) : Int) == y
theorem setF_le (sets : List Int) (t : Nat) : setF sets t ≤ 7 := by
  unfold setF
  split
  · have := within_range (v := sets.getD t 0) (m := 8) (by decide); omega
  · exact Nat.le_refl _
theorem rowA_succ (x n : Nat) : rowA x (n + 1) = if bitS x n = true then rowA x n ++ [((n : Nat) : Int)] else rowA x n := by
  unfold rowA
  rw [List.range_succ, List.filter_append, List.map_append]
  by_cases e : bitS x n = true
  · rw [if_pos e]; simp [e]
  · rw [if_neg e]; simp [e]
theorem rowA_len (x n : Nat) : (rowA x n).length ≤ n := by
  unfold rowA
  rw [List.length_map]
  exact Nat.le_trans (List.length_filter_le ..) (by simp)
theorem rowA_mem {x n : Nat} {y : Int} : y ∈ rowA x n ↔ ∃ s : Nat, s < n ∧ bitS x s = true ∧ (s : Int) = y := by
  unfold rowA
  simp only [List.mem_map, List.mem_filter, List.mem_range]
  constructor
  · rintro ⟨s, ⟨h1, h2⟩, h3⟩; exact ⟨s, h1, h2, h3⟩
  · rintro ⟨s, h1, h2, h3⟩; exact ⟨s, ⟨h1, h2⟩, h3⟩
theorem allowA_len (sets : List Int) (n m : Nat) : (allowA sets n m).length = m := by simp [allowA]
theorem allowA_succ (sets : List Int) (n m : Nat) : allowA sets n (m + 1) = allowA sets n m ++ [rowA (setF sets m) n] := by unfold allowA; rw [List.range_succ, List.map_append]; rfl
theorem allowA_get {sets : List Int} {n m t : Nat} (ht : t < m) : (allowA sets n m).getD t [] = rowA (setF sets t) n := map_getD_range _ _ ht
theorem allowA_ok {sets : List Int} {n m : Nat} : ∀ l, l ∈ allowA sets n m → (∀ x, x ∈ l → 0 ≤ x ∧ x < (n : Int)) ∧ l.length ≤ n := fun l hl => by
  obtain ⟨t, _, rfl⟩ := List.mem_map.1 hl
  refine ⟨fun x hx => ?_, rowA_len _ _⟩
  obtain ⟨s, h1, _, h3⟩ := rowA_mem.1 hx
  omega
theorem permA_iff {sets : List Int} {n m t i : Nat} (ht : t < m) : permA (allowA sets n m) t i = true ↔ i < n ∧ bitS (setF sets t) i = true := by
  unfold permA
  rw [allowA_get ht, List.any_eq_true]
  constructor
  · rintro ⟨y, hy, he⟩
    obtain ⟨s, h1, h2, h3⟩ := rowA_mem.1 hy
    have : ((i : Nat) : Int) = y := by simpa using he
    obtain rfl : s = i := by omega
    exact ⟨h1, h2⟩
  · rintro ⟨h1, h2⟩
    exact ⟨_, rowA_mem.2 ⟨i, h1, h2, rfl⟩, by simp⟩
/-- The best path lies within the sets. -/
def FitsA (h : HM) (w sets : List Int) (n : Nat) : Prop := vitE h w every = 0 ∧ ∀ t, t < n → bitS (setF sets t) ((vitP h w every).getD t 0).toNat = true
instance (h : HM) (w sets : List Int) (n : Nat) : Decidable (FitsA h w sets n) := inferInstanceAs (Decidable (_ ∧ _))
theorem fitsA_perm {h : HM} {B : Nat} (g : h.Good B) {w sets : List Int} (e : FitsA h w sets w.length) : vitE h w (permA (allowA sets h.st w.length)) = 0 ∧ vitP h w (permA (allowA sets h.st w.length)) = vitP h w every := by
  refine within_fits g e.1 fun t ht => (permA_iff ht).2 ⟨?_, e.2 t ht⟩
  rw [vitP_get e.1 ht]
  have := toG_range (show 1 ≤ h.st from g.form.st0) w every (t + 1)
  have := toG_nonneg h w every t
  omega
theorem within_in {h : HM} {B : Nat} (g : h.Good B) {w sets : List Int} (e : vitE h w (permA (allowA sets h.st w.length)) = 0) {t : Nat} (ht : t < w.length) : ((vitP h w (permA (allowA sets h.st w.length))).getD t 0) ∈ rowA (setF sets t) h.st := by
  have h1 := (permA_iff ht).1 (within_permitted g e ht)
  refine rowA_mem.2 ⟨_, h1.1, h1.2, ?_⟩
  rw [vitP_get e ht]
  have := toG_nonneg h w (permA (allowA sets h.st w.length)) t
  omega
end Go.AL

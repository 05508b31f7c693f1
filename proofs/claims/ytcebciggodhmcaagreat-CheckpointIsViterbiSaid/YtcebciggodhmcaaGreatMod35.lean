/-
  M, chapter 35: best paths among permitted states.
-/
import Derived.Test.YtcebciggodhmcaaGreatMod36b
set_option linter.unusedVariables false
set_option linter.unusedSimpArgs false
namespace Go.AL
open Go Go.BigFrame

def rowG (h : HM) (p : Nat → Bool) (g : Nat → Rat) : List Rat := (List.range h.st).map fun i => if p i = true then g i else 0
def restG (h : HM) (w : List Int) (p : Nat → Nat → Bool) : Nat → List Rat
  | 0 => rowG h (p (w.length - 1)) fun i => h.stop.getD i 0
  | d + 1 => rowG h (p (w.length - 1 - (d + 1))) fun i => (aheadF h (i : Nat) (symX w (w.length - 1 - d)) (restG h w p d) h.st).1
def ahdG (h : HM) (w : List Int) (p : Nat → Nat → Bool) (fr : Int) (t : Nat) : Rat × Nat := aheadF h fr (symX w t) (restG h w p (w.length - 1 - t)) h.st
def toG (h : HM) (w : List Int) (p : Nat → Nat → Bool) : Nat → Int
  | 0 => -1
  | t + 1 => ((ahdG h w p (toG h w p t) t).2 : Nat)
def pathG (h : HM) (w : List Int) (p : Nat → Nat → Bool) (t : Nat) : List Int := (List.range t).map fun i => toG h w p (i + 1)
def bestG (h : HM) (w : List Int) (p : Nat → Nat → Bool) : Rat := (ahdG h w p (-1) 0).1
def every : Nat → Nat → Bool := fun _ _ => true
theorem rowG_get {h : HM} {p : Nat → Bool} {g : Nat → Rat} {i : Nat} (hi : i < h.st) : (rowG h p g).getD i 0 = if p i = true then g i else 0 := map_getD_range _ _ hi
theorem rowG_len (h : HM) (p : Nat → Bool) (g : Nat → Rat) : (rowG h p g).length = h.st := by simp [rowG]
theorem restG_len (h : HM) (w : List Int) (p : Nat → Nat → Bool) : ∀ d, (restG h w p d).length = h.st
  | 0 => rowG_len ..
  | d + 1 => rowG_len ..
theorem rowG_out {h : HM} {p : Nat → Bool} {g : Nat → Rat} {i : Nat} (hi : ¬ i < h.st) : (rowG h p g).getD i 0 = 0 := getD_ge (by rw [rowG_len]; omega)
theorem rowG_nonneg {h : HM} {p : Nat → Bool} {g : Nat → Rat} (hg : ∀ i, i < h.st → 0 ≤ g i) (i : Nat) : 0 ≤ (rowG h p g).getD i 0 := by
  by_cases hi : i < h.st
  · rw [rowG_get hi]
    split
    · exact hg i hi
    · exact Rat.le_refl
  · rw [rowG_out hi]; exact Rat.le_refl
theorem pathG_len (h : HM) (w : List Int) (p : Nat → Nat → Bool) (t : Nat) : (pathG h w p t).length = t := by simp [pathG]
theorem pathG_succ (h : HM) (w : List Int) (p : Nat → Nat → Bool) (t : Nat) : pathG h w p (t + 1) = pathG h w p t ++ [toG h w p (t + 1)] := by unfold pathG; rw [List.range_succ, List.map_append]; rfl
theorem pathG_get {h : HM} {w : List Int} {p : Nat → Nat → Bool} {t n : Nat} (ht : t < n) : (pathG h w p n).getD t 0 = toG h w p (t + 1) := map_getD_range _ _ ht
/-- The greatest value and the least state that has it. -/
structure AhdSpec (h : HM) (fr : Int) (x : Nat) (rest : List Rat) (n : Nat) (r : Rat × Nat) : Prop where
  nonneg : 0 ≤ r.1
  le : ∀ i, i < n → viaQ h fr x rest i ≤ r.1
  zero : r.1 = 0 → r.2 = 0
  lt : 0 < r.1 → r.2 < n
  eq : 0 < r.1 → viaQ h fr x rest r.2 = r.1
  least : 0 < r.1 → ∀ i, i < r.2 → viaQ h fr x rest i < r.1
theorem ahead_spec (h : HM) (fr : Int) (x : Nat) (rest : List Rat) : ∀ n, AhdSpec h fr x rest n (aheadF h fr x rest n)
  | 0 => ⟨Rat.le_refl, fun i hi => absurd hi (Nat.not_lt_zero i), fun _ => rfl, fun hp => absurd hp (by show ¬ (0 : Rat) < 0; decide), fun hp => absurd hp (by show ¬ (0 : Rat) < 0; decide), fun hp => absurd hp (by show ¬ (0 : Rat) < 0; decide)⟩
  | n + 1 => by
    have ih := ahead_spec h fr x rest n
    rw [aheadF]
    split
    · rename_i hlt
      have h0 := ih.nonneg
      have hpos : 0 < viaQ h fr x rest n := Std.lt_of_le_of_lt h0 hlt
      refine ⟨Rat.le_of_lt hpos, fun i hi => ?_, fun e => ?_, fun _ => Nat.lt_succ_self n, fun _ => rfl, fun _ i hi => ?_⟩
      · rcases Nat.lt_or_ge i n with h1 | h1
        · exact Rat.le_trans (ih.le i h1) (Rat.le_of_lt hlt)
        · obtain rfl : i = n := by omega
          exact Rat.le_refl
      · simp only at e
        rw [e] at hpos
        exact absurd hpos (by decide)
      · exact Std.lt_of_le_of_lt (ih.le i hi) hlt
    · rename_i hlt
      refine ⟨ih.nonneg, fun i hi => ?_, ih.zero, fun hp => Nat.lt_succ_of_lt (ih.lt hp), ih.eq, ih.least⟩
      rcases Nat.lt_or_ge i n with h1 | h1
      · exact ih.le i h1
      · obtain rfl : i = n := by omega
        exact Rat.not_lt.1 hlt
theorem step_nonneg {h : HM} {B : Nat} (g : h.Good B) (fr : Int) (i : Nat) : 0 ≤ stepQ h fr i := by
  unfold stepQ
  split
  · exact ((g.pT _).get i).1
  · exact (g.pI.get i).1
theorem coef_nonneg {h : HM} {B : Nat} (g : h.Good B) (fr : Int) (x i : Nat) : 0 ≤ stepQ h fr i * (h.emit.getD i []).getD x 0 := Rat.mul_nonneg (step_nonneg g fr i) ((g.pM i).get x).1
theorem via_mono {h : HM} {B : Nat} (g : h.Good B) (fr : Int) (x i : Nat) {r q : List Rat} (hrq : r.getD i 0 ≤ q.getD i 0) : viaQ h fr x r i ≤ viaQ h fr x q i := Rat.mul_le_mul_of_nonneg_left hrq (coef_nonneg g fr x i)
theorem via_pos {h : HM} {fr : Int} {x i : Nat} {r : List Rat} (h0 : 0 < viaQ h fr x r i) : r.getD i 0 ≠ 0 := fun e => by
  unfold viaQ at h0
  rw [e, Rat.mul_zero] at h0
  exact absurd h0 (by decide)
theorem ahead_mono {h : HM} {B : Nat} (g : h.Good B) (fr : Int) (x n : Nat) {r q : List Rat} (hrq : ∀ i, r.getD i 0 ≤ q.getD i 0) : (aheadF h fr x r n).1 ≤ (aheadF h fr x q n).1 := by
  have a := ahead_spec h fr x r n
  have b := ahead_spec h fr x q n
  rcases rat_pos a.nonneg with h0 | h0
  · rw [← a.eq h0]
    exact Rat.le_trans (via_mono g fr x _ (hrq _)) (b.le _ (a.lt h0))
  · rw [← h0]; exact b.nonneg
theorem ahead_same {h : HM} {B : Nat} (g : h.Good B) (fr : Int) (x n : Nat) {r q : List Rat} (hrq : ∀ i, r.getD i 0 ≤ q.getD i 0) (h0 : 0 < (aheadF h fr x q n).1) (he : r.getD (aheadF h fr x q n).2 0 = q.getD (aheadF h fr x q n).2 0) :
    aheadF h fr x r n = aheadF h fr x q n := by
  have a := ahead_spec h fr x r n
  have b := ahead_spec h fr x q n
  have hm := ahead_mono g fr x n hrq
  have hv : viaQ h fr x r (aheadF h fr x q n).2 = (aheadF h fr x q n).1 := by
    rw [← b.eq h0]; unfold viaQ; rw [he]
  have h1 := a.le _ (b.lt h0)
  rw [hv] at h1
  have e1 : (aheadF h fr x r n).1 = (aheadF h fr x q n).1 := Rat.le_antisymm hm h1
  have h0a : 0 < (aheadF h fr x r n).1 := by rw [e1]; exact h0
  refine Prod.ext e1 ?_
  rcases Nat.lt_trichotomy (aheadF h fr x r n).2 (aheadF h fr x q n).2 with h2 | h2 | h2
  · exfalso
    have h3 := b.least h0 _ h2
    have h4 := via_mono g fr x (aheadF h fr x r n).2 (hrq _)
    rw [a.eq h0a, e1] at h4
    exact absurd h3 (Rat.not_lt.2 h4)
  · exact h2
  · exfalso
    have h3 := a.least h0a _ h2
    rw [hv, e1] at h3
    exact absurd h3 (Rat.not_lt.2 Rat.le_refl)
theorem stop_nonneg {h : HM} {B : Nat} (g : h.Good B) (i : Nat) : 0 ≤ h.stop.getD i 0 := (g.pS.get i).1
theorem restG_nonneg {h : HM} {B : Nat} (g : h.Good B) (w : List Int) (p : Nat → Nat → Bool) (d i : Nat) : 0 ≤ (restG h w p d).getD i 0 := by
  cases d with
  | zero => exact rowG_nonneg (fun i _ => stop_nonneg g i) i
  | succ d => exact rowG_nonneg (fun i _ => (ahead_spec ..).nonneg) i
theorem restG_every {h : HM} {B : Nat} (f : h.Form B) (w : List Int) : ∀ d, restG h w every d = restF h w d
  | 0 => by
    refine list_eq_getD (by rw [restG_len]; exact f.stop.symm) 0 fun i hi => ?_
    rw [restG_len] at hi
    rw [restG, rowG_get hi]; exact if_pos rfl
  | d + 1 => by
    refine list_eq_getD (by rw [restG_len, restF_len f]) 0 fun i hi => ?_
    rw [restG_len] at hi
    rw [restG, rowG_get hi, restF, beforeF, map_getD_range _ _ hi, restG_every f w d]; exact if_pos rfl
theorem ahdG_every {h : HM} {B : Nat} (f : h.Form B) (w : List Int) (fr : Int) (t : Nat) : ahdG h w every fr t = ahd h w fr t := by rw [ahdG, ahd, restG_every f]
theorem toG_every {h : HM} {B : Nat} (f : h.Form B) (w : List Int) : ∀ t, toG h w every t = toF h w t
  | 0 => rfl
  | t + 1 => by rw [toG, toF, toG_every f w t, ahdG_every f]
theorem pathG_every {h : HM} {B : Nat} (f : h.Form B) (w : List Int) (t : Nat) : pathG h w every t = pathF h w t := List.map_congr_left fun i _ => toG_every f w (i + 1)
theorem bestG_every {h : HM} {B : Nat} (f : h.Form B) (w : List Int) : bestG h w every = bestP h w := by rw [bestG, bestP, ahdG_every f]
/-! ### Sizes and ranges -/
theorem toG_range {h : HM} (h0 : 1 ≤ h.st) (w : List Int) (p : Nat → Nat → Bool) : ∀ t, -1 ≤ toG h w p t ∧ toG h w p t < h.st
  | 0 => ⟨by show (-1 : Int) ≤ -1; omega, by show (-1 : Int) < _; omega⟩
  | t + 1 => by
    have := aheadF_lt h (toG h w p t) (symX w t) (restG h w p (w.length - 1 - t)) h0 h.st (Nat.le_refl _)
    rw [toG, ahdG]; omega
theorem toG_nonneg (h : HM) (w : List Int) (p : Nat → Nat → Bool) (t : Nat) : 0 ≤ toG h w p (t + 1) := by rw [toG]; omega
theorem rowG_small {h : HM} {C : Nat} {p : Nat → Bool} {g : Nat → Rat} (hC : 1 ≤ C) (hg : ∀ i, i < h.st → sz (g i) ≤ C) : Small C (rowG h p g) := fun q hq => by
  obtain ⟨i, hi, rfl⟩ := List.mem_map.1 hq
  show sz (if p i = true then g i else 0) ≤ C
  split
  · exact hg i (List.mem_range.1 hi)
  · rw [sz_zero]; exact hC
theorem restG_sz {h : HM} {B : Nat} (f : h.Form B) (w : List Int) (p : Nat → Nat → Bool) : ∀ d, Small (1024 + 2048 * d) (restG h w p d)
  | 0 => rowG_small (by omega) fun i _ => Nat.le_trans (f.zS.get f.b1 i) (by have := f.bB; omega)
  | d + 1 => rowG_small (by omega) fun i _ => Nat.le_trans (aheadF_sz f _ _ (restG_sz f w p d) (by omega) _) (by omega)
theorem restG_szB {h : HM} {B : Nat} (f : h.Form B) (w : List Int) (p : Nat → Nat → Bool) {d : Nat} (hd : d ≤ 256) : Small 1048576 (restG h w p d) := (restG_sz f w p d).mono (by omega)
/-! ### Fewer permitted states -/
theorem restG_mono {h : HM} {B : Nat} (g : h.Good B) (w : List Int) {p q : Nat → Nat → Bool} (hpq : ∀ t i, p t i = true → q t i = true) : ∀ d i, (restG h w p d).getD i 0 ≤ (restG h w q d).getD i 0
  | 0, i => by
    by_cases hi : i < h.st
    · rw [restG, restG, rowG_get hi, rowG_get hi]
      by_cases hp : p (w.length - 1) i = true
      · rw [if_pos hp, if_pos (hpq _ _ hp)]; exact Rat.le_refl
      · rw [if_neg hp]
        split
        · exact stop_nonneg g i
        · exact Rat.le_refl
    · rw [restG, restG, rowG_out hi, rowG_out hi]; exact Rat.le_refl
  | d + 1, i => by
    by_cases hi : i < h.st
    · rw [restG, restG, rowG_get hi, rowG_get hi]
      by_cases hp : p (w.length - 1 - (d + 1)) i = true
      · rw [if_pos hp, if_pos (hpq _ _ hp)]
        exact ahead_mono g _ _ _ (restG_mono g w hpq d)
      · rw [if_neg hp]
        split
        · exact (ahead_spec ..).nonneg
        · exact Rat.le_refl
    · rw [restG, restG, rowG_out hi, rowG_out hi]; exact Rat.le_refl
theorem bestG_mono {h : HM} {B : Nat} (g : h.Good B) (w : List Int) {p q : Nat → Nat → Bool} (hpq : ∀ t i, p t i = true → q t i = true) : bestG h w p ≤ bestG h w q := ahead_mono g _ _ _ (restG_mono g w hpq _)
theorem bestG_nonneg (h : HM) (w : List Int) (p : Nat → Nat → Bool) : 0 ≤ bestG h w p := (ahead_spec ..).nonneg
/-- Along the best path everything that follows is possible, and its states are permitted. -/
theorem best_chain {h : HM} {B : Nat} (g : h.Good B) {w : List Int} {p : Nat → Nat → Bool} (h0 : 0 < bestG h w p) : ∀ t, t < w.length → 0 < (ahdG h w p (toG h w p t) t).1 ∧ p t (ahdG h w p (toG h w p t) t).2 = true := by
  have key : ∀ t, t < w.length → 0 < (ahdG h w p (toG h w p t) t).1 → (ahdG h w p (toG h w p t) t).2 < h.st ∧ (restG h w p (w.length - 1 - t)).getD (ahdG h w p (toG h w p t) t).2 0 ≠ 0 := fun t ht hp => by
    have a := ahead_spec h (toG h w p t) (symX w t) (restG h w p (w.length - 1 - t)) h.st
    have e := a.eq hp
    have hv : 0 < viaQ h (toG h w p t) (symX w t) (restG h w p (w.length - 1 - t)) (ahdG h w p (toG h w p t) t).2 := by
      have e2 : viaQ h (toG h w p t) (symX w t) (restG h w p (w.length - 1 - t)) (ahdG h w p (toG h w p t) t).2 = (ahdG h w p (toG h w p t) t).1 := e
      rw [e2]; exact hp
    exact ⟨a.lt hp, via_pos hv⟩
  have perm : ∀ t, t < w.length → 0 < (ahdG h w p (toG h w p t) t).1 → p t (ahdG h w p (toG h w p t) t).2 = true := fun t ht hp => by
    obtain ⟨k1, k2⟩ := key t ht hp
    generalize (ahdG h w p (toG h w p t) t).2 = s at k1 k2
    cases hd : w.length - 1 - t with
    | zero =>
      rw [hd, restG, rowG_get k1] at k2
      obtain rfl : t = w.length - 1 := by omega
      by_cases hb : p (w.length - 1) s = true
      · exact hb
      · rw [if_neg hb] at k2; exact absurd rfl k2
    | succ d =>
      rw [hd, restG, rowG_get k1, show w.length - 1 - (d + 1) = t by omega] at k2
      by_cases hb : p t s = true
      · exact hb
      · rw [if_neg hb] at k2; exact absurd rfl k2
  intro t
  induction t with
  | zero => exact fun ht => ⟨h0, perm 0 ht h0⟩
  | succ t ih =>
    intro ht
    obtain ⟨h1, h2⟩ := ih (by omega)
    have hp : 0 < (ahdG h w p (toG h w p (t + 1)) (t + 1)).1 := by
      obtain ⟨k1, k2⟩ := key t (by omega) h1
      rw [toG]
      generalize (ahdG h w p (toG h w p t) t).2 = s at k1 k2 h2
      obtain ⟨d, hd⟩ : ∃ d, w.length - 1 - t = d + 1 := ⟨w.length - 2 - t, by omega⟩
      rw [hd, restG, rowG_get k1, show w.length - 1 - (d + 1) = t by omega, if_pos h2, show w.length - 1 - d = t + 1 by omega] at k2
      have hdd : w.length - 1 - (t + 1) = d := by omega
      have hn := (ahead_spec h (s : Nat) (symX w (t + 1)) (restG h w p d) h.st).nonneg
      rw [ahdG, hdd]
      rcases rat_pos hn with e | e
      · exact e
      · exact absurd e.symm k2
    exact ⟨hp, perm (t + 1) ht hp⟩
theorem best_permitted {h : HM} {B : Nat} (g : h.Good B) {w : List Int} {p : Nat → Nat → Bool} (h0 : 0 < bestG h w p) {t : Nat} (ht : t < w.length) : p t (toG h w p (t + 1)).toNat = true := by
  rw [toG, Int.toNat_natCast]; exact (best_chain g h0 t ht).2
/-- If the best path is permitted, it is the best of the permitted ones. -/
theorem best_fits {h : HM} {B : Nat} (g : h.Good B) {w : List Int} {p q : Nat → Nat → Bool} (hw : 0 < w.length) (hpq : ∀ t i, p t i = true → q t i = true) (h0 : 0 < bestG h w q) (hfit : ∀ t, t < w.length → p t (toG h w q (t + 1)).toNat = true) :
    bestG h w p = bestG h w q ∧ pathG h w p w.length = pathG h w q w.length := by
  have rest : ∀ d t, w.length - 1 - t = d → t < w.length → (restG h w p d).getD (ahdG h w q (toG h w q t) t).2 0 = (restG h w q d).getD (ahdG h w q (toG h w q t) t).2 0 := by
    intro d
    induction d with
    | zero =>
      intro t hd ht
      have hs := (ahead_spec h (toG h w q t) (symX w t) (restG h w q (w.length - 1 - t)) h.st).lt (best_chain g h0 t ht).1
      have hs : (ahdG h w q (toG h w q t) t).2 < h.st := hs
      have hp := hfit t ht
      rw [toG, Int.toNat_natCast] at hp
      have hq := hpq _ _ hp
      obtain rfl : t = w.length - 1 := by omega
      rw [restG, restG, rowG_get hs, rowG_get hs, if_pos hp, if_pos hq]
    | succ d ih =>
      intro t hd ht
      have hs : (ahdG h w q (toG h w q t) t).2 < h.st := (ahead_spec h (toG h w q t) (symX w t) (restG h w q (w.length - 1 - t)) h.st).lt (best_chain g h0 t ht).1
      have hp := hfit t ht
      rw [toG, Int.toNat_natCast] at hp
      have hq := hpq _ _ hp
      rw [restG, restG, rowG_get hs, rowG_get hs, show w.length - 1 - (d + 1) = t by omega, if_pos hp, if_pos hq]
      have ih := ih (t + 1) (by omega) (by omega)
      have h1 := (best_chain g h0 (t + 1) (by omega)).1
      have e1 : w.length - 1 - d = t + 1 := by omega
      have e2 : w.length - 1 - (t + 1) = d := by omega
      rw [toG, ahdG, e2] at ih h1
      rw [e1]
      rw [ahead_same g _ _ _ (restG_mono g w hpq d) h1 ih]
  have same : ∀ t, t < w.length → ∀ fr, fr = toG h w q t → ahdG h w p fr t = ahdG h w q fr t := fun t ht fr hfr => by
    subst hfr
    exact ahead_same g _ _ _ (restG_mono g w hpq _) (best_chain g h0 t ht).1 (rest _ t rfl ht)
  have to : ∀ t, t ≤ w.length → toG h w p t = toG h w q t := by
    intro t
    induction t with
    | zero => exact fun _ => rfl
    | succ t ih =>
      intro ht
      rw [toG, toG, ih (by omega), same t (by omega) _ rfl]
  refine ⟨by rw [bestG, bestG, same 0 hw (-1) rfl], List.map_congr_left fun i hi => to (i + 1) (by have := List.mem_range.1 hi; omega)⟩
end Go.AL

/-
  M, chapter 35: best paths among permitted states.
-/
import Derived.Test.YtonndaibggjmjaaGreatKMod36b
set_option linter.unusedVariables false
set_option linter.unusedSimpArgs false
namespace Go.AL
open Go Go.BigFrame
def rowG (h : HM) (p : Nat → Bool) (g : Nat → Rat) : List Rat := (List.range h.st).map fun i => if p i = true then g i else 0
def restG (h : HM) (w : List Int) (p : Nat → Nat → Bool) : Nat → List Rat
 | 0 => rowG h (p (w.length - 1)) fun i => h.stop.getD i 0
 | d + 1 => rowG h (p (w.length - 1 - (d + 1))) fun i => (aheadF h (i : Nat) (symX w (w.length - 1 - d)) (restG h w p d) h.st).1
def ahdG (h : HM) (w : List Int) (p : Nat → Nat → Bool) (fr : Int) (t : Nat) : Rat × Nat := aheadF h fr (symX w t) (restG h w p (w.length - 1 - t)) h.st
def toG (h : HM) (w : List Int) (p : Nat → Nat → Bool) : Nat → Int
 | 0 => -1
 | t + 1 => ((ahdG h w p (toG h w p t) t).2 : Nat)
def pathG (h : HM) (w : List Int) (p : Nat → Nat → Bool) (t : Nat) : List Int := (List.range t).map fun i => toG h w p (i + 1)
def bestG (h : HM) (w : List Int) (p : Nat → Nat → Bool) : Rat := (ahdG h w p (-1) 0).1
def every : Nat → Nat → Bool := fun _ _ => true
theorem rowG_get {h : HM} {p : Nat → Bool} {g : Nat → Rat} {i : Nat} (hi : i < h.st) : (rowG h p g).getD i 0 = if p i = true then g i else 0 := map_getD_range _ _ hi
theorem rowG_len (h : HM) (p : Nat → Bool) (g : Nat → Rat) : (rowG h p g).length = h.st := by simp [rowG]
theorem restG_len (h : HM) (w : List Int) (p : Nat → Nat → Bool) : ∀ d, (restG h w p d).length = h.st
 | 0 => rowG_len ..
 | d + 1 => rowG_len ..
theorem rowG_out {h : HM} {p : Nat → Bool} {g : Nat → Rat} {i : Nat} (hi : ¬ i < h.st) : (rowG h p g).getD i 0 = 0 := getD_ge (by rw [rowG_len]; omega)
theorem rowG_nonneg {h : HM} {p : Nat → Bool} {g : Nat → Rat} (hg : ∀ i, i < h.st → 0 ≤ g i) (i : Nat) : 0 ≤ (rowG h p g).getD i 0 := by
 by_cases hi : i < h.st
 ·rw [rowG_get hi]
  split
  ·exact hg i hi
  ·exact Rat.le_refl
 ·rw [rowG_out hi]; exact Rat.le_refl
theorem pathG_len (h : HM) (w : List Int) (p : Nat → Nat → Bool) (t : Nat) : (pathG h w p t).length = t := by simp [pathG]
theorem pathG_succ (h : HM) (w : List Int) (p : Nat → Nat → Bool) (t : Nat) : pathG h w p (t + 1) = pathG h w p t ++ [toG h w p (t + 1)] := by unfold pathG; rw [List.range_succ, List.map_append]; rfl
theorem pathG_get {h : HM} {w : List Int} {p : Nat → Nat → Bool} {t n : Nat} (ht : t < n) : (pathG h w p n).getD t 0 = toG h w p (t + 1) := map_getD_range _ _ ht
structure AhdSpec (h : HM) (fr : Int) (x : Nat) (rest : List Rat) (n : Nat) (r : Rat × Nat) : Prop where
 nonneg : 0 ≤ r.1
 le : ∀ i, i < n → viaQ h fr x rest i ≤ r.1
 zero : r.1 = 0 → r.2 = 0
 lt : 0 < r.1 → r.2 < n
 eq : 0 < r.1 → viaQ h fr x rest r.2 = r.1
 least : 0 < r.1 → ∀ i, i < r.2 → viaQ h fr x rest i < r.1
theorem ahead_spec (h : HM) (fr : Int) (x : Nat) (rest : List Rat) : ∀ n, AhdSpec h fr x rest n (aheadF h fr x rest n)
 | 0 => ⟨Rat.le_refl, fun i hi => absurd hi (Nat.not_lt_zero i), fun _ => rfl, fun hp => absurd hp (by show ¬ (0 : Rat) < 0; decide), fun hp => absurd hp (by show ¬ (0 : Rat) < 0; decide), fun hp => absurd hp (by show ¬ (0 : Rat) < 0; decide)⟩
 | n + 1 => by
  have ih := ahead_spec h fr x rest n
  rw [aheadF]
  split
  ·rename_i hlt
   have h0 := ih.nonneg
   have hpos : 0 < viaQ h fr x rest n := Std.lt_of_le_of_lt h0 hlt
   refine ⟨Rat.le_of_lt hpos, fun i hi => ?_, fun e => ?_, fun _ => Nat.lt_succ_self n, fun _ => rfl, fun _ i hi => ?_⟩
   ·rcases Nat.lt_or_ge i n with h1 | h1
    ·exact Rat.le_trans (ih.le i h1) (Rat.le_of_lt hlt)
    ·obtain rfl : i = n := by omega
     exact Rat.le_refl
   ·simp only at e
    rw [e] at hpos
    exact absurd hpos (by decide)
   ·exact Std.lt_of_le_of_lt (ih.le i hi) hlt
  ·rename_i hlt
   refine ⟨ih.nonneg, fun i hi => ?_, ih.zero, fun hp => Nat.lt_succ_of_lt (ih.lt hp), ih.eq, ih.least⟩
   rcases Nat.lt_or_ge i n with h1 | h1
   ·exact ih.le i h1
   ·obtain rfl : i = n := by omega
    exact Rat.not_lt.1 hlt
theorem stop_nonneg {h : HM} {bb B : Nat} (g : HM.GoodX bb B h) (i : Nat) : 0 ≤ h.stop.getD i 0 := (g.pS.get i).1
theorem restG_nonneg {h : HM} {bb B : Nat} (g : HM.GoodX bb B h) (w : List Int) (p : Nat → Nat → Bool) (d i : Nat) : 0 ≤ (restG h w p d).getD i 0 := by
 cases d with
 | zero => exact rowG_nonneg (fun i _ => stop_nonneg g i) i
 | succ d => exact rowG_nonneg (fun i _ => (ahead_spec ..).nonneg) i
theorem toG_range {h : HM} (h0 : 1 ≤ h.st) (w : List Int) (p : Nat → Nat → Bool) : ∀ t, -1 ≤ toG h w p t ∧ toG h w p t < h.st
 | 0 => ⟨by show (-1 : Int) ≤ -1; omega, by show (-1 : Int) < _; omega⟩
 | t + 1 => by
  have := aheadF_lt h (toG h w p t) (symX w t) (restG h w p (w.length - 1 - t)) h0 h.st (Nat.le_refl _)
  rw [toG, ahdG]; omega
theorem toG_nonneg (h : HM) (w : List Int) (p : Nat → Nat → Bool) (t : Nat) : 0 ≤ toG h w p (t + 1) := by rw [toG]; omega
theorem rowG_small {h : HM} {C : Nat} {p : Nat → Bool} {g : Nat → Rat} (hC : 1 ≤ C) (hg : ∀ i, i < h.st → sz (g i) ≤ C) : Small C (rowG h p g) := fun q hq => by
 obtain ⟨i, hi, rfl⟩ := List.mem_map.1 hq
 show sz (if p i = true then g i else 0) ≤ C
 split
 ·exact hg i (List.mem_range.1 hi)
 ·rw [sz_zero]; exact hC
theorem restG_sz {h : HM} {B : Nat} (f : h.Form B) (w : List Int) (p : Nat → Nat → Bool) : ∀ d, Small (1024 + 2048 * d) (restG h w p d)
 | 0 => rowG_small (by omega) fun i _ => Nat.le_trans (f.zS.get f.b1 i) (by have := f.bB; omega)
 | d + 1 => rowG_small (by omega) fun i _ => Nat.le_trans (aheadF_sz f _ _ (restG_sz f w p d) (by omega) _) (by omega)
theorem restG_szB {h : HM} {B : Nat} (f : h.Form B) (w : List Int) (p : Nat → Nat → Bool) {d : Nat} (hd : d ≤ 256) : Small 1048576 (restG h w p d) := (restG_sz f w p d).mono (by omega)
end Go.AL

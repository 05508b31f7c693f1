/-
  M, chapter 37: the order of paths; the best path of chapter 35 is the greatest and the least.
-/
import Derived.Test.YtonndaibggjmjaaGreatKMod34d
import Derived.Test.YtonndaibggjmjaaGreatKMod35b
set_option linter.unusedVariables false
set_option linter.unusedSimpArgs false
namespace Go.AL
open Go Go.BigFrame
def cmpL : List Int → List Int → Int
 | [], [] => 0
 | [], _ :: _ => -1
 | _ :: _, [] => 1
 | a :: x, b :: y => if a < b then -1 else if b < a then 1 else cmpL x y
theorem cmpL_neg : ∀ x y : List Int, cmpL y x = -cmpL x y
 | [], [] => rfl
 | [], _ :: _ => rfl
 | _ :: _, [] => rfl
 | a :: x, b :: y => by
  rw [cmpL, cmpL, cmpL_neg x y]
  by_cases h1 : a < b
  ·rw [if_neg (by omega), if_pos h1, if_pos h1]; rfl
  ·rw [if_neg h1]
   by_cases h2 : b < a
   ·rw [if_pos h2, if_neg h1, if_pos h2]
   ·rw [if_neg h2, if_neg h2, if_neg h1]
theorem cmpL_zero : ∀ {x y : List Int}, cmpL x y = 0 → x = y
 | [], [], _ => rfl
 | [], _ :: _, h => by rw [cmpL] at h; exact absurd h (by decide)
 | _ :: _, [], h => by rw [cmpL] at h; exact absurd h (by decide)
 | a :: x, b :: y, h => by
  rw [cmpL] at h
  by_cases h1 : a < b
  ·rw [if_pos h1] at h; exact absurd h (by decide)
  ·rw [if_neg h1] at h
   by_cases h2 : b < a
   ·rw [if_pos h2] at h; exact absurd h (by decide)
   ·rw [if_neg h2] at h
    rw [cmpL_zero h, show a = b by omega]
theorem cmpL_trans : ∀ {x y z : List Int}, cmpL x y ≤ 0 → cmpL y z ≤ 0 → cmpL x z ≤ 0
 | [], _, [], _, _ => by rw [cmpL]; decide
 | [], _, _ :: _, _, _ => by rw [cmpL]; decide
 | _ :: _, [], _, h, _ => by rw [cmpL] at h; exact absurd h (by decide)
 | _ :: _, _ :: _, [], _, h => by rw [cmpL] at h; exact absurd h (by decide)
 | a :: x, b :: y, c :: z, h1, h2 => by
  rw [cmpL] at h1 h2 ⊢
  by_cases hab : a < b
  ·by_cases hcb : c < b
   ·rw [if_neg (by omega), if_pos hcb] at h2; exact absurd h2 (by decide)
   ·rw [if_pos (by omega)]; decide
  ·rw [if_neg hab] at h1
   by_cases hba : b < a
   ·rw [if_pos hba] at h1; exact absurd h1 (by decide)
   ·rw [if_neg hba] at h1
    by_cases hbc : b < c
    ·rw [if_pos (by omega)]; decide
    ·rw [if_neg hbc] at h2
     by_cases hcb : c < b
     ·rw [if_pos hcb] at h2; exact absurd h2 (by decide)
     ·rw [if_neg hcb] at h2
      rw [if_neg (by omega), if_neg (by omega)]
      exact cmpL_trans h1 h2
theorem paths_snoc {n k s : Nat} {p : List Int} (hp : p ∈ pathsF n k) (hs : s < n) : p ++ [(s : Int)] ∈ pathsF n (k + 1) := List.mem_flatMap.2 ⟨p, hp, List.mem_map.2 ⟨s, List.mem_range.2 hs, rfl⟩⟩
theorem tr_nonneg {h : HM} {bb B : Nat} (g : HM.GoodX bb B h) (i j : Nat) : 0 ≤ trQ h i j := ((g.pT i).get j).1
theorem em_nonneg {h : HM} {bb B : Nat} (g : HM.GoodX bb B h) (i x : Nat) : 0 ≤ emQ h i x := ((g.pM i).get x).1
theorem ini_nonneg {h : HM} {bb B : Nat} (g : HM.GoodX bb B h) (i : Nat) : 0 ≤ h.ini.getD i 0 := (g.pI.get i).1
theorem wgt_nonneg {h : HM} {bb B : Nat} (g : HM.GoodX bb B h) (w p : List Int) : ∀ t, 0 ≤ wgt h w p t
 | 0 => ini_nonneg g _
 | t + 1 => by
  rw [wgt]
  split
  ·exact Rat.mul_nonneg (wgt_nonneg g w p t) (em_nonneg g _ _)
  ·exact Rat.mul_nonneg (Rat.mul_nonneg (wgt_nonneg g w p t) (tr_nonneg g _ _)) (em_nonneg g _ _)
theorem wgt_step {h : HM} {w p : List Int} {t : Nat} (ht : t ≠ 0) : wgt h w p (t + 1) = wgt h w p t * trQ h (atP p (t - 1)) (atP p t) * emQ h (atP p t) (symX w t) := by rw [wgt, if_neg ht]
theorem wgt_one {h : HM} {w p : List Int} : wgt h w p 1 = h.ini.getD (atP p 0) 0 * emQ h (atP p 0) (symX w 0) := by rw [wgt, if_pos rfl, wgt]
section
variable {h : HM} {bb B : Nat} {u : List Int}
def follow (h : HM) (u : List Int) (s i : Nat) : Rat := (restG h u every (u.length - 1 - s)).getD i 0
def upto (h : HM) (u p : List Int) (t : Nat) : Rat := wgt h u p t * follow h u (t - 1) (atP p (t - 1))
theorem follow_last {i : Nat} (hi : i < h.st) : follow h u (u.length - 1) i = h.stop.getD i 0 := by
 unfold follow
 rw [Nat.sub_self, restG, rowG_get hi]; rfl
theorem follow_step {s i : Nat} (hs : s + 1 < u.length) (hi : i < h.st) : follow h u s i = (ahdG h u every (i : Nat) (s + 1)).1 := by
 unfold follow ahdG
 obtain ⟨d, hd⟩ : ∃ d, u.length - 1 - s = d + 1 := ⟨u.length - 1 - s - 1, by omega⟩
 rw [hd, restG, rowG_get hi, show u.length - 1 - (s + 1) = d by omega, show u.length - 1 - d = s + 1 by omega]
 rfl
theorem via_zero {s i : Nat} : viaQ h (-1) (symX u s) (restG h u every (u.length - 1 - s)) i = h.ini.getD i 0 * emQ h i (symX u s) * follow h u s i := by
 unfold viaQ stepQ
 rw [if_neg (by decide)]; rfl
theorem via_some {s i j : Nat} : viaQ h (j : Nat) (symX u s) (restG h u every (u.length - 1 - s)) i = trQ h j i * emQ h i (symX u s) * follow h u s i := by
 unfold viaQ stepQ
 rw [if_pos (by omega), Int.toNat_natCast]; rfl
theorem upto_one (p : List Int) (hn : 0 < u.length) (hp : atP p 0 < h.st) : upto h u p 1 ≤ bestG h u every := by
 have a := (ahead_spec h (-1) (symX u 0) (restG h u every (u.length - 1 - 0)) h.st).le (atP p 0) hp
 rw [via_zero] at a
 unfold upto
 rw [wgt_one]; exact a
theorem upto_step (g : HM.GoodX bb B h) {p : List Int} {t : Nat} (ht : t + 1 < u.length) (h1 : atP p t < h.st) (h2 : atP p (t + 1) < h.st) : upto h u p (t + 1 + 1) ≤ upto h u p (t + 1) := by
 unfold upto
 rw [wgt_step (by omega), show t + 1 + 1 - 1 = t + 1 from rfl, show t + 1 - 1 = t from rfl, follow_step ht h1, Rat.mul_assoc, Rat.mul_assoc, ← Rat.mul_assoc (trQ ..)]
 refine Rat.mul_le_mul_of_nonneg_left ?_ (wgt_nonneg g u p _)
 have a := (ahead_spec h ((atP p t : Nat) : Int) (symX u (t + 1)) (restG h u every (u.length - 1 - (t + 1))) h.st).le (atP p (t + 1)) h2
 rw [via_some] at a
 exact a
theorem upto_le (g : HM.GoodX bb B h) {p : List Int} {k : Nat} (hp : p ∈ pathsF h.st k) : ∀ {t : Nat}, t < k → t < u.length → upto h u p (t + 1) ≤ bestG h u every
 | 0, h1, h2 => upto_one p h2 (atP_lt hp h1).1
 | t + 1, h1, h2 => Rat.le_trans (upto_step g h2 (atP_lt hp (by omega)).1 (atP_lt hp h1).1) (upto_le g hp (by omega) (by omega))
theorem upto_mono (g : HM.GoodX bb B h) {p : List Int} {k : Nat} (hp : p ∈ pathsF h.st k) : ∀ {d t : Nat}, t + d < k → t + d < u.length → upto h u p (t + d + 1) ≤ upto h u p (t + 1)
 | 0, t, _, _ => Rat.le_refl
 | d + 1, t, h1, h2 => Rat.le_trans (upto_step (t := t + d) g (by omega) (atP_lt hp (by omega)).1 (atP_lt hp (by omega)).1) (upto_mono g hp (by omega) (by omega))
end
end Go.AL

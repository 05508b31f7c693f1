/-
  M, part 50: chapter 36 on any input: the specification's best path; sizes.
-/
import Derived.Test.YtjghehkgmanmbaaGreatKMod49
set_option linter.unusedVariables false
set_option linter.unusedSimpArgs false
namespace Go.AL
open Go Go.BigFrame
def bP (h : HM) (w : List Int) : List Int := if w = [] then [] else ckP h w
def bQ (h : HM) (w : List Int) : Rat := if w = [] then h.empty else bestP h w
def bE (h : HM) (w : List Int) : Int := if w = [] then (if 0 < h.empty then 0 else 11) else ckE h w
theorem bE_nil {h : HM} (p : 0 ≤ h.empty) : bE h [] = if h.empty = 0 then 11 else 0 := by
 unfold bE
 rw [if_pos rfl]
 rcases rat_pos p with e | e
 ·rw [if_pos e, if_neg (Rat.ne_of_gt e)]
 ·rw [← e]; decide +kernel
theorem bestA_bad {h : RM} {w : List Int} {b : Int} (c : wrdE h w = 0) (s : StoOK w.length b) (p : 0 ≤ (hm h).empty) (e : bE (hm h) w ≠ 0) : bestA h w b = ([], 0, 0, bE (hm h) w) := by
 by_cases hw : w = []
 ·subst hw
  rw [bE_nil p] at e ⊢
  by_cases z : (hm h).empty = 0
  ·rw [bestA_z c s rfl z, if_pos z]
  ·rw [if_neg z] at e; exact absurd rfl e
 ·unfold bE at e ⊢
  rw [if_neg hw] at e ⊢
  unfold ckE at e
  have z : bestP (hm h) w = 0 := Classical.byContradiction fun z => e (if_neg z)
  rw [bestA_w c s hw]
  unfold ckP ckS ckE
  simp only [if_pos z]
  rfl
theorem bestA_good {h : RM} {w : List Int} {b : Int} (c : wrdE h w = 0) (s : StoOK w.length b) (p : 0 ≤ (hm h).empty) (e : bE (hm h) w = 0) : bestA h w b = (bP (hm h) w, bQ (hm h) w, (stoR w.length b).1, 0) := by
 by_cases hw : w = []
 ·subst hw
  rw [bE_nil p] at e
  by_cases z : (hm h).empty = 0
  ·rw [if_pos z] at e; exact absurd e (by decide)
  ·rw [bestA_n c s rfl z]; rfl
 ·unfold bE at e
  rw [if_neg hw] at e
  unfold ckE at e
  have z : bestP (hm h) w ≠ 0 := fun z => by rw [if_pos z] at e; exact absurd e (by decide)
  rw [bestA_w c s hw, stoR_0 s]
  unfold bP bQ ckS ckE
  simp only [if_neg z, if_neg hw]
theorem bestP_szW {h : HM} {B : Nat} (f : HM.FormX 1048576 B h) {w : List Int} (hw : w.length ≤ 256) : sz (bestP h w) ≤ 540016640 := by
 unfold bestP ahd
 exact Nat.le_trans (aheadF_szW f _ _ (restF_szBW f w (by omega)) (by decide) _) (by decide)
theorem bQ_sz {h : HM} {B : Nat} (f : HM.FormX 1048576 B h) {w : List Int} (hw : w.length ≤ 256) : sz (bQ h w) ≤ 540016640 := by
 unfold bQ
 split
 ·have := f.zE; have := f.bB; omega
 ·exact bestP_szW f hw
theorem bP_len {h : HM} {w : List Int} : (bP h w).length ≤ w.length := by
 unfold bP
 split
 ·exact Nat.zero_le _
 ·unfold ckP
  split
  ·exact Nat.zero_le _
  ·rw [pathF_len]; exact Nat.le_refl _
theorem bestA_sz {h : RM} (z : h.Sz) (w : List Int) (b : Int) : sz (bestA h w b).2.1 ≤ 540016640 ∧ (bestA h w b).1.length ≤ 256 := by
 have z0 : sz 0 ≤ 540016640 := by rw [sz_zero]; decide
 by_cases c : wrdE h w = 0
 ·obtain ⟨cp, k⟩ := wrdE_ok c
  obtain ⟨g, _⟩ := chkP_good z cp
  have k1 := k.1
  by_cases s : StoOK w.length b
  ·by_cases e : bE (hm h) w = 0
   ·rw [bestA_good c s g.pE.1 e]
    exact ⟨bQ_sz g.form k1, Nat.le_trans bP_len k1⟩
   ·rw [bestA_bad c s g.pE.1 e]; exact ⟨z0, Nat.zero_le _⟩
  ·rw [bestA_1 c s]; exact ⟨z0, Nat.zero_le _⟩
 ·rw [bestA_e c]; exact ⟨z0, Nat.zero_le _⟩
theorem colsG_get {h : HM} {w : List Int} {fr n i : Nat} {c : List Rat} (hi : i < n) : (colsG h w fr c n).getD i [] = colG h w fr c (i + 1) := map_getD_range _ _ hi
theorem colA_sz {h : RM} (z : h.Sz) {w : List Int} {fr to : Int} {c : List Raw} (mc : MedL c) (hw : w.length ≤ 6 ∨ 256 < w.length) : ((colA h w fr to c).1).length ≤ 6 ∧ ∀ i, Small 15728640 ((colA h w fr to c).1.getD i []) ∧ ((colA h w fr to c).1.getD i []).length ≤ 12 := by
 have nil : ([] : List (List Rat)).length ≤ 6 ∧ ∀ i, Small 15728640 (([] : List (List Rat)).getD i []) ∧ (([] : List (List Rat)).getD i []).length ≤ 12 := by
  refine ⟨Nat.zero_le _, fun i => ?_⟩
  rw [show ([] : List (List Rat)).getD i [] = [] from rfl]
  exact ⟨fun q hq => (by cases hq), Nat.zero_le _⟩
 by_cases e : wrdE h w = 0
 ·obtain ⟨cp, k⟩ := wrdE_ok e
  obtain ⟨g, _⟩ := chkP_good z cp
  have k1 := k.1
  by_cases r : fr < 0 ∨ to < fr ∨ (w.length : Int) ≤ to
  ·rw [colA_1 e r]; exact nil
  ·by_cases q : (c.length : Int) = if fr = 0 then 0 else h.st
   ·by_cases s : SharesR c
    ·rw [colA_0 e r q s]
     have f := g.form
     have n1 := f.st1
     have hz : Small 1048576 (c.map Raw.q) := MedL.small mc
     refine ⟨by rw [colsG_len]; omega, fun i => ?_⟩
     rcases Nat.lt_or_ge i (to - fr + 1).toNat with hi | hi
     ·simp only
      rw [colsG_get hi]
      exact ⟨(colG_sz f w fr.toNat hz (i + 1)).mono (by omega), by rw [colG_len]; omega⟩
     ·simp only
      rw [List.getD_eq_getElem?_getD, List.getElem?_eq_none (by rw [colsG_len]; exact hi)]
      exact ⟨fun q hq => (by cases hq), Nat.zero_le _⟩
    ·rw [colA_4 e r (.inr s)]; exact nil
   ·rw [colA_4 e r (.inl q)]; exact nil
 ·rw [colA_e e]; exact nil
end Go.AL

/-
  M, chapter 39: the reestimated model is a valid model; its sizes where the model's numbers are single limbs.
-/
import Derived.Test.YtoohdcpikkkanaaGreatKAsJ
import Derived.Test.YtoohdcpikkkanaaGreatKMod39f
set_option linter.unusedVariables false
set_option linter.unusedSimpArgs false
namespace Go.AL
open Go Go.BigFrame
structure Lean1 (h : HM) (w : List Int) : Prop where
 st : h.st ≤ 4
 len : w.length ≤ 4
section
variable {h : HM} {w : List Int} {X : List (List Int)}
theorem Lean1.few (k : Lean1 h w) : Few h w := ⟨k.st, by have := k.len; omega⟩
theorem tr_sz1 (f : h.Form 1) (i j : Nat) : sz (trQ h i j) ≤ 1 := (f.zT i).get f.b1 j
theorem em_sz1 (f : h.Form 1) (i x : Nat) : sz (emQ h i x) ≤ 1 := (f.zM i).get f.b1 x
theorem stop_sz1 (f : h.Form 1) (i : Nat) : sz (h.stop.getD i 0) ≤ 1 := f.zS.get f.b1 i
theorem ini_sz1 (f : h.Form 1) (i : Nat) : sz (h.ini.getD i 0) ≤ 1 := f.zI.get f.b1 i
def F1 : Nat → Nat
 | 0 => 2
 | t + 1 => 4 * (F1 t + 2) + 2
theorem F1_pos : ∀ t, 1 ≤ F1 t
 | 0 => by decide
 | t + 1 => by show 1 ≤ 4 * (F1 t + 2) + 2; omega
theorem F1_le {t : Nat} (ht : t ≤ 3) : F1 t ≤ 400 := by
 have : t = 0 ∨ t = 1 ∨ t = 2 ∨ t = 3 := by omega
 rcases this with rfl | rfl | rfl | rfl <;> decide
theorem fwd_small1 (f : h.Form 1) (hs : h.st ≤ 4) (w : List Int) : ∀ t, Small (F1 t) (fwdF h w t)
 | 0 => fun q hq => by
  obtain ⟨j, _, rfl⟩ := List.mem_map.1 hq
  have h1 := sz_mul (h.ini.getD j 0) (emQ h j (symX w 0))
  have h2 := ini_sz1 f j
  have h3 := em_sz1 f j (symX w 0)
  show _ ≤ 2
  omega
 | t + 1 => fun q hq => by
  obtain ⟨j, _, rfl⟩ := List.mem_map.1 hq
  have hC := F1_pos t
  have ih := fwd_small1 f hs w t
  have h1 := sz_mul (preF h w (fwdF h w t) t j h.st) (emQ h j (symX w (t + 1)))
  have h2 : sz (preF h w (fwdF h w t) t j h.st) ≤ 1 + 4 * (F1 t + 1 + 1) := sumN_sz4 (fun i => by
   have h1 := sz_mul ((fwdF h w t).getD i 0) (trQ h i j)
   have h2 := tr_sz1 f i j
   have h3 := ih.get hC i
   omega) hs
  have h3 := em_sz1 f j (symX w (t + 1))
  show _ ≤ 4 * (F1 t + 2) + 2
  omega
def B1 : Nat → Nat
 | 0 => 1
 | d + 1 => 1 + 4 * (B1 d + 3)
theorem B1_pos : ∀ t, 1 ≤ B1 t
 | 0 => by decide
 | t + 1 => by show 1 ≤ 1 + 4 * (B1 t + 3); omega
theorem B1_le {t : Nat} (ht : t ≤ 3) : B1 t ≤ 400 := by
 have : t = 0 ∨ t = 1 ∨ t = 2 ∨ t = 3 := by omega
 rcases this with rfl | rfl | rfl | rfl <;> decide
theorem bwd_small1 (f : h.Form 1) (hs : h.st ≤ 4) (w : List Int) : ∀ d, Small (B1 d) (bwdF h w d)
 | 0 => fun q hq => by
  obtain ⟨j, _, rfl⟩ := List.mem_map.1 hq
  exact stop_sz1 f j
 | d + 1 => fun q hq => by
  obtain ⟨j, _, rfl⟩ := List.mem_map.1 hq
  have hC := B1_pos d
  have ih := bwd_small1 f hs w d
  have h2 : sz (sufF h w (bwdF h w d) (w.length - 1 - (d + 1)) j h.st) ≤ 1 + 4 * (B1 d + 2 + 1) := sumN_sz4 (fun i => by
   have h1 := sz_mul (trQ h j i) (emQ h i (symX w (w.length - 1 - (d + 1) + 1)) * (bwdF h w d).getD i 0)
   have h2 := sz_mul (emQ h i (symX w (w.length - 1 - (d + 1) + 1))) ((bwdF h w d).getD i 0)
   have h3 := tr_sz1 f j i
   have h4 := em_sz1 f i (symX w (w.length - 1 - (d + 1) + 1))
   have h5 := ih.get hC i
   omega) hs
  show _ ≤ 1 + 4 * (B1 d + 3)
  omega
theorem fwd_sz1 (f : h.Form 1) (k : Lean1 h w) {t : Nat} (ht : t < w.length) (i : Nat) : sz ((fwdF h w t).getD i 0) ≤ 400 := ((fwd_small1 f k.st w t).mono (F1_le (by have := k.len; omega))).get (by decide) i
theorem bwd_sz1 (f : h.Form 1) (k : Lean1 h w) {d : Nat} (hd : d < w.length) (i : Nat) : sz ((bwdF h w d).getD i 0) ≤ 400 := ((bwd_small1 f k.st w d).mono (B1_le (by have := k.len; omega))).get (by decide) i
theorem lik_sz1 (f : h.Form 1) (k : Lean1 h w) : sz (likF h w) ≤ 1700 := by
 unfold likF
 split
 ·have := f.zE; omega
 ·next h0 =>
  have : sz (likN h (fwdF h w (w.length - 1)) h.st) ≤ 1 + 4 * (401 + 1) := sumN_sz4 (fun i => by
   have h1 := sz_mul ((fwdF h w (w.length - 1)).getD i 0) (h.stop.getD i 0)
   have h2 := stop_sz1 f i
   have h3 := fwd_sz1 f k (t := w.length - 1) (by omega) i
   omega) k.st
  omega
theorem post_sz1 (f : h.Form 1) (k : Lean1 h w) {t : Nat} (ht : t < w.length) (i : Nat) : sz (postQ h w t i) ≤ 2600 := by
 have h1 := fwd_sz1 f k ht i
 have h2 := bwd_sz1 f k (d := w.length - 1 - t) (by omega) i
 have h3 := lik_sz1 f k
 have h4 := sz_mul ((fwdF h w t).getD i 0) ((bwdF h w (w.length - 1 - t)).getD i 0)
 have h5 := sz_div ((fwdF h w t).getD i 0 * (bwdF h w (w.length - 1 - t)).getD i 0) (likF h w)
 unfold postQ
 omega
theorem xi_sz1 (f : h.Form 1) (k : Lean1 h w) {t : Nat} (ht : t + 1 < w.length) (i j : Nat) : sz (xiQ h w t i j) ≤ 2600 := by
 have h1 := fwd_sz1 f k (t := t) (by omega) i
 have h2 := bwd_sz1 f k (d := w.length - 1 - (t + 1)) (by omega) j
 have h3 := lik_sz1 f k
 have h4 := sz_mul ((fwdF h w t).getD i 0) (trQ h i j)
 have h5 := tr_sz1 f i j
 have h6 := sz_mul (emQ h j (symX w (t + 1))) ((bwdF h w (w.length - 1 - (t + 1))).getD j 0)
 have h7 := em_sz1 f j (symX w (t + 1))
 have h8 := sz_mul ((fwdF h w t).getD i 0 * trQ h i j) (emQ h j (symX w (t + 1)) * (bwdF h w (w.length - 1 - (t + 1))).getD j 0)
 have h9 := sz_div ((fwdF h w t).getD i 0 * trQ h i j * (emQ h j (symX w (t + 1)) * (bwdF h w (w.length - 1 - (t + 1))).getD j 0)) (likF h w)
 unfold xiQ
 omega
theorem show_sz1 (f : h.Form 1) (k : Lean1 h w) {n : Nat} (hn : n ≤ w.length) (i x : Nat) : sz (showQ h w n i x) ≤ 11000 := by
 have h1 := sumN_szL (C := 2600) (f := fun t => if symX w t = x then postQ h w t i else 0) n fun t ht => by
  show sz (if symX w t = x then postQ h w t i else 0) ≤ 2600
  split
  ·exact post_sz1 f k (by omega) i
  ·rw [sz_zero]; omega
 have hl := k.len
 have h2 : n * 2601 ≤ 4 * 2601 := Nat.mul_le_mul_right _ (by omega)
 unfold showQ
 omega
theorem move_sz1 (f : h.Form 1) (k : Lean1 h w) {n : Nat} (hn : n < w.length) (i j : Nat) : sz (moveQ h w n i j) ≤ 11000 := by
 have h1 := sumN_szL (C := 2600) (f := fun t => xiQ h w t i j) n fun t ht => xi_sz1 f k (by omega) i j
 have hl := k.len
 have h2 : n * 2601 ≤ 4 * 2601 := Nat.mul_le_mul_right _ (by omega)
 unfold moveQ
 omega
theorem postF_small1 (f : h.Form 1) (k : Lean1 h w) {t : Nat} (ht : t < w.length) : Small 11000 (postF h w t) := small_map fun i _ => Nat.le_trans (post_sz1 f k ht i) (by decide)
theorem exS_small1 (f : h.Form 1) (k : Lean1 h w) (hz : likF h w ≠ 0) : Small 11000 (exS h w) := by
 unfold exS; rw [if_neg hz]; split
 ·exact small_rep _ _ (by decide)
 ·exact postF_small1 f k (t := 0) (by omega)
theorem exE_small1 (f : h.Form 1) (k : Lean1 h w) (hz : likF h w ≠ 0) : Small 11000 (exE h w) := by
 unfold exE; rw [if_neg hz]; split
 ·exact small_rep _ _ (by decide)
 ·exact postF_small1 f k (t := w.length - 1) (by omega)
theorem exM_small1 (f : h.Form 1) (k : Lean1 h w) (hz : likF h w ≠ 0) (i : Nat) : Small 11000 ((exM h w).getD i []) := by
 rcases Nat.lt_or_ge i h.st with hi | hi
 ·rw [exM_row hz hi]
  by_cases h0 : w.length = 0
  ·rw [h0, moveRow_zero]; exact small_rep _ _ (by decide)
  ·exact small_map fun j _ => move_sz1 f k (by omega) i j
 ·rw [getD_ge (by rw [exM_len hz]; exact hi)]; exact Small.nil
theorem exO_small1 (f : h.Form 1) (k : Lean1 h w) (hz : likF h w ≠ 0) (i : Nat) : Small 11000 ((exO h w).getD i []) := by
 rcases Nat.lt_or_ge i h.st with hi | hi
 ·rw [exO_row hz hi]; exact small_map fun x _ => show_sz1 f k (Nat.le_refl _) i x
 ·rw [getD_ge (by rw [exO_len hz]; exact hi)]; exact Small.nil
structure Data1 (h : HM) (X : List (List Int)) : Prop where
 ok : DataOK h X
 len : ∀ w, w ∈ X → w.length ≤ 4
theorem Data1.lean (k : Data1 h X) {w : List Int} (hw : w ∈ X) : Lean1 h w := ⟨(k.ok.word w hw).2.st, k.len w hw⟩
theorem acc_small1 {n : Nat} {g : List Int → List Rat} (k : Data1 h X) (hf : ∀ w, w ∈ X → Small 11000 (g w)) : Small 55006 (accL n g X) := (accL_small hf (by decide)).mono (by
 have := k.ok.len
 have h2 : X.length * (11000 + 1) ≤ 5 * 11001 := Nat.mul_le_mul_right _ (by omega)
 omega)
theorem st_small1 (f : h.Form 1) (k : Data1 h X) (ha : AllL h X) : Small 55006 (stL h X) := acc_small1 k fun w hw => exS_small1 f (k.lean hw) (ha w hw)
theorem en_small1 (f : h.Form 1) (k : Data1 h X) (ha : AllL h X) : Small 55006 (enL h X) := acc_small1 k fun w hw => exE_small1 f (k.lean hw) (ha w hw)
theorem mv_small1 (f : h.Form 1) (k : Data1 h X) (ha : AllL h X) (i : Nat) : Small 55006 (mvL h X i) := acc_small1 k fun w hw => exM_small1 f (k.lean hw) (ha w hw) i
theorem sh_small1 (f : h.Form 1) (k : Data1 h X) (ha : AllL h X) (i : Nat) : Small 55006 (shL h X i) := acc_small1 k fun w hw => exO_small1 f (k.lean hw) (ha w hw) i
theorem pool_small1 (f : h.Form 1) (k : Data1 h X) (ha : AllL h X) (i j : Nat) (hj : j ≤ 4) : Small 220029 (poolN h X i j) := small_map fun x _ => by
 have := sumN_sz4 (C := 55006) (f := fun j => if h.ties.getD j 0 = h.ties.getD i 0 then (shL h X j).getD x 0 else 0) (n := j) (fun j => by
  show sz (if h.ties.getD j 0 = h.ties.getD i 0 then (shL h X j).getD x 0 else 0) ≤ _
  split
  ·exact (sh_small1 f k ha j).get (by decide) x
  ·rw [sz_zero]; decide) hj
 exact this
theorem v_sz1 (f : h.Form 1) (k : Data1 h X) (ha : AllL h X) (i : Nat) : sz (vTot h X i) ≤ 280000 := by
 have h1 := sumQ_sz ((mv_small1 f k ha i).app (Small.one ((en_small1 f k ha).get (by decide) i)))
 have h2 := k.ok.few
 rw [List.length_append, show (mvL h X i).length = h.st from accL_len ..] at h1
 have h3 : (h.st + [(enL h X).getD i 0].length) * (55006 + 1) ≤ 5 * (55006 + 1) := Nat.mul_le_mul_right _ (by simp only [List.length_singleton]; omega)
 show sz (sumQ (mvL h X i ++ [(enL h X).getD i 0])) ≤ _
 omega
theorem u_sz1 (f : h.Form 1) (k : Data1 h X) (ha : AllL h X) (hs : h.sym ≤ 3) (i : Nat) : sz (uTot h X i) ≤ 670000 := by
 have h2 := k.ok.few
 have h1 := sumQ_sz (pool_small1 f k ha i h.st h2)
 rw [poolN_len] at h1
 have h3 : h.sym * (220029 + 1) ≤ 3 * (220029 + 1) := Nat.mul_le_mul_right _ hs
 show sz (sumQ (poolN h X i h.st)) ≤ _
 omega
theorem sumN_nn {f : Nat → Rat} (hf : ∀ i, 0 ≤ f i) : ∀ n, 0 ≤ sumN f n
 | 0 => Rat.le_refl
 | n + 1 => Rat.add_nonneg (sumN_nn hf n) (hf n)
theorem lsum_nn {α : Type} {f : α → Rat} : ∀ l : List α, (∀ x, x ∈ l → 0 ≤ f x) → 0 ≤ lsum f l
 | [], _ => Rat.le_refl
 | x :: l, hf => Rat.add_nonneg (hf x (by simp)) (lsum_nn l fun y hy => hf y (by simp [hy]))
theorem div_nn {x y : Rat} (hx : 0 ≤ x) (hy : 0 ≤ y) : 0 ≤ x / y := by
 rcases Rat.le_iff_lt_or_eq.1 hy with h | h
 ·rw [Rat.div_def]; exact Rat.mul_nonneg hx (Rat.le_of_lt (Rat.inv_pos.2 h))
 ·rw [← h, Rat.div_def, Rat.inv_zero, Rat.mul_zero]; exact Rat.le_refl
def NN (l : List Rat) : Prop := ∀ i, 0 ≤ l.getD i 0
theorem nn_map {n : Nat} {f : Nat → Rat} (h : ∀ i, i < n → 0 ≤ f i) : NN ((List.range n).map f) := fun i => by
 rcases Nat.lt_or_ge i n with hi | hi
 ·rw [map_get9 _ _ hi]; exact h i hi
 ·rw [getD_past (by simp; exact hi)]; exact Rat.le_refl
theorem nn_rep (n : Nat) : NN (List.replicate n 0) := fun i => by
 rw [List.getD_eq_getElem?_getD, List.getElem?_replicate]; split <;> exact Rat.le_refl
theorem nn_nil : NN [] := fun i => by rw [getD_past (by simp)]; exact Rat.le_refl
variable {b B : Nat}
theorem ini_nn (g : HM.GoodX b B h) (i : Nat) : 0 ≤ h.ini.getD i 0 := (g.pI.get i).1
theorem trX_nn (g : HM.GoodX b B h) (i j : Nat) : 0 ≤ trQ h i j := ((g.pT i).get j).1
theorem emX_nn (g : HM.GoodX b B h) (i j : Nat) : 0 ≤ emQ h i j := ((g.pM i).get j).1
theorem stopX_nn (g : HM.GoodX b B h) (i : Nat) : 0 ≤ h.stop.getD i 0 := (g.pS.get i).1
theorem fwd_nn (g : HM.GoodX b B h) (w : List Int) : ∀ t, NN (fwdF h w t)
 | 0 => nn_map fun i _ => Rat.mul_nonneg (ini_nn g i) (emX_nn g i _)
 | t + 1 => nn_map fun i _ => Rat.mul_nonneg (sumN_nn (fun j => Rat.mul_nonneg (fwd_nn g w t j) (trX_nn g j i)) _) (emX_nn g i _)
theorem bwd_nn (g : HM.GoodX b B h) (w : List Int) : ∀ t, NN (bwdF h w t)
 | 0 => nn_map fun i _ => stopX_nn g i
 | t + 1 => nn_map fun i _ => sumN_nn (fun j => Rat.mul_nonneg (trX_nn g i j) (Rat.mul_nonneg (emX_nn g j _) (bwd_nn g w t j))) _
theorem lik_nn (g : HM.GoodX b B h) (w : List Int) : 0 ≤ likF h w := by
 unfold likF
 split
 ·exact g.pE.1
 ·exact sumN_nn (fun i => Rat.mul_nonneg (fwd_nn g w _ i) (stopX_nn g i)) _
theorem post_nn (g : HM.GoodX b B h) (w : List Int) (t i : Nat) : 0 ≤ postQ h w t i := div_nn (Rat.mul_nonneg (fwd_nn g w t i) (bwd_nn g w _ i)) (lik_nn g w)
theorem xi_nn (g : HM.GoodX b B h) (w : List Int) (t i j : Nat) : 0 ≤ xiQ h w t i j := div_nn (Rat.mul_nonneg (Rat.mul_nonneg (fwd_nn g w t i) (trX_nn g i j)) (Rat.mul_nonneg (emX_nn g j _) (bwd_nn g w _ j))) (lik_nn g w)
theorem show_nn (g : HM.GoodX b B h) (w : List Int) (n i x : Nat) : 0 ≤ showQ h w n i x := sumN_nn (fun t => by
 show 0 ≤ if symX w t = x then postQ h w t i else 0
 split
 ·exact post_nn g w t i
 ·exact Rat.le_refl) n
theorem move_nn (g : HM.GoodX b B h) (w : List Int) (n i j : Nat) : 0 ≤ moveQ h w n i j := sumN_nn (fun t => xi_nn g w t i j) n
theorem exS_nn (g : HM.GoodX b B h) (w : List Int) : NN (exS h w) := by
 unfold exS; split
 ·exact nn_nil
 ·split
  ·exact nn_rep _
  ·exact nn_map fun i _ => post_nn g w 0 i
theorem exE_nn (g : HM.GoodX b B h) (w : List Int) : NN (exE h w) := by
 unfold exE; split
 ·exact nn_nil
 ·split
  ·exact nn_rep _
  ·exact nn_map fun i _ => post_nn g w _ i
theorem getNil {l : List (List Rat)} {i : Nat} (h : l.length ≤ i) : l.getD i [] = [] := by
 rw [List.getD_eq_getElem?_getD, List.getElem?_eq_none h]; rfl
theorem exM_nn (g : HM.GoodX b B h) (w : List Int) (i : Nat) : NN ((exM h w).getD i []) := by
 unfold exM; split
 ·exact nn_nil
 ·rcases Nat.lt_or_ge i h.st with hi | hi
  ·rw [map_get9 _ _ hi]; exact nn_map fun j _ => move_nn g w _ i j
  ·rw [getNil (by simp; exact hi)]; exact nn_nil
theorem exO_nn (g : HM.GoodX b B h) (w : List Int) (i : Nat) : NN ((exO h w).getD i []) := by
 unfold exO; split
 ·exact nn_nil
 ·rcases Nat.lt_or_ge i h.st with hi | hi
  ·rw [map_get9 _ _ hi]; exact nn_map fun j _ => show_nn g w _ i j
  ·rw [getNil (by simp; exact hi)]; exact nn_nil
theorem acc_nn {n : Nat} {f : List Int → List Rat} (hf : ∀ w, NN (f w)) : NN (accL n f X) := nn_map fun i _ => lsum_nn X fun w _ => hf w i
theorem st_nn (g : HM.GoodX b B h) : NN (stL h X) := acc_nn (exS_nn g)
theorem en_nn (g : HM.GoodX b B h) : NN (enL h X) := acc_nn (exE_nn g)
theorem mv_nn (g : HM.GoodX b B h) (i : Nat) : NN (mvL h X i) := acc_nn fun w => exM_nn g w i
theorem sh_nn (g : HM.GoodX b B h) (i : Nat) : NN (shL h X i) := acc_nn fun w => exO_nn g w i
theorem pool_nn (g : HM.GoodX b B h) (i j : Nat) : NN (poolN h X i j) := nn_map fun x _ => sumN_nn (fun k => by
 show 0 ≤ if h.ties.getD k 0 = h.ties.getD i 0 then (shL h X k).getD x 0 else 0
 split
 ·exact sh_nn g k x
 ·exact Rat.le_refl) j
end
end Go.AL

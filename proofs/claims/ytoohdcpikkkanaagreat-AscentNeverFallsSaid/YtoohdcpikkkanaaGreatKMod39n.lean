/-
  M, chapter 39: the exact reestimate is at least as likely as the model, the end.
-/
import Derived.Test.YtoohdcpikkkanaaGreatKMod39m
set_option linter.unusedVariables false
set_option linter.unusedSimpArgs false
namespace Go.AL
open Go Go.BigFrame
section
variable {h : HM} {X : List (List Int)} {b B : Nat}
theorem evX_mem (k : DataOK h X) {N : Nat} {e : Ev} (he : e ∈ evX h N X) : e.1 < 1 + 2 * h.st ∧ (e.1 ≤ h.st → e.2 < h.st + 1) ∧ (h.st < e.1 → e.2 < h.sym) := by
 unfold evX at he
 obtain ⟨w, hw, he⟩ := List.mem_flatMap.1 he
 obtain ⟨i, hi, he⟩ := List.mem_flatMap.1 he
 exact evs_mem (k.word w hw).1 (getD_mem (labs_lt hi) []) (fun i hi => (repT_spec hi).1) he
theorem getD_div (l : List Rat) (v : Rat) {i : Nat} (hi : i < l.length) : (l.map fun x => x / v).getD i 0 = l.getD i 0 / v := by
 rw [List.getD_eq_getElem?_getD, List.getElem?_map, List.getElem?_eq_getElem hi, getD_lt hi]; rfl
theorem sumQ_sumN (l : List Rat) : sumQ l = sumN (fun i => l.getD i 0) l.length := by
 rw [← sumQ_range, range_map_getD]
theorem pos_of_le {f : Nat → Rat} {k x : Nat} (hx : x < k) (h0 : ∀ i, i < k → 0 ≤ f i) (h1 : 0 < f x) : 0 < sumN f k := by
 have h2 : sumN (fun i => if x = i then f i else 0) k ≤ sumN f k := sumN_le fun i hi => by
  show (if x = i then f i else 0) ≤ f i
  split
  ·exact Rat.le_refl
  ·exact h0 i hi
 rw [sumN_pick hx] at h2
 exact lt_of_lt_of_le9 h1 h2
where
 lt_of_lt_of_le9 {a b c : Rat} (h : a < b) (g : b ≤ c) : a < c := by grind
theorem re_class (g : h.Good 1) (k : Data1 h X) (ha : AllL h X) {N : Nat} (hN0 : 0 < N) (hN : Denom h N X) {d : Nat} (hd : d < 1 + 2 * h.st) :
  0 ≤ prodL (pv h) ((evX h N X).filter fun e => decide (e.1 = d)) ∧ prodL (pv h) ((evX h N X).filter fun e => decide (e.1 = d)) ≤ prodL (pv (reHM h X)) ((evX h N X).filter fun e => decide (e.1 = d)) := by
 have f := g.form
 have hNr : (0 : Rat) < (N : Rat) := Rat.natCast_pos.2 hN0
 have cn : ∀ e, 0 ≤ cntE e (evX h N X) := fun e => lsum_nn _ fun y _ => by
  show (0 : Rat) ≤ if y = e then 1 else 0
  split
  ·exact one_nn9
  ·exact Rat.le_refl
 have nX := k.ok.len
 have hX : 0 < (X.length : Rat) := Rat.natCast_pos.2 (by omega)
 have hX0 : (X.length : Rat) ≠ 0 := fun e => by rw [e] at hX; exact Rat.lt_irrefl hX
 rcases Nat.eq_zero_or_pos d with rfl | hd0
 ·
  have ci : ∀ i, i < h.st → cntE (0, i) (evX h N X) = (N : Rat) * (stL h X).getD i 0 := fun i hi => by rw [cnt_evX hN, tot_ini ha hi]
  have ce : cntE (0, h.st) (evX h N X) = (N : Rat) * (emN X : Rat) := by rw [cnt_evX hN, tot_empty ha]
  have sl : (stL h X).length = h.st := accL_len ..
  have tot : sumN (fun x => cntE (0, x) (evX h N X)) (h.st + 1) = (N : Rat) * (X.length : Rat) := by
   rw [sumN, ce, sumN_congr ci, sumN_mulL, ← Rat.mul_add, ← st_sum ha, sumQ_sumN, sl]
  have sp : sumN (fun x => pv h (0, x)) (h.st + 1) = 1 := by
   rw [sumN, sumN_congr (fun i hi => pv_ini hi), pv_empty, ← g.sI, sumQ_snoc, sumQ_sumN, f.ini]
  refine class_le (k := h.st + 1) (fun e he h1 => (evX_mem k.ok he).2.1 (by omega)) (fun x hx => ?_) (by rw [sp]; exact Rat.le_refl) fun x hx hc => ?_
  ·by_cases h1 : x < h.st
   ·rw [pv_ini h1]; exact ini_nn g x
   ·rw [show x = h.st by omega, pv_empty]; exact g.pE.1
  ·rw [tot]
   by_cases h1 : x < h.st
   ·rw [show pv (reHM h X) (0, x) = (reHM h X).ini.getD x 0 from pv_ini h1, ci x h1, show (reHM h X).ini = (stL h X).map fun x => x / (X.length : Rat) from rfl, getD_div _ _ (by omega), Rat.div_def]
    have hp := Rat.inv_mul_cancel _ hX0
    generalize (X.length : Rat)⁻¹ = q at *
    grind
   ·obtain rfl : x = h.st := by omega
    rw [show pv (reHM h X) (0, h.st) = (reHM h X).empty from pv_empty (h := reHM h X), ce, show (reHM h X).empty = (emN X : Rat) / (X.length : Rat) from rfl, Rat.div_def]
    have hp := Rat.inv_mul_cancel _ hX0
    generalize (X.length : Rat)⁻¹ = q at *
    grind
 ·by_cases hd1 : d ≤ h.st
  ·
   obtain ⟨i, rfl⟩ : ∃ i, d = 1 + i := ⟨d - 1, by omega⟩
   have hi : i < h.st := by omega
   have ci : ∀ j, j < h.st → cntE (1 + i, j) (evX h N X) = (N : Rat) * (mvL h X i).getD j 0 := fun j hj => by rw [cnt_evX hN, tot_tr ha hi hj]
   have ce : cntE (1 + i, h.st) (evX h N X) = (N : Rat) * (enL h X).getD i 0 := by rw [cnt_evX hN, tot_stop ha hi]
   have sl : (mvL h X i).length = h.st := accL_len ..
   have tot : sumN (fun x => cntE (1 + i, x) (evX h N X)) (h.st + 1) = (N : Rat) * vTot h X i := by
    rw [sumN, ce, sumN_congr ci, sumN_mulL, ← Rat.mul_add]
    unfold vTot
    rw [sumQ_snoc, sumQ_sumN, sl]
   have sp : sumN (fun x => pv h (1 + i, x)) (h.st + 1) = 1 := by
    rw [sumN, sumN_congr (fun j hj => pv_tr hi hj), pv_stop hi, ← g.sT i hi, sumQ_snoc, sumQ_sumN, f.trow i hi]; rfl
   refine class_le (k := h.st + 1) (fun e he h1 => (evX_mem k.ok he).2.1 (by omega)) (fun x hx => ?_) (by rw [sp]; exact Rat.le_refl) fun x hx hc => ?_
   ·by_cases h1 : x < h.st
    ·rw [pv_tr hi h1]; exact trX_nn g i x
    ·rw [show x = h.st by omega, pv_stop hi]; exact stopX_nn g i
   ·have hs := pos_of_le hx (fun j _ => cn (1 + i, j)) hc
    rw [tot] at hs ⊢
    have hv : 0 < vTot h X i := by
     rcases Rat.le_iff_lt_or_eq.1 (show 0 ≤ vTot h X i from sumQ_nonneg (mv_row_nn g i)) with h2 | h2
     ·exact h2
     ·rw [← h2, Rat.mul_zero] at hs; exact absurd hs Rat.lt_irrefl
    have hp := Rat.inv_mul_cancel (vTot h X i) fun e => by rw [e] at hv; exact Rat.lt_irrefl hv
    by_cases h1 : x < h.st
    ·rw [show pv (reHM h X) (1 + i, x) = trQ (reHM h X) i x from pv_tr (h := reHM h X) hi h1, ci x h1]
     unfold trQ
     rw [re_trans hi, if_pos hv, getD_div _ _ (by omega), Rat.div_def]
     generalize (vTot h X i)⁻¹ = q at *
     grind
    ·obtain rfl : x = h.st := by omega
     rw [show pv (reHM h X) (1 + i, h.st) = (reHM h X).stop.getD i 0 from pv_stop (h := reHM h X) hi, ce, re_stop hi, if_pos hv, Rat.div_def]
     generalize (vTot h X i)⁻¹ = q at *
     grind
  ·
   obtain ⟨c, rfl⟩ : ∃ c, d = 1 + h.st + c := ⟨d - 1 - h.st, by omega⟩
   have hc1 : c < h.st := by omega
   have sp : sumN (fun x => pv h (1 + h.st + c, x)) h.sym = 1 := by
    rw [sumN_congr (fun x _ => pv_em c x), ← g.sM c hc1, sumQ_sumN, f.erow c hc1]; rfl
   refine class_le (k := h.sym) (fun e he h1 => (evX_mem k.ok he).2.2 (by omega)) (fun x hx => ?_) (by rw [sp]; exact Rat.le_refl) fun x hx hc => ?_
   ·rw [pv_em]; exact emX_nn g c x
   ·by_cases hr : repT h c = c
    ·have ci : ∀ x, x < h.sym → cntE (1 + h.st + c, x) (evX h N X) = (N : Rat) * (poolN h X c h.st).getD x 0 := fun x hx => by rw [cnt_evX hN, tot_em ha hr hx]
     have tot : sumN (fun x => cntE (1 + h.st + c, x) (evX h N X)) h.sym = (N : Rat) * uTot h X c := by
      rw [sumN_congr ci, sumN_mulL]
      unfold uTot
      rw [sumQ_sumN, poolN_len]
     have hs := pos_of_le hx (fun j _ => cn (1 + h.st + c, j)) hc
     rw [tot] at hs ⊢
     have hv : 0 < uTot h X c := by
      rcases Rat.le_iff_lt_or_eq.1 (show 0 ≤ uTot h X c from sumQ_nonneg (pool_nn g c h.st).mem) with h2 | h2
      ·exact h2
      ·rw [← h2, Rat.mul_zero] at hs; exact absurd hs Rat.lt_irrefl
     have hp := Rat.inv_mul_cancel (uTot h X c) fun e => by rw [e] at hv; exact Rat.lt_irrefl hv
     rw [show pv (reHM h X) (1 + h.st + c, x) = emQ (reHM h X) c x from pv_em (h := reHM h X) c x, ci x hx]
     unfold emQ
     rw [re_emit hc1, if_pos hv, getD_div _ _ (by rw [poolN_len]; exact hx), Rat.div_def]
     generalize (uTot h X c)⁻¹ = q at *
     grind
    ·rw [cnt_evX hN, tot_em0 ha hr, Rat.mul_zero] at hc
     exact absurd hc Rat.lt_irrefl
theorem evX_prod (m : HM) (hs : m.st = h.st) (hr : RepOK m (repT h)) {N : Nat} : prodL (pv m) (evX h N X) = prodL (fun w => prodL (fun i => jointE m w ((pathsF h.st w.length).getD i [])) (labW h N w)) X := by
 unfold evX
 rw [prodL_flat]
 refine prodL_congr fun w hw => ?_
 rw [prodL_flat]
 refine prodL_congr fun i hi => ?_
 have hp : (pathsF h.st w.length).getD i [] ∈ pathsF m.st w.length := by rw [hs]; exact getD_mem (labs_lt hi) []
 have := prod_evs hr hp
 rw [hs] at this
 exact this
theorem lk_prod (m : HM) : ∀ (X : List (List Int)), lkN m X X.length = prodL (likF m) X := fun X => by
 have key : ∀ n, n ≤ X.length → lkN m X n = prodL (likF m) (X.take n) := fun n => by
  induction n with
  | zero => intro _; rfl
  | succ n ih =>
   intro hn
   rw [lkN, ih (by omega), take_succ_getD (show n < X.length by omega) [], prodL_app, prodL, prodL, Rat.mul_one]
 rw [key _ (Nat.le_refl _), List.take_length]
theorem em_rises (g : h.Good 1) (k : Data1 h X) (ha : AllL h X) (hs : h.sym ≤ 3) : lkN h X X.length ≤ lkN (reHM h X) X X.length := by
 have gr := re_good g k ha hs
 obtain ⟨N, hN0, hN⟩ := denom_ex g X
 have hNr : (0 : Rat) < (N : Rat) := Rat.natCast_pos.2 hN0
 have r1 : RepOK h (repT h) := rep_ok g
 have r2 : RepOK (reHM h X) (repT h) := rep_ok gr
 have hE : prodL (pv h) (evX h N X) ≤ prodL (pv (reHM h X)) (evX h N X) := by
  have hD : ∀ e, e ∈ evX h N X → e.1 < 1 + 2 * h.st := fun e he => (evX_mem k.ok he).1
  rw [← prod_classes (pv h) hD, ← prod_classes (pv (reHM h X)) hD]
  exact prodL_le fun d hd => re_class g k ha hN0 hN (List.mem_range.1 hd)
 rw [evX_prod (h := h) h rfl r1, evX_prod (h := h) (reHM h X) rfl r2] at hE
 rw [lk_prod, lk_prod]
 have cp : ∀ w, 0 < prodL (cntQ · (labW h N w)) (labW h N w) := fun w => prodL_pos fun x hx => cntQ_pos hx
 have own : ∀ w, w ∈ X → prodL (fun i => jointE h w ((pathsF h.st w.length).getD i [])) (labW h N w) * pw (N : Rat) N = pw (likF h w) N * prodL (cntQ · (labW h N w)) (labW h N w) := fun w hw =>
  word_own (ha w hw) (hN w hw) (by rw [lsum_idx, joint_sum])
 have oth : ∀ w, w ∈ X → prodL (fun i => jointE (reHM h X) w ((pathsF h.st w.length).getD i [])) (labW h N w) * pw (N : Rat) N ≤ pw (likF (reHM h X) w) N * prodL (cntQ · (labW h N w)) (labW h N w) := fun w hw => by
  have hl : (labW h N w).length = N := labs_len (ha w hw) (hN w hw) (by rw [lsum_idx, joint_sum])
  have hj : lsum (jointE (reHM h X) w) (pathsF h.st w.length) = likF (reHM h X) w := joint_sum (h := reHM h X)
  have := gibbs (h := fun i => jointE (reHM h X) w ((pathsF h.st w.length).getD i [])) (l := labW h N w) (k := (pathsF h.st w.length).length) (c := likF (reHM h X) w) (fun x hx => labs_lt hx) (fun i _ => jointE_nn gr w _) (by rw [lsum_idx, hj]; exact Rat.le_refl)
  rw [hl] at this
  exact this
 have hz : 0 ≤ pw (N : Rat) N := pw_nn (Rat.le_of_lt hNr) N
 have h1 := mul_le_r hE (show 0 ≤ prodL (fun _ : List Int => pw (N : Rat) N) X from prodL_nn fun _ _ => hz)
 rw [← prodL_mul, ← prodL_mul, prodL_congr own] at h1
 have h2 : prodL (fun w => prodL (fun i => jointE (reHM h X) w ((pathsF h.st w.length).getD i [])) (labW h N w) * pw (N : Rat) N) X ≤ prodL (fun w => pw (likF (reHM h X) w) N * prodL (cntQ · (labW h N w)) (labW h N w)) X :=
  prodL_le fun w hw => ⟨Rat.mul_nonneg (prodL_nn fun i _ => jointE_nn gr w _) hz, oth w hw⟩
 have h3 := Rat.le_trans h1 h2
 rw [prodL_mul, prodL_mul] at h3
 have h4 := le_of_mul (prodL_pos fun w _ => cp w) h3
 have pp : ∀ (f : List Int → Rat) (X : List (List Int)), prodL (fun w => pw (f w) N) X = pw (prodL f X) N := fun f X => by
  induction X with
  | nil => exact (pw_one N).symm
  | cons w X ih => rw [prodL, ih, prodL, pw_mul]
 rw [pp, pp] at h4
 exact le_of_pw (prodL_nn fun w _ => lik_nn gr w) hN0 h4
end
end Go.AL
namespace Go.AL
open Go Go.BigFrame
section
variable {h : HM} {B : Nat} {w : List Int}
def FW : Nat → Nat
 | 0 => 2097152
 | t + 1 => 2 * (FW t + 1048577) + 1048577
theorem FW_le {t : Nat} (ht : t ≤ 3) : 1 ≤ FW t ∧ FW t ≤ 80000000 := by
 have : t = 0 ∨ t = 1 ∨ t = 2 ∨ t = 3 := by omega
 rcases this with rfl | rfl | rfl | rfl <;> decide
theorem sumN_sz2 {C n : Nat} {f : Nat → Rat} (hf : ∀ i, sz (f i) ≤ C) (hn : n ≤ 2) : sz (sumN f n) ≤ 1 + 2 * (C + 1) := by
 have h1 := sumN_sz hf n
 have h2 : n * (C + 1) ≤ 2 * (C + 1) := Nat.mul_le_mul_right _ hn
 omega
theorem tr_szW (f : HM.FormX 1048576 B h) (i j : Nat) : sz (trQ h i j) ≤ 1048576 := Nat.le_trans ((f.zT i).get f.b1 j) f.bB
theorem em_szW (f : HM.FormX 1048576 B h) (i x : Nat) : sz (emQ h i x) ≤ 1048576 := Nat.le_trans ((f.zM i).get f.b1 x) f.bB
theorem stop_szW (f : HM.FormX 1048576 B h) (i : Nat) : sz (h.stop.getD i 0) ≤ 1048576 := Nat.le_trans (f.zS.get f.b1 i) f.bB
theorem ini_szW (f : HM.FormX 1048576 B h) (i : Nat) : sz (h.ini.getD i 0) ≤ 1048576 := Nat.le_trans (f.zI.get f.b1 i) f.bB
theorem pre_szW {C n : Nat} (f : HM.FormX 1048576 B h) {prev : List Rat} (hp : Small C prev) (hC : 1 ≤ C) (hn : n ≤ 2) (w : List Int) (t j : Nat) : sz (preF h w prev t j n) ≤ 1 + 2 * (C + 1048576 + 1) := sumN_sz2 (fun i => by
  have h1 := sz_mul (prev.getD i 0) (trQ h i j)
  have h2 := tr_szW f i j
  have h3 := hp.get hC i
  omega) hn
theorem fwd_smallW (f : HM.FormX 1048576 B h) (hs : h.st ≤ 2) (w : List Int) : ∀ t, Small (FW t) (fwdF h w t)
 | 0 => fun q hq => by
  obtain ⟨j, _, rfl⟩ := List.mem_map.1 hq
  have h1 := sz_mul (h.ini.getD j 0) (emQ h j (symX w 0))
  have h2 := ini_szW f j
  have h3 := em_szW f j (symX w 0)
  show _ ≤ 2097152
  omega
 | t + 1 => fun q hq => by
  obtain ⟨j, _, rfl⟩ := List.mem_map.1 hq
  have hC : 1 ≤ FW t := by cases t <;> simp only [FW] <;> omega
  have h1 := sz_mul (preF h w (fwdF h w t) t j h.st) (emQ h j (symX w (t + 1)))
  have h2 := pre_szW f (fwd_smallW f hs w t) hC hs w t j
  have h3 := em_szW f j (symX w (t + 1))
  show _ ≤ 2 * (FW t + 1048577) + 1048577
  omega
theorem likN_szW {n : Nat} (f : HM.FormX 1048576 B h) {row : List Rat} (hr : Small 80000000 row) (hn : n ≤ 2) : sz (likN h row n) ≤ 170000000 := by
 have : sz (likN h row n) ≤ 1 + 2 * (81048576 + 1) := sumN_sz2 (fun i => by
  have h1 := sz_mul (row.getD i 0) (h.stop.getD i 0)
  have h2 := stop_szW f i
  have h3 := hr.get (by decide) i
  omega) hn
 omega
theorem fwdSzW (f : HM.FormX 1048576 B h) (hs : h.st ≤ 2) (hw : w.length ≤ 4) : FwdSz h w ∧ sz (likF h w) ≤ 170000000 := by
 have zE := f.zE
 have bB := f.bB
 have sm : ∀ t, t < w.length → Small 80000000 (fwdF h w t) := fun t ht => (fwd_smallW f hs w t).mono (FW_le (by omega)).2
 refine ⟨⟨by omega, fun i => by have := ini_szW f i; omega, fun i x => by have := em_szW f i x; omega, fun i j => by have := tr_szW f i j; omega, fun i => by have := stop_szW f i; omega,
  fun t ht i => Nat.le_trans ((sm t ht).get (by decide) i) (by decide), fun t j n ht hn => Nat.le_trans (pre_szW f (sm t ht) (by decide) (by omega) w t j) (by decide), fun t i j ht => ?_, fun t n ht hn => Nat.le_trans (likN_szW f (sm t ht) (by omega)) (by decide), fun t i ht => ?_⟩, ?_⟩
 ·have h1 := (sm t ht).get (by decide) i
  have h2 := tr_szW f i j
  have := sz_mul ((fwdF h w t).getD i 0) (trQ h i j)
  omega
 ·have h1 := (sm t ht).get (by decide) i
  have h2 := stop_szW f i
  have := sz_mul ((fwdF h w t).getD i 0) (h.stop.getD i 0)
  omega
 ·unfold likF
  split
  ·omega
  ·exact likN_szW f (sm _ (by omega)) hs
theorem lk_szW {X : List (List Int)} (f : HM.FormX 1048576 B h) (hs : h.st ≤ 2) (hX : X.length ≤ 5) (hw : ∀ w, w ∈ X → w.length ≤ 4) : ∀ k, k ≤ X.length → sz (lkN h X k) ≤ 1 + k * 170000000
 | 0, _ => by show sz 1 ≤ _; rw [sz_one]; omega
 | k + 1, hk => by
  have h1 := lk_szW f hs hX hw k (by omega)
  have h2 := (fwdSzW f hs (hw _ (getD_mem (show k < X.length by omega) []))).2
  have h3 := sz_mul (lkN h X k) (likF h (X.getD k []))
  show sz (lkN h X k * likF h (X.getD k [])) ≤ _
  omega
end
end Go.AL
namespace Go.AL
open Go Go.BigFrame
theorem prodL_zero {α : Type} {f : α → Rat} : ∀ {l : List α}, prodL f l = 0 ↔ ∃ x, x ∈ l ∧ f x = 0
 | [] => ⟨fun e => absurd (show (1 : Rat) = 0 from e) (by decide), fun ⟨_, h, _⟩ => by simp at h⟩
 | x :: l => by
  rw [prodL, Rat.mul_eq_zero, prodL_zero (l := l)]
  constructor
  ·rintro (h | ⟨y, hy, h⟩)
   ·exact ⟨x, by simp, h⟩
   ·exact ⟨y, by simp [hy], h⟩
  ·rintro ⟨y, hy, h⟩
   rcases List.mem_cons.1 hy with rfl | hy
   ·exact .inl h
   ·exact .inr ⟨y, hy, h⟩
theorem lk_zero {h : HM} {X : List (List Int)} : lkN h X X.length = 0 ↔ ¬ AllL h X := by
 rw [lk_prod, prodL_zero]
 constructor
 ·rintro ⟨w, hw, e⟩ ha; exact ha w hw e
 ·intro hn
  refine Classical.byContradiction fun k => hn fun w hw e => k ⟨w, hw, e⟩
theorem data1_ok {L : List Int} {h : HM} {most : Nat} (hs : 1 ≤ h.sym) (ht : h.st ≤ 4) (hm : 1 ≤ most ∧ most ≤ 5) : Data1 h (dataF L h.sym most) := ⟨data_ok hs ht hm, fun w hw => (dtF_mem hs _ _ w hw).1⟩
end Go.AL
namespace Go.AL
open Go Go.BigFrame
theorem chain_sym3 (L : List Int) (cs cy most : Int) : (chainHM L cs cy most).sym ≤ 3 := by
 have := chSym_range cy
 show chSym cy ≤ 3
 omega
theorem cmpQ_ge {x y : Rat} : 0 ≤ cmpQ x y ↔ y ≤ x := by
 have h := cmpQ_neg (x := x) (y := y)
 constructor
 ·intro k
  have : ¬ x < y := fun e => by have := h.2 e; omega
  grind
 ·intro k
  have : ¬ cmpQ x y < 0 := fun e => by have := h.1 e; grind
  omega
end Go.AL

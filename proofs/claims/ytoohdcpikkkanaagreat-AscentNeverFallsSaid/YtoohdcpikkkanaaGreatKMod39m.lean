/-
  M, chapter 39: the exact reestimate is at least as likely as the model.
-/
import Derived.Test.YtoohdcpikkkanaaGreatKMod39l
set_option linter.unusedVariables false
set_option linter.unusedSimpArgs false
namespace Go.AL
open Go Go.BigFrame
theorem common : ∀ qs : List Rat, (∀ q, q ∈ qs → 0 ≤ q) → ∃ N : Nat, 0 < N ∧ ∀ q, q ∈ qs → ∃ m : Nat, (N : Rat) * q = (m : Rat)
 | [], _ => ⟨1, by decide, fun q hq => by simp at hq⟩
 | y :: qs, h => by
  obtain ⟨N, hN, hm⟩ := common qs fun x hx => h x (by simp [hx])
  refine ⟨N * y.den, Nat.mul_pos hN y.den_pos, fun x hx => ?_⟩
  rw [Rat.natCast_mul]
  rcases List.mem_cons.1 hx with rfl | hx
  ·refine ⟨N * x.num.toNat, ?_⟩
   have e : (x.den : Rat) * x = (x.num : Rat) := by
    have h1 : x = (x.num : Rat) / ((x.den : Int) : Rat) := by rw [← Rat.divInt_eq_div, Rat.num_divInt_den]
    have hd : (x.den : Rat) ≠ 0 := fun e => x.den_nz (Rat.natCast_inj.1 e)
    rw [Rat.intCast_natCast, Rat.div_def] at h1
    have hp := Rat.inv_mul_cancel _ hd
    generalize (x.den : Rat)⁻¹ = q at *
    generalize (x.den : Rat) = d at *
    generalize (x.num : Rat) = m at *
    rw [h1, Rat.mul_comm, Rat.mul_assoc, hp, Rat.mul_one]
   have e2 : x.num = (x.num.toNat : Int) := by have := Rat.num_nonneg.2 (h x (by simp)); omega
   rw [Rat.mul_assoc, e, Rat.natCast_mul]
   conv => lhs; rw [e2]
   rw [Rat.intCast_natCast]
  ·obtain ⟨m, hm⟩ := hm x hx
   refine ⟨y.den * m, ?_⟩
   rw [Rat.natCast_mul, ← hm]; grind
def labs (m : Nat → Nat) (k : Nat) : List Nat := (List.range k).flatMap fun i => List.replicate (m i) i
theorem lsum_rep (f : Nat → Rat) (x : Nat) : ∀ n, lsum f (List.replicate n x) = (n : Rat) * f x
 | 0 => (Rat.zero_mul _).symm
 | n + 1 => by
  rw [List.replicate_succ, lsum, lsum_rep f x n, Rat.natCast_add]
  show _ = ((n : Rat) + 1) * f x
  grind
theorem lsum_labs (f : Nat → Rat) (m : Nat → Nat) (k : Nat) : lsum f (labs m k) = sumN (fun i => (m i : Rat) * f i) k := by
 unfold labs
 rw [lsum_flatMap, lsum_range]
 exact sumN_congr fun i _ => lsum_rep f i (m i)
theorem labs_lt {m : Nat → Nat} {k x : Nat} (h : x ∈ labs m k) : x < k := by
 obtain ⟨i, hi, hx⟩ := List.mem_flatMap.1 h
 rw [(List.mem_replicate.1 hx).2]
 exact List.mem_range.1 hi
theorem cnt_labs {m : Nat → Nat} {k x : Nat} (hx : x < k) : cntQ x (labs m k) = (m x : Rat) := by
 unfold cntQ
 rw [lsum_labs, ← sumN_pick (v := fun i => (m i : Rat)) hx]
 refine sumN_congr fun i _ => ?_
 by_cases e : i = x
 ·rw [if_pos e, if_pos e.symm, Rat.mul_one]
 ·rw [if_neg e, if_neg fun k => e k.symm, Rat.mul_zero]
theorem labs_len {m : Nat → Nat} {k : Nat} {N : Nat} {J : Nat → Rat} {P : Rat} (hP : P ≠ 0) (hm : ∀ i, i < k → (N : Rat) * (J i / P) = (m i : Rat)) (hJ : sumN J k = P) : (labs m k).length = N := by
 have h : ((labs m k).length : Rat) = (N : Rat) := by
  rw [← lsum_one, lsum_labs, sumN_congr fun i hi => by rw [Rat.mul_one, ← hm i hi], sumN_mulL, sumN_divR, hJ, div_self9 hP, Rat.mul_one]
 exact Rat.natCast_inj.1 h
theorem word_own {m : Nat → Nat} {k : Nat} {N : Nat} {J : Nat → Rat} {P : Rat} (hP : P ≠ 0) (hm : ∀ i, i < k → (N : Rat) * (J i / P) = (m i : Rat)) (hJ : sumN J k = P) : prodL J (labs m k) * pw (N : Rat) N = pw P N * prodL (cntQ · (labs m k)) (labs m k) := by
 have hl := labs_len hP hm hJ
 have h1 := prodL_const (N : Rat) (labs m k)
 have h2 := prodL_const P (labs m k)
 rw [hl] at h1 h2
 rw [← h1, ← h2, ← prodL_mul, ← prodL_mul]
 refine prodL_congr fun x hx => ?_
 rw [cnt_labs (labs_lt hx), ← hm x (labs_lt hx), Rat.div_def]
 have hp := Rat.mul_inv_cancel P hP
 generalize P⁻¹ = q at *
 grind
theorem prod_pick {F : Nat → Rat} {a : Rat} {c : Nat} : ∀ {D : Nat}, c < D → prodL (fun d => if d = c then a * F d else F d) (List.range D) = a * prodL F (List.range D)
 | D + 1, hc => by
  rw [List.range_succ, prodL_app, prodL_app, prodL, prodL, prodL, prodL, Rat.mul_one, Rat.mul_one]
  by_cases e : D = c
  ·rw [if_pos e, prodL_congr (g := F) fun d hd => if_neg (by have := List.mem_range.1 hd; omega)]; grind
  ·rw [if_neg e, prod_pick (show c < D by omega)]; grind
theorem prod_classes (f : Ev → Rat) {D : Nat} : ∀ {E : List Ev}, (∀ e, e ∈ E → e.1 < D) → prodL (fun d => prodL f (E.filter fun e => decide (e.1 = d))) (List.range D) = prodL f E
 | [], _ => by
  show prodL (fun _ => (1 : Rat)) _ = 1
  rw [prodL_const, pw_one]
 | y :: E, h => by
  rw [prodL, ← prod_classes f (fun e he => h e (by simp [he])), ← prod_pick (F := fun d => prodL f (E.filter fun e => decide (e.1 = d))) (a := f y) (h y (by simp))]
  refine prodL_congr fun d _ => ?_
  rw [List.filter_cons]
  by_cases e : y.1 = d
  ·rw [if_pos (by simpa using e), if_pos e.symm, prodL]
  ·rw [if_neg (by simpa using e), if_neg fun k => e k.symm]
theorem cnt_class (d x : Nat) : ∀ E : List Ev, cntQ x ((E.filter fun e => decide (e.1 = d)).map Prod.snd) = cntE (d, x) E
 | [] => rfl
 | y :: E => by
  have ih := cnt_class d x E
  rw [List.filter_cons]
  by_cases e : y.1 = d
  ·rw [if_pos (by simpa using e), List.map_cons]
   show (if y.2 = x then (1 : Rat) else 0) + _ = (if y = (d, x) then (1 : Rat) else 0) + cntE (d, x) E
   rw [← ih]
   by_cases e2 : y.2 = x
   ·rw [if_pos e2, if_pos (Prod.ext e e2)]; rfl
   ·rw [if_neg e2, if_neg fun k => e2 (by rw [k])]; rfl
  ·rw [if_neg (by simpa using e), ih]
   show _ = (if y = (d, x) then (1 : Rat) else 0) + cntE (d, x) E
   rw [if_neg fun k => e (by rw [k]), Rat.zero_add]
theorem class_le {p q : Ev → Rat} {E : List Ev} {d k : Nat} (hk : ∀ e, e ∈ E → e.1 = d → e.2 < k) (h0 : ∀ x, x < k → 0 ≤ p (d, x)) (h1 : sumN (fun x => p (d, x)) k ≤ 1) (hq : ∀ x, x < k → 0 < cntE (d, x) E → q (d, x) * sumN (fun x => cntE (d, x) E) k = cntE (d, x) E) :
  0 ≤ prodL p (E.filter fun e => decide (e.1 = d)) ∧ prodL p (E.filter fun e => decide (e.1 = d)) ≤ prodL q (E.filter fun e => decide (e.1 = d)) := by
 have hm : ∀ e, e ∈ (E.filter fun e => decide (e.1 = d)) → e = (d, e.2) ∧ e.2 < k := fun e he => by
  have h := List.mem_filter.1 he
  have h2 : e.1 = d := by simpa using h.2
  exact ⟨Prod.ext h2 rfl, hk e h.1 h2⟩
 have lab : ∀ f : Ev → Rat, prodL f (E.filter fun e => decide (e.1 = d)) = prodL (fun x => f (d, x)) ((E.filter fun e => decide (e.1 = d)).map Prod.snd) := fun f => by
  rw [prodL_map]
  exact prodL_congr fun e he => congrArg f (hm e he).1
 rw [lab p, lab q]
 obtain ⟨L, hL⟩ : ∃ L, L = (E.filter fun e => decide (e.1 = d)).map Prod.snd := ⟨_, rfl⟩
 have hlt : ∀ x, x ∈ L → x < k := fun x hx => by
  rw [hL] at hx
  obtain ⟨e, he, rfl⟩ := List.mem_map.1 hx
  exact (hm e he).2
 have hc : ∀ x, cntQ x L = cntE (d, x) E := fun x => by rw [hL]; exact cnt_class d x E
 rw [← hL]
 refine ⟨prodL_nn fun x hx => h0 x (hlt x hx), ?_⟩
 have hlen : (L.length : Rat) = sumN (fun x => cntE (d, x) E) k := by
  rw [← lsum_one, lsum_by _ hlt]
  exact sumN_congr fun x _ => by rw [Rat.mul_one, hc]
 have hg := gibbs (h := fun x => p (d, x)) hlt h0 h1
 rw [pw_one, Rat.one_mul] at hg
 have he : prodL (cntQ · L) L = prodL (fun x => q (d, x)) L * pw (L.length : Rat) L.length := by
  rw [← prodL_const, ← prodL_mul]
  refine prodL_congr fun x hx => ?_
  have h3 := cntQ_pos hx
  rw [hc] at h3
  show cntQ x L = q (d, x) * (L.length : Rat)
  rw [hc, hlen, hq x (hlt x hx) h3]
 rw [he] at hg
 refine le_of_mul ?_ hg
 rcases Nat.eq_zero_or_pos L.length with h2 | h2
 ·rw [h2]; exact one_pos9
 ·exact pw_pos (Rat.natCast_pos.2 h2) _
section
variable {h : HM} {X : List (List Int)} {b B : Nat}
def repT (h : HM) (i : Nat) : Nat := ((List.range h.st).find? fun j => decide (h.ties.getD j 0 = h.ties.getD i 0)).getD 0
theorem repT_spec {i : Nat} (hi : i < h.st) : repT h i < h.st ∧ h.ties.getD (repT h i) 0 = h.ties.getD i 0 := by
 unfold repT
 cases hf : (List.range h.st).find? fun j => decide (h.ties.getD j 0 = h.ties.getD i 0) with
 | none => exact absurd (List.find?_eq_none.1 hf i (List.mem_range.2 hi)) (by simp)
 | some j => exact ⟨List.mem_range.1 (List.mem_of_find?_eq_some hf), by simpa using List.find?_some hf⟩
theorem repT_eq {i j : Nat} (e : h.ties.getD i 0 = h.ties.getD j 0) : repT h i = repT h j := by unfold repT; rw [e]
theorem repT_iff {i c : Nat} (hi : i < h.st) (hc : repT h c = c) : repT h i = c ↔ h.ties.getD i 0 = h.ties.getD c 0 := ⟨fun e => by rw [← e]; exact (repT_spec hi).2.symm, fun e => by rw [repT_eq e, hc]⟩
theorem rep_ok (g : HM.GoodX b B h) : RepOK h (repT h) := ⟨fun i hi => (repT_spec hi).1, fun i x hi => by
 obtain ⟨h1, h2⟩ := repT_spec hi
 have : h.emit.getD (repT h i) [] = h.emit.getD i [] := by
  rcases Nat.lt_trichotomy (repT h i) i with k | k | k
  ·exact (g.tied i _ hi k h2.symm).symm
  ·rw [k]
  ·exact g.tied _ i h1 k h2
 unfold emQ; rw [this]⟩
theorem avc_nil {w : List Int} {r : Nat → Nat} (h0 : w.length = 0) (hz : likF h w ≠ 0) (e : Ev) : avc h r w e = if (0, h.st) = e then 1 else 0 := by
 have h1 : ∀ p, cntE e (evs h.st r w p) = if (0, h.st) = e then 1 else 0 := fun p => by
  unfold evs
  rw [if_pos h0]
  exact Rat.add_zero _
 unfold avc
 rw [avg_congr fun p _ => h1 p]
 split
 ·exact avg_one hz
 ·exact avg_zero fun _ _ => rfl
theorem rep0 (n i : Nat) : (List.replicate n (0 : Rat)).getD i 0 = 0 := by rw [List.getD_eq_getElem?_getD, List.getElem?_replicate]; split <;> rfl
theorem tot_ini (ha : AllL h X) {r : Nat → Nat} {i : Nat} (hi : i < h.st) : lsum (fun w => avc h r w (0, i)) X = (stL h X).getD i 0 := by
 unfold stL
 rw [accL_get hi]
 refine lsum_congr fun w hw => ?_
 unfold exS
 rw [if_neg (ha w hw)]
 by_cases h0 : w.length = 0
 ·rw [if_pos h0, rep0, avc_nil h0 (ha w hw), if_neg (by rw [pair_eq]; omega)]
 ·rw [if_neg h0, avc_ini hi h0, postF_get hi]
theorem tot_empty {r : Nat → Nat} : ∀ {X : List (List Int)}, AllL h X → lsum (fun w => avc h r w (0, h.st)) X = (emN X : Rat)
 | [], _ => rfl
 | w :: X, ha => by
  rw [lsum, tot_empty fun u hu => ha u (by simp [hu]), emN_cons]
  by_cases h0 : w.length = 0
  ·rw [if_pos h0, avc_nil h0 (ha w (by simp)), if_pos rfl]
  ·rw [if_neg h0, avc_empty h0]
theorem tot_tr (ha : AllL h X) {r : Nat → Nat} {i j : Nat} (hi : i < h.st) (hj : j < h.st) : lsum (fun w => avc h r w (1 + i, j)) X = (mvL h X i).getD j 0 := by
 unfold mvL
 rw [accL_get hj]
 refine lsum_congr fun w hw => ?_
 rw [exM_row (ha w hw) hi]
 by_cases h0 : w.length = 0
 ·rw [h0, moveRow_zero, rep0, avc_nil h0 (ha w hw), if_neg (by rw [pair_eq]; omega)]
 ·rw [avc_tr hi hj h0, moveRow_get hj]
theorem tot_stop (ha : AllL h X) {r : Nat → Nat} {i : Nat} (hi : i < h.st) : lsum (fun w => avc h r w (1 + i, h.st)) X = (enL h X).getD i 0 := by
 unfold enL
 rw [accL_get hi]
 refine lsum_congr fun w hw => ?_
 unfold exE
 rw [if_neg (ha w hw)]
 by_cases h0 : w.length = 0
 ·rw [if_pos h0, rep0, avc_nil h0 (ha w hw), if_neg (by rw [pair_eq]; omega)]
 ·rw [if_neg h0, avc_stop hi h0, postF_get hi]
theorem tot_em (ha : AllL h X) {c x : Nat} (hc : repT h c = c) (hx : x < h.sym) : lsum (fun w => avc h (repT h) w (1 + h.st + c, x)) X = (poolN h X c h.st).getD x 0 := by
 unfold poolN
 rw [map_get9 _ _ hx]
 have e : ∀ w, w ∈ X → avc h (repT h) w (1 + h.st + c, x) = sumN (fun i => if repT h i = c then ((exO h w).getD i []).getD x 0 else 0) h.st := fun w hw => by
  by_cases h0 : w.length = 0
  ·rw [avc_nil h0 (ha w hw), if_neg (by rw [pair_eq]; omega)]
   refine (sumN_zero fun i hi => ?_).symm
   rw [exO_row (ha w hw) hi, showRow_get hx, h0]
   split <;> rfl
  ·rw [avc_em h0]
   exact sumN_congr fun i hi => by rw [exO_row (ha w hw) hi, showRow_get hx]
 rw [lsum_congr e, ← sumN_lsum]
 refine sumN_congr fun i hi => ?_
 by_cases hr : repT h i = c
 ·rw [if_pos ((repT_iff hi hc).1 hr)]
  unfold shL
  rw [accL_get hx]
  exact lsum_congr fun w _ => if_pos hr
 ·rw [if_neg fun k => hr ((repT_iff hi hc).2 k)]
  exact lsum_zero9 fun w _ => if_neg hr
theorem tot_em0 (ha : AllL h X) {c x : Nat} (hc : repT h c ≠ c) : lsum (fun w => avc h (repT h) w (1 + h.st + c, x)) X = 0 := lsum_zero9 fun w hw => by
 by_cases h0 : w.length = 0
 ·rw [avc_nil h0 (ha w hw), if_neg (by rw [pair_eq]; omega)]
 ·rw [avc_em h0]
  exact sumN_zero fun i hi => if_neg fun e => hc (by
   have h2 := (repT_spec hi).2
   rw [e] at h2
   rw [repT_eq h2, e])
def mulW (h : HM) (N : Nat) (w : List Int) (i : Nat) : Nat := ((N : Rat) * (jointE h w ((pathsF h.st w.length).getD i []) / likF h w)).num.toNat
def labW (h : HM) (N : Nat) (w : List Int) : List Nat := labs (mulW h N w) (pathsF h.st w.length).length
def evX (h : HM) (N : Nat) (X : List (List Int)) : List Ev := X.flatMap fun w => (labW h N w).flatMap fun i => evs h.st (repT h) w ((pathsF h.st w.length).getD i [])
def Denom (h : HM) (N : Nat) (X : List (List Int)) : Prop := ∀ w, w ∈ X → ∀ i, i < (pathsF h.st w.length).length → (N : Rat) * (jointE h w ((pathsF h.st w.length).getD i []) / likF h w) = (mulW h N w i : Rat)
theorem jointE_nn (g : HM.GoodX b B h) (w p : List Int) : 0 ≤ jointE h w p := by
 have hw : ∀ t, 0 ≤ wgt h w p t := fun t => by
  induction t with
  | zero => exact ini_nn g _
  | succ t ih =>
   rw [wgt]
   refine Rat.mul_nonneg ?_ (emX_nn g _ _)
   split
   ·exact ih
   ·exact Rat.mul_nonneg ih (trX_nn g _ _)
 unfold jointE
 split
 ·exact g.pE.1
 ·exact Rat.mul_nonneg (hw _) (stopX_nn g _)
theorem denom_ex (g : HM.GoodX b B h) (X : List (List Int)) : ∃ N : Nat, 0 < N ∧ Denom h N X := by
 obtain ⟨N, h1, h2⟩ := common (X.flatMap fun w => (pathsF h.st w.length).map fun p => jointE h w p / likF h w) fun q hq => by
  obtain ⟨w, _, hq⟩ := List.mem_flatMap.1 hq
  obtain ⟨p, _, rfl⟩ := List.mem_map.1 hq
  exact div_nn (jointE_nn g w p) (lik_nn g w)
 refine ⟨N, h1, fun w hw i hi => ?_⟩
 obtain ⟨m, hm⟩ := h2 (jointE h w ((pathsF h.st w.length).getD i []) / likF h w) (List.mem_flatMap.2 ⟨w, hw, List.mem_map.2 ⟨_, getD_mem hi [], rfl⟩⟩)
 unfold mulW
 rw [hm, Rat.num_natCast]
 rfl
theorem cnt_evX {N : Nat} (hN : Denom h N X) (e : Ev) : cntE e (evX h N X) = (N : Rat) * lsum (fun w => avc h (repT h) w e) X := by
 unfold evX cntE
 rw [lsum_flatMap, ← lsum_mulL]
 refine lsum_congr fun w hw => ?_
 rw [lsum_flatMap]
 unfold labW
 rw [lsum_labs]
 unfold avc avg
 rw [← lsum_idx _ [], ← sumN_divR, ← sumN_mulL]
 refine sumN_congr fun i hi => ?_
 rw [← hN w hw i hi]
 show _ * lsum _ _ = _
 unfold cntE
 rw [Rat.div_def, Rat.div_def]
 grind
theorem evs_mem {w : List Int} (kw : WordOK h w) {p : List Int} (hp : p ∈ pathsF h.st w.length) {r : Nat → Nat} (hr : ∀ i, i < h.st → r i < h.st) {e : Ev} (he : e ∈ evs h.st r w p) : e.1 < 1 + 2 * h.st ∧ (e.1 ≤ h.st → e.2 < h.st + 1) ∧ (h.st < e.1 → e.2 < h.sym) := by
 have key : w.length ≠ 0 → ∀ t, t ≤ w.length → e ∈ evW h.st r w p t → e.1 < 1 + 2 * h.st ∧ (e.1 ≤ h.st → e.2 < h.st + 1) ∧ (h.st < e.1 → e.2 < h.sym) := fun h0 t => by
  induction t with
  | zero =>
   intro _ he
   have := (atP_lt (t := 0) hp (by omega)).1
   rw [evW, List.mem_singleton] at he
   subst he
   simp only []
   omega
  | succ t ih =>
   intro ht he
   have h1 := (atP_lt (t := t) hp (by omega)).1
   have h2 := hr _ h1
   have h3 := (kw.symX (t := t) (by omega)).1
   rw [evW] at he
   rcases List.mem_cons.1 he with he | he
   ·subst he; simp only []; omega
   ·by_cases h4 : t = 0
    ·rw [if_pos h4] at he; exact ih (by omega) he
    ·rw [if_neg h4] at he
     have h5 := (atP_lt (t := t - 1) hp (by omega)).1
     rcases List.mem_cons.1 he with he | he
     ·subst he; simp only []; omega
     ·exact ih (by omega) he
 unfold evs at he
 by_cases h0 : w.length = 0
 ·rw [if_pos h0, List.mem_singleton] at he
  subst he; simp only []; omega
 ·rw [if_neg h0] at he
  have h1 := (atP_lt (t := w.length - 1) hp (by omega)).1
  rcases List.mem_cons.1 he with he | he
  ·subst he; simp only []; omega
  ·exact key h0 _ (Nat.le_refl _) he
end
end Go.AL

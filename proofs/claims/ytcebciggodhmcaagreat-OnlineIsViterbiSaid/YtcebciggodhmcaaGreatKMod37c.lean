/-
  M, chapter 37: the end of a word; when states are committed.
-/
import Derived.Test.YtcebciggodhmcaaGreatKMod37b
set_option linter.unusedVariables false
set_option linter.unusedSimpArgs false
namespace Go.AL
open Go Go.BigFrame
def endQ (h : HM) (o : Dec) (i : Nat) : Rat := o.sc.getD i 0 * h.stop.getD i 0
def finF (h : HM) (o : Dec) : Nat → Rat × List Int
  | 0 => (if o.t = 0 then h.empty else 0, [])
  | i + 1 => if betterP (endQ h o i) (o.tl.getD i []) (finF h o i) then (endQ h o i, o.tl.getD i []) else finF h o i
structure FinSpec (h : HM) (o : Dec) (n : Nat) (m : Rat × List Int) : Prop where
  nonneg : 0 ≤ m.1
  le : ∀ i, i < n → endQ h o i ≤ m.1
  pos : 0 < m.1 → ∃ i, i < n ∧ m = (endQ h o i, o.tl.getD i [])
  least : 0 < m.1 → ∀ i, i < n → endQ h o i = m.1 → cmpL m.2 (o.tl.getD i []) ≤ 0
section
variable {h : HM} {B : Nat} {u : List Int} {o : Dec}
theorem fin_spec (ht : o.t ≠ 0) : ∀ n, FinSpec h o n (finF h o n)
  | 0 => by
    rw [finF, if_neg ht]
    exact ⟨Rat.le_refl, fun i hi => absurd hi (Nat.not_lt_zero i), fun e => absurd e (by show ¬ (0 : Rat) < 0; decide), fun e => absurd e (by show ¬ (0 : Rat) < 0; decide)⟩
  | n + 1 => by
    have ih := fin_spec ht n
    rw [finF]
    split
    · rename_i hb
      rcases hb with hb | ⟨hb1, hb2, hb3⟩
      · have hp : 0 < endQ h o n := Std.lt_of_le_of_lt ih.nonneg hb
        refine ⟨Rat.le_of_lt hp, fun i hi => ?_, fun _ => ⟨n, Nat.lt_succ_self n, rfl⟩, fun _ i hi he => ?_⟩
        · rcases Nat.lt_or_ge i n with h1 | h1
          · exact Rat.le_trans (ih.le i h1) (Rat.le_of_lt hb)
          · obtain rfl : i = n := by omega
            exact Rat.le_refl
        · rcases Nat.lt_or_ge i n with h1 | h1
          · exact absurd (Std.lt_of_le_of_lt (ih.le i h1) hb) (by simp only at he; rw [he]; exact Rat.lt_irrefl)
          · obtain rfl : i = n := by omega
            rw [cmpL_self]; decide
      · refine ⟨Rat.le_of_lt hb2, fun i hi => ?_, fun _ => ⟨n, Nat.lt_succ_self n, rfl⟩, fun _ i hi he => ?_⟩
        · rcases Nat.lt_or_ge i n with h1 | h1
          · rw [hb1]; exact ih.le i h1
          · obtain rfl : i = n := by omega
            exact Rat.le_refl
        · rcases Nat.lt_or_ge i n with h1 | h1
          · exact cmpL_trans (by simp only; omega) (ih.least (by rw [← hb1]; exact hb2) i h1 (by rw [← hb1]; exact he))
          · obtain rfl : i = n := by omega
            rw [cmpL_self]; decide
    · rename_i hb
      have hle : endQ h o n ≤ (finF h o n).1 := Rat.not_lt.1 fun e => hb (.inl e)
      refine ⟨ih.nonneg, fun i hi => ?_, fun hp => ?_, fun hp i hi he => ?_⟩
      · rcases Nat.lt_or_ge i n with h1 | h1
        · exact ih.le i h1
        · obtain rfl : i = n := by omega
          exact hle
      · obtain ⟨i, hi, e⟩ := ih.pos hp
        exact ⟨i, by omega, e⟩
      · rcases Nat.lt_or_ge i n with h1 | h1
        · exact ih.least hp i h1 he
        · obtain rfl : i = n := by omega
          have h2 : ¬ cmpL (o.tl.getD i []) (finF h o i).2 < 0 := fun e => hb (.inr ⟨he, by rw [he]; exact hp, e⟩)
          have := cmpL_neg (o.tl.getD i []) (finF h o i).2
          omega
theorem fin_sz (f : h.Form B) (k : InvD h u o) : ∀ n, sz (finF h o n).1 ≤ 1024 + 2048 * o.t + 1
  | 0 => by
    rw [finF]
    have := f.zE
    have := f.bB
    try simp only
    split
    · omega
    · rw [sz_zero]; omega
  | n + 1 => by
    rw [finF]
    split
    · have a := k.small.get (by omega) n
      have b : sz (h.stop.getD n 0) ≤ 1024 := stop_sz f n
      have c := sz_mul (o.sc.getD n 0) (h.stop.getD n 0)
      simp only [endQ]
      omega
    · exact fin_sz f k n
theorem fin_len {N : Nat} (ht : ∀ i, (o.tl.getD i []).length ≤ N) : ∀ n, (finF h o n).2.length ≤ N
  | 0 => by rw [finF]; exact Nat.zero_le _
  | n + 1 => by
    rw [finF]
    split
    · exact ht n
    · exact fin_len ht n
theorem upto_end {p : List Int} (hp : p ∈ pathsF h.st u.length) (hn : 0 < u.length) : upto h u p u.length = wgt h u p u.length * h.stop.getD (atP p (u.length - 1)) 0 := by
  unfold upto
  rw [follow_last (atP_lt hp (show u.length - 1 < u.length by omega)).1]
theorem fin_best (g : h.Good B) (k : InvD h u o) (he : o.t = u.length) (hn : 0 < u.length) : (finF h o o.sc.length).1 = bestG h u every ∧ (0 < bestG h u every → o.dn ++ (finF h o o.sc.length).2 = vpath h u) := by
  have h0 : o.t ≠ 0 := by omega
  have n0 := g.form.st0
  have hd := k.heads h0
  rw [he] at hd
  obtain ⟨l1, _⟩ := k.len h0
  have ps := fin_spec (h := h) h0 o.sc.length
  rw [l1] at ps ⊢
  obtain ⟨r, hr⟩ : ∃ r, u.length = r + 1 := ⟨u.length - 1, by omega⟩
  have le1 : ∀ i, i < h.st → endQ h o i ≤ bestG h u every := fun i hi => by
    by_cases e : 0 < o.sc.getD i 0
    · obtain ⟨a1, a2, a3, _⟩ := hd.live i hi e
      try simp only at a1 a2 a3
      have b := upto_le (u := u) g a1 (t := r) (by omega) (by omega)
      rw [← hr, upto_end a1 hn, a3, a2] at b
      exact b
    · have e2 : o.sc.getD i 0 = 0 := Rat.le_antisymm (Rat.not_lt.1 e) (hd.nonneg i hi)
      rw [endQ, e2, Rat.zero_mul]
      exact bestG_nonneg h u every
  have le2 : (finF h o h.st).1 ≤ bestG h u every := by
    rcases rat_pos ps.nonneg with e | e
    · obtain ⟨i, hi, em⟩ := ps.pos e
      rw [em]; exact le1 i hi
    · rw [← e]; exact bestG_nonneg h u every
  by_cases hb : 0 < bestG h u every
  · have hv := vpath_mem (h := h) (u := u) n0
    have hvl := (atP_lt hv (show u.length - 1 < u.length by omega)).1
    have up := vpath_upto (u := u) n0 hb (t := r) (by omega)
    rw [← hr, upto_end hv hn] at up
    have hm := hd.max _ hv
    try simp only at hm
    have ge1 : bestG h u every ≤ endQ h o (atP (vpath h u) (u.length - 1)) := by
      rw [← up]; exact Rat.mul_le_mul_of_nonneg_right hm (stop_nonneg g _)
    have e1 : (finF h o h.st).1 = bestG h u every := Rat.le_antisymm le2 (Rat.le_trans ge1 (ps.le _ hvl))
    refine ⟨e1, fun _ => ?_⟩
    have ev : endQ h o (atP (vpath h u) (u.length - 1)) = bestG h u every := Rat.le_antisymm (le1 _ hvl) ge1
    obtain ⟨i, hi, em⟩ := ps.pos (by rw [e1]; exact hb)
    have ei : endQ h o i = bestG h u every := by rw [← e1, em]
    obtain ⟨p1, p2⟩ := pos_of_mul (hd.nonneg i hi) (stop_nonneg g i) (by rw [show o.sc.getD i 0 * h.stop.getD i 0 = endQ h o i from rfl, ei]; exact hb)
    obtain ⟨q1, q2⟩ := pos_of_mul (hd.nonneg _ hvl) (stop_nonneg g (atP (vpath h u) (u.length - 1))) (by rw [show o.sc.getD (atP (vpath h u) (u.length - 1)) 0 * h.stop.getD (atP (vpath h u) (u.length - 1)) 0 = endQ h o (atP (vpath h u) (u.length - 1)) from rfl, ev]; exact hb)
    obtain ⟨a1, a2, a3, a4⟩ := hd.live i hi p1
    obtain ⟨_, _, _, d4⟩ := hd.live _ hvl q1
    try simp only at a1 a2 a3 a4 d4
    have c1 := vpath_least (u := u) g n0 hb a1 (Nat.le_refl _) hn (by rw [upto_end a1 hn, a3, a2]; exact ei)
    have wv : wgt h u (vpath h u) u.length = o.sc.getD (atP (vpath h u) (u.length - 1)) 0 := by
      refine Rat.le_antisymm hm ?_
      rw [← Rat.not_lt]
      intro hlt
      have := Rat.mul_lt_mul_of_pos_right hlt q2
      rw [up] at this
      exact absurd (show endQ h o (atP (vpath h u) (u.length - 1)) = _ from ev) (Rat.ne_of_gt this)
    have c2 := d4 _ hv rfl wv
    have c3 := ps.least (by rw [e1]; exact hb) _ hvl (by rw [e1]; exact ev)
    rw [em] at c3 ⊢
    try simp only at c3 ⊢
    have c4 : cmpL (o.dn ++ o.tl.getD i []) (vpath h u) ≤ 0 := cmpL_trans (by rw [cmpL_left]; exact c3) c2
    rw [List.take_of_length_le (by rw [(pathsF_mem hv).1]; exact Nat.le_refl _)] at c1
    exact cmpL_anti c4 c1
  · have e0 : bestG h u every = 0 := ((rat_pos (bestG_nonneg h u every)).resolve_left hb).symm
    refine ⟨?_, fun e => absurd e hb⟩
    rw [e0] at le2 ⊢
    exact Rat.le_antisymm le2 ps.nonneg
theorem stuck_best (g : h.Good B) (k : InvD h u o) (ht : o.t < u.length) (hs : ¬ someN h o (symX u o.t) h.st = true) : bestG h u every = 0 := by
  refine ((rat_pos (bestG_nonneg h u every)).resolve_left fun hb => ?_).symm
  have n0 := g.form.st0
  have hd := heads_step g k ht
  have hv := vpath_mem (h := h) (u := u) n0
  have up := vpath_upto (u := u) n0 hb ht
  have hvt := paths_take hv (show o.t + 1 ≤ u.length from ht)
  have hat : atP ((vpath h u).take (o.t + 1)) (o.t + 1 - 1) = atP (vpath h u) (o.t + 1 - 1) := atP_take (by omega)
  have hm := hd.max _ hvt
  rw [wgt_congr (u := u) (q := vpath h u) (fun s hs => ⟨rfl, atP_take hs⟩) (by omega), hat] at hm
  unfold upto at up
  obtain ⟨p1, _⟩ := pos_of_mul (wgt_nonneg g u (vpath h u) (o.t + 1)) (follow_nonneg (u := u) g (o.t + 1 - 1) (atP (vpath h u) (o.t + 1 - 1))) (by rw [up]; exact hb)
  exact hs (someN_iff.2 ⟨_, (atP_lt hv (show o.t + 1 - 1 < u.length by omega)).1, Std.lt_of_lt_of_le p1 hm⟩)
theorem dn_le (k : InvD h u o) : o.dn.length ≤ o.t := by
  by_cases h0 : o.t = 0
  · rw [(k.zero h0).2.2]; exact Nat.zero_le _
  · obtain ⟨j, hj, hp⟩ := k.some h0
    have h1 := (pathsF_mem ((k.heads h0).live j hj hp).1).1
    rw [List.length_append] at h1
    omega
def finE (h : HM) (o : Dec) : Int := if (finF h o o.sc.length).1 = 0 then 11 else 0
def finP (h : HM) (o : Dec) : List Int := if (finF h o o.sc.length).1 = 0 then [] else o.dn ++ (finF h o o.sc.length).2
theorem fin_vit (g : h.Good B) (k : InvD h u o) (he : o.t = u.length) : (finF h o o.sc.length).1 = bestR h u every ∧ finE h o = vitE h u every ∧ finP h o = vitP h u every := by
  have key : (finF h o o.sc.length).1 = bestR h u every ∧ ((finF h o o.sc.length).1 ≠ 0 → o.dn ++ (finF h o o.sc.length).2 = vitP h u every) := by
    by_cases hn : u.length = 0
    · obtain ⟨e1, e2, e3⟩ := k.zero (by omega)
      rw [e1, e3, List.length_nil, finF, if_pos (by omega), bestR, if_pos hn]
      exact ⟨rfl, fun _ => by rw [vitP, if_pos (.inl hn)]; rfl⟩
    · obtain ⟨a, b⟩ := fin_best g k he (by omega)
      rw [bestR, if_neg hn]
      refine ⟨a, fun e => ?_⟩
      rw [a] at e
      rw [vitP, if_neg fun x => x.elim hn e]
      exact b ((rat_pos (bestG_nonneg h u every)).resolve_right fun x => e x.symm)
  refine ⟨key.1, by rw [finE, vitE, key.1], ?_⟩
  rw [finP]
  split
  · rename_i e
    exact (vitP_nil fun e2 => vitE_zero.1 e2 (by rw [← key.1]; exact e)).symm
  · rename_i e
    exact key.2 e
theorem stuck_vit (g : h.Good B) (k : InvD h u o) (ht : o.t < u.length) (hs : ¬ someN h o (symX u o.t) h.st = true) : vitE h u every = 11 ∧ bestR h u every = 0 ∧ vitP h u every = [] := by
  have e : bestR h u every = 0 := by rw [bestR, if_neg (by omega)]; exact stuck_best g k ht hs
  exact ⟨by rw [vitE, if_pos e], e, vitP_nil fun e2 => vitE_zero.1 e2 e⟩
def runD (h : HM) (w : List Int) : Nat → Dec × List Int
  | 0 => (⟨0, [], [], []⟩, [])
  | t + 1 => (stepD h (runD h w t).1 (symX w t), (runD h w t).2 ++ List.replicate (cmtF h (runD h w t).1 (symX w t) h.st).length ((t + 1 : Nat) : Int))
def whenF (h : HM) (w : List Int) : List Int := if vitE h w every = 0 then (runD h w w.length).2 ++ List.replicate (w.length - (runD h w w.length).2.length) 0 else []
theorem run_t (h : HM) (w : List Int) : ∀ t, (runD h w t).1.t = t
  | 0 => rfl
  | t + 1 => by show (runD h w t).1.t + 1 = _; rw [run_t h w t]
theorem run_len (h : HM) (w : List Int) : ∀ t, (runD h w t).2.length = (runD h w t).1.dn.length
  | 0 => rfl
  | t + 1 => by
    show ((runD h w t).2 ++ _).length = ((runD h w t).1.dn ++ _).length
    rw [List.length_append, List.length_append, run_len h w t, List.length_replicate]
structure TimesOK (ts : List Int) (n : Nat) : Prop where
  ge : ∀ s, s < ts.length → (s : Int) + 1 ≤ ts.getD s 0
  le : ∀ s, s < ts.length → ts.getD s 0 ≤ n
  mono : ∀ s, s + 1 < ts.length → ts.getD s 0 ≤ ts.getD (s + 1) 0
theorem getD_rep {n : Nat} {x d : Int} {s : Nat} (h : s < n) : (List.replicate n x).getD s d = x := by
  rw [List.getD_eq_getElem?_getD, List.getElem?_replicate, if_pos h]; rfl
theorem getD_left {l m : List Int} {d : Int} {s : Nat} (h : s < l.length) : (l ++ m).getD s d = l.getD s d := by
  rw [List.getD_eq_getElem?_getD, List.getD_eq_getElem?_getD, List.getElem?_append_left h]
theorem getD_right {l m : List Int} {d : Int} {s : Nat} (h : l.length ≤ s) : (l ++ m).getD s d = m.getD (s - l.length) d := by
  rw [List.getD_eq_getElem?_getD, List.getD_eq_getElem?_getD, List.getElem?_append_right h]
theorem when_step {ts : List Int} {n c : Nat} (k : TimesOK ts n) (h : ts.length + c ≤ n + 1) : TimesOK (ts ++ List.replicate c ((n + 1 : Nat) : Int)) (n + 1) := by
  have hl : (ts ++ List.replicate c ((n + 1 : Nat) : Int)).length = ts.length + c := by rw [List.length_append, List.length_replicate]
  have r : ∀ s, ts.length ≤ s → s < ts.length + c → (ts ++ List.replicate c ((n + 1 : Nat) : Int)).getD s 0 = ((n + 1 : Nat) : Int) := fun s h1 h2 => by
    rw [getD_right h1, getD_rep (by omega)]
  refine ⟨fun s hs => ?_, fun s hs => ?_, fun s hs => ?_⟩
  · rcases Nat.lt_or_ge s ts.length with h1 | h1
    · rw [getD_left h1]; exact k.ge s h1
    · rw [r s h1 (by omega)]; omega
  · rcases Nat.lt_or_ge s ts.length with h1 | h1
    · rw [getD_left h1]; have := k.le s h1; omega
    · rw [r s h1 (by omega)]; omega
  · rcases Nat.lt_or_ge (s + 1) ts.length with h1 | h1
    · rw [getD_left h1, getD_left (by omega)]; exact k.mono s h1
    · rw [r (s + 1) h1 (by omega)]
      rcases Nat.lt_or_ge s ts.length with h2 | h2
      · rw [getD_left h2]; have := k.le s h2; omega
      · rw [r s h2 (by omega)]; omega
theorem run_inv (g : h.Good B) {t : Nat} (ht : t < u.length) (k : InvD h u (runD h u t).1) (hs : someN h (runD h u t).1 (symX u t) h.st = true) : InvD h u (runD h u (t + 1)).1 := by
  have e := run_t h u t
  have a := inv_step g k (by omega) (by rw [e]; exact someN_iff.1 hs)
  rw [e] at a
  exact a
theorem run_times (g : h.Good B) : ∀ t, t ≤ u.length → (∀ s, s ≤ t → InvD h u (runD h u s).1) → TimesOK (runD h u t).2 t
  | 0, _, _ => ⟨fun s hs => absurd hs (Nat.not_lt_zero s), fun s hs => absurd hs (Nat.not_lt_zero s), fun s hs => absurd hs (Nat.not_lt_zero _)⟩
  | t + 1, ht, k => by
    have ih := run_times g t (by omega) fun s hs => k s (by omega)
    have a := dn_le (k (t + 1) (Nat.le_refl _))
    rw [run_t, ← run_len] at a
    have e : (runD h u (t + 1)).2 = (runD h u t).2 ++ List.replicate (cmtF h (runD h u t).1 (symX u t) h.st).length ((t + 1 : Nat) : Int) := rfl
    rw [e] at a ⊢
    rw [List.length_append, List.length_replicate] at a
    exact when_step ih (by omega)
theorem run_all (g : h.Good B) (e : vitE h u every = 0) : ∀ t, t ≤ u.length → InvD h u (runD h u t).1
  | 0, _ => inv_open
  | t + 1, ht => by
    have k := run_all g e t (by omega)
    refine run_inv g (by omega) k (Decidable.byContradiction fun hs => ?_)
    have := (stuck_vit g k (by rw [run_t]; omega) (by rw [run_t]; exact hs)).1
    rw [e] at this
    exact absurd this (by decide)
theorem when_ok (g : h.Good B) (e : vitE h u every = 0) : ∃ m, m ≤ u.length ∧ (whenF h u).length = u.length ∧
    (∀ s, s < u.length → ((whenF h u).getD s 0 = 0 ↔ m ≤ s)) ∧ ∀ s, s < m → (s : Int) + 1 ≤ (whenF h u).getD s 0 ∧ (whenF h u).getD s 0 ≤ u.length ∧ (0 < s → (whenF h u).getD (s - 1) 0 ≤ (whenF h u).getD s 0) := by
  have all := run_all g e
  have tk := run_times g u.length (Nat.le_refl _) all
  have a := dn_le (all u.length (Nat.le_refl _))
  rw [run_t, ← run_len] at a
  rw [whenF, if_pos e]
  refine ⟨(runD h u u.length).2.length, a, by rw [List.length_append, List.length_replicate]; omega, fun s hs => ?_, fun s hs => ?_⟩
  · rcases Nat.lt_or_ge s (runD h u u.length).2.length with h1 | h1
    · rw [getD_left h1]
      have := tk.ge s h1
      constructor <;> intro <;> omega
    · rw [getD_right h1, getD_rep (by omega)]
      exact ⟨fun _ => h1, fun _ => rfl⟩
  · rw [getD_left hs]
    refine ⟨tk.ge s hs, tk.le s hs, fun h0 => ?_⟩
    rw [getD_left (by omega)]
    have := tk.mono (s - 1) (by omega)
    rwa [show s - 1 + 1 = s by omega] at this
end
end Go.AL

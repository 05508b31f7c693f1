/-
  M, part 49: the first of the best ways, kept in lists of one, is the path that goes back from what follows.
-/
import Derived.Test.YtjghehkgmanmbaaGreatKMod48
set_option linter.unusedVariables false
set_option linter.unusedSimpArgs false
namespace Go.AL
open Go Go.BigFrame
structure PutSpec (X : Nat → Rat) (Y : Nat → List Int) (n : Nat) (m : Rat × List Int) : Prop where
 nonneg : 0 ≤ m.1
 le : ∀ i, i < n → X i ≤ m.1
 pos : 0 < m.1 → ∃ i, i < n ∧ m = (X i, Y i)
 least : 0 < m.1 → ∀ i, i < n → X i = m.1 → cmpL m.2 (Y i) ≤ 0
theorem put_spec {X : Nat → Rat} {Y : Nat → List Int} {F : Nat → Rat × List Int} (h0 : F 0 = (0, [])) (hs : ∀ i, F (i + 1) = putW (X i) (Y i) (F i)) : ∀ n, PutSpec X Y n (F n)
 | 0 => by
  rw [h0]
  exact ⟨Rat.le_refl, fun i hi => absurd hi (Nat.not_lt_zero i), fun e => absurd e (by show ¬ (0 : Rat) < 0; decide), fun e => absurd e (by show ¬ (0 : Rat) < 0; decide)⟩
 | n + 1 => by
  have ih := put_spec h0 hs n
  rw [hs, putW]
  split
  ·rename_i hb
   rcases hb with hb | ⟨hb1, hb2, hb3⟩
   ·have hp : 0 < X n := Std.lt_of_le_of_lt ih.nonneg hb
    refine ⟨Rat.le_of_lt hp, fun i hi => ?_, fun _ => ⟨n, Nat.lt_succ_self n, rfl⟩, fun _ i hi he => ?_⟩
    ·rcases Nat.lt_or_ge i n with h1 | h1
     ·exact Rat.le_trans (ih.le i h1) (Rat.le_of_lt hb)
     ·obtain rfl : i = n := by omega
      exact Rat.le_refl
    ·rcases Nat.lt_or_ge i n with h1 | h1
     ·exact absurd (Std.lt_of_le_of_lt (ih.le i h1) hb) (by simp only at he; rw [he]; exact Rat.lt_irrefl)
     ·obtain rfl : i = n := by omega
      rw [cmpL_self]; decide
   ·refine ⟨Rat.le_of_lt hb2, fun i hi => ?_, fun _ => ⟨n, Nat.lt_succ_self n, rfl⟩, fun _ i hi he => ?_⟩
    ·rcases Nat.lt_or_ge i n with h1 | h1
     ·rw [hb1]; exact ih.le i h1
     ·obtain rfl : i = n := by omega
      exact Rat.le_refl
    ·rcases Nat.lt_or_ge i n with h1 | h1
     ·exact cmpL_trans (by simp only; omega) (ih.least (by rw [← hb1]; exact hb2) i h1 (by rw [← hb1]; exact he))
     ·obtain rfl : i = n := by omega
      rw [cmpL_self]; decide
  ·rename_i hb
   have hle : X n ≤ (F n).1 := Rat.not_lt.1 fun e => hb (.inl e)
   refine ⟨ih.nonneg, fun i hi => ?_, fun hp => ?_, fun hp i hi he => ?_⟩
   ·rcases Nat.lt_or_ge i n with h1 | h1
    ·exact ih.le i h1
    ·obtain rfl : i = n := by omega
     exact hle
   ·obtain ⟨i, hi, e⟩ := ih.pos hp
    exact ⟨i, by omega, e⟩
   ·rcases Nat.lt_or_ge i n with h1 | h1
    ·exact ih.least hp i h1 he
    ·obtain rfl : i = n := by omega
     have h2 : ¬ cmpL (Y i) (F i).2 < 0 := fun e => hb (.inr ⟨he, by rw [he]; exact hp, e⟩)
     have := cmpL_neg (Y i) (F i).2
     omega
section
variable {h : HM} {bb B : Nat} {u : List Int}
theorem way_heads (g : HM.GoodX bb B h) (u : List Int) : ∀ t, Heads h u (t + 1) (fun j => (wayF h u (t + 1) j).1) fun j => (wayF h u (t + 1) j).2
 | 0 => by
  have at0 : ∀ j : Nat, atP [(j : Int)] 0 = j := fun j => Int.toNat_natCast j
  have hw : ∀ j : Nat, wgt h u [(j : Int)] 1 = h.ini.getD j 0 * emQ h j (symX u 0) := fun j => by rw [wgt_one, at0]
  have hp1 : ∀ p, p ∈ pathsF h.st 1 → ∃ s : Nat, s < h.st ∧ p = [(s : Int)] := fun p hp => by
   obtain ⟨q, s, hq, hs, rfl⟩ := paths_cut hp
   rw [pathsF, List.mem_singleton] at hq
   subst hq
   exact ⟨s, hs, rfl⟩
  have hW : ∀ j, wayF h u 1 j = putW (h.ini.getD j 0 * emQ h j (symX u 0)) [(j : Int)] (0, []) := fun j => by rw [wayF, if_pos rfl]
  refine ⟨fun j _ => wayF_nonneg g u 1 j, fun p hp => ?_, fun j hj hpos => ?_⟩
  ·obtain ⟨s, hs, rfl⟩ := hp1 p hp
   rw [hw, show 0 + 1 - 1 = 0 from rfl, at0, show 0 + 1 = 1 from rfl, hW, putW_fst]
   split
   ·exact Rat.le_refl
   ·rename_i e; exact Rat.not_lt.1 e
  ·simp only [Nat.zero_add] at hpos ⊢
   rw [hW, putW_fst] at hpos
   have hq : 0 < h.ini.getD j 0 * emQ h j (symX u 0) := Decidable.byContradiction fun e => by rw [if_neg e] at hpos; exact absurd hpos (by decide)
   rw [hW, putW_first hq, show 1 - 1 = 0 from rfl]
   refine ⟨by have := paths_snoc (n := h.st) (k := 0) (p := []) (by rw [pathsF]; exact List.mem_singleton.2 rfl) hj; exact this, at0 j, hw j, fun p hp ha _ => ?_⟩
   obtain ⟨s, hs, rfl⟩ := hp1 p hp
   rw [at0] at ha
   subst ha
   rw [cmpL_self]; decide
 | t + 1 => by
  have hd := way_heads g u t
  have h0 : t + 1 ≠ 0 := by omega
  have n0 := g.form.st0
  have hW : ∀ j, wayF h u (t + 1 + 1) j = wayN h (wayF h u (t + 1)) (symX u (t + 1)) j h.st := fun j => by rw [wayF, if_neg h0]
  have x0 : ∀ i j, 0 ≤ (wayF h u (t + 1) i).1 * trQ h i j * emQ h j (symX u (t + 1)) := fun i j => Rat.mul_nonneg (Rat.mul_nonneg (wayF_nonneg g u _ i) (tr_nonneg g i j)) (em_nonneg g j _)
  have ps := fun j => put_spec (F := wayN h (wayF h u (t + 1)) (symX u (t + 1)) j) rfl (fun i => rfl) h.st
  have hwQ : ∀ (q : List Int) (s : Nat), q ∈ pathsF h.st (t + 1) → wgt h u (q ++ [(s : Int)]) (t + 1 + 1) = wgt h u q (t + 1) * trQ h (atP q t) s * emQ h s (symX u (t + 1)) := fun q s hq => by
   have hql := (pathsF_mem hq).1
   rw [wgt_step h0, snoc_parts hq, show t + 1 - 1 = t from rfl, atP_snoc (show t < q.length by omega)]
   have e : wgt h u (q ++ [(s : Int)]) (t + 1) = wgt h u q (t + 1) := wgt_snoc (by omega)
   rw [e]
  refine ⟨fun j _ => wayF_nonneg g u _ j, fun p hp => ?_, fun j hj hpos => ?_⟩
  ·obtain ⟨q, s, hq, hs, rfl⟩ := paths_cut hp
   rw [hwQ q s hq, show t + 1 + 1 - 1 = t + 1 from rfl, snoc_parts hq, hW]
   have hm := hd.max q hq
   rw [show t + 1 - 1 = t from rfl] at hm
   exact Rat.le_trans (Rat.mul_le_mul_of_nonneg_right (Rat.mul_le_mul_of_nonneg_right hm (tr_nonneg g _ _)) (em_nonneg g s _)) ((ps s).le _ (atP_lt hq (show t < t + 1 by omega)).1)
  ·try simp only at hpos ⊢
   rw [hW] at hpos ⊢
   obtain ⟨i, hi, em⟩ := (ps j).pos hpos
   rw [em] at hpos
   obtain ⟨hp1, hp2⟩ := pos_of_mul (Rat.mul_nonneg (wayF_nonneg g u _ i) (tr_nonneg g i j)) (em_nonneg g j _) hpos
   obtain ⟨hq1, hq2⟩ := pos_of_mul (wayF_nonneg g u _ i) (tr_nonneg g i j) hp1
   obtain ⟨a1, a2, a3, a4⟩ := hd.live i hi hq1
   simp only [show t + 1 - 1 = t from rfl] at a1 a2 a3 a4
   rw [em]
   try simp only
   refine ⟨paths_snoc a1 hj, by rw [show t + 1 + 1 - 1 = t + 1 from rfl]; exact snoc_parts a1, by rw [hwQ _ j a1, a2, a3], fun p hp ha he => ?_⟩
   obtain ⟨q, s, hq, hs, rfl⟩ := paths_cut hp
   rw [show t + 1 + 1 - 1 = t + 1 from rfl, snoc_parts hq] at ha
   subst ha
   have hql := (pathsF_mem hq).1
   have hQl := (pathsF_mem a1).1
   rw [cmpL_snoc_same (by omega)]
   rw [hwQ q s hq] at he
   have hlast := (atP_lt hq (show t < t + 1 by omega)).1
   have b1 := hd.max q hq
   rw [show t + 1 - 1 = t from rfl] at b1
   have b2 := (ps s).le (atP q t) hlast
   rw [em] at b2
   simp only at b1 b2
   have b3 : wgt h u q (t + 1) * trQ h (atP q t) s ≤ (wayF h u (t + 1) (atP q t)).1 * trQ h (atP q t) s := Rat.mul_le_mul_of_nonneg_right b1 (tr_nonneg g _ _)
   have c2 : (wayF h u (t + 1) (atP q t)).1 * trQ h (atP q t) s * emQ h s (symX u (t + 1)) = (wayF h u (t + 1) i).1 * trQ h i s * emQ h s (symX u (t + 1)) := by
    refine Rat.le_antisymm b2 ?_
    rw [← he]
    exact Rat.mul_le_mul_of_nonneg_right b3 (em_nonneg g s _)
   obtain ⟨d0, d1⟩ := pos_of_mul (Rat.mul_nonneg (wayF_nonneg g u _ (atP q t)) (tr_nonneg g (atP q t) s)) (em_nonneg g s _) (by rw [c2]; exact hpos)
   obtain ⟨d2, d3⟩ := pos_of_mul (wayF_nonneg g u _ (atP q t)) (tr_nonneg g (atP q t) s) d0
   have c3 : wgt h u q (t + 1) = (wayF h u (t + 1) (atP q t)).1 := by
    refine Rat.le_antisymm b1 ?_
    rw [← Rat.not_lt]
    intro hlt
    have := Rat.mul_lt_mul_of_pos_right (Rat.mul_lt_mul_of_pos_right hlt d3) hp2
    rw [he, c2] at this
    exact absurd this Rat.lt_irrefl
   have e1 := (hd.live _ hlast d2).2.2.2 q hq rfl c3
   try simp only at e1
   have e2 := (ps s).least (by rw [em]; exact hpos) (atP q t) hlast (by rw [em]; exact c2)
   rw [em] at e2
   try simp only at e2
   rw [cmpL_snoc_same (by rw [(pathsF_mem (hd.live _ hlast d2).1).1]; omega)] at e2
   exact cmpL_trans e2 e1
theorem end_best (g : HM.GoodX bb B h) (hn : 0 < u.length) : (endW h (wayF h u u.length) h.st).1 = bestG h u every ∧ (0 < bestG h u every → (endW h (wayF h u u.length) h.st).2 = vpath h u) := by
 have n0 := g.form.st0
 obtain ⟨r, hr⟩ : ∃ r, u.length = r + 1 := ⟨u.length - 1, by omega⟩
 have hd := way_heads g u r
 rw [← hr] at hd
 have ps := put_spec (F := endW h (wayF h u u.length)) rfl (fun i => rfl) h.st
 have le1 : ∀ i, i < h.st → (wayF h u u.length i).1 * h.stop.getD i 0 ≤ bestG h u every := fun i hi => by
  by_cases e : 0 < (wayF h u u.length i).1
  ·obtain ⟨a1, a2, a3, _⟩ := hd.live i hi e
   try simp only at a1 a2 a3
   have b := upto_le (u := u) g a1 (t := r) (by omega) (by omega)
   rw [← hr, upto_end a1 hn, a3, a2] at b
   exact b
  ·have e2 : (wayF h u u.length i).1 = 0 := Rat.le_antisymm (Rat.not_lt.1 e) (hd.nonneg i hi)
   rw [e2, Rat.zero_mul]
   exact bestG_nonneg h u every
 have le2 : (endW h (wayF h u u.length) h.st).1 ≤ bestG h u every := by
  rcases rat_pos ps.nonneg with e | e
  ·obtain ⟨i, hi, em⟩ := ps.pos e
   rw [em]; exact le1 i hi
  ·rw [← e]; exact bestG_nonneg h u every
 by_cases hb : 0 < bestG h u every
 ·have hv := vpath_mem (h := h) (u := u) n0
  have hvl := (atP_lt hv (show u.length - 1 < u.length by omega)).1
  have up := vpath_upto (u := u) n0 hb (t := r) (by omega)
  rw [← hr, upto_end hv hn] at up
  have hm := hd.max _ hv
  try simp only at hm
  have ge1 : bestG h u every ≤ (wayF h u u.length (atP (vpath h u) (u.length - 1))).1 * h.stop.getD (atP (vpath h u) (u.length - 1)) 0 := by
   rw [← up]; exact Rat.mul_le_mul_of_nonneg_right hm (stop_nonneg g _)
  have e1 : (endW h (wayF h u u.length) h.st).1 = bestG h u every := Rat.le_antisymm le2 (Rat.le_trans ge1 (ps.le _ hvl))
  refine ⟨e1, fun _ => ?_⟩
  have ev : (wayF h u u.length (atP (vpath h u) (u.length - 1))).1 * h.stop.getD (atP (vpath h u) (u.length - 1)) 0 = bestG h u every := Rat.le_antisymm (le1 _ hvl) ge1
  obtain ⟨i, hi, em⟩ := ps.pos (by rw [e1]; exact hb)
  have ei : (wayF h u u.length i).1 * h.stop.getD i 0 = bestG h u every := by rw [← e1, em]
  obtain ⟨p1, p2⟩ := pos_of_mul (hd.nonneg i hi) (stop_nonneg g i) (by rw [ei]; exact hb)
  obtain ⟨q1, q2⟩ := pos_of_mul (hd.nonneg _ hvl) (stop_nonneg g (atP (vpath h u) (u.length - 1))) (by rw [ev]; exact hb)
  obtain ⟨a1, a2, a3, a4⟩ := hd.live i hi p1
  obtain ⟨_, _, _, d4⟩ := hd.live _ hvl q1
  try simp only at a1 a2 a3 a4 d4
  have c1 := vpath_least (u := u) g n0 hb a1 (Nat.le_refl _) hn (by rw [upto_end a1 hn, a3, a2]; exact ei)
  have wv : wgt h u (vpath h u) u.length = (wayF h u u.length (atP (vpath h u) (u.length - 1))).1 := by
   refine Rat.le_antisymm hm ?_
   rw [← Rat.not_lt]
   intro hlt
   have := Rat.mul_lt_mul_of_pos_right hlt q2
   rw [up] at this
   exact absurd ev (Rat.ne_of_gt this)
  have c2 := d4 _ hv rfl wv
  have c3 := ps.least (by rw [e1]; exact hb) _ hvl (by rw [e1]; exact ev)
  rw [em] at c3 ⊢
  try simp only at c3 ⊢
  have c4 : cmpL (wayF h u u.length i).2 (vpath h u) ≤ 0 := cmpL_trans c3 c2
  rw [List.take_of_length_le (by rw [(pathsF_mem hv).1]; exact Nat.le_refl _)] at c1
  exact cmpL_anti c4 c1
 ·have e0 : bestG h u every = 0 := ((rat_pos (bestG_nonneg h u every)).resolve_left hb).symm
  refine ⟨?_, fun e => absurd e hb⟩
  rw [e0] at le2 ⊢
  exact Rat.le_antisymm le2 ps.nonneg
theorem end_ck (g : HM.GoodX bb B h) (hn : 0 < u.length) : (endW h (wayF h u u.length) h.st).1 = bestP h u ∧ (if 0 < (endW h (wayF h u u.length) h.st).1 then (endW h (wayF h u u.length) h.st).2 else []) = ckP h u ∧ (if 0 < (endW h (wayF h u u.length) h.st).1 then (0 : Int) else 11) = ckE h u := by
 obtain ⟨e1, e2⟩ := end_best g (u := u) hn
 have eb := bestG_every g.form u
 have e0 := bestG_nonneg h u every
 rw [e1]
 rw [vpath, pathG_every g.form] at e2
 rw [eb] at e0 e2 ⊢
 unfold ckP ckE
 rcases rat_pos e0 with e | e
 ·have ne : bestP h u ≠ 0 := fun k => by rw [k] at e; exact absurd e (by decide)
  rw [if_pos e, if_pos e, if_neg ne, if_neg ne]
  exact ⟨rfl, e2 e, rfl⟩
 ·rw [← e]
  exact ⟨rfl, by rw [if_neg (by decide), if_pos rfl], by rw [if_neg (by decide), if_pos rfl]⟩
end
end Go.AL

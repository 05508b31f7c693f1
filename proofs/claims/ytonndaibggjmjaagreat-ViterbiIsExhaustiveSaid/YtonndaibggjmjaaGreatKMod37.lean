/-
  M, chapter 37: the order of paths; the best path of chapter 35 is the greatest and the least.
-/
import Derived.Test.YtonndaibggjmjaaGreatKMod34d
import Derived.Test.YtonndaibggjmjaaGreatKMod35b
set_option linter.unusedVariables false
set_option linter.unusedSimpArgs false
namespace Go.AL
open Go Go.BigFrame
def cmpL : List Int → List Int → Int
 | [], [] => 0
 | [], _ :: _ => -1
 | _ :: _, [] => 1
 | a :: x, b :: y => if a < b then -1 else if b < a then 1 else cmpL x y
theorem cmpL_neg : ∀ x y : List Int, cmpL y x = -cmpL x y
 | [], [] => rfl
 | [], _ :: _ => rfl
 | _ :: _, [] => rfl
 | a :: x, b :: y => by
  rw [cmpL, cmpL, cmpL_neg x y]
  by_cases h1 : a < b
  ·rw [if_neg (by omega), if_pos h1, if_pos h1]; rfl
  ·rw [if_neg h1]
   by_cases h2 : b < a
   ·rw [if_pos h2, if_neg h1, if_pos h2]
   ·rw [if_neg h2, if_neg h2, if_neg h1]
theorem cmpL_zero : ∀ {x y : List Int}, cmpL x y = 0 → x = y
 | [], [], _ => rfl
 | [], _ :: _, h => by rw [cmpL] at h; exact absurd h (by decide)
 | _ :: _, [], h => by rw [cmpL] at h; exact absurd h (by decide)
 | a :: x, b :: y, h => by
  rw [cmpL] at h
  by_cases h1 : a < b
  ·rw [if_pos h1] at h; exact absurd h (by decide)
  ·rw [if_neg h1] at h
   by_cases h2 : b < a
   ·rw [if_pos h2] at h; exact absurd h (by decide)
   ·rw [if_neg h2] at h
    rw [cmpL_zero h, show a = b by omega]
theorem cmpL_trans : ∀ {x y z : List Int}, cmpL x y ≤ 0 → cmpL y z ≤ 0 → cmpL x z ≤ 0
 | [], _, [], _, _ => by rw [cmpL]; decide
 | [], _, _ :: _, _, _ => by rw [cmpL]; decide
 | _ :: _, [], _, h, _ => by rw [cmpL] at h; exact absurd h (by decide)
 | _ :: _, _ :: _, [], _, h => by rw [cmpL] at h; exact absurd h (by decide)
 | a :: x, b :: y, c :: z, h1, h2 => by
  rw [cmpL] at h1 h2 ⊢
  by_cases hab : a < b
  ·by_cases hcb : c < b
   ·rw [if_neg (by omega), if_pos hcb] at h2; exact absurd h2 (by decide)
   ·rw [if_pos (by omega)]; decide
  ·rw [if_neg hab] at h1
   by_cases hba : b < a
   ·rw [if_pos hba] at h1; exact absurd h1 (by decide)
   ·rw [if_neg hba] at h1
    by_cases hbc : b < c
    ·rw [if_pos (by omega)]; decide
    ·rw [if_neg hbc] at h2
     by_cases hcb : c < b
     ·rw [if_pos hcb] at h2; exact absurd h2 (by decide)
     ·rw [if_neg hcb] at h2
      rw [if_neg (by omega), if_neg (by omega)]
      exact cmpL_trans h1 h2
theorem cmpL_snoc {a b : Int} : ∀ {x y : List Int}, x.length = y.length → cmpL (x ++ [a]) (y ++ [b]) = if cmpL x y = 0 then (if a < b then -1 else if b < a then 1 else 0) else cmpL x y
 | [], [], _ => by rw [List.nil_append, List.nil_append, cmpL, cmpL, if_pos rfl, cmpL]
 | [], _ :: _, h => by simp at h
 | _ :: _, [], h => by simp at h
 | c :: x, d :: y, h => by
  rw [List.cons_append, List.cons_append, cmpL, cmpL, cmpL_snoc (by simpa using h)]
  by_cases h1 : c < d
  ·rw [if_pos h1, if_pos h1, if_neg (by decide)]
  ·rw [if_neg h1, if_neg h1]
   by_cases h2 : d < c
   ·rw [if_pos h2, if_pos h2, if_neg (by decide)]
   ·rw [if_neg h2, if_neg h2]
theorem paths_snoc {n k s : Nat} {p : List Int} (hp : p ∈ pathsF n k) (hs : s < n) : p ++ [(s : Int)] ∈ pathsF n (k + 1) := List.mem_flatMap.2 ⟨p, hp, List.mem_map.2 ⟨s, List.mem_range.2 hs, rfl⟩⟩
theorem atP_take {p : List Int} {s t : Nat} (h : s < t) : atP (p.take t) s = atP p s := by
 unfold atP
 rw [List.getD_eq_getElem?_getD, List.getD_eq_getElem?_getD, List.getElem?_take_of_lt h]
theorem wgt_step' {h : HM} {w p : List Int} {t : Nat} (ht : t ≠ 0) : wgt h w p (t + 1) = wgt h w p t * trQ h (atP p (t - 1)) (atP p t) * emQ h (atP p t) (symX w t) := by rw [wgt, if_neg ht]
theorem wgt_one' {h : HM} {w p : List Int} : wgt h w p 1 = h.ini.getD (atP p 0) 0 * emQ h (atP p 0) (symX w 0) := by rw [wgt, if_pos rfl, wgt]
theorem wgt_congr {h : HM} {w u p q : List Int} : ∀ {t : Nat}, (∀ s, s < t → symX w s = symX u s ∧ atP p s = atP q s) → 1 ≤ t → wgt h w p t = wgt h u q t
 | 0, _, h1 => absurd h1 (by decide)
 | 1, hs, _ => by
  have h0 := hs 0 (by decide)
  rw [wgt_one', wgt_one', h0.1, h0.2]
 | t + 2, hs, _ => by
  have h0 := hs (t + 1) (by omega)
  have h1 := hs t (by omega)
  rw [wgt_step' (t := t + 1) (by omega), wgt_step' (t := t + 1) (by omega), wgt_congr (t := t + 1) (fun s hs' => hs s (by omega)) (by omega), h0.1, h0.2, show t + 1 - 1 = t from rfl, h1.2]
theorem tr_nonneg {h : HM} {bb B : Nat} (g : HM.GoodX bb B h) (i j : Nat) : 0 ≤ trQ h i j := ((g.pT i).get j).1
theorem em_nonneg {h : HM} {bb B : Nat} (g : HM.GoodX bb B h) (i x : Nat) : 0 ≤ emQ h i x := ((g.pM i).get x).1
theorem ini_nonneg {h : HM} {bb B : Nat} (g : HM.GoodX bb B h) (i : Nat) : 0 ≤ h.ini.getD i 0 := (g.pI.get i).1
theorem wgt_nonneg {h : HM} {bb B : Nat} (g : HM.GoodX bb B h) (w p : List Int) : ∀ t, 0 ≤ wgt h w p t
 | 0 => ini_nonneg g _
 | t + 1 => by
  rw [wgt]
  split
  ·exact Rat.mul_nonneg (wgt_nonneg g w p t) (em_nonneg g _ _)
  ·exact Rat.mul_nonneg (Rat.mul_nonneg (wgt_nonneg g w p t) (tr_nonneg g _ _)) (em_nonneg g _ _)
theorem wgt_step {h : HM} {w p : List Int} {t : Nat} (ht : t ≠ 0) : wgt h w p (t + 1) = wgt h w p t * trQ h (atP p (t - 1)) (atP p t) * emQ h (atP p t) (symX w t) := by rw [wgt, if_neg ht]
theorem wgt_one {h : HM} {w p : List Int} : wgt h w p 1 = h.ini.getD (atP p 0) 0 * emQ h (atP p 0) (symX w 0) := by rw [wgt, if_pos rfl, wgt]
section
variable {h : HM} {bb B : Nat} {u : List Int}
def follow (h : HM) (u : List Int) (s i : Nat) : Rat := (restG h u every (u.length - 1 - s)).getD i 0
def upto (h : HM) (u p : List Int) (t : Nat) : Rat := wgt h u p t * follow h u (t - 1) (atP p (t - 1))
theorem follow_nonneg (g : HM.GoodX bb B h) (s i : Nat) : 0 ≤ follow h u s i := restG_nonneg g u every _ i
theorem follow_last {i : Nat} (hi : i < h.st) : follow h u (u.length - 1) i = h.stop.getD i 0 := by
 unfold follow
 rw [Nat.sub_self, restG, rowG_get hi]; rfl
theorem follow_step {s i : Nat} (hs : s + 1 < u.length) (hi : i < h.st) : follow h u s i = (ahdG h u every (i : Nat) (s + 1)).1 := by
 unfold follow ahdG
 obtain ⟨d, hd⟩ : ∃ d, u.length - 1 - s = d + 1 := ⟨u.length - 1 - s - 1, by omega⟩
 rw [hd, restG, rowG_get hi, show u.length - 1 - (s + 1) = d by omega, show u.length - 1 - d = s + 1 by omega]
 rfl
theorem via_zero {s i : Nat} : viaQ h (-1) (symX u s) (restG h u every (u.length - 1 - s)) i = h.ini.getD i 0 * emQ h i (symX u s) * follow h u s i := by
 unfold viaQ stepQ
 rw [if_neg (by decide)]; rfl
theorem via_some {s i j : Nat} : viaQ h (j : Nat) (symX u s) (restG h u every (u.length - 1 - s)) i = trQ h j i * emQ h i (symX u s) * follow h u s i := by
 unfold viaQ stepQ
 rw [if_pos (by omega), Int.toNat_natCast]; rfl
theorem upto_one (p : List Int) (hn : 0 < u.length) (hp : atP p 0 < h.st) : upto h u p 1 ≤ bestG h u every := by
 have a := (ahead_spec h (-1) (symX u 0) (restG h u every (u.length - 1 - 0)) h.st).le (atP p 0) hp
 rw [via_zero] at a
 unfold upto
 rw [wgt_one]; exact a
theorem upto_step (g : HM.GoodX bb B h) {p : List Int} {t : Nat} (ht : t + 1 < u.length) (h1 : atP p t < h.st) (h2 : atP p (t + 1) < h.st) : upto h u p (t + 1 + 1) ≤ upto h u p (t + 1) := by
 unfold upto
 rw [wgt_step (by omega), show t + 1 + 1 - 1 = t + 1 from rfl, show t + 1 - 1 = t from rfl, follow_step ht h1, Rat.mul_assoc, Rat.mul_assoc, ← Rat.mul_assoc (trQ ..)]
 refine Rat.mul_le_mul_of_nonneg_left ?_ (wgt_nonneg g u p _)
 have a := (ahead_spec h ((atP p t : Nat) : Int) (symX u (t + 1)) (restG h u every (u.length - 1 - (t + 1))) h.st).le (atP p (t + 1)) h2
 rw [via_some] at a
 exact a
theorem upto_le (g : HM.GoodX bb B h) {p : List Int} {k : Nat} (hp : p ∈ pathsF h.st k) : ∀ {t : Nat}, t < k → t < u.length → upto h u p (t + 1) ≤ bestG h u every
 | 0, h1, h2 => upto_one p h2 (atP_lt hp h1).1
 | t + 1, h1, h2 => Rat.le_trans (upto_step g h2 (atP_lt hp (by omega)).1 (atP_lt hp h1).1) (upto_le g hp (by omega) (by omega))
theorem upto_mono (g : HM.GoodX bb B h) {p : List Int} {k : Nat} (hp : p ∈ pathsF h.st k) : ∀ {d t : Nat}, t + d < k → t + d < u.length → upto h u p (t + d + 1) ≤ upto h u p (t + 1)
 | 0, t, _, _ => Rat.le_refl
 | d + 1, t, h1, h2 => Rat.le_trans (upto_step (t := t + d) g (by omega) (atP_lt hp (by omega)).1 (atP_lt hp (by omega)).1) (upto_mono g hp (by omega) (by omega))
def vpath (h : HM) (u : List Int) : List Int := pathG h u every u.length
theorem vpath_mem (h0 : 1 ≤ h.st) : vpath h u ∈ pathsF h.st u.length := by
 have key : ∀ t, t ≤ u.length → pathG h u every t ∈ pathsF h.st t := fun t => by
  induction t with
  | zero => intro _; rw [pathsF]; exact List.mem_singleton.2 rfl
  | succ t ih =>
   intro ht
   rw [pathG_succ]
   have h1 := toG_range h0 u every (t + 1)
   have h2 := toG_nonneg h u every t
   have h3 := paths_snoc (s := (toG h u every (t + 1)).toNat) (ih (by omega)) (by omega)
   rw [Int.toNat_of_nonneg h2] at h3
   exact h3
 exact key _ (Nat.le_refl _)
theorem vpath_at {s : Nat} (hs : s < u.length) : ((atP (vpath h u) s : Nat) : Int) = toG h u every (s + 1) := by
 have := toG_nonneg h u every s
 unfold atP vpath
 rw [pathG_get hs]; omega
theorem vpath_at0 (hn : 0 < u.length) : atP (vpath h u) 0 = (ahdG h u every (-1) 0).2 := by
 have := vpath_at (h := h) hn
 rw [toG] at this
 exact Int.ofNat.inj this
theorem vpath_next {s : Nat} (hs : s + 1 < u.length) : atP (vpath h u) (s + 1) = (ahdG h u every ((atP (vpath h u) s : Nat) : Int) (s + 1)).2 := by
 have := vpath_at (h := h) hs
 rw [toG, ← vpath_at (h := h) (show s < u.length by omega)] at this
 exact Int.ofNat.inj this
theorem vpath_upto (h0 : 1 ≤ h.st) (hb : 0 < bestG h u every) : ∀ {t : Nat}, t < u.length → upto h u (vpath h u) (t + 1) = bestG h u every
 | 0, ht => by
  have a := (ahead_spec h (-1) (symX u 0) (restG h u every (u.length - 1 - 0)) h.st).eq hb
  unfold upto
  rw [wgt_one, show 0 + 1 - 1 = 0 from rfl, vpath_at0 ht, ← via_zero]
  exact a
 | t + 1, ht => by
  have ih := vpath_upto h0 hb (t := t) (by omega)
  have hv := (atP_lt (vpath_mem (u := u) h0) (show t < u.length by omega)).1
  have hpos : 0 < (ahdG h u every ((atP (vpath h u) t : Nat) : Int) (t + 1)).1 := by
   rw [← follow_step ht hv]
   refine Rat.lt_of_le_of_ne (ahead_spec .. |>.nonneg |> fun k => by rw [follow_step ht hv]; exact k) fun e => ?_
   unfold upto at ih
   rw [show t + 1 - 1 = t from rfl, ← e, Rat.mul_zero] at ih
   rw [← ih] at hb
   exact absurd hb (by decide)
  have a := (ahead_spec h ((atP (vpath h u) t : Nat) : Int) (symX u (t + 1)) (restG h u every (u.length - 1 - (t + 1))) h.st).eq hpos
  rw [← ih]
  unfold upto
  rw [wgt_step (by omega), show t + 1 + 1 - 1 = t + 1 from rfl, show t + 1 - 1 = t from rfl, follow_step ht hv, Rat.mul_assoc, Rat.mul_assoc, ← Rat.mul_assoc (trQ ..)]
  congr 1
  have e : (ahdG h u every ((atP (vpath h u) t : Nat) : Int) (t + 1)).1 = (aheadF h ((atP (vpath h u) t : Nat) : Int) (symX u (t + 1)) (restG h u every (u.length - 1 - (t + 1))) h.st).1 := rfl
  rw [e, ← a, via_some, vpath_next ht]
  rfl
theorem vpath_least (g : HM.GoodX bb B h) (h0 : 1 ≤ h.st) (hb : 0 < bestG h u every) {p : List Int} {k : Nat} (hp : p ∈ pathsF h.st k) (hk : k ≤ u.length) (h1 : 1 ≤ k) (he : upto h u p k = bestG h u every) : cmpL ((vpath h u).take k) p ≤ 0 := by
 have hv := vpath_mem (u := u) h0
 have hvl := (pathsF_mem hv).1
 have hpl := (pathsF_mem hp).1
 have all : ∀ t, t < k → upto h u p (t + 1) = bestG h u every := fun t ht => by
  have a := upto_le (u := u) g hp ht (by omega)
  have b := upto_mono (u := u) g hp (d := k - 1 - t) (t := t) (by omega) (by omega)
  rw [show t + (k - 1 - t) + 1 = k by omega, he] at b
  exact Rat.le_antisymm a b
 have key : ∀ t, t ≤ k → cmpL ((vpath h u).take t) (p.take t) ≤ 0 := fun t => by
  induction t with
  | zero => intro _; rw [List.take_zero, List.take_zero]; decide
  | succ t ih =>
   intro ht
   have ih := ih (by omega)
   rw [List.take_succ_eq_append_getElem (show t < (vpath h u).length by omega), List.take_succ_eq_append_getElem (show t < p.length by omega), cmpL_snoc (by rw [List.length_take, List.length_take]; omega)]
   by_cases e : cmpL ((vpath h u).take t) (p.take t) = 0
   ·rw [if_pos e]
    have e := cmpL_zero e
    have same : ∀ s, s < t → atP (vpath h u) s = atP p s := fun s hs => by rw [← atP_take hs, e, atP_take hs]
    have c1 := (atP_lt hp (show t < k by omega))
    have c2 := (atP_lt hv (show t < u.length by omega))
    have le : atP (vpath h u) t ≤ atP p t := by
     rcases Nat.lt_or_ge (atP p t) (atP (vpath h u) t) with hlt | hge
     ·exfalso
      have hu1 := all t (by omega)
      cases t with
      | zero =>
       rw [vpath_at0 (by omega)] at hlt
       have a := (ahead_spec h (-1) (symX u 0) (restG h u every (u.length - 1 - 0)) h.st).least hb _ hlt
       rw [via_zero] at a
       unfold upto at hu1
       rw [wgt_one] at hu1
       have a2 : upto h u p 1 < bestG h u every := by unfold upto; rw [wgt_one]; exact a
       unfold upto at a2
       rw [wgt_one] at a2
       exact absurd hu1 (Rat.ne_of_lt a2)
      | succ s =>
       have hvs := (atP_lt hv (show s < u.length by omega)).1
       have hus := vpath_upto h0 hb (t := s) (by omega)
       have hu2 := vpath_upto h0 hb (t := s + 1) (by omega)
       rw [vpath_next (by omega)] at hlt
       have hw : wgt h u p (s + 1) = wgt h u (vpath h u) (s + 1) := wgt_congr (fun r hr => ⟨rfl, (same r hr).symm⟩) (by omega)
       have hpos : 0 < (ahdG h u every ((atP (vpath h u) s : Nat) : Int) (s + 1)).1 := by
        rw [← follow_step (by omega) hvs]
        refine Rat.lt_of_le_of_ne (follow_nonneg g _ _) fun e => ?_
        unfold upto at hus
        rw [show s + 1 - 1 = s from rfl, ← e, Rat.mul_zero] at hus
        rw [← hus] at hb
        exact absurd hb (by decide)
       have a := (ahead_spec h ((atP (vpath h u) s : Nat) : Int) (symX u (s + 1)) (restG h u every (u.length - 1 - (s + 1))) h.st).least hpos _ hlt
       rw [via_some] at a
       have hwp : 0 < wgt h u (vpath h u) (s + 1) := by
        refine Rat.lt_of_le_of_ne (wgt_nonneg g _ _ _) fun e => ?_
        unfold upto at hus
        rw [← e, Rat.zero_mul] at hus
        rw [← hus] at hb
        exact absurd hb (by decide)
       have b := Rat.mul_lt_mul_of_pos_left a hwp
       have e2 : upto h u p (s + 1 + 1) = wgt h u (vpath h u) (s + 1) * (trQ h (atP (vpath h u) s) (atP p (s + 1)) * emQ h (atP p (s + 1)) (symX u (s + 1)) * follow h u (s + 1) (atP p (s + 1))) := by
        unfold upto
        rw [wgt_step (by omega), show s + 1 + 1 - 1 = s + 1 from rfl, show s + 1 - 1 = s from rfl, hw, same s (by omega)]
        grind
       have e3 : wgt h u (vpath h u) (s + 1) * (aheadF h ((atP (vpath h u) s : Nat) : Int) (symX u (s + 1)) (restG h u every (u.length - 1 - (s + 1))) h.st).1 = bestG h u every := by
        rw [← hus]
        unfold upto
        rw [show s + 1 - 1 = s from rfl, follow_step (by omega) hvs]
        rfl
       rw [← e2, e3] at b
       exact absurd hu1 (Rat.ne_of_lt b)
     ·exact hge
    have g1 : (vpath h u)[t] = ((atP (vpath h u) t : Nat) : Int) := by rw [← c2.2, List.getD_eq_getElem?_getD, List.getElem?_eq_getElem (show t < (vpath h u).length by omega)]; rfl
    have g2 : p[t] = ((atP p t : Nat) : Int) := by rw [← c1.2, List.getD_eq_getElem?_getD, List.getElem?_eq_getElem (show t < p.length by omega)]; rfl
    rw [g1, g2]
    split
    ·decide
    ·rw [if_neg (by omega)]; decide
   ·rw [if_neg e]; exact ih
 have := key k (Nat.le_refl _)
 rw [List.take_of_length_le (l := p) (by omega)] at this
 exact this
end
end Go.AL

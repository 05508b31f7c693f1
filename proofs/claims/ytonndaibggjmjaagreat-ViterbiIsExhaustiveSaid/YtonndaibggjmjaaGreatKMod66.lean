/-
  M, chapter 35: the best path is the first of all in their order.
-/
import Derived.Test.YtonndaibggjmjaaGreatKMod64
set_option linter.unusedVariables false
set_option linter.unusedSimpArgs false
namespace Go.AL
open Go Go.BigFrame
section
variable {b : List Int → Rat} {x y z : List Int} {L : List (List Int)}
theorem bfQ_total (h : x ≠ y) : bfQ b x y ∨ bfQ b y x := by
 unfold bfQ
 by_cases h1 : b x < b y
 ·exact .inr (.inl h1)
 ·have h1 := Rat.not_lt.1 h1
  by_cases h2 : b y < b x
  ·exact .inl (.inl h2)
  ·have e : b x = b y := Rat.le_antisymm (Rat.not_lt.1 h2) h1
   have h3 := cmpL_neg x y
   have h4 : cmpL x y ≠ 0 := fun c => h (cmpL_zero c)
   by_cases h5 : cmpL x y < 0
   ·exact .inl (.inr ⟨e, h5⟩)
   ·exact .inr (.inr ⟨e.symm, by omega⟩)
theorem bfQ_trans (h : bfQ b x y) (k : bfQ b y z) : bfQ b x z := by
 unfold bfQ at *
 rcases h with h | ⟨h, h'⟩ <;> rcases k with k | ⟨k, k'⟩
 ·exact .inl (Std.lt_trans k h)
 ·exact .inl (by rw [← k]; exact h)
 ·exact .inl (by rw [h]; exact k)
 ·have h1 := cmpL_trans (Int.le_of_lt h') (Int.le_of_lt k')
  have h2 : cmpL x z ≠ 0 := fun e => by
   have e := cmpL_zero e
   subst e
   have := cmpL_neg x y
   omega
  exact .inr ⟨h.trans k, by omega⟩
def insL (L : List (List Int)) (n : Nat) (x : List Int) : List (List Int) := L.take n ++ x :: L.drop n
theorem insL_mem {n : Nat} : y ∈ insL L n x ↔ y = x ∨ y ∈ L := by
 unfold insL
 rw [List.mem_append, List.mem_cons]
 constructor
 ·rintro (h | h | h)
  ·exact .inr (List.mem_of_mem_take h)
  ·exact .inl h
  ·exact .inr (List.mem_of_mem_drop h)
 ·rintro (h | h)
  ·exact .inr (.inl h)
  ·rw [← List.take_append_drop n L, List.mem_append] at h
   exact h.imp id .inr
theorem insL_len {n : Nat} (h : n ≤ L.length) : (insL L n x).length = L.length + 1 := by
 unfold insL
 rw [List.length_append, List.length_cons, List.length_take, List.length_drop]; omega
theorem insL_sorted {n : Nat} (hL : L.Pairwise (bfQ b)) (hn : n ≤ L.length) (hx : x ∉ L) (hr : ∀ j, n ≤ j → j < L.length → bfQ b x (L.getD j [])) (hl : n = 0 ∨ ¬ bfQ b x (L.getD (n - 1) [])) : (insL L n x).Pairwise (bfQ b) := by
 have hsplit := hL
 rw [← List.take_append_drop n L, List.pairwise_append] at hsplit
 obtain ⟨p1, p2, p3⟩ := hsplit
 have hxd : ∀ y, y ∈ L.drop n → bfQ b x y := fun y hy => by
  obtain ⟨j, hj, e⟩ := List.mem_iff_getElem.1 hy
  rw [List.length_drop] at hj
  have := hr (n + j) (by omega) (by omega)
  rw [List.getD_eq_getElem?_getD, List.getElem?_eq_getElem (by omega), Option.getD_some] at this
  rw [← e, List.getElem_drop]; exact this
 have htx : ∀ y, y ∈ L.take n → bfQ b y x := fun y hy => by
  rcases hl with h0 | hl
  ·subst h0; simp at hy
  ·by_cases h0 : n = 0
   ·subst h0; simp at hy
   have hlast : L.getD (n - 1) [] ∈ L := getD_mem (by omega) []
   have h1 : bfQ b (L.getD (n - 1) []) x := (bfQ_total (b := b) fun e : x = L.getD (n - 1) [] => hx (by rw [e]; exact hlast)).resolve_left hl
   obtain ⟨j, hj, e⟩ := List.mem_iff_getElem.1 hy
   rw [List.length_take] at hj
   rw [List.getElem_take] at e
   by_cases hjn : j = n - 1
   ·subst hjn
    rw [List.getD_eq_getElem?_getD, List.getElem?_eq_getElem (by omega), Option.getD_some] at h1
    rw [← e]; exact h1
   ·have h2 := List.pairwise_iff_getElem.1 hL j (n - 1) (by omega) (by omega) (by omega)
    rw [List.getD_eq_getElem?_getD, List.getElem?_eq_getElem (by omega), Option.getD_some] at h1
    rw [← e]; exact bfQ_trans h2 h1
 unfold insL
 refine List.pairwise_append.2 ⟨p1, List.pairwise_cons.2 ⟨hxd, p2⟩, fun y hy z hz => ?_⟩
 rcases List.mem_cons.1 hz with rfl | hz
 ·exact htx y hy
 ·exact p3 y hy z hz
end
theorem pathsF_nodup (n : Nat) : ∀ k, (pathsF n k).Nodup
 | 0 => by rw [pathsF]; exact List.nodup_cons.2 ⟨by simp, List.nodup_nil⟩
 | k + 1 => by
  rw [pathsF]
  refine List.pairwise_flatMap.2 ⟨fun p _ => ?_, ?_⟩
  ·refine List.pairwise_map.2 (List.nodup_range.imp fun {a c} hne e => hne ?_)
   have := List.append_cancel_left e
   injection this with h1
   omega
  ·refine (pathsF_nodup n k).imp_of_mem fun {p q} hp hq hne y hy z hz e => ?_
   obtain ⟨a, _, rfl⟩ := List.mem_map.1 hy
   obtain ⟨c, _, rfl⟩ := List.mem_map.1 hz
   have h1 := (pathsF_mem hp).1
   have h2 := (pathsF_mem hq).1
   exact hne (List.append_inj_left e (h1.trans h2.symm))
structure Want (h : HM) (w : List Int) (i : Nat) (L : List (List Int)) : Prop where
 sorted : L.Pairwise (bfQ (jointE h w))
 all : ∀ c, c ∈ L ↔ c ∈ (pathsF h.st w.length).take i ∧ 0 < jointE h w c
theorem Want.zero (h : HM) (w : List Int) : Want h w 0 [] := ⟨List.Pairwise.nil, fun c => by simp⟩
theorem Want.new {h : HM} {w : List Int} {i : Nat} {L : List (List Int)} (k : Want h w i L) (hi : i < (pathsF h.st w.length).length) : (pathsF h.st w.length).getD i [] ∉ L := fun hm => by
 have h1 := ((k.all _).1 hm).1
 obtain ⟨j, hj, e⟩ := List.mem_iff_getElem.1 h1
 rw [List.length_take] at hj
 rw [List.getElem_take, List.getD_eq_getElem?_getD, List.getElem?_eq_getElem hi, Option.getD_some] at e
 have := (List.nodup_iff_pairwise_ne.1 (pathsF_nodup h.st w.length))
 exact List.pairwise_iff_getElem.1 this j i (by omega) hi (by omega) e
theorem Want.skip {h : HM} {w : List Int} {i : Nat} {L : List (List Int)} (k : Want h w i L) (hi : i < (pathsF h.st w.length).length) (h0 : ¬ 0 < jointE h w ((pathsF h.st w.length).getD i [])) : Want h w (i + 1) L := by
 refine ⟨k.sorted, fun c => (k.all c).trans ?_⟩
 rw [take_succ_getD hi [], List.mem_append, List.mem_singleton]
 constructor
 ·exact fun a => ⟨.inl a.1, a.2⟩
 ·rintro ⟨a | a, b⟩
  ·exact ⟨a, b⟩
  ·rw [a] at b; exact absurd b h0
theorem Want.put {h : HM} {w : List Int} {i n : Nat} {L : List (List Int)} (k : Want h w i L) (hi : i < (pathsF h.st w.length).length) (h0 : 0 < jointE h w ((pathsF h.st w.length).getD i [])) (hn : n ≤ L.length)
  (hr : ∀ j, n ≤ j → j < L.length → bfQ (jointE h w) ((pathsF h.st w.length).getD i []) (L.getD j [])) (hl : n = 0 ∨ ¬ bfQ (jointE h w) ((pathsF h.st w.length).getD i []) (L.getD (n - 1) [])) : Want h w (i + 1) (insL L n ((pathsF h.st w.length).getD i [])) := by
 refine ⟨insL_sorted k.sorted hn (k.new hi) hr hl, fun c => ?_⟩
 rw [insL_mem, take_succ_getD hi [], List.mem_append, List.mem_singleton, k.all]
 constructor
 ·rintro (rfl | a)
  ·exact ⟨.inr rfl, h0⟩
  ·exact ⟨.inl a.1, a.2⟩
 ·rintro ⟨a | a, b⟩
  ·exact .inr ⟨a, b⟩
  ·exact .inl a
theorem Want.ranked {h : HM} {w : List Int} {i : Nat} {L : List (List Int)} (k : Want h w i L) (hi : (pathsF h.st w.length).length ≤ i) : Ranked35 h w L :=
 ⟨k.sorted, fun c => (k.all c).trans (by
  rw [List.take_of_length_le hi]
  exact ⟨fun a => ⟨⟨(pathsF_mem a.1).1, (pathsF_mem a.1).2⟩, a.2⟩, fun a => ⟨paths_in a.1.1 a.1.2, a.2⟩⟩)⟩
end Go.AL

set_option linter.unusedVariables false
set_option linter.unusedSimpArgs false
namespace Go.AL
open Go Go.BigFrame
section
variable {h : HM} {bb B : Nat} {w : List Int} {R : List (List Int)}
theorem joint_upto {p : List Int} (hp : p ∈ pathsF h.st w.length) (hn : 0 < w.length) : jointE h w p = upto h w p w.length := by
 rw [upto_end hp hn]
 exact if_neg (by omega)
theorem joint_le_best (g : HM.GoodX bb B h) {p : List Int} (hp : p ∈ pathsF h.st w.length) : jointE h w p ≤ bestR h w every := by
 unfold bestR
 by_cases h0 : w.length = 0
 ·rw [if_pos h0, show jointE h w p = h.empty from if_pos h0]; exact Rat.le_refl
 ·rw [if_neg h0, joint_upto hp (by omega)]
  obtain ⟨n, hn⟩ : ∃ n, w.length = n + 1 := ⟨w.length - 1, by omega⟩
  rw [hn] at hp ⊢
  exact upto_le g hp (by omega) (by omega)
theorem rank_nil (g : HM.GoodX bb B h) (r : Ranked35 h w []) : vitE h w every = 11 := by
 refine (vitE_cases h w every).resolve_left fun e => ?_
 have hb := vitE_zero.1 e
 have h0 := g.form.st0
 have key : ∀ p, p ∈ pathsF h.st w.length → ¬ 0 < jointE h w p := fun p hp k => by
  have := (r.all p).2 ⟨⟨(pathsF_mem hp).1, (pathsF_mem hp).2⟩, k⟩
  cases this
 by_cases hn : w.length = 0
 ·have h1 := key [] (by rw [hn]; exact List.mem_singleton.2 rfl)
  rw [show jointE h w [] = h.empty from if_pos hn] at h1
  unfold bestR at hb
  rw [if_pos hn] at hb
  exact h1 ((rat_pos g.pE.1).resolve_right fun e => hb e.symm)
 ·have hb2 : bestG h w every ≠ 0 := by unfold bestR at hb; rwa [if_neg hn] at hb
  have hpos : 0 < bestG h w every := (rat_pos (ahead_spec ..).nonneg).resolve_right fun e => hb2 e.symm
  have hm := vpath_mem (h := h) (u := w) h0
  refine key _ hm ?_
  rw [joint_upto hm (by omega)]
  obtain ⟨n, hn2⟩ : ∃ n, w.length = n + 1 := ⟨w.length - 1, by omega⟩
  rw [hn2, vpath_upto h0 hpos (by omega)]; exact hpos
theorem rank_best (g : HM.GoodX bb B h) (r : Ranked35 h w R) (hR : R ≠ []) : vitE h w every = 0 ∧ vitP h w every = R.getD 0 [] ∧ bestR h w every = jointE h w (R.getD 0 []) := by
 have h0 := g.form.st0
 have hl : 0 < R.length := List.length_pos_iff.2 hR
 have hc : R.getD 0 [] ∈ R := getD_mem hl []
 obtain ⟨ic, pc⟩ := (r.all _).1 hc
 have hcm := paths_in ic.1 ic.2
 have hle := joint_le_best g hcm
 have hbp : 0 < bestR h w every := Std.lt_of_lt_of_le pc hle
 have he : vitE h w every = 0 := vitE_zero.2 fun e => by rw [e] at hbp; exact absurd hbp (by decide)
 by_cases hn : w.length = 0
 ·refine ⟨he, ?_, ?_⟩
  ·rw [vitP, if_pos (.inl hn)]
   exact (List.eq_nil_of_length_eq_zero (ic.1.trans hn)).symm
  ·rw [bestR, if_pos hn, show jointE h w (R.getD 0 []) = h.empty from if_pos hn]
 ·have hbe : bestR h w every = bestG h w every := if_neg hn
  rw [hbe] at hbp hle
  have hm := vpath_mem (h := h) (u := w) h0
  have hv : jointE h w (vpath h w) = bestG h w every := by
   rw [joint_upto hm (by omega)]
   obtain ⟨n, hn2⟩ : ∃ n, w.length = n + 1 := ⟨w.length - 1, by omega⟩
   rw [hn2, vpath_upto h0 hbp (by omega)]
  have hvR : vpath h w ∈ R := (r.all _).2 ⟨⟨(pathsF_mem hm).1, (pathsF_mem hm).2⟩, by rw [hv]; exact hbp⟩
  have hvP : vitP h w every = vpath h w := by
   rw [vitP, if_neg (fun e => e.elim hn fun e => by rw [e] at hbp; exact absurd hbp (by decide))]; rfl
  have e : vpath h w = R.getD 0 [] := by
   refine Decidable.byContradiction fun hne => ?_
   obtain ⟨j, hj, ej⟩ := List.mem_iff_getElem.1 hvR
   have hj0 : 0 < j := Nat.pos_of_ne_zero fun e0 => by
    subst e0
    exact hne (by rw [← ej, List.getD_eq_getElem?_getD, List.getElem?_eq_getElem hl]; rfl)
   have hb := List.pairwise_iff_getElem.1 r.sorted 0 j hl hj hj0
   rw [ej, show R[0] = R.getD 0 [] by rw [List.getD_eq_getElem?_getD, List.getElem?_eq_getElem hl]; rfl] at hb
   rcases hb with hb | ⟨hb, hcmp⟩
   ·rw [hv] at hb; exact absurd hb (Rat.not_lt.2 hle)
   ·have hu : upto h w (R.getD 0 []) w.length = bestG h w every := by rw [← joint_upto hcm (by omega), hb, hv]
    have hq := vpath_least g h0 hbp hcm (Nat.le_refl _) (by omega) hu
    rw [List.take_of_length_le (by rw [(pathsF_mem hm).1]; exact Nat.le_refl _)] at hq
    have := cmpL_neg (R.getD 0 []) (vpath h w)
    omega
  exact ⟨he, by rw [hvP, e], by rw [hbe, ← e, hv]⟩
end
end Go.AL

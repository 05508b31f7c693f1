/-
  M, chapter 35: there is a list of all paths in their order, and it adds up to the likelihood.
-/
import Derived.Test.YtonndaibggjmjaaGreatKMod64
set_option linter.unusedVariables false
set_option linter.unusedSimpArgs false
namespace Go.AL
open Go Go.BigFrame
section
variable {b : List Int → Rat} {x y z : List Int} {L : List (List Int)}
theorem bfQ_total (h : x ≠ y) : bfQ b x y ∨ bfQ b y x := by
 unfold bfQ
 by_cases h1 : b x < b y
 ·exact .inr (.inl h1)
 ·have h1 := Rat.not_lt.1 h1
  by_cases h2 : b y < b x
  ·exact .inl (.inl h2)
  ·have e : b x = b y := Rat.le_antisymm (Rat.not_lt.1 h2) h1
   have h3 := cmpL_neg x y
   have h4 : cmpL x y ≠ 0 := fun c => h (cmpL_zero c)
   by_cases h5 : cmpL x y < 0
   ·exact .inl (.inr ⟨e, h5⟩)
   ·exact .inr (.inr ⟨e.symm, by omega⟩)
theorem bfQ_trans (h : bfQ b x y) (k : bfQ b y z) : bfQ b x z := by
 unfold bfQ at *
 rcases h with h | ⟨h, h'⟩ <;> rcases k with k | ⟨k, k'⟩
 ·exact .inl (Std.lt_trans k h)
 ·exact .inl (by rw [← k]; exact h)
 ·exact .inl (by rw [h]; exact k)
 ·have h1 := cmpL_trans (Int.le_of_lt h') (Int.le_of_lt k')
  have h2 : cmpL x z ≠ 0 := fun e => by
   have e := cmpL_zero e
   subst e
   have := cmpL_neg x y
   omega
  exact .inr ⟨h.trans k, by omega⟩
def insL (L : List (List Int)) (n : Nat) (x : List Int) : List (List Int) := L.take n ++ x :: L.drop n
theorem insL_mem {n : Nat} : y ∈ insL L n x ↔ y = x ∨ y ∈ L := by
 unfold insL
 rw [List.mem_append, List.mem_cons]
 constructor
 ·rintro (h | h | h)
  ·exact .inr (List.mem_of_mem_take h)
  ·exact .inl h
  ·exact .inr (List.mem_of_mem_drop h)
 ·rintro (h | h)
  ·exact .inr (.inl h)
  ·rw [← List.take_append_drop n L, List.mem_append] at h
   exact h.imp id .inr
theorem insL_sorted {n : Nat} (hL : L.Pairwise (bfQ b)) (hn : n ≤ L.length) (hx : x ∉ L) (hr : ∀ j, n ≤ j → j < L.length → bfQ b x (L.getD j [])) (hl : n = 0 ∨ ¬ bfQ b x (L.getD (n - 1) [])) : (insL L n x).Pairwise (bfQ b) := by
 have hsplit := hL
 rw [← List.take_append_drop n L, List.pairwise_append] at hsplit
 obtain ⟨p1, p2, p3⟩ := hsplit
 have hxd : ∀ y, y ∈ L.drop n → bfQ b x y := fun y hy => by
  obtain ⟨j, hj, e⟩ := List.mem_iff_getElem.1 hy
  rw [List.length_drop] at hj
  have := hr (n + j) (by omega) (by omega)
  rw [List.getD_eq_getElem?_getD, List.getElem?_eq_getElem (by omega), Option.getD_some] at this
  rw [← e, List.getElem_drop]; exact this
 have htx : ∀ y, y ∈ L.take n → bfQ b y x := fun y hy => by
  rcases hl with h0 | hl
  ·subst h0; simp at hy
  ·by_cases h0 : n = 0
   ·subst h0; simp at hy
   have hlast : L.getD (n - 1) [] ∈ L := getD_mem (by omega) []
   have h1 : bfQ b (L.getD (n - 1) []) x := (bfQ_total (b := b) fun e : x = L.getD (n - 1) [] => hx (by rw [e]; exact hlast)).resolve_left hl
   obtain ⟨j, hj, e⟩ := List.mem_iff_getElem.1 hy
   rw [List.length_take] at hj
   rw [List.getElem_take] at e
   by_cases hjn : j = n - 1
   ·subst hjn
    rw [List.getD_eq_getElem?_getD, List.getElem?_eq_getElem (by omega), Option.getD_some] at h1
    rw [← e]; exact h1
   ·have h2 := List.pairwise_iff_getElem.1 hL j (n - 1) (by omega) (by omega) (by omega)
    rw [List.getD_eq_getElem?_getD, List.getElem?_eq_getElem (by omega), Option.getD_some] at h1
    rw [← e]; exact bfQ_trans h2 h1
 unfold insL
 refine List.pairwise_append.2 ⟨p1, List.pairwise_cons.2 ⟨hxd, p2⟩, fun y hy z hz => ?_⟩
 rcases List.mem_cons.1 hz with rfl | hz
 ·exact htx y hy
 ·exact p3 y hy z hz
end
theorem pathsF_nodup (n : Nat) : ∀ k, (pathsF n k).Nodup
 | 0 => by rw [pathsF]; exact List.nodup_cons.2 ⟨by simp, List.nodup_nil⟩
 | k + 1 => by
  rw [pathsF]
  refine List.pairwise_flatMap.2 ⟨fun p _ => ?_, ?_⟩
  ·refine List.pairwise_map.2 (List.nodup_range.imp fun {a c} hne e => hne ?_)
   have := List.append_cancel_left e
   injection this with h1
   omega
  ·refine (pathsF_nodup n k).imp_of_mem fun {p q} hp hq hne y hy z hz e => ?_
   obtain ⟨a, _, rfl⟩ := List.mem_map.1 hy
   obtain ⟨c, _, rfl⟩ := List.mem_map.1 hz
   have h1 := (pathsF_mem hp).1
   have h2 := (pathsF_mem hq).1
   exact hne (List.append_inj_left e (h1.trans h2.symm))
structure Want (h : HM) (w : List Int) (i : Nat) (L : List (List Int)) : Prop where
 sorted : L.Pairwise (bfQ (jointE h w))
 all : ∀ c, c ∈ L ↔ c ∈ (pathsF h.st w.length).take i ∧ 0 < jointE h w c
theorem Want.zero (h : HM) (w : List Int) : Want h w 0 [] := ⟨List.Pairwise.nil, fun c => by simp⟩
theorem Want.new {h : HM} {w : List Int} {i : Nat} {L : List (List Int)} (k : Want h w i L) (hi : i < (pathsF h.st w.length).length) : (pathsF h.st w.length).getD i [] ∉ L := fun hm => by
 have h1 := ((k.all _).1 hm).1
 obtain ⟨j, hj, e⟩ := List.mem_iff_getElem.1 h1
 rw [List.length_take] at hj
 rw [List.getElem_take, List.getD_eq_getElem?_getD, List.getElem?_eq_getElem hi, Option.getD_some] at e
 have := (List.nodup_iff_pairwise_ne.1 (pathsF_nodup h.st w.length))
 exact List.pairwise_iff_getElem.1 this j i (by omega) hi (by omega) e
theorem Want.skip {h : HM} {w : List Int} {i : Nat} {L : List (List Int)} (k : Want h w i L) (hi : i < (pathsF h.st w.length).length) (h0 : ¬ 0 < jointE h w ((pathsF h.st w.length).getD i [])) : Want h w (i + 1) L := by
 refine ⟨k.sorted, fun c => (k.all c).trans ?_⟩
 rw [take_succ_getD hi [], List.mem_append, List.mem_singleton]
 constructor
 ·exact fun a => ⟨.inl a.1, a.2⟩
 ·rintro ⟨a | a, b⟩
  ·exact ⟨a, b⟩
  ·rw [a] at b; exact absurd b h0
theorem Want.put {h : HM} {w : List Int} {i n : Nat} {L : List (List Int)} (k : Want h w i L) (hi : i < (pathsF h.st w.length).length) (h0 : 0 < jointE h w ((pathsF h.st w.length).getD i [])) (hn : n ≤ L.length)
  (hr : ∀ j, n ≤ j → j < L.length → bfQ (jointE h w) ((pathsF h.st w.length).getD i []) (L.getD j [])) (hl : n = 0 ∨ ¬ bfQ (jointE h w) ((pathsF h.st w.length).getD i []) (L.getD (n - 1) [])) : Want h w (i + 1) (insL L n ((pathsF h.st w.length).getD i [])) := by
 refine ⟨insL_sorted k.sorted hn (k.new hi) hr hl, fun c => ?_⟩
 rw [insL_mem, take_succ_getD hi [], List.mem_append, List.mem_singleton, k.all]
 constructor
 ·rintro (rfl | a)
  ·exact ⟨.inr rfl, h0⟩
  ·exact ⟨.inl a.1, a.2⟩
 ·rintro ⟨a | a, b⟩
  ·exact .inr ⟨a, b⟩
  ·exact .inl a
theorem Want.ranked {h : HM} {w : List Int} {i : Nat} {L : List (List Int)} (k : Want h w i L) (hi : (pathsF h.st w.length).length ≤ i) : Ranked35 h w L :=
 ⟨k.sorted, fun c => (k.all c).trans (by
  rw [List.take_of_length_le hi]
  exact ⟨fun a => ⟨⟨(pathsF_mem a.1).1, (pathsF_mem a.1).2⟩, a.2⟩, fun a => ⟨paths_in a.1.1 a.1.2, a.2⟩⟩)⟩
end Go.AL

set_option linter.unusedVariables false
set_option linter.unusedSimpArgs false
namespace Go.AL
open Go Go.BigFrame
section
variable {h : HM} {bb B : Nat} {w : List Int} {R : List (List Int)}
theorem find_place {b : List Int → Rat} {x : List Int} {L : List (List Int)} : ∀ m, m ≤ L.length → (∀ j, m ≤ j → j < L.length → bfQ b x (L.getD j [])) → ∃ n, n ≤ L.length ∧ (∀ j, n ≤ j → j < L.length → bfQ b x (L.getD j [])) ∧ (n = 0 ∨ ¬ bfQ b x (L.getD (n - 1) []))
 | 0, hm, hr => ⟨0, hm, hr, .inl rfl⟩
 | m + 1, hm, hr => by
  by_cases h : bfQ b x (L.getD m [])
  ·refine find_place m (by omega) fun j a c => ?_
   rcases Nat.lt_or_ge m j with e | e
   ·exact hr j e c
   ·obtain rfl : j = m := by omega
    exact h
  ·exact ⟨m + 1, hm, hr, .inr h⟩
theorem want_exists (h : HM) (w : List Int) : ∀ i, i ≤ (pathsF h.st w.length).length → ∃ L, Want h w i L
 | 0, _ => ⟨[], Want.zero h w⟩
 | i + 1, hi => by
  obtain ⟨L, k⟩ := want_exists h w i (by omega)
  by_cases h0 : 0 < jointE h w ((pathsF h.st w.length).getD i [])
  ·obtain ⟨n, h1, h2, h3⟩ := find_place (b := jointE h w) (x := (pathsF h.st w.length).getD i []) (L := L) L.length (Nat.le_refl _) (fun j a c => by omega)
   exact ⟨_, k.put (by omega) h0 h1 h2 h3⟩
  ·exact ⟨L, k.skip (by omega) h0⟩
theorem rank_exists (h : HM) (w : List Int) : ∃ R, Ranked35 h w R :=
 have ⟨L, k⟩ := want_exists h w _ (Nat.le_refl _)
 ⟨L, k.ranked (Nat.le_refl _)⟩
theorem lsum_perm {α : Type} {f : α → Rat} {l m : List α} (p : l.Perm m) : lsum f l = lsum f m := by
 induction p with
 | nil => rfl
 | cons x _ ih => rw [lsum, lsum, ih]
 | swap x y l => rw [lsum, lsum, lsum, lsum, ← Rat.add_assoc, ← Rat.add_assoc, Rat.add_comm (f y)]
 | trans _ _ a b => exact a.trans b
theorem lsum_pos {α : Type} {f : α → Rat} : ∀ l : List α, (∀ x, x ∈ l → 0 ≤ f x) → lsum f (l.filter fun x => decide (0 < f x)) = lsum f l
 | [], _ => rfl
 | x :: r, hx => by
  have ih := lsum_pos r fun y hy => hx y (List.mem_cons_of_mem _ hy)
  by_cases h : 0 < f x
  ·rw [List.filter_cons_of_pos (by simpa using h), lsum, lsum, ih]
  ·have e : f x = 0 := Rat.le_antisymm (Rat.not_lt.1 h) (hx x (List.mem_cons_self ..))
   rw [List.filter_cons_of_neg (by simpa using h), lsum, ih, e, Rat.zero_add]
theorem joint_nonneg (g : HM.GoodX bb B h) (p : List Int) : 0 ≤ jointE h w p := by
 unfold jointE
 split
 ·exact g.pE.1
 ·exact Rat.mul_nonneg (wgt_nonneg g w p _) (g.pS.get _).1
theorem rank_perm (r : Ranked35 h w R) : R.Perm ((pathsF h.st w.length).filter fun p => decide (0 < jointE h w p)) := by
 refine (List.perm_ext_iff_of_nodup ?_ ?_).2 fun c => (r.all c).trans ?_
 ·exact r.sorted.imp fun {a b} k e => by subst e; exact bfQ_asym _ _ k k
 ·exact (pathsF_nodup _ _).filter _
 ·rw [List.mem_filter, decide_eq_true_eq]
  exact ⟨fun a => ⟨paths_in a.1.1 a.1.2, a.2⟩, fun a => ⟨⟨(pathsF_mem a.1).1, (pathsF_mem a.1).2⟩, a.2⟩⟩
theorem rank_sum (g : HM.GoodX bb B h) (r : Ranked35 h w R) : lsum (jointE h w) R = likF h w := by
 rw [lsum_perm (rank_perm r), lsum_pos _ fun p _ => joint_nonneg g p, joint_sum]
theorem rank_len (r : Ranked35 h w R) : R.length ≤ h.st ^ w.length := by
 rw [(rank_perm r).length_eq, ← pathsF_len]
 exact List.length_filter_le ..
theorem foldl_lsum {α : Type} (f : α → Rat) : ∀ (l : List α) (x : Rat), (l.map f).foldl (· + ·) x = x + lsum f l
 | [], x => by rw [List.map_nil, List.foldl_nil, lsum, Rat.add_zero]
 | y :: r, x => by rw [List.map_cons, List.foldl_cons, foldl_lsum f r, lsum, Rat.add_assoc]
theorem sumQ_map {α : Type} (f : α → Rat) (l : List α) : sumQ (l.map f) = lsum f l := by
 unfold sumQ
 rw [foldl_lsum, Rat.zero_add]
end
end Go.AL

/-
  M, chapters 35 to 37: the best way to each state, kept in lists of one.
-/
import Derived.Test.YtcebciggodhmcaaGreatKMod37c
set_option linter.unusedVariables false
set_option linter.unusedSimpArgs false
namespace Go.AL
open Go Go.BigFrame
def putW (x : Rat) (y : List Int) (m : Rat × List Int) : Rat × List Int := if betterP x y m then (x, y) else m
def wayN (h : HM) (v : Nat → Rat × List Int) (x j : Nat) : Nat → Rat × List Int
  | 0 => (0, [])
  | i + 1 => putW ((v i).1 * trQ h i j * emQ h j x) ((v i).2 ++ [(j : Int)]) (wayN h v x j i)
def wayF (h : HM) (w : List Int) : Nat → Nat → Rat × List Int
  | 0, _ => (0, [])
  | t + 1, j => if t = 0 then putW (h.ini.getD j 0 * emQ h j (symX w 0)) [(j : Int)] (0, []) else wayN h (wayF h w t) (symX w t) j h.st
theorem putW_zero {y : List Int} {m : Rat × List Int} (h : 0 ≤ m.1) : putW 0 y m = m := if_neg fun k => k.elim (fun k => absurd k (Rat.not_lt.2 h)) fun k => absurd k.2.1 (by decide)
theorem putW_first {x : Rat} {y z : List Int} (h : 0 < x) : putW x y (0, z) = (x, y) := if_pos (.inl h)
theorem putW_nonneg {x : Rat} {y : List Int} {m : Rat × List Int} (h : 0 ≤ m.1) (hx : 0 ≤ x) : 0 ≤ (putW x y m).1 := by unfold putW; split; exact hx; exact h
section
variable {h : HM} {B : Nat} {u : List Int} {o : Dec}
theorem wayN_nonneg (g : h.Good B) {v : Nat → Rat × List Int} (hv : ∀ i, 0 ≤ (v i).1) (x j : Nat) : ∀ n, 0 ≤ (wayN h v x j n).1
  | 0 => Rat.le_refl
  | n + 1 => by
    rw [wayN]
    exact putW_nonneg (wayN_nonneg g hv x j n) (Rat.mul_nonneg (Rat.mul_nonneg (hv n) (tr_nonneg g n j)) (em_nonneg g j x))
theorem wayF_nonneg (g : h.Good B) (w : List Int) : ∀ t j, 0 ≤ (wayF h w t j).1
  | 0, _ => Rat.le_refl
  | t + 1, j => by
    rw [wayF]
    split
    · exact putW_nonneg Rat.le_refl (Rat.mul_nonneg (ini_nonneg g j) (em_nonneg g j _))
    · exact wayN_nonneg g (wayF_nonneg g w t) _ j _
theorem wayN_congr {v v2 : Nat → Rat × List Int} (x j : Nat) : ∀ {n : Nat}, (∀ i, i < n → v i = v2 i) → wayN h v x j n = wayN h v2 x j n
  | 0, _ => rfl
  | n + 1, hv => by rw [wayN, wayN, wayN_congr x j fun i hi => hv i (by omega), hv n (Nat.lt_succ_self n)]
theorem wayN_len (g : h.Good B) {v : Nat → Rat × List Int} {n : Nat} (h0 : ∀ i, 0 ≤ (v i).1) (hv : ∀ i, 0 < (v i).1 → (v i).2.length = n) (x j : Nat) : ∀ k, 0 < (wayN h v x j k).1 → (wayN h v x j k).2.length = n + 1
  | 0, e => absurd e (by show ¬ (0 : Rat) < 0; decide)
  | k + 1, e => by
    rw [wayN, putW] at e ⊢
    by_cases hb : betterP ((v k).1 * trQ h k j * emQ h j x) ((v k).2 ++ [(j : Int)]) (wayN h v x j k)
    · rw [if_pos hb] at e ⊢
      have a := (pos_of_mul (Rat.mul_nonneg (h0 k) (tr_nonneg g k j)) (em_nonneg g j x) e).1
      have b := (pos_of_mul (h0 k) (tr_nonneg g k j) a).1
      simp only [List.length_append, List.length_singleton, hv k b]
    · rw [if_neg hb] at e ⊢
      exact wayN_len g h0 hv x j k e
theorem wayF_len (g : h.Good B) (w : List Int) : ∀ t j, 0 < (wayF h w t j).1 → (wayF h w t j).2.length = t
  | 0, _, e => absurd e (by show ¬ (0 : Rat) < 0; decide)
  | t + 1, j, e => by
    rw [wayF] at e ⊢
    by_cases h0 : t = 0
    · subst h0
      rw [if_pos rfl, putW] at e ⊢
      by_cases hb : betterP (h.ini.getD j 0 * emQ h j (symX w 0)) [(j : Int)] (0, [])
      · rw [if_pos hb]; rfl
      · rw [if_neg hb] at e; exact absurd e (by show ¬ (0 : Rat) < 0; decide)
    · rw [if_neg h0] at e ⊢
      exact wayN_len g (wayF_nonneg g w t) (wayF_len g w t) _ j h.st e
theorem wayN_sz (f : h.Form B) {v : Nat → Rat × List Int} {C : Nat} (hv : ∀ i, sz (v i).1 ≤ C) (x j : Nat) : ∀ k, sz (wayN h v x j k).1 ≤ C + 2048
  | 0 => by rw [wayN]; show sz 0 ≤ _; rw [sz_zero]; omega
  | k + 1 => by
    rw [wayN, putW]
    split
    · have a := hv k
      have b := tr_sz f k j
      have c := em_sz f j x
      have d := sz_mul (v k).1 (trQ h k j)
      have e := sz_mul ((v k).1 * trQ h k j) (emQ h j x)
      simp only
      omega
    · exact wayN_sz f hv x j k
theorem wayF_sz (f : h.Form B) (w : List Int) : ∀ t j, sz (wayF h w t j).1 ≤ 1 + 2048 * t
  | 0, _ => by show sz 0 ≤ _; rw [sz_zero]; omega
  | t + 1, j => by
    rw [wayF, Nat.mul_add, Nat.mul_one, ← Nat.add_assoc]
    generalize hq : 2048 * t = q
    have ih : ∀ i, sz (wayF h w t i).1 ≤ 1 + q := fun i => by rw [← hq]; exact wayF_sz f w t i
    split
    · rw [putW]
      split
      · have a := ini_sz f j
        have b := em_sz f j (symX w 0)
        have d := sz_mul (h.ini.getD j 0) (emQ h j (symX w 0))
        simp only
        omega
      · show sz 0 ≤ _; rw [sz_zero]; omega
    · have := wayN_sz f ih (symX w t) j h.st
      omega
theorem step_whole {x : Nat} (hs : ∃ j, j < h.st ∧ 0 < newS h o x j) {j : Nat} (hj : j < h.st) (hp : 0 < newS h o x j) : (stepD h o x).dn ++ (stepD h o x).tl.getD j [] = o.dn ++ newT h o x j := by
  rw [show (stepD h o x).tl.getD j [] = (newT h o x j).drop (keepK h o x) from map_getD_range (fun j => (newT h o x j).drop (keepK h o x)) _ hj,
    show (stepD h o x).dn = o.dn ++ cmtF h o x h.st from rfl, cmt_take (Nat.le_refl _) hs j hj hp, List.append_assoc, List.take_append_drop]
def wayD (o : Dec) (j : Nat) : Rat × List Int := (o.sc.getD j 0, if 0 < o.sc.getD j 0 then o.dn ++ o.tl.getD j [] else [])
theorem way_pick (g : h.Good B) (k : InvD h u o) (h0 : o.t ≠ 0) (x j : Nat) : ∀ n, n ≤ h.st → wayN h (wayD o) x j n = ((pickF h o j n).1 * emQ h j x, if 0 < (pickF h o j n).1 * emQ h j x then o.dn ++ ((pickF h o j n).2 ++ [(j : Int)]) else [])
  | 0, _ => by
    rw [wayN, pickF, if_neg h0]
    try simp only
    rw [Rat.zero_mul, if_neg (by decide)]
  | n + 1, hn => by
    have ih := way_pick g k h0 x j n (by omega)
    have hd := k.heads h0
    have ps := pick_spec (h := h) h0 j n
    rw [wayN, ih, pickF]
    have hq := em_nonneg g j x
    have hx : (wayD o n).1 * trQ h n j * emQ h j x = comeQ h o j n * emQ h j x := rfl
    rw [hx]
    have hlen : ∀ i, i < h.st → 0 < o.sc.getD i 0 → (o.dn ++ o.tl.getD i []).length = o.t := fun i hi hp => (pathsF_mem (hd.live i hi hp).1).1
    rcases rat_pos hq with e | e
    · have key : betterP (comeQ h o j n * emQ h j x) ((wayD o n).2 ++ [(j : Int)]) ((pickF h o j n).1 * emQ h j x, if 0 < (pickF h o j n).1 * emQ h j x then o.dn ++ ((pickF h o j n).2 ++ [(j : Int)]) else []) ↔ betterP (comeQ h o j n) (o.tl.getD n []) (pickF h o j n) := by
        unfold betterP
        have e1 : (pickF h o j n).1 * emQ h j x < comeQ h o j n * emQ h j x ↔ (pickF h o j n).1 < comeQ h o j n := Rat.mul_lt_mul_right e
        have e2 : comeQ h o j n * emQ h j x = (pickF h o j n).1 * emQ h j x ↔ comeQ h o j n = (pickF h o j n).1 := ⟨fun a => by
          refine Rat.le_antisymm ?_ ?_
          · rw [← Rat.not_lt]; intro b; exact absurd a (Rat.ne_of_gt (Rat.mul_lt_mul_of_pos_right b e))
          · rw [← Rat.not_lt]; intro b; exact absurd a (Rat.ne_of_lt (Rat.mul_lt_mul_of_pos_right b e)), fun a => by rw [a]⟩
        rw [e1, e2]
        refine or_congr Iff.rfl (and_congr_right fun a => ?_)
        constructor
        · rintro ⟨b, c⟩
          have p1 := (pos_of_mul (by rw [a]; exact ps.nonneg) hq b).1
          refine ⟨p1, ?_⟩
          have p2 : 0 < o.sc.getD n 0 := (pos_of_mul (hd.nonneg n (by omega)) (tr_nonneg g n j) p1).1
          obtain ⟨i, hi, em⟩ := ps.pos (by rw [← a]; exact p1)
          have p3 : 0 < o.sc.getD i 0 := by
            have : 0 < comeQ h o j i := by rw [a, em] at p1; exact p1
            exact (pos_of_mul (hd.nonneg i (by omega)) (tr_nonneg g i j) this).1
          have l1 := hlen n (by omega) p2
          have l2 := hlen i (by omega) p3
          simp only at c
          rw [if_pos (by rw [← a]; exact b), wayD, if_pos p2, List.append_assoc, cmpL_left, em] at c
          rw [em]
          simp only at c ⊢
          rw [List.length_append] at l1 l2
          rwa [cmpL_snoc_same (by omega)] at c
        · rintro ⟨p1, c⟩
          have b : 0 < comeQ h o j n * emQ h j x := Rat.mul_pos p1 e
          refine ⟨b, ?_⟩
          have p2 : 0 < o.sc.getD n 0 := (pos_of_mul (hd.nonneg n (by omega)) (tr_nonneg g n j) p1).1
          obtain ⟨i, hi, em⟩ := ps.pos (by rw [← a]; exact p1)
          have p3 : 0 < o.sc.getD i 0 := by
            have : 0 < comeQ h o j i := by rw [a, em] at p1; exact p1
            exact (pos_of_mul (hd.nonneg i (by omega)) (tr_nonneg g i j) this).1
          have l1 := hlen n (by omega) p2
          have l2 := hlen i (by omega) p3
          simp only
          rw [if_pos (by rw [← a]; exact b), wayD, if_pos p2, List.append_assoc, cmpL_left, em]
          rw [em] at c
          simp only at c ⊢
          rw [List.length_append] at l1 l2
          rwa [cmpL_snoc_same (by omega)]
      unfold putW
      by_cases hb : betterP (comeQ h o j n) (o.tl.getD n []) (pickF h o j n)
      · rw [if_pos (key.2 hb), if_pos hb]
        have p1 : 0 < comeQ h o j n := hb.elim (fun a => Std.lt_of_le_of_lt ps.nonneg a) fun a => a.2.1
        have p2 : 0 < o.sc.getD n 0 := (pos_of_mul (hd.nonneg n (by omega)) (tr_nonneg g n j) p1).1
        simp only
        rw [if_pos (Rat.mul_pos p1 e), wayD, if_pos p2, List.append_assoc]
      · rw [if_neg (fun a => hb (key.1 a)), if_neg hb]
    · rw [← e]
      simp only [Rat.mul_zero]
      rw [putW_zero Rat.le_refl, if_neg (by decide), if_neg (by decide)]
theorem way_step (g : h.Good B) (k : InvD h u o) (hw : o.t ≠ 0 → ∀ j, j < h.st → wayF h u o.t j = wayD o j) (hs : ∃ j, j < h.st ∧ 0 < newS h o (symX u o.t) j) {j : Nat} (hj : j < h.st) : wayF h u (o.t + 1) j = wayD (stepD h o (symX u o.t)) j := by
  have hsc : (stepD h o (symX u o.t)).sc.getD j 0 = newS h o (symX u o.t) j := map_getD_range _ _ hj
  have hR : wayD (stepD h o (symX u o.t)) j = (newS h o (symX u o.t) j, if 0 < newS h o (symX u o.t) j then o.dn ++ newT h o (symX u o.t) j else []) := by
    rw [wayD, hsc]
    split
    · rename_i e; rw [step_whole hs hj e]
    · rfl
  rw [hR, wayF]
  by_cases h0 : o.t = 0
  · obtain ⟨e1, e2, e3⟩ := k.zero h0
    rw [if_pos h0, e3, List.nil_append]
    have eS : newS h o (symX u o.t) j = h.ini.getD j 0 * emQ h j (symX u 0) := by rw [newS, e1, List.length_nil, pickF, if_pos h0, h0]
    have eT : 0 < newS h o (symX u o.t) j → newT h o (symX u o.t) j = [(j : Int)] := fun e => by rw [newT, if_pos e, e1, List.length_nil, pickF]; rfl
    rw [← eS]
    rcases rat_pos (show 0 ≤ newS h o (symX u o.t) j by rw [eS]; exact Rat.mul_nonneg (ini_nonneg g j) (em_nonneg g j _)) with e | e
    · rw [putW_first e, if_pos e, eT e]
    · rw [← e, putW_zero Rat.le_refl, if_neg (by decide)]
  · rw [if_neg h0]
    have e1 := way_pick g k h0 (symX u o.t) j h.st (Nat.le_refl _)
    rw [wayN_congr (v2 := wayD o) _ _ fun i hi => hw h0 i hi, e1, newS, newT, newS, (k.len h0).1]
    split
    · rfl
    · rfl
theorem way_run (g : h.Good B) : ∀ t, t ≤ u.length → (∀ s, s ≤ t → InvD h u (runD h u s).1) → t ≠ 0 → ∀ j, j < h.st → wayF h u t j = wayD (runD h u t).1 j
  | 0, _, _, h0 => absurd rfl h0
  | t + 1, ht, k, _ => fun j hj => by
    have kt := k t (by omega)
    have kn := k (t + 1) (Nat.le_refl _)
    have e := run_t h u t
    have hs : ∃ i, i < h.st ∧ 0 < newS h (runD h u t).1 (symX u t) i := by
      obtain ⟨i, hi, hp⟩ := kn.some (by rw [run_t]; omega)
      refine ⟨i, hi, ?_⟩
      have e2 : (runD h u (t + 1)).1.sc.getD i 0 = newS h (runD h u t).1 (symX u t) i := map_getD_range _ _ hi
      rwa [e2] at hp
    have a := way_step g kt (fun h0 j hj => by rw [e] at h0 ⊢; exact way_run g t (by omega) (fun s hs => k s (by omega)) h0 j hj) (by rw [e]; exact hs) hj
    rw [e] at a
    exact a
end
end Go.AL

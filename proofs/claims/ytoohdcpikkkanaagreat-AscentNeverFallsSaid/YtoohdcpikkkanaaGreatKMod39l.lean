/-
  M, chapter 39: what happens along the paths, and how often it is expected.
-/
import Derived.Test.YtoohdcpikkkanaaGreatKMod39k
set_option linter.unusedVariables false
set_option linter.unusedSimpArgs false
namespace Go.AL
open Go Go.BigFrame
theorem lsum_add {α : Type} (f g : α → Rat) : ∀ l : List α, lsum (fun x => f x + g x) l = lsum f l + lsum g l
 | [] => (Rat.add_zero 0).symm
 | x :: l => by rw [lsum, lsum, lsum, lsum_add f g l]; grind
theorem lsum_zero9 {α : Type} {f : α → Rat} : ∀ {l : List α}, (∀ x, x ∈ l → f x = 0) → lsum f l = 0
 | [], _ => rfl
 | x :: l, h => by rw [lsum, h x (by simp), lsum_zero9 fun y hy => h y (by simp [hy]), Rat.add_zero]
theorem lsum_mulL {α : Type} (f : α → Rat) (c : Rat) : ∀ l : List α, lsum (fun x => c * f x) l = c * lsum f l
 | [] => (Rat.mul_zero c).symm
 | x :: l => by rw [lsum, lsum, lsum_mulL f c l, Rat.mul_add]
theorem lsum_idx {α : Type} (f : α → Rat) (d : α) : ∀ l : List α, sumN (fun i => f (l.getD i d)) l.length = lsum f l
 | [] => rfl
 | x :: l => by
  rw [List.length_cons, ← sumN_front, lsum, ← lsum_idx f d l]
  rfl
section
variable {h : HM} {w : List Int}
theorem paths_stepQ {Q : List Int → Bool} {t : Nat} (hQ : ∀ (p : List Int) (s : Nat), p.length = t + 1 → Q (p ++ [(s : Int)]) = Q p) (g : Nat → Rat) :
  lsum (fun p => if Q p = true then wgt h w p (t + 1 + 1) * g (atP p (t + 1)) else 0) (pathsF h.st (t + 1 + 1)) =
  lsum (fun p => if Q p = true then wgt h w p (t + 1) * sumN (fun s => trQ h (atP p t) s * (emQ h s (symX w (t + 1)) * g s)) h.st else 0) (pathsF h.st (t + 1)) := by
 rw [pathsF, lsum_flatMap]
 refine lsum_congr fun p hp => ?_
 have hl := (pathsF_mem hp).1
 rw [lsum_map, lsum_range]
 by_cases he : Q p = true
 ·rw [if_pos he, ← sumN_mulL]
  refine sumN_congr fun s _ => ?_
  rw [hQ p s hl, if_pos he, wgt, if_neg (by omega), wgt_snoc (by omega), atP_last (show t + 1 = p.length by omega), show t + 1 - 1 = t from rfl, atP_snoc (show t < p.length by omega)]
  grind
 ·rw [if_neg he]
  exact sumN_zero fun s _ => by rw [hQ p s hl, if_neg he]
theorem paths_onQ {Q : List Int → Bool} {a : Nat} (hQ : ∀ (p : List Int) (s : Nat), a + 1 ≤ p.length → Q (p ++ [(s : Int)]) = Q p) : ∀ {d : Nat}, a + d < w.length →
  lsum (fun p => if Q p = true then wgt h w p (a + d + 1) * (bwdF h w (w.length - 1 - (a + d))).getD (atP p (a + d)) 0 else 0) (pathsF h.st (a + d + 1)) = lsum (fun p => if Q p = true then wgt h w p (a + 1) * (bwdF h w (w.length - 1 - a)).getD (atP p a) 0 else 0) (pathsF h.st (a + 1))
 | 0, hd => rfl
 | d + 1, hd => by
  rw [← paths_onQ hQ (d := d) (by omega)]
  show lsum (fun p => if Q p = true then wgt h w p (a + d + 1 + 1) * (bwdF h w (w.length - 1 - (a + d + 1))).getD (atP p (a + d + 1)) 0 else 0) (pathsF h.st (a + d + 1 + 1)) = _
  rw [paths_stepQ (fun p s hp => hQ p s (by omega)) fun i => (bwdF h w (w.length - 1 - (a + d + 1))).getD i 0]
  refine lsum_congr fun p hp => ?_
  by_cases he : Q p = true
  ·have hl := (atP_lt (t := a + d) hp (by omega)).1
   rw [if_pos he, if_pos he, bwd_pos (d := w.length - 1 - (a + d)) (a := a + d) (by omega) (by omega) hl, show w.length - 1 - (a + d) - 1 = w.length - 1 - (a + d + 1) by omega]
   rfl
  ·rw [if_neg he, if_neg he]
theorem joint_pair {a i j : Nat} (ha : a + 1 < w.length) (hi : i < h.st) (hj : j < h.st) : lsum (fun p => if atP p a = i ∧ atP p (a + 1) = j then jointE h w p else 0) (pathsF h.st w.length) / likF h w = xiQ h w a i j := by
 have e := paths_onQ (h := h) (w := w) (Q := fun p => decide (atP p a = i ∧ atP p (a + 1) = j)) (a := a + 1) (fun p s hp => by rw [atP_snoc (show a < p.length by omega), atP_snoc (show a + 1 < p.length by omega)]) (d := w.length - 1 - (a + 1)) (by omega)
 rw [show a + 1 + (w.length - 1 - (a + 1)) = w.length - 1 by omega, show w.length - 1 + 1 = w.length by omega, Nat.sub_self] at e
 have e2 : lsum (fun p => if decide (atP p a = i ∧ atP p (a + 1) = j) = true then wgt h w p (a + 1 + 1) * (bwdF h w (w.length - 1 - (a + 1))).getD (atP p (a + 1)) 0 else 0) (pathsF h.st (a + 1 + 1)) = (fwdF h w a).getD i 0 * trQ h i j * (emQ h j (symX w (a + 1)) * (bwdF h w (w.length - 1 - (a + 1))).getD j 0) := by
  rw [pathsF, lsum_flatMap]
  have e3 := paths_end (h := h) (w := w) a fun q => if i = q then trQ h i j * (emQ h j (symX w (a + 1)) * (bwdF h w (w.length - 1 - (a + 1))).getD j 0) else 0
  have e4 : sumN (fun q => (fwdF h w a).getD q 0 * if i = q then trQ h i j * (emQ h j (symX w (a + 1)) * (bwdF h w (w.length - 1 - (a + 1))).getD j 0) else 0) h.st = (fwdF h w a).getD i 0 * trQ h i j * (emQ h j (symX w (a + 1)) * (bwdF h w (w.length - 1 - (a + 1))).getD j 0) := by
   rw [← sumN_pick (v := fun q => (fwdF h w a).getD q 0 * trQ h i j * (emQ h j (symX w (a + 1)) * (bwdF h w (w.length - 1 - (a + 1))).getD j 0)) hi]
   refine sumN_congr fun q _ => ?_
   by_cases hq : i = q
   ·rw [if_pos hq, if_pos hq, Rat.mul_assoc]
   ·rw [if_neg hq, if_neg hq, Rat.mul_zero]
  rw [← e4, ← e3]
  refine lsum_congr fun p hp => ?_
  have hl := (pathsF_mem hp).1
  rw [lsum_map, lsum_range]
  have e5 : ∀ s, s < h.st → (if decide (atP (p ++ [(s : Int)]) a = i ∧ atP (p ++ [(s : Int)]) (a + 1) = j) = true then wgt h w (p ++ [(s : Int)]) (a + 1 + 1) * (bwdF h w (w.length - 1 - (a + 1))).getD (atP (p ++ [(s : Int)]) (a + 1)) 0 else 0) = if j = s then wgt h w p (a + 1) * (if i = atP p a then trQ h i j * (emQ h j (symX w (a + 1)) * (bwdF h w (w.length - 1 - (a + 1))).getD j 0) else 0) else 0 := fun s _ => by
   have hw : wgt h w (p ++ [(s : Int)]) (a + 1 + 1) = wgt h w p (a + 1) * trQ h (atP p a) s * emQ h s (symX w (a + 1)) := by
    rw [wgt, if_neg (by omega), wgt_snoc (by omega), atP_last (show a + 1 = p.length by omega), show a + 1 - 1 = a from rfl, atP_snoc (show a < p.length by omega)]
   rw [hw, atP_last (show a + 1 = p.length by omega), atP_snoc (show a < p.length by omega)]
   by_cases hs : j = s
   ·subst hs
    by_cases hq : i = atP p a
    ·rw [if_pos (by simp [hq]), if_pos rfl, if_pos hq, ← hq]; grind
    ·rw [if_neg (by simpa using fun e => hq e.symm), if_pos rfl, if_neg hq, Rat.mul_zero]
   ·rw [if_neg (by simp; intro _ e; exact hs e.symm), if_neg hs]
  rw [sumN_congr e5, sumN_pick (v := fun _ => wgt h w p (a + 1) * (if i = atP p a then trQ h i j * (emQ h j (symX w (a + 1)) * (bwdF h w (w.length - 1 - (a + 1))).getD j 0) else 0)) hj]
 unfold xiQ
 rw [← e2, ← e]
 congr 1
 refine lsum_congr fun p hp => ?_
 by_cases he : atP p a = i ∧ atP p (a + 1) = j
 ·rw [if_pos he, if_pos (by simpa using he), jointE, if_neg (by omega), bwd_zero (atP_lt hp (by omega)).1]
 ·rw [if_neg he, if_neg (by simpa using he)]
abbrev Ev := Nat × Nat
def evW (n : Nat) (r : Nat → Nat) (w p : List Int) : Nat → List Ev
 | 0 => [(0, atP p 0)]
 | t + 1 => (1 + n + r (atP p t), symX w t) :: (if t = 0 then evW n r w p t else (1 + atP p (t - 1), atP p t) :: evW n r w p t)
def evs (n : Nat) (r : Nat → Nat) (w p : List Int) : List Ev := if w.length = 0 then [(0, n)] else (1 + atP p (w.length - 1), n) :: evW n r w p w.length
def pv (h : HM) (e : Ev) : Rat := if e.1 = 0 then (if e.2 < h.st then h.ini.getD e.2 0 else h.empty) else if e.1 ≤ h.st then (if e.2 < h.st then trQ h (e.1 - 1) e.2 else h.stop.getD (e.1 - 1) 0) else emQ h (e.1 - 1 - h.st) e.2
theorem pv_ini {i : Nat} (hi : i < h.st) : pv h (0, i) = h.ini.getD i 0 := by unfold pv; rw [if_pos rfl, if_pos hi]
theorem pv_empty : pv h (0, h.st) = h.empty := by unfold pv; rw [if_pos rfl, if_neg (Nat.lt_irrefl _)]
theorem pv_tr {i j : Nat} (hi : i < h.st) (hj : j < h.st) : pv h (1 + i, j) = trQ h i j := by
 unfold pv; rw [if_neg (by show 1 + i ≠ 0; omega), if_pos (show 1 + i ≤ h.st by omega), if_pos hj, show (1 + i, j).1 - 1 = i by show 1 + i - 1 = i; omega]
theorem pv_stop {i : Nat} (hi : i < h.st) : pv h (1 + i, h.st) = h.stop.getD i 0 := by
 unfold pv; rw [if_neg (by show 1 + i ≠ 0; omega), if_pos (show 1 + i ≤ h.st by omega), if_neg (Nat.lt_irrefl _), show (1 + i, h.st).1 - 1 = i by show 1 + i - 1 = i; omega]
theorem pv_em (c x : Nat) : pv h (1 + h.st + c, x) = emQ h c x := by
 unfold pv; rw [if_neg (by show 1 + h.st + c ≠ 0; omega), if_neg (by show ¬ 1 + h.st + c ≤ h.st; omega), show (1 + h.st + c, x).1 - 1 - h.st = c by show 1 + h.st + c - 1 - h.st = c; omega]
structure RepOK (h : HM) (r : Nat → Nat) : Prop where
 lt : ∀ i, i < h.st → r i < h.st
 em : ∀ i x, i < h.st → emQ h (r i) x = emQ h i x
theorem prod_evW {r : Nat → Nat} (hr : RepOK h r) {p : List Int} (hp : p ∈ pathsF h.st w.length) (hn : w.length ≠ 0) : ∀ t, t ≤ w.length → prodL (pv h) (evW h.st r w p t) = wgt h w p t
 | 0, _ => by rw [evW, prodL, prodL, Rat.mul_one, wgt, pv_ini (atP_lt hp (by omega)).1]
 | t + 1, ht => by
  have ih := prod_evW hr hp hn t (by omega)
  have h1 := (atP_lt (t := t) hp (by omega)).1
  rw [evW, prodL, pv_em, hr.em _ _ h1, wgt]
  by_cases h0 : t = 0
  ·rw [if_pos h0, if_pos h0, ih, Rat.mul_comm]
  ·rw [if_neg h0, if_neg h0, prodL, ih, pv_tr (atP_lt (t := t - 1) hp (by omega)).1 h1]; grind
theorem prod_evs {r : Nat → Nat} (hr : RepOK h r) {p : List Int} (hp : p ∈ pathsF h.st w.length) : prodL (pv h) (evs h.st r w p) = jointE h w p := by
 unfold evs jointE
 by_cases h0 : w.length = 0
 ·rw [if_pos h0, if_pos h0, prodL, prodL, Rat.mul_one, pv_empty]
 ·rw [if_neg h0, if_neg h0, prodL, prod_evW hr hp h0 _ (Nat.le_refl _), pv_stop (atP_lt hp (by omega)).1, Rat.mul_comm]
def cntE (e : Ev) (l : List Ev) : Rat := lsum (fun y => if y = e then 1 else 0) l
def b2 (c : Prop) [Decidable c] : Rat := if c then 1 else 0
theorem cnt_evW (e : Ev) (n : Nat) (r : Nat → Nat) (p : List Int) : ∀ t, cntE e (evW n r w p t) = b2 ((0, atP p 0) = e) + sumN (fun s => b2 ((1 + n + r (atP p s), symX w s) = e)) t + sumN (fun s => b2 ((1 + atP p s, atP p (s + 1)) = e)) (t - 1)
 | 0 => by show b2 _ + 0 = b2 _ + 0 + 0; grind
 | t + 1 => by
  have ih := cnt_evW e n r p t
  rw [evW]
  show b2 _ + cntE e (if t = 0 then _ else _) = _
  by_cases h0 : t = 0
  ·subst h0
   rw [if_pos rfl, ih]
   show _ = _ + (sumN _ 0 + b2 _) + sumN _ 0
   grind
  ·obtain ⟨m, rfl⟩ : ∃ m, t = m + 1 := ⟨t - 1, by omega⟩
   rw [if_neg h0]
   show b2 _ + (b2 _ + cntE e (evW n r w p (m + 1))) = _ + (sumN _ (m + 1) + b2 _) + (sumN _ m + b2 _)
   rw [ih]
   show _ = _ + (sumN _ (m + 1) + b2 _) + (sumN _ m + b2 ((1 + atP p m, atP p (m + 1)) = e))
   rw [show m + 1 - 1 = m from rfl]
   grind
theorem cnt_evs (e : Ev) (n : Nat) (r : Nat → Nat) (p : List Int) (h0 : w.length ≠ 0) : cntE e (evs n r w p) = b2 ((1 + atP p (w.length - 1), n) = e) + (b2 ((0, atP p 0) = e) + sumN (fun s => b2 ((1 + n + r (atP p s), symX w s) = e)) w.length + sumN (fun s => b2 ((1 + atP p s, atP p (s + 1)) = e)) (w.length - 1)) := by
 unfold evs
 rw [if_neg h0, ← cnt_evW]
 rfl
def avg (h : HM) (w : List Int) (f : List Int → Rat) : Rat := lsum (fun p => jointE h w p * f p) (pathsF h.st w.length) / likF h w
theorem div_add9 (a b c : Rat) : (a + b) / c = a / c + b / c := by rw [Rat.div_def, Rat.div_def, Rat.div_def, Rat.add_mul]
theorem avg_add (f g : List Int → Rat) : avg h w (fun p => f p + g p) = avg h w f + avg h w g := by
 unfold avg
 rw [← div_add9, ← lsum_add]
 congr 1
 exact lsum_congr fun p _ => Rat.mul_add ..
theorem avg_congr {f g : List Int → Rat} (hf : ∀ p, p ∈ pathsF h.st w.length → f p = g p) : avg h w f = avg h w g := by
 unfold avg
 congr 1
 exact lsum_congr fun p hp => by rw [hf p hp]
theorem avg_zero {f : List Int → Rat} (hf : ∀ p, p ∈ pathsF h.st w.length → f p = 0) : avg h w f = 0 := by
 unfold avg
 rw [lsum_zero9 fun p hp => by rw [hf p hp, Rat.mul_zero], Rat.div_def, Rat.zero_mul]
theorem avg_sum (f : Nat → List Int → Rat) : ∀ n, avg h w (fun p => sumN (fun s => f s p) n) = sumN (fun s => avg h w (f s)) n
 | 0 => avg_zero fun _ _ => rfl
 | n + 1 => by
  rw [sumN, ← avg_sum f n, ← avg_add]
  rfl
theorem avg_one (hz : likF h w ≠ 0) : avg h w (fun _ => 1) = 1 := by
 unfold avg
 rw [lsum_congr (g := jointE h w) fun p _ => Rat.mul_one _, joint_sum]
 exact div_self9 hz
theorem mul_b2 (x : Rat) (c : Prop) [Decidable c] : x * b2 c = if c then x else 0 := by
 unfold b2; split
 ·exact Rat.mul_one x
 ·exact Rat.mul_zero x
theorem avg_at {a j : Nat} (ha : a < w.length) (hj : j < h.st) : avg h w (fun p => b2 (atP p a = j)) = postQ h w a j := by
 rw [← joint_share ha hj]
 unfold avg
 congr 1
 exact lsum_congr fun p _ => mul_b2 ..
theorem avg_pair {a i j : Nat} (ha : a + 1 < w.length) (hi : i < h.st) (hj : j < h.st) : avg h w (fun p => b2 (atP p a = i ∧ atP p (a + 1) = j)) = xiQ h w a i j := by
 rw [← joint_pair ha hi hj]
 unfold avg
 congr 1
 exact lsum_congr fun p _ => mul_b2 ..
theorem b2_congr {c d : Prop} [Decidable c] [Decidable d] (h : c ↔ d) : b2 c = b2 d := by
 unfold b2
 by_cases hc : c
 ·rw [if_pos hc, if_pos (h.1 hc)]
 ·rw [if_neg hc, if_neg fun k => hc (h.2 k)]
theorem b2_no {c : Prop} [Decidable c] (h : ¬ c) : b2 c = 0 := if_neg h
def avc (h : HM) (r : Nat → Nat) (w : List Int) (e : Ev) : Rat := avg h w fun p => cntE e (evs h.st r w p)
theorem avc_split {r : Nat → Nat} (e : Ev) (h0 : w.length ≠ 0) : avc h r w e = avg h w (fun p => b2 ((1 + atP p (w.length - 1), h.st) = e)) + (avg h w (fun p => b2 ((0, atP p 0) = e)) + sumN (fun s => avg h w fun p => b2 ((1 + h.st + r (atP p s), symX w s) = e)) w.length + sumN (fun s => avg h w fun p => b2 ((1 + atP p s, atP p (s + 1)) = e)) (w.length - 1)) := by
 unfold avc
 rw [avg_congr fun p _ => cnt_evs e h.st r p h0, avg_add, avg_add, avg_add, avg_sum, avg_sum]
theorem pair_eq {a b c d : Nat} : ((a, b) : Ev) = (c, d) ↔ a = c ∧ b = d := by simp
theorem avc_ini {r : Nat → Nat} {i : Nat} (hi : i < h.st) (h0 : w.length ≠ 0) : avc h r w (0, i) = postQ h w 0 i := by
 rw [avc_split _ h0, avg_zero fun p _ => b2_no (by rw [pair_eq]; omega), sumN_zero fun s _ => avg_zero fun p _ => b2_no (by rw [pair_eq]; omega), sumN_zero fun s _ => avg_zero fun p _ => b2_no (by rw [pair_eq]; omega),
  avg_congr fun p _ => b2_congr (d := atP p 0 = i) (by rw [pair_eq]; omega), avg_at (by omega) hi]
 grind
theorem avc_empty {r : Nat → Nat} (h0 : w.length ≠ 0) : avc h r w (0, h.st) = 0 := by
 rw [avc_split _ h0, avg_zero fun p _ => b2_no (by rw [pair_eq]; omega), sumN_zero fun s _ => avg_zero fun p _ => b2_no (by rw [pair_eq]; omega), sumN_zero fun s _ => avg_zero fun p _ => b2_no (by rw [pair_eq]; omega),
  avg_zero fun p hp => b2_no (by have := (atP_lt (t := 0) hp (by omega)).1; rw [pair_eq]; omega)]
 grind
theorem avc_tr {r : Nat → Nat} {i j : Nat} (hi : i < h.st) (hj : j < h.st) (h0 : w.length ≠ 0) : avc h r w (1 + i, j) = moveQ h w (w.length - 1) i j := by
 rw [avc_split _ h0, avg_zero fun p _ => b2_no (by rw [pair_eq]; omega), avg_zero fun p _ => b2_no (by rw [pair_eq]; omega), sumN_zero fun s _ => avg_zero fun p _ => b2_no (by rw [pair_eq]; omega),
  sumN_congr (g := fun s => xiQ h w s i j) fun s hs => by rw [avg_congr fun p _ => b2_congr (d := atP p s = i ∧ atP p (s + 1) = j) (by rw [pair_eq]; omega), avg_pair (by omega) hi hj]]
 unfold moveQ
 grind
theorem avc_stop {r : Nat → Nat} {i : Nat} (hi : i < h.st) (h0 : w.length ≠ 0) : avc h r w (1 + i, h.st) = postQ h w (w.length - 1) i := by
 rw [avc_split _ h0, avg_congr fun p _ => b2_congr (d := atP p (w.length - 1) = i) (by rw [pair_eq]; omega), avg_at (by omega) hi, avg_zero fun p _ => b2_no (by rw [pair_eq]; omega), sumN_zero fun s _ => avg_zero fun p _ => b2_no (by rw [pair_eq]; omega),
  sumN_zero fun s hs => avg_zero fun p hp => b2_no (by have := (atP_lt (t := s + 1) hp (by omega)).1; rw [pair_eq]; omega)]
 grind
theorem avg_em {r : Nat → Nat} {c x s : Nat} (hs : s < w.length) : avg h w (fun p => b2 ((1 + h.st + r (atP p s), symX w s) = (1 + h.st + c, x))) = sumN (fun i => if r i = c then (if symX w s = x then postQ h w s i else 0) else 0) h.st := by
 have e : ∀ p, p ∈ pathsF h.st w.length → b2 ((1 + h.st + r (atP p s), symX w s) = (1 + h.st + c, x)) = sumN (fun i => if r i = c then (if symX w s = x then b2 (atP p s = i) else 0) else 0) h.st := fun p hp => by
  have hl := (atP_lt (t := s) hp hs).1
  have e1 : sumN (fun i => if r i = c then (if symX w s = x then b2 (atP p s = i) else 0) else 0) h.st = if r (atP p s) = c then (if symX w s = x then 1 else 0) else 0 := by
   rw [← sumN_pick (v := fun i => if r i = c then (if symX w s = x then (1 : Rat) else 0) else 0) hl]
   refine sumN_congr fun i _ => ?_
   unfold b2
   by_cases hq : atP p s = i
   ·rw [if_pos hq, if_pos hq]
   ·rw [if_neg hq, if_neg hq]; split
    ·split <;> rfl
    ·rfl
  rw [e1, b2_congr (d := r (atP p s) = c ∧ symX w s = x) (by rw [pair_eq]; omega)]
  unfold b2
  by_cases h1 : r (atP p s) = c
  ·by_cases h2 : symX w s = x
   ·rw [if_pos ⟨h1, h2⟩, if_pos h1, if_pos h2]
   ·rw [if_neg fun k => h2 k.2, if_pos h1, if_neg h2]
  ·rw [if_neg fun k => h1 k.1, if_neg h1]
 rw [avg_congr e, avg_sum]
 refine sumN_congr fun i hi => ?_
 by_cases h1 : r i = c
 ·by_cases h2 : symX w s = x
  ·simp only [if_pos h1, if_pos h2]; exact avg_at hs hi
  ·simp only [if_pos h1, if_neg h2]; exact avg_zero fun _ _ => rfl
 ·simp only [if_neg h1]; exact avg_zero fun _ _ => rfl
theorem avc_em {r : Nat → Nat} {c x : Nat} (h0 : w.length ≠ 0) : avc h r w (1 + h.st + c, x) = sumN (fun i => if r i = c then showQ h w w.length i x else 0) h.st := by
 rw [avc_split _ h0, avg_zero fun p hp => b2_no (by have := (atP_lt (t := w.length - 1) hp (by omega)).1; rw [pair_eq]; omega), avg_zero fun p _ => b2_no (by rw [pair_eq]; omega),
  sumN_zero (n := w.length - 1) fun s hs => avg_zero fun p hp => b2_no (by have := (atP_lt (t := s) hp (by omega)).1; rw [pair_eq]; omega),
  sumN_congr fun s hs => avg_em hs, sumN_swap, Rat.zero_add, Rat.zero_add, Rat.add_zero]
 refine sumN_congr fun i _ => ?_
 by_cases hr : r i = c
 ·rw [if_pos hr]; exact sumN_congr fun s _ => by rw [if_pos hr]
 ·rw [if_neg hr]; exact sumN_zero fun s _ => by rw [if_neg hr]
end
end Go.AL

/-
  M, chapter 37: the decoder that goes on symbol by symbol.
-/
import Derived.Test.YtjghehkgmanmbaaGreatKMod37
set_option linter.unusedVariables false
set_option linter.unusedSimpArgs false
namespace Go.AL
open Go Go.BigFrame
def lcpL : List Int → List Int → Nat
 | a :: x, b :: y => if a = b then lcpL x y + 1 else 0
 | _, _ => 0
theorem lcpL_spec : ∀ (x y : List Int), lcpL x y ≤ x.length ∧ lcpL x y ≤ y.length ∧ x.take (lcpL x y) = y.take (lcpL x y) ∧ ∀ m, m ≤ x.length → m ≤ y.length → x.take m = y.take m → m ≤ lcpL x y
 | [], y => ⟨Nat.zero_le _, Nat.zero_le _, rfl, fun m h _ _ => h⟩
 | a :: x, [] => ⟨Nat.zero_le _, Nat.zero_le _, rfl, fun m _ h _ => h⟩
 | a :: x, b :: y => by
  obtain ⟨h1, h2, h3, h4⟩ := lcpL_spec x y
  rw [lcpL]
  by_cases e : a = b
  ·rw [if_pos e]
   refine ⟨Nat.succ_le_succ h1, Nat.succ_le_succ h2, by rw [List.take_succ_cons, List.take_succ_cons, h3, e], fun m m1 m2 m3 => ?_⟩
   cases m with
   | zero => exact Nat.zero_le _
   | succ m =>
    rw [List.take_succ_cons, List.take_succ_cons] at m3
    exact Nat.succ_le_succ (h4 m (Nat.le_of_succ_le_succ m1) (Nat.le_of_succ_le_succ m2) (List.cons.inj m3).2)
  ·rw [if_neg e]
   refine ⟨Nat.zero_le _, Nat.zero_le _, rfl, fun m m1 m2 m3 => ?_⟩
   cases m with
   | zero => exact Nat.zero_le _
   | succ m =>
    rw [List.take_succ_cons, List.take_succ_cons] at m3
    exact absurd (List.cons.inj m3).1 e
def comF (al : Nat → Bool) (ps : Nat → List Int) : Nat → Int × List Int
 | 0 => (-1, [])
 | i + 1 => if al i = true then
   (if (comF al ps i).1 < 0 then (((min (ps i).length (lcpL (ps i) (ps i)) : Nat) : Int), ps i) else (((min (comF al ps i).1.toNat (lcpL (ps i) (comF al ps i).2) : Nat) : Int), (comF al ps i).2)) else comF al ps i
structure ComSpec (al : Nat → Bool) (ps : Nat → List Int) (n : Nat) (c : Int × List Int) : Prop where
 none : (∀ i, i < n → al i = false) → c = (-1, [])
 some : (∃ i, i < n ∧ al i = true) → 0 ≤ c.1 ∧ (∃ i, i < n ∧ al i = true ∧ c.2 = ps i) ∧ (∀ i, i < n → al i = true → c.1.toNat ≤ (ps i).length ∧ (ps i).take c.1.toNat = c.2.take c.1.toNat) ∧
  ∀ m, (∀ i, i < n → al i = true → m ≤ (ps i).length ∧ (ps i).take m = c.2.take m) → m ≤ c.1.toNat
theorem take_of_le {x y : List Int} {k m : Nat} (h : x.take k = y.take k) (hm : m ≤ k) : x.take m = y.take m := by
 have : (x.take k).take m = (y.take k).take m := by rw [h]
 rwa [List.take_take, List.take_take, Nat.min_eq_left hm] at this
theorem com_spec (al : Nat → Bool) (ps : Nat → List Int) : ∀ n, ComSpec al ps n (comF al ps n)
 | 0 => ⟨fun _ => rfl, fun ⟨i, hi, _⟩ => absurd hi (Nat.not_lt_zero i)⟩
 | n + 1 => by
  have ih := com_spec al ps n
  rw [comF]
  by_cases ha : al n = true
  ·rw [if_pos ha]
   refine ⟨fun h => (by rw [h n (Nat.lt_succ_self n)] at ha; cases ha), fun _ => ?_⟩
   by_cases he : ∃ i, i < n ∧ al i = true
   ·obtain ⟨h0, ⟨i0, hi0, ha0, e0⟩, h2, h3⟩ := ih.some he
    obtain ⟨l1, l2, l3, l4⟩ := lcpL_spec (ps n) (comF al ps n).2
    rw [if_neg (by omega)]
    refine ⟨by simp only []; omega, ⟨i0, by omega, ha0, e0⟩, fun i hi hai => ?_, fun m hm => ?_⟩
    ·simp only [Int.toNat_natCast]
     rcases Nat.lt_or_ge i n with h | h
     ·obtain ⟨g1, g2⟩ := h2 i h hai
      exact ⟨by omega, take_of_le g2 (Nat.min_le_left ..)⟩
     ·obtain rfl : i = n := by omega
      exact ⟨by omega, take_of_le l3 (Nat.min_le_right ..)⟩
    ·simp only [Int.toNat_natCast]
     have m1 := h3 m fun i hi hai => hm i (by omega) hai
     obtain ⟨g1, g2⟩ := hm n (Nat.lt_succ_self n) ha
     have m2 := l4 m g1 (by rw [e0]; have := (h2 i0 hi0 ha0).1; omega) g2
     omega
   ·have hno : ∀ i, i < n → al i = false := fun i hi => by
     cases hc : al i with
     | false => rfl
     | true => exact absurd ⟨i, hi, hc⟩ he
    obtain ⟨l1, l2, l3, l4⟩ := lcpL_spec (ps n) (ps n)
    have l5 := l4 (ps n).length (Nat.le_refl _) (Nat.le_refl _) rfl
    rw [ih.none hno, if_pos (by decide)]
    refine ⟨by simp only []; omega, ⟨n, Nat.lt_succ_self n, ha, rfl⟩, fun i hi hai => ?_, fun m hm => ?_⟩
    ·simp only [Int.toNat_natCast]
     rcases Nat.lt_or_ge i n with h | h
     ·rw [hno i h] at hai; cases hai
     ·obtain rfl : i = n := by omega
      exact ⟨by omega, rfl⟩
    ·simp only [Int.toNat_natCast]
     have := (hm n (Nat.lt_succ_self n) ha).1
     omega
  ·rw [if_neg ha]
   have hf : al n = false := by cases hc : al n with | false => rfl | true => exact absurd hc ha
   refine ⟨fun h => ih.none fun i hi => h i (by omega), fun ⟨i, hi, hai⟩ => ?_⟩
   have he : ∃ i, i < n ∧ al i = true := ⟨i, (by rcases Nat.lt_or_ge i n with h | h; exact h; obtain rfl : i = n := (by omega); rw [hf] at hai; cases hai), hai⟩
   obtain ⟨h0, ⟨i0, hi0, ha0, e0⟩, h2, h3⟩ := ih.some he
   refine ⟨h0, ⟨i0, by omega, ha0, e0⟩, fun i hi hai => h2 i (by rcases Nat.lt_or_ge i n with h | h; exact h; obtain rfl : i = n := (by omega); rw [hf] at hai; cases hai) hai, fun m hm => h3 m fun i hi hai => hm i (by omega) hai⟩
def comK (al : Nat → Bool) (ps : Nat → List Int) (n : Nat) : Nat := (comF al ps n).1.toNat
theorem com_same {al : Nat → Bool} {ps : Nat → List Int} {n i j : Nat} (hi : i < n) (hj : j < n) (hai : al i = true) (haj : al j = true) : comK al ps n ≤ (ps i).length ∧ (ps i).take (comK al ps n) = (ps j).take (comK al ps n) := by
 obtain ⟨_, _, h2, _⟩ := (com_spec al ps n).some ⟨i, hi, hai⟩
 exact ⟨(h2 i hi hai).1, (h2 i hi hai).2.trans (h2 j hj haj).2.symm⟩
theorem com_drop {al : Nat → Bool} {ps : Nat → List Int} {n : Nat} (he : ∃ i, i < n ∧ al i = true) : (comF al (fun i => (ps i).drop (comK al ps n)) n).1 = 0 := by
 obtain ⟨g0, ⟨j, hj, haj, ej⟩, g2, _⟩ := (com_spec al (fun i => (ps i).drop (comK al ps n)) n).some he
 obtain ⟨h0, ⟨i, hi, hai, ei⟩, h2, h3⟩ := (com_spec al ps n).some he
 generalize comF al (fun i => (ps i).drop (comK al ps n)) n = c at g0 ej g2
 have hk : comK al ps n = (comF al ps n).1.toNat := rfl
 by_cases hc : c.1 = 0
 ·exact hc
 ·exfalso
  have h4 := h3 (comK al ps n + c.1.toNat) fun k hkn hak => by
   obtain ⟨a1, a2⟩ := g2 k hkn hak
   obtain ⟨b1, b2⟩ := h2 k hkn hak
   obtain ⟨d1, d2⟩ := g2 i hi hai
   rw [List.length_drop] at a1
   refine ⟨by omega, ?_⟩
   rw [List.take_add, List.take_add, hk, b2, ei]
   rw [← hk, a2, ← d2]
  omega
structure Dec where
 t : Nat
 sc : List Rat
 tl : List (List Int)
 dn : List Int
def betterP (x : Rat) (y : List Int) (m : Rat × List Int) : Prop := m.1 < x ∨ (x = m.1 ∧ 0 < x ∧ cmpL y m.2 < 0)
instance (x : Rat) (y : List Int) (m : Rat × List Int) : Decidable (betterP x y m) := by unfold betterP; infer_instance
def comeQ (h : HM) (o : Dec) (j i : Nat) : Rat := o.sc.getD i 0 * trQ h i j
def pickF (h : HM) (o : Dec) (j : Nat) : Nat → Rat × List Int
 | 0 => (if o.t = 0 then h.ini.getD j 0 else 0, [])
 | i + 1 => if betterP (comeQ h o j i) (o.tl.getD i []) (pickF h o j i) then (comeQ h o j i, o.tl.getD i []) else pickF h o j i
def newS (h : HM) (o : Dec) (x j : Nat) : Rat := (pickF h o j o.sc.length).1 * emQ h j x
def newT (h : HM) (o : Dec) (x j : Nat) : List Int := if 0 < newS h o x j then (pickF h o j o.sc.length).2 ++ [(j : Int)] else []
def aliveN (h : HM) (o : Dec) (x j : Nat) : Bool := decide (0 < newS h o x j)
def keepK (h : HM) (o : Dec) (x : Nat) : Nat := comK (aliveN h o x) (newT h o x) h.st
def cmtF (h : HM) (o : Dec) (x : Nat) : Nat → List Int
 | 0 => []
 | i + 1 => if aliveN h o x i = true then (newT h o x i).take (keepK h o x) else cmtF h o x i
def stepD (h : HM) (o : Dec) (x : Nat) : Dec := ⟨o.t + 1, (List.range h.st).map (newS h o x), (List.range h.st).map fun j => (newT h o x j).drop (keepK h o x), o.dn ++ cmtF h o x h.st⟩
def someN (h : HM) (o : Dec) (x : Nat) : Nat → Bool
 | 0 => false
 | j + 1 => if 0 < newS h o x j then true else someN h o x j
theorem someN_iff {h : HM} {o : Dec} {x : Nat} : ∀ {n : Nat}, someN h o x n = true ↔ ∃ j, j < n ∧ 0 < newS h o x j
 | 0 => ⟨fun e => (by rw [someN] at e; cases e), fun ⟨j, hj, _⟩ => absurd hj (Nat.not_lt_zero j)⟩
 | n + 1 => by
  rw [someN]
  by_cases e : 0 < newS h o x n
  ·rw [if_pos e]; exact ⟨fun _ => ⟨n, Nat.lt_succ_self n, e⟩, fun _ => rfl⟩
  ·rw [if_neg e, someN_iff]
   exact ⟨fun ⟨j, hj, k⟩ => ⟨j, by omega, k⟩, fun ⟨j, hj, k⟩ => ⟨j, by rcases Nat.lt_or_ge j n with h1 | h1; exact h1; obtain rfl : j = n := (by omega); exact absurd k e, k⟩⟩
section
variable {h : HM} {bb B : Nat} {u : List Int} {o : Dec}
structure Heads (h : HM) (u : List Int) (t : Nat) (S : Nat → Rat) (Q : Nat → List Int) : Prop where
 nonneg : ∀ j, j < h.st → 0 ≤ S j
 max : ∀ p, p ∈ pathsF h.st t → wgt h u p t ≤ S (atP p (t - 1))
 live : ∀ j, j < h.st → 0 < S j → Q j ∈ pathsF h.st t ∧ atP (Q j) (t - 1) = j ∧ wgt h u (Q j) t = S j ∧ ∀ p, p ∈ pathsF h.st t → atP p (t - 1) = j → wgt h u p t = S j → cmpL (Q j) p ≤ 0
structure InvD (h : HM) (u : List Int) (o : Dec) : Prop where
 le : o.t ≤ u.length
 zero : o.t = 0 → o.sc = [] ∧ o.tl = [] ∧ o.dn = []
 len : o.t ≠ 0 → o.sc.length = h.st ∧ o.tl.length = h.st
 heads : o.t ≠ 0 → Heads h u o.t (fun j => o.sc.getD j 0) fun j => o.dn ++ o.tl.getD j []
 dead : ∀ j, ¬ 0 < o.sc.getD j 0 → o.tl.getD j [] = []
 some : o.t ≠ 0 → ∃ j, j < h.st ∧ 0 < o.sc.getD j 0
 com : o.t ≠ 0 → (comF (fun j => decide (0 < o.sc.getD j 0)) (fun j => o.tl.getD j []) h.st).1 = 0
 small : Small (1 + 2048 * o.t) o.sc
structure PickSpec (h : HM) (o : Dec) (j n : Nat) (m : Rat × List Int) : Prop where
 nonneg : 0 ≤ m.1
 le : ∀ i, i < n → comeQ h o j i ≤ m.1
 pos : 0 < m.1 → ∃ i, i < n ∧ m = (comeQ h o j i, o.tl.getD i [])
 least : 0 < m.1 → ∀ i, i < n → comeQ h o j i = m.1 → cmpL m.2 (o.tl.getD i []) ≤ 0
theorem pick_spec (ht : o.t ≠ 0) (j : Nat) : ∀ n, PickSpec h o j n (pickF h o j n)
 | 0 => by
  rw [pickF, if_neg ht]
  exact ⟨Rat.le_refl, fun i hi => absurd hi (Nat.not_lt_zero i), fun e => absurd e (by show ¬ (0 : Rat) < 0; decide), fun e => absurd e (by show ¬ (0 : Rat) < 0; decide)⟩
 | n + 1 => by
  have ih := pick_spec ht j n
  rw [pickF]
  split
  ·rename_i hb
   rcases hb with hb | ⟨hb1, hb2, hb3⟩
   ·have hp : 0 < comeQ h o j n := Std.lt_of_le_of_lt ih.nonneg hb
    refine ⟨Rat.le_of_lt hp, fun i hi => ?_, fun _ => ⟨n, Nat.lt_succ_self n, rfl⟩, fun _ i hi he => ?_⟩
    ·rcases Nat.lt_or_ge i n with h1 | h1
     ·exact Rat.le_trans (ih.le i h1) (Rat.le_of_lt hb)
     ·obtain rfl : i = n := by omega
      exact Rat.le_refl
    ·rcases Nat.lt_or_ge i n with h1 | h1
     ·exact absurd (Std.lt_of_le_of_lt (ih.le i h1) hb) (by simp only at he; rw [he]; exact Rat.lt_irrefl)
     ·obtain rfl : i = n := by omega
      rw [cmpL_self]; decide
   ·refine ⟨Rat.le_of_lt hb2, fun i hi => ?_, fun _ => ⟨n, Nat.lt_succ_self n, rfl⟩, fun _ i hi he => ?_⟩
    ·rcases Nat.lt_or_ge i n with h1 | h1
     ·rw [hb1]; exact ih.le i h1
     ·obtain rfl : i = n := by omega
      exact Rat.le_refl
    ·rcases Nat.lt_or_ge i n with h1 | h1
     ·exact cmpL_trans (by simp only; omega) (ih.least (by rw [← hb1]; exact hb2) i h1 (by rw [← hb1]; exact he))
     ·obtain rfl : i = n := by omega
      rw [cmpL_self]; decide
  ·rename_i hb
   have hle : comeQ h o j n ≤ (pickF h o j n).1 := Rat.not_lt.1 fun e => hb (.inl e)
   refine ⟨ih.nonneg, fun i hi => ?_, fun hp => ?_, fun hp i hi he => ?_⟩
   ·rcases Nat.lt_or_ge i n with h1 | h1
    ·exact ih.le i h1
    ·obtain rfl : i = n := by omega
     exact hle
   ·obtain ⟨i, hi, e⟩ := ih.pos hp
    exact ⟨i, by omega, e⟩
   ·rcases Nat.lt_or_ge i n with h1 | h1
    ·exact ih.least hp i h1 he
    ·obtain rfl : i = n := by omega
     have h2 : ¬ cmpL (o.tl.getD i []) (pickF h o j i).2 < 0 := fun e => hb (.inr ⟨he, by rw [he]; exact hp, e⟩)
     have := cmpL_neg (o.tl.getD i []) (pickF h o j i).2
     omega
theorem pos_of_mul {a b : Rat} (ha : 0 ≤ a) (hb : 0 ≤ b) (h : 0 < a * b) : 0 < a ∧ 0 < b := by
 refine ⟨Rat.lt_of_le_of_ne ha fun e => ?_, Rat.lt_of_le_of_ne hb fun e => ?_⟩
 ·rw [← e, Rat.zero_mul] at h; exact absurd h (by decide)
 ·rw [← e, Rat.mul_zero] at h; exact absurd h (by decide)
theorem snoc_parts {n t s : Nat} {q : List Int} (hq : q ∈ pathsF n t) : atP (q ++ [(s : Int)]) t = s := atP_last ((pathsF_mem hq).1.symm)
theorem cmt_take {x : Nat} : ∀ {n : Nat}, n ≤ h.st → (∃ j, j < n ∧ 0 < newS h o x j) → ∀ i, i < h.st → 0 < newS h o x i → cmtF h o x n = (newT h o x i).take (keepK h o x)
 | 0, _, ⟨j, hj, _⟩, _, _, _ => absurd hj (Nat.not_lt_zero j)
 | n + 1, hn, ⟨j, hj, hp⟩, i, hi, hpi => by
  rw [cmtF]
  by_cases e : 0 < newS h o x n
  ·rw [if_pos (show aliveN h o x n = true from decide_eq_true e)]
   exact (com_same (al := aliveN h o x) (ps := newT h o x) (n := h.st) (by omega) hi (decide_eq_true e) (decide_eq_true hpi)).2
  ·rw [if_neg (by rw [aliveN, decide_eq_false e]; decide)]
   exact cmt_take (by omega) ⟨j, by rcases Nat.lt_or_ge j n with h1 | h1; exact h1; obtain rfl : j = n := (by omega); exact absurd hp e, hp⟩ i hi hpi
theorem getD_map_out {α : Type} {n j : Nat} {f : Nat → α} {d : α} (hj : ¬ j < n) : ((List.range n).map f).getD j d = d := getD_ge (by rw [List.length_map, List.length_range]; omega)
end
end Go.AL

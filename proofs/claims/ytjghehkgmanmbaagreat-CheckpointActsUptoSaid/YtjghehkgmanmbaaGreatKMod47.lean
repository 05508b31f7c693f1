/-
  M, part 47: columns from any column on.
-/
import Derived.Test.YtjghehkgmanmbaaGreatKMod37
import Derived.Test.YtjghehkgmanmbaaGreatKMod46
set_option linter.unusedVariables false
set_option linter.unusedSimpArgs false
namespace Go.AL
open Go Go.BigFrame
def lcpL : List Int → List Int → Nat
 | a :: x, b :: y => if a = b then lcpL x y + 1 else 0
 | _, _ => 0
def comF (al : Nat → Bool) (ps : Nat → List Int) : Nat → Int × List Int
 | 0 => (-1, [])
 | i + 1 => if al i = true then
   (if (comF al ps i).1 < 0 then (((min (ps i).length (lcpL (ps i) (ps i)) : Nat) : Int), ps i) else (((min (comF al ps i).1.toNat (lcpL (ps i) (comF al ps i).2) : Nat) : Int), (comF al ps i).2)) else comF al ps i
structure ComSpec (al : Nat → Bool) (ps : Nat → List Int) (n : Nat) (c : Int × List Int) : Prop where
 none : (∀ i, i < n → al i = false) → c = (-1, [])
 some : (∃ i, i < n ∧ al i = true) → 0 ≤ c.1 ∧ (∃ i, i < n ∧ al i = true ∧ c.2 = ps i) ∧ (∀ i, i < n → al i = true → c.1.toNat ≤ (ps i).length ∧ (ps i).take c.1.toNat = c.2.take c.1.toNat) ∧
  ∀ m, (∀ i, i < n → al i = true → m ≤ (ps i).length ∧ (ps i).take m = c.2.take m) → m ≤ c.1.toNat
structure Dec where
 t : Nat
 sc : List Rat
 tl : List (List Int)
 dn : List Int
def betterP (x : Rat) (y : List Int) (m : Rat × List Int) : Prop := m.1 < x ∨ (x = m.1 ∧ 0 < x ∧ cmpL y m.2 < 0)
instance (x : Rat) (y : List Int) (m : Rat × List Int) : Decidable (betterP x y m) := by unfold betterP; infer_instance
def comeQ (h : HM) (o : Dec) (j i : Nat) : Rat := o.sc.getD i 0 * trQ h i j
section
variable {h : HM} {bb B : Nat} {u : List Int} {o : Dec}
structure Heads (h : HM) (u : List Int) (t : Nat) (S : Nat → Rat) (Q : Nat → List Int) : Prop where
 nonneg : ∀ j, j < h.st → 0 ≤ S j
 max : ∀ p, p ∈ pathsF h.st t → wgt h u p t ≤ S (atP p (t - 1))
 live : ∀ j, j < h.st → 0 < S j → Q j ∈ pathsF h.st t ∧ atP (Q j) (t - 1) = j ∧ wgt h u (Q j) t = S j ∧ ∀ p, p ∈ pathsF h.st t → atP p (t - 1) = j → wgt h u p t = S j → cmpL (Q j) p ≤ 0
structure InvD (h : HM) (u : List Int) (o : Dec) : Prop where
 le : o.t ≤ u.length
 zero : o.t = 0 → o.sc = [] ∧ o.tl = [] ∧ o.dn = []
 len : o.t ≠ 0 → o.sc.length = h.st ∧ o.tl.length = h.st
 heads : o.t ≠ 0 → Heads h u o.t (fun j => o.sc.getD j 0) fun j => o.dn ++ o.tl.getD j []
 dead : ∀ j, ¬ 0 < o.sc.getD j 0 → o.tl.getD j [] = []
 some : o.t ≠ 0 → ∃ j, j < h.st ∧ 0 < o.sc.getD j 0
 com : o.t ≠ 0 → (comF (fun j => decide (0 < o.sc.getD j 0)) (fun j => o.tl.getD j []) h.st).1 = 0
 small : Small (1 + 2048 * o.t) o.sc
structure PickSpec (h : HM) (o : Dec) (j n : Nat) (m : Rat × List Int) : Prop where
 nonneg : 0 ≤ m.1
 le : ∀ i, i < n → comeQ h o j i ≤ m.1
 pos : 0 < m.1 → ∃ i, i < n ∧ m = (comeQ h o j i, o.tl.getD i [])
 least : 0 < m.1 → ∀ i, i < n → comeQ h o j i = m.1 → cmpL m.2 (o.tl.getD i []) ≤ 0
theorem pos_of_mul {a b : Rat} (ha : 0 ≤ a) (hb : 0 ≤ b) (h : 0 < a * b) : 0 < a ∧ 0 < b := by
 refine ⟨Rat.lt_of_le_of_ne ha fun e => ?_, Rat.lt_of_le_of_ne hb fun e => ?_⟩
 ·rw [← e, Rat.zero_mul] at h; exact absurd h (by decide)
 ·rw [← e, Rat.mul_zero] at h; exact absurd h (by decide)
theorem snoc_parts {n t s : Nat} {q : List Int} (hq : q ∈ pathsF n t) : atP (q ++ [(s : Int)]) t = s := atP_last ((pathsF_mem hq).1.symm)
end
end Go.AL

set_option linter.unusedVariables false
set_option linter.unusedSimpArgs false
namespace Go.AL
open Go Go.BigFrame
def endQ (h : HM) (o : Dec) (i : Nat) : Rat := o.sc.getD i 0 * h.stop.getD i 0
structure FinSpec (h : HM) (o : Dec) (n : Nat) (m : Rat × List Int) : Prop where
 nonneg : 0 ≤ m.1
 le : ∀ i, i < n → endQ h o i ≤ m.1
 pos : 0 < m.1 → ∃ i, i < n ∧ m = (endQ h o i, o.tl.getD i [])
 least : 0 < m.1 → ∀ i, i < n → endQ h o i = m.1 → cmpL m.2 (o.tl.getD i []) ≤ 0
section
variable {h : HM} {bb B : Nat} {u : List Int} {o : Dec}
theorem upto_end {p : List Int} (hp : p ∈ pathsF h.st u.length) (hn : 0 < u.length) : upto h u p u.length = wgt h u p u.length * h.stop.getD (atP p (u.length - 1)) 0 := by
 unfold upto
 rw [follow_last (atP_lt hp (show u.length - 1 < u.length by omega)).1]
structure TimesOK (ts : List Int) (n : Nat) : Prop where
 ge : ∀ s, s < ts.length → (s : Int) + 1 ≤ ts.getD s 0
 le : ∀ s, s < ts.length → ts.getD s 0 ≤ n
 mono : ∀ s, s + 1 < ts.length → ts.getD s 0 ≤ ts.getD (s + 1) 0
end
end Go.AL

set_option linter.unusedVariables false
set_option linter.unusedSimpArgs false
namespace Go.AL
open Go Go.BigFrame
def putW (x : Rat) (y : List Int) (m : Rat × List Int) : Rat × List Int := if betterP x y m then (x, y) else m
def wayN (h : HM) (v : Nat → Rat × List Int) (x j : Nat) : Nat → Rat × List Int
 | 0 => (0, [])
 | i + 1 => putW ((v i).1 * trQ h i j * emQ h j x) ((v i).2 ++ [(j : Int)]) (wayN h v x j i)
def wayF (h : HM) (w : List Int) : Nat → Nat → Rat × List Int
 | 0, _ => (0, [])
 | t + 1, j => if t = 0 then putW (h.ini.getD j 0 * emQ h j (symX w 0)) [(j : Int)] (0, []) else wayN h (wayF h w t) (symX w t) j h.st
theorem putW_zero {y : List Int} {m : Rat × List Int} (h : 0 ≤ m.1) : putW 0 y m = m := if_neg fun k => k.elim (fun k => absurd k (Rat.not_lt.2 h)) fun k => absurd k.2.1 (by decide)
theorem putW_first {x : Rat} {y z : List Int} (h : 0 < x) : putW x y (0, z) = (x, y) := if_pos (.inl h)
theorem putW_nonneg {x : Rat} {y : List Int} {m : Rat × List Int} (h : 0 ≤ m.1) (hx : 0 ≤ x) : 0 ≤ (putW x y m).1 := by unfold putW; split; exact hx; exact h
theorem putW_fst {x : Rat} {y : List Int} {m : Rat × List Int} : (putW x y m).1 = if m.1 < x then x else m.1 := by
 unfold putW
 by_cases h : m.1 < x
 ·rw [if_pos (show betterP x y m from .inl h), if_pos h]
 ·rw [if_neg h]
  by_cases k : betterP x y m
  ·rw [if_pos k]; exact (Or.resolve_left k h).1
  ·rw [if_neg k]
section
variable {h : HM} {bb B : Nat} {u : List Int} {o : Dec}
theorem wayN_nonneg (g : HM.GoodX bb B h) {v : Nat → Rat × List Int} (hv : ∀ i, 0 ≤ (v i).1) (x j : Nat) : ∀ n, 0 ≤ (wayN h v x j n).1
 | 0 => Rat.le_refl
 | n + 1 => by
  rw [wayN]
  exact putW_nonneg (wayN_nonneg g hv x j n) (Rat.mul_nonneg (Rat.mul_nonneg (hv n) (tr_nonneg g n j)) (em_nonneg g j x))
theorem wayF_nonneg (g : HM.GoodX bb B h) (w : List Int) : ∀ t j, 0 ≤ (wayF h w t j).1
 | 0, _ => Rat.le_refl
 | t + 1, j => by
  rw [wayF]
  split
  ·exact putW_nonneg Rat.le_refl (Rat.mul_nonneg (ini_nonneg g j) (em_nonneg g j _))
  ·exact wayN_nonneg g (wayF_nonneg g w t) _ j _
theorem wayN_len (g : HM.GoodX bb B h) {v : Nat → Rat × List Int} {n : Nat} (h0 : ∀ i, 0 ≤ (v i).1) (hv : ∀ i, 0 < (v i).1 → (v i).2.length = n) (x j : Nat) : ∀ k, 0 < (wayN h v x j k).1 → (wayN h v x j k).2.length = n + 1
 | 0, e => absurd e (by show ¬ (0 : Rat) < 0; decide)
 | k + 1, e => by
  rw [wayN, putW] at e ⊢
  by_cases hb : betterP ((v k).1 * trQ h k j * emQ h j x) ((v k).2 ++ [(j : Int)]) (wayN h v x j k)
  ·rw [if_pos hb] at e ⊢
   have a := (pos_of_mul (Rat.mul_nonneg (h0 k) (tr_nonneg g k j)) (em_nonneg g j x) e).1
   have b := (pos_of_mul (h0 k) (tr_nonneg g k j) a).1
   simp only [List.length_append, List.length_singleton, hv k b]
  ·rw [if_neg hb] at e ⊢
   exact wayN_len g h0 hv x j k e
theorem wayF_len (g : HM.GoodX bb B h) (w : List Int) : ∀ t j, 0 < (wayF h w t j).1 → (wayF h w t j).2.length = t
 | 0, _, e => absurd e (by show ¬ (0 : Rat) < 0; decide)
 | t + 1, j, e => by
  rw [wayF] at e ⊢
  by_cases h0 : t = 0
  ·subst h0
   rw [if_pos rfl, putW] at e ⊢
   by_cases hb : betterP (h.ini.getD j 0 * emQ h j (symX w 0)) [(j : Int)] (0, [])
   ·rw [if_pos hb]; rfl
   ·rw [if_neg hb] at e; exact absurd e (by show ¬ (0 : Rat) < 0; decide)
  ·rw [if_neg h0] at e ⊢
   exact wayN_len g (wayF_nonneg g w t) (wayF_len g w t) _ j h.st e
def colN (h : HM) (c : List Rat) (j : Nat) : Nat → Rat
 | 0 => if c.length = 0 then h.ini.getD j 0 else 0
 | i + 1 => if colN h c j i < c.getD i 0 * trQ h i j then c.getD i 0 * trQ h i j else colN h c j i
def endW (h : HM) (v : Nat → Rat × List Int) : Nat → Rat × List Int
 | 0 => (0, [])
 | i + 1 => putW ((v i).1 * h.stop.getD i 0) (v i).2 (endW h v i)
end
end Go.AL

set_option linter.unusedVariables false
set_option linter.unusedSimpArgs false
namespace Go.AL
open Go Go.BigFrame
def colX (h : HM) (x : Nat) (c : List Rat) : List Rat := (List.range h.st).map fun j => colN h c j c.length * emQ h j x
section
variable {h : HM} {bb B : Nat} {w : List Int}
theorem endW_len {v : Nat → Rat × List Int} {n : Nat} (g : HM.GoodX bb B h) (h0 : ∀ i, 0 ≤ (v i).1) (hv : ∀ i, 0 < (v i).1 → (v i).2.length = n) : ∀ k, 0 < (endW h v k).1 → (endW h v k).2.length = n
 | 0, e => absurd e (by show ¬ (0 : Rat) < 0; decide)
 | k + 1, e => by
  rw [endW, putW] at e ⊢
  by_cases hb : betterP ((v k).1 * h.stop.getD k 0) (v k).2 (endW h v k)
  ·rw [if_pos hb] at e ⊢
   exact hv k (pos_of_mul (h0 k) (stop_nonneg g k) e).1
  ·rw [if_neg hb] at e ⊢
   exact endW_len g h0 hv k e
theorem endW_nonneg {v : Nat → Rat × List Int} (g : HM.GoodX bb B h) (h0 : ∀ i, 0 ≤ (v i).1) : ∀ k, 0 ≤ (endW h v k).1
 | 0 => Rat.le_refl
 | k + 1 => by
  rw [endW]
  exact putW_nonneg (endW_nonneg g h0 k) (Rat.mul_nonneg (h0 k) (stop_nonneg g k))
end
end Go.AL

set_option linter.unusedVariables false
set_option linter.unusedSimpArgs false
namespace Go.AL
open Go Go.BigFrame
section
variable {h : HM} {B : Nat}
theorem tr_szV (f : HM.FormX 1048576 B h) (i j : Nat) : sz (trQ h i j) ≤ 1048576 := Nat.le_trans ((f.zT i).get f.b1 j) f.bB
theorem em_szV (f : HM.FormX 1048576 B h) (i x : Nat) : sz (emQ h i x) ≤ 1048576 := Nat.le_trans ((f.zM i).get f.b1 x) f.bB
theorem ini_szV (f : HM.FormX 1048576 B h) (i : Nat) : sz (h.ini.getD i 0) ≤ 1048576 := Nat.le_trans (f.zI.get f.b1 i) f.bB
theorem colN_szW (f : HM.FormX 1048576 B h) {c : List Rat} {C : Nat} (hc : Small C c) (hC : 1 ≤ C) (j : Nat) : ∀ n, sz (colN h c j n) ≤ C + 1048576
 | 0 => by
  rw [colN]
  split
  ·have := ini_szV f j; omega
  ·rw [sz_zero]; omega
 | n + 1 => by
  rw [colN]
  split
  ·have a := hc.get hC n
   have b := tr_szV f n j
   have d := sz_mul (c.getD n 0) (trQ h n j)
   omega
  ·exact colN_szW f hc hC j n
theorem colX_szW (f : HM.FormX 1048576 B h) {c : List Rat} {C : Nat} (hc : Small C c) (hC : 1 ≤ C) (x : Nat) : Small (C + 2097152) (colX h x c) := fun q hq => by
 obtain ⟨j, _, rfl⟩ := List.mem_map.1 hq
 have a := colN_szW f hc hC j c.length
 have b := em_szV f j x
 have d := sz_mul (colN h c j c.length) (emQ h j x)
 omega
end
def colG (h : HM) (w : List Int) (fr : Nat) (c : List Rat) : Nat → List Rat
 | 0 => c
 | m + 1 => colX h (symX w (fr + m)) (colG h w fr c m)
def colsG (h : HM) (w : List Int) (fr : Nat) (c : List Rat) (n : Nat) : List (List Rat) := (List.range n).map fun m => colG h w fr c (m + 1)
theorem colsG_len (h : HM) (w : List Int) (fr : Nat) (c : List Rat) (n : Nat) : (colsG h w fr c n).length = n := by simp [colsG]
theorem colsG_succ (h : HM) (w : List Int) (fr : Nat) (c : List Rat) (n : Nat) : colsG h w fr c (n + 1) = colsG h w fr c n ++ [colG h w fr c (n + 1)] := by
 unfold colsG; rw [List.range_succ, List.map_append]; rfl
theorem colG_len (h : HM) (w : List Int) (fr : Nat) (c : List Rat) (m : Nat) : (colG h w fr c (m + 1)).length = h.st := by simp [colG, colX]
theorem colG_sz {h : HM} {B : Nat} (f : HM.FormX 1048576 B h) (w : List Int) (fr : Nat) {c : List Rat} (hc : Small 1048576 c) : ∀ m, Small (1048576 + 2097152 * m) (colG h w fr c m)
 | 0 => hc
 | m + 1 => (colX_szW f (colG_sz f w fr hc m) (by omega) _).mono (by omega)
theorem chkP_rng {h : RM} (c : chkP h = 0) : h.Rng ∧ h.Fm := by
 have hE : chkE h = 0 := by
  classical
  unfold chkP at c
  split at c
  ·rename_i h1; exact absurd c h1
  ·rename_i h1; exact Classical.byContradiction h1
 exact chkE_form (by rw [hE]; exact ⟨by decide, by decide⟩)
theorem chkP_st {h : RM} (c : chkP h = 0) : ((hm h).st : Int) = h.st := by
 have := (chkP_rng c).1.2
 show ((h.st.toNat : Nat) : Int) = _
 omega
open Classical in
noncomputable def colA (h : RM) (w : List Int) (fr to : Int) (c : List Raw) : List (List Rat) × Int :=
 if ¬ wrdE h w = 0 then ([], wrdE h w) else if fr < 0 ∨ to < fr ∨ (w.length : Int) ≤ to then ([], 1) else if ¬ ((c.length : Int) = if fr = 0 then 0 else h.st) ∨ ¬ SharesR c then ([], 4) else (colsG (hm h) w fr.toNat (c.map Raw.q) (to - fr + 1).toNat, 0)
theorem colA_e {h : RM} {w : List Int} {fr to : Int} {c : List Raw} (e : ¬ wrdE h w = 0) : colA h w fr to c = ([], wrdE h w) := by unfold colA; rw [if_pos e]
theorem colA_1 {h : RM} {w : List Int} {fr to : Int} {c : List Raw} (e : wrdE h w = 0) (r : fr < 0 ∨ to < fr ∨ (w.length : Int) ≤ to) : colA h w fr to c = ([], 1) := by unfold colA; rw [if_neg (fun n => n e), if_pos r]
theorem colA_4 {h : RM} {w : List Int} {fr to : Int} {c : List Raw} (e : wrdE h w = 0) (r : ¬ (fr < 0 ∨ to < fr ∨ (w.length : Int) ≤ to)) (k : ¬ ((c.length : Int) = if fr = 0 then 0 else h.st) ∨ ¬ SharesR c) : colA h w fr to c = ([], 4) := by unfold colA; rw [if_neg (fun n => n e), if_neg r, if_pos k]
theorem colA_0 {h : RM} {w : List Int} {fr to : Int} {c : List Raw} (e : wrdE h w = 0) (r : ¬ (fr < 0 ∨ to < fr ∨ (w.length : Int) ≤ to)) (k : (c.length : Int) = if fr = 0 then 0 else h.st) (s : SharesR c) : colA h w fr to c = (colsG (hm h) w fr.toNat (c.map Raw.q) (to - fr + 1).toNat, 0) := by
 unfold colA; rw [if_neg (fun n => n e), if_neg r, if_neg (fun n => n.elim (fun x => x k) fun x => x s)]
end Go.AL

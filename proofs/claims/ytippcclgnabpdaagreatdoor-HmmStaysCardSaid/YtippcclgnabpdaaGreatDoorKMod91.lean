/-
  M, chapter 23: weights of words by the arcs, and all words of at most three symbols of two.
-/
import Derived.Test.YtippcclgnabpdaaGreatDoorKMod85
set_option linter.unusedVariables false
set_option linter.unusedSimpArgs false
namespace Go.AL
open Go Go.BigFrame
section
variable {r : SRow} {w t : List Rat} {rs : List SRow} {k n : Nat}
theorem SzR.last (z : SzR 16777215 rs) (hl : rs.length ≤ 6) (zv : ∀ i, sz (w.getD i 0) ≤ 16777215) : (∀ i, sz ((redV rs w).getD i 0) ≤ 68719476735) ∧ ∀ i, sz ((takenS rs w).getD i 0) ≤ 68719476735 := by
 have h4 : 4 ^ rs.length * (16777215 + 1) ≤ 68719476736 := by
  have := Nat.pow_le_pow_right (n := 4) (by decide) hl
  have := Nat.mul_le_mul_right (16777215 + 1) this
  omega
 have h1 := fun i => z.red zv i
 have h2 := fun i => z.redC (by decide) zv rs.length i
 refine ⟨fun i => ?_, fun i => ?_⟩
 ·have := h1 i; omega
 ·have := h2 i
  unfold takenS; omega
end
end Go.AL

set_option linter.unusedVariables false
set_option linter.unusedSimpArgs false
namespace Go.AL
open Go Go.BigFrame
section
variable {a b : Au} {B k : Nat} {l out : List Arc9} {x : Arc9}
theorem insA_szB (h : ∀ y, y ∈ out → sz y.q ≤ (k + 1) * (B + 2)) (hx : sz x.q ≤ B) : ∀ y, y ∈ insA out x → sz y.q ≤ (k + 2) * (B + 2) := by
 have up : ∀ n, n ≤ (k + 1) * (B + 2) → n ≤ (k + 2) * (B + 2) := fun n hn => Nat.le_trans hn (Nat.mul_le_mul_right _ (by omega))
 intro y hy
 have h2 : (k + 2) * (B + 2) = (k + 1) * (B + 2) + (B + 2) := Nat.succ_mul _ _
 unfold insA at hy
 split at hy
 ·rename_i hc
  rcases List.mem_or_eq_of_mem_set hy with hy | rfl
  ·exact up _ (h y hy)
  ·have h1 := h _ (getD_mem hc.1 default)
   have h3 := sz_add (out.getD (atA out x) default).q x.q
   show sz ((out.getD (atA out x) default).q + x.q) ≤ _
   omega
 ·rcases List.mem_append.1 hy with hy | hy
  ·exact up _ (h y (List.mem_of_mem_take hy))
  ·rcases List.mem_cons.1 hy with rfl | hy
   ·omega
   ·exact up _ (h y (List.mem_of_mem_drop hy))
theorem foldI_sz : ∀ (l out : List Arc9) (k : Nat), (∀ x, x ∈ l → sz x.q ≤ B) → (∀ y, y ∈ out → sz y.q ≤ (k + 1) * (B + 2)) → ∀ y, y ∈ l.foldl insA out → sz y.q ≤ (k + l.length + 1) * (B + 2)
 | [], out, k, _, h => h
 | x :: l, out, k, hz, h => by
  rw [List.foldl_cons, List.length_cons, show k + (l.length + 1) + 1 = (k + 1) + l.length + 1 by omega]
  exact foldI_sz l _ (k + 1) (fun y hy => hz y (List.mem_cons_of_mem _ hy)) (insA_szB h (hz x (List.mem_cons_self ..)))
theorem insA_len9 (out : List Arc9) (x : Arc9) : (insA out x).length ≤ out.length + 1 := by
 unfold insA
 split
 ·rw [List.length_set]; omega
 ·rw [List.length_append, List.length_cons, List.length_take, List.length_drop]; omega
theorem foldI_len : ∀ (l out : List Arc9), (l.foldl insA out).length ≤ out.length + l.length
 | [], out => Nat.le_refl _
 | x :: l, out => by
  rw [List.foldl_cons, List.length_cons]
  have := foldI_len l (insA out x)
  have := insA_len9 out x
  omega
theorem formA_len (l : List Arc9) : (formA l).length ≤ l.length := by
 unfold formA nzA
 refine Nat.le_trans (List.length_filter_le ..) ?_
 have := foldI_len l []
 rw [List.length_nil, Nat.zero_add] at this
 exact this
theorem formA_sz (hz : ∀ x, x ∈ l → sz x.q ≤ B) : ∀ y, y ∈ formA l → sz y.q ≤ (l.length + 1) * (B + 2) := fun y hy => by
 have := foldI_sz l [] 0 hz (fun y hy => by cases hy) y (List.mem_filter.1 hy).1
 rwa [Nat.zero_add] at this
theorem Au.Sz.wide (h : a.Sz 1 10) : a.Sz 134217728 20 :=
 ⟨fun q hq => Nat.le_trans (h.ini q hq) (by decide), fun q hq => Nat.le_trans (h.fin q hq) (by decide), fun x hx => Nat.le_trans (h.arc x hx) (by decide), Nat.le_trans h.num (by decide)⟩
theorem Au.Sz.form (h : a.Sz 1 10) : (formOf a).Sz 134217728 20 := by
 refine ⟨h.wide.ini, h.wide.fin, fun x hx => ?_, Nat.le_trans (formA_len a.arcs) (Nat.le_trans h.num (by decide))⟩
 have h1 := formA_sz h.arc x hx
 have h2 := Nat.mul_le_mul_right (1 + 2) (show a.arcs.length + 1 ≤ 11 by have := h.num; omega)
 omega
theorem Au.Few.form (h : a.Few) : (formOf a).Few := ⟨h.st, h.ini, h.fin, fun s i j => by rw [show entA (formOf a).arcs s i j = entA a.arcs s i j from entA_form]; exact h.ent s i j⟩
end
end Go.AL

set_option linter.unusedVariables false
set_option linter.unusedSimpArgs false
namespace Go.AL
open Go Go.BigFrame
section
variable {a b : Au} {B N K : Nat} {q : Rat} {s i j : Nat}
theorem Au.Sz.up {B2 N2 : Nat} (h : a.Sz B N) (hb : B ≤ B2) (hn : N ≤ N2) : a.Sz B2 N2 :=
 ⟨fun q hq => Nat.le_trans (h.ini q hq) hb, fun q hq => Nat.le_trans (h.fin q hq) hb, fun x hx => Nat.le_trans (h.arc x hx) hb, Nat.le_trans h.num hn⟩
end
end Go.AL

set_option linter.unusedVariables false
set_option linter.unusedSimpArgs false
namespace Go.AL
open Go Go.BigFrame
section
variable {a b : Au} {n s i j k : Nat} {v w out : List Rat} {l : List Arc9} {x : Arc9}
theorem take_snoc9 {α : Type} (d : α) {l : List α} {i : Nat} (h : i < l.length) : l.take (i + 1) = l.take i ++ [l.getD i d] := by
 rw [List.take_succ_eq_append_getElem h, List.getD_eq_getElem?_getD, List.getElem?_eq_getElem h]; rfl
def addF (v : List Rat) (s : Nat) (out : List Rat) (x : Arc9) : List Rat := if x.l = s then out.set x.t (out.getD x.t 0 + v.getD x.f 0 * x.q) else out
def stepF (n : Nat) (v : List Rat) (s : Nat) (l : List Arc9) : List Rat := l.foldl (addF v s) (List.replicate n 0)
theorem addF_len : (addF v s out x).length = out.length := by unfold addF; split <;> simp
theorem stepF_len : (stepF n v s l).length = n := by
 have : ∀ (l : List Arc9) (out : List Rat), (l.foldl (addF v s) out).length = out.length := fun l => by
  induction l with
  | nil => exact fun _ => rfl
  | cons x l ih => exact fun out => by rw [List.foldl_cons, ih, addF_len]
 unfold stepF
 rw [this, List.length_replicate]
theorem stepF_snoc (h : i < l.length) : stepF n v s (l.take (i + 1)) = addF v s (stepF n v s (l.take i)) (l.getD i default) := by
 unfold stepF
 rw [take_snoc9 default h, List.foldl_append]; rfl
theorem getD_set9 {l : List Rat} {y : Rat} (hi : i < l.length) : (l.set i y).getD j 0 = if i = j then y else l.getD j 0 := by
 rw [List.getD_eq_getElem?_getD, List.getElem?_set, List.getD_eq_getElem?_getD]
 by_cases h : i = j
 ·subst h; rw [if_pos rfl, if_pos hi, if_pos rfl]; rfl
 ·rw [if_neg h, if_neg h]
def inF (v : List Rat) (s j : Nat) (x : Arc9) : Rat := if x.l = s ∧ x.t = j then v.getD x.f 0 * x.q else 0
theorem foldF_get : ∀ (l : List Arc9) (out : List Rat), (∀ x, x ∈ l → x.t < out.length) → (l.foldl (addF v s) out).getD j 0 = out.getD j 0 + lsum (inF v s j) l
 | [], out, _ => by rw [List.foldl_nil, lsum, Rat.add_zero]
 | x :: l, out, h => by
  have hx := h x (List.mem_cons_self ..)
  rw [List.foldl_cons, foldF_get l _ (fun y hy => by rw [addF_len]; exact h y (List.mem_cons_of_mem _ hy)), lsum, ← Rat.add_assoc]
  congr 1
  unfold addF inF
  by_cases hl : x.l = s
  ·rw [if_pos hl, getD_set9 hx]
   by_cases ht : x.t = j
   ·rw [if_pos ht, if_pos ⟨hl, ht⟩, ht]
   ·rw [if_neg ht, if_neg (fun e => ht e.2), Rat.add_zero]
  ·rw [if_neg hl, if_neg (fun e => hl e.1), Rat.add_zero]
theorem rep_get : (List.replicate n (0 : Rat)).getD j 0 = 0 := by
 rw [List.getD_eq_getElem?_getD, List.getElem?_replicate]
 split <;> rfl
theorem stepF_get (h : ∀ x, x ∈ l → x.t < n) : (stepF n v s l).getD j 0 = lsum (inF v s j) l := by
 unfold stepF
 rw [foldF_get l _ (fun x hx => by rw [List.length_replicate]; exact h x hx), rep_get, Rat.zero_add]
theorem sum_ent (l : List Arc9) (hf : ∀ x, x ∈ l → x.f < n) : sumN (fun i => v.getD i 0 * entA l k i j) n = lsum (inF v (k + 1) j) l := by
 induction l with
 | nil => rw [lsum]; exact sumN_zero fun i _ => by rw [entA_nil, Rat.mul_zero]
 | cons x l ih =>
  rw [lsum, ← ih fun y hy => hf y (List.mem_cons_of_mem _ hy)]
  have e : (fun i => v.getD i 0 * entA (x :: l) k i j) = fun i => v.getD i 0 * pickA k i j x + v.getD i 0 * entA l k i j := by
   funext i
   rw [entA_cons, Rat.mul_add]
  rw [e, sumN_add]
  congr 1
  unfold inF
  by_cases hc : x.l = k + 1 ∧ x.t = j
  ·rw [if_pos hc]
   have e2 : (fun i => v.getD i 0 * pickA k i j x) = fun i => if x.f = i then v.getD i 0 * x.q else 0 := by
    funext i
    unfold pickA
    by_cases hi : x.f = i
    ·rw [if_pos ⟨hi, hc.1, hc.2⟩, if_pos hi]
    ·rw [if_neg (fun e => hi e.1), if_neg hi, Rat.mul_zero]
   rw [e2, sumN_pick (v := fun i => v.getD i 0 * x.q) (hf x (List.mem_cons_self ..))]
  ·rw [if_neg hc]
   exact sumN_zero fun i _ => by
    unfold pickA
    rw [if_neg (fun e => hc ⟨e.2.1, e.2.2⟩), Rat.mul_zero]
theorem stepF_step (ha : a.Ok) (s1 : 1 ≤ s) (s2 : s ≤ a.sym) : stepF a.st v s a.arcs = stepM (machL [a]) v (s - 1) := by
 have hn : (machL [a]).n = a.st := size_one
 refine List.ext_getElem (by rw [stepF_len, stepM_len, hn]) fun j h1 h2 => ?_
 rw [stepF_len] at h1
 have e1 : (stepF a.st v s a.arcs)[j] = (stepF a.st v s a.arcs).getD j 0 := by rw [List.getD_eq_getElem?_getD, List.getElem?_eq_getElem]; rfl
 have e2 : (stepM (machL [a]) v (s - 1))[j] = (stepM (machL [a]) v (s - 1)).getD j 0 := by rw [List.getD_eq_getElem?_getD, List.getElem?_eq_getElem]; rfl
 rw [e1, e2, stepF_get fun x hx => (ha.arc x hx).2.1]
 unfold stepM
 rw [hn, map_getD_range _ _ h1]
 have e3 : s - 1 + 1 = s := by omega
 rw [show lsum (inF v s j) a.arcs = lsum (inF v (s - 1 + 1) j) a.arcs by rw [e3], ← sum_ent (n := a.st) a.arcs fun x hx => (ha.arc x hx).1]
 refine sumN_congr fun i hi => ?_
 rw [machL_ent (l := [a]) (by show s - 1 < a.sym; omega) (by rw [size_one]; exact hi) (by rw [size_one]; exact h1)]
 show _ = _ * (if i < a.st then (if j < a.st then entA a.arcs (s - 1) i j else 0) else _)
 rw [if_pos hi, if_pos h1]
def fwA (a : Au) (u : List Int) : List Rat := u.foldl (fun v x => stepF a.st v x.toNat a.arcs) a.ini
theorem fwA_snoc {u : List Int} (h : i < u.length) : fwA a (u.take (i + 1)) = stepF a.st (fwA a (u.take i)) (u.getD i 0).toNat a.arcs := by
 unfold fwA
 rw [take_snoc9 0 h, List.foldl_append]; rfl
theorem fwA_len (ha : a.Ok) (u : List Int) : (fwA a u).length = a.st := by
 have : ∀ (u : List Int) (v : List Rat), v.length = a.st → (u.foldl (fun v x => stepF a.st v x.toNat a.arcs) v).length = a.st := fun u => by
  induction u with
  | nil => exact fun _ h => h
  | cons x u ih => exact fun v _ => ih _ stepF_len
 exact this u a.ini ha.ini
theorem fwA_vec (ha : a.Ok) {u : List Int} (hu : InW a.sym u) : fwA a u = vecM (machL [a]) u := by
 have : ∀ (u : List Int) (v : List Rat), InW a.sym u → u.foldl (fun v x => stepF a.st v x.toNat a.arcs) v = u.foldl (fun v x => stepM (machL [a]) v (x.toNat - 1)) v := fun u => by
  induction u with
  | nil => exact fun _ _ => rfl
  | cons x u ih =>
   intro v hx
   have h1 := hx x (List.mem_cons_self ..)
   rw [List.foldl_cons, List.foldl_cons, stepF_step ha (by omega) (by omega)]
   exact ih _ fun y hy => hx y (List.mem_cons_of_mem _ hy)
 unfold fwA vecM
 rw [this u a.ini hu, show (machL [a]).ini = a.ini from List.append_nil _]
def dotF (v w : List Rat) (i : Nat) : Rat := sumN (fun i => v.getD i 0 * w.getD i 0) i
theorem dotF_ser (ha : a.Ok) {u : List Int} (hu : InW a.sym u) : dotF (fwA a u) a.fin a.st = serA a u := by
 rw [fwA_vec ha hu]
 unfold dotF serA wtM dotM
 rw [show (machL [a]).n = a.st from size_one, show (machL [a]).fin = a.fin from List.append_nil _]
end
end Go.AL

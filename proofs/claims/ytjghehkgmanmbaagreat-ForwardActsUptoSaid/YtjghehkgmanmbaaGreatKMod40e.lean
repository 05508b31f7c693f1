/-
  M, chapter 40, part 5: different runs have disjoint intervals; the runs of all lists of bits.
-/
import Derived.Test.YtjghehkgmanmbaaGreatKMod40b
import Derived.KernelRfl
import Derived.Test.YtjghehkgmanmbaaGreatKNumb
set_option linter.unusedVariables false
set_option linter.unusedSimpArgs false
namespace Go.AL
open Go Go.BigFrame
deriving instance DecidableEq for Drawing
theorem sz_half : sz (1 / 2) = 1 := by decide +kernel
theorem coin_good : coinHM.Good 1 := by
 have hs : Small 1 [1 / 2] := Small.one (by rw [sz_half]; decide)
 have hs2 : Small 1 [1 / 2, 1 / 2] := Small.cons (by rw [sz_half]; decide) hs
 have p2 : Share (1 / 2) := by decide +kernel
 have sh : Shares [1 / 2] := fun q hq => by rw [List.mem_singleton.1 hq]; exact p2
 have sh2 : Shares [1 / 2, 1 / 2] := fun q hq => by
  rcases List.mem_cons.1 hq with rfl | hq
  ·exact p2
  ·exact sh q hq
 have i0 : ∀ i, i < coinHM.st → i = 0 := fun i hi => by have : i < 1 := hi; omega
 have row : ∀ (x : List Rat) (i : Nat), i ≠ 0 → [x].getD i [] = [] := fun x i hi => getD_ge (by simp; omega)
 refine ⟨⟨by decide, by decide, by decide, by decide, rfl, rfl, fun i hi => by rw [i0 i hi]; rfl, rfl, rfl, fun i hi => by rw [i0 i hi]; rfl, rfl, rfl, fun i hi => by rw [i0 i hi]; decide, by decide, by decide, by rw [show coinHM.empty = 0 from rfl, sz_zero]; decide, Small.one (by rw [sz_one]; decide), hs, fun i => ?_, fun i => ?_⟩,
  by decide +kernel, fun q hq => by rw [List.mem_singleton.1 hq]; decide +kernel, sh, fun i => ?_, fun i => ?_, by decide +kernel, fun i hi => by rw [i0 i hi]; decide +kernel, fun i hi => by rw [i0 i hi]; decide +kernel, fun i j hi hj _ => by have := i0 i hi; omega⟩
 ·by_cases hi : i = 0
  ·subst hi; exact hs
  ·show Small 1 ([[1 / 2]].getD i []); rw [row _ i hi]; exact Small.nil
 ·by_cases hi : i = 0
  ·subst hi; exact hs2
  ·show Small 1 ([[1 / 2, 1 / 2]].getD i []); rw [row _ i hi]; exact Small.nil
 ·by_cases hi : i = 0
  ·subst hi; exact sh
  ·show Shares ([[1 / 2]].getD i []); rw [row _ i hi]; intro q hq; simp at hq
 ·by_cases hi : i = 0
  ·subst hi; exact sh2
  ·show Shares ([[1 / 2, 1 / 2]].getD i []); rw [row _ i hi]; intro q hq; simp at hq
end Go.AL

set_option linter.unusedVariables false
set_option linter.unusedSimpArgs false
namespace Go.AL
open Go Go.BigFrame
def stepQ (h : HM) (fr : Int) (i : Nat) : Rat := if 0 ≤ fr then (h.trans.getD fr.toNat []).getD i 0 else h.ini.getD i 0
def viaQ (h : HM) (fr : Int) (x : Nat) (rest : List Rat) (i : Nat) : Rat := stepQ h fr i * (h.emit.getD i []).getD x 0 * rest.getD i 0
def aheadF (h : HM) (fr : Int) (x : Nat) (rest : List Rat) : Nat → Rat × Nat
 | 0 => (0, 0)
 | i + 1 => if (aheadF h fr x rest i).1 < viaQ h fr x rest i then (viaQ h fr x rest i, i) else aheadF h fr x rest i
def symX (w : List Int) (t : Nat) : Nat := (w.getD t 0).toNat - 1
def WordOK (h : HM) (w : List Int) : Prop := w.length ≤ 256 ∧ ∀ x, x ∈ w → 1 ≤ x ∧ x ≤ h.sym
theorem WordOK.get {h : HM} {w : List Int} (k : WordOK h w) {t : Nat} (ht : t < w.length) : 1 ≤ w.getD t 0 ∧ w.getD t 0 ≤ h.sym := k.2 _ (getD_mem ht 0)
theorem WordOK.symX {h : HM} {w : List Int} (k : WordOK h w) {t : Nat} (ht : t < w.length) : Go.AL.symX w t < h.sym ∧ w.getD t 0 = ((Go.AL.symX w t + 1 : Nat) : Int) := by
 have := k.get ht
 unfold Go.AL.symX
 omega
theorem map_getD_range {α : Type} {n k : Nat} (f : Nat → α) (d : α) (hk : k < n) : ((List.range n).map f).getD k d = f k := by
 rw [List.getD_eq_getElem?_getD, List.getElem?_map, List.getElem?_range hk]; rfl
def fillF {α : Type} (d : α) (g : Nat → α) (n i : Nat) : List α := (List.range n).map fun j => if j < i then g j else d
theorem fillF_len {α : Type} (d : α) (g : Nat → α) (n i : Nat) : (fillF d g n i).length = n := by simp [fillF]
theorem fillF_zero {α : Type} (d : α) (g : Nat → α) (n : Nat) : fillF d g n 0 = List.replicate n d := by
 refine List.ext_getElem (by simp [fillF]) fun k h1 h2 => ?_
 simp [fillF]
theorem fillF_set {α : Type} {d : α} {g : Nat → α} {n i : Nat} (hi : i < n) : (fillF d g n i).set i (g i) = fillF d g n (i + 1) := by
 refine List.ext_getElem (by simp [fillF]) fun k h1 h2 => ?_
 rw [List.getElem_set]
 simp only [fillF, List.getElem_map, List.getElem_range]
 by_cases he : i = k
 ·subst he; rw [if_pos rfl, if_pos (by omega)]
 ·rw [if_neg he]
  by_cases h3 : k < i
  ·rw [if_pos h3, if_pos (by omega)]
  ·rw [if_neg h3, if_neg (by omega)]
theorem fillF_all {α : Type} (d : α) (g : Nat → α) (n : Nat) : fillF d g n n = (List.range n).map g := by
 refine List.map_congr_left fun j hj => ?_
 rw [if_pos (List.mem_range.1 hj)]
end Go.AL

set_option linter.unusedVariables false
set_option linter.unusedSimpArgs false
namespace Go.AL
open Go Go.BigFrame
def rdN (bits : List Int) : Nat → Rd
 | 0 => ⟨0, .one⟩
 | n + 1 => (rdN bits n).step bits
theorem firstK_spec {read s : Span} {ch : List Rat} {k : Nat} (h : firstK read s ch = some k) : Sure read s ch k := by
 have := List.find?_some h
 exact of_decide_eq_true this
theorem firstK_not {read s : Span} {ch : List Rat} (h : firstK read s ch = none) : ∀ j, j < ch.length → ¬ Sure read s ch j := fun j hj e => by
 have := List.find?_eq_none.1 h j (List.mem_range.2 hj)
 exact this (decide_eq_true e)
theorem choose_spec {bits : List Int} {s : Span} {ch : List Rat} {r r1 : Rd} {k : Nat} (h : chooseB bits s ch r = some (k, r1)) (hr : r = rdN bits r.used) :
  r1 = rdN bits r1.used ∧ Sure r1.read s ch k ∧ r.used ≤ r1.used ∧ ∀ v, r.used ≤ v → v < r1.used → ∀ j, j < ch.length → ¬ Sure (rdN bits v).read s ch j := by
 rw [chooseB] at h
 split at h
 ·rename_i k' hk
  cases h
  exact ⟨hr, firstK_spec hk, Nat.le_refl _, fun v h1 h2 => by omega⟩
 ·rename_i hk
  split at h
  ·rename_i hlt
   have hs : r.step bits = rdN bits (r.step bits).used := by
    show r.step bits = rdN bits (r.used + 1)
    rw [rdN, ← hr]
   obtain ⟨a1, a2, a3, a4⟩ := choose_spec h hs
   have e : (r.step bits).used = r.used + 1 := rfl
   refine ⟨a1, a2, by omega, fun v h1 h2 j hj => ?_⟩
   rcases Nat.lt_or_ge r.used v with hv | hv
   ·exact a4 v (by omega) h2 j hj
   ·obtain rfl : v = r.used := by omega
    rw [← hr]
    exact firstK_not hk j hj
  ·cases h
termination_by bits.length - r.used
decreasing_by simp only [Rd.step]; omega
theorem sumQ_nonneg : ∀ {l : List Rat}, (∀ q, q ∈ l → 0 ≤ q) → 0 ≤ sumQ l
 | [], _ => by rw [sumQ_nil]; decide
 | x :: l, h => by
  rw [sumQ_cons]
  have h1 := h x (List.mem_cons_self ..)
  have h2 := sumQ_nonneg (l := l) fun q hq => h q (List.mem_cons_of_mem _ hq)
  grind
theorem sumQ_take_le {l : List Rat} (h : ∀ q, q ∈ l → 0 ≤ q) (k : Nat) : sumQ (l.take k) ≤ sumQ l := by
 have e : sumQ l = sumQ (l.take k) + sumQ (l.drop k) := by rw [← sumQ_app, List.take_append_drop]
 have := sumQ_nonneg (l := l.drop k) fun q hq => h q (List.mem_of_mem_drop hq)
 grind
structure Fair (ch : List Rat) : Prop where
 pos : ∀ q, q ∈ ch → 0 ≤ q
 sum : sumQ ch = 1
def spF (h : HM) (st w : List Int) : Nat → Span × Option Nat
 | 0 => (.one, none)
 | t + 1 => ((((spF h st w t).1.part (h.next (spF h st w t).2) (st.getD t 0).toNat).part (h.emit.getD (st.getD t 0).toNat []) ((w.getD t 0).toNat - 1)), some (st.getD t 0).toNat)
def rangeS (h : HM) (st w : List Int) : Span := (spF h st w w.length).1.part (h.next (spF h st w w.length).2) h.st
def RunOK (h : HM) (st w : List Int) : Prop := st.length = w.length ∧ w.length ≤ 256 ∧ (∀ x, x ∈ st → 0 ≤ x ∧ x < h.st) ∧ ∀ x, x ∈ w → 1 ≤ x ∧ x ≤ h.sym
theorem RunOK.word {h : HM} {st w : List Int} (k : RunOK h st w) : WordOK h w := ⟨k.2.1, k.2.2.2⟩
end Go.AL

set_option linter.unusedVariables false
set_option linter.unusedSimpArgs false
namespace Go.AL
open Go Go.BigFrame
def Span.before (s t : Span) : Prop := s.lo + s.len ≤ t.lo
def StepsOK (h : HM) (r : List (Nat × Nat)) : Prop := ∀ p, p ∈ r → p.1 < h.st ∧ p.2 < h.sym
theorem StepsOK.tail {h : HM} {p : Nat × Nat} {r : List (Nat × Nat)} (k : StepsOK h (p :: r)) : StepsOK h r := fun q hq => k q (List.mem_cons_of_mem _ hq)
end Go.AL

/-
  AL, part 27: a region whose order is open, by what each of its operations does wherever it comes.
-/
import Derived.Test.YtjghehkgmanmbaaGreatKAlg26
set_option linter.unusedVariables false
set_option linter.unusedSimpArgs false
namespace Go.AL
open Go Go.BigFrame
def pS (s0 : S) (val : Nat → (Nat → Nat × Nat) → V) (blk : Nat → (Nat → Nat × Nat) → Option Blk) (own : Nat → Option Nat) (β : Nat → Nat × Nat) (L : Array Bool) : S :=
  ⟨fun t => match own t with | some i => if L.getD i false = true then val t β else s0.ρ t | none => s0.ρ t,
   fun t => match own t with | some i => if L.getD i false = true then (match blk t β with | some b => some b | none => s0.M t) else s0.M t | none => s0.M t⟩
def depB (ops : Array Oper) (i j : Nat) : Bool := match ops[i]? with | some o => o.after.toList.any fun e => Region.binds .any e && e.on == j | none => false
structure Come (ops : Array Oper) (L : Array Bool) (i : Nat) : Prop where
 size : L.size = ops.size
 no : L.getD i false = false
 dep : ∀ j, depB ops i j = true → L.getD j false = true
 closed : ∀ k j, L.getD k false = true → depB ops k j = true → L.getD j false = true
section
variable {P : Program} {E : Env} {s0 : S} {val : Nat → (Nat → Nat × Nat) → V} {blk : Nat → (Nat → Nat × Nat) → Option Blk} {own : Nat → Option Nat} {β : Nat → Nat × Nat} {L : Array Bool}
theorem pS_old {t : Nat} (h : own t = none) : (pS s0 val blk own β L).ρ t = s0.ρ t := by simp only [pS, h]
theorem pS_new {t i : Nat} (h : own t = some i) (hi : L.getD i false = true) : (pS s0 val blk own β L).ρ t = val t β := by simp only [pS, h, hi, if_true]
theorem pS_M0 {t i : Nat} (h : own t = some i) (hi : L.getD i false = false) : (pS s0 val blk own β L).M t = s0.M t := by
 simp only [pS, h]
 rw [if_neg (by rw [hi]; decide)]
theorem pS_Mold {t : Nat} (h : own t = none) : (pS s0 val blk own β L).M t = s0.M t := by simp only [pS, h]
theorem pS_M {t i : Nat} {b : Blk} (h : own t = some i) (hi : L.getD i false = true) (hb : blk t β = some b) : (pS s0 val blk own β L).M t = some b := by simp only [pS, h, hi, if_true, hb]
theorem pS_none (hL : ∀ i, L.getD i false = false) : pS s0 val blk own β L = s0 := by
 cases s0 with
 | mk ρ M =>
  simp only [pS, S.mk.injEq]
  constructor
  ·funext t
   cases own t with
   | none => rfl
   | some i => simp [hL i]
  ·funext t
   cases own t with
   | none => rfl
   | some i => simp [hL i]
theorem getD_set_b {i j : Nat} (hi : i < L.size) : (L.setIfInBounds i true).getD j false = if j = i then true else L.getD j false := by
 simp only [Array.getD_eq_getD_getElem?, Array.getElem?_setIfInBounds]
 by_cases hji : i = j
 ·subst hji; simp [hi]
 ·simp [hji, Ne.symm hji]
theorem S_ext {a b : S} (h1 : ∀ t, a.ρ t = b.ρ t) (h2 : ∀ t, a.M t = b.M t) : a = b := by
 cases a; cases b
 simp only [S.mk.injEq]
 exact ⟨funext h1, funext h2⟩
theorem pS_other {t i : Nat} (hi : i < L.size) (hne : own t ≠ some i) : (pS s0 val blk own β L).ρ t = (pS s0 val blk own β (L.setIfInBounds i true)).ρ t ∧ (pS s0 val blk own β L).M t = (pS s0 val blk own β (L.setIfInBounds i true)).M t := by
 cases ho : own t with
 | none => rw [pS_old ho, pS_old ho, pS_Mold ho, pS_Mold ho]; exact ⟨rfl, rfl⟩
 | some j =>
  have hj : j ≠ i := fun e => hne (by rw [ho, e])
  have e := getD_set_b (L := L) (i := i) (j := j) hi
  rw [if_neg hj] at e
  simp only [pS, ho, e]
  exact ⟨by first | trivial | rfl, by first | trivial | rfl⟩
theorem pS_put {d i : Nat} (h : own d = some i) (hu : ∀ t, own t = some i → t = d) (hi : i < L.size) (hb : blk d β = none) : (pS s0 val blk own β L).put (some d) (val d β) = pS s0 val blk own β (L.setIfInBounds i true) := by
 have hs : (L.setIfInBounds i true).getD i false = true := by rw [getD_set_b hi, if_pos rfl]
 refine S_ext (fun t => ?_) (fun t => ?_)
 ·show upd (pS s0 val blk own β L).ρ d (val d β) t = _
  by_cases ht : t = d
  ·subst ht; rw [upd_same, pS_new h hs]
  ·rw [upd_ne _ _ ht]; exact (pS_other hi fun e => ht (hu t e)).1
 ·show (pS s0 val blk own β L).M t = _
  by_cases ht : t = d
  ·subst ht
   simp only [pS, h, hs, hb, if_true, ite_self]
  ·exact (pS_other hi fun e => ht (hu t e)).2
theorem pS_add {d i : Nat} {x : Nat × Nat} {b : Blk} {v : V} (h : own d = some i) (hu : ∀ t, own t = some i → t = d) (hi : i < L.size) (hv : val d (upd β d x) = v) (hb : blk d (upd β d x) = some b)
  (hs : ∀ t j, own t = some j → L.getD j false = true → val t (upd β d x) = val t β ∧ blk t (upd β d x) = blk t β) :
  (⟨upd (pS s0 val blk own β L).ρ d v, upd (pS s0 val blk own β L).M d (some b)⟩ : S) = pS s0 val blk own (upd β d x) (L.setIfInBounds i true) := by
 have hl : (L.setIfInBounds i true).getD i false = true := by rw [getD_set_b hi, if_pos rfl]
 have same : ∀ t, own t ≠ some i → (pS s0 val blk own β L).ρ t = (pS s0 val blk own (upd β d x) L).ρ t ∧ (pS s0 val blk own β L).M t = (pS s0 val blk own (upd β d x) L).M t := fun t _ => by
  cases ho : own t with
  | none => rw [pS_old ho, pS_old ho, pS_Mold ho, pS_Mold ho]; exact ⟨rfl, rfl⟩
  | some j =>
   cases hj : L.getD j false with
   | true =>
    obtain ⟨h1, h2⟩ := hs t j ho hj
    simp only [pS, ho, hj, h1, h2]
    exact ⟨by first | trivial | rfl, by first | trivial | rfl⟩
   | false =>
    rw [pS_M0 ho hj, pS_M0 ho hj]
    simp only [pS, ho, hj]
    exact ⟨by first | trivial | rfl, by first | trivial | rfl⟩
 refine S_ext (fun t => ?_) (fun t => ?_)
 ·show upd (pS s0 val blk own β L).ρ d v t = _
  by_cases ht : t = d
  ·subst ht; rw [upd_same, pS_new h hl, hv]
  ·have hne : own t ≠ some i := fun e => ht (hu t e)
   rw [upd_ne _ _ ht, (same t hne).1]; exact (pS_other hi hne).1
 ·show upd (pS s0 val blk own β L).M d (some b) t = _
  by_cases ht : t = d
  ·subst ht; rw [upd_same, pS_M h hl hb]
  ·have hne : own t ≠ some i := fun e => ht (hu t e)
   rw [upd_ne _ _ ht, (same t hne).2]; exact (pS_other hi hne).2
theorem OG.of_OL {m : Nat} {ops : Array Oper} {o : Oper} {K : S → Prop} {s : S} (h : OL P m ops K [o] s) : OG P m ops o K s := h
theorem lt_size {ops : Array Oper} (n : Nat) {i : Nat} (h : L.size = ops.size) (hn : ops.size = n) (hi : i < n) : i < L.size := by omega
end
end Go.AL

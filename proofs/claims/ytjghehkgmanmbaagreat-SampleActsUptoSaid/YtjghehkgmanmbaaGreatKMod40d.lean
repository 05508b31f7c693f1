/-
  M, chapter 40, part 4: the interval of a run.
-/
import Derived.Test.YtjghehkgmanmbaaGreatKMod40c
import Derived.Test.YtjghehkgmanmbaaGreatKMod36
set_option linter.unusedVariables false
set_option linter.unusedSimpArgs false
namespace Go.AL
open Go Go.BigFrame
def rdN (bits : List Int) : Nat → Rd
 | 0 => ⟨0, .one⟩
 | n + 1 => (rdN bits n).step bits
theorem firstK_spec {read s : Span} {ch : List Rat} {k : Nat} (h : firstK read s ch = some k) : Sure read s ch k := by
 have := List.find?_some h
 exact of_decide_eq_true this
theorem firstK_not {read s : Span} {ch : List Rat} (h : firstK read s ch = none) : ∀ j, j < ch.length → ¬ Sure read s ch j := fun j hj e => by
 have := List.find?_eq_none.1 h j (List.mem_range.2 hj)
 exact this (decide_eq_true e)
theorem choose_spec {bits : List Int} {s : Span} {ch : List Rat} {r r1 : Rd} {k : Nat} (h : chooseB bits s ch r = some (k, r1)) (hr : r = rdN bits r.used) :
  r1 = rdN bits r1.used ∧ Sure r1.read s ch k ∧ r.used ≤ r1.used ∧ ∀ v, r.used ≤ v → v < r1.used → ∀ j, j < ch.length → ¬ Sure (rdN bits v).read s ch j := by
 rw [chooseB] at h
 split at h
 ·rename_i k' hk
  cases h
  exact ⟨hr, firstK_spec hk, Nat.le_refl _, fun v h1 h2 => by omega⟩
 ·rename_i hk
  split at h
  ·rename_i hlt
   have hs : r.step bits = rdN bits (r.step bits).used := by
    show r.step bits = rdN bits (r.used + 1)
    rw [rdN, ← hr]
   obtain ⟨a1, a2, a3, a4⟩ := choose_spec h hs
   have e : (r.step bits).used = r.used + 1 := rfl
   refine ⟨a1, a2, by omega, fun v h1 h2 j hj => ?_⟩
   rcases Nat.lt_or_ge r.used v with hv | hv
   ·exact a4 v (by omega) h2 j hj
   ·obtain rfl : v = r.used := by omega
    rw [← hr]
    exact firstK_not hk j hj
  ·cases h
termination_by bits.length - r.used
decreasing_by simp only [Rd.step]; omega
theorem sumQ_nonneg : ∀ {l : List Rat}, (∀ q, q ∈ l → 0 ≤ q) → 0 ≤ sumQ l
 | [], _ => by rw [sumQ_nil]; decide
 | x :: l, h => by
  rw [sumQ_cons]
  have h1 := h x (List.mem_cons_self ..)
  have h2 := sumQ_nonneg (l := l) fun q hq => h q (List.mem_cons_of_mem _ hq)
  grind
theorem sumQ_take_le {l : List Rat} (h : ∀ q, q ∈ l → 0 ≤ q) (k : Nat) : sumQ (l.take k) ≤ sumQ l := by
 have e : sumQ l = sumQ (l.take k) + sumQ (l.drop k) := by rw [← sumQ_app, List.take_append_drop]
 have := sumQ_nonneg (l := l.drop k) fun q hq => h q (List.mem_of_mem_drop hq)
 grind
structure Fair (ch : List Rat) : Prop where
 pos : ∀ q, q ∈ ch → 0 ≤ q
 sum : sumQ ch = 1
def spF (h : HM) (st w : List Int) : Nat → Span × Option Nat
 | 0 => (.one, none)
 | t + 1 => ((((spF h st w t).1.part (h.next (spF h st w t).2) (st.getD t 0).toNat).part (h.emit.getD (st.getD t 0).toNat []) ((w.getD t 0).toNat - 1)), some (st.getD t 0).toNat)
def rangeS (h : HM) (st w : List Int) : Span := (spF h st w w.length).1.part (h.next (spF h st w w.length).2) h.st
theorem getD_app_lt {α : Type} {l m : List α} {i : Nat} (h : i < l.length) (d : α) : (l ++ m).getD i d = l.getD i d := by
 rw [List.getD_eq_getElem?_getD, List.getD_eq_getElem?_getD, List.getElem?_append_left h]
def RunOK (h : HM) (st w : List Int) : Prop := st.length = w.length ∧ w.length ≤ 256 ∧ (∀ x, x ∈ st → 0 ≤ x ∧ x < h.st) ∧ ∀ x, x ∈ w → 1 ≤ x ∧ x ≤ h.sym
theorem drawF_ok {h : HM} {bb B : Nat} {b : List Int} (f : HM.FormX bb B h) : ∀ (n : Nat) {r : Rd} {s : Span} {fr : Option Nat} {st w st2 w2 : List Int} {u : Nat}, drawF h b n r s fr st w = .run st2 w2 u → FrOK h fr → w.length + n ≤ 257 → RunOK h st w → RunOK h st2 w2
 | 0, _, _, _, _, _, _, _, _, hd, _, _, _ => by simp [drawF] at hd
 | n + 1, r, s, fr, st, w, st2, w2, u, hd, hfr, hn, hok => by
  have nl := next_len f hfr
  rw [drawF] at hd
  split at hd
  ·cases hd
  ·rename_i k r1 h1
   have hk := choose_lt h1
   split at hd
   ·cases hd; exact hok
   ·rename_i hks
    have hks2 : k < h.st := by omega
    split at hd
    ·cases hd
    ·rename_i hn0
     split at hd
     ·cases hd
     ·rename_i x r2 h2
      have hx := choose_lt h2
      rw [f.erow k hks2] at hx
      obtain ⟨o1, o2, o3, o4⟩ := hok
      refine drawF_ok f n hd (fun i hi => by cases hi; exact hks2) (by simp; omega) ⟨by simp [o1], by simp; omega, fun y hy => ?_, fun y hy => ?_⟩
      ·rcases List.mem_append.1 hy with e | e
       ·exact o3 y e
       ·rw [List.mem_singleton.1 e]; omega
      ·rcases List.mem_append.1 hy with e | e
       ·exact o4 y e
       ·rw [List.mem_singleton.1 e]; omega
theorem draw_ok {h : HM} {bb B : Nat} {b st w : List Int} {u : Nat} (f : HM.FormX bb B h) (hd : draw h b = .run st w u) : RunOK h st w := drawF_ok f 257 hd (fun i hi => by cases hi) (by decide) ⟨rfl, by decide, fun x hx => by simp at hx, fun x hx => by simp at hx⟩
theorem RunOK.word {h : HM} {st w : List Int} (k : RunOK h st w) : WordOK h w := ⟨k.2.1, k.2.2.2⟩
theorem RunOK.state {h : HM} {st w : List Int} (k : RunOK h st w) {t : Nat} (ht : t < w.length) : 0 ≤ st.getD t 0 ∧ st.getD t 0 < h.st := k.2.2.1 _ (getD_mem (by rw [k.1]; exact ht) 0)
theorem spF_fr {h : HM} {st w : List Int} (k : RunOK h st w) {t : Nat} (ht : t ≤ w.length) : FrOK h (spF h st w t).2 := fun i hi => by
 cases t with
 | zero => cases hi
 | succ t =>
  have hs := k.state (t := t) (by omega)
  rw [spF] at hi
  cases hi
  omega
def frJ (st : List Int) : Nat → Int
 | 0 => -1
 | t + 1 => st.getD t 0
theorem frJ_range {h : HM} (h0 : 1 ≤ h.st) {st w : List Int} (k : RunOK h st w) {t : Nat} (ht : t ≤ w.length) : -1 ≤ frJ st t ∧ frJ st t < h.st := by
 cases t with
 | zero => exact ⟨by show (-1 : Int) ≤ -1; omega, by show (-1 : Int) < _; omega⟩
 | succ t =>
  have hs := k.state (t := t) (by omega)
  show -1 ≤ st.getD t 0 ∧ st.getD t 0 < h.st
  omega
theorem frI_spF (h : HM) (st w : List Int) {t : Nat} (k : RunOK h st w) (ht : t ≤ w.length) : frI (spF h st w t).2 = frJ st t := by
 cases t with
 | zero => rfl
 | succ t =>
  have hs := k.state (t := t) (by omega)
  show ((st.getD t 0).toNat : Int) = st.getD t 0
  omega
end Go.AL

/-
  M, part 42: drawings of any model.
-/
import Derived.Test.YtjghehkgmanmbaaGreatKMod41
import Derived.Test.YtjghehkgmanmbaaGreatKMod40g
set_option linter.unusedVariables false
set_option linter.unusedSimpArgs false
namespace Go.AL
open Go Go.BigFrame
theorem dn_lite {h : HM} (g : h.GoodW 1048576) (hs : h.st ≤ 4) (hy : h.sym ≤ 4) : ll h.dn ≤ 42992000 := Nat.le_trans (HM.dn_ll g hs hy) (by decide)
def RM.Lite (h : RM) : Prop := chkP h = 0 → h.st ≤ 4 ∧ h.sym ≤ 4
theorem RM.Lite.ll {h : RM} (l : h.Lite) (z : h.Sz) (e : chkP h = 0) : Go.AL.ll (hm h).dn ≤ 42992000 := by
 obtain ⟨g, _⟩ := chkP_good z e
 have h1 := (l e).1
 have h2 := (l e).2
 exact dn_lite g (by show h.st.toNat ≤ 4; omega) (by show h.sym.toNat ≤ 4; omega)
def BitsOK (bits : List Int) : Prop := bits.length ≤ 2000 ∧ ∀ x, x ∈ bits → x = 0 ∨ x = 1
open Classical in
noncomputable def drawR (h : RM) (bits : List Int) : Drawing := if ¬ chkP h = 0 then .err (chkP h) else if ¬ BitsOK bits then .err 1 else draw (hm h) bits
open Classical in
noncomputable def rangeR (h : RM) (st w : List Int) : Int × Rat × Rat := if ¬ chkP h = 0 then (chkP h, 0, 0) else if ¬ RunOK (hm h) st w then (1, 0, 0) else (0, (rangeS (hm h) st w).lo, (rangeS (hm h) st w).lo + (rangeS (hm h) st w).len)
open Classical in
noncomputable def allR (h : RM) (n : Int) : Int × List DRun := if ¬ chkP h = 0 then (chkP h, []) else if n < 0 ∨ 10 < n then (1, []) else (0, allF (hm h) n.toNat (2 ^ n.toNat))
theorem drawR_e {h : RM} {bits : List Int} (e : ¬ chkP h = 0) : drawR h bits = .err (chkP h) := by unfold drawR; rw [if_pos e]
theorem drawR_1 {h : RM} {bits : List Int} (e : chkP h = 0) (b : ¬ BitsOK bits) : drawR h bits = .err 1 := by unfold drawR; rw [if_neg (fun n => n e), if_pos b]
theorem drawR_0 {h : RM} {bits : List Int} (e : chkP h = 0) (b : BitsOK bits) : drawR h bits = draw (hm h) bits := by unfold drawR; rw [if_neg (fun n => n e), if_neg (fun n => n b)]
theorem rangeR_e {h : RM} {st w : List Int} (e : ¬ chkP h = 0) : rangeR h st w = (chkP h, 0, 0) := by unfold rangeR; rw [if_pos e]
theorem rangeR_1 {h : RM} {st w : List Int} (e : chkP h = 0) (b : ¬ RunOK (hm h) st w) : rangeR h st w = (1, 0, 0) := by unfold rangeR; rw [if_neg (fun n => n e), if_pos b]
theorem rangeR_0 {h : RM} {st w : List Int} (e : chkP h = 0) (b : RunOK (hm h) st w) : rangeR h st w = (0, (rangeS (hm h) st w).lo, (rangeS (hm h) st w).lo + (rangeS (hm h) st w).len) := by unfold rangeR; rw [if_neg (fun n => n e), if_neg (fun n => n b)]
theorem allR_e {h : RM} {n : Int} (e : ¬ chkP h = 0) : allR h n = (chkP h, []) := by unfold allR; rw [if_pos e]
theorem allR_1 {h : RM} {n : Int} (e : chkP h = 0) (b : n < 0 ∨ 10 < n) : allR h n = (1, []) := by unfold allR; rw [if_neg (fun n => n e), if_pos b]
theorem allR_0 {h : RM} {n : Int} (e : chkP h = 0) (b : ¬ (n < 0 ∨ 10 < n)) : allR h n = (0, allF (hm h) n.toNat (2 ^ n.toNat)) := by unfold allR; rw [if_neg (fun n => n e), if_neg b]
theorem spF_okW {h : HM} {D : Nat} (g : h.GoodW 1048576) (hD : h.Den D) {st w : List Int} (k : RunOK h st w) : ∀ t, t ≤ w.length → SpanW D (2 * t) (spF h st w t).1
 | 0, _ => SpanW.one hD.ne 0
 | t + 1, ht => by
  have f := g.form
  have hs := k.state (t := t) (by omega)
  have hx := k.word.symX (t := t) (by omega)
  have nl := next_lenX f (spF_fr k (t := t) (by omega))
  have el := f.erow (st.getD t 0).toNat (by omega)
  have h1 := (spF_okW g hD k t (by omega)).part (l := h.next (spF h st w t).2) hD.ne (next_row g hD (spF_fr k (by omega))) (st.getD t 0).toNat (by omega)
  exact h1.part (l := h.emit.getD (st.getD t 0).toNat []) hD.ne (emit_row g hD (by omega)) ((w.getD t 0).toNat - 1) (by rw [el]; exact hx.1)
theorem range_okW {h : HM} {D : Nat} (g : h.GoodW 1048576) (hD : h.Den D) {st w : List Int} (k : RunOK h st w) : SpanW D (2 * w.length + 1) (rangeS h st w) := by
 have nl := next_lenX g.form (spF_fr k (t := w.length) (Nat.le_refl _))
 exact (spF_okW g hD k w.length (Nat.le_refl _)).part (l := h.next (spF h st w w.length).2) hD.ne (next_row g hD (spF_fr k (Nat.le_refl _))) h.st (by omega)
structure Aok (h : HM) (out : List DRun) : Prop where
 ok : ∀ i, i < out.length → RunOK h (out.getD i dr0).st (out.getD i dr0).w
theorem allF_okW {h : HM} {bb B b : Nat} (f : HM.FormX bb B h) : ∀ n, Aok h (allF h b n)
 | 0 => ⟨fun i hi => absurd hi (Nat.not_lt_zero i)⟩
 | n + 1 => by
  have ih := allF_okW (b := b) f n
  rw [allF]
  cases hd : draw h (bitsN b n) with
  | err e => exact ih
  | run st w u =>
   unfold addRun
   simp only
   split
   ·exact ih
   ·refine ⟨fun i hi => ?_⟩
    rw [List.length_append, List.length_singleton] at hi
    rcases Nat.lt_or_ge i (allF h b n).length with x | x
    ·rw [getD_app_lt x]; exact ih.ok i x
    ·rw [List.getD_eq_getElem?_getD, List.getElem?_append_right x, show i - (allF h b n).length = 0 by omega]
     exact draw_ok f hd
theorem cmpQ_lt {x y : Rat} : cmpQ x y < 0 ↔ x < y := by
 have h1 := sgnQ_neg (q := x - y)
 have h2 := sgnQ_cases (x - y)
 unfold cmpQ
 constructor
 ·intro h
  have : x - y < 0 := h1.1 (by omega)
  grind
 ·intro h
  have : sgnQ (x - y) = -1 := h1.2 (by grind)
  omega
theorem firstK_sure {read s : Span} {ch : List Rat} {k : Nat} (h : firstK read s ch = some k) : Sure read s ch k := of_decide_eq_true (List.find?_some (p := fun k => decide (Sure read s ch k)) h)
theorem choose_pos {bits : List Int} {s : Span} {ch : List Rat} {r r1 : Rd} {k : Nat} (h : chooseB bits s ch r = some (k, r1)) : 0 < ch.getD k 0 := by
 rw [chooseB] at h
 split at h
 ·rename_i k' hk; cases h; exact (firstK_sure hk).1
 ·split at h
  ·exact choose_pos h
  ·cases h
termination_by bits.length - r.used
decreasing_by simp only [Rd.step]; omega
theorem part_pos {s : Span} {l : List Rat} {k : Nat} (h : 0 < s.len) (hk : 0 < l.getD k 0) : 0 < (s.part l k).len := Rat.mul_pos h hk
theorem sure_iff {read s : Span} {ch : List Rat} {k : Nat} (h : 0 < s.len) : Sure read s ch k ↔ (s.part ch k).lo < (s.part ch k).lo + (s.part ch k).len ∧ (s.part ch k).lo ≤ read.lo ∧ read.lo + read.len ≤ (s.part ch k).lo + (s.part ch k).len := by
 have e : 0 < ch.getD k 0 ↔ (s.part ch k).lo < (s.part ch k).lo + (s.part ch k).len := by
  constructor
  ·intro hp
   have := part_pos h hp
   grind
  ·intro hl
   have h1 : 0 < s.len * ch.getD k 0 := by
    have : (s.part ch k).len = s.len * ch.getD k 0 := rfl
    rw [← this]; grind
   by_cases x : 0 < ch.getD k 0
   ·exact x
   ·exfalso
    have x := Rat.not_lt.1 x
    have h2 : s.len * ch.getD k 0 ≤ s.len * 0 := Rat.mul_le_mul_of_nonneg_left x (Rat.le_of_lt h)
    rw [Rat.mul_zero] at h2
    grind
 unfold Sure Span.inside
 rw [e]
end Go.AL

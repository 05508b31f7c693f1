/-
  M, chapter 40: drawings, in plain mathematics.
-/
import Derived.Test.YtcebciggodhmcaaGreatNumb
set_option linter.unusedVariables false
set_option linter.unusedSimpArgs false
namespace Go.AL
open Go Go.BigFrame

structure Span where
  lo : Rat
  len : Rat
def Span.part (s : Span) (ch : List Rat) (k : Nat) : Span := ⟨(ch.take k).foldl (fun a p => a + s.len * p) s.lo, s.len * ch.getD k 0⟩
def Span.inside (s t : Span) : Prop := t.lo ≤ s.lo ∧ s.lo + s.len ≤ t.lo + t.len
instance (s t : Span) : Decidable (s.inside t) := inferInstanceAs (Decidable (_ ∧ _))
def Span.one : Span := ⟨0, 1⟩
/-- Choice k is certain. -/
def Sure (read s : Span) (ch : List Rat) (k : Nat) : Prop := 0 < ch.getD k 0 ∧ read.inside (s.part ch k)
instance (read s : Span) (ch : List Rat) (k : Nat) : Decidable (Sure read s ch k) := inferInstanceAs (Decidable (_ ∧ _))
def firstK (read s : Span) (ch : List Rat) : Option Nat := (List.range ch.length).find? fun k => decide (Sure read s ch k)
structure Rd where
  used : Nat
  read : Span
def Rd.step (bits : List Int) (r : Rd) : Rd := ⟨r.used + 1, ⟨if bits.getD r.used 0 = 1 then r.read.lo + r.read.len * (1 / 2) else r.read.lo, r.read.len * (1 / 2)⟩⟩
def chooseB (bits : List Int) (s : Span) (ch : List Rat) (r : Rd) : Option (Nat × Rd) :=
  match firstK r.read s ch with
  | some k => some (k, r)
  | none => if r.used < bits.length then chooseB bits s ch (r.step bits) else none
termination_by bits.length - r.used
decreasing_by simp only [Rd.step]; omega

/-- The choices behind a state (none: at the beginning). -/
def HM.next (h : HM) : Option Nat → List Rat
  | none => h.ini ++ [h.empty]
  | some i => h.trans.getD i [] ++ [h.stop.getD i 0]

inductive Drawing where
  | err (e : Int)
  | run (states word : List Int) (used : Nat)

def drawF (h : HM) (bits : List Int) : Nat → Rd → Span → Option Nat → List Int → List Int → Drawing
  | 0, _, _, _, _, _ => .err 2
  | n + 1, r, s, fr, states, word =>
    match chooseB bits s (h.next fr) r with
    | none => .err 17
    | some (k, r1) =>
      if k = h.st then .run states word r1.used
      else if n = 0 then .err 2
      else match chooseB bits (s.part (h.next fr) k) (h.emit.getD k []) r1 with
        | none => .err 17
        | some (x, r2) => drawF h bits n r2 ((s.part (h.next fr) k).part (h.emit.getD k []) x) (some k) (states ++ [(k : Int)]) (word ++ [(x : Int) + 1])
def draw (h : HM) (bits : List Int) : Drawing := drawF h bits 257 ⟨0, .one⟩ .one none [] []

theorem firstK_lt {read s : Span} {ch : List Rat} {k : Nat} (h : firstK read s ch = some k) : k < ch.length := List.mem_range.1 (List.mem_of_find?_eq_some h)
theorem choose_lt {bits : List Int} {s : Span} {ch : List Rat} {r r1 : Rd} {k : Nat} (h : chooseB bits s ch r = some (k, r1)) : k < ch.length := by
  rw [chooseB] at h
  split at h
  · rename_i k' hk
    cases h
    exact firstK_lt hk
  · split at h
    · exact choose_lt h
    · cases h
termination_by bits.length - r.used
decreasing_by simp only [Rd.step]; omega
theorem choose_used {bits : List Int} {s : Span} {ch : List Rat} {r r1 : Rd} {k : Nat} (h : chooseB bits s ch r = some (k, r1)) (hr : r.used ≤ bits.length) : r.used ≤ r1.used ∧ r1.used ≤ bits.length := by
  rw [chooseB] at h
  split at h
  · cases h; exact ⟨Nat.le_refl _, hr⟩
  · split at h
    · rename_i hlt
      have := choose_used h (by simp only [Rd.step]; omega)
      simp only [Rd.step] at this
      omega
    · cases h
termination_by bits.length - r.used
decreasing_by simp only [Rd.step]; omega

/-- Bits behind those that were read do not matter. -/
theorem choose_more {b c : List Int} {s : Span} {ch : List Rat} {r r1 : Rd} {k : Nat} (h : chooseB b s ch r = some (k, r1)) (hr : r.used ≤ b.length) (hc : r1.used ≤ c.length) (hbc : ∀ i, i < r1.used → b.getD i 0 = c.getD i 0) : chooseB c s ch r = some (k, r1) := by
  have hu := choose_used h hr
  rw [chooseB] at h ⊢
  split at h
  · exact h
  · rename_i hk
    split at h
    · rename_i hlt
      have hu2 := choose_used h (by simp only [Rd.step]; omega)
      simp only [Rd.step] at hu2
      rw [if_pos (by omega)]
      have e : r.step c = r.step b := by simp only [Rd.step]; rw [hbc r.used (by omega)]
      rw [e]
      exact choose_more h (by simp only [Rd.step]; omega) hc hbc
    · cases h
termination_by b.length - r.used
decreasing_by simp only [Rd.step]; omega

/-- Fewer bits are not enough. -/
theorem choose_less {b c : List Int} {s : Span} {ch : List Rat} {r r1 : Rd} {k : Nat} (h : chooseB b s ch r = some (k, r1)) (hr : r.used ≤ c.length) (hc : c.length < r1.used) (hb : r1.used ≤ b.length) (hbc : ∀ i, i < c.length → b.getD i 0 = c.getD i 0) : chooseB c s ch r = none := by
  rw [chooseB] at h ⊢
  split at h
  · cases h; omega
  · rename_i hk
    split at h
    · rename_i hlt
      split
      · rename_i hl2
        have e : r.step c = r.step b := by simp only [Rd.step]; rw [hbc r.used (by omega)]
        rw [e]
        exact choose_less h (by simp only [Rd.step]; omega) hc hb hbc
      · rfl
    · cases h
termination_by b.length - r.used
decreasing_by simp only [Rd.step]; omega

theorem drawF_used {h : HM} {b : List Int} : ∀ (n : Nat) {r : Rd} {s : Span} {fr : Option Nat} {st w st2 w2 : List Int} {u : Nat}, drawF h b n r s fr st w = .run st2 w2 u → r.used ≤ b.length → r.used ≤ u ∧ u ≤ b.length
  | 0, _, _, _, _, _, _, _, _, hd, _ => by simp [drawF] at hd
  | n + 1, r, s, fr, st, w, st2, w2, u, hd, hr => by
    rw [drawF] at hd
    split at hd
    · cases hd
    · rename_i k r1 h1
      have u1 := choose_used h1 hr
      split at hd
      · cases hd; exact u1
      · split at hd
        · cases hd
        · split at hd
          · cases hd
          · rename_i x r2 h2
            have u2 := choose_used h2 u1.2
            have u3 := drawF_used n hd u2.2
            omega
theorem drawF_more {h : HM} {b c : List Int} : ∀ (n : Nat) {r : Rd} {s : Span} {fr : Option Nat} {st w st2 w2 : List Int} {u : Nat}, drawF h b n r s fr st w = .run st2 w2 u → r.used ≤ b.length → u ≤ c.length → (∀ i, i < u → b.getD i 0 = c.getD i 0) →
    drawF h c n r s fr st w = .run st2 w2 u
  | 0, _, _, _, _, _, _, _, _, hd, _, _, _ => by simp [drawF] at hd
  | n + 1, r, s, fr, st, w, st2, w2, u, hd, hr, hc, hbc => by
    have hd0 := hd
    rw [drawF] at hd ⊢
    split at hd
    · cases hd
    · rename_i k r1 h1
      have u1 := choose_used h1 hr
      split at hd
      · rename_i hk
        cases hd
        rw [choose_more h1 hr hc hbc]
        simp only
        rw [if_pos hk]
      · rename_i hk
        split at hd
        · cases hd
        · rename_i hn
          split at hd
          · cases hd
          · rename_i x r2 h2
            have u2 := choose_used h2 u1.2
            have u3 := drawF_used n hd u2.2
            rw [choose_more h1 hr (by omega) fun i hi => hbc i (by omega)]
            simp only
            rw [if_neg hk, if_neg hn, choose_more h2 u1.2 (by omega) fun i hi => hbc i (by omega)]
            simp only
            exact drawF_more n hd u2.2 hc hbc
theorem drawF_less {h : HM} {b c : List Int} : ∀ (n : Nat) {r : Rd} {s : Span} {fr : Option Nat} {st w st2 w2 : List Int} {u : Nat}, drawF h b n r s fr st w = .run st2 w2 u → r.used ≤ c.length → c.length < u → u ≤ b.length → (∀ i, i < c.length → b.getD i 0 = c.getD i 0) →
    drawF h c n r s fr st w = .err 17
  | 0, _, _, _, _, _, _, _, _, hd, _, _, _, _ => by simp [drawF] at hd
  | n + 1, r, s, fr, st, w, st2, w2, u, hd, hr, hc, hb, hbc => by
    rw [drawF] at hd ⊢
    split at hd
    · cases hd
    · rename_i k r1 h1
      have u1 := choose_used h1 (by omega)
      by_cases hl : c.length < r1.used
      · rw [choose_less h1 hr hl u1.2 hbc]
      · rw [choose_more h1 (by omega) (by omega) fun i hi => hbc i (by omega)]
        simp only
        split at hd
        · cases hd; omega
        · rename_i hk
          rw [if_neg hk]
          split at hd
          · cases hd
          · rename_i hn
            rw [if_neg hn]
            split at hd
            · cases hd
            · rename_i x r2 h2
              have u2 := choose_used h2 u1.2
              by_cases hl2 : c.length < r2.used
              · rw [choose_less h2 (by omega) hl2 u2.2 hbc]
              · rw [choose_more h2 u1.2 (by omega) fun i hi => hbc i (by omega)]
                simp only
                exact drawF_less n hd (by omega) hc hb hbc

theorem draw_used {h : HM} {b : List Int} {st w : List Int} {u : Nat} (hd : draw h b = .run st w u) : u ≤ b.length := (drawF_used 257 hd (Nat.zero_le _)).2
theorem draw_more {h : HM} {b c : List Int} {st w : List Int} {u : Nat} (hd : draw h b = .run st w u) : draw h (b.take u ++ c) = .run st w u := by
  have hu := draw_used hd
  refine drawF_more 257 hd (Nat.zero_le _) (by simp; omega) fun i hi => ?_
  rw [List.getD_eq_getElem?_getD, List.getD_eq_getElem?_getD, List.getElem?_append_left (by simp; omega), List.getElem?_take, if_pos hi]
theorem draw_less {h : HM} {b : List Int} {st w : List Int} {u : Nat} (hd : draw h b = .run st w u) (h0 : 0 < u) : draw h (b.take (u - 1)) = .err 17 := by
  have hu := draw_used hd
  have hl : (b.take (u - 1)).length = u - 1 := by simp; omega
  refine drawF_less 257 hd (Nat.zero_le _) (by omega) hu fun i hi => ?_
  rw [List.getD_eq_getElem?_getD, List.getD_eq_getElem?_getD, List.getElem?_take, if_pos (by omega)]
theorem drawF_err {h : HM} {b : List Int} {e : Int} : ∀ (n : Nat) {r : Rd} {s : Span} {fr : Option Nat} {st w : List Int}, drawF h b n r s fr st w = .err e → e = 17 ∨ e = 2
  | 0, _, _, _, _, _, hd => by simp [drawF] at hd; omega
  | n + 1, r, s, fr, st, w, hd => by
    rw [drawF] at hd
    split at hd
    · cases hd; exact .inl rfl
    · split at hd
      · cases hd
      · split at hd
        · cases hd; exact .inr rfl
        · split at hd
          · cases hd; exact .inl rfl
          · exact drawF_err n hd
theorem draw_err {h : HM} {b : List Int} {e : Int} (hd : draw h b = .err e) : e = 17 ∨ e = 2 := drawF_err 257 hd
theorem drawF_len {h : HM} {b : List Int} : ∀ (n : Nat) {r : Rd} {s : Span} {fr : Option Nat} {st w st2 w2 : List Int} {u : Nat}, drawF h b n r s fr st w = .run st2 w2 u → st.length = w.length → st2.length = w2.length ∧ w2.length + 1 ≤ w.length + n
  | 0, _, _, _, _, _, _, _, _, hd, _ => by simp [drawF] at hd
  | n + 1, r, s, fr, st, w, st2, w2, u, hd, hl => by
    rw [drawF] at hd
    split at hd
    · cases hd
    · split at hd
      · cases hd; exact ⟨hl, by omega⟩
      · split at hd
        · cases hd
        · split at hd
          · cases hd
          · have := drawF_len n hd (by simp [hl])
            simp at this
            omega
end Go.AL

/-
  M, chapter 40: drawings, in plain mathematics.
-/
import Derived.Test.YtjghehkgmanmbaaGreatKNumb
set_option linter.unusedVariables false
set_option linter.unusedSimpArgs false
namespace Go.AL
open Go Go.BigFrame
structure Span where
 lo : Rat
 len : Rat
def Span.part (s : Span) (ch : List Rat) (k : Nat) : Span := ⟨(ch.take k).foldl (fun a p => a + s.len * p) s.lo, s.len * ch.getD k 0⟩
def Span.inside (s t : Span) : Prop := t.lo ≤ s.lo ∧ s.lo + s.len ≤ t.lo + t.len
instance (s t : Span) : Decidable (s.inside t) := inferInstanceAs (Decidable (_ ∧ _))
def Span.one : Span := ⟨0, 1⟩
def Sure (read s : Span) (ch : List Rat) (k : Nat) : Prop := 0 < ch.getD k 0 ∧ read.inside (s.part ch k)
instance (read s : Span) (ch : List Rat) (k : Nat) : Decidable (Sure read s ch k) := inferInstanceAs (Decidable (_ ∧ _))
def firstK (read s : Span) (ch : List Rat) : Option Nat := (List.range ch.length).find? fun k => decide (Sure read s ch k)
structure Rd where
 used : Nat
 read : Span
def Rd.step (bits : List Int) (r : Rd) : Rd := ⟨r.used + 1, ⟨if bits.getD r.used 0 = 1 then r.read.lo + r.read.len * (1 / 2) else r.read.lo, r.read.len * (1 / 2)⟩⟩
def chooseB (bits : List Int) (s : Span) (ch : List Rat) (r : Rd) : Option (Nat × Rd) :=
 match firstK r.read s ch with
 | some k => some (k, r)
 | none => if r.used < bits.length then chooseB bits s ch (r.step bits) else none
termination_by bits.length - r.used
decreasing_by simp only [Rd.step]; omega
def HM.next (h : HM) : Option Nat → List Rat
 | none => h.ini ++ [h.empty]
 | some i => h.trans.getD i [] ++ [h.stop.getD i 0]
inductive Drawing where
 | err (e : Int)
 | run (states word : List Int) (used : Nat)
def drawF (h : HM) (bits : List Int) : Nat → Rd → Span → Option Nat → List Int → List Int → Drawing
 | 0, _, _, _, _, _ => .err 2
 | n + 1, r, s, fr, states, word =>
  match chooseB bits s (h.next fr) r with
  | none => .err 17
  | some (k, r1) =>
   if k = h.st then .run states word r1.used
   else if n = 0 then .err 2
   else match chooseB bits (s.part (h.next fr) k) (h.emit.getD k []) r1 with
    | none => .err 17
    | some (x, r2) => drawF h bits n r2 ((s.part (h.next fr) k).part (h.emit.getD k []) x) (some k) (states ++ [(k : Int)]) (word ++ [(x : Int) + 1])
def draw (h : HM) (bits : List Int) : Drawing := drawF h bits 257 ⟨0, .one⟩ .one none [] []
theorem firstK_lt {read s : Span} {ch : List Rat} {k : Nat} (h : firstK read s ch = some k) : k < ch.length := List.mem_range.1 (List.mem_of_find?_eq_some h)
theorem choose_lt {bits : List Int} {s : Span} {ch : List Rat} {r r1 : Rd} {k : Nat} (h : chooseB bits s ch r = some (k, r1)) : k < ch.length := by
 rw [chooseB] at h
 split at h
 ·rename_i k' hk
  cases h
  exact firstK_lt hk
 ·split at h
  ·exact choose_lt h
  ·cases h
termination_by bits.length - r.used
decreasing_by simp only [Rd.step]; omega
theorem drawF_err {h : HM} {b : List Int} {e : Int} : ∀ (n : Nat) {r : Rd} {s : Span} {fr : Option Nat} {st w : List Int}, drawF h b n r s fr st w = .err e → e = 17 ∨ e = 2
 | 0, _, _, _, _, _, hd => by simp [drawF] at hd; omega
 | n + 1, r, s, fr, st, w, hd => by
  rw [drawF] at hd
  split at hd
  ·cases hd; exact .inl rfl
  ·split at hd
   ·cases hd
   ·split at hd
    ·cases hd; exact .inr rfl
    ·split at hd
     ·cases hd; exact .inl rfl
     ·exact drawF_err n hd
theorem draw_err {h : HM} {b : List Int} {e : Int} (hd : draw h b = .err e) : e = 17 ∨ e = 2 := drawF_err 257 hd
end Go.AL

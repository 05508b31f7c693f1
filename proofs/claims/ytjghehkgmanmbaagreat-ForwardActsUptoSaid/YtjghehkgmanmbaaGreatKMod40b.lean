/-
  M, chapter 40, part 2: sizes; the reader's end; words.
-/
import Derived.Test.YtjghehkgmanmbaaGreatKNumb
set_option linter.unusedVariables false
set_option linter.unusedSimpArgs false
namespace Go.AL
open Go Go.BigFrame
structure Span where
 lo : Rat
 len : Rat
def Span.part (s : Span) (ch : List Rat) (k : Nat) : Span := ⟨(ch.take k).foldl (fun a p => a + s.len * p) s.lo, s.len * ch.getD k 0⟩
def Span.inside (s t : Span) : Prop := t.lo ≤ s.lo ∧ s.lo + s.len ≤ t.lo + t.len
instance (s t : Span) : Decidable (s.inside t) := inferInstanceAs (Decidable (_ ∧ _))
def Span.one : Span := ⟨0, 1⟩
def Sure (read s : Span) (ch : List Rat) (k : Nat) : Prop := 0 < ch.getD k 0 ∧ read.inside (s.part ch k)
instance (read s : Span) (ch : List Rat) (k : Nat) : Decidable (Sure read s ch k) := inferInstanceAs (Decidable (_ ∧ _))
def firstK (read s : Span) (ch : List Rat) : Option Nat := (List.range ch.length).find? fun k => decide (Sure read s ch k)
structure Rd where
 used : Nat
 read : Span
def Rd.step (bits : List Int) (r : Rd) : Rd := ⟨r.used + 1, ⟨if bits.getD r.used 0 = 1 then r.read.lo + r.read.len * (1 / 2) else r.read.lo, r.read.len * (1 / 2)⟩⟩
def chooseB (bits : List Int) (s : Span) (ch : List Rat) (r : Rd) : Option (Nat × Rd) :=
 match firstK r.read s ch with
 | some k => some (k, r)
 | none => if r.used < bits.length then chooseB bits s ch (r.step bits) else none
termination_by bits.length - r.used
decreasing_by simp only [Rd.step]; omega
def HM.next (h : HM) : Option Nat → List Rat
 | none => h.ini ++ [h.empty]
 | some i => h.trans.getD i [] ++ [h.stop.getD i 0]
inductive Drawing where
 | err (e : Int)
 | run (states word : List Int) (used : Nat)
def drawF (h : HM) (bits : List Int) : Nat → Rd → Span → Option Nat → List Int → List Int → Drawing
 | 0, _, _, _, _, _ => .err 2
 | n + 1, r, s, fr, states, word =>
  match chooseB bits s (h.next fr) r with
  | none => .err 17
  | some (k, r1) =>
   if k = h.st then .run states word r1.used
   else if n = 0 then .err 2
   else match chooseB bits (s.part (h.next fr) k) (h.emit.getD k []) r1 with
    | none => .err 17
    | some (x, r2) => drawF h bits n r2 ((s.part (h.next fr) k).part (h.emit.getD k []) x) (some k) (states ++ [(k : Int)]) (word ++ [(x : Int) + 1])
def draw (h : HM) (bits : List Int) : Drawing := drawF h bits 257 ⟨0, .one⟩ .one none [] []
end Go.AL

set_option linter.unusedVariables false
set_option linter.unusedSimpArgs false
namespace Go.AL
open Go Go.BigFrame
def partLo (s : Span) (l : List Rat) : Rat := l.foldl (fun a p => a + s.len * p) s.lo
theorem foldl_sz {B c : Nat} {q : Rat} (hq : sz q ≤ c) : ∀ (l : List Rat) (a : Rat), Small B l → sz (l.foldl (fun a p => a + q * p) a) ≤ sz a + l.length * (c + B + 1)
 | [], a, _ => by simp
 | x :: l, a, h => by
  rw [List.foldl_cons, List.length_cons, Nat.add_mul]
  have h1 := foldl_sz hq l (a + q * x) fun y hy => h y (List.mem_cons_of_mem _ hy)
  have h2 := sz_add a (q * x)
  have h3 := sz_mul q x
  have h4 := h x (List.mem_cons_self ..)
  omega
theorem partLo_sz {B c : Nat} {s : Span} {l : List Rat} (hq : sz s.len ≤ c) (h : Small B l) : sz (partLo s l) ≤ sz s.lo + l.length * (c + B + 1) := foldl_sz hq l s.lo h
structure SpanOK (t : Nat) (s : Span) : Prop where
 lo : sz s.lo ≤ 1 + t * 40000000
 len : sz s.len ≤ 1 + t * 1024
theorem SpanOK.part {t : Nat} {s : Span} {l : List Rat} (h : SpanOK t s) (ht : t ≤ 600) (hl : Small 1024 l) (hn : l.length ≤ 40) (k : Nat) (hk : k < l.length) : SpanOK (t + 1) (s.part l k) := by
 have h1 := partLo_sz (B := 1024) (s := s) (l := l.take k) h.len (hl.take k)
 have h2 : (l.take k).length ≤ 40 := by rw [List.length_take]; omega
 have h3 := sz_mul s.len (l.getD k 0)
 have h4 := hl.get (by decide) k
 have h5 := h.lo
 have h6 := h.len
 have h7 : (l.take k).length * (1 + t * 1024 + 1024 + 1) ≤ 40 * (1 + 600 * 1024 + 1024 + 1) := Nat.mul_le_mul h2 (by omega)
 refine ⟨?_, ?_⟩
 ·show sz (partLo s (l.take k)) ≤ _
  omega
 ·show sz (s.len * l.getD k 0) ≤ _
  omega
structure RdOK (bits : List Int) (r : Rd) : Prop where
 used : r.used ≤ bits.length
 bits : bits.length ≤ 2000
 lo : sz r.read.lo ≤ 1 + 3000 * r.used
 len : sz r.read.len ≤ 1 + r.used
theorem half_eq : ((1 : Int) : Rat) / ((2 : Int) : Rat) = 1 / 2 := by rw [show ((1 : Int) : Rat) = 1 from rfl, show ((2 : Int) : Rat) = 2 from rfl]
theorem half_sz : sz (1 / 2) ≤ 1 := by rw [← half_eq]; exact div_sz (by decide) (by decide) (by decide)
theorem RdOK.step {bits : List Int} {r : Rd} (h : RdOK bits r) (hu : r.used < bits.length) : RdOK bits (r.step bits) := by
 have h1 := h.lo
 have h2 := h.len
 have h3 := h.bits
 have h4 := sz_mul r.read.len (1 / 2)
 have h5 := half_sz
 have h6 := sz_add r.read.lo (r.read.len * (1 / 2))
 generalize sz (1 / 2) = a5 at h4 h5
 refine ⟨hu, h3, ?_, ?_⟩
 ·rw [show (r.step bits).used = r.used + 1 from rfl, show (r.step bits).read.lo = (if bits.getD r.used 0 = 1 then r.read.lo + r.read.len * (1 / 2) else r.read.lo) from rfl]
  generalize r.read.lo + r.read.len * (1 / 2) = x6 at h6 ⊢
  generalize r.read.len * (1 / 2) = x4 at h4 h6
  split <;> omega
 ·rw [show (r.step bits).used = r.used + 1 from rfl, show (r.step bits).read.len = r.read.len * (1 / 2) from rfl]
  omega
def coinHM : HM := ⟨2, 1, 0, [1], [[1 / 2]], [1 / 2], [[1 / 2, 1 / 2]], [false], [0]⟩
end Go.AL

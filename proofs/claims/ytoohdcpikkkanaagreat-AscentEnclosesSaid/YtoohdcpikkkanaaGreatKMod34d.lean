/-
  M, chapter 34: all paths; the sum of the joint probabilities is the likelihood, that of the paths through a state its share.
-/
import Derived.Test.YtoohdcpikkkanaaGreatKNumb
import Derived.KernelRfl
import Derived.Test.YtoohdcpikkkanaaGreatKMod34b
set_option linter.unusedVariables false
set_option linter.unusedSimpArgs false
namespace Go.AL
open Go Go.BigFrame
structure Span where
  lo : Rat
  len : Rat
def Span.part (s : Span) (ch : List Rat) (k : Nat) : Span := ⟨(ch.take k).foldl (fun a p => a + s.len * p) s.lo, s.len * ch.getD k 0⟩
def Span.inside (s t : Span) : Prop := t.lo ≤ s.lo ∧ s.lo + s.len ≤ t.lo + t.len
instance (s t : Span) : Decidable (s.inside t) := inferInstanceAs (Decidable (_ ∧ _))
def Span.one : Span := ⟨0, 1⟩
def Sure (read s : Span) (ch : List Rat) (k : Nat) : Prop := 0 < ch.getD k 0 ∧ read.inside (s.part ch k)
instance (read s : Span) (ch : List Rat) (k : Nat) : Decidable (Sure read s ch k) := inferInstanceAs (Decidable (_ ∧ _))
structure Rd where
  used : Nat
  read : Span
def Rd.step (bits : List Int) (r : Rd) : Rd := ⟨r.used + 1, ⟨if bits.getD r.used 0 = 1 then r.read.lo + r.read.len * (1 / 2) else r.read.lo, r.read.len * (1 / 2)⟩⟩
def HM.next (h : HM) : Option Nat → List Rat
  | none => h.ini ++ [h.empty]
  | some i => h.trans.getD i [] ++ [h.stop.getD i 0]
inductive Drawing where
  | err (e : Int)
  | run (states word : List Int) (used : Nat)
end Go.AL

set_option linter.unusedVariables false
set_option linter.unusedSimpArgs false
namespace Go.AL
open Go Go.BigFrame
def partLo (s : Span) (l : List Rat) : Rat := l.foldl (fun a p => a + s.len * p) s.lo
theorem foldl_sz {B c : Nat} {q : Rat} (hq : sz q ≤ c) : ∀ (l : List Rat) (a : Rat), Small B l → sz (l.foldl (fun a p => a + q * p) a) ≤ sz a + l.length * (c + B + 1)
  | [], a, _ => by simp
  | x :: l, a, h => by
    rw [List.foldl_cons, List.length_cons, Nat.add_mul]
    have h1 := foldl_sz hq l (a + q * x) fun y hy => h y (List.mem_cons_of_mem _ hy)
    have h2 := sz_add a (q * x)
    have h3 := sz_mul q x
    have h4 := h x (List.mem_cons_self ..)
    omega
theorem partLo_sz {B c : Nat} {s : Span} {l : List Rat} (hq : sz s.len ≤ c) (h : Small B l) : sz (partLo s l) ≤ sz s.lo + l.length * (c + B + 1) := foldl_sz hq l s.lo h
structure SpanOK (t : Nat) (s : Span) : Prop where
  lo : sz s.lo ≤ 1 + t * 40000000
  len : sz s.len ≤ 1 + t * 1024
theorem SpanOK.part {t : Nat} {s : Span} {l : List Rat} (h : SpanOK t s) (ht : t ≤ 600) (hl : Small 1024 l) (hn : l.length ≤ 40) (k : Nat) (hk : k < l.length) : SpanOK (t + 1) (s.part l k) := by
  have h1 := partLo_sz (B := 1024) (s := s) (l := l.take k) h.len (hl.take k)
  have h2 : (l.take k).length ≤ 40 := by rw [List.length_take]; omega
  have h3 := sz_mul s.len (l.getD k 0)
  have h4 := hl.get (by decide) k
  have h5 := h.lo
  have h6 := h.len
  have h7 : (l.take k).length * (1 + t * 1024 + 1024 + 1) ≤ 40 * (1 + 600 * 1024 + 1024 + 1) := Nat.mul_le_mul h2 (by omega)
  refine ⟨?_, ?_⟩
  · show sz (partLo s (l.take k)) ≤ _
    omega
  · show sz (s.len * l.getD k 0) ≤ _
    omega
structure RdOK (bits : List Int) (r : Rd) : Prop where
  used : r.used ≤ bits.length
  bits : bits.length ≤ 2000
  lo : sz r.read.lo ≤ 1 + 3000 * r.used
  len : sz r.read.len ≤ 1 + r.used
theorem half_eq : ((1 : Int) : Rat) / ((2 : Int) : Rat) = 1 / 2 := by rw [show ((1 : Int) : Rat) = 1 from rfl, show ((2 : Int) : Rat) = 2 from rfl]
theorem half_sz : sz (1 / 2) ≤ 1 := by rw [← half_eq]; exact div_sz (by decide) (by decide) (by decide)
theorem RdOK.step {bits : List Int} {r : Rd} (h : RdOK bits r) (hu : r.used < bits.length) : RdOK bits (r.step bits) := by
  have h1 := h.lo
  have h2 := h.len
  have h3 := h.bits
  have h4 := sz_mul r.read.len (1 / 2)
  have h5 := half_sz
  have h6 := sz_add r.read.lo (r.read.len * (1 / 2))
  generalize sz (1 / 2) = a5 at h4 h5
  refine ⟨hu, h3, ?_, ?_⟩
  · rw [show (r.step bits).used = r.used + 1 from rfl, show (r.step bits).read.lo = (if bits.getD r.used 0 = 1 then r.read.lo + r.read.len * (1 / 2) else r.read.lo) from rfl]
    generalize r.read.lo + r.read.len * (1 / 2) = x6 at h6 ⊢
    generalize r.read.len * (1 / 2) = x4 at h4 h6
    split <;> omega
  · rw [show (r.step bits).used = r.used + 1 from rfl, show (r.step bits).read.len = r.read.len * (1 / 2) from rfl]
    omega
end Go.AL

set_option linter.unusedVariables false
set_option linter.unusedSimpArgs false
namespace Go.AL
open Go Go.BigFrame
deriving instance DecidableEq for Drawing
end Go.AL

set_option linter.unusedVariables false
set_option linter.unusedSimpArgs false
namespace Go.AL
open Go Go.BigFrame
def sumL (l : List Rat) : Rat := sumN (fun i => l.getD i 0) l.length
theorem small_map {C n : Nat} {f : Nat → Rat} (h : ∀ i, i < n → sz (f i) ≤ C) : Small C ((List.range n).map f) := fun q hq => by
  obtain ⟨i, hi, rfl⟩ := List.mem_map.1 hq
  exact h i (List.mem_range.1 hi)
structure Fit (h : HM) (w : List Int) : Prop where
  row : ∀ t, t < w.length → sumL (postF h w t) = 1
  show_ : ∀ i, sumL (showRow h w w.length i) = sumN (fun t => postQ h w t i) w.length
  out : ∀ i, i < h.st → sumL (moveRow h w (w.length - 1) i) + postQ h w (w.length - 1) i = sumN (fun t => postQ h w t i) w.length
  into : ∀ i, i < h.st → postQ h w 0 i + sumN (fun j => moveQ h w (w.length - 1) j i) h.st = sumN (fun t => postQ h w t i) w.length
structure Got (h : HM) (w : List Int) : Prop where
  pl : (postR h w).length = w.length
  pg : ∀ t, t < w.length → (postR h w).getD t [] = postF h w t
  sS : exS h w = postF h w 0
  sE : exE h w = postF h w (w.length - 1)
  lM : (exM h w).length = h.st
  lO : (exO h w).length = h.st
  gM : ∀ i, i < h.st → (exM h w).getD i [] = moveRow h w (w.length - 1) i
  gO : ∀ i, i < h.st → (exO h w).getD i [] = showRow h w w.length i
theorem show_small {h : HM} {B : Nat} (f : h.Form B) {w : List Int} (k : Few h w) (i : Nat) : Small 160000000 (showRow h w w.length i) := small_map fun x _ => show_sz f k (Nat.le_refl _) i x
theorem move_small {h : HM} {B : Nat} (f : h.Form B) {w : List Int} (k : Few h w) (hn : w.length ≠ 0) (i : Nat) : Small 160000000 (moveRow h w (w.length - 1) i) := small_map fun j _ => move_sz f k (by omega) i j
end Go.AL

set_option linter.unusedVariables false
set_option linter.unusedSimpArgs false
namespace Go.AL
open Go Go.BigFrame
def lsum {α : Type} (f : α → Rat) : List α → Rat
  | [] => 0
  | x :: r => f x + lsum f r
theorem lsum_append {α : Type} (f : α → Rat) : ∀ a b : List α, lsum f (a ++ b) = lsum f a + lsum f b
  | [], b => by rw [List.nil_append, lsum, Rat.zero_add]
  | x :: a, b => by rw [List.cons_append, lsum, lsum, lsum_append f a b, Rat.add_assoc]
theorem lsum_take_succ {α : Type} (f : α → Rat) (d : α) {l : List α} {i : Nat} (h : i < l.length) : lsum f (l.take (i + 1)) = lsum f (l.take i) + f (l.getD i d) := by
  rw [List.take_succ_eq_append_getElem h, lsum_append, lsum, lsum, Rat.add_zero, List.getD_eq_getElem?_getD, List.getElem?_eq_getElem h]; rfl
theorem lsum_sz {α : Type} {f : α → Rat} {C : Nat} : ∀ l : List α, (∀ x, x ∈ l → sz (f x) ≤ C) → sz (lsum f l) ≤ 1 + l.length * (C + 1)
  | [], _ => by rw [lsum, sz_zero]; exact Nat.le_add_right ..
  | x :: l, h => by
    have h1 := lsum_sz l fun y hy => h y (List.mem_cons_of_mem _ hy)
    have h2 := h x (List.mem_cons_self ..)
    have h3 := sz_add (f x) (lsum f l)
    rw [lsum, List.length_cons, Nat.succ_mul]
    omega
end Go.AL

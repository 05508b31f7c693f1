/-
  M, chapter 40, part 2: sizes; the reader's end; words.
-/
import Derived.Test.YtjghehkgmanmbaaGreatKMod40
import Derived.Test.YtjghehkgmanmbaaGreatKNumb
set_option linter.unusedVariables false
set_option linter.unusedSimpArgs false
namespace Go.AL
open Go Go.BigFrame
def partLo (s : Span) (l : List Rat) : Rat := l.foldl (fun a p => a + s.len * p) s.lo
theorem partLo_take_succ {s : Span} {l : List Rat} {i : Nat} (hi : i < l.length) : partLo s (l.take (i + 1)) = partLo s (l.take i) + s.len * l.getD i 0 := by
 rw [take_succ_getD hi 0]; unfold partLo; rw [List.foldl_append]; rfl
theorem foldl_sz {B c : Nat} {q : Rat} (hq : sz q ≤ c) : ∀ (l : List Rat) (a : Rat), Small B l → sz (l.foldl (fun a p => a + q * p) a) ≤ sz a + l.length * (c + B + 1)
 | [], a, _ => by simp
 | x :: l, a, h => by
  rw [List.foldl_cons, List.length_cons, Nat.add_mul]
  have h1 := foldl_sz hq l (a + q * x) fun y hy => h y (List.mem_cons_of_mem _ hy)
  have h2 := sz_add a (q * x)
  have h3 := sz_mul q x
  have h4 := h x (List.mem_cons_self ..)
  omega
theorem partLo_sz {B c : Nat} {s : Span} {l : List Rat} (hq : sz s.len ≤ c) (h : Small B l) : sz (partLo s l) ≤ sz s.lo + l.length * (c + B + 1) := foldl_sz hq l s.lo h
structure SpanOK (t : Nat) (s : Span) : Prop where
 lo : sz s.lo ≤ 1 + t * 40000000
 len : sz s.len ≤ 1 + t * 1024
theorem SpanOK.part {t : Nat} {s : Span} {l : List Rat} (h : SpanOK t s) (ht : t ≤ 600) (hl : Small 1024 l) (hn : l.length ≤ 40) (k : Nat) (hk : k < l.length) : SpanOK (t + 1) (s.part l k) := by
 have h1 := partLo_sz (B := 1024) (s := s) (l := l.take k) h.len (hl.take k)
 have h2 : (l.take k).length ≤ 40 := by rw [List.length_take]; omega
 have h3 := sz_mul s.len (l.getD k 0)
 have h4 := hl.get (by decide) k
 have h5 := h.lo
 have h6 := h.len
 have h7 : (l.take k).length * (1 + t * 1024 + 1024 + 1) ≤ 40 * (1 + 600 * 1024 + 1024 + 1) := Nat.mul_le_mul h2 (by omega)
 refine ⟨?_, ?_⟩
 ·show sz (partLo s (l.take k)) ≤ _
  omega
 ·show sz (s.len * l.getD k 0) ≤ _
  omega
structure RdOK (bits : List Int) (r : Rd) : Prop where
 used : r.used ≤ bits.length
 bits : bits.length ≤ 2000
 lo : sz r.read.lo ≤ 1 + 3000 * r.used
 len : sz r.read.len ≤ 1 + r.used
theorem half_eq : ((1 : Int) : Rat) / ((2 : Int) : Rat) = 1 / 2 := by rw [show ((1 : Int) : Rat) = 1 from rfl, show ((2 : Int) : Rat) = 2 from rfl]
theorem half_sz : sz (1 / 2) ≤ 1 := by rw [← half_eq]; exact div_sz (by decide) (by decide) (by decide)
theorem RdOK.step {bits : List Int} {r : Rd} (h : RdOK bits r) (hu : r.used < bits.length) : RdOK bits (r.step bits) := by
 have h1 := h.lo
 have h2 := h.len
 have h3 := h.bits
 have h4 := sz_mul r.read.len (1 / 2)
 have h5 := half_sz
 have h6 := sz_add r.read.lo (r.read.len * (1 / 2))
 generalize sz (1 / 2) = a5 at h4 h5
 refine ⟨hu, h3, ?_, ?_⟩
 ·rw [show (r.step bits).used = r.used + 1 from rfl, show (r.step bits).read.lo = (if bits.getD r.used 0 = 1 then r.read.lo + r.read.len * (1 / 2) else r.read.lo) from rfl]
  generalize r.read.lo + r.read.len * (1 / 2) = x6 at h6 ⊢
  generalize r.read.len * (1 / 2) = x4 at h4 h6
  split <;> omega
 ·rw [show (r.step bits).used = r.used + 1 from rfl, show (r.step bits).read.len = r.read.len * (1 / 2) from rfl]
  omega
def chEnd (bits : List Int) (s : Span) (ch : List Rat) (r : Rd) : Rd :=
 match firstK r.read s ch with
 | some _ => r
 | none => if r.used < bits.length then chEnd bits s ch (r.step bits) else r
termination_by bits.length - r.used
decreasing_by simp only [Rd.step]; omega
theorem choose_end {bits : List Int} {s : Span} {ch : List Rat} {r r1 : Rd} {k : Nat} (h : chooseB bits s ch r = some (k, r1)) : chEnd bits s ch r = r1 := by
 rw [chooseB] at h
 rw [chEnd]
 split at h
 ·rename_i k' hk; cases h; rw [hk]
 ·rename_i hk
  rw [hk]
  split at h
  ·rename_i hlt
   simp only
   rw [if_pos hlt]
   exact choose_end h
  ·cases h
termination_by bits.length - r.used
decreasing_by simp only [Rd.step]; omega
theorem chEnd_ok {bits : List Int} {s : Span} {ch : List Rat} {r : Rd} (h : RdOK bits r) : RdOK bits (chEnd bits s ch r) := by
 rw [chEnd]
 split
 ·exact h
 ·split
  ·rename_i hlt; exact chEnd_ok (h.step hlt)
  ·exact h
termination_by bits.length - r.used
decreasing_by simp only [Rd.step]; omega
theorem firstK_some {read s : Span} {ch : List Rat} {k : Nat} (hk : k < ch.length) (h : Sure read s ch k) (hb : ∀ j, j < k → ¬ Sure read s ch j) : firstK read s ch = some k := by
 unfold firstK
 rw [List.find?_range_eq_some]
 exact ⟨decide_eq_true h, List.mem_range.2 hk, fun j hj => by simpa using hb j hj⟩
theorem firstK_none {read s : Span} {ch : List Rat} (hb : ∀ j, j < ch.length → ¬ Sure read s ch j) : firstK read s ch = none := by
 unfold firstK
 rw [List.find?_eq_none]
 intro j hj
 simpa using hb j (List.mem_range.1 hj)
theorem chooseB_step {bits : List Int} {s : Span} {ch : List Rat} {q : Rd} (hno : firstK q.read s ch = none) (hlt : q.used < bits.length) : chooseB bits s ch (q.step bits) = chooseB bits s ch q := by
 conv => rhs; rw [chooseB, hno]
 simp only
 rw [if_pos hlt]
theorem chEnd_step {bits : List Int} {s : Span} {ch : List Rat} {q : Rd} (hno : firstK q.read s ch = none) (hlt : q.used < bits.length) : chEnd bits s ch (q.step bits) = chEnd bits s ch q := by
 conv => rhs; rw [chEnd, hno]
 simp only
 rw [if_pos hlt]
def chK : Option (Nat × Rd) → Int
 | some (k, _) => k
 | none => 0
def chS (s : Span) (ch : List Rat) : Option (Nat × Rd) → Span
 | some (k, _) => s.part ch k
 | none => ⟨0, 0⟩
def chE : Option (Nat × Rd) → Int
 | some _ => 0
 | none => 17
theorem chE_ne {o : Option (Nat × Rd)} (h : ¬ chE o = 0) : o = none := by
 cases o with
 | none => rfl
 | some p => exact absurd rfl h
theorem chE_eq {o : Option (Nat × Rd)} (h : chE o = 0) : ∃ k r, o = some (k, r) := by
 cases o with
 | none => cases h
 | some p => exact ⟨p.1, p.2, rfl⟩
def frI : Option Nat → Int
 | none => -1
 | some i => i
theorem next_frI (h : HM) (fr : Option Nat) : (if frI fr < 0 then h.ini ++ [h.empty] else h.trans.getD (frI fr).toNat [] ++ [h.stop.getD (frI fr).toNat 0]) = h.next fr := by
 cases fr with
 | none => rfl
 | some i => rw [if_neg (show ¬ (frI (some i)) < 0 by show ¬ ((i : Int) < 0); omega)]; rfl
def FrOK (h : HM) (fr : Option Nat) : Prop := ∀ i, fr = some i → i < h.st
theorem frI_range {h : HM} {fr : Option Nat} (hf : FrOK h fr) : -1 ≤ frI fr ∧ frI fr < h.st := by
 cases fr with
 | none => show (-1 : Int) ≤ -1 ∧ (-1 : Int) < _; omega
 | some i => have := hf i rfl; show (-1 : Int) ≤ (i : Int) ∧ (i : Int) < _; omega
theorem next_len {h : HM} {b B : Nat} (f : HM.FormX b B h) {fr : Option Nat} (hf : FrOK h fr) : (h.next fr).length = h.st + 1 := by
 cases fr with
 | none => simp [HM.next, f.ini]
 | some i => have := f.trow i (hf i rfl); simp only [HM.next, List.length_append, List.length_singleton]; omega
def drE : Drawing → Int
 | .err e => e
 | .run .. => 0
def drS : Drawing → List Int
 | .err _ => []
 | .run st _ _ => st
def drW : Drawing → List Int
 | .err _ => []
 | .run _ w _ => w
def drU : Drawing → Int
 | .err _ => 0
 | .run _ _ u => u
def lexI : List Int → List Int → Int
 | x :: xs, y :: ys => if x < y then -1 else if y < x then 1 else lexI xs ys
 | _, _ => 0
def cmpI (a b : List Int) : Int := if a.length ≠ b.length then (if a.length < b.length then -1 else 1) else lexI a b
theorem lexI_step {a b : List Int} {i : Nat} (ha : i < a.length) (hb : i < b.length) : lexI (a.drop i) (b.drop i) = if a.getD i 0 < b.getD i 0 then -1 else if b.getD i 0 < a.getD i 0 then 1 else lexI (a.drop (i + 1)) (b.drop (i + 1)) := by
 rw [List.drop_eq_getElem_cons ha, List.drop_eq_getElem_cons hb, lexI, getD_lt ha, getD_lt hb]
theorem lexI_zero : ∀ {a b : List Int}, a.length = b.length → (lexI a b = 0 ↔ a = b)
 | [], [], _ => by simp [lexI]
 | x :: xs, y :: ys, h => by
  rw [lexI]
  have ih := lexI_zero (a := xs) (b := ys) (by simpa using h)
  split
  ·rename_i h1
   constructor
   ·intro e; cases e
   ·intro e; cases e; omega
  ·split
   ·rename_i h1 h2
    constructor
    ·intro e; cases e
    ·intro e; cases e; omega
   ·rename_i h1 h2
    have : x = y := by omega
    subst this
    rw [ih]; simp
 | [], _ :: _, h => by simp at h
 | _ :: _, [], h => by simp at h
theorem cmpI_zero {a b : List Int} : cmpI a b = 0 ↔ a = b := by
 unfold cmpI
 split
 ·rename_i h
  constructor
  ·intro e; split at e <;> cases e
  ·intro e; subst e; exact absurd rfl h
 ·rename_i h
  exact lexI_zero (by omega)
def coinHM : HM := ⟨2, 1, 0, [1], [[1 / 2]], [1 / 2], [[1 / 2, 1 / 2]], [false], [0]⟩
end Go.AL

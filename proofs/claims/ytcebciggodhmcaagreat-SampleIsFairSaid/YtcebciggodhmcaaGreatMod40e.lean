/-
  M, chapter 40, part 5: different runs have disjoint intervals; the runs of all lists of bits.
-/
import Derived.Test.YtcebciggodhmcaaGreatMod40d
set_option linter.unusedVariables false
set_option linter.unusedSimpArgs false
namespace Go.AL
open Go Go.BigFrame

/-- s lies before t. -/
def Span.before (s t : Span) : Prop := s.lo + s.len ≤ t.lo
theorem before_in {s s2 t t2 : Span} (h : s.before t) (hs : s2.inside s) (ht : t2.inside t) : s2.before t2 := Rat.le_trans hs.2 (Rat.le_trans h ht.1)
theorem sumQ_take_mono {l : List Rat} (h : ∀ q, q ∈ l → 0 ≤ q) {j k : Nat} (hjk : j ≤ k) : sumQ (l.take j) ≤ sumQ (l.take k) := by
  have := sumQ_take_le (l := l.take k) (fun q hq => h q (List.mem_of_mem_take hq)) j
  rwa [List.take_take, Nat.min_eq_left hjk] at this
theorem part_before {s : Span} {ch : List Rat} (f : Fair ch) (hs : 0 ≤ s.len) {j k : Nat} (hj : j < ch.length) (hjk : j < k) : (s.part ch j).before (s.part ch k) := by
  have h1 := sumQ_take_mono f.pos (show j + 1 ≤ k from hjk)
  rw [sumQ_take_succ hj] at h1
  have h3 := Rat.mul_le_mul_of_nonneg_left h1 hs
  show (s.part ch j).lo + (s.part ch j).len ≤ (s.part ch k).lo
  rw [part_lo, part_lo, part_len]
  grind
theorem part_apart {s : Span} {ch : List Rat} (f : Fair ch) (hs : 0 ≤ s.len) {j k : Nat} (hj : j < ch.length) (hk : k < ch.length) (hne : j ≠ k) {a b : Span} (ha : a.inside (s.part ch j)) (hb : b.inside (s.part ch k)) : a.before b ∨ b.before a := by
  rcases Nat.lt_or_gt_of_ne hne with h | h
  · exact .inl (before_in (part_before f hs hj h) ha hb)
  · exact .inr (before_in (part_before f hs hk h) hb ha)
theorem part_nonneg {s : Span} {ch : List Rat} (f : Fair ch) (hs : 0 ≤ s.len) {k : Nat} (hk : k < ch.length) : 0 ≤ (s.part ch k).len := by
  rw [part_len]
  exact Rat.mul_nonneg hs (f.pos _ (getD_mem hk 0))
/-- The interval of a run, from the left. -/
def rangeL (h : HM) : Span → Option Nat → List (Nat × Nat) → Span
  | s, fr, [] => s.part (h.next fr) h.st
  | s, fr, (i, x) :: r => rangeL h ((s.part (h.next fr) i).part (h.emit.getD i []) x) (some i) r
def StepsOK (h : HM) (r : List (Nat × Nat)) : Prop := ∀ p, p ∈ r → p.1 < h.st ∧ p.2 < h.sym
theorem StepsOK.tail {h : HM} {p : Nat × Nat} {r : List (Nat × Nat)} (k : StepsOK h (p :: r)) : StepsOK h r := fun q hq => k q (List.mem_cons_of_mem _ hq)
theorem rangeL_in {h : HM} {B : Nat} (g : h.Good B) : ∀ (r : List (Nat × Nat)) {s : Span} {fr : Option Nat}, StepsOK h r → FrOK h fr → 0 ≤ s.len → (rangeL h s fr r).inside s
  | [], s, fr, _, hfr, hs => part_inside (next_fair g hfr) hs (by rw [next_len g.form hfr]; omega)
  | (i, x) :: r, s, fr, k, hfr, hs => by
    have hi := k (i, x) (List.mem_cons_self ..)
    have nf := next_fair g hfr
    have ef := emit_fair g hi.1
    have k1 : i < (h.next fr).length := by rw [next_len g.form hfr]; have := hi.1; omega
    have k2 : x < (h.emit.getD i []).length := by rw [g.form.erow i hi.1]; exact hi.2
    have n1 := part_nonneg nf hs k1
    have n2 := part_nonneg ef n1 k2
    have h1 := rangeL_in g r (s := (s.part (h.next fr) i).part (h.emit.getD i []) x) (fr := some i) k.tail (fun j hj => by cases hj; exact hi.1) n2
    exact inside_trans h1 (inside_trans (part_inside ef n1 k2) (part_inside nf hs k1))
theorem rangeL_apart {h : HM} {B : Nat} (g : h.Good B) : ∀ (r q : List (Nat × Nat)) {s : Span} {fr : Option Nat}, StepsOK h r → StepsOK h q → FrOK h fr → 0 ≤ s.len → r ≠ q → (rangeL h s fr r).before (rangeL h s fr q) ∨ (rangeL h s fr q).before (rangeL h s fr r)
  | [], [], _, _, _, _, _, _, hne => absurd rfl hne
  | [], (i, x) :: q, s, fr, _, k, hfr, hs, _ => by
    have hi := k (i, x) (List.mem_cons_self ..)
    have nf := next_fair g hfr
    have k1 : i < (h.next fr).length := by rw [next_len g.form hfr]; have := hi.1; omega
    have k0 : h.st < (h.next fr).length := by rw [next_len g.form hfr]; omega
    have ef := emit_fair g hi.1
    have k2 : x < (h.emit.getD i []).length := by rw [g.form.erow i hi.1]; exact hi.2
    have n1 := part_nonneg nf hs k1
    have n2 := part_nonneg ef n1 k2
    have h1 := rangeL_in g q (s := (s.part (h.next fr) i).part (h.emit.getD i []) x) (fr := some i) k.tail (fun j hj => by cases hj; exact hi.1) n2
    exact part_apart nf hs k0 k1 (by have := hi.1; omega) ⟨Rat.le_refl, Rat.le_refl⟩ (inside_trans h1 (part_inside ef n1 k2))
  | (i, x) :: r, [], s, fr, k, k', hfr, hs, hne => (rangeL_apart g [] ((i, x) :: r) k' k hfr hs (Ne.symm hne)).symm
  | (i, x) :: r, (j, y) :: q, s, fr, k, k', hfr, hs, hne => by
    have hi := k (i, x) (List.mem_cons_self ..)
    have hj := k' (j, y) (List.mem_cons_self ..)
    have nf := next_fair g hfr
    have k1 : i < (h.next fr).length := by rw [next_len g.form hfr]; have := hi.1; omega
    have k3 : j < (h.next fr).length := by rw [next_len g.form hfr]; have := hj.1; omega
    have ef := emit_fair g hi.1
    have ef' := emit_fair g hj.1
    have k2 : x < (h.emit.getD i []).length := by rw [g.form.erow i hi.1]; exact hi.2
    have k4 : y < (h.emit.getD j []).length := by rw [g.form.erow j hj.1]; exact hj.2
    have n1 := part_nonneg nf hs k1
    have n2 := part_nonneg ef n1 k2
    have n3 := part_nonneg nf hs k3
    have n4 := part_nonneg ef' n3 k4
    have fi : FrOK h (some i) := fun z hz => by cases hz; exact hi.1
    have fj : FrOK h (some j) := fun z hz => by cases hz; exact hj.1
    have h1 := rangeL_in g r (s := (s.part (h.next fr) i).part (h.emit.getD i []) x) (fr := some i) k.tail fi n2
    have h2 := rangeL_in g q (s := (s.part (h.next fr) j).part (h.emit.getD j []) y) (fr := some j) k'.tail fj n4
    by_cases e : i = j
    · subst e
      by_cases e2 : x = y
      · subst e2
        exact rangeL_apart g r q k.tail k'.tail fi n2 fun e3 => hne (by rw [e3])
      · exact part_apart ef n1 k2 k4 e2 h1 h2
    · exact part_apart nf hs k1 k3 e (inside_trans h1 (part_inside ef n1 k2)) (inside_trans h2 (part_inside ef' n3 k4))
end Go.AL

/-
  M, chapter 34: all paths; the sum of the joint probabilities is the likelihood, that of the paths through a state its share.
-/
import Derived.Test.YtoohdcpikkkanaaGreatKMod34c
set_option linter.unusedVariables false
set_option linter.unusedSimpArgs false
namespace Go.AL
open Go Go.BigFrame
def lsum {α : Type} (f : α → Rat) : List α → Rat
  | [] => 0
  | x :: r => f x + lsum f r
theorem lsum_append {α : Type} (f : α → Rat) : ∀ a b : List α, lsum f (a ++ b) = lsum f a + lsum f b
  | [], b => by rw [List.nil_append, lsum, Rat.zero_add]
  | x :: a, b => by rw [List.cons_append, lsum, lsum, lsum_append f a b, Rat.add_assoc]
theorem lsum_take_succ {α : Type} (f : α → Rat) (d : α) {l : List α} {i : Nat} (h : i < l.length) : lsum f (l.take (i + 1)) = lsum f (l.take i) + f (l.getD i d) := by
  rw [List.take_succ_eq_append_getElem h, lsum_append, lsum, lsum, Rat.add_zero, List.getD_eq_getElem?_getD, List.getElem?_eq_getElem h]; rfl
theorem lsum_sz {α : Type} {f : α → Rat} {C : Nat} : ∀ l : List α, (∀ x, x ∈ l → sz (f x) ≤ C) → sz (lsum f l) ≤ 1 + l.length * (C + 1)
  | [], _ => by rw [lsum, sz_zero]; exact Nat.le_add_right ..
  | x :: l, h => by
    have h1 := lsum_sz l fun y hy => h y (List.mem_cons_of_mem _ hy)
    have h2 := h x (List.mem_cons_self ..)
    have h3 := sz_add (f x) (lsum f l)
    rw [lsum, List.length_cons, Nat.succ_mul]
    omega
end Go.AL

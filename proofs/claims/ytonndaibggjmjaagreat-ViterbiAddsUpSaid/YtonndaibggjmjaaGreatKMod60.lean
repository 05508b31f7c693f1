/-
  M, part 60: a search that takes the best beginning first gives the paths in order.
-/
import Derived.Test.YtonndaibggjmjaaGreatKMod34c
import Derived.Test.YtonndaibggjmjaaGreatKMod37
set_option linter.unusedVariables false
set_option linter.unusedSimpArgs false
namespace Go.AL
open Go
structure Prt where
 best : Rat
 so : Rat
 path : List Int
def ltP (a b : Prt) : Prop := b.best < a.best ∨ (a.best = b.best ∧ cmpL a.path b.path < 0)
instance (a b : Prt) : Decidable (ltP a b) := by unfold ltP; infer_instance
theorem ltP_not {a b : Prt} (h : ¬ ltP a b) : a.best ≤ b.best ∧ (a.best = b.best → cmpL b.path a.path ≤ 0) := by
 refine ⟨Rat.not_lt.1 fun e => h (.inl e), fun e => ?_⟩
 have h1 : ¬ cmpL a.path b.path < 0 := fun c => h (.inr ⟨e, c⟩)
 have := cmpL_neg a.path b.path
 omega
theorem ltP_weak : Weak ltP := by
 refine ⟨fun a b h k => ?_, fun a b c h k => ?_⟩
 ·rcases h with h | ⟨h1, h2⟩ <;> rcases k with k | ⟨k1, k2⟩
  ·exact Rat.lt_irrefl (Std.lt_trans h k)
  ·rw [k1] at h; exact Rat.lt_irrefl h
  ·rw [h1] at k; exact Rat.lt_irrefl k
  ·have := cmpL_neg a.path b.path; omega
 ·obtain ⟨h1, h2⟩ := ltP_not h
  obtain ⟨k1, k2⟩ := ltP_not k
  intro hac
  rcases hac with e | ⟨e1, e2⟩
  ·exact Rat.lt_irrefl (Std.lt_of_lt_of_le e (Rat.le_trans h1 k1))
  ·have e3 : a.best = b.best := Rat.le_antisymm h1 (by rw [e1]; exact k1)
   have e4 : b.best = c.best := e3.symm.trans e1
   have h5 := cmpL_trans (k2 e4) (h2 e3)
   have := cmpL_neg a.path c.path
   omega
theorem cmpL_pre : ∀ {x y z : List Int}, cmpL x y < 0 → ¬ x <+: y → cmpL x (y ++ z) < 0
 | [], y, z, _, hp => absurd (List.nil_prefix) hp
 | a :: x, [], z, h, _ => by simp [cmpL] at h
 | a :: x, b :: y, z, h, hp => by
  rw [List.cons_append]
  rw [cmpL] at h ⊢
  by_cases e1 : a < b
  ·rw [if_pos e1]; decide
  ·rw [if_neg e1] at h ⊢
   by_cases e2 : b < a
   ·rw [if_pos e2] at h; omega
   ·rw [if_neg e2] at h ⊢
    obtain rfl : a = b := by omega
    exact cmpL_pre h fun k => hp (List.cons_prefix_cons.2 ⟨rfl, k⟩)
end Go.AL

set_option linter.unusedVariables false
set_option linter.unusedSimpArgs false
namespace Go.AL
open Go
def IsP (st n : Nat) (c : List Int) : Prop := c.length = n ∧ ∀ x, x ∈ c → 0 ≤ x ∧ x < (st : Int)
def bfQ (bst : List Int → Rat) (x y : List Int) : Prop := bst y < bst x ∨ (bst x = bst y ∧ cmpL x y < 0)
def apart (p q : List Int) : Prop := ¬ p <+: q ∧ ¬ q <+: p
structure SInv (st n : Nat) (bst : List Int → Rat) (H O : List (List Int)) : Prop where
 hp : ∀ p, p ∈ H → p.length ≤ n ∧ 0 < bst p ∧ ∀ x, x ∈ p → 0 ≤ x ∧ x < (st : Int)
 cover : ∀ c, IsP st n c → 0 < bst c → c ∈ O ∨ ∃ p, p ∈ H ∧ p <+: c
 sep : H.Pairwise apart
 before : ∀ o, o ∈ O → ∀ c, IsP st n c → (∃ p, p ∈ H ∧ p <+: c) → bfQ bst o c
 sorted : O.Pairwise (bfQ bst)
 oks : ∀ o, o ∈ O → IsP st n o ∧ 0 < bst o
section
variable {st n : Nat} {bst : List Int → Rat} {H H' O : List (List Int)} {x : List Int}
theorem bst_mono (hk : ∀ (p : List Int) (s : Int), p.length < n → (∀ x, x ∈ p → 0 ≤ x ∧ x < (st : Int)) → 0 ≤ s → s < (st : Int) → bst (p ++ [s]) ≤ bst p) : ∀ (z p : List Int), (p ++ z).length ≤ n → (∀ x, x ∈ p ++ z → 0 ≤ x ∧ x < (st : Int)) → bst (p ++ z) ≤ bst p
 | [], p, _, _ => by rw [List.append_nil]; exact Rat.le_refl
 | s :: z, p, hl, hx => by
  have e : p ++ s :: z = (p ++ [s]) ++ z := by simp
  rw [e] at hl hx ⊢
  have hl2 := hl
  rw [List.length_append, List.length_append, List.length_singleton] at hl2
  obtain ⟨s1, s2⟩ := hx s (by simp)
  exact Rat.le_trans (bst_mono hk z (p ++ [s]) hl hx) (hk p s (by omega) (fun y hy => hx y (List.mem_append.2 (.inl (List.mem_append.2 (.inl hy))))) s1 s2)
theorem apart_symm {p q : List Int} (h : apart p q) : apart q p := ⟨h.2, h.1⟩
theorem SInv.perm (h : SInv st n bst H O) (e : H.Perm H') : SInv st n bst H' O :=
 ⟨fun p hp => h.hp p (e.mem_iff.2 hp), fun c a b => (h.cover c a b).imp id fun ⟨p, hp, k⟩ => ⟨p, e.mem_iff.1 hp, k⟩, (e.pairwise_iff (fun k => apart_symm k)).1 h.sep,
  fun o ho c a ⟨p, hp, k⟩ => h.before o ho c a ⟨p, e.mem_iff.2 hp, k⟩, h.sorted, h.oks⟩
theorem SInv.emit (hk : ∀ (p : List Int) (s : Int), p.length < n → (∀ x, x ∈ p → 0 ≤ x ∧ x < (st : Int)) → 0 ≤ s → s < (st : Int) → bst (p ++ [s]) ≤ bst p) (h : SInv st n bst (x :: H) O) (hx : x.length = n) (hl : ∀ p, p ∈ H → ¬ bfQ bst p x) : SInv st n bst H (O ++ [x]) := by
 obtain ⟨_, px, sx⟩ := h.hp x (List.mem_cons_self ..)
 have ap := (List.pairwise_cons.1 h.sep).1
 have key : ∀ c, IsP st n c → (∃ p, p ∈ H ∧ p <+: c) → bfQ bst x c := fun c hc ⟨p, hp, hpc⟩ => by
  obtain ⟨z, rfl⟩ := hpc
  have h1 := bst_mono hk z p (by rw [hc.1]; exact Nat.le_refl _) hc.2
  have h2 : ¬ bst x < bst p := fun e => hl p hp (.inl e)
  have h2 := Rat.not_lt.1 h2
  by_cases e : bst (p ++ z) < bst x
  ·exact .inl e
  ·have e1 : bst x = bst (p ++ z) := Rat.le_antisymm (Rat.not_lt.1 e) (Rat.le_trans h1 h2)
   have e2 : bst p = bst x := Rat.le_antisymm h2 (by rw [e1]; exact h1)
   have a := ap p hp
   have h3 : ¬ cmpL p x < 0 := fun c => hl p hp (.inr ⟨e2, c⟩)
   have h4 := cmpL_neg p x
   have h5 : cmpL x p ≠ 0 := fun c => a.1 (by rw [cmpL_zero c]; exact List.prefix_refl _)
   exact .inr ⟨e1, cmpL_pre (by omega) a.1⟩
 refine ⟨fun p hp => h.hp p (List.mem_cons_of_mem _ hp), fun c hc pc => ?_, (List.pairwise_cons.1 h.sep).2, fun o ho c hc k => ?_, ?_, fun o ho => ?_⟩
 ·rcases h.cover c hc pc with h1 | ⟨p, hp, k⟩
  ·exact .inl (List.mem_append.2 (.inl h1))
  ·rcases List.mem_cons.1 hp with rfl | hp
   ·exact .inl (List.mem_append.2 (.inr (by rw [k.eq_of_length (by rw [hx, hc.1])]; exact List.mem_singleton.2 rfl)))
   ·exact .inr ⟨p, hp, k⟩
 ·rcases List.mem_append.1 ho with ho | ho
  ·obtain ⟨p, hp, kp⟩ := k
   exact h.before o ho c hc ⟨p, List.mem_cons_of_mem _ hp, kp⟩
  ·rw [List.mem_singleton.1 ho]; exact key c hc k
 ·refine List.pairwise_append.2 ⟨h.sorted, List.pairwise_singleton .., fun o ho y hy => ?_⟩
  rw [List.mem_singleton.1 hy]
  exact h.before o ho x ⟨hx, sx⟩ ⟨x, List.mem_cons_self .., List.prefix_refl _⟩
 ·rcases List.mem_append.1 ho with ho | ho
  ·exact h.oks o ho
  ·rw [List.mem_singleton.1 ho]; exact ⟨⟨hx, sx⟩, px⟩
end
end Go.AL

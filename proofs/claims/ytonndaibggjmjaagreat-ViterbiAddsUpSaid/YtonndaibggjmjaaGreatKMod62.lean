/-
  M, part 62: lists in a strict order are known by their elements; what the search's end says.
-/
import Derived.Test.YtonndaibggjmjaaGreatKMod60
set_option linter.unusedVariables false
set_option linter.unusedSimpArgs false
namespace Go.AL
open Go
def kidsP (st : Nat) (bst : List Int → Rat) (x : List Int) : List (List Int) := ((List.range st).map fun i : Nat => x ++ [(i : Int)]).filter fun p => decide (0 < bst p)
section
variable {st n : Nat} {bst : List Int → Rat} {H O : List (List Int)} {x : List Int}
theorem kids_mem {p : List Int} : p ∈ kidsP st bst x ↔ (∃ i : Nat, i < st ∧ p = x ++ [(i : Int)]) ∧ 0 < bst p := by
 unfold kidsP
 rw [List.mem_filter, List.mem_map]
 constructor
 ·rintro ⟨⟨i, hi, rfl⟩, h⟩
  exact ⟨⟨i, List.mem_range.1 hi, rfl⟩, of_decide_eq_true h⟩
 ·rintro ⟨⟨i, hi, rfl⟩, h⟩
  exact ⟨⟨i, List.mem_range.2 hi, rfl⟩, decide_eq_true h⟩
theorem kids_apart : (kidsP st bst x).Pairwise apart := by
 unfold kidsP
 refine List.Pairwise.filter _ ?_
 rw [List.pairwise_map]
 refine List.Pairwise.imp ?_ (List.nodup_range (n := st))
 intro i j hij
 refine ⟨fun k => hij ?_, fun k => hij ?_⟩
 ·have e := k.eq_of_length (by simp)
  have := List.append_cancel_left e
  injection this with h1
  omega
 ·have e := k.eq_of_length (by simp)
  have := List.append_cancel_left e
  injection this with h1
  omega
theorem SInv.grow (hk : ∀ (p : List Int) (s : Int), p.length < n → (∀ x, x ∈ p → 0 ≤ x ∧ x < (st : Int)) → 0 ≤ s → s < (st : Int) → bst (p ++ [s]) ≤ bst p) (h : SInv st n bst (x :: H) O) (hx : x.length < n) : SInv st n bst (kidsP st bst x ++ H) O := by
 obtain ⟨_, px, sx⟩ := h.hp x (List.mem_cons_self ..)
 have ap := (List.pairwise_cons.1 h.sep).1
 refine ⟨fun p hp => ?_, fun c hc pc => ?_, ?_, fun o ho c hc ⟨p, hp, kp⟩ => ?_, h.sorted, h.oks⟩
 ·rcases List.mem_append.1 hp with hp | hp
  ·obtain ⟨⟨i, hi, rfl⟩, hpos⟩ := kids_mem.1 hp
   refine ⟨by rw [List.length_append, List.length_singleton]; omega, hpos, fun y hy => ?_⟩
   rcases List.mem_append.1 hy with hy | hy
   ·exact sx y hy
   ·rw [List.mem_singleton.1 hy]; omega
  ·exact h.hp p (List.mem_cons_of_mem _ hp)
 ·rcases h.cover c hc pc with h1 | ⟨p, hp, k⟩
  ·exact .inl h1
  ·rcases List.mem_cons.1 hp with rfl | hp
   ·obtain ⟨z, rfl⟩ := k
    cases z with
    | nil => rw [List.append_nil] at hc; have := hc.1; omega
    | cons s z =>
     have e : p ++ s :: z = (p ++ [s]) ++ z := by simp
     obtain ⟨s1, s2⟩ := hc.2 s (by simp)
     rw [e] at hc pc ⊢
     have h2 := bst_mono hk z (p ++ [s]) (by rw [hc.1]; exact Nat.le_refl _) hc.2
     exact .inr ⟨p ++ [s], List.mem_append.2 (.inl (kids_mem.2 ⟨⟨s.toNat, by omega, by rw [show ((s.toNat : Nat) : Int) = s by omega]⟩, Std.lt_of_lt_of_le pc h2⟩)), List.prefix_append _ _⟩
   ·exact .inr ⟨p, List.mem_append.2 (.inr hp), k⟩
 ·refine List.pairwise_append.2 ⟨kids_apart, (List.pairwise_cons.1 h.sep).2, fun p hp q hq => ?_⟩
  obtain ⟨⟨i, _, rfl⟩, _⟩ := kids_mem.1 hp
  have a := ap q hq
  refine ⟨fun k => a.1 ((List.prefix_append x [(i : Int)]).trans k), fun k => ?_⟩
  rcases List.prefix_concat_iff.1 k with e | e
  ·exact a.1 (by rw [e]; exact List.prefix_append _ _)
  ·exact a.2 e
 ·rcases List.mem_append.1 hp with hp | hp
  ·obtain ⟨⟨i, _, rfl⟩, _⟩ := kids_mem.1 hp
   exact h.before o ho c hc ⟨x, List.mem_cons_self .., (List.prefix_append x [(i : Int)]).trans kp⟩
  ·exact h.before o ho c hc ⟨p, List.mem_cons_of_mem _ hp, kp⟩
theorem SInv.start (h0 : 0 < bst []) : SInv st n bst [[]] [] :=
 ⟨fun p hp => by rw [List.mem_singleton.1 hp]; exact ⟨Nat.zero_le _, h0, fun y hy => (by cases hy)⟩, fun c _ _ => .inr ⟨[], List.mem_singleton.2 rfl, List.nil_prefix⟩, List.pairwise_singleton .., fun o ho => (by cases ho), List.Pairwise.nil, fun o ho => (by cases ho)⟩
end
end Go.AL

set_option linter.unusedVariables false
set_option linter.unusedSimpArgs false
namespace Go.AL
open Go
section
variable {α : Type} {R : α → α → Prop}
theorem sorted_unique (asym : ∀ a b, R a b → ¬ R b a) : ∀ {l m : List α}, l.Pairwise R → m.Pairwise R → (∀ x, x ∈ l ↔ x ∈ m) → l = m
 | [], [], _, _, _ => rfl
 | [], b :: m, _, _, h => absurd ((h b).2 (List.mem_cons_self ..)) (by simp)
 | a :: l, [], _, _, h => absurd ((h a).1 (List.mem_cons_self ..)) (by simp)
 | a :: l, b :: m, hl, hm, h => by
  obtain ⟨l1, l2⟩ := List.pairwise_cons.1 hl
  obtain ⟨m1, m2⟩ := List.pairwise_cons.1 hm
  have e : a = b := by
   rcases List.mem_cons.1 ((h a).1 (List.mem_cons_self ..)) with e | e
   ·exact e
   ·rcases List.mem_cons.1 ((h b).2 (List.mem_cons_self ..)) with k | k
    ·exact k.symm
    ·exact absurd (l1 b k) (asym _ _ (m1 a e))
  subst e
  have irr : ∀ x, ¬ R x x := fun x k => asym x x k k
  rw [sorted_unique asym l2 m2 fun x => ?_]
  have hx := h x
  rw [List.mem_cons, List.mem_cons] at hx
  constructor
  ·intro k
   rcases hx.1 (.inr k) with e | e
   ·subst e; exact absurd (l1 x k) (irr x)
   ·exact e
  ·intro k
   rcases hx.2 (.inr k) with e | e
   ·subst e; exact absurd (m1 x k) (irr x)
   ·exact e
end
section
variable {st n : Nat} {bst : List Int → Rat} {H O : List (List Int)}
theorem bfQ_asym (x y : List Int) (h : bfQ bst x y) : ¬ bfQ bst y x := fun k => by
 rcases h with h | ⟨h1, h2⟩ <;> rcases k with k | ⟨k1, k2⟩
 ·exact Rat.lt_irrefl (Std.lt_trans h k)
 ·rw [k1] at h; exact Rat.lt_irrefl h
 ·rw [h1] at k; exact Rat.lt_irrefl k
 ·have := cmpL_neg x y; omega
theorem SInv.front (h : SInv st n bst H O) {S : List (List Int)} (hs : S.Pairwise (bfQ bst)) (hm : ∀ c, c ∈ S ↔ IsP st n c ∧ 0 < bst c) : O = S.take O.length := by
 obtain ⟨T, hT⟩ : ∃ T, T = S.filter (fun c => decide (c ∉ O)) := ⟨_, rfl⟩
 have e : O ++ T = S := by
  refine sorted_unique bfQ_asym ?_ hs fun c => ?_
  ·refine List.pairwise_append.2 ⟨h.sorted, by rw [hT]; exact hs.filter _, fun o ho c hc => ?_⟩
   rw [hT, List.mem_filter] at hc
   obtain ⟨c1, c2⟩ := (hm c).1 hc.1
   rcases h.cover c c1 c2 with k | k
   ·exact absurd k (of_decide_eq_true hc.2)
   ·exact h.before o ho c c1 k
  ·rw [List.mem_append, hT, List.mem_filter]
   constructor
   ·rintro (k | k)
    ·exact (hm c).2 (h.oks c k)
    ·exact k.1
   ·intro k
    by_cases hc : c ∈ O
    ·exact .inl hc
    ·exact .inr ⟨k, decide_eq_true hc⟩
 rw [← e, List.take_left]
theorem SInv.whole (h : SInv st n bst [] O) {S : List (List Int)} (hs : S.Pairwise (bfQ bst)) (hm : ∀ c, c ∈ S ↔ IsP st n c ∧ 0 < bst c) : O = S :=
 sorted_unique bfQ_asym h.sorted hs fun c => ⟨fun k => (hm c).2 (h.oks c k), fun k => by
  obtain ⟨c1, c2⟩ := (hm c).1 k
  rcases h.cover c c1 c2 with e | ⟨p, hp, _⟩
  ·exact e
  ·cases hp⟩
end
end Go.AL

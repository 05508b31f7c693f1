/-
  M, chapter 40, part 3: a drawing reckoned.
-/
import Derived.Test.YtjghehkgmanmbaaGreatKMod40b
import Derived.KernelRfl
set_option linter.unusedVariables false
set_option linter.unusedSimpArgs false
namespace Go.AL
open Go Go.BigFrame
def chooseF (bits : List Int) (s : Span) (ch : List Rat) : Nat → Rd → Option (Nat × Rd)
 | 0, r => match firstK r.read s ch with
  | some k => some (k, r)
  | none => none
 | n + 1, r => match firstK r.read s ch with
  | some k => some (k, r)
  | none => if r.used < bits.length then chooseF bits s ch n (r.step bits) else none
theorem chooseF_eq {bits : List Int} {s : Span} {ch : List Rat} : ∀ (n : Nat) (r : Rd), bits.length - r.used ≤ n → chooseF bits s ch n r = chooseB bits s ch r
 | 0, r, h => by
  rw [chooseF, chooseB]
  cases hk : firstK r.read s ch with
  | some k => rfl
  | none => simp only; rw [if_neg (by omega)]
 | n + 1, r, h => by
  rw [chooseF, chooseB]
  cases hk : firstK r.read s ch with
  | some k => rfl
  | none =>
   simp only
   split
   ·exact chooseF_eq n _ (by show bits.length - (r.used + 1) ≤ n; omega)
   ·rfl
def drawG (h : HM) (bits : List Int) : Nat → Rd → Span → Option Nat → List Int → List Int → Drawing
 | 0, _, _, _, _, _ => .err 2
 | n + 1, r, s, fr, states, word =>
  match chooseF bits s (h.next fr) bits.length r with
  | none => .err 17
  | some (k, r1) =>
   if k = h.st then .run states word r1.used
   else if n = 0 then .err 2
   else match chooseF bits (s.part (h.next fr) k) (h.emit.getD k []) bits.length r1 with
    | none => .err 17
    | some (x, r2) => drawG h bits n r2 ((s.part (h.next fr) k).part (h.emit.getD k []) x) (some k) (states ++ [(k : Int)]) (word ++ [(x : Int) + 1])
theorem drawG_eq {h : HM} {bits : List Int} : ∀ (n : Nat) (r : Rd) (s : Span) (fr : Option Nat) (st w : List Int), drawG h bits n r s fr st w = drawF h bits n r s fr st w
 | 0, _, _, _, _, _ => rfl
 | n + 1, r, s, fr, st, w => by
  rw [drawG, drawF, chooseF_eq _ _ (by omega)]
  cases h1 : chooseB bits s (h.next fr) r with
  | none => rfl
  | some p =>
   obtain ⟨k, r1⟩ := p
   simp only
   split
   ·rfl
   ·split
    ·rfl
    ·rw [chooseF_eq _ _ (by omega)]
     cases h2 : chooseB bits (s.part (h.next fr) k) (h.emit.getD k []) r1 with
     | none => rfl
     | some p =>
      obtain ⟨x, r2⟩ := p
      exact drawG_eq n _ _ _ _ _
deriving instance DecidableEq for Drawing
theorem draw_coin : draw coinHM [0, 1, 1, 1] = .run [0] [1] 2 := by
 unfold draw
 rw [← drawG_eq]
 decide +kernel
theorem sz_half : sz (1 / 2) = 1 := by decide +kernel
theorem coin_good : coinHM.Good 1 := by
 have hs : Small 1 [1 / 2] := Small.one (by rw [sz_half]; decide)
 have hs2 : Small 1 [1 / 2, 1 / 2] := Small.cons (by rw [sz_half]; decide) hs
 have p2 : Share (1 / 2) := by decide +kernel
 have sh : Shares [1 / 2] := fun q hq => by rw [List.mem_singleton.1 hq]; exact p2
 have sh2 : Shares [1 / 2, 1 / 2] := fun q hq => by
  rcases List.mem_cons.1 hq with rfl | hq
  ·exact p2
  ·exact sh q hq
 have i0 : ∀ i, i < coinHM.st → i = 0 := fun i hi => by have : i < 1 := hi; omega
 have row : ∀ (x : List Rat) (i : Nat), i ≠ 0 → [x].getD i [] = [] := fun x i hi => getD_ge (by simp; omega)
 refine ⟨⟨by decide, by decide, by decide, by decide, rfl, rfl, fun i hi => by rw [i0 i hi]; rfl, rfl, rfl, fun i hi => by rw [i0 i hi]; rfl, rfl, rfl, fun i hi => by rw [i0 i hi]; decide, by decide, by decide, by rw [show coinHM.empty = 0 from rfl, sz_zero]; decide, Small.one (by rw [sz_one]; decide), hs, fun i => ?_, fun i => ?_⟩,
  by decide +kernel, fun q hq => by rw [List.mem_singleton.1 hq]; decide +kernel, sh, fun i => ?_, fun i => ?_, by decide +kernel, fun i hi => by rw [i0 i hi]; decide +kernel, fun i hi => by rw [i0 i hi]; decide +kernel, fun i j hi hj _ => by have := i0 i hi; omega⟩
 ·by_cases hi : i = 0
  ·subst hi; exact hs
  ·show Small 1 ([[1 / 2]].getD i []); rw [row _ i hi]; exact Small.nil
 ·by_cases hi : i = 0
  ·subst hi; exact hs2
  ·show Small 1 ([[1 / 2, 1 / 2]].getD i []); rw [row _ i hi]; exact Small.nil
 ·by_cases hi : i = 0
  ·subst hi; exact sh
  ·show Shares ([[1 / 2]].getD i []); rw [row _ i hi]; intro q hq; simp at hq
 ·by_cases hi : i = 0
  ·subst hi; exact sh2
  ·show Shares ([[1 / 2, 1 / 2]].getD i []); rw [row _ i hi]; intro q hq; simp at hq
end Go.AL

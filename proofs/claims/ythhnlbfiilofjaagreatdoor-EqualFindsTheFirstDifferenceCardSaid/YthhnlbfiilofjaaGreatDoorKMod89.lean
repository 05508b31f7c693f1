/-
  M, chapter 23: the automata of the law fit.
-/
import Derived.Test.YthhnlbfiilofjaaGreatDoorKMod88
set_option linter.unusedVariables false
set_option linter.unusedSimpArgs false
namespace Go.AL
open Go Go.BigFrame
section
variable {a b : Au} {B k : Nat} {l out : List Arc9} {x : Arc9}
theorem insA_szB (h : ∀ y, y ∈ out → sz y.q ≤ (k + 1) * (B + 2)) (hx : sz x.q ≤ B) : ∀ y, y ∈ insA out x → sz y.q ≤ (k + 2) * (B + 2) := by
 have up : ∀ n, n ≤ (k + 1) * (B + 2) → n ≤ (k + 2) * (B + 2) := fun n hn => Nat.le_trans hn (Nat.mul_le_mul_right _ (by omega))
 intro y hy
 have h2 : (k + 2) * (B + 2) = (k + 1) * (B + 2) + (B + 2) := Nat.succ_mul _ _
 unfold insA at hy
 split at hy
 ·rename_i hc
  rcases List.mem_or_eq_of_mem_set hy with hy | rfl
  ·exact up _ (h y hy)
  ·have h1 := h _ (getD_mem hc.1 default)
   have h3 := sz_add (out.getD (atA out x) default).q x.q
   show sz ((out.getD (atA out x) default).q + x.q) ≤ _
   omega
 ·rcases List.mem_append.1 hy with hy | hy
  ·exact up _ (h y (List.mem_of_mem_take hy))
  ·rcases List.mem_cons.1 hy with rfl | hy
   ·omega
   ·exact up _ (h y (List.mem_of_mem_drop hy))
theorem foldI_sz : ∀ (l out : List Arc9) (k : Nat), (∀ x, x ∈ l → sz x.q ≤ B) → (∀ y, y ∈ out → sz y.q ≤ (k + 1) * (B + 2)) → ∀ y, y ∈ l.foldl insA out → sz y.q ≤ (k + l.length + 1) * (B + 2)
 | [], out, k, _, h => h
 | x :: l, out, k, hz, h => by
  rw [List.foldl_cons, List.length_cons, show k + (l.length + 1) + 1 = (k + 1) + l.length + 1 by omega]
  exact foldI_sz l _ (k + 1) (fun y hy => hz y (List.mem_cons_of_mem _ hy)) (insA_szB h (hz x (List.mem_cons_self ..)))
theorem insA_len9 (out : List Arc9) (x : Arc9) : (insA out x).length ≤ out.length + 1 := by
 unfold insA
 split
 ·rw [List.length_set]; omega
 ·rw [List.length_append, List.length_cons, List.length_take, List.length_drop]; omega
theorem foldI_len : ∀ (l out : List Arc9), (l.foldl insA out).length ≤ out.length + l.length
 | [], out => Nat.le_refl _
 | x :: l, out => by
  rw [List.foldl_cons, List.length_cons]
  have := foldI_len l (insA out x)
  have := insA_len9 out x
  omega
theorem formA_len (l : List Arc9) : (formA l).length ≤ l.length := by
 unfold formA nzA
 refine Nat.le_trans (List.length_filter_le ..) ?_
 have := foldI_len l []
 rw [List.length_nil, Nat.zero_add] at this
 exact this
theorem formA_sz (hz : ∀ x, x ∈ l → sz x.q ≤ B) : ∀ y, y ∈ formA l → sz y.q ≤ (l.length + 1) * (B + 2) := fun y hy => by
 have := foldI_sz l [] 0 hz (fun y hy => by cases hy) y (List.mem_filter.1 hy).1
 rwa [Nat.zero_add] at this
theorem Au.Sz.wide (h : a.Sz 1 10) : a.Sz 1048576 20 :=
 ⟨fun q hq => Nat.le_trans (h.ini q hq) (by decide), fun q hq => Nat.le_trans (h.fin q hq) (by decide), fun x hx => Nat.le_trans (h.arc x hx) (by decide), Nat.le_trans h.num (by decide)⟩
theorem Au.Sz.form (h : a.Sz 1 10) : (formOf a).Sz 1048576 20 := by
 refine ⟨h.wide.ini, h.wide.fin, fun x hx => ?_, Nat.le_trans (formA_len a.arcs) (Nat.le_trans h.num (by decide))⟩
 have h1 := formA_sz h.arc x hx
 have h2 := Nat.mul_le_mul_right (1 + 2) (show a.arcs.length + 1 ≤ 11 by have := h.num; omega)
 omega
theorem Au.Few.form (h : a.Few) : (formOf a).Few := ⟨h.st, h.ini, h.fin, fun s i j => by rw [show entA (formOf a).arcs s i j = entA a.arcs s i j from entA_form]; exact h.ent s i j⟩
end
theorem letter_form {q : Rat} (hq : q ≠ 0) : formOf (letterOf q) = letterOf q := by
 have e : formA [⟨0, 1, 1, q⟩] = [⟨0, 1, 1, q⟩] := by
  unfold formA nzA
  rw [List.foldl_cons, List.foldl_nil, show insA [] ⟨0, 1, 1, q⟩ = [⟨0, 1, 1, q⟩] from rfl, List.filter_cons, if_pos (decide_eq_true hq), List.filter_nil]
 unfold formOf letterOf
 rw [e]
theorem letter_sz {q : Rat} (hz : sz q ≤ 1) : (letterOf q).Sz 1 10 :=
 ⟨fun x hx => by
  rcases List.mem_cons.1 hx with rfl | hx
  ·rw [sz_one]; exact Nat.le_refl _
  ·rw [List.mem_singleton.1 hx, sz_zero]; exact Nat.le_refl _, fun x hx => by
  rcases List.mem_cons.1 hx with rfl | hx
  ·rw [sz_zero]; exact Nat.le_refl _
  ·rw [List.mem_singleton.1 hx, sz_one]; exact Nat.le_refl _, fun x hx => by rw [List.mem_singleton.1 hx]; exact hz, (by decide : 1 ≤ 10)⟩
theorem let_eq : eqA (letterOf (1 / 2)) (letterOf (1 / 3)) = some [1] := let_first
theorem half_n0 : (1 / 2 : Rat) ≠ 0 := by decide +kernel
theorem third_n0 : (1 / 3 : Rat) ≠ 0 := by decide +kernel
theorem half_szL : sz (1 / 2) ≤ 1 := by decide +kernel
theorem third_szL : sz (1 / 3) ≤ 1 := by decide +kernel
theorem half_q : ((1 : Int) : Rat) / ((2 : Int) : Rat) = 1 / 2 := by decide +kernel
theorem third_q : ((1 : Int) : Rat) / ((3 : Int) : Rat) = 1 / 3 := by decide +kernel
end Go.AL

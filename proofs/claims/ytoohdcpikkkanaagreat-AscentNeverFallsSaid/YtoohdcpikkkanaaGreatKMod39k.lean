/-
  M, chapter 39: products over lists; the inequality of the means; a list's own shares make its product greatest.
-/
import Derived.Test.YtoohdcpikkkanaaGreatKMod39i
set_option linter.unusedVariables false
set_option linter.unusedSimpArgs false
namespace Go.AL
open Go Go.BigFrame
def pw (x : Rat) : Nat → Rat
 | 0 => 1
 | n + 1 => x * pw x n
theorem one_pos9 : (0 : Rat) < 1 := by decide
theorem one_nn9 : (0 : Rat) ≤ 1 := by decide
theorem pw_nn {x : Rat} (h : 0 ≤ x) : ∀ n, 0 ≤ pw x n
 | 0 => one_nn9
 | n + 1 => Rat.mul_nonneg h (pw_nn h n)
theorem pw_pos {x : Rat} (h : 0 < x) : ∀ n, 0 < pw x n
 | 0 => one_pos9
 | n + 1 => Rat.mul_pos h (pw_pos h n)
theorem pw_mul (x y : Rat) : ∀ n, pw (x * y) n = pw x n * pw y n
 | 0 => (Rat.mul_one 1).symm
 | n + 1 => by rw [pw, pw, pw, pw_mul x y n]; grind
theorem pw_one : ∀ n, pw 1 n = 1
 | 0 => rfl
 | n + 1 => by rw [pw, pw_one n, Rat.mul_one]
theorem mul_le_l {a b c : Rat} (h : a ≤ b) (hc : 0 ≤ c) : c * a ≤ c * b := Rat.mul_le_mul_of_nonneg_left h hc
theorem mul_le_r {a b c : Rat} (h : a ≤ b) (hc : 0 ≤ c) : a * c ≤ b * c := Rat.mul_le_mul_of_nonneg_right h hc
theorem mul_le2 {a b c d : Rat} (h : a ≤ b) (k : c ≤ d) (hb : 0 ≤ b) (hc : 0 ≤ c) : a * c ≤ b * d := Rat.le_trans (mul_le_r h hc) (mul_le_l k hb)
theorem le_of_mul {a b c : Rat} (hc : 0 < c) (h : a * c ≤ b * c) : a ≤ b := by
 rcases Rat.le_total (a := a) (b := b) with k | k
 ·exact k
 ·have h2 := mul_le_r k (Rat.le_of_lt hc)
  have e : a * c = b * c := Rat.le_antisymm h h2
  have e2 : a = b := by
   have := congrArg (· * c⁻¹) e
   simp only [Rat.mul_assoc, Rat.mul_inv_cancel c (fun e => by rw [e] at hc; exact Rat.lt_irrefl hc), Rat.mul_one] at this
   exact this
  rw [e2]; exact Rat.le_refl
theorem pw_mono {x y : Rat} (h0 : 0 ≤ x) (h : x ≤ y) : ∀ n, pw x n ≤ pw y n
 | 0 => Rat.le_refl
 | n + 1 => mul_le2 h (pw_mono h0 h n) (Rat.le_trans h0 h) (pw_nn h0 n)
theorem pw_lt {x y : Rat} (h0 : 0 ≤ y) (h : y < x) : ∀ n, pw y (n + 1) < pw x (n + 1)
 | 0 => by simp only [pw, Rat.mul_one]; exact h
 | n + 1 => by
  have ih := pw_lt h0 h n
  have h1 : y * pw y (n + 1) ≤ y * pw x (n + 1) := mul_le_l (Rat.le_of_lt ih) h0
  have h2 : 0 < pw x (n + 1) := pw_pos (by grind) _
  have h3 : 0 < (x - y) * pw x (n + 1) := Rat.mul_pos (by grind) h2
  show y * pw y (n + 1) < x * pw x (n + 1)
  grind
theorem le_of_pw {x y : Rat} (hy : 0 ≤ y) {n : Nat} (hn : 0 < n) (h : pw x n ≤ pw y n) : x ≤ y := by
 rcases Rat.le_total (a := x) (b := y) with k | k
 ·exact k
 ·by_cases e : x = y
  ·rw [e]; exact Rat.le_refl
  ·obtain ⟨m, rfl⟩ : ∃ m, n = m + 1 := ⟨n - 1, by omega⟩
   have := pw_lt hy (Rat.lt_of_le_of_ne k (fun q => e q.symm)) m
   exact absurd h (Rat.not_le.2 this)
def prodL {α : Type} (f : α → Rat) : List α → Rat
 | [] => 1
 | x :: l => f x * prodL f l
section
variable {α β : Type}
theorem prodL_app (f : α → Rat) : ∀ a b : List α, prodL f (a ++ b) = prodL f a * prodL f b
 | [], b => (Rat.one_mul _).symm
 | x :: a, b => by rw [List.cons_append, prodL, prodL, prodL_app f a b, Rat.mul_assoc]
theorem prodL_flat (f : β → Rat) (g : α → List β) : ∀ l : List α, prodL f (l.flatMap g) = prodL (fun x => prodL f (g x)) l
 | [] => rfl
 | x :: l => by rw [List.flatMap_cons, prodL_app, prodL_flat f g l]; rfl
theorem prodL_map (f : β → Rat) (g : α → β) : ∀ l : List α, prodL f (l.map g) = prodL (fun x => f (g x)) l
 | [] => rfl
 | x :: l => by rw [List.map_cons, prodL, prodL_map f g l]; rfl
theorem prodL_congr {f g : α → Rat} : ∀ {l : List α}, (∀ x, x ∈ l → f x = g x) → prodL f l = prodL g l
 | [], _ => rfl
 | x :: l, h => by rw [prodL, prodL, h x (by simp), prodL_congr fun y hy => h y (by simp [hy])]
theorem prodL_nn {f : α → Rat} : ∀ {l : List α}, (∀ x, x ∈ l → 0 ≤ f x) → 0 ≤ prodL f l
 | [], _ => one_nn9
 | x :: l, h => Rat.mul_nonneg (h x (by simp)) (prodL_nn fun y hy => h y (by simp [hy]))
theorem prodL_pos {f : α → Rat} : ∀ {l : List α}, (∀ x, x ∈ l → 0 < f x) → 0 < prodL f l
 | [], _ => one_pos9
 | x :: l, h => Rat.mul_pos (h x (by simp)) (prodL_pos fun y hy => h y (by simp [hy]))
theorem prodL_le {f g : α → Rat} : ∀ {l : List α}, (∀ x, x ∈ l → 0 ≤ f x ∧ f x ≤ g x) → prodL f l ≤ prodL g l
 | [], _ => Rat.le_refl
 | x :: l, h => mul_le2 (h x (by simp)).2 (prodL_le fun y hy => h y (by simp [hy])) (Rat.le_trans (h x (by simp)).1 (h x (by simp)).2) (prodL_nn fun y hy => (h y (by simp [hy])).1)
theorem prodL_mul (f g : α → Rat) : ∀ l : List α, prodL (fun x => f x * g x) l = prodL f l * prodL g l
 | [] => (Rat.mul_one 1).symm
 | x :: l => by rw [prodL, prodL, prodL, prodL_mul f g l]; grind
theorem prodL_const (c : Rat) : ∀ l : List α, prodL (fun _ => c) l = pw c l.length
 | [] => rfl
 | x :: l => by rw [prodL, List.length_cons, pw, prodL_const c l]
theorem sumN_le {f g : Nat → Rat} : ∀ {n : Nat}, (∀ i, i < n → f i ≤ g i) → sumN f n ≤ sumN g n
 | 0, _ => Rat.le_refl
 | n + 1, h => by
  have h1 := h n (by omega)
  have h2 : sumN f n ≤ sumN g n := sumN_le fun i hi => h i (by omega)
  rw [sumN, sumN]
  grind
theorem bern {y z : Rat} (hy : 0 ≤ y) (hz : 0 ≤ z) : ∀ n : Nat, ((n : Rat) + 1) * y * pw z n ≤ pw y (n + 1) + (n : Rat) * pw z (n + 1)
 | 0 => by simp only [pw, Rat.mul_one]; show ((0 : Rat) + 1) * y ≤ y + 0 * z; grind
 | n + 1 => by
  have ih := mul_le_l (bern hy hz n) hy
  have hn : (0 : Rat) ≤ (n : Rat) := Rat.natCast_nonneg
  have sq : 0 ≤ (y - z) * (y - z) := by
   rcases Rat.le_total (a := y) (b := z) with h | h
   ·have := Rat.mul_nonneg (show 0 ≤ z - y by grind) (show 0 ≤ z - y by grind); grind
   ·exact Rat.mul_nonneg (show 0 ≤ y - z by grind) (show 0 ≤ y - z by grind)
  have h2 := Rat.mul_nonneg (Rat.mul_nonneg (show 0 ≤ (n : Rat) + 1 by grind) (pw_nn hz n)) sq
  have en : ((n + 1 : Nat) : Rat) = (n : Rat) + 1 := by rw [Rat.natCast_add]; rfl
  rw [en]
  simp only [pw] at ih ⊢
  grind
theorem two_means {b S : Rat} (hb : 0 ≤ b) (hS : 0 ≤ S) {n : Nat} (hn : 0 < n) : b * pw S n * pw ((n : Rat) + 1) (n + 1) ≤ pw (b + S) (n + 1) * pw (n : Rat) n := by
 have h0 : (0 : Rat) < (n : Rat) := Rat.natCast_pos.2 hn
 have h1 : (0 : Rat) ≤ (n : Rat) + 1 := by grind
 have h := bern (y := (n : Rat) * (b + S)) (z := ((n : Rat) + 1) * S) (Rat.mul_nonneg (Rat.le_of_lt h0) (by grind)) (Rat.mul_nonneg h1 hS) n
 rw [pw_mul, pw_mul, pw_mul] at h
 refine le_of_mul h0 ?_
 simp only [pw] at h ⊢
 generalize pw S n = a at h ⊢
 generalize pw ((n : Rat) + 1) n = c at h ⊢
 generalize pw (b + S) n = d at h ⊢
 generalize pw (n : Rat) n = e at h ⊢
 grind
theorem means (f : α → Rat) : ∀ l : List α, (∀ x, x ∈ l → 0 ≤ f x) → prodL f l * pw (l.length : Rat) l.length ≤ pw (lsum f l) l.length
 | [], _ => by show (1 : Rat) * 1 ≤ 1; rw [Rat.mul_one]; exact Rat.le_refl
 | x :: l, h => by
  have hx := h x (by simp)
  have hl : ∀ y, y ∈ l → 0 ≤ f y := fun y hy => h y (by simp [hy])
  have ih := means f l hl
  have hS := lsum_nn l hl
  rw [prodL, lsum, List.length_cons, show ((l.length + 1 : Nat) : Rat) = (l.length : Rat) + 1 by rw [Rat.natCast_add]; rfl]
  rcases Nat.eq_zero_or_pos l.length with h0 | h0
  ·have hn : l = [] := List.eq_nil_of_length_eq_zero h0
   subst hn
   simp only [prodL, lsum, List.length_nil, pw, Rat.mul_one]
   show f x * (0 + 1) ≤ f x + 0
   grind
  ·have hp := pw_pos (Rat.natCast_pos.2 h0) l.length
   refine le_of_mul hp ?_
   have k := two_means hx hS h0
   have hq : 0 ≤ pw ((l.length : Rat) + 1) (l.length + 1) := pw_nn (by have : (0 : Rat) ≤ (l.length : Rat) := Rat.natCast_nonneg; grind) _
   have k2 := mul_le_r (mul_le_l ih hx) hq
   generalize pw (lsum f l) l.length = a at *
   generalize pw (l.length : Rat) l.length = c at *
   generalize pw ((l.length : Rat) + 1) (l.length + 1) = d at *
   generalize pw (f x + lsum f l) (l.length + 1) = e at *
   generalize prodL f l = p at *
   generalize f x = q at *
   have : q * p * d * c = q * (p * c) * d := by grind
   rw [this]
   exact Rat.le_trans k2 k
end
def cntQ (x : Nat) (l : List Nat) : Rat := lsum (fun y => if y = x then 1 else 0) l
theorem cntQ_nn (x : Nat) (l : List Nat) : 0 ≤ cntQ x l := lsum_nn l fun y _ => by
 show (0 : Rat) ≤ if y = x then 1 else 0
 split <;> decide
theorem cntQ_pos {x : Nat} : ∀ {l : List Nat}, x ∈ l → 0 < cntQ x l
 | y :: l, h => by
  have h0 := cntQ_nn x l
  show 0 < (if y = x then (1 : Rat) else 0) + cntQ x l
  by_cases e : y = x
  ·rw [if_pos e]; grind
  ·rw [if_neg e]
   have := cntQ_pos ((List.mem_cons.1 h).resolve_left fun q => e q.symm)
   grind
theorem lsum_by (f : Nat → Rat) {k : Nat} : ∀ {l : List Nat}, (∀ x, x ∈ l → x < k) → lsum f l = sumN (fun x => cntQ x l * f x) k
 | [], _ => (sumN_zero fun x _ => Rat.zero_mul _).symm
 | y :: l, h => by
  rw [lsum, lsum_by f fun x hx => h x (by simp [hx]), ← sumN_pick (v := f) (h y (by simp)), ← sumN_add]
  refine sumN_congr fun x _ => ?_
  show _ = ((if y = x then (1 : Rat) else 0) + cntQ x l) * f x
  by_cases e : y = x
  ·rw [if_pos e, if_pos e]; grind
  ·rw [if_neg e, if_neg e]; grind
theorem lsum_one (l : List Nat) : lsum (fun _ => (1 : Rat)) l = (l.length : Rat) := by
 induction l with
 | nil => rfl
 | cons x l ih => rw [lsum, ih, List.length_cons, Rat.natCast_add, Rat.add_comm]; rfl
theorem gibbs {h : Nat → Rat} {l : List Nat} {k : Nat} {c : Rat} (hl : ∀ x, x ∈ l → x < k) (h0 : ∀ x, x < k → 0 ≤ h x) (hc : sumN h k ≤ c) : prodL h l * pw (l.length : Rat) l.length ≤ pw c l.length * prodL (cntQ · l) l := by
 have hf : ∀ x, x ∈ l → 0 ≤ h x / cntQ x l := fun x hx => div_nn (h0 x (hl x hx)) (cntQ_nn x l)
 have hm := means (fun x => h x / cntQ x l) l hf
 have hs : lsum (fun x => h x / cntQ x l) l ≤ c := by
  rw [lsum_by _ hl]
  refine Rat.le_trans (sumN_le fun x hx => ?_) hc
  by_cases e : cntQ x l = 0
  ·rw [e, Rat.zero_mul]; exact h0 x hx
  ·rw [Rat.div_def, Rat.mul_comm, Rat.mul_assoc, Rat.inv_mul_cancel _ e, Rat.mul_one]; exact Rat.le_refl
 have hk := Rat.le_trans hm (pw_mono (lsum_nn l hf) hs l.length)
 have he : prodL h l = prodL (fun x => h x / cntQ x l) l * prodL (cntQ · l) l := by
  rw [← prodL_mul]
  refine prodL_congr fun x hx => ?_
  have e : cntQ x l ≠ 0 := fun e => by have := cntQ_pos hx; rw [e] at this; exact Rat.lt_irrefl this
  rw [Rat.div_def, Rat.mul_assoc, Rat.inv_mul_cancel _ e, Rat.mul_one]
 rw [he]
 have := mul_le_r hk (show 0 ≤ prodL (cntQ · l) l from prodL_nn fun x _ => cntQ_nn x l)
 generalize prodL (fun x => h x / cntQ x l) l = p at *
 generalize prodL (cntQ · l) l = q at *
 generalize pw (l.length : Rat) l.length = r at *
 have e : p * q * r = p * r * q := by grind
 rw [e]; exact this
end Go.AL

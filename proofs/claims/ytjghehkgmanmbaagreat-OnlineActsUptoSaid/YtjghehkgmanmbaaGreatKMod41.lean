/-
  M, part 41: common denominators, and the sizes that follow from them.
-/
import Derived.Test.YtjghehkgmanmbaaGreatKMod40e
import Derived.Test.YtjghehkgmanmbaaGreatKNum13
set_option linter.unusedVariables false
set_option linter.unusedSimpArgs false
namespace Go.AL
open Go Go.BigFrame
def Dv (D : Nat) (x : Rat) : Prop := ∃ z : Int, x = mkRat z D
def ll (n : Nat) : Nat := (lim n).length
theorem ll_mul (a b : Nat) : ll (a * b) ≤ ll a + ll b := len_mul a b
theorem ll_one : ll 1 ≤ 1 := len_small (g := 1) (by decide)
theorem ll_le {a b : Nat} (h : a ≤ b) : ll a ≤ ll b := len_le h
theorem ll_den (x : Rat) : ll x.den ≤ sz x := sz_den x
theorem Dv.of_dvd {D : Nat} {x : Rat} (h : x.den ∣ D) (h0 : D ≠ 0) : Dv D x := by
 obtain ⟨k, rfl⟩ := h
 have hk : k ≠ 0 := fun e => h0 (by rw [e, Nat.mul_zero])
 exact ⟨x.num * k, by rw [Rat.mkRat_mul_right hk, Rat.mkRat_self]⟩
theorem Dv.den {D : Nat} {x : Rat} (h : Dv D x) (h0 : D ≠ 0) : x.den ∣ D := by
 obtain ⟨z, rfl⟩ := h
 rw [Rat.den_mkRat, if_neg h0]
 exact Nat.div_dvd_of_dvd (Nat.gcd_dvd_left _ _)
theorem Dv.up {D E : Nat} {x : Rat} (h : Dv D x) (h0 : D ≠ 0) (he : E ≠ 0) (hd : D ∣ E) : Dv E x := .of_dvd (Nat.dvd_trans (h.den h0) hd) he
theorem Dv.zero {D : Nat} : Dv D 0 := ⟨0, by rw [Rat.zero_mkRat]⟩
theorem Dv.one {D : Nat} (h0 : D ≠ 0) : Dv D 1 := .of_dvd (by rw [Rat.one_den]; exact Nat.one_dvd D) h0
theorem Dv.add {D : Nat} {x y : Rat} (h0 : D ≠ 0) (h : Dv D x) (k : Dv D y) : Dv D (x + y) := by
 obtain ⟨a, rfl⟩ := h
 obtain ⟨b, rfl⟩ := k
 refine ⟨a + b, ?_⟩
 rw [Rat.mkRat_add_mkRat a b h0 h0, ← Int.add_mul, Rat.mkRat_mul_right h0]
theorem Dv.neg {D : Nat} {x : Rat} (h0 : D ≠ 0) (h : Dv D x) : Dv D (-x) := .of_dvd (by rw [Rat.neg_den]; exact h.den h0) h0
theorem Dv.sub {D : Nat} {x y : Rat} (h0 : D ≠ 0) (h : Dv D x) (k : Dv D y) : Dv D (x - y) := by rw [Rat.sub_eq_add_neg]; exact h.add h0 (k.neg h0)
theorem Dv.mul {D E : Nat} {x y : Rat} (h : Dv D x) (k : Dv E y) : Dv (D * E) (x * y) := by
 obtain ⟨a, rfl⟩ := h
 obtain ⟨b, rfl⟩ := k
 exact ⟨a * b, Rat.mkRat_mul_mkRat a b D E⟩
theorem Dv.sz {D N : Nat} {x : Rat} (h : Dv D x) (h0 : D ≠ 0) (hp : 0 ≤ x) (hN : x ≤ (N : Rat)) (h1 : 1 ≤ N) : Go.AL.sz x ≤ ll (N * D) := by
 have hd : x.den ≤ D := Nat.le_of_dvd (Nat.pos_of_ne_zero h0) (h.den h0)
 have hn : x.num ≤ (N : Int) * x.den := by
  have := (Rat.le_iff x (N : Rat)).1 hN
  rw [show ((N : Rat)).num = (N : Int) from rfl, show ((N : Rat)).den = 1 from rfl, Int.natCast_one, Int.mul_one] at this
  exact this
 have hn0 : 0 ≤ x.num := Rat.num_nonneg.2 hp
 unfold Go.AL.sz
 refine Nat.max_le.2 ⟨ll_le ?_, ll_le ?_⟩
 ·have h2 : x.num.natAbs ≤ N * x.den := by
   have : ((x.num.natAbs : Nat) : Int) ≤ ((N * x.den : Nat) : Int) := by rw [Int.natAbs_of_nonneg hn0]; push_cast; exact hn
   exact Int.ofNat_le.1 this
  exact Nat.le_trans h2 (Nat.mul_le_mul_left N hd)
 ·exact Nat.le_trans hd (Nat.le_mul_of_pos_left D h1)
theorem pow_ne {D : Nat} (h : D ≠ 0) (t : Nat) : D ^ t ≠ 0 := Nat.pos_iff_ne_zero.1 (Nat.pow_pos (Nat.pos_of_ne_zero h))
def dnL : List Rat → Nat
 | [] => 1
 | x :: l => x.den * dnL l
theorem dnL_ne : ∀ l : List Rat, dnL l ≠ 0
 | [] => Nat.one_ne_zero
 | x :: l => Nat.mul_ne_zero x.den_nz (dnL_ne l)
theorem dnL_dvd : ∀ {l : List Rat} {x : Rat}, x ∈ l → x.den ∣ dnL l
 | y :: l, x, h => by
  rcases List.mem_cons.1 h with rfl | h
  ·exact Nat.dvd_mul_right ..
  ·exact Nat.dvd_trans (dnL_dvd h) (Nat.dvd_mul_left ..)
theorem dnL_ll {B : Nat} : ∀ {l : List Rat}, Small B l → ll (dnL l) ≤ l.length * B + 1
 | [], _ => by have := ll_one; unfold dnL; omega
 | x :: l, h => by
  have h1 := ll_mul x.den (dnL l)
  have h2 := dnL_ll fun y hy => h y (List.mem_cons_of_mem x hy)
  have h3 := Nat.le_trans (ll_den x) (h x (List.mem_cons_self ..))
  unfold dnL
  rw [List.length_cons, Nat.add_mul]; omega
def dnLL : List (List Rat) → Nat
 | [] => 1
 | x :: l => dnL x * dnLL l
theorem dnLL_ne : ∀ l : List (List Rat), dnLL l ≠ 0
 | [] => Nat.one_ne_zero
 | x :: l => Nat.mul_ne_zero (dnL_ne x) (dnLL_ne l)
theorem dnLL_dvd : ∀ {l : List (List Rat)} {x : List Rat}, x ∈ l → dnL x ∣ dnLL l
 | y :: l, x, h => by
  rcases List.mem_cons.1 h with rfl | h
  ·exact Nat.dvd_mul_right ..
  ·exact Nat.dvd_trans (dnLL_dvd h) (Nat.dvd_mul_left ..)
theorem dnLL_ll {B n : Nat} : ∀ {l : List (List Rat)}, (∀ x, x ∈ l → Small B x ∧ x.length ≤ n) → ll (dnLL l) ≤ l.length * (n * B + 1) + 1
 | [], _ => by have := ll_one; unfold dnLL; omega
 | x :: l, h => by
  have h1 := ll_mul (dnL x) (dnLL l)
  have h2 := dnLL_ll fun y hy => h y (List.mem_cons_of_mem x hy)
  obtain ⟨a, b⟩ := h x (List.mem_cons_self ..)
  have h3 := dnL_ll a
  have h4 : x.length * B ≤ n * B := Nat.mul_le_mul_right B b
  unfold dnLL
  rw [List.length_cons, Nat.add_mul]; omega
structure HM.Den (h : HM) (D : Nat) : Prop where
 ne : D ≠ 0
 e : Dv D h.empty
 i : ∀ k, Dv D (h.ini.getD k 0)
 s : ∀ k, Dv D (h.stop.getD k 0)
 t : ∀ i k, Dv D ((h.trans.getD i []).getD k 0)
 m : ∀ i k, Dv D ((h.emit.getD i []).getD k 0)
def HM.dn (h : HM) : Nat := h.empty.den * dnL h.ini * dnL h.stop * dnLL h.trans * dnLL h.emit
theorem Dv.getL {D : Nat} {l : List Rat} (h0 : D ≠ 0) (h : dnL l ∣ D) (k : Nat) : Dv D (l.getD k 0) := by
 rcases Nat.lt_or_ge k l.length with hk | hk
 ·exact .of_dvd (Nat.dvd_trans (dnL_dvd (getD_mem hk 0)) h) h0
 ·rw [List.getD_eq_getElem?_getD, List.getElem?_eq_none hk]; exact .zero
theorem Dv.getLL {D : Nat} {l : List (List Rat)} (h0 : D ≠ 0) (h : dnLL l ∣ D) (i k : Nat) : Dv D ((l.getD i []).getD k 0) := by
 rcases Nat.lt_or_ge i l.length with hi | hi
 ·exact .getL h0 (Nat.dvd_trans (dnLL_dvd (getD_mem hi [])) h) k
 ·rw [List.getD_eq_getElem?_getD (l := l), List.getElem?_eq_none hi]; exact (Dv.zero : Dv D 0)
theorem HM.den (h : HM) : h.Den h.dn := by
 have h0 : h.dn ≠ 0 := Nat.mul_ne_zero (Nat.mul_ne_zero (Nat.mul_ne_zero (Nat.mul_ne_zero h.empty.den_nz (dnL_ne _)) (dnL_ne _)) (dnLL_ne _)) (dnLL_ne _)
 have d4 : dnLL h.emit ∣ h.dn := Nat.dvd_mul_left ..
 have d3 : dnLL h.trans ∣ h.dn := Nat.dvd_trans (Nat.dvd_mul_left ..) (Nat.dvd_mul_right ..)
 have d2 : dnL h.stop ∣ h.dn := Nat.dvd_trans (Nat.dvd_trans (Nat.dvd_mul_left ..) (Nat.dvd_mul_right ..)) (Nat.dvd_mul_right ..)
 have d1 : dnL h.ini ∣ h.dn := Nat.dvd_trans (Nat.dvd_trans (Nat.dvd_trans (Nat.dvd_mul_left ..) (Nat.dvd_mul_right ..)) (Nat.dvd_mul_right ..)) (Nat.dvd_mul_right ..)
 have d0 : h.empty.den ∣ h.dn := Nat.dvd_trans (Nat.dvd_trans (Nat.dvd_trans (Nat.dvd_mul_right ..) (Nat.dvd_mul_right ..)) (Nat.dvd_mul_right ..)) (Nat.dvd_mul_right ..)
 exact ⟨h0, .of_dvd d0 h0, .getL h0 d1, .getL h0 d2, .getLL h0 d3, .getLL h0 d4⟩
theorem HM.dn_ll {h : HM} {n m : Nat} (f : h.GoodW 1048576) (hn : h.st ≤ n) (hm : h.sym ≤ m) : ll h.dn ≤ 1048576 + (n * 1048576 + 1) + (n * 1048576 + 1) + (n * (n * 1048576 + 1) + 1) + (n * (m * 1048576 + 1) + 1) := by
 have g := f.form
 have h1 := ll_mul (h.empty.den * dnL h.ini * dnL h.stop * dnLL h.trans) (dnLL h.emit)
 have h2 := ll_mul (h.empty.den * dnL h.ini * dnL h.stop) (dnLL h.trans)
 have h3 := ll_mul (h.empty.den * dnL h.ini) (dnL h.stop)
 have h4 := ll_mul h.empty.den (dnL h.ini)
 have k0 := Nat.le_trans (ll_den h.empty) g.zE
 have k1 := dnL_ll g.zI
 have k2 := dnL_ll g.zS
 have k3 := dnLL_ll (B := 1048576) (n := n) (l := h.trans) fun x hx => by
  obtain ⟨i, hi, rfl⟩ := mem_ix [] hx
  exact ⟨g.zT i, by rw [g.trow i (by have := g.trans; omega)]; exact hn⟩
 have k4 := dnLL_ll (B := 1048576) (n := m) (l := h.emit) fun x hx => by
  obtain ⟨i, hi, rfl⟩ := mem_ix [] hx
  exact ⟨g.zM i, by rw [g.erow i (by have := g.emit; omega)]; exact hm⟩
 rw [g.ini] at k1
 rw [g.stop] at k2
 rw [g.trans] at k3
 rw [g.emit] at k4
 have m1 : h.st * 1048576 ≤ n * 1048576 := Nat.mul_le_mul_right _ hn
 have m3 : h.st * (n * 1048576 + 1) ≤ n * (n * 1048576 + 1) := Nat.mul_le_mul_right _ hn
 have m4 : h.st * (m * 1048576 + 1) ≤ n * (m * 1048576 + 1) := Nat.mul_le_mul_right _ hn
 have a1 := Nat.le_trans h4 (Nat.add_le_add k0 (Nat.le_trans k1 (Nat.add_le_add_right m1 1)))
 have a2 := Nat.le_trans h3 (Nat.add_le_add a1 (Nat.le_trans k2 (Nat.add_le_add_right m1 1)))
 have a3 := Nat.le_trans h2 (Nat.add_le_add a2 (Nat.le_trans k3 (Nat.add_le_add_right m3 1)))
 exact Nat.le_trans h1 (Nat.add_le_add a3 (Nat.le_trans k4 (Nat.add_le_add_right m4 1)))
structure RowD (D : Nat) (l : List Rat) : Prop where
 dv : ∀ k, Dv D (l.getD k 0)
 sh : Shares l
 sum : sumQ l ≤ 1
 sm : Small 1048576 l
structure SpanW (D t : Nat) (s : Span) : Prop where
 lo : Dv (D ^ t) s.lo
 len : Dv (D ^ t) s.len
 p0 : 0 ≤ s.lo
 p1 : 0 ≤ s.len
 p2 : s.lo + s.len ≤ 1
theorem partLo_sum (s : Span) : ∀ l : List Rat, partLo s l = s.lo + s.len * sumQ l := by
 suffices h : ∀ (l : List Rat) (a : Rat), l.foldl (fun a p => a + s.len * p) a = a + s.len * sumQ l from fun l => h l s.lo
 intro l
 induction l with
 | nil => intro a; show a = a + s.len * sumQ []; rw [sumQ_nil, Rat.mul_zero, Rat.add_zero]
 | cons x l ih => intro a; rw [List.foldl_cons, ih, sumQ_cons, Rat.mul_add, Rat.add_assoc]
theorem Dv.sumQ {D : Nat} (h0 : D ≠ 0) : ∀ {l : List Rat}, (∀ x, x ∈ l → Dv D x) → Dv D (Go.AL.sumQ l)
 | [], _ => .zero
 | x :: l, h => by rw [sumQ_cons]; exact (h x (List.mem_cons_self ..)).add h0 (Dv.sumQ h0 fun y hy => h y (List.mem_cons_of_mem x hy))
theorem RowD.mem {D : Nat} {l : List Rat} (r : RowD D l) : ∀ x, x ∈ l → Dv D x := fun x hx => by
 obtain ⟨i, hi, rfl⟩ := mem_ix 0 hx
 exact r.dv i
theorem SpanW.plo {D t : Nat} {s : Span} {l : List Rat} (h0 : D ≠ 0) (h : SpanW D t s) (r : RowD D l) (k : Nat) : Dv (D ^ (t + 1)) (partLo s (l.take k)) ∧ 0 ≤ partLo s (l.take k) ∧ partLo s (l.take k) ≤ 1 := by
 have hs := sumQ_take_le (fun q hq => (r.sh q hq).1) k
 have hs0 := sumQ_nonneg (l := l.take k) fun q hq => (r.sh q (List.mem_of_mem_take hq)).1
 have e : s.len * sumQ (l.take k) ≤ s.len * 1 := Rat.mul_le_mul_of_nonneg_left (Rat.le_trans hs r.sum) h.p1
 have e0 : 0 ≤ s.len * sumQ (l.take k) := Rat.mul_nonneg h.p1 hs0
 have p2 := h.p2
 have p0 := h.p0
 rw [partLo_sum]
 refine ⟨Dv.add (pow_ne h0 _) (h.lo.up (pow_ne h0 _) (pow_ne h0 _) (by rw [Nat.pow_succ]; exact Nat.dvd_mul_right ..)) (by rw [Nat.pow_succ]; exact h.len.mul (Dv.sumQ h0 fun x hx => r.mem x (List.mem_of_mem_take hx))), ?_, ?_⟩
 ·grind
 ·grind
theorem SpanW.part {D t : Nat} {s : Span} {l : List Rat} (h0 : D ≠ 0) (h : SpanW D t s) (r : RowD D l) (k : Nat) (hk : k < l.length) : SpanW D (t + 1) (s.part l k) := by
 obtain ⟨a, b, _⟩ := h.plo h0 r k
 have hg := r.sh.get k
 have hs := sumQ_take_le (fun q hq => (r.sh q hq).1) (k + 1)
 rw [sumQ_take_succ hk] at hs
 have e : s.len * (sumQ (l.take k) + l.getD k 0) ≤ s.len * 1 := Rat.mul_le_mul_of_nonneg_left (Rat.le_trans hs r.sum) h.p1
 have p2 := h.p2
 refine ⟨a, by rw [Nat.pow_succ]; exact h.len.mul (r.dv k), b, Rat.mul_nonneg h.p1 hg.1, ?_⟩
 show partLo s (l.take k) + s.len * l.getD k 0 ≤ 1
 rw [partLo_sum]
 rw [Rat.mul_add] at e
 grind
theorem getD_app_one (l : List Rat) (x : Rat) (k : Nat) : (l ++ [x]).getD k 0 = l.getD k 0 ∨ (l ++ [x]).getD k 0 = x ∨ (l ++ [x]).getD k 0 = 0 := by
 rw [List.getD_eq_getElem?_getD, List.getD_eq_getElem?_getD, List.getElem?_append]
 split
 ·exact .inl rfl
 ·rcases Nat.lt_or_ge (k - l.length) 1 with h | h
  ·rw [show k - l.length = 0 by omega]; exact .inr (.inl rfl)
  ·rw [List.getElem?_eq_none (by simpa using h)]; exact .inr (.inr rfl)
theorem Dv.app {D : Nat} {l : List Rat} {x : Rat} (h : ∀ k, Dv D (l.getD k 0)) (hx : Dv D x) (k : Nat) : Dv D ((l ++ [x]).getD k 0) := by
 rcases getD_app_one l x k with e | e | e <;> rw [e]
 ·exact h k
 ·exact hx
 ·exact .zero
theorem SpanW.one {D : Nat} (h0 : D ≠ 0) (t : Nat) : SpanW D t .one := ⟨.zero, .one (pow_ne h0 t), by decide, by decide, by show (0 : Rat) + 1 ≤ 1; decide +kernel⟩
end Go.AL

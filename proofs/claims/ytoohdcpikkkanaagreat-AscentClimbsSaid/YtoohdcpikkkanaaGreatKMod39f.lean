/-
  M, chapter 39: the bounds of the likelihood.
-/
import Derived.Test.YtoohdcpikkkanaaGreatKAsH
import Derived.Test.YtoohdcpikkkanaaGreatKMod39c
set_option linter.unusedVariables false
set_option linter.unusedSimpArgs false
namespace Go.AL
open Go Go.BigFrame
theorem lt_of_le_lt9 {a b c : Rat} (h : a ≤ b) (g : b < c) : a < c := by grind
def P2 (k : Nat) : Rat := ((2 ^ k : Nat) : Rat)
theorem P2_pos (k : Nat) : 0 < P2 k := Rat.natCast_pos.2 (Nat.pow_pos (by decide))
theorem dn_nat {A D : Nat} (hD : 0 < D) : ∃ c, c = A / D + (if 0 < A % D then 1 else 0) ∧ A ≤ c * D ∧ c * D < A + D := by
 refine ⟨_, rfl, ?_⟩
 have h := Nat.div_add_mod A D
 have h1 := Nat.mod_lt A hD
 rw [Nat.add_mul, Nat.mul_comm (A / D) D]
 split
 ·omega
 ·omega
theorem dn_int (q : Rat) (k : Nat) : ∃ m : Int, downQ q k = mkRat m (2 ^ k) ∧ m * (q.den : Int) ≤ q.num * ((2 ^ k : Nat) : Int) ∧ q.num * ((2 ^ k : Nat) : Int) < m * (q.den : Int) + q.den := by
 have hD := q.den_pos
 unfold downQ fr
 by_cases hn : q.num < 0
 ·obtain ⟨c, hc, h1, h2⟩ := dn_nat (A := q.num.natAbs * 2 ^ k) hD
  refine ⟨-(c : Int), ?_, ?_, ?_⟩
  ·rw [decide_eq_true hn, hc]
   unfold dnN
   rw [cond_true]
   simp only [hn, true_and]
  ·have e : q.num * ((2 ^ k : Nat) : Int) = -((q.num.natAbs * 2 ^ k : Nat) : Int) := by
    rw [Int.natCast_mul, ← Int.neg_mul]; congr 1; omega
   rw [e, Int.neg_mul, ← Int.natCast_mul]
   omega
  ·have e : q.num * ((2 ^ k : Nat) : Int) = -((q.num.natAbs * 2 ^ k : Nat) : Int) := by
    rw [Int.natCast_mul, ← Int.neg_mul]; congr 1; omega
   rw [e, Int.neg_mul, ← Int.natCast_mul]
   omega
 ·have e : q.num * ((2 ^ k : Nat) : Int) = ((q.num.natAbs * 2 ^ k : Nat) : Int) := by
   rw [Int.natCast_mul]; congr 1; omega
  have h := Nat.div_add_mod (q.num.natAbs * 2 ^ k) q.den
  have h1 := Nat.mod_lt (q.num.natAbs * 2 ^ k) hD
  rw [Nat.mul_comm] at h
  refine ⟨((q.num.natAbs * 2 ^ k / q.den : Nat) : Int), ?_, ?_, ?_⟩
  ·rw [decide_eq_false hn]
   unfold dnN
   rw [cond_false, if_neg (fun e => hn e.1), Nat.add_zero]
  ·rw [e, ← Int.natCast_mul]; omega
  ·rw [e, ← Int.natCast_mul]; omega
theorem dn_floor (q : Rat) (k : Nat) : ∃ m : Int, downQ q k * P2 k = (m : Rat) ∧ (m : Rat) ≤ q * P2 k ∧ q * P2 k < (m : Rat) + 1 := by
 obtain ⟨m, h0, h1, h2⟩ := dn_int q k
 have hd : (0 : Rat) < (q.den : Rat) := Rat.natCast_pos.2 q.den_pos
 have e1 : q * (q.den : Rat) = (q.num : Rat) := by
  have := Rat.mkRat_self q
  rw [Rat.mkRat_eq_div] at this
  conv => lhs; lhs; rw [← this]
  exact Rat.div_mul_cancel (Rat.ne_of_gt hd)
 have e2 : q * P2 k * (q.den : Rat) = ((q.num * ((2 ^ k : Nat) : Int) : Int) : Rat) := by
  rw [Rat.intCast_mul, ← e1, Rat.intCast_natCast]
  show q * P2 k * _ = q * _ * P2 k
  rw [Rat.mul_assoc, Rat.mul_comm (P2 k), ← Rat.mul_assoc]
 refine ⟨m, ?_, ?_, ?_⟩
 ·rw [h0, Rat.mkRat_eq_div]
  exact Rat.div_mul_cancel (Rat.ne_of_gt (P2_pos k))
 ·refine Rat.le_of_mul_le_mul_right ?_ hd
  rw [e2]
  have := Rat.intCast_le_intCast.2 h1
  rw [Rat.intCast_mul, Rat.intCast_natCast] at this
  exact this
 ·refine Rat.lt_of_mul_lt_mul_right ?_ (Rat.le_of_lt hd)
  rw [e2, Rat.add_mul, Rat.one_mul]
  have := Rat.intCast_lt_intCast.2 h2
  rw [Rat.intCast_add, Rat.intCast_mul m, Rat.intCast_natCast] at this
  exact this
theorem dn_le (q : Rat) (k : Nat) : downQ q k ≤ q := by
 obtain ⟨m, h0, h1, _⟩ := dn_floor q k
 exact Rat.le_of_mul_le_mul_right (by rw [h0]; exact h1) (P2_pos k)
theorem dn_nonneg {q : Rat} (h : 0 ≤ q) (k : Nat) : 0 ≤ downQ q k := by
 obtain ⟨m, h0, _, h2⟩ := dn_floor q k
 have h3 := Rat.mul_nonneg h (Rat.le_of_lt (P2_pos k))
 have h4 : (0 : Rat) < ((m + 1 : Int) : Rat) := by rw [Rat.intCast_add]; exact lt_of_le_lt9 h3 h2
 have h5 : 0 ≤ m := by have := Rat.intCast_pos.1 h4; omega
 refine Rat.le_of_mul_le_mul_right (c := P2 k) ?_ (P2_pos k)
 rw [h0, Rat.zero_mul]
 exact Rat.intCast_nonneg.2 h5
def Below (r s : Rat → Rat) : Prop := ∀ x y, 0 ≤ x → x ≤ y → 0 ≤ r x ∧ r x ≤ s y
theorem le_up (q : Rat) (k : Nat) : q ≤ upQ q k := by
 have := dn_le (-q) k
 unfold upQ
 grind
theorem below_dn (k : Nat) : Below (downQ · k) id := fun x y h0 h => ⟨dn_nonneg h0 k, Rat.le_trans (dn_le x k) h⟩
theorem below_up (k : Nat) : Below id (upQ · k) := fun x y h0 h => ⟨h0, Rat.le_trans h (le_up y k)⟩
def mixU (h : HM) (v : List Rat) (t i : Nat) : Rat := if t = 0 then v.getD i 0 else sumN (fun j => v.getD j 0 * trQ h j i) h.st
def bNew (r : Rat → Rat) (h : HM) (w : List Int) (v : List Rat) (t : Nat) : List Rat := (List.range h.st).map fun i => r (mixU h v t i * emQ h i (symX w t))
def bVec (r : Rat → Rat) (h : HM) (w : List Int) : Nat → List Rat
 | 0 => h.ini
 | t + 1 => bNew r h w (bVec r h w t) t
def bndF (r : Rat → Rat) (h : HM) (w : List Int) : Rat := if w.length = 0 then r h.empty else r (likN h (bVec r h w w.length) h.st)
def clsN (r : Rat → Rat) (h : HM) (X : List (List Int)) : Nat → Rat
 | 0 => 1
 | k + 1 => r (clsN r h X k * bndF r h (X.getD k []))
def lkN (h : HM) (X : List (List Int)) : Nat → Rat
 | 0 => 1
 | k + 1 => lkN h X k * likF h (X.getD k [])
section
variable {h : HM} {B : Nat} {r s : Rat → Rat}
theorem bNew_len (r : Rat → Rat) (h : HM) (w : List Int) (v : List Rat) (t : Nat) : (bNew r h w v t).length = h.st := by simp [bNew]
theorem bNew_get {w : List Int} {v : List Rat} {t i : Nat} (hi : i < h.st) : (bNew r h w v t).getD i 0 = r (mixU h v t i * emQ h i (symX w t)) := map_get9 _ _ hi
theorem bVec_len (f : h.Form B) (w : List Int) : ∀ t, (bVec r h w t).length = h.st
 | 0 => f.ini
 | t + 1 => bNew_len ..
theorem sumN_below {f g : Nat → Rat} (hf : ∀ i, 0 ≤ f i ∧ f i ≤ g i) : ∀ n, 0 ≤ sumN f n ∧ sumN f n ≤ sumN g n
 | 0 => ⟨Rat.le_refl, Rat.le_refl⟩
 | n + 1 => by
  have h1 := sumN_below hf n
  have h2 := hf n
  show 0 ≤ sumN f n + f n ∧ sumN f n + f n ≤ sumN g n + g n
  grind
theorem mul_below {a b c : Rat} (h : 0 ≤ a ∧ a ≤ b) (hc : 0 ≤ c) : 0 ≤ a * c ∧ a * c ≤ b * c := ⟨Rat.mul_nonneg h.1 hc, Rat.mul_le_mul_of_nonneg_right h.2 hc⟩
theorem tr_nn (k : h.Good B) (i j : Nat) : 0 ≤ trQ h i j := ((k.pT i).get j).1
theorem em_nn (k : h.Good B) (i j : Nat) : 0 ≤ emQ h i j := ((k.pM i).get j).1
theorem mixU_below (k : h.Good B) {u v : List Rat} (hv : ∀ i, 0 ≤ u.getD i 0 ∧ u.getD i 0 ≤ v.getD i 0) (t i : Nat) : 0 ≤ mixU h u t i ∧ mixU h u t i ≤ mixU h v t i := by
 unfold mixU
 split
 ·exact hv i
 ·exact sumN_below (fun j => mul_below (hv j) (tr_nn k j i)) _
theorem getD_past {l : List Rat} {i : Nat} (h : l.length ≤ i) : l.getD i 0 = 0 := by
 rw [List.getD_eq_getElem?_getD, List.getElem?_eq_none h]; rfl
theorem bVec_below (k : h.Good B) (hB : Below r s) (w : List Int) : ∀ t i, 0 ≤ (bVec r h w t).getD i 0 ∧ (bVec r h w t).getD i 0 ≤ (bVec s h w t).getD i 0
 | 0, i => ⟨(k.pI.get i).1, Rat.le_refl⟩
 | t + 1, i => by
  show 0 ≤ (bNew r h w _ t).getD i 0 ∧ (bNew r h w _ t).getD i 0 ≤ (bNew s h w _ t).getD i 0
  by_cases hi : i < h.st
  ·rw [bNew_get hi, bNew_get hi]
   have h1 := mul_below (mixU_below k (bVec_below k hB w t) t i) (em_nn k i (symX w t))
   exact hB _ _ h1.1 h1.2
  ·rw [getD_past (by rw [bNew_len]; omega), getD_past (by rw [bNew_len]; omega)]
   exact ⟨Rat.le_refl, Rat.le_refl⟩
theorem bnd_below (k : h.Good B) (hB : Below r s) (w : List Int) : 0 ≤ bndF r h w ∧ bndF r h w ≤ bndF s h w := by
 unfold bndF
 split
 ·exact hB _ _ k.pE.1 Rat.le_refl
 ·have h1 := sumN_below (fun i => mul_below (bVec_below k hB w w.length i) (k.pS.get i).1) h.st
  exact hB _ _ h1.1 h1.2
theorem enc_below (k : h.Good B) (hB : Below r s) (X : List (List Int)) : ∀ n, 0 ≤ clsN r h X n ∧ clsN r h X n ≤ clsN s h X n
 | 0 => ⟨show (0 : Rat) ≤ 1 by decide, Rat.le_refl⟩
 | n + 1 => by
  have h1 := enc_below k hB X n
  have h2 := bnd_below k hB (X.getD n [])
  show 0 ≤ r _ ∧ r _ ≤ s _
  refine hB _ _ (Rat.mul_nonneg h1.1 h2.1) (Rat.le_trans (Rat.mul_le_mul_of_nonneg_right h1.2 h2.1) ?_)
  exact Rat.mul_le_mul_of_nonneg_left h2.2 (Rat.le_trans h1.1 h1.2)
theorem bVec_id (w : List Int) : ∀ t, bVec id h w (t + 1) = fwdF h w t
 | 0 => by
  show (List.range h.st).map (fun i => id (mixU h h.ini 0 i * emQ h i (symX w 0))) = _
  rfl
 | t + 1 => by
  show bNew id h w (bVec id h w (t + 1)) (t + 1) = _
  rw [bVec_id w t]
  rfl
theorem bnd_id (w : List Int) : bndF id h w = likF h w := by
 unfold bndF likF
 split
 ·rfl
 ·next h0 =>
  obtain ⟨n, e⟩ : ∃ n, w.length = n + 1 := ⟨w.length - 1, by omega⟩
  rw [e, bVec_id, Nat.add_sub_cancel]; rfl
theorem enc_id (X : List (List Int)) : ∀ n, clsN id h X n = lkN h X n
 | 0 => rfl
 | n + 1 => by
  show id (clsN id h X n * bndF id h (X.getD n [])) = _
  rw [enc_id X n, bnd_id]; rfl
def Rnd (r : Rat → Rat) : Prop := ∀ x, sz (r x) ≤ sz x + 9
def BS : Nat → Nat
 | 0 => 1024
 | t + 1 => 4 * (BS t + 1025) + 1034
theorem BS_le {t : Nat} (ht : t ≤ 6) : 1 ≤ BS t ∧ BS t ≤ 12000000 := by
 have : t = 0 ∨ t = 1 ∨ t = 2 ∨ t = 3 ∨ t = 4 ∨ t = 5 ∨ t = 6 := by omega
 rcases this with rfl | rfl | rfl | rfl | rfl | rfl | rfl <;> decide +kernel
theorem colsum_sz (f : h.Form B) {v : List Rat} {C n : Nat} (hv : Small C v) (hC : 1 ≤ C) (hn : n ≤ 4) (i : Nat) : sz (sumN (fun j => v.getD j 0 * trQ h j i) n) ≤ 4 * (C + 1025) + 1 := by
 have h1 := sumN_sz4 (C := C + 1024) (f := fun j => v.getD j 0 * trQ h j i) (n := n) (fun j => by
  have h1 := sz_mul (v.getD j 0) (trQ h j i)
  have h2 := tr_sz f j i
  have h3 := hv.get hC j
  omega) hn
 have e : 1 + 4 * (C + 1024 + 1) = 4 * (C + 1025) + 1 := by omega
 rw [e] at h1; exact h1
theorem mixU_sz (f : h.Form B) (hs : h.st ≤ 4) {v : List Rat} {C : Nat} (hv : Small C v) (hC : 1 ≤ C) (t i : Nat) : sz (mixU h v t i) ≤ 4 * (C + 1025) + 1 := by
 unfold mixU
 split
 ·have := hv.get hC i; omega
 ·exact colsum_sz f hv hC hs i
theorem bVec_small (f : h.Form B) (hs : h.st ≤ 4) (hr : Rnd r) (w : List Int) : ∀ t, Small (BS t) (bVec r h w t)
 | 0 => fun q hq => Nat.le_trans (f.zI q hq) f.bB
 | t + 1 => fun q hq => by
  obtain ⟨i, _, rfl⟩ := List.mem_map.1 hq
  have hC : 1 ≤ BS t := by cases t <;> simp only [BS] <;> omega
  have h1 := mixU_sz f hs (bVec_small f hs hr w t) hC t i
  have h2 := em_sz f i (symX w t)
  have h3 := sz_mul (mixU h (bVec r h w t) t i) (emQ h i (symX w t))
  have h4 := hr (mixU h (bVec r h w t) t i * emQ h i (symX w t))
  show _ ≤ 4 * (BS t + 1025) + 1034
  omega
theorem bVec_smallB (f : h.Form B) {w : List Int} (k : Few h w) (hr : Rnd r) {t : Nat} (ht : t ≤ w.length) : Small 12000000 (bVec r h w t) := (bVec_small f k.st hr w t).mono (BS_le (by have := k.len; omega)).2
theorem likN_szB {n : Nat} (f : h.Form B) {row : List Rat} (hr : Small 12000000 row) (hn : n ≤ 4) : sz (likN h row n) ≤ 48010000 := by
 have : sz (likN h row n) ≤ 1 + 4 * (12001024 + 1) := sumN_sz4 (fun i => by
  have h1 := sz_mul (row.getD i 0) (h.stop.getD i 0)
  have h2 := stop_sz f i
  have h3 := hr.get (by decide) i
  omega) hn
 omega
theorem bnd_sz (f : h.Form B) {w : List Int} (k : Few h w) (hr : Rnd r) : sz (bndF r h w) ≤ 48010009 := by
 unfold bndF
 split
 ·have h1 := hr h.empty
  have := f.zE; have := f.bB; omega
 ·have h1 := hr (likN h (bVec r h w w.length) h.st)
  have h2 := likN_szB f (bVec_smallB f k hr (Nat.le_refl _)) k.st
  omega
theorem enc_sz (f : h.Form B) {X : List (List Int)} (k : DataOK h X) (hr : Rnd r) : ∀ n, n ≤ X.length → sz (clsN r h X n) ≤ 1 + n * 48010018
 | 0, _ => by show sz 1 ≤ _; rw [sz_one]; omega
 | n + 1, hn => by
  have h1 := enc_sz f k hr n (by omega)
  have h2 := bnd_sz f (k.get (show n < X.length by omega)).2 hr
  have h3 := sz_mul (clsN r h X n) (bndF r h (X.getD n []))
  have h4 := hr (clsN r h X n * bndF r h (X.getD n []))
  show sz (r _) ≤ _
  omega
theorem lk_sz (f : h.Form B) {X : List (List Int)} (k : DataOK h X) : ∀ n, n ≤ X.length → sz (lkN h X n) ≤ 1 + n * 16010000
 | 0, _ => by show sz 1 ≤ _; rw [sz_one]; omega
 | n + 1, hn => by
  have h1 := lk_sz f k n (by omega)
  have h2 := lik_sz f (k.get (show n < X.length by omega)).2
  have h3 := sz_mul (lkN h X n) (likF h (X.getD n []))
  show sz (_ * _) ≤ _
  omega
theorem rnd_dn {k : Nat} (hk : k ≤ 256) : Rnd (downQ · k) := fun x => down_sz x hk
theorem rnd_up {k : Nat} (hk : k ≤ 256) : Rnd (upQ · k) := fun x => up_sz x hk
end
end Go.AL

/-
  M, part 51: sizes of what chapter 34 computes, for great numbers, by common denominators.
-/
import Derived.Test.YtjghehkgmanmbaaGreatKCwA
import Derived.Test.YtjghehkgmanmbaaGreatKMod34b
set_option linter.unusedVariables false
set_option linter.unusedSimpArgs false
namespace Go.AL
open Go Go.BigFrame
structure QB (D k N : Nat) (x : Rat) : Prop where
 dv : Dv (D ^ k) x
 p0 : 0 ≤ x
 le : x ≤ (N : Rat)
theorem QB.mul {D a b N M : Nat} {x y : Rat} (h : QB D a N x) (k : QB D b M y) : QB D (a + b) (N * M) (x * y) := by
 refine ⟨by rw [Nat.pow_add]; exact h.dv.mul k.dv, Rat.mul_nonneg h.p0 k.p0, ?_⟩
 rw [Rat.natCast_mul]
 exact Rat.le_trans (Rat.mul_le_mul_of_nonneg_right h.le k.p0) (Rat.mul_le_mul_of_nonneg_left k.le (Rat.le_trans h.p0 h.le))
theorem QB.mono {D a b N M : Nat} {x : Rat} (h0 : D ≠ 0) (h : QB D a N x) (hab : a ≤ b) (hN : N ≤ M) : QB D b M x :=
 ⟨h.dv.up (pow_ne h0 _) (pow_ne h0 _) (Nat.pow_dvd_pow D hab), h.p0, Rat.le_trans h.le (Rat.natCast_le_natCast.2 hN)⟩
theorem QB.share {D : Nat} {x : Rat} (h : Dv D x) (s : Share x) : QB D 1 1 x := ⟨by rw [Nat.pow_one]; exact h, s.1, s.2⟩
theorem QB.sumN {D k N : Nat} {f : Nat → Rat} (h0 : D ≠ 0) (hf : ∀ i, QB D k N (f i)) : ∀ n, QB D k (n * N) (Go.AL.sumN f n)
 | 0 => ⟨.zero, Rat.le_refl, by rw [Nat.zero_mul]; exact Rat.le_refl⟩
 | n + 1 => by
  have h := QB.sumN h0 hf n
  refine ⟨h.dv.add (pow_ne h0 _) (hf n).dv, Rat.add_nonneg h.p0 (hf n).p0, ?_⟩
  rw [Nat.succ_mul, Rat.natCast_add]
  have a := h.le
  have b := (hf n).le
  show Go.AL.sumN f n + f n ≤ _
  grind
theorem QB.sz {D k N K : Nat} {x : Rat} (h : QB D k N x) (h0 : D ≠ 0) (hD : ll D ≤ K) (hN : 1 ≤ N ∧ N < 4294967296) : Go.AL.sz x ≤ k * K + 2 := by
 have h1 := h.dv.sz (pow_ne h0 k) h.p0 h.le hN.1
 have h2 := ll_mul N (D ^ k)
 have h3 := ll_pow hD k
 have h4 : ll N ≤ 1 := len_small (g := N) hN.2
 omega
structure ExSz (h : HM) (w : List Int) : Prop where
 s : FwdSz h w
 lk : sz (likF h w) ≤ 68719476736
 bwd : ∀ d i, d < w.length → sz ((bwdF h w d).getD i 0) ≤ 68719476736
 emb : ∀ d j x, d < w.length → sz (emQ h j x * (bwdF h w d).getD j 0) ≤ 68719476736
 trem : ∀ i j x, sz (trQ h i j * emQ h j x) ≤ 68719476736
 trb : ∀ d i j x, d < w.length → sz (trQ h i j * (emQ h j x * (bwdF h w d).getD j 0)) ≤ 68719476736
 suf : ∀ d a i n, d < w.length → n ≤ h.st → sz (sufF h w (bwdF h w d) a i n) ≤ 68719476736
 fb : ∀ t d i, t < w.length → d < w.length → sz ((fwdF h w t).getD i 0 * (bwdF h w d).getD i 0) ≤ 68719476736
 post : ∀ t i, t < w.length → sz (postQ h w t i) ≤ 68719476736
 xiM : ∀ t i j, t + 1 < w.length → sz ((fwdF h w t).getD i 0 * trQ h i j * (emQ h j (symX w (t + 1)) * (bwdF h w (w.length - 1 - (t + 1))).getD j 0)) ≤ 68719476736
 xi : ∀ t i j, t + 1 < w.length → sz (xiQ h w t i j) ≤ 68719476736
 show_ : ∀ n i x, n ≤ w.length → sz (showQ h w n i x) ≤ 68719476736
 move : ∀ n i j, n < w.length → sz (moveQ h w n i j) ≤ 68719476736
section
variable {h : HM}
theorem dvG {D : Nat} {l : List Rat} (hl : ∀ k, Dv D (l.getD k 0)) (s : Shares l) (k : Nat) : QB D 1 1 (l.getD k 0) := .share (hl k) (s.get k)
theorem getD_range_ind {P : Rat → Prop} {f : Nat → Rat} {n : Nat} (h0 : P 0) (hf : ∀ j, P (f j)) (j : Nat) : P (((List.range n).map f).getD j 0) := by
 rcases Nat.lt_or_ge j n with hj | hj
 ·rw [map_getD_range _ _ hj]; exact hf j
 ·rw [List.getD_eq_getElem?_getD, List.getElem?_eq_none (by simp; exact hj)]; exact h0
theorem QB.zero {D k N : Nat} : QB D k N 0 := ⟨.zero, Rat.le_refl, Rat.natCast_nonneg⟩
theorem qb_ini (g : h.GoodW 1048576) (j : Nat) : QB h.dn 1 1 (h.ini.getD j 0) := dvG h.den.i g.pI j
theorem qb_stop (g : h.GoodW 1048576) (j : Nat) : QB h.dn 1 1 (h.stop.getD j 0) := dvG h.den.s g.pS j
theorem qb_tr (g : h.GoodW 1048576) (i j : Nat) : QB h.dn 1 1 (trQ h i j) := dvG (h.den.t i) (g.pT i) j
theorem qb_em (g : h.GoodW 1048576) (i x : Nat) : QB h.dn 1 1 (emQ h i x) := dvG (h.den.m i) (g.pM i) x
theorem qb_fwd (g : h.GoodW 1048576) (hs : h.st ≤ 5) (w : List Int) : ∀ t j, QB h.dn (2 * t + 2) (5 ^ t) ((fwdF h w t).getD j 0)
 | 0, j => getD_range_ind .zero (fun j => (qb_ini g j).mul (qb_em g j (symX w 0))) j
 | t + 1, j => getD_range_ind .zero (fun j => by
   have h1 := QB.sumN (n := h.st) h.den.ne fun i => (qb_fwd g hs w t i).mul (qb_tr g i j)
   have h2 := h1.mul (qb_em g j (symX w (t + 1)))
   have h3 : h.st * (5 ^ t * 1) * 1 ≤ 5 ^ (t + 1) := by rw [Nat.mul_one, Nat.mul_one, Nat.pow_succ, Nat.mul_comm (5 ^ t)]; exact Nat.mul_le_mul_right _ hs
   exact h2.mono h.den.ne (by omega) h3) j
theorem qb_pre (g : h.GoodW 1048576) (hs : h.st ≤ 5) (w : List Int) (t a j n : Nat) : QB h.dn (2 * t + 3) (n * (5 ^ t * 1)) (preF h w (fwdF h w t) a j n) :=
 QB.sumN h.den.ne (fun i => (qb_fwd g hs w t i).mul (qb_tr g i j)) n
theorem qb_lik (g : h.GoodW 1048576) (hs : h.st ≤ 5) (w : List Int) (t n : Nat) : QB h.dn (2 * t + 3) (n * (5 ^ t * 1)) (likN h (fwdF h w t) n) :=
 QB.sumN h.den.ne (fun i => (qb_fwd g hs w t i).mul (qb_stop g i)) n
theorem qb_bwd (g : h.GoodW 1048576) (hs : h.st ≤ 5) (w : List Int) : ∀ d i, QB h.dn (2 * d + 1) (5 ^ d) ((bwdF h w d).getD i 0)
 | 0, i => getD_range_ind .zero (fun i => qb_stop g i) i
 | d + 1, i => getD_range_ind .zero (fun i => by
   have h1 := QB.sumN (n := h.st) h.den.ne fun j => (qb_tr g i j).mul ((qb_em g j (symX w (w.length - 1 - (d + 1) + 1))).mul (qb_bwd g hs w d j))
   have h3 : h.st * (1 * (1 * 5 ^ d)) ≤ 5 ^ (d + 1) := by rw [Nat.one_mul, Nat.one_mul, Nat.pow_succ, Nat.mul_comm (5 ^ d)]; exact Nat.mul_le_mul_right _ hs
   exact h1.mono h.den.ne (by omega) h3) i
theorem qb_suf (g : h.GoodW 1048576) (hs : h.st ≤ 5) (w : List Int) (d a i n : Nat) : QB h.dn (1 + (1 + (2 * d + 1))) (n * (1 * (1 * 5 ^ d))) (sufF h w (bwdF h w d) a i n) :=
 QB.sumN h.den.ne (fun j => (qb_tr g i j).mul ((qb_em g j (symX w (a + 1))).mul (qb_bwd g hs w d j))) n
theorem pow5 {t : Nat} (ht : t ≤ 5) : 1 ≤ 5 ^ t ∧ 5 ^ t ≤ 3125 := ⟨Nat.pow_pos (by decide), Nat.le_trans (Nat.pow_le_pow_right (by decide) ht) (by decide)⟩
theorem QB.szK {k N : Nat} {x : Rat} (q : QB h.dn k N x) (hD : ll h.dn ≤ 58720300) (hk : k ≤ 30) (hN : N < 4294967296) : Go.AL.sz x ≤ k * 58720300 + 2 :=
 (q.mono (M := max N 1) h.den.ne (Nat.le_refl _) (by omega)).sz h.den.ne hD ⟨by omega, by omega⟩
theorem exSz (g : h.GoodW 1048576) {w : List Int} (hs : h.st ≤ 5) (hy : h.sym ≤ 4) (hw : w.length ≤ 6) : ExSz h w := by
 have hD : ll h.dn ≤ 58720300 := Nat.le_trans (HM.dn_ll g hs hy) (by decide)
 have f := g.form
 have zE : sz h.empty ≤ 1048576 := Nat.le_trans f.zE f.bB
 have p2 : ∀ {t d : Nat}, t ≤ 5 → d ≤ 5 → 5 ^ t * 5 ^ d ≤ 9765625 := fun a b => Nat.mul_le_mul (pow5 a).2 (pow5 b).2
 have s1 : ∀ t i, t < w.length → sz ((fwdF h w t).getD i 0) ≤ 704643602 := fun t i ht => by
  have a := pow5 (t := t) (by omega); have := (qb_fwd g hs w t i).szK hD (by omega) (by omega); omega
 have s2 : ∀ t a j n, t < w.length → n ≤ h.st → sz (preF h w (fwdF h w t) a j n) ≤ 763363902 := fun t a j n ht hn => by
  have e := pow5 (t := t) (by omega)
  have b : n * (5 ^ t * 1) ≤ 5 * 3125 := Nat.mul_le_mul (by omega) (by omega)
  have := (qb_pre g hs w t a j n).szK hD (by omega) (by omega); omega
 have s3 : ∀ t n, t < w.length → n ≤ h.st → sz (likN h (fwdF h w t) n) ≤ 763363902 := fun t n ht hn => by
  have a := pow5 (t := t) (by omega)
  have b : n * (5 ^ t * 1) ≤ 5 * 3125 := Nat.mul_le_mul (by omega) (by omega)
  have := (qb_lik g hs w t n).szK hD (by omega) (by omega); omega
 have s4 : ∀ d i, d < w.length → sz ((bwdF h w d).getD i 0) ≤ 704643602 := fun d i hd => by
  have a := pow5 (t := d) (by omega); have := (qb_bwd g hs w d i).szK hD (by omega) (by omega); omega
 have lk : sz (likF h w) ≤ 763363902 := by
  unfold likF
  split
  ·omega
  ·exact s3 _ _ (by omega) (Nat.le_refl _)
 have fb : ∀ t d i, t < w.length → d < w.length → sz ((fwdF h w t).getD i 0 * (bwdF h w d).getD i 0) ≤ 1350566902 := fun t d i ht hd => by
  have a := p2 (t := t) (d := d) (by omega) (by omega)
  have := ((qb_fwd g hs w t i).mul (qb_bwd g hs w d i)).szK hD (by omega) (by omega); omega
 have ft : ∀ t i j, t < w.length → sz ((fwdF h w t).getD i 0 * trQ h i j) ≤ 763363902 := fun t i j ht => by
  have a := pow5 (t := t) (by omega); have := ((qb_fwd g hs w t i).mul (qb_tr g i j)).szK hD (by omega) (by omega); omega
 have post : ∀ t i, t < w.length → sz (postQ h w t i) ≤ 2113930804 := fun t i ht => by
  have a := sz_div ((fwdF h w t).getD i 0 * (bwdF h w (w.length - 1 - t)).getD i 0) (likF h w)
  have b := fb t (w.length - 1 - t) i ht (by omega)
  unfold postQ; omega
 have xiM : ∀ t i j, t + 1 < w.length → sz ((fwdF h w t).getD i 0 * trQ h i j * (emQ h j (symX w (t + 1)) * (bwdF h w (w.length - 1 - (t + 1))).getD j 0)) ≤ 1468007502 := fun t i j ht => by
  have a := p2 (t := t) (d := w.length - 1 - (t + 1)) (by omega) (by omega)
  have := (((qb_fwd g hs w t i).mul (qb_tr g i j)).mul ((qb_em g j (symX w (t + 1))).mul (qb_bwd g hs w (w.length - 1 - (t + 1)) j))).szK hD (by omega) (by rw [Nat.mul_one, Nat.one_mul]; omega); omega
 have xi : ∀ t i j, t + 1 < w.length → sz (xiQ h w t i j) ≤ 2231371404 := fun t i j ht => by
  have a := sz_div ((fwdF h w t).getD i 0 * trQ h i j * (emQ h j (symX w (t + 1)) * (bwdF h w (w.length - 1 - (t + 1))).getD j 0)) (likF h w)
  have b := xiM t i j ht
  unfold xiQ; omega
 refine ⟨⟨by omega, fun i => ?_, fun i x => ?_, fun i j => ?_, fun i => ?_, fun t ht i => Nat.le_trans (s1 t i ht) (by decide), fun t j n ht hn => Nat.le_trans (s2 t t j n ht hn) (by decide), fun t i j ht => Nat.le_trans (ft t i j ht) (by decide), fun t n ht hn => Nat.le_trans (s3 t n ht hn) (by decide), fun t i ht => ?_⟩,
  by omega, fun d i hd => Nat.le_trans (s4 d i hd) (by decide), fun d j x hd => ?_, fun i j x => ?_, fun d i j x hd => ?_, fun d a i n hd hn => ?_, fun t d i ht hd => Nat.le_trans (fb t d i ht hd) (by decide), fun t i ht => Nat.le_trans (post t i ht) (by decide), fun t i j ht => Nat.le_trans (xiM t i j ht) (by decide), fun t i j ht => Nat.le_trans (xi t i j ht) (by decide), fun n i x hn => ?_, fun n i j hn => ?_⟩
 ·have := (qb_ini g i).szK hD (by omega) (by omega); omega
 ·have := (qb_em g i x).szK hD (by omega) (by omega); omega
 ·have := (qb_tr g i j).szK hD (by omega) (by omega); omega
 ·have := (qb_stop g i).szK hD (by omega) (by omega); omega
 ·have a := pow5 (t := t) (by omega); have := ((qb_fwd g hs w t i).mul (qb_stop g i)).szK hD (by omega) (by omega); omega
 ·have a := pow5 (t := d) (by omega); have := ((qb_em g j x).mul (qb_bwd g hs w d j)).szK hD (by omega) (by omega); omega
 ·have := ((qb_tr g i j).mul (qb_em g j x)).szK hD (by omega) (by omega); omega
 ·have a := pow5 (t := d) (by omega); have := ((qb_tr g i j).mul ((qb_em g j x).mul (qb_bwd g hs w d j))).szK hD (by omega) (by omega); omega
 ·have e := pow5 (t := d) (by omega)
  have b : n * (1 * (1 * 5 ^ d)) ≤ 5 * 3125 := Nat.mul_le_mul (by omega) (by omega)
  have := (qb_suf g hs w d a i n).szK hD (by omega) (by omega); omega
 ·have h1 := sumN_szL (C := 2113930804) (f := fun t => if symX w t = x then postQ h w t i else 0) n fun t ht => by
   show sz (if symX w t = x then postQ h w t i else 0) ≤ 2113930804
   split
   ·exact post t i (by omega)
   ·rw [sz_zero]; omega
  have h2 : n * 2113930805 ≤ 6 * 2113930805 := Nat.mul_le_mul_right _ (by omega)
  unfold showQ; omega
 ·have h1 := sumN_szL (C := 2231371404) (f := fun t => xiQ h w t i j) n fun t ht => xi t i j (by omega)
  have h2 : n * 2231371405 ≤ 6 * 2231371405 := Nat.mul_le_mul_right _ (by omega)
  unfold moveQ; omega
end
end Go.AL

/-
  M, chapter 40, part 5: different runs have disjoint intervals; the runs of all lists of bits.
-/
import Derived.Test.YtjghehkgmanmbaaGreatKNumb
import Derived.Test.YtjghehkgmanmbaaGreatKMod40c
set_option linter.unusedVariables false
set_option linter.unusedSimpArgs false
namespace Go.AL
open Go Go.BigFrame
theorem rat_pos {a : Rat} (h : 0 ≤ a) : 0 < a ∨ 0 = a := by
 by_cases e : a ≤ 0
 ·exact .inr (Rat.le_antisymm h e)
 ·exact .inl (Rat.not_le.1 e)
def stepQ (h : HM) (fr : Int) (i : Nat) : Rat := if 0 ≤ fr then (h.trans.getD fr.toNat []).getD i 0 else h.ini.getD i 0
def viaQ (h : HM) (fr : Int) (x : Nat) (rest : List Rat) (i : Nat) : Rat := stepQ h fr i * (h.emit.getD i []).getD x 0 * rest.getD i 0
def aheadF (h : HM) (fr : Int) (x : Nat) (rest : List Rat) : Nat → Rat × Nat
 | 0 => (0, 0)
 | i + 1 => if (aheadF h fr x rest i).1 < viaQ h fr x rest i then (viaQ h fr x rest i, i) else aheadF h fr x rest i
def beforeF (h : HM) (x : Nat) (rest : List Rat) : List Rat := (List.range h.st).map fun i => (aheadF h (i : Nat) x rest h.st).1
def symX (w : List Int) (t : Nat) : Nat := (w.getD t 0).toNat - 1
def restF (h : HM) (w : List Int) : Nat → List Rat
 | 0 => h.stop
 | d + 1 => beforeF h (symX w (w.length - 1 - d)) (restF h w d)
def WordOK (h : HM) (w : List Int) : Prop := w.length ≤ 256 ∧ ∀ x, x ∈ w → 1 ≤ x ∧ x ≤ h.sym
theorem WordOK.get {h : HM} {w : List Int} (k : WordOK h w) {t : Nat} (ht : t < w.length) : 1 ≤ w.getD t 0 ∧ w.getD t 0 ≤ h.sym := k.2 _ (getD_mem ht 0)
theorem WordOK.symX {h : HM} {w : List Int} (k : WordOK h w) {t : Nat} (ht : t < w.length) : Go.AL.symX w t < h.sym ∧ w.getD t 0 = ((Go.AL.symX w t + 1 : Nat) : Int) := by
 have := k.get ht
 unfold Go.AL.symX
 omega
theorem aheadF_lt (h : HM) (fr : Int) (x : Nat) (rest : List Rat) (h0 : 1 ≤ h.st) : ∀ i, i ≤ h.st → (aheadF h fr x rest i).2 < h.st
 | 0, _ => h0
 | i + 1, hi => by rw [aheadF]; split; exact hi; exact aheadF_lt h fr x rest h0 i (by omega)
theorem cmpQ_gt {x y : Rat} : 0 < cmpQ x y ↔ y < x := by
 rw [← Rat.not_le, ← cmpQ_le]; omega
theorem beforeF_len (h : HM) (x : Nat) (rest : List Rat) : (beforeF h x rest).length = h.st := by simp [beforeF]
theorem restF_len {h : HM} {bb B : Nat} (f : HM.FormX bb B h) (w : List Int) : ∀ d, (restF h w d).length = h.st
 | 0 => f.stop
 | d + 1 => beforeF_len ..
theorem map_getD_range {α : Type} {n k : Nat} (f : Nat → α) (d : α) (hk : k < n) : ((List.range n).map f).getD k d = f k := by
 rw [List.getD_eq_getElem?_getD, List.getElem?_map, List.getElem?_range hk]; rfl
def fillF {α : Type} (d : α) (g : Nat → α) (n i : Nat) : List α := (List.range n).map fun j => if j < i then g j else d
theorem fillF_len {α : Type} (d : α) (g : Nat → α) (n i : Nat) : (fillF d g n i).length = n := by simp [fillF]
theorem fillF_zero {α : Type} (d : α) (g : Nat → α) (n : Nat) : fillF d g n 0 = List.replicate n d := by
 refine List.ext_getElem (by simp [fillF]) fun k h1 h2 => ?_
 simp [fillF]
theorem fillF_set {α : Type} {d : α} {g : Nat → α} {n i : Nat} (hi : i < n) : (fillF d g n i).set i (g i) = fillF d g n (i + 1) := by
 refine List.ext_getElem (by simp [fillF]) fun k h1 h2 => ?_
 rw [List.getElem_set]
 simp only [fillF, List.getElem_map, List.getElem_range]
 by_cases he : i = k
 ·subst he; rw [if_pos rfl, if_pos (by omega)]
 ·rw [if_neg he]
  by_cases h3 : k < i
  ·rw [if_pos h3, if_pos (by omega)]
  ·rw [if_neg h3, if_neg (by omega)]
theorem fillF_all {α : Type} (d : α) (g : Nat → α) (n : Nat) : fillF d g n n = (List.range n).map g := by
 refine List.map_congr_left fun j hj => ?_
 rw [if_pos (List.mem_range.1 hj)]
def lastK (n b k : Nat) : Nat := min ((k + 1) * b) n - 1
def numK (n b : Nat) : Nat := (n + b - 1) / b
theorem numK_lt {n b k : Nat} (hb : 1 ≤ b) : k < numK n b ↔ k * b < n := by
 unfold numK
 rw [← Nat.succ_le_iff, Nat.le_div_iff_mul_le hb, Nat.succ_mul]
 omega
theorem lastK_eq {n b k t : Nat} (hb : 1 ≤ b) (ht : t < n) (hk : k < numK n b) (h : lastK n b k = t) : k = t / b ∧ (t + 1 = n ∨ (t + 1) % b = 0) := by
 have h1 := (numK_lt hb).1 hk
 have h2 : 1 ≤ (k + 1) * b := Nat.mul_pos (by omega) hb
 have h3 : (k + 1) * b = k * b + b := Nat.succ_mul k b
 unfold lastK at h
 rcases Nat.le_total ((k + 1) * b) n with h4 | h4
 ·rw [Nat.min_eq_left h4] at h
  have h5 : t + 1 = (k + 1) * b := by omega
  refine ⟨?_, .inr (by rw [h5]; exact Nat.mul_mod_left ..)⟩
  symm
  exact Nat.div_eq_of_lt_le (by omega) (by omega)
 ·rw [Nat.min_eq_right h4] at h
  refine ⟨?_, .inl (by omega)⟩
  symm
  exact Nat.div_eq_of_lt_le (by omega) (by omega)
theorem lastK_div {n b t : Nat} (hb : 1 ≤ b) (ht : t < n) (h : t + 1 = n ∨ (t + 1) % b = 0) : lastK n b (t / b) = t := by
 have h1 := Nat.div_mul_le_self t b
 have h2 : t < (t / b + 1) * b := by rw [Nat.mul_comm]; exact Nat.lt_mul_div_succ t hb
 unfold lastK
 rcases h with h | h
 ·rw [Nat.min_eq_right (by omega)]; omega
 ·obtain ⟨m, hm⟩ := Nat.dvd_of_mod_eq_zero h
  have h3 : t / b + 1 = m := by
   have h4 : t / b * b < m * b := by rw [Nat.mul_comm m b]; omega
   have h5 := Nat.lt_of_mul_lt_mul_right h4
   have h6 : m * b ≤ (t / b + 1) * b := by rw [Nat.mul_comm m b]; omega
   have h7 := Nat.le_of_mul_le_mul_right h6 hb
   omega
  rw [h3, Nat.mul_comm, ← hm, Nat.min_eq_left (by omega)]; omega
theorem div_numK {n b t : Nat} (hb : 1 ≤ b) (ht : t < n) : t / b < numK n b := (numK_lt hb).2 (Nat.lt_of_le_of_lt (Nat.div_mul_le_self t b) ht)
theorem lastK_lt {n b k : Nat} (hb : 1 ≤ b) (hk : k < numK n b) : k * b ≤ lastK n b k ∧ lastK n b k < n ∧ lastK n b k + 1 = min ((k + 1) * b) n := by
 have h1 := (numK_lt hb).1 hk
 have h3 : (k + 1) * b = k * b + b := Nat.succ_mul k b
 unfold lastK
 omega
def keptF (h : HM) (w : List Int) (b d : Nat) : List (List Rat) := (List.range (numK w.length b)).map fun k => if w.length ≤ lastK w.length b k + d then restF h w (w.length - 1 - lastK w.length b k) else []
theorem keptF_len (h : HM) (w : List Int) (b d : Nat) : (keptF h w b d).length = numK w.length b := by simp [keptF]
theorem keptF_zero {h : HM} {w : List Int} {b : Nat} (hb : 1 ≤ b) : keptF h w b 0 = List.replicate (numK w.length b) [] := by
 refine List.ext_getElem (by simp [keptF]) fun k h1 h2 => ?_
 have hk : k < numK w.length b := by simpa [keptF] using h1
 have := lastK_lt hb hk
 simp only [keptF, List.getElem_map, List.getElem_range, List.getElem_replicate]
 rw [if_neg (by omega)]
theorem keptF_set {h : HM} {w : List Int} {b d : Nat} (hb : 1 ≤ b) (hd : d < w.length) (hc : w.length - 1 - d + 1 = w.length ∨ (w.length - 1 - d + 1) % b = 0) : keptF h w b (d + 1) = (keptF h w b d).set ((w.length - 1 - d) / b) (restF h w d) := by
 refine List.ext_getElem (by simp [keptF]) fun k h1 h2 => ?_
 have hk : k < numK w.length b := by simpa [keptF] using h1
 rw [List.getElem_set]
 simp only [keptF, List.getElem_map, List.getElem_range]
 by_cases he : (w.length - 1 - d) / b = k
 ·rw [if_pos he]
  subst he
  rw [lastK_div hb (by omega) hc, if_pos (by omega)]
  congr 1; omega
 ·rw [if_neg he]
  have : lastK w.length b k ≠ w.length - 1 - d := fun e => he (lastK_eq hb (by omega) hk e).1.symm
  by_cases h3 : w.length ≤ lastK w.length b k + d
  ·rw [if_pos h3, if_pos (by omega)]
  ·rw [if_neg h3, if_neg (by omega)]
theorem keptF_skip {h : HM} {w : List Int} {b d : Nat} (hb : 1 ≤ b) (hd : d < w.length) (hc : ¬ (w.length - 1 - d + 1 = w.length ∨ (w.length - 1 - d + 1) % b = 0)) : keptF h w b (d + 1) = keptF h w b d := by
 refine List.ext_getElem (by simp [keptF]) fun k h1 h2 => ?_
 have hk : k < numK w.length b := by simpa [keptF] using h1
 simp only [keptF, List.getElem_map, List.getElem_range]
 have : lastK w.length b k ≠ w.length - 1 - d := fun e => hc (lastK_eq hb (by omega) hk e).2
 by_cases h3 : w.length ≤ lastK w.length b k + d
 ·rw [if_pos h3, if_pos (by omega)]
 ·rw [if_neg h3, if_neg (by omega)]
theorem keptF_get {h : HM} {w : List Int} {b k : Nat} (hb : 1 ≤ b) (hk : k < numK w.length b) : (keptF h w b w.length).getD k [] = restF h w (w.length - 1 - lastK w.length b k) := by
 unfold keptF
 rw [map_getD_range _ _ hk, if_pos (by omega)]
def tK (n b k : Nat) : Nat := min (k * b) n
theorem tK_zero (n b : Nat) : 0 = tK n b 0 := by simp [tK]
theorem tK_lt {n b k : Nat} (hb : 1 ≤ b) (hk : k < numK n b) : tK n b k = k * b := by
 have := (numK_lt hb).1 hk
 unfold tK; omega
theorem tK_succ {n b k : Nat} (hb : 1 ≤ b) (hk : k < numK n b) : tK n b (k + 1) = lastK n b k + 1 := (lastK_lt hb hk).2.2.symm
theorem tK_end {n b : Nat} (hb : 1 ≤ b) : tK n b (numK n b) = n := by
 have h : ¬ numK n b * b < n := fun e => Nat.lt_irrefl _ ((numK_lt hb).2 e)
 unfold tK; omega
theorem block_facts {n b k : Nat} (hn : n ≤ 256) (hb : 1 ≤ b ∧ b ≤ 256) (hk : k < numK n b) : ∃ a l : Nat, a = k * b ∧ (k : Int) * (b : Int) = (a : Int) ∧ ((k + 1 : Nat) : Int) * (b : Int) = ((a + b : Nat) : Int) ∧ l = lastK n b k ∧ a ≤ l ∧ l < n ∧ l + 1 = min (a + b) n ∧ tK n b k = a ∧ tK n b (k + 1) = l + 1 := by
 have h := lastK_lt hb.1 hk
 refine ⟨k * b, lastK n b k, rfl, by push_cast; rfl, by rw [← Nat.succ_mul]; push_cast; rfl, rfl, h.1, h.2.1, by rw [h.2.2, Nat.succ_mul], tK_lt hb.1 hk, tK_succ hb.1 hk⟩
def colsF (h : HM) (w : List Int) (a m e : Nat) : List (List Rat) := (List.range m).map fun j => if m ≤ j + e then restF h w (w.length - 1 - (a + j)) else []
theorem colsF_len (h : HM) (w : List Int) (a m e : Nat) : (colsF h w a m e).length = m := by simp [colsF]
theorem colsF_zero (h : HM) (w : List Int) (a m : Nat) : colsF h w a m 0 = List.replicate m [] := by
 refine List.ext_getElem (by simp [colsF]) fun k h1 h2 => ?_
 have hk : k < m := by simpa [colsF] using h1
 simp only [colsF, List.getElem_map, List.getElem_range, List.getElem_replicate]
 rw [if_neg (by omega)]
theorem colsF_set {h : HM} {w : List Int} {a m e : Nat} (he : e < m) : colsF h w a m (e + 1) = (colsF h w a m e).set (m - 1 - e) (restF h w (w.length - 1 - (a + (m - 1 - e)))) := by
 refine List.ext_getElem (by simp [colsF]) fun k h1 h2 => ?_
 have hk : k < m := by simpa [colsF] using h1
 rw [List.getElem_set]
 simp only [colsF, List.getElem_map, List.getElem_range]
 by_cases hq : m - 1 - e = k
 ·rw [if_pos hq]
  subst hq
  rw [if_pos (by omega)]
 ·rw [if_neg hq]
  by_cases h3 : m ≤ k + e
  ·rw [if_pos h3, if_pos (by omega)]
  ·rw [if_neg h3, if_neg (by omega)]
theorem colsF_get {h : HM} {w : List Int} {a m j : Nat} (hj : j < m) : (colsF h w a m m).getD j [] = restF h w (w.length - 1 - (a + j)) := by
 unfold colsF
 rw [map_getD_range _ _ hj, if_pos (by omega)]
def ahd (h : HM) (w : List Int) (fr : Int) (t : Nat) : Rat × Nat := aheadF h fr (symX w t) (restF h w (w.length - 1 - t)) h.st
def toF (h : HM) (w : List Int) : Nat → Int
 | 0 => -1
 | t + 1 => (ahd h w (toF h w t) t).2
def pathF (h : HM) (w : List Int) (t : Nat) : List Int := (List.range t).map fun i => toF h w (i + 1)
def bestP (h : HM) (w : List Int) : Rat := (ahd h w (-1) 0).1
theorem pathF_len (h : HM) (w : List Int) (t : Nat) : (pathF h w t).length = t := by simp [pathF]
theorem pathF_succ (h : HM) (w : List Int) (t : Nat) : pathF h w (t + 1) = pathF h w t ++ [toF h w (t + 1)] := by unfold pathF; rw [List.range_succ, List.map_append]; rfl
theorem toF_range {h : HM} (h0 : 1 ≤ h.st) (w : List Int) : ∀ t, -1 ≤ toF h w t ∧ toF h w t < h.st
 | 0 => ⟨by show (-1 : Int) ≤ -1; omega, by show (-1 : Int) < _; omega⟩
 | t + 1 => by
  have := aheadF_lt h (toF h w t) (symX w t) (restF h w (w.length - 1 - t)) h0 h.st (Nat.le_refl _)
  rw [toF, ahd]; omega
theorem toF_succ_nonneg (h : HM) (w : List Int) (t : Nat) : 0 ≤ toF h w (t + 1) := by rw [toF]; omega
def ckP (h : HM) (w : List Int) : List Int := if bestP h w = 0 then [] else pathF h w w.length
def ckS (h : HM) (w : List Int) (b : Nat) : Nat := if bestP h w = 0 then 0 else numK w.length b + min b w.length
def ckE (h : HM) (w : List Int) : Int := if bestP h w = 0 then 11 else 0
end Go.AL

set_option linter.unusedVariables false
set_option linter.unusedSimpArgs false
namespace Go.AL
open Go Go.BigFrame
def rdN (bits : List Int) : Nat → Rd
 | 0 => ⟨0, .one⟩
 | n + 1 => (rdN bits n).step bits
theorem firstK_spec {read s : Span} {ch : List Rat} {k : Nat} (h : firstK read s ch = some k) : Sure read s ch k := by
 have := List.find?_some h
 exact of_decide_eq_true this
theorem firstK_not {read s : Span} {ch : List Rat} (h : firstK read s ch = none) : ∀ j, j < ch.length → ¬ Sure read s ch j := fun j hj e => by
 have := List.find?_eq_none.1 h j (List.mem_range.2 hj)
 exact this (decide_eq_true e)
theorem choose_spec {bits : List Int} {s : Span} {ch : List Rat} {r r1 : Rd} {k : Nat} (h : chooseB bits s ch r = some (k, r1)) (hr : r = rdN bits r.used) :
  r1 = rdN bits r1.used ∧ Sure r1.read s ch k ∧ r.used ≤ r1.used ∧ ∀ v, r.used ≤ v → v < r1.used → ∀ j, j < ch.length → ¬ Sure (rdN bits v).read s ch j := by
 rw [chooseB] at h
 split at h
 ·rename_i k' hk
  cases h
  exact ⟨hr, firstK_spec hk, Nat.le_refl _, fun v h1 h2 => by omega⟩
 ·rename_i hk
  split at h
  ·rename_i hlt
   have hs : r.step bits = rdN bits (r.step bits).used := by
    show r.step bits = rdN bits (r.used + 1)
    rw [rdN, ← hr]
   obtain ⟨a1, a2, a3, a4⟩ := choose_spec h hs
   have e : (r.step bits).used = r.used + 1 := rfl
   refine ⟨a1, a2, by omega, fun v h1 h2 j hj => ?_⟩
   rcases Nat.lt_or_ge r.used v with hv | hv
   ·exact a4 v (by omega) h2 j hj
   ·obtain rfl : v = r.used := by omega
    rw [← hr]
    exact firstK_not hk j hj
  ·cases h
termination_by bits.length - r.used
decreasing_by simp only [Rd.step]; omega
theorem sumQ_nonneg : ∀ {l : List Rat}, (∀ q, q ∈ l → 0 ≤ q) → 0 ≤ sumQ l
 | [], _ => by rw [sumQ_nil]; decide
 | x :: l, h => by
  rw [sumQ_cons]
  have h1 := h x (List.mem_cons_self ..)
  have h2 := sumQ_nonneg (l := l) fun q hq => h q (List.mem_cons_of_mem _ hq)
  grind
theorem sumQ_take_le {l : List Rat} (h : ∀ q, q ∈ l → 0 ≤ q) (k : Nat) : sumQ (l.take k) ≤ sumQ l := by
 have e : sumQ l = sumQ (l.take k) + sumQ (l.drop k) := by rw [← sumQ_app, List.take_append_drop]
 have := sumQ_nonneg (l := l.drop k) fun q hq => h q (List.mem_of_mem_drop hq)
 grind
structure Fair (ch : List Rat) : Prop where
 pos : ∀ q, q ∈ ch → 0 ≤ q
 sum : sumQ ch = 1
def spF (h : HM) (st w : List Int) : Nat → Span × Option Nat
 | 0 => (.one, none)
 | t + 1 => ((((spF h st w t).1.part (h.next (spF h st w t).2) (st.getD t 0).toNat).part (h.emit.getD (st.getD t 0).toNat []) ((w.getD t 0).toNat - 1)), some (st.getD t 0).toNat)
def rangeS (h : HM) (st w : List Int) : Span := (spF h st w w.length).1.part (h.next (spF h st w w.length).2) h.st
def RunOK (h : HM) (st w : List Int) : Prop := st.length = w.length ∧ w.length ≤ 256 ∧ (∀ x, x ∈ st → 0 ≤ x ∧ x < h.st) ∧ ∀ x, x ∈ w → 1 ≤ x ∧ x ≤ h.sym
theorem RunOK.word {h : HM} {st w : List Int} (k : RunOK h st w) : WordOK h w := ⟨k.2.1, k.2.2.2⟩
end Go.AL

set_option linter.unusedVariables false
set_option linter.unusedSimpArgs false
namespace Go.AL
open Go Go.BigFrame
def Span.before (s t : Span) : Prop := s.lo + s.len ≤ t.lo
def StepsOK (h : HM) (r : List (Nat × Nat)) : Prop := ∀ p, p ∈ r → p.1 < h.st ∧ p.2 < h.sym
theorem StepsOK.tail {h : HM} {p : Nat × Nat} {r : List (Nat × Nat)} (k : StepsOK h (p :: r)) : StepsOK h r := fun q hq => k q (List.mem_cons_of_mem _ hq)
end Go.AL

/-
  M, chapter 40, part 4: the interval of a run.
-/
import Derived.Test.YtcebciggodhmcaaGreatMod40c
import Derived.Test.YtcebciggodhmcaaGreatMod36
set_option linter.unusedVariables false
set_option linter.unusedSimpArgs false
namespace Go.AL
open Go Go.BigFrame

def rdN (bits : List Int) : Nat → Rd
  | 0 => ⟨0, .one⟩
  | n + 1 => (rdN bits n).step bits
theorem rdN_used (bits : List Int) : ∀ n, (rdN bits n).used = n
  | 0 => rfl
  | n + 1 => by rw [rdN, Rd.step, rdN_used bits n]
theorem rdN_succ (bits : List Int) (n : Nat) : rdN bits (n + 1) = ⟨n + 1, ⟨if bits.getD n 0 = 1 then (rdN bits n).read.lo + (rdN bits n).read.len * (1 / 2) else (rdN bits n).read.lo, (rdN bits n).read.len * (1 / 2)⟩⟩ := by
  rw [rdN, Rd.step, rdN_used]
theorem firstK_spec {read s : Span} {ch : List Rat} {k : Nat} (h : firstK read s ch = some k) : Sure read s ch k := by
  have := List.find?_some h
  exact of_decide_eq_true this
theorem firstK_not {read s : Span} {ch : List Rat} (h : firstK read s ch = none) : ∀ j, j < ch.length → ¬ Sure read s ch j := fun j hj e => by
  have := List.find?_eq_none.1 h j (List.mem_range.2 hj)
  exact this (decide_eq_true e)
theorem choose_spec {bits : List Int} {s : Span} {ch : List Rat} {r r1 : Rd} {k : Nat} (h : chooseB bits s ch r = some (k, r1)) (hr : r = rdN bits r.used) :
    r1 = rdN bits r1.used ∧ Sure r1.read s ch k ∧ r.used ≤ r1.used ∧ ∀ v, r.used ≤ v → v < r1.used → ∀ j, j < ch.length → ¬ Sure (rdN bits v).read s ch j := by
  rw [chooseB] at h
  split at h
  · rename_i k' hk
    cases h
    exact ⟨hr, firstK_spec hk, Nat.le_refl _, fun v h1 h2 => by omega⟩
  · rename_i hk
    split at h
    · rename_i hlt
      have hs : r.step bits = rdN bits (r.step bits).used := by
        show r.step bits = rdN bits (r.used + 1)
        rw [rdN, ← hr]
      obtain ⟨a1, a2, a3, a4⟩ := choose_spec h hs
      have e : (r.step bits).used = r.used + 1 := rfl
      refine ⟨a1, a2, by omega, fun v h1 h2 j hj => ?_⟩
      rcases Nat.lt_or_ge r.used v with hv | hv
      · exact a4 v (by omega) h2 j hj
      · obtain rfl : v = r.used := by omega
        rw [← hr]
        exact firstK_not hk j hj
    · cases h
termination_by bits.length - r.used
decreasing_by simp only [Rd.step]; omega

/-! ### Parts lie within -/
theorem inside_trans {a b c : Span} (h : a.inside b) (k : b.inside c) : a.inside c := ⟨Rat.le_trans k.1 h.1, Rat.le_trans h.2 k.2⟩
theorem partLo_eq (s : Span) : ∀ (l : List Rat) (a : Rat), l.foldl (fun a p => a + s.len * p) a = a + s.len * sumQ l
  | [], a => by rw [List.foldl_nil, sumQ_nil]; grind
  | x :: l, a => by rw [List.foldl_cons, partLo_eq s l, sumQ_cons]; grind
theorem part_lo (s : Span) (ch : List Rat) (k : Nat) : (s.part ch k).lo = s.lo + s.len * sumQ (ch.take k) := partLo_eq s _ _
theorem part_len (s : Span) (ch : List Rat) (k : Nat) : (s.part ch k).len = s.len * ch.getD k 0 := rfl
theorem sumQ_nonneg : ∀ {l : List Rat}, (∀ q, q ∈ l → 0 ≤ q) → 0 ≤ sumQ l
  | [], _ => by rw [sumQ_nil]; decide
  | x :: l, h => by
    rw [sumQ_cons]
    have h1 := h x (List.mem_cons_self ..)
    have h2 := sumQ_nonneg (l := l) fun q hq => h q (List.mem_cons_of_mem _ hq)
    grind
theorem sumQ_take_le {l : List Rat} (h : ∀ q, q ∈ l → 0 ≤ q) (k : Nat) : sumQ (l.take k) ≤ sumQ l := by
  have e : sumQ l = sumQ (l.take k) + sumQ (l.drop k) := by rw [← sumQ_app, List.take_append_drop]
  have := sumQ_nonneg (l := l.drop k) fun q hq => h q (List.mem_of_mem_drop hq)
  grind
/-- Choices that a model offers. -/
structure Fair (ch : List Rat) : Prop where
  pos : ∀ q, q ∈ ch → 0 ≤ q
  sum : sumQ ch = 1
theorem part_inside {s : Span} {ch : List Rat} (f : Fair ch) (hs : 0 ≤ s.len) {k : Nat} (hk : k < ch.length) : (s.part ch k).inside s := by
  have h1 := sumQ_nonneg (l := ch.take k) fun q hq => f.pos q (List.mem_of_mem_take hq)
  have h2 := sumQ_take_le f.pos (k + 1)
  rw [sumQ_take_succ hk, f.sum] at h2
  refine ⟨?_, ?_⟩
  · rw [part_lo]
    have := Rat.mul_nonneg hs h1
    grind
  · rw [part_lo, part_len]
    have h3 := Rat.mul_le_mul_of_nonneg_left h2 hs
    grind
theorem next_fair {h : HM} {B : Nat} (g : h.Good B) {fr : Option Nat} (hf : FrOK h fr) : Fair (h.next fr) := by
  cases fr with
  | none => exact ⟨fun q hq => (List.mem_append.1 hq).elim (fun e => (g.pI q e).1) fun e => by rw [List.mem_singleton.1 e]; exact g.pE.1, g.sI⟩
  | some i => exact ⟨fun q hq => (List.mem_append.1 hq).elim (fun e => (g.pT i q e).1) fun e => by rw [List.mem_singleton.1 e]; exact (g.pS.get i).1, g.sT i (hf i rfl)⟩
theorem emit_fair {h : HM} {B : Nat} (g : h.Good B) {i : Nat} (hi : i < h.st) : Fair (h.emit.getD i []) := ⟨fun q hq => (g.pM i q hq).1, g.sM i hi⟩

/-! ### The interval of a run -/
def spF (h : HM) (st w : List Int) : Nat → Span × Option Nat
  | 0 => (.one, none)
  | t + 1 => ((((spF h st w t).1.part (h.next (spF h st w t).2) (st.getD t 0).toNat).part (h.emit.getD (st.getD t 0).toNat []) ((w.getD t 0).toNat - 1)), some (st.getD t 0).toNat)
def rangeS (h : HM) (st w : List Int) : Span := (spF h st w w.length).1.part (h.next (spF h st w w.length).2) h.st
theorem getD_app_lt {α : Type} {l m : List α} {i : Nat} (h : i < l.length) (d : α) : (l ++ m).getD i d = l.getD i d := by
  rw [List.getD_eq_getElem?_getD, List.getD_eq_getElem?_getD, List.getElem?_append_left h]
theorem spF_app (h : HM) (st w m m2 : List Int) : ∀ t, t ≤ st.length → t ≤ w.length → spF h (st ++ m) (w ++ m2) t = spF h st w t
  | 0, _, _ => rfl
  | t + 1, h1, h2 => by rw [spF, spF, spF_app h st w m m2 t (by omega) (by omega), getD_app_lt (by omega), getD_app_lt (by omega)]
theorem getD_snoc_len {α : Type} (l : List α) (x d : α) : (l ++ [x]).getD l.length d = x := by
  rw [List.getD_eq_getElem?_getD, List.getElem?_append_right (Nat.le_refl _)]; simp
theorem spF_snoc {h : HM} {st w : List Int} (hl : st.length = w.length) (k x : Nat) : spF h (st ++ [(k : Int)]) (w ++ [(x : Int) + 1]) (w.length + 1) = (((spF h st w w.length).1.part (h.next (spF h st w w.length).2) k).part (h.emit.getD k []) x, some k) := by
  rw [spF, spF_app _ _ _ _ _ _ (by omega) (by omega), getD_snoc_len, ← hl, getD_snoc_len]
  simp only [Int.toNat_natCast]
  congr 2
theorem drawF_range {h : HM} {B : Nat} {b : List Int} (g : h.Good B) : ∀ (n : Nat) {r : Rd} {s : Span} {fr : Option Nat} {st w st2 w2 : List Int} {u : Nat}, drawF h b n r s fr st w = .run st2 w2 u → r = rdN b r.used → (s, fr) = spF h st w w.length → st.length = w.length → FrOK h fr → 0 < s.len →
    (rdN b u).read.inside (rangeS h st2 w2) ∧ 0 < (rangeS h st2 w2).len ∧ (rangeS h st2 w2).inside s ∧ ∀ v, r.used ≤ v → v < u → ¬ (rdN b v).read.inside (rangeS h st2 w2)
  | 0, _, _, _, _, _, _, _, _, hd, _, _, _, _, _ => by simp [drawF] at hd
  | n + 1, r, s, fr, st, w, st2, w2, u, hd, hr, hsp, hl, hfr, hpos => by
    have hs1 : s = (spF h st w w.length).1 := congrArg Prod.fst hsp
    have hs2 : fr = (spF h st w w.length).2 := congrArg Prod.snd hsp
    have nf := next_fair g hfr
    have nl := next_len g.form hfr
    rw [drawF] at hd
    split at hd
    · cases hd
    · rename_i k r1 h1
      obtain ⟨c1, c2, c3, c4⟩ := choose_spec h1 hr
      have hk := choose_lt h1
      have i1 := part_inside nf (Rat.le_of_lt hpos) hk
      split at hd
      · rename_i hks
        cases hd
        have e : rangeS h st w = s.part (h.next fr) k := by rw [rangeS, ← hs1, ← hs2, hks]
        rw [e]
        refine ⟨by rw [← c1]; exact c2.2, ?_, i1, fun v v1 v2 hi => c4 v v1 v2 k hk ⟨c2.1, hi⟩⟩
        rw [part_len]; exact Rat.mul_pos hpos c2.1
      · rename_i hks
        split at hd
        · cases hd
        · split at hd
          · cases hd
          · rename_i x r2 h2
            obtain ⟨d1, d2, d3, d4⟩ := choose_spec h2 c1
            have hx := choose_lt h2
            have hks2 : k < h.st := by omega
            have ef := emit_fair g hks2
            have p1 : 0 < (s.part (h.next fr) k).len := by rw [part_len]; exact Rat.mul_pos hpos c2.1
            have i2 := part_inside ef (Rat.le_of_lt p1) hx
            have p2 : 0 < ((s.part (h.next fr) k).part (h.emit.getD k []) x).len := by rw [part_len]; exact Rat.mul_pos p1 d2.1
            obtain ⟨a1, a2, a3, a4⟩ := drawF_range g n hd d1 (by rw [List.length_append, List.length_singleton, spF_snoc hl, ← hs1, ← hs2]) (by simp [hl]) (fun i hi => by cases hi; exact hks2) p2
            refine ⟨a1, a2, inside_trans a3 (inside_trans i2 i1), fun v v1 v2 hi => ?_⟩
            rcases Nat.lt_or_ge v r1.used with hv | hv
            · exact c4 v v1 hv k hk ⟨c2.1, inside_trans hi (inside_trans a3 i2)⟩
            · rcases Nat.lt_or_ge v r2.used with hv2 | hv2
              · exact d4 v hv hv2 x hx ⟨d2.1, inside_trans hi a3⟩
              · exact a4 v hv2 v2 hi
theorem draw_range {h : HM} {B : Nat} {b st w : List Int} {u : Nat} (g : h.Good B) (hd : draw h b = .run st w u) :
    (rdN b u).read.inside (rangeS h st w) ∧ 0 < (rangeS h st w).len ∧ ∀ v, v < u → ¬ (rdN b v).read.inside (rangeS h st w) := by
  obtain ⟨a1, a2, _, a4⟩ := drawF_range g 257 hd rfl rfl rfl (fun i hi => by cases hi) (by decide)
  exact ⟨a1, a2, fun v hv => a4 v (Nat.zero_le _) hv⟩
/-! ### What a run consists of -/
/-- States and symbols of a model. -/
def RunOK (h : HM) (st w : List Int) : Prop := st.length = w.length ∧ w.length ≤ 256 ∧ (∀ x, x ∈ st → 0 ≤ x ∧ x < h.st) ∧ ∀ x, x ∈ w → 1 ≤ x ∧ x ≤ h.sym
theorem drawF_ok {h : HM} {B : Nat} {b : List Int} (f : h.Form B) : ∀ (n : Nat) {r : Rd} {s : Span} {fr : Option Nat} {st w st2 w2 : List Int} {u : Nat}, drawF h b n r s fr st w = .run st2 w2 u → FrOK h fr → w.length + n ≤ 257 → RunOK h st w → RunOK h st2 w2
  | 0, _, _, _, _, _, _, _, _, hd, _, _, _ => by simp [drawF] at hd
  | n + 1, r, s, fr, st, w, st2, w2, u, hd, hfr, hn, hok => by
    have nl := next_len f hfr
    rw [drawF] at hd
    split at hd
    · cases hd
    · rename_i k r1 h1
      have hk := choose_lt h1
      split at hd
      · cases hd; exact hok
      · rename_i hks
        have hks2 : k < h.st := by omega
        split at hd
        · cases hd
        · rename_i hn0
          split at hd
          · cases hd
          · rename_i x r2 h2
            have hx := choose_lt h2
            rw [f.erow k hks2] at hx
            obtain ⟨o1, o2, o3, o4⟩ := hok
            refine drawF_ok f n hd (fun i hi => by cases hi; exact hks2) (by simp; omega) ⟨by simp [o1], by simp; omega, fun y hy => ?_, fun y hy => ?_⟩
            · rcases List.mem_append.1 hy with e | e
              · exact o3 y e
              · rw [List.mem_singleton.1 e]; omega
            · rcases List.mem_append.1 hy with e | e
              · exact o4 y e
              · rw [List.mem_singleton.1 e]; omega
theorem draw_ok {h : HM} {B : Nat} {b st w : List Int} {u : Nat} (f : h.Form B) (hd : draw h b = .run st w u) : RunOK h st w := drawF_ok f 257 hd (fun i hi => by cases hi) (by decide) ⟨rfl, by decide, fun x hx => by simp at hx, fun x hx => by simp at hx⟩
theorem RunOK.word {h : HM} {st w : List Int} (k : RunOK h st w) : WordOK h w := ⟨k.2.1, k.2.2.2⟩
theorem RunOK.state {h : HM} {st w : List Int} (k : RunOK h st w) {t : Nat} (ht : t < w.length) : 0 ≤ st.getD t 0 ∧ st.getD t 0 < h.st := k.2.2.1 _ (getD_mem (by rw [k.1]; exact ht) 0)
/-! ### Sizes -/
theorem spF_fr {h : HM} {st w : List Int} (k : RunOK h st w) {t : Nat} (ht : t ≤ w.length) : FrOK h (spF h st w t).2 := fun i hi => by
  cases t with
  | zero => cases hi
  | succ t =>
    have hs := k.state (t := t) (by omega)
    rw [spF] at hi
    cases hi
    omega
theorem spF_ok {h : HM} {B : Nat} (f : h.Form B) {st w : List Int} (k : RunOK h st w) : ∀ t, t ≤ w.length → SpanOK (2 * t) (spF h st w t).1
  | 0, _ => ⟨by show sz 0 ≤ _; rw [sz_zero]; omega, by show sz 1 ≤ _; rw [sz_one]; omega⟩
  | t + 1, ht => by
    have hs := k.state (t := t) (by omega)
    have hx := k.word.symX (t := t) (by omega)
    have hw := k.2.1
    have n1 := f.st1
    have s1 := f.sym1
    have nl := next_len f (spF_fr k (t := t) (by omega))
    have el := f.erow (st.getD t 0).toNat (by omega)
    have h1 := (spF_ok f k t (by omega)).part (l := h.next (spF h st w t).2) (by omega) (next_small f _) (by omega) (st.getD t 0).toNat (by omega)
    exact h1.part (l := h.emit.getD (st.getD t 0).toNat []) (by omega) ((f.zM _).mono f.bB) (by omega) ((w.getD t 0).toNat - 1) (by rw [el]; exact hx.1)
theorem range_ok {h : HM} {B : Nat} (f : h.Form B) {st w : List Int} (k : RunOK h st w) : SpanOK 513 (rangeS h st w) := by
  have hw := k.2.1
  have n1 := f.st1
  have nl := next_len f (spF_fr k (t := w.length) (Nat.le_refl _))
  have h1 := (spF_ok f k w.length (Nat.le_refl _)).part (l := h.next (spF h st w w.length).2) (by omega) (next_small f _) (by omega) h.st (by omega)
  exact ⟨Nat.le_trans h1.lo (by omega), Nat.le_trans h1.len (by omega)⟩
theorem rdN_ok {bits : List Int} (hb : bits.length ≤ 2000) : ∀ n, n ≤ bits.length → RdOK bits (rdN bits n)
  | 0, _ => ⟨Nat.zero_le _, hb, by show sz 0 ≤ _; rw [sz_zero]; omega, by show sz 1 ≤ _; rw [sz_one]; omega⟩
  | n + 1, h => by
    rw [rdN]
    exact (rdN_ok hb n (by omega)).step (by rw [rdN_used]; omega)
theorem rdN_take (bits : List Int) (m : Nat) : ∀ n, n ≤ m → rdN (bits.take m) n = rdN bits n
  | 0, _ => rfl
  | n + 1, h => by
    have e : (bits.take m).getD n 0 = bits.getD n 0 := by rw [List.getD_eq_getElem?_getD, List.getD_eq_getElem?_getD, List.getElem?_take, if_pos (by omega)]
    rw [rdN_succ, rdN_succ, rdN_take bits m n (by omega), e]
/-! ### The joint probability -/
def frJ (st : List Int) : Nat → Int
  | 0 => -1
  | t + 1 => st.getD t 0
def entQ (h : HM) (fr : Int) (i x : Nat) : Rat := stepQ h fr i * (h.emit.getD i []).getD x 0
def jointF (h : HM) (st w : List Int) : Nat → Rat
  | 0 => 0
  | t + 1 => if 0 < t then jointF h st w t * entQ h (frJ st t) (st.getD t 0).toNat ((w.getD t 0).toNat - 1) else entQ h (frJ st t) (st.getD t 0).toNat ((w.getD t 0).toNat - 1)
def jointQ (h : HM) (st w : List Int) : Rat := if w.length = 0 then h.empty else jointF h st w w.length * h.stop.getD (frJ st w.length).toNat 0
theorem frJ_range {h : HM} (h0 : 1 ≤ h.st) {st w : List Int} (k : RunOK h st w) {t : Nat} (ht : t ≤ w.length) : -1 ≤ frJ st t ∧ frJ st t < h.st := by
  cases t with
  | zero => exact ⟨by show (-1 : Int) ≤ -1; omega, by show (-1 : Int) < _; omega⟩
  | succ t =>
    have hs := k.state (t := t) (by omega)
    show -1 ≤ st.getD t 0 ∧ st.getD t 0 < h.st
    omega
theorem frI_spF (h : HM) (st w : List Int) {t : Nat} (k : RunOK h st w) (ht : t ≤ w.length) : frI (spF h st w t).2 = frJ st t := by
  cases t with
  | zero => rfl
  | succ t =>
    have hs := k.state (t := t) (by omega)
    show ((st.getD t 0).toNat : Int) = st.getD t 0
    omega
theorem entQ_sz {h : HM} {B : Nat} (f : h.Form B) (fr : Int) (i x : Nat) : sz (entQ h fr i x) ≤ 2048 := (viaQ_sz f fr x (rest := []) Small.nil (C := 1) (by decide) i).2.2.1
theorem jointF_sz {h : HM} {B : Nat} (f : h.Form B) (st w : List Int) : ∀ t, sz (jointF h st w t) ≤ 2048 * t + 1
  | 0 => by show sz 0 ≤ _; rw [sz_zero]; omega
  | t + 1 => by
    rw [jointF]
    have h1 := jointF_sz f st w t
    have h2 := entQ_sz f (frJ st t) (st.getD t 0).toNat ((w.getD t 0).toNat - 1)
    have h3 := sz_mul (jointF h st w t) (entQ h (frJ st t) (st.getD t 0).toNat ((w.getD t 0).toNat - 1))
    split <;> omega
theorem next_lt {h : HM} {B : Nat} (f : h.Form B) {st w : List Int} (k : RunOK h st w) {t i : Nat} (ht : t ≤ w.length) (hi : i < h.st) : (h.next (spF h st w t).2).getD i 0 = stepQ h (frJ st t) i := by
  cases t with
  | zero =>
    show (h.ini ++ [h.empty]).getD i 0 = _
    rw [getD_app_lt (by rw [f.ini]; exact hi)]
    exact (if_neg (by show ¬ (0 : Int) ≤ -1; omega)).symm
  | succ t =>
    have hs := k.state (t := t) (by omega)
    show (h.trans.getD (st.getD t 0).toNat [] ++ [h.stop.getD (st.getD t 0).toNat 0]).getD i 0 = _
    rw [getD_app_lt (by rw [f.trow _ (by omega)]; exact hi)]
    exact (if_pos hs.1).symm
theorem spF_len {h : HM} {B : Nat} (f : h.Form B) {st w : List Int} (k : RunOK h st w) : ∀ t, t ≤ w.length → (spF h st w t).1.len = if 0 < t then jointF h st w t else 1
  | 0, _ => rfl
  | t + 1, ht => by
    have hs := k.state (t := t) (by omega)
    rw [spF, part_len, part_len, next_lt f k (by omega) (by omega), spF_len f k t (by omega), if_pos (Nat.succ_pos t), jointF]
    rcases Nat.eq_zero_or_pos t with h0 | h0
    · rw [if_neg (by omega), if_neg (by omega), entQ, Rat.one_mul]
    · rw [if_pos h0, if_pos h0, entQ, Rat.mul_assoc]
theorem range_len {h : HM} {B : Nat} (f : h.Form B) {st w : List Int} (k : RunOK h st w) : (rangeS h st w).len = jointQ h st w := by
  rw [rangeS, part_len, spF_len f k _ (Nat.le_refl _), jointQ]
  rcases Nat.eq_zero_or_pos w.length with h0 | h0
  · rw [if_neg (by omega), if_pos h0, Rat.one_mul, h0]
    show (h.ini ++ [h.empty]).getD h.st 0 = _
    rw [← f.ini, getD_snoc_len]
  · have hs := k.state (t := w.length - 1) (by omega)
    rw [if_pos h0, if_neg (by omega)]
    congr 1
    obtain ⟨t, ht⟩ : ∃ t, w.length = t + 1 := ⟨w.length - 1, by omega⟩
    rw [ht] at hs ⊢
    rw [show t + 1 - 1 = t by omega] at hs
    show (h.trans.getD (st.getD t 0).toNat [] ++ [h.stop.getD (st.getD t 0).toNat 0]).getD h.st 0 = h.stop.getD (st.getD t 0).toNat 0
    have hl := f.trow (st.getD t 0).toNat (by omega)
    rw [← hl, getD_snoc_len]
end Go.AL

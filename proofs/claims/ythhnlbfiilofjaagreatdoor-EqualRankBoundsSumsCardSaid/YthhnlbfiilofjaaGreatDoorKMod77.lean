/-
  M, chapter 23: what the search answers, and the rank of a series.
-/
import Derived.Test.YthhnlbfiilofjaaGreatDoorKMod75
set_option linter.unusedVariables false
set_option linter.unusedSimpArgs false
namespace Go.AL
open Go Go.BigFrame
def SzR (B : Nat) (rs : List SRow) : Prop := ∀ k r, rs[k]? = some r → (∀ i, sz (r.v.getD i 0) + 1 ≤ 4 ^ k * (B + 1)) ∧ ∀ i, sz (r.c.getD i 0) + 1 ≤ 4 ^ k * (B + 1)
section
variable {B : Nat} {rs : List SRow} {w t : List Rat}
theorem range_sz {f : Nat → Rat} {C : Nat} (n : Nat) (hC : 1 ≤ C) (h : ∀ i, sz (f i) ≤ C) (i : Nat) : sz (((List.range n).map f).getD i 0) ≤ C := by
 rcases Nat.lt_or_ge i n with hi | hi
 ·rw [map_getD_range _ _ hi]; exact h i
 ·rw [List.getD_eq_getElem?_getD, List.getElem?_eq_none (by simp; exact hi), Option.getD_none, sz_zero]; exact hC
theorem qot_sz {r : SRow} {C : Nat} (hw : ∀ i, sz (w.getD i 0) + 1 ≤ C) (hr : ∀ i, sz (r.v.getD i 0) + 1 ≤ C) : sz (qotR w r) + 2 ≤ 2 * C := by
 have h := sz_div (w.getD r.p 0) (r.v.getD r.p 0)
 have h1 := hw r.p
 have h2 := hr r.p
 unfold qotR
 omega
theorem step_sz {r : SRow} {C : Nat} (hw : ∀ i, sz (w.getD i 0) + 1 ≤ C) (hr : ∀ i, sz (r.v.getD i 0) + 1 ≤ C) (i : Nat) : sz ((redStep w r).getD i 0) + 1 ≤ 4 * C := by
 have hC : 1 ≤ C := Nat.le_trans (Nat.le_add_left 1 _) (hw 0)
 have key : sz ((redStep w r).getD i 0) ≤ 4 * C - 1 := range_sz w.length (f := fun i => w.getD i 0 - qotR w r * r.v.getD i 0) (by omega) (fun i => by
  have h1 := sz_sub (w.getD i 0) (qotR w r * r.v.getD i 0)
  have h2 := sz_mul (qotR w r) (r.v.getD i 0)
  have h3 := qot_sz hw hr
  have h4 := hw i
  have h5 := hr i
  omega) i
 omega
theorem addC_sz {r : SRow} {C : Nat} (hw : ∀ i, sz (w.getD i 0) + 1 ≤ C) (ht : ∀ i, sz (t.getD i 0) + 1 ≤ C) (hr : ∀ i, sz (r.v.getD i 0) + 1 ≤ C) (hc : ∀ i, sz (r.c.getD i 0) + 1 ≤ C) (i : Nat) : sz ((addC t (qotR w r) r.c).getD i 0) + 1 ≤ 4 * C := by
 have hC : 1 ≤ C := Nat.le_trans (Nat.le_add_left 1 _) (hw 0)
 have key : sz ((addC t (qotR w r) r.c).getD i 0) ≤ 4 * C - 1 := range_sz t.length (f := fun i => t.getD i 0 + qotR w r * r.c.getD i 0) (by omega) (fun i => by
  have h1 := sz_add (t.getD i 0) (qotR w r * r.c.getD i 0)
  have h2 := sz_mul (qotR w r) (r.c.getD i 0)
  have h3 := qot_sz hw hr
  have h4 := ht i
  have h5 := hc i
  omega) i
 omega
theorem red_szJ : ∀ (rs : List SRow) (j : Nat) (w : List Rat), (∀ k r, rs[k]? = some r → ∀ i, sz (r.v.getD i 0) + 1 ≤ 4 ^ (j + k) * (B + 1)) → (∀ i, sz (w.getD i 0) + 1 ≤ 4 ^ j * (B + 1)) → ∀ i, sz ((redV rs w).getD i 0) + 1 ≤ 4 ^ (j + rs.length) * (B + 1)
 | [], _, _, _, hw, i => hw i
 | r :: rs, j, w, h, hw, i => by
  have h0 := h 0 r rfl
  rw [Nat.add_zero] at h0
  have := red_szJ rs (j + 1) (redStep w r) (fun k q hq => by
   have := h (k + 1) q hq
   rwa [show j + (k + 1) = j + 1 + k by omega] at this) (fun i => by
   have := step_sz hw h0 i
   rwa [Nat.pow_succ, Nat.mul_comm (4 ^ j), Nat.mul_assoc]) i
  rwa [redV, List.length_cons, show j + (rs.length + 1) = j + 1 + rs.length by omega]
theorem redC_szJ : ∀ (rs : List SRow) (j : Nat) (w t : List Rat), (∀ k r, rs[k]? = some r → (∀ i, sz (r.v.getD i 0) + 1 ≤ 4 ^ (j + k) * (B + 1)) ∧ ∀ i, sz (r.c.getD i 0) + 1 ≤ 4 ^ (j + k) * (B + 1)) → (∀ i, sz (w.getD i 0) + 1 ≤ 4 ^ j * (B + 1)) → (∀ i, sz (t.getD i 0) + 1 ≤ 4 ^ j * (B + 1)) →
  ∀ i, sz ((redC rs w t).getD i 0) + 1 ≤ 4 ^ (j + rs.length) * (B + 1)
 | [], _, _, _, _, _, ht, i => ht i
 | r :: rs, j, w, t, h, hw, ht, i => by
  have h0 := h 0 r rfl
  rw [Nat.add_zero] at h0
  have := redC_szJ rs (j + 1) (redStep w r) (addC t (qotR w r) r.c) (fun k q hq => by
   have := h (k + 1) q hq
   rwa [show j + (k + 1) = j + 1 + k by omega] at this) (fun i => by
   have := step_sz hw h0.1 i
   rwa [Nat.pow_succ, Nat.mul_comm (4 ^ j), Nat.mul_assoc]) (fun i => by
   have := addC_sz hw ht h0.1 h0.2 i
   rwa [Nat.pow_succ, Nat.mul_comm (4 ^ j), Nat.mul_assoc]) i
  rwa [redC, List.length_cons, show j + (rs.length + 1) = j + 1 + rs.length by omega]
theorem SzR.nil : SzR B [] := fun k r h => by cases h
theorem SzR.take (h : SzR B rs) (j : Nat) : SzR B (rs.take j) := fun k r hk => by
 rw [List.getElem?_take] at hk
 split at hk
 ·exact h k r hk
 ·cases hk
theorem SzR.red (h : SzR B rs) (hw : ∀ i, sz (w.getD i 0) ≤ B) (i : Nat) : sz ((redV rs w).getD i 0) + 1 ≤ 4 ^ rs.length * (B + 1) := by
 have := red_szJ rs 0 w (fun k r hk => by rw [Nat.zero_add]; exact (h k r hk).1) (fun i => by rw [Nat.pow_zero, Nat.one_mul]; have := hw i; omega) i
 rwa [Nat.zero_add] at this
theorem rep_zero (n i : Nat) : (List.replicate n (0 : Rat)).getD i 0 = 0 := by
 rw [List.getD_eq_getElem?_getD, List.getElem?_replicate]
 split <;> rfl
theorem SzR.redC (h : SzR B rs) (h1 : 1 ≤ B) (hw : ∀ i, sz (w.getD i 0) ≤ B) (n i : Nat) : sz ((Go.AL.redC rs w (List.replicate n 0)).getD i 0) + 1 ≤ 4 ^ rs.length * (B + 1) := by
 have := redC_szJ rs 0 w (List.replicate n 0) (fun k r hk => by rw [Nat.zero_add]; exact h k r hk) (fun i => by rw [Nat.pow_zero, Nat.one_mul]; have := hw i; omega) (fun i => by rw [Nat.pow_zero, Nat.one_mul, rep_zero, sz_zero]; omega) i
 rwa [Nat.zero_add] at this
theorem pow4_pos (k : Nat) : 1 ≤ 4 ^ k := Nat.one_le_pow _ _ (by decide)
theorem SzR.byS (h : SzR B rs) (h1 : 1 ≤ B) (hw : ∀ i, sz (w.getD i 0) ≤ B) (i : Nat) : sz ((Go.AL.byS rs w).getD i 0) + 1 ≤ 4 ^ rs.length * (B + 1) := by
 have hp : B + 1 ≤ 4 ^ rs.length * (B + 1) := Nat.le_mul_of_pos_left _ (pow4_pos _)
 have hl : ((takenS rs w).map fun x => -x).length = (takenS rs w).length := List.length_map ..
 unfold Go.AL.byS
 rw [List.getD_eq_getElem?_getD]
 rcases Nat.lt_or_ge i (takenS rs w).length with hi | hi
 ·rw [List.getElem?_append_left (by rw [hl]; exact hi), List.getElem?_map, List.getElem?_eq_getElem hi, Option.map_some, Option.getD_some, sz_neg]
  have := h.redC h1 hw rs.length i
  rw [List.getD_eq_getElem?_getD, show Go.AL.redC rs w (List.replicate rs.length 0) = takenS rs w from rfl, List.getElem?_eq_getElem hi, Option.getD_some] at this
  exact this
 ·rw [List.getElem?_append_right (by rw [hl]; exact hi), hl]
  rcases Nat.eq_zero_or_pos (i - (takenS rs w).length) with h0 | h0
  ·rw [h0]
   show sz 1 + 1 ≤ _
   rw [sz_one]; omega
  ·rw [List.getElem?_eq_none (by rw [List.length_singleton]; exact h0), Option.getD_none, sz_zero]; omega
theorem SzR.grow (h : SzR B rs) (h1 : 1 ≤ B) (hw : ∀ i, sz (w.getD i 0) ≤ B) : SzR B (rs ++ [newR rs w]) := fun k r hk => by
 rcases Nat.lt_or_ge k rs.length with hi | hi
 ·rw [List.getElem?_append_left hi] at hk
  exact h k r hk
 ·rw [List.getElem?_append_right hi] at hk
  rcases Nat.eq_zero_or_pos (k - rs.length) with h0 | h0
  ·rw [h0] at hk
   cases hk
   have e : k = rs.length := by omega
   subst e
   exact ⟨fun i => h.red hw i, fun i => h.byS h1 hw i⟩
  ·rw [List.getElem?_eq_none (by rw [List.length_singleton]; exact h0)] at hk; cases hk
theorem SzR.add (h : SzR B rs) (h1 : 1 ≤ B) (hw : ∀ i, sz (w.getD i 0) ≤ B) : SzR B (addS rs w) := by
 unfold addS
 split
 ·exact h.grow h1 hw
 ·exact h
end
end Go.AL

set_option linter.unusedVariables false
set_option linter.unusedSimpArgs false
namespace Go.AL
open Go Go.BigFrame
def Ans (m : Mach) : Option (List Int) → Prop
 | none => ∀ w, InW m.k w → wtM m w = 0
 | some w => FirstNZ m w
section
variable {m m2 : Mach} {V K Q : List (List Int)} {rs : List SRow} {w : List Int} {o p : Option (List Int)}
theorem Ans.unique (h : Ans m o) (k : Ans m p) : o = p := by
 cases o with
 | none =>
  cases p with
  | none => rfl
  | some w => exact absurd (h w k.inW) k.nz
 | some v =>
  cases p with
  | none => exact absurd (k v h.inW) h.nz
  | some w => rw [FirstNZ.unique h k]
theorem Ans.congr (hk : m2.k = m.k) (e : ∀ w, InW m.k w → (wtM m w = 0 ↔ wtM m2 w = 0)) (h : Ans m o) : Ans m2 o := by
 cases o with
 | none => exact fun w hw => (e w (hk ▸ hw)).1 (h w (hk ▸ hw))
 | some v => exact ⟨hk ▸ h.inW, fun z => h.nz ((e v h.inW).2 z), fun u hu hl => (e u (hk ▸ hu)).1 (h.before u (hk ▸ hu) hl)⟩
structure LenK (K Q : List (List Int)) : Prop where
 kept : ∀ (i : Nat) (u : List Int), K[i]? = some u → u.length ≤ i
 open_ : ∀ q : List Int, q ∈ Q → q.length ≤ K.length
theorem LenK.start : LenK [] [[]] := ⟨fun i u h => (by cases h), fun q h => (by rw [List.mem_singleton.1 h]; exact Nat.le_refl _)⟩
theorem LenK.drop (h : LenK K (w :: Q)) : LenK K Q := ⟨h.kept, fun q hq => h.open_ q (List.mem_cons_of_mem _ hq)⟩
theorem LenK.keep {k : Nat} (h : LenK K (w :: Q)) : LenK (K ++ [w]) (Q ++ kidsW k w) := by
 have hw := h.open_ w (List.mem_cons_self ..)
 refine ⟨fun i u hi => ?_, fun q hq => ?_⟩
 ·rcases Nat.lt_or_ge i K.length with hl | hl
  ·rw [List.getElem?_append_left hl] at hi
   exact h.kept i u hi
  ·rw [List.getElem?_append_right hl] at hi
   rcases Nat.eq_zero_or_pos (i - K.length) with h0 | h0
   ·rw [h0] at hi; cases hi; omega
   ·rw [List.getElem?_eq_none (by rw [List.length_singleton]; exact h0)] at hi; cases hi
 ·rw [List.length_append, List.length_singleton]
  rcases List.mem_append.1 hq with hq | hq
  ·have := h.open_ q (List.mem_cons_of_mem _ hq); omega
  ·obtain ⟨s, _, rfl⟩ := kidsW_mem.1 hq
   rw [List.length_append, List.length_singleton]; omega
theorem Join.new (ok : m.Ok) (j : Join m V K (w :: Q) rs) (hz : ZeroK m K) (hn : wtM m w ≠ 0) : growsS rs (vecM m w) = true := by
 cases hg : growsS rs (vecM m w) with
 | true => rfl
 | false =>
  refine absurd ?_ hn
  have hs := ((grows_iff j.ech (vecM_len ok w)).1 hg).trans fun b hb => by
   obtain ⟨r, hr, rfl⟩ := List.mem_map.1 hb
   exact j.rows r hr
  refine hs.kill (L := fun u _ => dotM m.n u (vf m.fin)) (dotM_lin m.n (vf m.fin)) fun b hb => ?_
  obtain ⟨u, hu, rfl⟩ := List.mem_map.1 hb
  exact hz u hu
theorem ZeroK.add (hz : ZeroK m K) (h : wtM m w = 0) : ZeroK m (K ++ [w]) := fun u hu => (List.mem_append.1 hu).elim (hz u) fun hu => by rw [List.mem_singleton.1 hu]; exact h
open Classical in
noncomputable def firstNZ (m : Mach) : Option (List Int) := if h : ∃ o, Ans m o then h.choose else none
theorem firstNZ_eq (h : Ans m o) : firstNZ m = o := by
 have h' : ∃ o, Ans m o := ⟨o, h⟩
 unfold firstNZ
 rw [dif_pos h']
 exact Ans.unique h'.choose_spec h
end
theorem least_ex {p : Nat → Prop} : ∀ n, p n → ∃ r, p r ∧ ∀ s, p s → r ≤ s := by
 intro n
 induction n using Nat.strongRecOn with
 | ind n ih =>
  intro h
  by_cases hx : ∃ k, k < n ∧ p k
  ·obtain ⟨k, hk, hp⟩ := hx
   exact ih k hk hp
  ·exact ⟨n, h, fun s hs => Decidable.byContradiction fun hlt => hx ⟨s, by omega, hs⟩⟩
def tabF (k : Nat) (f : List Int → Rat) : Wd k → Wd k → Rat := fun u l => f (u.1 ++ l.1.reverse)
theorem rank_ex {α β : Type} {H : α → β → Rat} {n : Nat} (h : Fac H n) : ∃ r, RankT H r :=
 have ⟨r, h1, h2⟩ := least_ex (p := Fac H) n h
 ⟨r, h1, h2⟩
open Classical in
noncomputable def rankF (k : Nat) (f : List Int → Rat) : Nat := if h : ∃ r, RankT (tabF k f) r then h.choose else 0
section
variable {m : Mach} {k r : Nat} {f g : List Int → Rat}
theorem rankF_eq (h : RankT (tabF k f) r) : rankF k f = r := by
 have h' : ∃ r, RankT (tabF k f) r := ⟨r, h⟩
 unfold rankF
 rw [dif_pos h']
 exact RankT.unique h'.choose_spec h
theorem rankF_spec {n : Nat} (h : Fac (tabF k f) n) : RankT (tabF k f) (rankF k f) := by
 obtain ⟨r, hr⟩ := rank_ex h
 rw [rankF_eq hr]; exact hr
theorem inW_cat {u l : List Int} (hu : InW k u) (hl : InW k l) : InW k (u ++ l.reverse) := fun x hx => (List.mem_append.1 hx).elim (hu x) fun h => hl x (List.mem_reverse.1 h)
theorem tab_congr (h : ∀ w, InW k w → f w = g w) : tabF k f = tabF k g := by
 funext u l
 exact h _ (inW_cat u.2 l.2)
theorem fac_mach (m : Mach) : Fac (tabF m.k (wtM m)) m.n :=
 ⟨fun u i => vf (vecM m u.1) i, fun i l => vf (vecM (turnM m) l.1) i, fun u l => (hank_wt l.1 u.1 l.2).symm⟩
theorem rank_mach (m : Mach) : RankT (tabF m.k (wtM m)) (rankF m.k (wtM m)) := rankF_spec (fac_mach m)
theorem rank_le (m : Mach) : rankF m.k (wtM m) ≤ m.n := (rank_mach m).least _ (fac_mach m)
theorem rank_zero (h : RankT (tabF k f) r) : r = 0 ↔ ∀ w, InW k w → f w = 0 := by
 constructor
 ·intro e w hw
  subst e
  have := Fac.zero.1 h.fac ⟨w, hw⟩ ⟨[], fun x hx => by cases hx⟩
  unfold tabF at this
  rwa [List.reverse_nil, List.append_nil] at this
 ·intro hz
  exact Nat.le_zero.1 (h.least 0 (Fac.zero.2 fun u l => hz _ (inW_cat u.2 l.2)))
theorem rank_plus {s t : Nat} (h : RankT (tabF k f) r) (h2 : RankT (tabF k g) s) (h3 : RankT (tabF k fun w => f w + g w) t) : t ≤ r + s := h3.least _ (h.fac.plus h2.fac)
theorem rank_turn {s : Nat} (h : RankT (tabF k f) r) (h2 : RankT (tabF k fun w => f w.reverse) s) : s = r := by
 have e : tabF k (fun w => f w.reverse) = fun b a => tabF k f a b := by
  funext u l
  unfold tabF
  show f (u.1 ++ l.1.reverse).reverse = f (l.1 ++ u.1.reverse)
  rw [List.reverse_append, List.reverse_reverse]
 rw [e] at h2
 exact h2.unique h.turn
theorem rank_smul {s : Nat} {c : Rat} (hc : c ≠ 0) (h : RankT (tabF k f) r) (h2 : RankT (tabF k fun w => c * f w) s) : s = r := by
 refine Nat.le_antisymm (h2.least _ (h.fac.smul c)) (h.least _ ?_)
 have := h2.fac.smul (1 / c)
 refine (show tabF k f = fun a b => 1 / c * tabF k (fun w => c * f w) a b from ?_) ▸ this
 funext u l
 unfold tabF
 show _ = 1 / c * (c * _)
 rw [← Rat.mul_assoc, Rat.div_mul_cancel hc, Rat.one_mul]
end
end Go.AL

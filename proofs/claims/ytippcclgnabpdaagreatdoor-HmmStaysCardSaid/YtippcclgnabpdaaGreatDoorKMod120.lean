/-
  M, chapter 33: a state that stays as long as a list of shares says gives the word of k + 1 symbols the share k; the numbers on the way are small.
-/
import Derived.Test.YtippcclgnabpdaaGreatDoorKMod91
import Derived.Test.YtippcclgnabpdaaGreatDoorKMod115
set_option linter.unusedVariables false
set_option linter.unusedSimpArgs false
namespace Go.AL
open Go Go.BigFrame
section
variable {m : Mach} {B k : Nat} {V K Q : List (List Int)} {w u : List Int} {rs : List SRow} {y : KSt} {v : List Rat} {r : SRow}
def nextW (k : Nat) (K : List (List Int)) : List (List Int) := [] :: K.flatMap (kidsW k)
theorem nextW_snoc : nextW k (K ++ [w]) = nextW k K ++ kidsW k w := by
 unfold nextW
 rw [List.flatMap_append, List.flatMap_cons, List.flatMap_nil, List.append_nil, List.cons_append]
structure InvS (m : Mach) (B : Nat) (Q : List (List Int)) (y : KSt) : Prop where
 sp : SpOK m.n B y.rs
 join : ∃ V, Join m V y.ks Q y.rs ∧ V ++ Q = nextW m.k y.ks
 len : LenK y.ks Q
 lead : ∀ r, r ∈ y.rs → r.p = firstP r.v
 ord : y.ks.Pairwise fun a b => slx a b < 0
theorem InvS.start (m : Mach) (B : Nat) : InvS m B [[]] ⟨[], []⟩ := ⟨SpOK.nil, ⟨[], Join.start m, rfl⟩, LenK.start, fun _ h => (by cases h), List.Pairwise.nil⟩
theorem InvS.b (h : InvS m B Q y) : InvB m B Q y := ⟨h.sp, have ⟨V, j, _⟩ := h.join; ⟨V, j⟩, h.len⟩
theorem InvS.next (ok : m.Ok) (h1 : 1 ≤ B) (hz : ∀ i, sz ((vecM m w).getD i 0) ≤ B) (h : InvS m B (w :: Q) y) :
  ((keepB m w y).1 = true → InvS m B (Q ++ kidsW m.k w) (keepB m w y).2 ∧ leftM m (Q ++ kidsW m.k w) (keepB m w y).2.rs < leftM m (w :: Q) y.rs) ∧ ((keepB m w y).1 = false → InvS m B Q (keepB m w y).2 ∧ leftM m Q (keepB m w y).2.rs < leftM m (w :: Q) y.rs) := by
 obtain ⟨V, j, e⟩ := h.join
 unfold keepB
 by_cases hg : growsS y.rs (vecM m w) = true
 ·rw [if_pos hg]
  refine ⟨fun _ => ⟨⟨h.sp.grow (vecM_len ok w) h1 hz hg, ⟨_, j.keep ok hg, ?_⟩, h.len.keep, fun r hr => ?_, ?_⟩, left_keep ok j hg⟩, fun x => by cases x⟩
  ·show V ++ [w] ++ (Q ++ kidsW m.k w) = nextW m.k (y.ks ++ [w])
   rw [nextW_snoc, ← e, List.append_assoc, List.append_assoc]; rfl
  ·rcases List.mem_append.1 hr with hr | hr
   ·exact h.lead r hr
   ·rw [List.mem_singleton.1 hr]; rfl
  ·refine List.pairwise_append.2 ⟨h.ord, List.pairwise_singleton .., fun u hu q hq => ?_⟩
   rw [List.mem_singleton.1 hq]
   exact (List.pairwise_append.1 j.bfs.ord).2.2 u (j.bfs.sub u hu) w (List.mem_cons_self ..)
 ·rw [if_neg hg]
  have hg : growsS y.rs (vecM m w) = false := by simpa using hg
  exact ⟨fun x => (by cases x), fun _ => ⟨⟨h.sp, ⟨_, j.drop ok hg, by rw [List.append_assoc]; exact e⟩, h.len.drop, h.lead, h.ord⟩, left_drop⟩⟩
end
end Go.AL

set_option linter.unusedVariables false
set_option linter.unusedSimpArgs false
namespace Go.AL
open Go Go.BigFrame
section
variable {a : Au} {n s j k B C N : Nat} {v : List Rat} {l : List Arc9}
theorem stepF_szG (hv : ∀ i, sz (v.getD i 0) ≤ B) (hl : ∀ x, x ∈ l → x.t < n ∧ sz x.q ≤ C) (hN : l.length ≤ N) (h1 : 1 ≤ B + C) : sz ((stepF n v s l).getD j 0) ≤ N * (B + C + 1) + 1 := by
 rw [stepF_get fun x hx => (hl x hx).1]
 have h2 := lsum_szA (f := inF v s j) (C := B + C) (l := l) fun x hx => by
  unfold inF
  split
  ·have := sz_mul (v.getD x.f 0) x.q
   have := hv x.f
   have := (hl x hx).2
   omega
  ·rw [sz_zero]; exact h1
 have h3 := Nat.mul_le_mul_right (B + C + 1) hN
 omega
structure Au.Fw (a : Au) : Prop where
 ok : a.Ok
 few : a.Few
 s4 : a.sym ≤ 4
 st1 : 1 ≤ a.st
 arc : ∀ x, x ∈ a.arcs → sz x.q ≤ 5000
 num : a.arcs.length ≤ 40
end
end Go.AL

set_option linter.unusedVariables false
set_option linter.unusedSimpArgs false
set_option linter.unusedVariables false
namespace Go.AL
open Go Go.BigFrame
def endHM : HM := ⟨1, 1, 0, [1], [[0]], [1], [[1]], [false], [0]⟩
def coinS : HM := ⟨1, 1, 0, [1], [[1 / 2]], [1 / 2], [[1]], [false], [0]⟩
def oneW (n : Nat) : List Int := List.replicate n 1
theorem oneW_len (n : Nat) : (oneW n).length = n := List.length_replicate
theorem oneW_in (n : Nat) : InW 1 (oneW n) := fun x hx => by rw [(List.mem_replicate.1 hx).2]; exact ⟨by decide, by decide⟩
theorem oneW_sym (n t : Nat) : symX (oneW n) t = 0 := by
 unfold symX oneW
 rw [List.getD_eq_getElem?_getD, List.getElem?_replicate]
 split <;> rfl
theorem oneW_take {n k : Nat} (h : k ≤ n) : (oneW n).take k = oneW k := by unfold oneW; rw [List.take_replicate, Nat.min_eq_left h]
theorem half_share : Share (1 / 2) := ⟨by decide +kernel, by decide +kernel⟩
theorem one_row {P : Rat → Prop} {x : Rat} (h : P x) (i : Nat) : ∀ q, q ∈ ([[x]] : List (List Rat)).getD i [] → P q := fun q hq => by
 cases i with
 | zero => rw [List.mem_singleton.1 (show q ∈ [x] from hq)]; exact h
 | succ i => exact absurd (show q ∈ ([] : List Rat) from hq) List.not_mem_nil
theorem sz_o : sz 1 ≤ 1 := by rw [sz_one]; exact Nat.le_refl _
theorem sz_z : sz 0 ≤ 1 := by rw [sz_zero]; exact Nat.le_refl _
theorem lone_good {p q : Rat} (hp : Share p) (hq : Share q) (zp : sz p ≤ 1) (zq : sz q ≤ 1) (h : sumQ [p, q] = 1) : HM.GoodX 1048576 1 ⟨1, 1, 0, [1], [[p]], [q], [[1]], [false], [0]⟩ := by
 have i0 : ∀ {i : Nat}, i < 1 → i = 0 := fun h => by omega
 refine ⟨⟨Nat.le_refl _, (by decide : 1 ≤ 32), Nat.le_refl _, (by decide : 1 ≤ 12), rfl, rfl, fun i hi => ?_, rfl, rfl, fun i hi => ?_, rfl, rfl, fun i hi => ?_, Nat.le_refl _, by decide, sz_z, .one sz_o, .one zq, one_row zp, one_row sz_o⟩,
  zero_share, fun x hx => by rw [List.mem_singleton.1 hx]; exact one_share, fun x hx => by rw [List.mem_singleton.1 hx]; exact hq, one_row hp, one_row one_share, ?_, fun i hi => ?_, fun i hi => ?_, fun i j hi hj => ?_⟩
 ·rw [i0 hi]; rfl
 ·rw [i0 hi]; rfl
 ·rw [i0 hi]; exact ⟨Int.le_refl _, (by decide : (0 : Int) < ((1 : Nat) : Int))⟩
 ·show sumQ [1, 0] = 1
  rw [sumQ_cons, sumQ_cons, sumQ_nil, Rat.add_zero, Rat.add_zero]
 ·rw [i0 hi]; exact h
 ·rw [i0 hi]
  show sumQ [1] = 1
  rw [sumQ_cons, sumQ_nil, Rat.add_zero]
 ·exact absurd hi (by change ¬ i < 1; omega)
theorem end_good : HM.GoodX 1048576 1 endHM := lone_good zero_share one_share sz_z sz_o (by rw [sumQ_cons, sumQ_cons, sumQ_nil, Rat.add_zero, Rat.zero_add])
theorem coinS_good : HM.GoodX 1048576 1 coinS := lone_good half_share half_share half_sz half_sz (by decide +kernel)
section
variable {d : List Rat} {i j k t : Nat}
abbrev stayHM (d : List Rat) : HM := xpHM endHM d 0
theorem stay_spr (x : Rat) : sprR d 0 [x] = d.map fun q => x * q := by
 show (List.range 1).flatMap (sprI d 0 [x]) = _
 rw [List.range_one, List.flatMap_singleton]
 rfl
theorem stay_one : sprR d 0 [1] = d := by
 rw [stay_spr]
 have : (fun q : Rat => 1 * q) = id := by funext q; rw [Rat.one_mul]; rfl
 rw [this, List.map_id]
theorem stay_cp : cpN d 0 1 = (List.range d.length).map fun k => (0, k) := rfl
theorem stay_st : (stayHM d).st = d.length := by show (sprR d 0 [1]).length = _; rw [stay_one]
theorem stay_cpg (hi : i < d.length) : (cpN d 0 1).getD i (0, 0) = (0, i) := by rw [stay_cp, map_getD_range _ _ hi]
theorem stay_cpl : (cpN d 0 1).length = d.length := by rw [stay_cp, List.length_map, List.length_range]
theorem stay_ini : (stayHM d).ini = d := stay_one
theorem stay_tr (hi : i < d.length) (hj : j < d.length) : trQ (stayHM d) i j = if j + 1 = i then 1 else 0 := by
 unfold trQ
 show ((trX endHM d 0 (sprR d 0 [1]).length (cpN d 0 1)).getD i []).getD j 0 = _
 rw [trX_get (by rw [stay_cpl]; exact hi), stay_cpg hi, stay_one]
 unfold rowX
 by_cases e : i = 0
 ·subst e
  rw [if_pos rfl, if_neg (by omega)]
  show (sprR d 0 [0]).getD j 0 = 0
  rw [stay_spr, map_mem (d := 0) hj, Rat.zero_mul]
 ·rw [if_neg e, map_getD_range _ _ hj]
theorem stay_em (hi : i < d.length) : emQ (stayHM d) i 0 = 1 := by
 unfold emQ
 show ((emX endHM (cpN d 0 1)).getD i []).getD 0 0 = _
 unfold emX
 rw [map_mem (d := (0, 0)) (by rw [stay_cpl]; exact hi), stay_cpg hi]
 rfl
theorem stay_stop (hi : i < d.length) : (stayHM d).stop.getD i 0 = if 0 = i then 1 else 0 := by
 show (stX endHM (cpN d 0 1)).getD i 0 = _
 unfold stX
 rw [map_mem (d := (0, 0)) (by rw [stay_cpl]; exact hi), stay_cpg hi]
 by_cases e : i = 0
 ·subst e; rfl
 ·rw [if_neg e, if_neg (fun h => e h.symm)]
theorem stay_fwd {n : Nat} : ∀ {t j : Nat}, j < d.length → (fwdF (stayHM d) (oneW n) t).getD j 0 = d.getD (j + t) 0
 | 0, j, hj => by
  rw [fwdF, map_getD_range _ _ (by rw [stay_st]; exact hj), oneW_sym, stay_em hj, stay_ini, Rat.mul_one]; rfl
 | t + 1, j, hj => by
  rw [fwdF, map_getD_range _ _ (by rw [stay_st]; exact hj), oneW_sym, stay_em hj, Rat.mul_one]
  unfold preF
  rw [stay_st]
  have e : sumN (fun i => (fwdF (stayHM d) (oneW n) t).getD i 0 * trQ (stayHM d) i j) d.length = sumN (fun i => if j + 1 = i then d.getD (i + t) 0 else 0) d.length := sumN_congr fun i hi => by
   rw [stay_tr hi hj, stay_fwd hi]
   split
   ·rw [Rat.mul_one]
   ·rw [Rat.mul_zero]
  rw [e]
  rcases Nat.lt_or_ge (j + 1) d.length with h | h
  ·rw [sumN_pick h]
   congr 1; omega
  ·rw [sumN_zero fun i hi => if_neg (by omega), getD_ge (by omega)]
theorem stay_lik (h1 : 1 ≤ d.length) : likF (stayHM d) (oneW (k + 1)) = d.getD k 0 := by
 unfold likF likN
 rw [if_neg (by rw [oneW_len]; omega), oneW_len, Nat.add_sub_cancel, stay_st]
 have e : sumN (fun i => (fwdF (stayHM d) (oneW (k + 1)) k).getD i 0 * (stayHM d).stop.getD i 0) d.length = sumN (fun i => if 0 = i then d.getD (i + k) 0 else 0) d.length := sumN_congr fun i hi => by
  rw [stay_stop hi, stay_fwd hi]
  split
  ·rw [Rat.mul_one]
  ·rw [Rat.mul_zero]
 rw [e, sumN_pick (by omega), Nat.zero_add]
end
section
variable {g : HM} {b B : Nat}
theorem autoHM_ent (h : HM.GoodX b B g) (S F C : Nat) : sz (entA (autoHM g).arcs S F C) ≤ B + B := by
 show sz (entA (arF g (g.st + 1)) S F C) ≤ _
 rw [entF h (Nat.le_refl _)]
 have hB := h.form.b1
 have hr : ∀ F, Small B (rowHA g F) := fun F => by unfold rowHA; split; exact h.form.zI; exact h.form.zT _
 split
 ·have h1 := sz_mul ((rowHA g F).getD (C - 1) 0) (emQ g (C - 1) S)
  have h2 := (hr F).get hB (C - 1)
  have h3 : sz (emQ g (C - 1) S) ≤ B := (h.form.zM (C - 1)).get hB S
  omega
 ·rw [sz_zero]; omega
theorem autoHM_arc (h : HM.GoodX b B g) {x : Arc9} (hx : x ∈ (autoHM g).arcs) : sz x.q ≤ B + B := by
 obtain ⟨f, hf, i, hi, s, hs, rfl⟩ := arF_mem hx
 have hB := h.form.b1
 have hr : ∀ F, Small B (rowHA g F) := fun F => by unfold rowHA; split; exact h.form.zI; exact h.form.zT _
 have h1 := sz_mul ((rowHA g f).getD i 0) (emQ g i s)
 have h2 := (hr f).get hB i
 have h3 : sz (emQ g i s) ≤ B := (h.form.zM i).get hB s
 show sz ((rowHA g f).getD i 0 * emQ g i s) ≤ _
 omega
theorem autoHM_ini : Small 1 (autoHM g).ini := .cons sz_o fun q hq => by rw [(List.mem_replicate.1 hq).2]; exact sz_z
theorem autoHM_fin (h : HM.GoodX b B g) : Small B (autoHM g).fin := .cons h.form.zE h.form.zS
theorem vecH_sz {C : Nat} (h : HM.GoodX b B g) (hC : 1 ≤ C) {u : List Int} (hw : InW g.sym u) (hf : ∀ t j, t < u.length → sz ((fwdF g u t).getD j 0) ≤ C) (j : Nat) : sz ((vecM (machL [autoHM g]) u).getD j 0) ≤ C := by
 have hl : (vecM (machL [autoHM g]) u).length = g.st + 1 := by rw [vecM_len (mach_ok1 (autoHM_ok h))]; exact size_one
 cases u with
 | nil =>
  show sz (((1 : Rat) :: List.replicate g.st 0 ++ []).getD j 0) ≤ C
  rw [List.append_nil]
  exact Nat.le_trans ((autoHM_ini (g := g)).get (Nat.le_refl _) j) hC
 | cons x r =>
  obtain ⟨h1, h2⟩ := vecH h (n := r.length) (u := x :: r) rfl hw
  cases j with
  | zero => rw [h1, sz_zero]; exact hC
  | succ j =>
   rcases Nat.lt_or_ge j g.st with hj | hj
   ·rw [h2 j hj]; exact hf _ _ (Nat.lt_succ_self _)
   ·rw [getD_ge (by rw [hl]; omega), sz_zero]; exact hC
end
theorem coinS_lik : likF coinS (oneW 3) = 1 / 8 := by decide +kernel
theorem coinS_all : ∀ k, k < 4 → ∀ t, t < k → ∀ q, q ∈ fwdF coinS (oneW k) t → sz q ≤ 1 := by decide +kernel
theorem coinS_fwd {k t j : Nat} (hk : k ≤ 3) (ht : t < (oneW k).length) : sz ((fwdF coinS (oneW k) t).getD j 0) ≤ 1 := by
 rw [oneW_len] at ht
 exact Small.get (fun q hq => coinS_all k (by omega) t ht q hq) (Nat.le_refl _) j
end Go.AL

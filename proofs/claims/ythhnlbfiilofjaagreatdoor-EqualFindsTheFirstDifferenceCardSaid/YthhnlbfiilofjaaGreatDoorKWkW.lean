/-
  Walks of layers 3, 6 and 15 of the specification and of equal.Zero (printed by mk2.py).
-/
import Derived.Test.YthhnlbfiilofjaaGreatDoorKWkU
import Derived.Test.YthhnlbfiilofjaaGreatDoorKMod89
import Derived.Test.YthhnlbfiilofjaaGreatDoorKAlg38
set_option linter.unusedVariables false
set_option linter.unusedSimpArgs false
namespace Go.Proofs.YthhnlbfiilofjaaGreatDoor
open Go Go.AL
theorem r5SameT {l m : List Int} (nl : l.length ≤ 1099511627776) (e : l = m) : FSpec P F.ref05_Same [.d (ints l), .d (ints m)] (.d (dB true)) := by
 have h := r5Same (l := l) (m := m) nl
 rwa [decide_eq_true e] at h
theorem take_letter {q : Rat} (hz : sz q ≤ 1) : Au.Take (letterOf q) 2 :=
 ⟨⟨letter_ok q, (letter_sz hz).wide, rfl, (show 2 ≤ 32 by decide), (show 2 ≤ 64 by decide)⟩, (letter_sz hz).few (show 2 ≤ 6 by decide), (show 1 ≤ 2 by decide)⟩
theorem law23_ring  : FSpec P F.law23_ring [] (vRing) := by
 refine FSpec.intro fn.law23_ring (by rfl) (by rfl) (nb9 (by rfl)) fun E hE => (AW.sg hE rfl (al z.Ring rfl fun b0 => (OL.nil (AW.sg hE rfl (bd z.Ring pl.Ring (cs := [_,_]) rfl (sto sz.Ring rfl rfl rfl rfl rfl (nb9 rfl) (cells2 := [_,_]) rfl (OL.nil ?_)))))))
 exact AW.ret (RetQ.r ⟨_, .cellA rfl rfl ag.Ring (nb9 rfl) .nil, .ag (.cons (.le (VLe.refl _)) (.cons (.le (VLe.mt)) .nil))⟩)
theorem law23_awake  : FSpec P F.law23_awake [] (.d (dB true)) := by
 refine FSpec.intro fn.law23_awake (by rfl) (by rfl) (nb9 (by rfl)) fun E hE => (AW.sg hE rfl (asD rfl (OL.nil (AW.sg hE rfl (clv rfl (.nil) (law23_ring) (clv rfl .rq2 (ref_OfQ (n := 1) (d := 2) (by decide) (by decide) (by decide)) ?_))))))
 rw [half_q]
 refine bd z.Weight pl.Weight (cs := [_,_,_,_,_,_,_,_]) rfl (clv rfl (.cons (VLe.refl _) (.cons (VLe.refl _) (.cons (VLe.refl _) (.cons (vle_wq) .nil)))) (r6Letter (q := 1 / 2) half_szL half_n0) (mvT rfl (ex rfl rfl (ex rfl rfl (al z.Auto rfl fun b1 => (sto sz.Auto rfl rfl rfl rfl rfl (nb9 rfl) (cells2 := [_,_,_,_,_,_,_]) rfl (asD rfl ?_)))))))
 refine OL.nil (AW.sg hE rfl (clv rfl (.nil) (law23_ring) (clv rfl .rq2 (ref_OfQ (n := 1) (d := 3) (by decide) (by decide) (by decide)) ?_)))
 rw [third_q]
 refine bd z.Weight pl.Weight (cs := [_,_,_,_,_,_,_,_]) rfl (clv rfl (.cons (VLe.refl _) (.cons (VLe.refl _) (.cons (VLe.refl _) (.cons (vle_wq) .nil)))) (r6Letter (q := 1 / 3) third_szL third_n0) (mvT rfl (ex rfl rfl (ex rfl rfl (al z.Auto rfl fun b3 => (sto sz.Auto rfl rfl rfl rfl rfl (nb9 rfl) (cells2 := [_,_,_,_,_,_,_]) rfl (asD rfl ?_)))))))
 refine OL.nil (AW.sg hE rfl (ldPA ag.Auto rfl rfl (vs := [_,_,_,_,_,_,_]) rfl (nb9 rfl) (ldPA ag.Auto rfl rfl (vs := [_,_,_,_,_,_,_]) rfl (nb9 rfl) (clv rfl (.cons (VLe.refl _) (.cons (VLe.refl _) (.nil))) (EqualA (a := letterOf (1 / 2)) (b := letterOf (1 / 3)) (take_letter half_szL) (take_letter third_szL) (by decide) (show 2 + 2 ≤ 6 by decide)) ?_))))
 rw [let_eq]
 refine mvT rfl (ex rfl rfl (ex rfl rfl (ex rfl rfl (asD rfl (asD rfl (asD rfl (OL.nil ?_)))))))
 refine AW.sg hE rfl (ldPA ag.Auto rfl rfl (vs := [_,_,_,_,_,_,_]) rfl (nb9 rfl) (clv rfl (.cons (VLe.refl _) (.nil)) (RankA (a := letterOf (1 / 2)) (take_letter half_szL) (by decide)) ?_))
 rw [let_rank]
 refine mvT rfl (ex rfl rfl (ex rfl rfl (asD rfl (asD rfl (OL.nil (AW.sg hE rfl (mvD rfl ?_)))))))
 refine c_eql rfl rfl (c := true) (decide_eq_true rfl) (mvD rfl (OL.yes rfl (mvD (y := dB false) rfl (OL.yes rfl (nt rfl (pkT rfl rfl (mvD rfl ?_)))))))
 refine OL.yes rfl (mvD rfl (OL.yes rfl (lt1 (y := dI 1) sl.ints (VC.d _).vd rfl (by decide) (OL.yes rfl (clv rfl (.cons (VLe.refl _) (.cons (VLe.refl _) (.nil))) (r5SameT (l := [1]) (m := [1]) (by decide) rfl) (pkT rfl rfl (mvD rfl ?_)))))))
 refine OL.yes rfl (mvD rfl (OL.yes rfl (c_eql rfl rfl (c := true) (decide_eq_true rfl) (pkT rfl rfl (mvD rfl (OL.yes rfl (mvD rfl ?_)))))))
 exact OL.yes rfl (c_eql rfl rfl (c := true) (decide_eq_true rfl) (pkT rfl rfl (asD rfl (OL.nil (AW.ret (RetQ.r ⟨_, .tmp rfl .nil, .le (VLe.refl _)⟩))))))
end Go.Proofs.YthhnlbfiilofjaaGreatDoor

set_option linter.unusedVariables false
set_option linter.unusedSimpArgs false
namespace Go.AL
open Go Go.BigFrame
section
variable {a b : Au} {B N K : Nat} {q : Rat} {s i j : Nat}
theorem Au.Sz.up {B2 N2 : Nat} (h : a.Sz B N) (hb : B ≤ B2) (hn : N ≤ N2) : a.Sz B2 N2 :=
 ⟨fun q hq => Nat.le_trans (h.ini q hq) hb, fun q hq => Nat.le_trans (h.fin q hq) hb, fun x hx => Nat.le_trans (h.arc x hx) hb, Nat.le_trans h.num hn⟩
end
end Go.AL

set_option linter.unusedVariables false
set_option linter.unusedSimpArgs false
namespace Go.AL
open Go Go.BigFrame
section
variable {a b : Au} {n s i j k : Nat} {v w out : List Rat} {l : List Arc9} {x : Arc9}
theorem take_snoc9 {α : Type} (d : α) {l : List α} {i : Nat} (h : i < l.length) : l.take (i + 1) = l.take i ++ [l.getD i d] := by
 rw [List.take_succ_eq_append_getElem h, List.getD_eq_getElem?_getD, List.getElem?_eq_getElem h]; rfl
def addF (v : List Rat) (s : Nat) (out : List Rat) (x : Arc9) : List Rat := if x.l = s then out.set x.t (out.getD x.t 0 + v.getD x.f 0 * x.q) else out
def stepF (n : Nat) (v : List Rat) (s : Nat) (l : List Arc9) : List Rat := l.foldl (addF v s) (List.replicate n 0)
theorem addF_len : (addF v s out x).length = out.length := by unfold addF; split <;> simp
theorem stepF_len : (stepF n v s l).length = n := by
 have : ∀ (l : List Arc9) (out : List Rat), (l.foldl (addF v s) out).length = out.length := fun l => by
  induction l with
  | nil => exact fun _ => rfl
  | cons x l ih => exact fun out => by rw [List.foldl_cons, ih, addF_len]
 unfold stepF
 rw [this, List.length_replicate]
theorem stepF_snoc (h : i < l.length) : stepF n v s (l.take (i + 1)) = addF v s (stepF n v s (l.take i)) (l.getD i default) := by
 unfold stepF
 rw [take_snoc9 default h, List.foldl_append]; rfl
theorem getD_set9 {l : List Rat} {y : Rat} (hi : i < l.length) : (l.set i y).getD j 0 = if i = j then y else l.getD j 0 := by
 rw [List.getD_eq_getElem?_getD, List.getElem?_set, List.getD_eq_getElem?_getD]
 by_cases h : i = j
 ·subst h; rw [if_pos rfl, if_pos hi, if_pos rfl]; rfl
 ·rw [if_neg h, if_neg h]
def inF (v : List Rat) (s j : Nat) (x : Arc9) : Rat := if x.l = s ∧ x.t = j then v.getD x.f 0 * x.q else 0
theorem foldF_get : ∀ (l : List Arc9) (out : List Rat), (∀ x, x ∈ l → x.t < out.length) → (l.foldl (addF v s) out).getD j 0 = out.getD j 0 + lsum (inF v s j) l
 | [], out, _ => by rw [List.foldl_nil, lsum, Rat.add_zero]
 | x :: l, out, h => by
  have hx := h x (List.mem_cons_self ..)
  rw [List.foldl_cons, foldF_get l _ (fun y hy => by rw [addF_len]; exact h y (List.mem_cons_of_mem _ hy)), lsum, ← Rat.add_assoc]
  congr 1
  unfold addF inF
  by_cases hl : x.l = s
  ·rw [if_pos hl, getD_set9 hx]
   by_cases ht : x.t = j
   ·rw [if_pos ht, if_pos ⟨hl, ht⟩, ht]
   ·rw [if_neg ht, if_neg (fun e => ht e.2), Rat.add_zero]
  ·rw [if_neg hl, if_neg (fun e => hl e.1), Rat.add_zero]
theorem rep_get : (List.replicate n (0 : Rat)).getD j 0 = 0 := by
 rw [List.getD_eq_getElem?_getD, List.getElem?_replicate]
 split <;> rfl
theorem stepF_get (h : ∀ x, x ∈ l → x.t < n) : (stepF n v s l).getD j 0 = lsum (inF v s j) l := by
 unfold stepF
 rw [foldF_get l _ (fun x hx => by rw [List.length_replicate]; exact h x hx), rep_get, Rat.zero_add]
theorem sum_ent (l : List Arc9) (hf : ∀ x, x ∈ l → x.f < n) : sumN (fun i => v.getD i 0 * entA l k i j) n = lsum (inF v (k + 1) j) l := by
 induction l with
 | nil => rw [lsum]; exact sumN_zero fun i _ => by rw [entA_nil, Rat.mul_zero]
 | cons x l ih =>
  rw [lsum, ← ih fun y hy => hf y (List.mem_cons_of_mem _ hy)]
  have e : (fun i => v.getD i 0 * entA (x :: l) k i j) = fun i => v.getD i 0 * pickA k i j x + v.getD i 0 * entA l k i j := by
   funext i
   rw [entA_cons, Rat.mul_add]
  rw [e, sumN_add]
  congr 1
  unfold inF
  by_cases hc : x.l = k + 1 ∧ x.t = j
  ·rw [if_pos hc]
   have e2 : (fun i => v.getD i 0 * pickA k i j x) = fun i => if x.f = i then v.getD i 0 * x.q else 0 := by
    funext i
    unfold pickA
    by_cases hi : x.f = i
    ·rw [if_pos ⟨hi, hc.1, hc.2⟩, if_pos hi]
    ·rw [if_neg (fun e => hi e.1), if_neg hi, Rat.mul_zero]
   rw [e2, sumN_pick (v := fun i => v.getD i 0 * x.q) (hf x (List.mem_cons_self ..))]
  ·rw [if_neg hc]
   exact sumN_zero fun i _ => by
    unfold pickA
    rw [if_neg (fun e => hc ⟨e.2.1, e.2.2⟩), Rat.mul_zero]
theorem stepF_step (ha : a.Ok) (s1 : 1 ≤ s) (s2 : s ≤ a.sym) : stepF a.st v s a.arcs = stepM (machL [a]) v (s - 1) := by
 have hn : (machL [a]).n = a.st := size_one
 refine List.ext_getElem (by rw [stepF_len, stepM_len, hn]) fun j h1 h2 => ?_
 rw [stepF_len] at h1
 have e1 : (stepF a.st v s a.arcs)[j] = (stepF a.st v s a.arcs).getD j 0 := by rw [List.getD_eq_getElem?_getD, List.getElem?_eq_getElem]; rfl
 have e2 : (stepM (machL [a]) v (s - 1))[j] = (stepM (machL [a]) v (s - 1)).getD j 0 := by rw [List.getD_eq_getElem?_getD, List.getElem?_eq_getElem]; rfl
 rw [e1, e2, stepF_get fun x hx => (ha.arc x hx).2.1]
 unfold stepM
 rw [hn, map_getD_range _ _ h1]
 have e3 : s - 1 + 1 = s := by omega
 rw [show lsum (inF v s j) a.arcs = lsum (inF v (s - 1 + 1) j) a.arcs by rw [e3], ← sum_ent (n := a.st) a.arcs fun x hx => (ha.arc x hx).1]
 refine sumN_congr fun i hi => ?_
 rw [machL_ent (l := [a]) (by show s - 1 < a.sym; omega) (by rw [size_one]; exact hi) (by rw [size_one]; exact h1)]
 show _ = _ * (if i < a.st then (if j < a.st then entA a.arcs (s - 1) i j else 0) else _)
 rw [if_pos hi, if_pos h1]
def fwA (a : Au) (u : List Int) : List Rat := u.foldl (fun v x => stepF a.st v x.toNat a.arcs) a.ini
theorem fwA_snoc {u : List Int} (h : i < u.length) : fwA a (u.take (i + 1)) = stepF a.st (fwA a (u.take i)) (u.getD i 0).toNat a.arcs := by
 unfold fwA
 rw [take_snoc9 0 h, List.foldl_append]; rfl
theorem fwA_len (ha : a.Ok) (u : List Int) : (fwA a u).length = a.st := by
 have : ∀ (u : List Int) (v : List Rat), v.length = a.st → (u.foldl (fun v x => stepF a.st v x.toNat a.arcs) v).length = a.st := fun u => by
  induction u with
  | nil => exact fun _ h => h
  | cons x u ih => exact fun v _ => ih _ stepF_len
 exact this u a.ini ha.ini
theorem fwA_vec (ha : a.Ok) {u : List Int} (hu : InW a.sym u) : fwA a u = vecM (machL [a]) u := by
 have : ∀ (u : List Int) (v : List Rat), InW a.sym u → u.foldl (fun v x => stepF a.st v x.toNat a.arcs) v = u.foldl (fun v x => stepM (machL [a]) v (x.toNat - 1)) v := fun u => by
  induction u with
  | nil => exact fun _ _ => rfl
  | cons x u ih =>
   intro v hx
   have h1 := hx x (List.mem_cons_self ..)
   rw [List.foldl_cons, List.foldl_cons, stepF_step ha (by omega) (by omega)]
   exact ih _ fun y hy => hx y (List.mem_cons_of_mem _ hy)
 unfold fwA vecM
 rw [this u a.ini hu, show (machL [a]).ini = a.ini from List.append_nil _]
def dotF (v w : List Rat) (i : Nat) : Rat := sumN (fun i => v.getD i 0 * w.getD i 0) i
theorem dotF_ser (ha : a.Ok) {u : List Int} (hu : InW a.sym u) : dotF (fwA a u) a.fin a.st = serA a u := by
 rw [fwA_vec ha hu]
 unfold dotF serA wtM dotM
 rw [show (machL [a]).n = a.st from size_one, show (machL [a]).fin = a.fin from List.append_nil _]
theorem stepF_sz {B : Nat} (hv : ∀ i, sz (v.getD i 0) ≤ B) (hl : ∀ x, x ∈ l → x.t < n ∧ sz x.q ≤ 1) (h10 : l.length ≤ 10) : sz ((stepF n v s l).getD j 0) ≤ 10 * (B + 2) + 1 := by
 rw [stepF_get fun x hx => (hl x hx).1]
 have h1 := lsum_szA (f := inF v s j) (C := B + 1) (l := l) fun x hx => by
  unfold inF
  split
  ·have := sz_mul (v.getD x.f 0) x.q
   have := hv x.f
   have := (hl x hx).2
   omega
  ·rw [sz_zero]; omega
 have h2 := Nat.mul_le_mul_right (B + 1 + 1) h10
 omega
def fB : Nat → Nat
 | 0 => 1
 | k + 1 => 10 * (fB k + 2) + 1
theorem small_get {B : Nat} {v : List Rat} (h : Small B v) (h1 : 1 ≤ B) (i : Nat) : sz (v.getD i 0) ≤ B := by
 rw [List.getD_eq_getElem?_getD]
 cases hg : v[i]? with
 | none => show sz 0 ≤ B; rw [sz_zero]; exact h1
 | some q => exact h q (List.mem_of_getElem? hg)
theorem fwA_sz (ha : a.Ok) (hz : a.Sz 1 10) (u : List Int) : ∀ k, k ≤ u.length → ∀ j, sz ((fwA a (u.take k)).getD j 0) ≤ fB k
 | 0, _, j => by
  rw [List.take_zero]
  exact small_get hz.ini (Nat.le_refl _) j
 | k + 1, hk, j => by
  rw [fwA_snoc (by omega)]
  exact stepF_sz (fwA_sz ha hz u k (by omega)) (fun x hx => ⟨(ha.arc x hx).2.1, hz.arc x hx⟩) hz.num
theorem fB_le (hk : k ≤ 4) : fB k ≤ 33331 := by
 have : k = 0 ∨ k = 1 ∨ k = 2 ∨ k = 3 ∨ k = 4 := by omega
 rcases this with rfl | rfl | rfl | rfl | rfl <;> decide
end
def succR (k : Int) : List Int → List Int
 | [] => [1]
 | x :: r => if x < k then (x + 1) :: r else 1 :: succR k r
def succW (k : Int) (w : List Int) : List Int := (succR k w.reverse).reverse
theorem succR_all {k : Int} : ∀ {u r : List Int}, (∀ x, x ∈ u → ¬ x < k) → succR k (u ++ r) = List.replicate u.length 1 ++ succR k r
 | [], r, _ => rfl
 | x :: u, r, h => by
  rw [List.cons_append, succR, if_neg (h x (List.mem_cons_self ..)), succR_all fun y hy => h y (List.mem_cons_of_mem _ hy)]
  rfl
theorem succW_end {k : Int} {w : List Int} (h : ∀ x, x ∈ w → ¬ x < k) : succW k w = List.replicate (w.length + 1) 1 := by
 unfold succW
 have := succR_all (k := k) (u := w.reverse) (r := []) fun x hx => h x (List.mem_reverse.1 hx)
 rw [List.append_nil] at this
 rw [this, succR, List.length_reverse, ← List.replicate_succ', List.reverse_replicate]
theorem succW_at {k x : Int} {u r : List Int} (h : ∀ x, x ∈ r → ¬ x < k) (hx : x < k) : succW k (u ++ x :: r) = u ++ (x + 1) :: List.replicate r.length 1 := by
 unfold succW
 rw [List.reverse_append, List.reverse_cons, List.append_assoc, succR_all (fun y hy => h y (List.mem_reverse.1 hy)), List.length_reverse]
 show ((List.replicate r.length 1 ++ succR k (x :: u.reverse))).reverse = _
 rw [succR, if_pos hx, List.reverse_append, List.reverse_cons, List.reverse_reverse, List.reverse_replicate, List.append_assoc]
 rfl
def itW : Nat → List Int
 | 0 => []
 | k + 1 => succW 2 (itW k)
theorem itW_len : ∀ k, k < 15 → ((itW (k + 1)).length ≤ 3 ↔ k < 14) := by decide +kernel
theorem itW_small : ∀ k, k < 15 → (itW k).length ≤ 3 := by decide +kernel
theorem itW_in : ∀ k, k < 15 → InW 2 (itW k) := by
 have : ∀ k, k < 15 → ((itW k).all fun x => decide (1 ≤ x) && decide (x ≤ 2)) = true := by decide +kernel
 intro k hk x hx
 have h := List.all_eq_true.1 (this k hk) x hx
 simp only [Bool.and_eq_true, decide_eq_true_eq] at h
 exact h
theorem itW_lt : ∀ i, i < 15 → ∀ j, j < i → slx (itW j) (itW i) < 0 := by decide +kernel
theorem itW_all {w : List Int} (h : InW 2 w) (hl : w.length ≤ 3) : ∃ j, j < 15 ∧ itW j = w := by
 have two : ∀ x, x ∈ w → x = 1 ∨ x = 2 := fun x hx => by have := h x hx; omega
 match w, hl, two with
 | [], _, _ => exact ⟨0, by decide, rfl⟩
 | [x], _, t =>
  rcases t x (by simp) with rfl | rfl
  ·exact ⟨1, by decide, rfl⟩
  ·exact ⟨2, by decide, rfl⟩
 | [x, y], _, t =>
  rcases t x (by simp) with rfl | rfl <;> rcases t y (by simp) with rfl | rfl
  ·exact ⟨3, by decide, rfl⟩
  ·exact ⟨4, by decide, rfl⟩
  ·exact ⟨5, by decide, rfl⟩
  ·exact ⟨6, by decide, rfl⟩
 | [x, y, z], _, t =>
  rcases t x (by simp) with rfl | rfl <;> rcases t y (by simp) with rfl | rfl <;> rcases t z (by simp) with rfl | rfl
  ·exact ⟨7, by decide, rfl⟩
  ·exact ⟨8, by decide, rfl⟩
  ·exact ⟨9, by decide, rfl⟩
  ·exact ⟨10, by decide, rfl⟩
  ·exact ⟨11, by decide, rfl⟩
  ·exact ⟨12, by decide, rfl⟩
  ·exact ⟨13, by decide, rfl⟩
  ·exact ⟨14, by decide, rfl⟩
 | _ :: _ :: _ :: _ :: _, hl, _ => simp at hl
theorem first_word {a b : Au} (ha : a.Ok) (hb : b.Ok) (hs : a.sym = b.sym) (h2 : a.sym = 2) {w : List Int} (h : eqA a b = some w) {i : Nat} (hi : i < 15) (hl : a.st + b.st ≤ 4) (hd : serA a (itW i) ≠ serA b (itW i)) (hp : ∀ j, j < i → serA a (itW j) = serA b (itW j)) : w = itW i := by
 obtain ⟨h1, h3, h4, h5⟩ := eqA_first ha hb hs h
 rw [h2] at h1 h4
 obtain ⟨j, hj, e⟩ := itW_all h1 (by omega)
 rcases Nat.lt_trichotomy i j with g | g | g
 ·exact absurd (h4 (itW i) (itW_in i hi) (by rw [← e]; exact itW_lt j hj i g)) hd
 ·rw [g]; exact e.symm
 ·exact absurd (by rw [← e]; exact hp j g) h3
theorem some_word {a b : Au} (ha : a.Ok) (hb : b.Ok) (hs : a.sym = b.sym) (h2 : a.sym = 2) {w : List Int} (h : eqA a b = some w) (hl : a.st + b.st ≤ 4) : ∃ i, i < 15 ∧ serA a (itW i) ≠ serA b (itW i) := by
 obtain ⟨h1, h3, h4, h5⟩ := eqA_first ha hb hs h
 rw [h2] at h1
 obtain ⟨j, hj, e⟩ := itW_all h1 (by omega)
 exact ⟨j, hj, by rw [e]; exact h3⟩
end Go.AL

set_option linter.unusedVariables false
set_option linter.unusedSimpArgs false
set_option linter.unusedVariables false
set_option linter.unusedSimpArgs false
namespace Go.AL
open Go Go.BigFrame
section
variable {P : Program} {E : Env} {K : S → Prop} {s : S} {ty : Nat} {pos : String} {after : Array Edge}
theorem RO.all {M Mk : Mem} {id b n c e sz : Nat} {es : List D} {d : D} (hM : M id = some (.row b c e sz es)) (hk : Mk id = Option.none) (hn : n = es.length) (hd : d = .sl es) : RO M Mk (.osl id b n c) (.d d) := by
 subst hn hd
 have h := RO.osl (M := M) (Mk := Mk) hM hk (Nat.le_refl es.length)
 rwa [List.take_length] at h
end
end Go.AL

set_option linter.unusedVariables false
set_option linter.unusedSimpArgs false
namespace Go.Proofs.YthhnlbfiilofjaaGreatDoor
open Go Go.AL
theorem rowW_el {l : List Rat} {i : Nat} (hi : i < l.length) : (l.map dW)[i]? = some (dW (l.getD i 0)) := by rw [List.getElem?_map, List.getD_eq_getElem?_getD, List.getElem?_eq_getElem hi]; rfl
theorem r3Times {p q : Rat} (hp : sz p ≤ 68719476736) (hq : sz q ≤ 68719476736) : FSpec P F.ref03_Times [vRing, vW p, vW q] (vW (p * q)) := by
 refine FSpec.intro fn.ref03_Times (by rfl) (by rfl) (nb9 (by rfl)) fun E hE => (AW.sg hE rfl (bxA rfl rfl fun b3 => (bxA rfl rfl fun b4 => (bxA rfl rfl fun b5 => (al z.Weight rfl fun b6 => (OL.nil (AW.seq ?_)))))))
 refine AW.sg hE rfl (ldPA ag.Ring rfl rfl (vs := [_,_]) rfl (nb9 rfl) (clv rfl .rq1 (r3Valid) (nt rfl (OL.nil (AW.cond rfl (fun hno => absurd hno (by decide)) (fun _ => ?_))))))
 refine AW.skip (AW.seq (AW.dg 1 [0,1,2,3,4,5,6,7] order_free hE rfl (by kernel_rfl) (OI.of_OL (os := [_,_,_,_,_,_,_,_]) rfl ?_)))
 refine ldPA ag.Ring rfl rfl (vs := [_,_]) rfl (nb9 rfl) (ldPA ag.Weight rfl rfl (vs := [_,_,_,_,_,_,_,_]) rfl (nb9 rfl) (clv rfl (.cons (VLe.refl _) (.cons (VLe.refl _) (.nil))) (r3Take hp) (ldPA ag.Ring rfl rfl (vs := [_,_]) rfl (nb9 rfl) (ldPA ag.Weight rfl rfl (vs := [_,_,_,_,_,_,_,_]) rfl (nb9 rfl) (clv rfl (.cons (VLe.refl _) (.cons (VLe.refl _) (.nil))) (r3Take hq) (sto sz.Weight rfl rfl rfl rfl rfl (nb9 rfl) (cells2 := [_,_,_,_,_,_,_,_]) rfl (sto sz.Weight rfl rfl rfl rfl rfl (nb9 rfl) (cells2 := [_,_,_,_,_,_,_,_]) rfl ?_)))))))
 refine OL.nil (AW.seq (AW.sg hE rfl (faP fd.Ring_0 rfl rfl (ldPC ce.int rfl rfl rfl (OL.nil (AW.block (AW.seq ?_)))))))
 refine AW.sg hE rfl (c_eql rfl rfl (c := true) (by exact decide_eq_true (by omega)) (asD rfl (OL.nil (AW.cond rfl (fun _ => ?_) (fun hno => absurd hno (by decide))))))
 refine AW.skip (AW.cond rfl (fun _ => ?_) (fun hno => absurd hno (by decide)))
 refine AW.sg hE rfl (faP fd.Weight_0 rfl rfl (ldPA ag.Rat rfl rfl (vs := [_,_,_]) rfl (nb9 rfl) (faP fd.Weight_0 rfl rfl (ldPA ag.Rat rfl rfl (vs := [_,_,_]) rfl (nb9 rfl) (clv rfl (.cons (VLe.refl _) (.cons (VLe.refl _) (.nil))) (ref_MulQ (x := p) (y := q) hp hq) (bd z.Weight pl.Weight (cs := [_,_,_,_,_,_,_,_]) rfl (sto sz.Weight rfl rfl rfl rfl rfl (nb9 rfl) (cells2 := [_,_,_,_,_,_,_,_]) rfl ?_)))))))
 exact OL.nil (AW.ret (RetQ.r ⟨_, .cellA rfl rfl ag.Weight (nb9 rfl) .nil, .le vle_wq⟩))
theorem r6Weights {l : List Rat} (nl : l.length ≤ 64) (hz : ∀ x, x ∈ l → sz x ≤ 1048576) : FSpec P F.ref06_Weights [vRing, .d (dWs l), .d (dI l.length)] (.d (dB true)) := by
 refine FSpec.intro fn.ref06_Weights (by rfl) (by rfl) (nb9 (by rfl)) fun E hE => (AW.sg hE rfl (bxA rfl rfl fun b3 => (asD rfl (OL.nil (AW.seq (AW.sg hE rfl (mvD rfl ?_)))))))
 refine lnL sl.Weights rfl rfl (mvD rfl (c_neq rfl rfl (c := false) (cne_f rfl) (OL.nil (AW.cond rfl (fun hno => absurd hno (by decide)) (fun _ => ?_)))))
 refine AW.skip (AW.seq (AW.sg hE rfl (asD rfl (OL.nil (AW.block ?_)))))
 refine AW.whileK (α := Nat) [(1, _), (2, _), (3, _)] [(3, _)] (fun i => [(7, .d (dI i))]) (fun i => []) (fun i => i ≤ l.length) (fun i => l.length - i) 0 (.cons (knD rfl) (.cons (knD rfl) (.cons (knP rfl) .nil))) (.cons (owB rfl) .nil) ⟨Nat.zero_le _, .rq1, .nil⟩ ?_
 rintro i h1
 have h1 : i ≤ l.length := h1
 refine AW.seq (AW.sg hE rfl (mvD rfl (mvD rfl (c_lss rfl rfl rfl (OL.nil (AW.cond rfl (fun h14 => ?_) (fun h14 => ?_)))))))
 ·try simp only [dx9] at h14
  refine AW.skip (AW.seq (AW.block (AW.seq ?_)))
  have hx := hz (l.getD i 0) (getD_mem (by omega) 0)
  refine AW.dg 1 [0,1,2,3,4,5,6] order_free hE rfl (by kernel_rfl) (OI.of_OL (os := [_,_,_,_,_,_,_]) rfl ?_)
  refine ldPA ag.Ring rfl rfl (vs := [_,_]) rfl (nb9 rfl) (mvD rfl (mvD rfl (ixLn sl.Weights 0 rfl rfl (by omega) rfl rfl (ldRA ag.Weight rfl (vs := [_,_,_,_,_,_,_,_]) rfl (nb9 rfl) (clv rfl (.cons (VLe.refl _) (.cons (VLe.refl _) (.nil))) (r3Check (q := (l.getD i 0)) (by omega)) (nt rfl (OL.nil ?_)))))))
  refine AW.cond rfl (fun hno => absurd hno (by decide)) (fun _ => ?_)
  exact AW.skip (AW.rg hE rfl (mvD rfl (add_i64 rfl rfl (by omega) (asD rfl (OL.nil (AW.again (x := i) (i + 1) (by omega) ⟨by omega, Knows.app .rq3 .rq1, Owns.app (.cons rfl .nil) (.nil)⟩))))))
 ·try simp only [dx9] at h14
  exact AW.exit (AW.sg hE rfl (asD rfl (OL.nil (AW.ret (RetQ.r ⟨_, .tmp rfl .nil, .le (VLe.refl _)⟩)))))
set_option maxHeartbeats 3200000 in
theorem r6Valid {a : Au} (h : a.Ok) (za : a.Sz 1048576 20) (s1 : a.sym ≤ 32) (s2 : a.st ≤ 64) : FSpec P F.ref06_Valid [vAu a] (.d (dB true)) := by
 have e1 := h.ini
 have e2 := h.fin
 have e3 := za.num
 have h0 := h.sym0
 refine FSpec.intro fn.ref06_Valid (by rfl) (by rfl) (nb9 (by rfl)) fun E hE => (AW.sg hE rfl (bxA rfl rfl fun b1 => (asD rfl (OL.nil (AW.seq (AW.sg hE rfl (faP fd.Auto_0 rfl rfl ?_)))))))
 refine ldPA ag.Ring rfl rfl (vs := [_,_]) rfl (nb9 rfl) (clv rfl .rq1 (r3Valid) (nt rfl (mvD rfl (OL.yes rfl (faP fd.Auto_1 rfl rfl (OL.yes rfl (ldPC ce.int rfl rfl rfl ?_)))))))
 refine OL.yes rfl (clv rfl (.cons (VLe.refl _) (.nil)) (r5Alpha (s := a.sym) (by omega)) (OL.yes rfl (nt rfl (pkF rfl rfl (mvD rfl (OL.yes rfl (faP fd.Auto_2 rfl rfl ?_)))))))
 refine OL.yes rfl (ldPC ce.int rfl rfl rfl (OL.yes rfl (clv rfl (.cons (VLe.refl _) (.cons (VLe.refl _) (.cons (VLe.refl _) (.nil)))) (r6In (v := a.st) (lo := 0) (hi := 64) (by omega)) (OL.yes rfl (nt rfl (pkF rfl rfl (mvD rfl ?_)))))))
 refine OL.yes rfl (faP fd.Auto_0 rfl rfl (OL.yes rfl (ldPA ag.Ring rfl rfl (vs := [_,_]) rfl (nb9 rfl) (OL.yes rfl (faP fd.Auto_3 rfl rfl (OL.yes rfl (ldPC ce.Weights rfl rfl rfl ?_)))))))
 refine OL.yes rfl (faP fd.Auto_2 rfl rfl (OL.yes rfl (ldPC ce.int rfl rfl rfl (OL.yes rfl (clv rfl (.cons (VLe.refl _) (.cons (VLe.refl _) (.cons (VLe.int (by omega)) .nil))) (r6Weights (l := a.ini) (by omega) za.ini) (OL.yes rfl (nt rfl ?_)))))))
 refine pkF rfl rfl (mvD rfl (OL.yes rfl (faP fd.Auto_0 rfl rfl (OL.yes rfl (ldPA ag.Ring rfl rfl (vs := [_,_]) rfl (nb9 rfl) (OL.yes rfl (faP fd.Auto_4 rfl rfl ?_)))))))
 refine OL.yes rfl (ldPC ce.Weights rfl rfl rfl (OL.yes rfl (faP fd.Auto_2 rfl rfl (OL.yes rfl (ldPC ce.int rfl rfl rfl (OL.yes rfl (clv rfl (.cons (VLe.refl _) (.cons (VLe.refl _) (.cons (VLe.int (by omega)) .nil))) (r6Weights (l := a.fin) (by omega) za.fin) ?_)))))))
 refine OL.yes rfl (nt rfl (pkF rfl rfl (mvD rfl (OL.yes rfl (faP fd.Auto_5 rfl rfl (OL.yes rfl (ldPC ce.Arcs rfl rfl rfl ?_)))))))
 refine OL.yes rfl (lnL sl.Arcs rfl rfl (OL.yes rfl (c_gtr rfl rfl (c := false) (by exact decide_eq_false (by omega)) (pkF rfl rfl (OL.nil (AW.cond rfl (fun hno => absurd hno (by decide)) (fun _ => ?_)))))))
 refine AW.skip (AW.seq (AW.sg hE rfl (asD rfl (OL.nil (AW.block (AW.whileK (α := Nat) [(1, _)] [(1, _)] (fun i => [(3, .d (dI i))]) (fun i => []) (fun i => i ≤ a.arcs.length) (fun i => a.arcs.length - i) 0 (.cons (knP rfl) .nil) (.cons (owB rfl) .nil) ⟨Nat.zero_le _, .rq1, .nil⟩ ?_))))))
 rintro i h1
 have h1 : i ≤ a.arcs.length := h1
 refine AW.seq (AW.sg hE rfl (mvD rfl (faP fd.Auto_5 rfl rfl (ldPC ce.Arcs rfl rfl rfl (lnL sl.Arcs rfl rfl (c_lss rfl rfl rfl (OL.nil ?_)))))))
 refine AW.cond rfl (fun h51 => ?_) (fun h51 => ?_)
 ·try simp only [dx9] at h51
  refine AW.skip (AW.seq (AW.block (AW.seq ?_)))
  have hm := getD_mem (l := a.arcs) (i := i) (by omega) default
  have hx := za.arc (a.arcs.getD i default) hm
  obtain ⟨hx1, hx2, hx3, hx4⟩ := h.arc (a.arcs.getD i default) hm
  refine AW.rg hE rfl (faP fd.Auto_5 rfl rfl (ldPC ce.Arcs rfl rfl rfl (mvD rfl (ixLn sl.Arcs default rfl rfl (by omega) rfl rfl (ldRA ag.Arc rfl (vs := [_,_,_,_,_,_,_,_,_,_,_]) rfl (nb9 rfl) (al z.Arc rfl fun b4 => (sto sz.Arc rfl rfl rfl rfl rfl (nb9 rfl) (cells2 := [_,_,_,_,_,_,_,_,_,_,_]) rfl ?_)))))))
  refine OL.nil (AW.sg hE rfl (faP fd.Arc_0 rfl rfl (ldPC ce.int rfl rfl rfl (faP fd.Auto_2 rfl rfl (ldPC ce.int rfl rfl rfl (bo rfl rfl (bin_sub (c := (a.st : Int) - 1) (by omega) (wrap_i64 (by omega))) (clv rfl (.cons (VLe.refl _) (.cons (VLe.refl _) (.cons (VLe.refl _) (.nil)))) (r6In (v := (a.arcs.getD i default).f) (lo := 0) (hi := (a.st : Int) - 1) (by omega)) ?_)))))))
  refine nt rfl (mvD rfl (OL.yes rfl (faP fd.Arc_2 rfl rfl (OL.yes rfl (ldPC ce.int rfl rfl rfl (OL.yes rfl (faP fd.Auto_2 rfl rfl ?_)))))))
  refine OL.yes rfl (ldPC ce.int rfl rfl rfl (OL.yes rfl (bo rfl rfl (bin_sub (c := (a.st : Int) - 1) (by omega) (wrap_i64 (by omega))) (OL.yes rfl (clv rfl (.cons (VLe.refl _) (.cons (VLe.refl _) (.cons (VLe.refl _) (.nil)))) (r6In (v := (a.arcs.getD i default).t) (lo := 0) (hi := (a.st : Int) - 1) (by omega)) (OL.yes rfl (nt rfl ?_)))))))
  refine pkF rfl rfl (mvD rfl (OL.yes rfl (faP fd.Arc_1 rfl rfl (OL.yes rfl (ldPC ce.int rfl rfl rfl (OL.yes rfl (faP fd.Auto_1 rfl rfl ?_)))))))
  refine OL.yes rfl (ldPC ce.int rfl rfl rfl (OL.yes rfl (clv rfl (.cons (VLe.refl _) (.cons (VLe.refl _) (.cons (VLe.refl _) (.nil)))) (r6In (v := (a.arcs.getD i default).l) (lo := 0) (hi := a.sym) (by omega)) (OL.yes rfl (nt rfl (pkF rfl rfl (mvD rfl ?_)))))))
  refine OL.yes rfl (faP fd.Auto_0 rfl rfl (OL.yes rfl (ldPA ag.Ring rfl rfl (vs := [_,_]) rfl (nb9 rfl) (OL.yes rfl (faP fd.Arc_3 rfl rfl (OL.yes rfl (ldPA ag.Weight rfl rfl (vs := [_,_,_,_,_,_,_,_]) rfl (nb9 rfl) ?_)))))))
  refine OL.yes rfl (clv rfl (.cons (VLe.refl _) (.cons (VLe.refl _) (.nil))) (r3Check (q := (a.arcs.getD i default).q) (by omega)) (OL.yes rfl (nt rfl (pkF rfl rfl (OL.nil (AW.cond rfl (fun hno => absurd hno (by decide)) (fun _ => ?_)))))))
  exact AW.skip (AW.rg hE rfl (mvD rfl (add_i64 rfl rfl (by omega) (asD rfl (OL.nil (AW.again (x := i) (i + 1) (by omega) ⟨by omega, Knows.app .rq1 .rq1, Owns.app (.cons rfl .nil) (.nil)⟩))))))
 ·try simp only [dx9] at h51
  exact AW.exit (AW.sg hE rfl (asD rfl (OL.nil (AW.ret (RetQ.r ⟨_, .tmp rfl .nil, .le (VLe.refl _)⟩)))))
end Go.Proofs.YthhnlbfiilofjaaGreatDoor

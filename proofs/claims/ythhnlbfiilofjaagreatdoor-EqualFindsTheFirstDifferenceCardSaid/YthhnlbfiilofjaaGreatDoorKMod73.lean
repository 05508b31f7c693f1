/-
  M, chapters 23 and 24: automata over the rational numbers, their machines, differences.
-/
import Derived.Test.YthhnlbfiilofjaaGreatDoorKMod71
import Derived.Test.YthhnlbfiilofjaaGreatDoorKMod37c
set_option linter.unusedVariables false
set_option linter.unusedSimpArgs false
namespace Go.AL
open Go Go.BigFrame
def firstP (w : List Rat) : Nat := w.findIdx fun x => decide (x ≠ 0)
def addC (t : List Rat) (f : Rat) (c : List Rat) : List Rat := (List.range t.length).map fun i => t.getD i 0 + f * c.getD i 0
def redC : List SRow → List Rat → List Rat → List Rat
 | [], _, t => t
 | r :: rs, w, t => redC rs (redStep w r) (addC t (qotR w r) r.c)
def takenS (rs : List SRow) (w : List Rat) : List Rat := redC rs w (List.replicate rs.length 0)
def byS (rs : List SRow) (w : List Rat) : List Rat := (takenS rs w).map (fun x => -x) ++ [1]
def newR (rs : List SRow) (w : List Rat) : SRow := ⟨redV rs w, byS rs w, firstP (redV rs w)⟩
def growsS (rs : List SRow) (w : List Rat) : Bool := decide (firstP (redV rs w) < (redV rs w).length)
def addS (rs : List SRow) (w : List Rat) : List SRow := if growsS rs w = true then rs ++ [newR rs w] else rs
section
variable {n : Nat} {rs : List SRow} {w : List Rat}
theorem firstP_le (w : List Rat) : firstP w ≤ w.length := List.findIdx_le_length
theorem firstP_nz (h : firstP w < w.length) : w.getD (firstP w) 0 ≠ 0 := by
 have := List.findIdx_getElem (w := h)
 rw [List.getD_eq_getElem?_getD, List.getElem?_eq_getElem h, Option.getD_some]
 exact of_decide_eq_true this
theorem firstP_before {i : Nat} (h : i < firstP w) : w.getD i 0 = 0 := by
 have hl := Nat.lt_of_lt_of_le h (firstP_le w)
 have := List.not_of_lt_findIdx h
 rw [List.getD_eq_getElem?_getD, List.getElem?_eq_getElem hl, Option.getD_some]
 simpa using this
theorem firstP_all : firstP w = w.length ↔ allZ w := by
 constructor
 ·intro h i hi
  exact firstP_before (by omega)
 ·intro h
  have := firstP_le w
  rcases Nat.lt_or_ge (firstP w) w.length with h1 | h1
  ·exact absurd (h _ h1) (firstP_nz h1)
  ·omega
theorem grows_iff (e : Ech n rs) (hw : w.length = n) : growsS rs w = false ↔ SpanV n (rowsS rs) (vf w) := by
 rw [← red_iff e hw, ← firstP_all]
 have := firstP_le (redV rs w)
 unfold growsS
 rw [decide_eq_false_iff_not]
 omega
theorem addC_len (t : List Rat) (f : Rat) (c : List Rat) : (addC t f c).length = t.length := by simp [addC]
theorem redC_len : ∀ (rs : List SRow) (w t : List Rat), (redC rs w t).length = t.length
 | [], _, _ => rfl
 | r :: rs, w, t => by rw [redC, redC_len rs, addC_len]
theorem takenS_len (rs : List SRow) (w : List Rat) : (takenS rs w).length = rs.length := by rw [takenS, redC_len, List.length_replicate]
theorem byS_len (rs : List SRow) (w : List Rat) : (byS rs w).length = rs.length + 1 := by rw [byS, List.length_append, List.length_map, takenS_len]; rfl
end
structure Join (m : Mach) (V K Q : List (List Int)) (rs : List SRow) : Prop where
 bfs : BFS m V K Q
 ech : Ech m.n rs
 len : rs.length = K.length
 rows : ∀ r, r ∈ rs → SpanV m.n (vecs m K) (vf r.v)
 kept : ∀ u, u ∈ K → SpanV m.n (rowsS rs) (vf (vecM m u))
section
variable {m : Mach} {V K Q : List (List Int)} {rs : List SRow} {w : List Int}
theorem Join.start (m : Mach) : Join m [] [] [[]] [] :=
 ⟨BFS.start m, ⟨fun _ h => (by cases h), List.Pairwise.nil⟩, rfl, fun _ h => (by cases h), fun _ h => (by cases h)⟩
theorem Join.drop (ok : m.Ok) (j : Join m V K (w :: Q) rs) (h : growsS rs (vecM m w) = false) : Join m (V ++ [w]) K Q rs :=
 ⟨j.bfs.drop (((grows_iff j.ech (vecM_len ok w)).1 h).trans fun b hb => by
  obtain ⟨r, hr, rfl⟩ := List.mem_map.1 hb
  exact j.rows r hr), j.ech, j.len, j.rows, j.kept⟩
theorem rowsS_app (rs : List SRow) (r : SRow) : rowsS (rs ++ [r]) = rowsS rs ++ [r.v] := by simp [rowsS]
theorem Join.keep (ok : m.Ok) (j : Join m V K (w :: Q) rs) (h : growsS rs (vecM m w) = true) : Join m (V ++ [w]) (K ++ [w]) (Q ++ kidsW m.k w) (rs ++ [newR rs (vecM m w)]) := by
 have hl := vecM_len ok w
 have hp : firstP (redV rs (vecM m w)) < (redV rs (vecM m w)).length := of_decide_eq_true h
 have hs := redV_span rs (vecM m w)
 rw [hl] at hs
 refine ⟨j.bfs.keep, j.ech.grow hl _ (by rw [redV_len, hl] at hp; exact hp) (firstP_nz hp), ?_, fun r hr => ?_, fun u hu => ?_⟩
 ·rw [List.length_append, List.length_append, j.len]; rfl
 ·rcases List.mem_append.1 hr with hr | hr
  ·exact (j.rows r hr).mono fun b hb => by
    obtain ⟨u, hu, rfl⟩ := List.mem_map.1 hb
    exact List.mem_map.2 ⟨u, List.mem_append.2 (.inl hu), rfl⟩
  ·rw [List.mem_singleton.1 hr]
   have h1 : SpanV m.n (vecs m (K ++ [w])) (vf (vecM m w)) := .mem (List.mem_map.2 ⟨w, List.mem_append.2 (.inr (List.mem_singleton.2 rfl)), rfl⟩)
   have h2 := (hs.trans fun b hb => by
    obtain ⟨r, hr, rfl⟩ := List.mem_map.1 hb
    exact (j.rows r hr).mono fun b hb => by
     obtain ⟨u, hu, rfl⟩ := List.mem_map.1 hb
     exact List.mem_map.2 ⟨u, List.mem_append.2 (.inl hu), rfl⟩ : SpanV m.n (vecs m (K ++ [w])) _)
   refine (h1.plus (h2.smul (-1))).congr fun i _ => ?_
   show (redV rs (vecM m w)).getD i 0 = (vecM m w).getD i 0 + -1 * ((vecM m w).getD i 0 - (redV rs (vecM m w)).getD i 0)
   rw [Rat.neg_mul, Rat.one_mul, Rat.neg_sub, Rat.sub_eq_add_neg, Rat.add_comm ((vecM m w).getD i 0), Rat.add_assoc, Rat.neg_add_cancel, Rat.add_zero]
 ·rw [rowsS_app]
  rcases List.mem_append.1 hu with hu | hu
  ·exact (j.kept u hu).mono fun b hb => List.mem_append.2 (.inl hb)
  ·rw [List.mem_singleton.1 hu]
   have h1 := hs.mono (C := rowsS rs ++ [redV rs (vecM m w)]) fun b hb => List.mem_append.2 (.inl hb)
   have h2 : SpanV m.n (rowsS rs ++ [redV rs (vecM m w)]) (vf (redV rs (vecM m w))) := .mem (List.mem_append.2 (.inr (List.mem_singleton.2 rfl)))
   refine (h1.plus h2).congr fun i _ => ?_
   show (vecM m w).getD i 0 = (vecM m w).getD i 0 - (redV rs (vecM m w)).getD i 0 + (redV rs (vecM m w)).getD i 0
   rw [Rat.sub_add_cancel]
theorem Join.le (j : Join m V K Q rs) : rs.length ≤ m.n := j.ech.len
def leftM (m : Mach) (Q : List (List Int)) (rs : List SRow) : Nat := Q.length + (m.k + 1) * (m.n - rs.length)
theorem left_keep (ok : m.Ok) (j : Join m V K (w :: Q) rs) (h : growsS rs (vecM m w) = true) : leftM m (Q ++ kidsW m.k w) (rs ++ [newR rs (vecM m w)]) < leftM m (w :: Q) rs := by
 have h1 := (j.keep ok h).le
 rw [List.length_append, List.length_singleton] at h1
 unfold leftM
 rw [show (Q ++ kidsW m.k w).length = Q.length + (kidsW m.k w).length from List.length_append, show (rs ++ [newR rs (vecM m w)]).length = rs.length + 1 by simp, show (w :: Q).length = Q.length + 1 from rfl, show (kidsW m.k w).length = m.k by simp [kidsW]]
 obtain ⟨d, hd⟩ : ∃ d, m.n - rs.length = d + 1 := ⟨m.n - rs.length - 1, by omega⟩
 rw [hd, show m.n - (rs.length + 1) = d by omega, Nat.mul_succ]
 omega
theorem left_drop : leftM m Q rs < leftM m (w :: Q) rs := by
 unfold leftM
 rw [List.length_cons]; omega
end
end Go.AL

set_option linter.unusedVariables false
set_option linter.unusedSimpArgs false
namespace Go.AL
open Go Go.BigFrame
structure Arc9 where
 f : Nat
 l : Nat
 t : Nat
 q : Rat
instance : Inhabited Arc9 := ⟨⟨0, 0, 0, 0⟩⟩
structure Au where
 sym : Nat
 st : Nat
 ini : List Rat
 fin : List Rat
 arcs : List Arc9
instance : Inhabited Au := ⟨⟨0, 0, [], [], []⟩⟩
structure Au.Ok (a : Au) : Prop where
 sym0 : 1 ≤ a.sym
 ini : a.ini.length = a.st
 fin : a.fin.length = a.st
 arc : ∀ x, x ∈ a.arcs → x.f < a.st ∧ x.t < a.st ∧ 1 ≤ x.l ∧ x.l ≤ a.sym
def entA (l : List Arc9) (s i j : Nat) : Rat := lsum (fun x => if x.f = i ∧ x.l = s + 1 ∧ x.t = j then x.q else 0) l
def sizeL (l : List Au) : Nat := (l.map (·.st)).sum
def entL : List Au → Nat → Nat → Nat → Rat
 | [], _, _, _ => 0
 | a :: r, s, i, j => if i < a.st then (if j < a.st then entA a.arcs s i j else 0) else (if j < a.st then 0 else entL r s (i - a.st) (j - a.st))
def mtx (n : Nat) (f : Nat → Nat → Rat) : List (List Rat) := (List.range n).map fun i => (List.range n).map fun j => f i j
def finL : List Au → List Rat
 | [] => []
 | a :: r => a.fin ++ r.flatMap fun b => b.fin.map fun x => -x
def machL (l : List Au) : Mach := ⟨sizeL l, l.flatMap (·.ini), finL l, (List.range (l.getD 0 default).sym).map fun s => mtx (sizeL l) (entL l s)⟩
section
variable {a b : Au} {l : List Au} {s i j n : Nat}
theorem mtx_get {f : Nat → Nat → Rat} (hi : i < n) (hj : j < n) : ((mtx n f).getD i []).getD j 0 = f i j := by
 unfold mtx
 rw [map_getD_range _ _ hi, map_getD_range _ _ hj]
theorem machL_k : (machL l).k = (l.getD 0 default).sym := by simp [Mach.k, machL]
theorem machL_ent (hs : s < (l.getD 0 default).sym) (hi : i < sizeL l) (hj : j < sizeL l) : entM (machL l) s i j = entL l s i j := by
 unfold entM machL
 rw [map_getD_range _ _ hs, mtx_get hi hj]
theorem size_one : sizeL [a] = a.st := by simp [sizeL]
theorem size_two : sizeL [a, b] = a.st + b.st := by simp [sizeL]
theorem mach_ok1 (ha : a.Ok) : (machL [a]).Ok := ⟨by simp [machL, sizeL, ha.ini], by simp [machL, finL, sizeL, ha.fin]⟩
theorem mach_ok2 (ha : a.Ok) (hb : b.Ok) : (machL [a, b]).Ok := ⟨by simp [machL, sizeL, ha.ini, hb.ini], by simp [machL, finL, sizeL, ha.fin, hb.fin]⟩
theorem sumN_app (f : Nat → Rat) (n : Nat) : ∀ m, sumN f (n + m) = sumN f n + sumN (fun i => f (n + i)) m
 | 0 => by rw [Nat.add_zero, sumN, Rat.add_zero]
 | m + 1 => by rw [← Nat.add_assoc, sumN, sumN_app f n m, sumN, Rat.add_assoc]
theorem vec_two (ha : a.Ok) (hb : b.Ok) (hs : a.sym = b.sym) (w : List Int) (hw : InW a.sym w) :
  (∀ i, i < a.st → (vecM (machL [a, b]) w).getD i 0 = (vecM (machL [a]) w).getD i 0) ∧ ∀ i, i < b.st → (vecM (machL [a, b]) w).getD (a.st + i) 0 = (vecM (machL [b]) w).getD i 0 := by
 induction hn : w.length generalizing w with
 | zero =>
  have e := List.eq_nil_of_length_eq_zero hn
  subst e
  constructor
  ·intro i hi
   show (a.ini ++ (b.ini ++ [])).getD i 0 = (a.ini ++ []).getD i 0
   rw [List.append_nil, List.append_nil, List.getD_eq_getElem?_getD, List.getElem?_append_left (by rw [ha.ini]; exact hi), ← List.getD_eq_getElem?_getD]
  ·intro i hi
   show (a.ini ++ (b.ini ++ [])).getD (a.st + i) 0 = (b.ini ++ []).getD i 0
   rw [List.append_nil, List.getD_eq_getElem?_getD, List.getElem?_append_right (by rw [ha.ini]; omega), ha.ini, Nat.add_sub_cancel_left, ← List.getD_eq_getElem?_getD]
 | succ n ih =>
  have hne : w ≠ [] := fun e => by subst e; cases hn
  obtain ⟨y, x, rfl⟩ : ∃ y x, w = y ++ [x] := ⟨w.dropLast, w.getLast hne, (List.dropLast_concat_getLast hne).symm⟩
  have hx := hw x (by simp)
  obtain ⟨h1, h2⟩ := ih y (fun z hz => hw z (List.mem_append.2 (.inl hz))) (by rw [List.length_append, List.length_singleton] at hn; omega)
  have hsa : x.toNat - 1 < a.sym := by omega
  have e1 : ∀ i j, i < a.st + b.st → j < a.st + b.st → entM (machL [a, b]) (x.toNat - 1) i j = entL [a, b] (x.toNat - 1) i j := fun i j hi hj => machL_ent (l := [a, b]) hsa (by rw [size_two]; exact hi) (by rw [size_two]; exact hj)
  have e2 : ∀ i j, i < a.st → j < a.st → entM (machL [a]) (x.toNat - 1) i j = entL [a] (x.toNat - 1) i j := fun i j hi hj => machL_ent (l := [a]) hsa (by rw [size_one]; exact hi) (by rw [size_one]; exact hj)
  have e3 : ∀ i j, i < b.st → j < b.st → entM (machL [b]) (x.toNat - 1) i j = entL [b] (x.toNat - 1) i j := fun i j hi hj => machL_ent (l := [b]) (by show _ < b.sym; omega) (by rw [size_one]; exact hi) (by rw [size_one]; exact hj)
  constructor
  ·intro i hi
   rw [vecM_snoc, vecM_snoc, stepM_vf (by show i < sizeL [a, b]; rw [size_two]; omega), stepM_vf (by show i < sizeL [a]; rw [size_one]; exact hi), show (machL [a, b]).n = a.st + b.st from size_two, show (machL [a]).n = a.st from size_one, sumN_app, sumN_zero (n := b.st), Rat.add_zero]
   ·refine sumN_congr fun k hk => ?_
    rw [h1 k hk, e1 k i (by omega) (by omega), e2 k i hk hi]
    simp only [entL, if_pos hk, if_pos hi]
   ·intro k hk
    rw [e1 _ i (by omega) (by omega)]
    simp only [entL, if_neg (show ¬ a.st + k < a.st by omega), if_pos hi, Rat.mul_zero]
  ·intro i hi
   rw [vecM_snoc, vecM_snoc, stepM_vf (by show a.st + i < sizeL [a, b]; rw [size_two]; omega), stepM_vf (by show i < sizeL [b]; rw [size_one]; exact hi), show (machL [a, b]).n = a.st + b.st from size_two, show (machL [b]).n = b.st from size_one, sumN_app, sumN_zero (n := a.st), Rat.zero_add]
   ·refine sumN_congr fun k hk => ?_
    rw [h2 k hk, e1 _ _ (by omega) (by omega), e3 k i hk hi]
    simp only [entL, if_neg (show ¬ a.st + k < a.st by omega), if_neg (show ¬ a.st + i < a.st by omega), if_pos hk, if_pos hi, Nat.add_sub_cancel_left]
   ·intro k hk
    rw [e1 _ _ (by omega) (by omega)]
    simp only [entL, if_pos hk, if_neg (show ¬ a.st + i < a.st by omega), Rat.mul_zero]
def serA (a : Au) (w : List Int) : Rat := wtM (machL [a]) w
theorem ser_two (ha : a.Ok) (hb : b.Ok) (hs : a.sym = b.sym) {w : List Int} (hw : InW a.sym w) : wtM (machL [a, b]) w = serA a w - serA b w := by
 obtain ⟨h1, h2⟩ := vec_two ha hb hs w hw
 unfold serA wtM dotM
 rw [show (machL [a, b]).n = a.st + b.st from size_two, show (machL [a]).n = a.st from size_one, show (machL [b]).n = b.st from size_one, sumN_app, Rat.sub_eq_add_neg]
 have f1 : ∀ i, i < a.st → vf (machL [a, b]).fin i = vf (machL [a]).fin i := fun i hi => by
  show (a.fin ++ _).getD i 0 = (a.fin ++ []).getD i 0
  rw [List.append_nil, List.getD_eq_getElem?_getD, List.getElem?_append_left (by rw [ha.fin]; exact hi), ← List.getD_eq_getElem?_getD]
 have f2 : ∀ i, i < b.st → vf (machL [a, b]).fin (a.st + i) = -(vf (machL [b]).fin i) := fun i hi => by
  show (a.fin ++ (b.fin.map (fun x => -x) ++ [])).getD (a.st + i) 0 = -((b.fin ++ []).getD i 0)
  rw [List.append_nil, List.append_nil, List.getD_eq_getElem?_getD, List.getElem?_append_right (by rw [ha.fin]; omega), ha.fin, Nat.add_sub_cancel_left, List.getElem?_map, List.getD_eq_getElem?_getD, List.getElem?_eq_getElem (by rw [hb.fin]; exact hi)]
  rfl
 congr 1
 ·exact sumN_congr fun i hi => by rw [show vf (vecM (machL [a, b]) w) i = vf (vecM (machL [a]) w) i from h1 i hi, f1 i hi]
 ·rw [show -sumN (fun i => vf (vecM (machL [b]) w) i * vf (machL [b]).fin i) b.st = sumN (fun i => -1 * (vf (vecM (machL [b]) w) i * vf (machL [b]).fin i)) b.st by rw [sumN_mulL, Rat.neg_mul, Rat.one_mul]]
  refine sumN_congr fun i hi => ?_
  rw [show vf (vecM (machL [a, b]) w) (a.st + i) = vf (vecM (machL [b]) w) i from h2 i hi, f2 i hi, Rat.mul_neg, Rat.neg_mul, Rat.one_mul]
end
end Go.AL

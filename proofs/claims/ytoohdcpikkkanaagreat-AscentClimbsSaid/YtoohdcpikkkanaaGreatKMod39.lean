/-
  M, chapter 39: sorting by insertion; rounding to a grid by the largest remainders.
-/
import Derived.Test.YtoohdcpikkkanaaGreatKNumb
set_option linter.unusedVariables false
set_option linter.unusedSimpArgs false
namespace Go.AL
open Go Go.BigFrame
def swapF (o : List Nat) (j : Nat) : List Nat := (o.set (j + 1) (o.getD j 0)).set j (o.getD (j + 1) 0)
def sinkF (c : Nat → Nat → Bool) : Nat → List Nat → List Nat
 | 0, o => o
 | j + 1, o => if c (o.getD (j + 1) 0) (o.getD j 0) then sinkF c j (swapF o j) else o
def sortF (c : Nat → Nat → Bool) : Nat → List Nat → List Nat
 | 0, o => o
 | k + 1, o => sinkF c (k + 1) (sortF c k o)
theorem swapF_len (o : List Nat) (j : Nat) : (swapF o j).length = o.length := by simp [swapF]
theorem sinkF_len (c : Nat → Nat → Bool) : ∀ (j : Nat) (o : List Nat), (sinkF c j o).length = o.length
 | 0, o => rfl
 | j + 1, o => by
  rw [sinkF]
  split
  ·rw [sinkF_len c j, swapF_len]
  ·rfl
theorem sortF_len (c : Nat → Nat → Bool) : ∀ (k : Nat) (o : List Nat), (sortF c k o).length = o.length
 | 0, o => rfl
 | k + 1, o => by rw [sortF, sinkF_len, sortF_len c k]
theorem getD_set {o : List Nat} {i j x : Nat} (h : i < o.length) : (o.set i x).getD j 0 = if i = j then x else o.getD j 0 := by
 by_cases e : i = j
 ·subst e; rw [if_pos rfl, getD_set_self h]
 ·rw [if_neg e, Go.AL.getD_set_ne e]
theorem swapF_perm : ∀ {o : List Nat} {j : Nat}, j + 1 < o.length → (swapF o j).Perm o
 | [], j, h => by simp at h
 | [a], j, h => by simp at h
 | a :: b :: r, 0, h => by
  show (b :: a :: r).Perm _
  exact List.Perm.swap ..
 | a :: b :: r, j + 1, h => by
  have e : swapF (a :: b :: r) (j + 1) = a :: swapF (b :: r) j := by simp [swapF]
  rw [e]
  exact List.Perm.cons a (swapF_perm (by simpa using h))
theorem sinkF_perm (c : Nat → Nat → Bool) : ∀ {j : Nat} {o : List Nat}, j < o.length → (sinkF c j o).Perm o
 | 0, o, _ => .refl _
 | j + 1, o, h => by
  rw [sinkF]
  split
  ·exact (sinkF_perm c (by rw [swapF_len]; omega)).trans (swapF_perm h)
  ·exact .refl _
theorem sortF_perm (c : Nat → Nat → Bool) : ∀ {k : Nat} {o : List Nat}, k < o.length → (sortF c k o).Perm o
 | 0, o, _ => .refl _
 | k + 1, o, h => by
  rw [sortF]
  exact (sinkF_perm c (by rw [sortF_len]; exact h)).trans (sortF_perm c (by omega))
def bumpF (u : List Nat) (ks : List Nat) : List Nat := ks.foldl (fun u i => u.set i (u.getD i 0 + 1)) u
theorem bumpF_snoc (u ks : List Nat) (i : Nat) : bumpF u (ks ++ [i]) = (bumpF u ks).set i ((bumpF u ks).getD i 0 + 1) := by unfold bumpF; rw [List.foldl_append]; rfl
theorem bumpF_len : ∀ (ks u : List Nat), (bumpF u ks).length = u.length
 | [], u => rfl
 | k :: ks, u => by show (bumpF (u.set k (u.getD k 0 + 1)) ks).length = _; rw [bumpF_len ks]; simp
theorem sum_set {u : List Nat} : ∀ {k : Nat}, k < u.length → ∀ x, (u.set k x).sum + u.getD k 0 = u.sum + x := by
 induction u with
 | nil => intro k h; simp at h
 | cons a r ih =>
  intro k h x
  cases k with
  | zero => simp; omega
  | succ k => have := ih (k := k) (by simpa using h) x; simp at this ⊢; omega
theorem bumpF_sum : ∀ (ks : List Nat) {u : List Nat}, (∀ k, k ∈ ks → k < u.length) → (bumpF u ks).sum = u.sum + ks.length
 | [], u, _ => rfl
 | k :: ks, u, h => by
  have hk := h k (List.mem_cons_self ..)
  have := sum_set hk (u.getD k 0 + 1)
  show (bumpF (u.set k (u.getD k 0 + 1)) ks).sum = _
  rw [bumpF_sum ks (fun j hj => by rw [List.length_set]; exact h j (List.mem_cons_of_mem _ hj)), List.length_cons]
  omega
def flN (q : Rat) : Nat := q.num.natAbs / q.den
theorem flN_floor {q : Rat} (h : 0 ≤ q) : q.floor = (flN q : Int) := by
 have h1 : 0 ≤ q.num := Rat.num_nonneg.2 h
 rw [Rat.floor_def, flN, Int.natCast_ediv]
 congr 1
 omega
theorem flN_le {q : Rat} (h : 0 ≤ q) : (flN q : Rat) ≤ q := by
 have := Rat.floor_le q
 rwa [flN_floor h] at this
theorem lt_flN {q : Rat} (h : 0 ≤ q) : q < (flN q : Rat) + 1 := by
 have := Rat.lt_floor_add_one q
 rw [flN_floor h, Rat.intCast_add] at this
 exact this
theorem sumQ_le {c : Rat} : ∀ {l : List Rat}, (∀ x, x ∈ l → x ≤ c) → sumQ l ≤ c * (l.length : Rat)
 | [], _ => by rw [sumQ_nil]; simp
 | x :: l, h => by
  have h1 := sumQ_le fun y hy => h y (List.mem_cons_of_mem _ hy)
  have h2 := h x (List.mem_cons_self ..)
  rw [sumQ_cons, List.length_cons, Rat.natCast_add]
  grind
theorem sumQ_nonneg {l : List Rat} (h : ∀ x, x ∈ l → 0 ≤ x) : 0 ≤ sumQ l := by
 induction l with
 | nil => rw [sumQ_nil]; exact Rat.le_refl
 | cons x l ih =>
  have h1 := ih fun y hy => h y (List.mem_cons_of_mem _ hy)
  have h2 := h x (List.mem_cons_self ..)
  rw [sumQ_cons]
  grind
theorem sumQ_mulr (l : List Rat) (c : Rat) : sumQ (l.map fun x => x * c) = sumQ l * c := by
 induction l with
 | nil => rw [List.map_nil, sumQ_nil, Rat.zero_mul]
 | cons x l ih => rw [List.map_cons, sumQ_cons, sumQ_cons, ih, Rat.add_mul]
theorem sumQ_nat (l : List Nat) (g : Rat) : sumQ (l.map fun n : Nat => (n : Rat) / g) = (l.sum : Rat) / g := by
 induction l with
 | nil => rw [List.map_nil, sumQ_nil]; show (0 : Rat) = ((0 : Nat) : Rat) / g; rw [Rat.div_def]; exact (Rat.zero_mul _).symm
 | cons x l ih => rw [List.map_cons, sumQ_cons, ih, List.sum_cons, Rat.natCast_add, Rat.div_def, Rat.div_def, Rat.div_def, Rat.add_mul]
def unF (l : List Rat) (g : Nat) : List Nat := l.map fun p => flN (p * (g : Rat))
def loF (l : List Rat) (g : Nat) : List Rat := l.map fun p => p * (g : Rat) - (flN (p * (g : Rat)) : Rat)
def befR (lo : List Rat) (i j : Nat) : Bool := decide (lo.getD j 0 < lo.getD i 0 ∨ (lo.getD i 0 = lo.getD j 0 ∧ i < j))
def orF (l : List Rat) (g : Nat) : List Nat := sortF (befR (loF l g)) (l.length - 1) (List.range l.length)
def miF (l : List Rat) (g : Nat) : Nat := g - (unF l g).sum
def upF (l : List Rat) (g : Nat) : List Nat := bumpF (unF l g) ((orF l g).take (miF l g))
def roundF (l : List Rat) (g : Nat) : List Rat := (upF l g).map fun n : Nat => (n : Rat) / (g : Rat)
theorem unF_len (l : List Rat) (g : Nat) : (unF l g).length = l.length := by simp [unF]
theorem loF_len (l : List Rat) (g : Nat) : (loF l g).length = l.length := by simp [loF]
theorem orF_len (l : List Rat) (g : Nat) : (orF l g).length = l.length := by rw [orF, sortF_len, List.length_range]
theorem upF_len (l : List Rat) (g : Nat) : (upF l g).length = l.length := by rw [upF, bumpF_len, unF_len]
theorem roundF_len (l : List Rat) (g : Nat) : (roundF l g).length = l.length := by rw [roundF, List.length_map, upF_len]
theorem mul_grid {p : Rat} (g : Nat) (h : 0 ≤ p) : 0 ≤ p * (g : Rat) := Rat.mul_nonneg h Rat.natCast_nonneg
theorem lo_sum (l : List Rat) (g : Nat) : sumQ (loF l g) + ((unF l g).sum : Rat) = sumQ l * (g : Rat) := by
 induction l with
 | nil => show sumQ [] + ((0 : Nat) : Rat) = sumQ [] * _; rw [sumQ_nil, Rat.zero_mul]; exact Rat.add_zero 0
 | cons x l ih =>
  show sumQ ((x * (g : Rat) - (flN (x * (g : Rat)) : Rat)) :: loF l g) + ((flN (x * (g : Rat)) :: unF l g).sum : Rat) = _
  rw [sumQ_cons, sumQ_cons, List.sum_cons, Rat.natCast_add]
  grind
theorem lo_range {l : List Rat} (hS : Shares l) (g : Nat) : ∀ x, x ∈ loF l g → 0 ≤ x ∧ x < 1 := fun x hx => by
 obtain ⟨p, hp, rfl⟩ := List.mem_map.1 hx
 have h0 := mul_grid g (hS p hp).1
 have h1 := flN_le h0
 have h2 := lt_flN h0
 constructor <;> grind
theorem un_le {l : List Rat} {g : Nat} (hS : Shares l) (h1 : sumQ l = 1) : (unF l g).sum ≤ g := by
 have e := lo_sum l g
 have h0 := sumQ_nonneg fun x hx => (lo_range hS g x hx).1
 rw [h1, Rat.one_mul] at e
 refine Rat.natCast_le_natCast.1 ?_
 grind
theorem mi_sum {l : List Rat} {g : Nat} (hS : Shares l) (h1 : sumQ l = 1) : sumQ (loF l g) = (miF l g : Rat) := by
 have e := lo_sum l g
 have hle := un_le (g := g) hS h1
 have hg : ((miF l g + (unF l g).sum : Nat) : Rat) = (g : Rat) := congrArg _ (by unfold miF; omega)
 rw [Rat.natCast_add] at hg
 rw [h1, Rat.one_mul] at e
 grind
theorem mi_le {l : List Rat} {g : Nat} (hS : Shares l) (h1 : sumQ l = 1) : miF l g ≤ l.length := by
 have h2 := sumQ_le (c := 1) fun x hx => Rat.le_of_lt (lo_range hS g x hx).2
 rw [mi_sum hS h1, loF_len, Rat.one_mul] at h2
 exact Rat.natCast_le_natCast.1 h2
theorem or_perm {l : List Rat} (g : Nat) (hl : 1 ≤ l.length) : (orF l g).Perm (List.range l.length) := sortF_perm _ (by rw [List.length_range]; omega)
theorem or_lt {l : List Rat} (g : Nat) (hl : 1 ≤ l.length) {k : Nat} (hk : k ∈ orF l g) : k < l.length := List.mem_range.1 ((or_perm g hl).mem_iff.1 hk)
theorem up_sum {l : List Rat} {g : Nat} (hl : 1 ≤ l.length) (hS : Shares l) (h1 : sumQ l = 1) : (upF l g).sum = g := by
 have h2 := un_le (g := g) hS h1
 have h3 := mi_le (g := g) hS h1
 rw [upF, bumpF_sum _ (fun k hk => by rw [unF_len]; exact or_lt g hl (List.mem_of_mem_take hk)), List.length_take, orF_len]
 unfold miF at h3 ⊢
 omega
theorem grid_pos {g : Nat} (hg : 1 ≤ g) : (0 : Rat) < (g : Rat) := Rat.natCast_pos.2 hg
theorem round_get {l : List Rat} {g i : Nat} (hi : i < l.length) : (roundF l g).getD i 0 = ((upF l g).getD i 0 : Rat) / (g : Rat) := by
 unfold roundF
 rw [List.getD_eq_getElem?_getD, List.getElem?_map, List.getElem?_eq_getElem (by rw [upF_len]; exact hi), getD_lt (by rw [upF_len]; exact hi)]; rfl
theorem round_sum {l : List Rat} {g : Nat} (hg : 1 ≤ g) (hl : 1 ≤ l.length) (hS : Shares l) (h1 : sumQ l = 1) : sumQ (roundF l g) = 1 := by
 unfold roundF
 rw [sumQ_nat, up_sum hl hS h1, Rat.div_def]
 exact Rat.mul_inv_cancel _ (Rat.ne_of_gt (grid_pos hg))
theorem getD_le_sum : ∀ (l : List Nat) (i : Nat), l.getD i 0 ≤ l.sum
 | [], i => by simp
 | x :: l, 0 => by simp
 | x :: l, i + 1 => by have := getD_le_sum l i; simp at this ⊢; omega
theorem up_le {l : List Rat} {g : Nat} (hl : 1 ≤ l.length) (hS : Shares l) (h1 : sumQ l = 1) (i : Nat) : (upF l g).getD i 0 ≤ g := by
 rcases Nat.lt_or_ge i (upF l g).length with h | h
 ·have h2 := up_sum (g := g) hl hS h1
  rw [getD_lt h]
  rw [← getD_lt h 0]
  exact Nat.le_trans (getD_le_sum _ i) (Nat.le_of_eq h2)
 ·rw [getD_out h]; exact Nat.zero_le _
def dnN (q : Rat) (k : Nat) : Nat := q.num.natAbs * 2 ^ k / q.den + (if q.num < 0 ∧ 0 < q.num.natAbs * 2 ^ k % q.den then 1 else 0)
def downQ (q : Rat) (k : Nat) : Rat := fr (decide (q.num < 0)) (dnN q k) (2 ^ k)
def upQ (q : Rat) (k : Nat) : Rat := -downQ (-q) k
theorem dnN_len (q : Rat) {k : Nat} (hk : k ≤ 256) : (lim (dnN q k)).length ≤ sz q + 9 := by
 have h1 := len_shl (a := q.num.natAbs) (S := k) (m := 8) (by omega)
 have h2 := sz_num q
 have h3 := len_le (Nat.div_le_self (q.num.natAbs * 2 ^ k) q.den)
 unfold dnN
 split
 ·have h4 := len_add (q.num.natAbs * 2 ^ k / q.den) 1
  have h5 := len_small (g := 1) (by decide)
  omega
 ·rw [Nat.add_zero]; omega
theorem two_len {k : Nat} (hk : k ≤ 256) : (lim (2 ^ k)).length ≤ 9 := by
 have h1 := len_shl (a := 1) (S := k) (m := 8) (by omega)
 have h5 := len_small (g := 1) (by decide)
 rw [Nat.one_mul] at h1
 omega
theorem two_ne (k : Nat) : 2 ^ k ≠ 0 := Nat.ne_of_gt (Nat.pow_pos (by decide))
theorem down_sz (q : Rat) {k : Nat} (hk : k ≤ 256) : sz (downQ q k) ≤ sz q + 9 := sz_fr (two_ne k) (dnN_len q hk) (Nat.le_trans (two_len hk) (by omega))
theorem up_sz (q : Rat) {k : Nat} (hk : k ≤ 256) : sz (upQ q k) ≤ sz q + 9 := by
 have := down_sz (-q) hk
 unfold upQ
 rw [sz_neg] at this ⊢
 exact this
theorem down_zero {q : Rat} (h : 0 ≤ q) : downQ q 0 = (flN q : Rat) := by
 have h1 : ¬ q.num < 0 := by have := Rat.num_nonneg.2 h; omega
 unfold downQ dnN
 rw [decide_eq_false h1, if_neg fun e => h1 e.1, Nat.pow_zero, Nat.mul_one, Nat.add_zero]
 show mkRat ((q.num.natAbs / q.den : Nat) : Int) 1 = _
 rw [Rat.mkRat_one]
 rfl
theorem sz_nat {n : Nat} (h : n < 4294967296) : sz (n : Rat) ≤ 1 := Nat.max_le.2 ⟨len_small h, len_small (g := 1) (by decide)⟩
theorem lo_small {l : List Rat} {C g : Nat} (hz : Small C l) (hg : g < 4294967296) (hS : Shares l) (hf : ∀ x, x ∈ unF l g → x < 4294967296) : Small (C + 3) (loF l g) := fun q hq => by
 obtain ⟨p, hp, rfl⟩ := List.mem_map.1 hq
 have h1 := sz_mul p (g : Rat)
 have h2 := sz_nat hg
 have h3 := hz p hp
 have h4 := sz_nat (hf _ (List.mem_map.2 ⟨p, hp, rfl⟩))
 have h5 := sz_sub (p * (g : Rat)) (flN (p * (g : Rat)) : Rat)
 omega
def mixA {α : Type} (a : List α) (d : α) (n i : Nat) : List α := (List.range n).map fun k => if k < i then a.getD k d else d
theorem mixA_len {α : Type} (a : List α) (d : α) (n i : Nat) : (mixA a d n i).length = n := by simp [mixA]
theorem mixA_zero {α : Type} (a : List α) (d : α) (n : Nat) : mixA a d n 0 = List.replicate n d := by
 refine List.ext_getElem (by simp [mixA]) fun k h1 h2 => ?_
 simp [mixA]
theorem mixA_all {α : Type} {a : List α} {d : α} {n i : Nat} (h : a.length = n) (hi : n ≤ i) : mixA a d n i = a := by
 refine List.ext_getElem (by simp [mixA, h]) fun k h1 h2 => ?_
 simp only [mixA, List.getElem_map, List.getElem_range]
 rw [if_pos (by omega), getD_lt h2]
theorem mixA_get {α : Type} {a : List α} {d : α} {n i k : Nat} (hk : k < i) (hn : k < n) : (mixA a d n i).getD k d = a.getD k d := by
 unfold mixA
 rw [List.getD_eq_getElem?_getD, List.getElem?_map, List.getElem?_range hn, Option.map_some, if_pos hk]; rfl
theorem mixA_set {α : Type} {a : List α} {d x : α} {n i : Nat} (hi : i < n) (hx : a.getD i d = x) : (mixA a d n i).set i x = mixA a d n (i + 1) := by
 refine List.ext_getElem (by simp [mixA]) fun k h1 h2 => ?_
 rw [List.getElem_set]
 simp only [mixA, List.getElem_map, List.getElem_range]
 by_cases e : i = k
 ·subst e; rw [if_pos rfl, if_pos (by omega), hx]
 ·rw [if_neg e]
  by_cases h3 : k < i
  ·rw [if_pos h3, if_pos (by omega)]
  ·rw [if_neg h3, if_neg (by omega)]
def cmpR (lo : List Rat) (i j : Nat) : Int := if cmpQ (lo.getD j 0) (lo.getD i 0) = 0 then sgnI ((i : Int) - (j : Int)) else cmpQ (lo.getD j 0) (lo.getD i 0)
theorem cmpR_lt {lo : List Rat} {i j : Nat} : befR lo i j = decide (cmpR lo i j < 0) := by
 unfold befR cmpR
 refine decide_eq_decide.2 ?_
 by_cases e : cmpQ (lo.getD j 0) (lo.getD i 0) = 0
 ·rw [if_pos e]
  have e := cmpQ_eq.1 e
  rw [e]
  unfold sgnI
  constructor
  ·rintro (h | h)
   ·exact absurd h Rat.lt_irrefl
   ·rw [if_pos (by omega)]; decide
  ·intro h
   refine .inr ⟨rfl, ?_⟩
   split at h
   ·omega
   ·split at h <;> omega
 ·rw [if_neg e, cmpQ_neg]
  exact ⟨fun h => h.resolve_right fun k => e (cmpQ_eq.2 k.1.symm), .inl⟩
theorem un_get {l : List Rat} {g i : Nat} (hi : i < l.length) : (unF l g).getD i 0 = flN (l.getD i 0 * (g : Rat)) := by
 unfold unF
 rw [List.getD_eq_getElem?_getD, List.getElem?_map, List.getElem?_eq_getElem hi, getD_lt hi]; rfl
theorem lo_get {l : List Rat} {g i : Nat} (hi : i < l.length) : (loF l g).getD i 0 = l.getD i 0 * (g : Rat) - (flN (l.getD i 0 * (g : Rat)) : Rat) := by
 unfold loF
 rw [List.getD_eq_getElem?_getD, List.getElem?_map, List.getElem?_eq_getElem hi, getD_lt hi]; rfl
theorem un_getle {l : List Rat} {g : Nat} (hS : Shares l) (h1 : sumQ l = 1) (i : Nat) : (unF l g).getD i 0 ≤ g := Nat.le_trans (getD_le_sum _ i) (un_le hS h1)
theorem sum_take_le : ∀ (l : List Nat) (i : Nat), (l.take i).sum ≤ l.sum
 | [], i => by simp
 | x :: l, 0 => by simp
 | x :: l, i + 1 => by have := sum_take_le l i; simp at this ⊢; omega
theorem sum_take_succ {l : List Nat} {i : Nat} (hi : i < l.length) : (l.take (i + 1)).sum = (l.take i).sum + l.getD i 0 := by
 rw [take_succ_getD hi 0, List.sum_append]; simp
theorem bump_le {u ks : List Nat} (h : ∀ k, k ∈ ks → k < u.length) (i : Nat) : (bumpF u ks).getD i 0 ≤ u.sum + ks.length := by
 rw [← bumpF_sum ks h]; exact getD_le_sum _ i
end Go.AL

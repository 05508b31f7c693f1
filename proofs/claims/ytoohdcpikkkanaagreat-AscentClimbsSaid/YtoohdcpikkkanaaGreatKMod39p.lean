/-
  M, chapter 39: rounding by the greatest remainder, one after the other; the traces of an ascent.
-/
import Derived.Test.YtoohdcpikkkanaaGreatKMod39n
set_option linter.unusedVariables false
set_option linter.unusedSimpArgs false
namespace Go.AL
open Go Go.BigFrame
def argm (lo : List Rat) : Nat → Nat
 | 0 => 0
 | n + 1 => if lo.getD (argm lo n) 0 < lo.getD (n + 1) 0 then n + 1 else argm lo n
def rst (n : Nat) (p : List Nat × List Rat) : List Nat × List Rat := (p.1.set (argm p.2 (n - 1)) (p.1.getD (argm p.2 (n - 1)) 0 + 1), p.2.set (argm p.2 (n - 1)) 0)
def rit (n : Nat) (p : List Nat × List Rat) : Nat → List Nat × List Rat
 | 0 => p
 | k + 1 => rst n (rit n p k)
def ritF (l : List Rat) (g : Nat) : Nat → List Nat × List Rat := rit l.length (unF l g, loF l g)
def roundR (l : List Rat) (g : Nat) : List Rat := (ritF l g (miF l g)).1.map fun n : Nat => (n : Rat) / (g : Rat)
theorem argm_le (lo : List Rat) : ∀ n, argm lo n ≤ n
 | 0 => Nat.le_refl _
 | n + 1 => by
  have := argm_le lo n
  rw [argm]
  split <;> omega
theorem rit_len (l : List Rat) (g : Nat) : ∀ k, (ritF l g k).1.length = l.length ∧ (ritF l g k).2.length = l.length
 | 0 => ⟨unF_len l g, loF_len l g⟩
 | k + 1 => by
  have h := rit_len l g k
  refine ⟨?_, ?_⟩
  ·show ((ritF l g k).1.set _ _).length = _; rw [List.length_set]; exact h.1
  ·show ((ritF l g k).2.set _ _).length = _; rw [List.length_set]; exact h.2
theorem rit_le {l : List Rat} {g C : Nat} (h0 : ∀ i, (unF l g).getD i 0 ≤ C) : ∀ k i, (ritF l g k).1.getD i 0 ≤ C + k
 | 0, i => Nat.le_trans (h0 i) (Nat.le_add_right ..)
 | k + 1, i => by
  have h := rit_le h0 k
  have h1 := h i
  have h2 := h (argm (ritF l g k).2 (l.length - 1))
  show ((ritF l g k).1.set (argm (ritF l g k).2 (l.length - 1)) ((ritF l g k).1.getD (argm (ritF l g k).2 (l.length - 1)) 0 + 1)).getD i 0 ≤ _
  rcases Nat.lt_or_ge (argm (ritF l g k).2 (l.length - 1)) (ritF l g k).1.length with hl | hl
  ·rw [getD_set hl]; split <;> omega
  ·rw [List.set_eq_of_length_le hl]; omega
theorem rit_small {l : List Rat} {g C : Nat} (hC : 1 ≤ C) (h0 : Small C (loF l g)) : ∀ k, Small C (ritF l g k).2
 | 0 => h0
 | k + 1 => fun q hq => by
  rcases List.mem_or_eq_of_mem_set hq with h | h
  ·exact rit_small hC h0 k q h
  ·rw [h, sz_zero]; exact hC
theorem roundR_len (l : List Rat) (g : Nat) : (roundR l g).length = l.length := by rw [roundR, List.length_map]; exact (rit_len l g _).1
theorem roundR_get {l : List Rat} {g i : Nat} (hi : i < l.length) : (roundR l g).getD i 0 = ((ritF l g (miF l g)).1.getD i 0 : Rat) / (g : Rat) := by
 have h := (rit_len l g (miF l g)).1
 unfold roundR
 rw [List.getD_eq_getElem?_getD, List.getElem?_map, List.getElem?_eq_getElem (by omega), getD_lt (by omega)]
 rfl
theorem flN_nat (n : Nat) : flN (n : Rat) = n := by
 unfold flN
 show (n : Int).natAbs / 1 = n
 simp
theorem roundR_grid {us : List Nat} {g : Nat} (hg : 1 ≤ g) (hs : us.sum = g) : roundR (us.map fun n : Nat => (n : Rat) / (g : Rat)) g = us.map fun n : Nat => (n : Rat) / (g : Rat) := by
 have hp := Rat.ne_of_gt (grid_pos hg)
 have e : ∀ n : Nat, (n : Rat) / (g : Rat) * (g : Rat) = (n : Rat) := fun n => by rw [Rat.div_def, Rat.mul_assoc, Rat.inv_mul_cancel _ hp, Rat.mul_one]
 have h1 : unF (us.map fun n : Nat => (n : Rat) / (g : Rat)) g = us := by
  unfold unF
  rw [List.map_map]
  conv => rhs; rw [← List.map_id us]
  refine List.map_congr_left fun n _ => ?_
  show flN ((n : Rat) / (g : Rat) * (g : Rat)) = n
  rw [e, flN_nat]
 have h2 : miF (us.map fun n : Nat => (n : Rat) / (g : Rat)) g = 0 := by unfold miF; rw [h1, hs]; omega
 unfold roundR
 rw [h2]
 show (unF _ g).map _ = _
 rw [h1]
theorem roundR_round {l : List Rat} {g : Nat} (hg : 1 ≤ g) (hl : 1 ≤ l.length) (hS : Shares l) (h1 : sumQ l = 1) : roundR (roundF l g) g = roundF l g := roundR_grid hg (up_sum hl hS h1)
def roundRM (h : HM) (g : Nat) : HM where
 sym := h.sym
 st := h.st
 empty := (roundR (h.empty :: h.ini) g).getD 0 0
 ini := (roundR (h.empty :: h.ini) g).drop 1
 trans := (List.range h.st).map fun i => (roundR (rowTS h i) g).take h.st
 stop := (List.range h.st).map fun i => (roundR (rowTS h i) g).getD h.st 0
 emit := (List.range h.st).map fun i => roundR (h.emit.getD i []) g
 silent := h.silent
 ties := h.ties
section
variable {h : HM} {b B g : Nat}
theorem roundRM_grid (k : HM.GoodX b B h) (hg : 1 ≤ g ∧ g ≤ 1048576) : roundRM (roundHM h g) g = roundHM h g := by
 have f := k.form
 have n0 := f.st0
 have hlf : (roundF (h.empty :: h.ini) g).length = h.st + 1 := by rw [roundF_len, first_len f]
 have e0 : (roundHM h g).empty :: (roundHM h g).ini = roundF (h.empty :: h.ini) g := by
  show (roundF (h.empty :: h.ini) g).getD 0 0 :: (roundF (h.empty :: h.ini) g).drop 1 = _
  generalize roundF (h.empty :: h.ini) g = l at *
  cases l with
  | nil => simp at hlf
  | cons a r => simp
 have e1 : ∀ i, i < h.st → rowTS (roundHM h g) i = roundF (rowTS h i) g := fun i hi => by
  have hl : (roundF (rowTS h i) g).length = h.st + 1 := (roundF_len (rowTS h i) g).trans (rowTS_len f hi)
  unfold rowTS
  rw [roundHM_trans hi, roundHM_stop hi]
  exact split_last hl
 have r0 := roundR_round (g := g) hg.1 (by rw [first_len f]; omega) (first_shares k) (first_sum k)
 have r1 := fun i (hi : i < h.st) => roundR_round (g := g) hg.1 (by rw [rowTS_len f hi]; omega) (rowTS_shares k i) (k.sT i hi)
 have r2 := fun i (hi : i < h.st) => roundR_round (g := g) hg.1 (emit_len0 f hi) (k.pM i) (k.sM i hi)
 unfold roundRM
 rw [e0, r0]
 have t1 : (List.range (roundHM h g).st).map (fun i => (roundR (rowTS (roundHM h g) i) g).take (roundHM h g).st) = (roundHM h g).trans := List.map_congr_left fun i hi => by
  have hi := List.mem_range.1 hi
  rw [e1 i hi, r1 i hi]; rfl
 have t2 : (List.range (roundHM h g).st).map (fun i => (roundR (rowTS (roundHM h g) i) g).getD (roundHM h g).st 0) = (roundHM h g).stop := List.map_congr_left fun i hi => by
  have hi := List.mem_range.1 hi
  rw [e1 i hi, r1 i hi]; rfl
 have t3 : (List.range (roundHM h g).st).map (fun i => roundR ((roundHM h g).emit.getD i []) g) = (roundHM h g).emit := List.map_congr_left fun i hi => by
  have hi : i < h.st := List.mem_range.1 hi
  rw [roundHM_emit hi, r2 i hi]
 rw [t1, t2, t3]
 rfl
end
def sameHM (a b : HM) : Bool := decide (a.empty = b.empty) && decide (a.ini = b.ini) && decide (a.trans = b.trans) && decide (a.stop = b.stop) && decide (a.emit = b.emit)
def loX (X : List (List Int)) (K : Nat) (h : HM) : Rat := clsN (downQ · K) h X X.length
def hiX (X : List (List Int)) (K : Nat) (h : HM) : Rat := clsN (upQ · K) h X X.length
def zHM : HM := ⟨0, 0, 0, [], [], [], [], [], []⟩
def lastM (ms : List HM) : HM := ms.getD (ms.length - 1) zHM
def nextM (X : List (List Int)) (g : Nat) (h : HM) : HM := roundHM (reHM h X) g
def ascF (X : List (List Int)) (g K : Nat) : Nat → List HM → List HM × Int
 | 0, ms => (ms, 3)
 | n + 1, ms => if sameHM (nextM X g (lastM ms)) (lastM ms) = true then (ms, 1) else if loX X K (nextM X g (lastM ms)) < hiX X K (lastM ms) then (ms, 2) else ascF X g K n (ms ++ [nextM X g (lastM ms)])
structure Climb (h : HM) (X : List (List Int)) (g K : Nat) (ms : List HM) : Prop where
 pos : 1 ≤ ms.length
 first : ms.getD 0 zHM = h
 good : ∀ i, i < ms.length → (ms.getD i zHM).Good 1 ∧ (ms.getD i zHM).sym = h.sym ∧ (ms.getD i zHM).st = h.st ∧ AllL (ms.getD i zHM) X
 grid : ∀ i, 0 < i → i < ms.length → roundRM (ms.getD i zHM) g = ms.getD i zHM
 up : ∀ i, i + 1 < ms.length → hiX X K (ms.getD i zHM) ≤ loX X K (ms.getD (i + 1) zHM)
section
variable {h : HM} {X : List (List Int)} {g K : Nat} {ms : List HM}
theorem lo_le (k : h.Good 1) : 0 ≤ loX X K h ∧ loX X K h ≤ lkN h X X.length := by
 have := enc_below k (below_dn K) X X.length
 rw [enc_id] at this
 exact this
theorem le_hi (k : h.Good 1) : lkN h X X.length ≤ hiX X K h := by
 have := (enc_below k (below_up K) X X.length).2
 rw [enc_id] at this
 exact this
theorem lk_nn (k : h.Good 1) : 0 ≤ lkN h X X.length := Rat.le_trans (lo_le (K := 0) k).1 (lo_le (K := 0) k).2
theorem lk_pos (k : h.Good 1) : 0 < lkN h X X.length ↔ AllL h X := by
 constructor
 ·intro hp
  refine Classical.byContradiction fun hn => ?_
  rw [lk_zero.2 hn] at hp
  exact Rat.lt_irrefl hp
 ·intro ha
  rcases Rat.le_iff_lt_or_eq.1 (lk_nn (X := X) k) with h1 | h1
  ·exact h1
  ·exact absurd ha (lk_zero.1 h1.symm)
theorem data1_move {h' : HM} (k : Data1 h X) (e1 : h'.sym = h.sym) (e2 : h'.st = h.st) : Data1 h' X := ⟨⟨k.ok.len, fun w hw => ⟨⟨(k.ok.word w hw).1.1, by rw [e1]; exact (k.ok.word w hw).1.2⟩, ⟨by rw [e2]; exact (k.ok.word w hw).2.st, (k.ok.word w hw).2.len⟩⟩⟩, k.len⟩
theorem climb_one (k : h.Good 1) (ha : AllL h X) : Climb h X g K [h] := ⟨Nat.le_refl 1, rfl, fun i hi => by
 obtain rfl : i = 0 := by simp at hi; exact hi
 exact ⟨k, rfl, rfl, ha⟩, fun i h0 hi => by simp at hi; omega, fun i hi => by simp at hi⟩
theorem getD_sn {l : List HM} {x : HM} {i : Nat} (hi : i < l.length) : (l ++ [x]).getD i zHM = l.getD i zHM := by
 rw [List.getD_eq_getElem?_getD, List.getElem?_append_left hi, List.getD_eq_getElem?_getD]
theorem getD_sn2 {l : List HM} {x : HM} {i : Nat} (hi : i = l.length) : (l ++ [x]).getD i zHM = x := by
 rw [List.getD_eq_getElem?_getD, hi, List.getElem?_append_right (Nat.le_refl _), Nat.sub_self]; rfl
theorem next_good (k1 : Data1 h X) (hs : h.sym ≤ 3) (hg : 1 ≤ g ∧ g ≤ 1048576) (c : Climb h X g K ms) : (reHM (lastM ms) X).GoodW BX ∧ (nextM X g (lastM ms)).Good 1 ∧ (nextM X g (lastM ms)).sym = h.sym ∧ (nextM X g (lastM ms)).st = h.st ∧ roundRM (nextM X g (lastM ms)) g = nextM X g (lastM ms) := by
 have hp := c.pos
 obtain ⟨a1, a2, a3, a4⟩ := c.good (ms.length - 1) (by omega)
 have hr := re_good a1 (data1_move k1 a2 a3) a4 (by rw [a2]; exact hs)
 exact ⟨hr, round_good hr hg, a2, a3, roundRM_grid hr hg⟩
theorem climb_snoc (k1 : Data1 h X) (hs : h.sym ≤ 3) (hg : 1 ≤ g ∧ g ≤ 1048576) (c : Climb h X g K ms) (hu : ¬ loX X K (nextM X g (lastM ms)) < hiX X K (lastM ms)) : Climb h X g K (ms ++ [nextM X g (lastM ms)]) := by
 obtain ⟨_, b1, b2, b3, b4⟩ := next_good k1 hs hg c
 have hp := c.pos
 have hu : hiX X K (lastM ms) ≤ loX X K (nextM X g (lastM ms)) := Rat.not_lt.1 hu
 obtain ⟨a1, a2, a3, a4⟩ := c.good (ms.length - 1) (by omega)
 have hall : AllL (nextM X g (lastM ms)) X := (lk_pos b1).1 (by
  have p1 := (lk_pos a1).2 a4
  have p2 := le_hi (X := X) (K := K) a1
  have p3 := (lo_le (X := X) (K := K) b1).2
  have p4 : hiX X K (lastM ms) = hiX X K (ms.getD (ms.length - 1) zHM) := rfl
  rw [p4] at hu
  grind)
 have hL : (ms ++ [nextM X g (lastM ms)]).length = ms.length + 1 := by simp
 refine ⟨by rw [hL]; omega, by rw [getD_sn (by omega)]; exact c.first, fun i hi => ?_, fun i h0 hi => ?_, fun i hi => ?_⟩
 ·rw [hL] at hi
  rcases Nat.lt_or_ge i ms.length with h1 | h1
  ·rw [getD_sn h1]; exact c.good i h1
  ·rw [getD_sn2 (by omega)]; exact ⟨b1, b2, b3, hall⟩
 ·rw [hL] at hi
  rcases Nat.lt_or_ge i ms.length with h1 | h1
  ·rw [getD_sn h1]; exact c.grid i h0 h1
  ·rw [getD_sn2 (by omega)]; exact b4
 ·rw [hL] at hi
  rcases Nat.lt_or_ge (i + 1) ms.length with h1 | h1
  ·rw [getD_sn h1, getD_sn (by omega)]; exact c.up i h1
  ·rw [getD_sn2 (show i + 1 = ms.length by omega), getD_sn (by omega), show i = ms.length - 1 by omega]; exact hu
theorem asc_climb (k1 : Data1 h X) (hs : h.sym ≤ 3) (hg : 1 ≤ g ∧ g ≤ 1048576) : ∀ (n : Nat) {ms : List HM}, Climb h X g K ms → Climb h X g K (ascF X g K n ms).1 ∧ (ascF X g K n ms).1.length ≤ ms.length + n
 | 0, ms, c => ⟨c, Nat.le_refl _⟩
 | n + 1, ms, c => by
  rw [ascF]
  split
  ·exact ⟨c, Nat.le_add_right ..⟩
  ·split
   ·exact ⟨c, Nat.le_add_right ..⟩
   ·next hu =>
    have h := asc_climb k1 hs hg n (climb_snoc k1 hs hg c hu)
    refine ⟨h.1, Nat.le_trans h.2 ?_⟩
    rw [List.length_append, List.length_singleton]; omega
theorem climb_rise (c : Climb h X g K ms) {i : Nat} (hi : i + 1 < ms.length) : lkN (ms.getD i zHM) X X.length ≤ lkN (ms.getD (i + 1) zHM) X X.length := by
 have h1 := le_hi (X := X) (K := K) (c.good i (by omega)).1
 have h2 := c.up i hi
 have h3 := (lo_le (X := X) (K := K) (c.good (i + 1) hi).1).2
 exact Rat.le_trans h1 (Rat.le_trans h2 h3)
end
end Go.AL

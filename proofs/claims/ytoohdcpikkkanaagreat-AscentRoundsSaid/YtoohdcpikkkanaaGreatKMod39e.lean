/-
  M, chapter 39: the coin of the sanity check, and what stays near on rounding.
-/
import Derived.Test.YtoohdcpikkkanaaGreatKMod39d
import Derived.Test.YtoohdcpikkkanaaGreatKMod39b
set_option linter.unusedVariables false
set_option linter.unusedSimpArgs false
namespace Go.AL
open Go Go.BigFrame
def coin9 : HM := ⟨2, 1, 0, [1], [[0]], [1], [[1 / 3, 2 / 3]], [false], [0]⟩
def X9 : List (List Int) := [[1], [1], [1], [2]]
theorem sz_12 : sz (1 / 2) = 1 := by decide +kernel
theorem sz_13 : sz (1 / 3) = 1 := by decide +kernel
theorem sz_23 : sz (2 / 3) = 1 := by decide +kernel
theorem coin9_good : coin9.Good 1 := by
  have s1 : Small 1 [1] := Small.one (by rw [sz_one]; decide)
  have s0 : Small 1 [0] := Small.one (by rw [sz_zero]; decide)
  have hs2 : Small 1 [1 / 3, 2 / 3] := Small.cons (by rw [sz_13]; decide) (Small.one (by rw [sz_23]; decide))
  have p1 : Shares [1] := fun q hq => by rw [List.mem_singleton.1 hq]; decide +kernel
  have p0 : Shares [0] := fun q hq => by rw [List.mem_singleton.1 hq]; decide +kernel
  have sh2 : Shares [1 / 3, 2 / 3] := fun q hq => by
    rcases List.mem_cons.1 hq with rfl | hq
    · decide +kernel
    · rw [List.mem_singleton.1 hq]; decide +kernel
  have i0 : ∀ i, i < coin9.st → i = 0 := fun i hi => by have : i < 1 := hi; omega
  have row : ∀ (x : List Rat) (i : Nat), i ≠ 0 → [x].getD i [] = [] := fun x i hi => getD_ge (by simp; omega)
  refine ⟨⟨by decide, by decide, by decide, by decide, rfl, rfl, fun i hi => by rw [i0 i hi]; rfl, rfl, rfl, fun i hi => by rw [i0 i hi]; rfl, rfl, rfl, fun i hi => by rw [i0 i hi]; decide, by decide, by decide, by rw [show coin9.empty = 0 from rfl, sz_zero]; decide, s1, s1, fun i => ?_, fun i => ?_⟩,
    by decide +kernel, p1, p1, fun i => ?_, fun i => ?_, by decide +kernel, fun i hi => by rw [i0 i hi]; decide +kernel, fun i hi => by rw [i0 i hi]; decide +kernel, fun i j hi hj _ => by have := i0 i hi; omega⟩
  · by_cases hi : i = 0
    · subst hi; exact s0
    · show Small 1 ([[0]].getD i []); rw [row _ i hi]; exact Small.nil
  · by_cases hi : i = 0
    · subst hi; exact hs2
    · show Small 1 ([[1 / 3, 2 / 3]].getD i []); rw [row _ i hi]; exact Small.nil
  · by_cases hi : i = 0
    · subst hi; exact p0
    · show Shares ([[0]].getD i []); rw [row _ i hi]; intro q hq; simp at hq
  · by_cases hi : i = 0
    · subst hi; exact sh2
    · show Shares ([[1 / 3, 2 / 3]].getD i []); rw [row _ i hi]; intro q hq; simp at hq
theorem coin9_data : DataOK coin9 X9 := ⟨by decide, fun w hw => by
  rcases List.mem_cons.1 hw with rfl | hw
  · exact ⟨⟨by decide, by decide⟩, ⟨by decide, by decide⟩⟩
  · rcases List.mem_cons.1 hw with rfl | hw
    · exact ⟨⟨by decide, by decide⟩, ⟨by decide, by decide⟩⟩
    · rcases List.mem_cons.1 hw with rfl | hw
      · exact ⟨⟨by decide, by decide⟩, ⟨by decide, by decide⟩⟩
      · rw [List.mem_singleton.1 hw]; exact ⟨⟨by decide, by decide⟩, ⟨by decide, by decide⟩⟩⟩
theorem coin9_all : AllL coin9 X9 := fun w hw => by
  rcases List.mem_cons.1 hw with rfl | hw
  · decide +kernel
  · rcases List.mem_cons.1 hw with rfl | hw
    · decide +kernel
    · rcases List.mem_cons.1 hw with rfl | hw
      · decide +kernel
      · rw [List.mem_singleton.1 hw]; decide +kernel
theorem coin9_re : (reHM coin9 X9).emit = [[3 / 4, 1 / 4]] := by decide +kernel
theorem coin9_round : (roundHM coin9 2).emit = [[1 / 2, 1 / 2]] := by decide +kernel
def Near (g : Nat) (x y : Rat) : Prop := absQ (x - y) < 1 / (g : Rat) ∧ (x = 0 → y = 0)
def NearL (g : Nat) (a b : List Rat) : Prop := a.length = b.length ∧ ∀ i, i < a.length → Near g (a.getD i 0) (b.getD i 0)
theorem sz_abs (q : Rat) : sz (absQ q) = sz q := by unfold absQ; split; exact sz_neg q; rfl
theorem ofQ_abs (q : Rat) : ofQ (absQ q) = ⟨false, (ofQ q).num, (ofQ q).den⟩ := by
  unfold absQ ofQ
  split
  · next h =>
    have h1 : q.num < 0 := (Rat.lt_iff q 0 |>.1 h |> fun e => by simpa using e)
    have h2 : (-q).num = -q.num := rfl
    have h3 : (-q).den = q.den := rfl
    rw [h2, h3, Int.natAbs_neg, decide_eq_false (by omega)]
  · next h =>
    have h1 : ¬ q.num < 0 := fun e => h (Rat.lt_iff q 0 |>.2 (by simpa using e))
    rw [decide_eq_false h1]
section
variable {h : HM} {B g : Nat}
theorem near_l {l : List Rat} (hg : 1 ≤ g) (hl : 1 ≤ l.length) (hS : Shares l) (h1 : sumQ l = 1) : NearL g l (roundF l g) := ⟨(roundF_len l g).symm, fun _ hi => round_near hg hl hS h1 hi⟩
theorem near_first (k : h.Good B) (hg : 1 ≤ g) : NearL g (h.empty :: h.ini) (roundF (h.empty :: h.ini) g) := near_l hg (by simp) (first_shares k) (first_sum k)
theorem near_rowTS (k : h.Good B) (hg : 1 ≤ g) {i : Nat} (hi : i < h.st) : NearL g (rowTS h i) (roundF (rowTS h i) g) := near_l hg (by rw [rowTS_len k.form hi]; omega) (rowTS_shares k i) (k.sT i hi)
theorem near_empty (k : h.Good B) (hg : 1 ≤ g) : Near g h.empty (roundHM h g).empty := (near_first k hg).2 0 (by simp)
theorem drop_getD1 (l : List Rat) (i : Nat) : (l.drop 1).getD i 0 = l.getD (i + 1) 0 := by
  rw [List.getD_eq_getElem?_getD, List.getD_eq_getElem?_getD, List.getElem?_drop, Nat.add_comm]
theorem near_ini (k : h.Good B) (hg : 1 ≤ g) : NearL g h.ini (roundHM h g).ini := by
  have h1 := near_first k hg
  refine ⟨?_, fun i hi => ?_⟩
  · show _ = ((roundF (h.empty :: h.ini) g).drop 1).length
    rw [List.length_drop, roundF_len]; simp
  · show Near g _ (((roundF (h.empty :: h.ini) g).drop 1).getD i 0)
    rw [drop_getD1]
    exact h1.2 (i + 1) (by simp; exact hi)
theorem near_stop (k : h.Good B) (hg : 1 ≤ g) : NearL g h.stop (roundHM h g).stop := by
  refine ⟨?_, fun i hi => ?_⟩
  · rw [k.form.stop]; show _ = ((List.range h.st).map _).length; simp
  · rw [k.form.stop] at hi
    rw [roundHM_stop hi]
    have h1 := (near_rowTS k hg hi).2 h.st (by rw [rowTS_len k.form hi]; omega)
    rw [rowTS_last k.form hi] at h1
    exact h1
theorem take_getD9 (l : List Rat) {n j : Nat} (hj : j < n) : (l.take n).getD j 0 = l.getD j 0 := by
  rw [List.getD_eq_getElem?_getD, List.getD_eq_getElem?_getD, List.getElem?_take_of_lt hj]
theorem near_trans (k : h.Good B) (hg : 1 ≤ g) {i : Nat} (hi : i < h.st) : NearL g (h.trans.getD i []) ((roundHM h g).trans.getD i []) := by
  rw [roundHM_trans hi]
  refine ⟨?_, fun j hj => ?_⟩
  · rw [k.form.trow i hi, List.length_take, roundF_len, rowTS_len k.form hi]; omega
  · rw [k.form.trow i hi] at hj
    rw [take_getD9 _ hj]
    have h1 := (near_rowTS k hg hi).2 j (by rw [rowTS_len k.form hi]; omega)
    rw [rowTS_get k.form hi hj] at h1
    exact h1
theorem near_emit (k : h.Good B) (hg : 1 ≤ g) {i : Nat} (hi : i < h.st) : NearL g (h.emit.getD i []) ((roundHM h g).emit.getD i []) := by
  rw [roundHM_emit hi]
  exact near_l hg (emit_len0 k.form hi) (k.pM i) (k.sM i hi)
end
theorem chain_sym9 (L : List Int) (cs cy most : Int) : (chainHM L cs cy most).sym ≤ 12 := by
  have := chSym_range cy
  show chSym cy ≤ 12
  omega
end Go.AL

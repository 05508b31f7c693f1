/-
  M, chapter 39: a model that is rounded to a grid.
-/
import Derived.Test.YtoohdcpikkkanaaGreatKMod39
set_option linter.unusedVariables false
set_option linter.unusedSimpArgs false
namespace Go.AL
open Go Go.BigFrame
theorem map_get9 {α : Type} (f : Nat → α) (d : α) {n i : Nat} (h : i < n) : ((List.range n).map f).getD i d = f i := by
 rw [List.getD_eq_getElem?_getD, List.getElem?_map, List.getElem?_range h]; rfl
def rowTS (h : HM) (i : Nat) : List Rat := h.trans.getD i [] ++ [h.stop.getD i 0]
def roundHM (h : HM) (g : Nat) : HM where
 sym := h.sym
 st := h.st
 empty := (roundF (h.empty :: h.ini) g).getD 0 0
 ini := (roundF (h.empty :: h.ini) g).drop 1
 trans := (List.range h.st).map fun i => (roundF (rowTS h i) g).take h.st
 stop := (List.range h.st).map fun i => (roundF (rowTS h i) g).getD h.st 0
 emit := (List.range h.st).map fun i => roundF (h.emit.getD i []) g
 silent := h.silent
 ties := h.ties
section
variable {h : HM} {b B g : Nat}
theorem first_len (f : HM.FormX b B h) : (h.empty :: h.ini).length = h.st + 1 := by rw [List.length_cons, f.ini]
theorem first_shares (k : HM.GoodX b B h) : Shares (h.empty :: h.ini) := fun q hq => by
 rcases List.mem_cons.1 hq with rfl | hq
 ·exact k.pE
 ·exact k.pI q hq
theorem first_sum (k : HM.GoodX b B h) : sumQ (h.empty :: h.ini) = 1 := by
 have := k.sI
 rw [sumQ_snoc] at this
 rw [sumQ_cons, Rat.add_comm]; exact this
theorem first_small (f : HM.FormX b B h) : Small B (h.empty :: h.ini) := Small.cons f.zE f.zI
theorem rowTS_len (f : HM.FormX b B h) {i : Nat} (hi : i < h.st) : (rowTS h i).length = h.st + 1 := by rw [rowTS, List.length_append, f.trow i hi]; rfl
theorem rowTS_shares (k : HM.GoodX b B h) (i : Nat) : Shares (rowTS h i) := fun q hq => by
 rcases List.mem_append.1 hq with hq | hq
 ·exact k.pT i q hq
 ·rw [List.mem_singleton.1 hq]; exact k.pS.get i
theorem rowTS_small (f : HM.FormX b B h) (i : Nat) : Small B (rowTS h i) := (f.zT i).app (Small.one (f.zS.get f.b1 i))
theorem emit_len0 (f : HM.FormX b B h) {i : Nat} (hi : i < h.st) : 1 ≤ (h.emit.getD i []).length := by rw [f.erow i hi]; exact f.sym0
theorem round_mem {l : List Rat} (hg : 1 ≤ g ∧ g ≤ 1048576) (hl : 1 ≤ l.length) (hS : Shares l) (h1 : sumQ l = 1) : ∀ q, q ∈ roundF l g → Share q ∧ sz q ≤ 1 := fun q hq => by
 obtain ⟨i, hi, rfl⟩ := mem_getD hq 0
 rw [roundF_len] at hi
 have hu := up_le (g := g) hl hS h1 i
 rw [round_get hi]
 exact ⟨div_share (x := ((upF l g).getD i 0 : Int)) (s := (g : Int)) (by omega) (by omega) (by omega), div_sz (x := ((upF l g).getD i 0 : Int)) (s := (g : Int)) (by omega) (by omega) (by omega)⟩
theorem roundHM_trans {i : Nat} (hi : i < h.st) : (roundHM h g).trans.getD i [] = (roundF (rowTS h i) g).take h.st := map_get9 _ _ hi
theorem roundHM_stop {i : Nat} (hi : i < h.st) : (roundHM h g).stop.getD i 0 = (roundF (rowTS h i) g).getD h.st 0 := map_get9 _ _ hi
theorem roundHM_emit {i : Nat} (hi : i < h.st) : (roundHM h g).emit.getD i [] = roundF (h.emit.getD i []) g := map_get9 _ _ hi
theorem round_good (k : HM.GoodX b B h) (hg : 1 ≤ g ∧ g ≤ 1048576) : (roundHM h g).Good 1 := by
 have f := k.form
 have n0 := f.st0
 have hf0 := round_mem hg (by rw [first_len f]; omega) (first_shares k) (first_sum k)
 have hts := fun i (hi : i < h.st) => round_mem hg (by rw [rowTS_len f hi]; omega) (rowTS_shares k i) (k.sT i hi)
 have hem := fun i (hi : i < h.st) => round_mem hg (emit_len0 f hi) (k.pM i) (k.sM i hi)
 have hlf : (roundF (h.empty :: h.ini) g).length = h.st + 1 := by rw [roundF_len, first_len f]
 have hlt := fun i (hi : i < h.st) => (roundF_len (rowTS h i) g).trans (rowTS_len f hi)
 have hT : ∀ i, ∀ q, q ∈ (roundHM h g).trans.getD i [] → Share q ∧ sz q ≤ 1 := fun i q hq => by
  rcases Nat.lt_or_ge i h.st with hi | hi
  ·rw [roundHM_trans hi] at hq; exact hts i hi q (List.mem_of_mem_take hq)
  ·rw [getD_ge (by show ((List.range h.st).map _).length ≤ i; simp; exact hi)] at hq; simp at hq
 have hM : ∀ i, ∀ q, q ∈ (roundHM h g).emit.getD i [] → Share q ∧ sz q ≤ 1 := fun i q hq => by
  rcases Nat.lt_or_ge i h.st with hi | hi
  ·rw [roundHM_emit hi] at hq; exact hem i hi q hq
  ·rw [getD_ge (by show ((List.range h.st).map _).length ≤ i; simp; exact hi)] at hq; simp at hq
 have hS : ∀ q, q ∈ (roundHM h g).stop → Share q ∧ sz q ≤ 1 := fun q hq => by
  obtain ⟨i, hi, rfl⟩ := List.mem_map.1 hq
  exact hts i (List.mem_range.1 hi) _ (getD_mem (by rw [hlt i (List.mem_range.1 hi)]; omega) 0)
 have hE := hf0 _ (getD_mem (show 0 < (roundF (h.empty :: h.ini) g).length by omega) 0)
 have hI : ∀ q, q ∈ (roundHM h g).ini → Share q ∧ sz q ≤ 1 := fun q hq => hf0 q (List.mem_of_mem_drop hq)
 have hsplit : ∀ {l : List Rat}, 0 < l.length → l = l.getD 0 0 :: l.drop 1 := fun {l} hl => by cases l with | nil => simp at hl | cons a r => simp
 have hlast : ∀ {l : List Rat} {n : Nat}, l.length = n + 1 → l.take n ++ [l.getD n 0] = l := fun hl => split_last hl
 refine ⟨⟨f.sym0, f.sym1, f.st0, f.st1, ?_, ?_, ?_, ?_, ?_, ?_, f.silent, f.ties, f.tie, by decide, by decide, hE.2, fun q hq => (hI q hq).2, fun q hq => (hS q hq).2, fun i q hq => (hT i q hq).2, fun i q hq => (hM i q hq).2⟩, hE.1, fun q hq => (hI q hq).1, fun q hq => (hS q hq).1, fun i q hq => (hT i q hq).1, fun i q hq => (hM i q hq).1, ?_, ?_, ?_, ?_⟩
 ·show ((roundF (h.empty :: h.ini) g).drop 1).length = h.st
  rw [List.length_drop, hlf]; omega
 ·show ((List.range h.st).map _).length = h.st; simp
 ·intro i hi
  have hi : i < h.st := hi
  rw [roundHM_trans hi, List.length_take, hlt i hi]
  show min h.st (h.st + 1) = h.st
  omega
 ·show ((List.range h.st).map _).length = h.st; simp
 ·show ((List.range h.st).map _).length = h.st; simp
 ·intro i hi
  have hi : i < h.st := hi
  rw [roundHM_emit hi, roundF_len]; exact f.erow i hi
 ·have := round_sum hg.1 (by rw [first_len f]; omega) (first_shares k) (first_sum k)
  rw [hsplit (l := roundF (h.empty :: h.ini) g) (by omega), sumQ_cons, Rat.add_comm, ← sumQ_snoc] at this
  exact this
 ·intro i hi
  have hi : i < h.st := hi
  rw [roundHM_trans hi, roundHM_stop hi, hlast (hlt i hi)]
  exact round_sum hg.1 (by rw [rowTS_len f hi]; omega) (rowTS_shares k i) (k.sT i hi)
 ·intro i hi
  have hi : i < h.st := hi
  rw [roundHM_emit hi]
  exact round_sum hg.1 (emit_len0 f hi) (k.pM i) (k.sM i hi)
 ·intro i j hi hj ht
  have hi : i < h.st := hi
  rw [roundHM_emit hi, roundHM_emit (show j < h.st by have : i < h.st := hi; omega), k.tied i j hi hj ht]
end
end Go.AL

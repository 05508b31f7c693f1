/-
  Walks of package checkpoint, part 1: numbers of columns, words, one column (printed by mk2.py).
-/
import Derived.Test.YtoohdcpikkkanaaGreatKNumb
import Derived.Test.YtoohdcpikkkanaaGreatKHmmB
set_option linter.unusedVariables false
set_option linter.unusedSimpArgs false
namespace Go.AL
open Go Go.BigFrame
def symX (w : List Int) (t : Nat) : Nat := (w.getD t 0).toNat - 1
def WordOK (h : HM) (w : List Int) : Prop := w.length ≤ 256 ∧ ∀ x, x ∈ w → 1 ≤ x ∧ x ≤ h.sym
theorem WordOK.get {h : HM} {w : List Int} (k : WordOK h w) {t : Nat} (ht : t < w.length) : 1 ≤ w.getD t 0 ∧ w.getD t 0 ≤ h.sym := k.2 _ (getD_mem ht 0)
theorem WordOK.symX {h : HM} {w : List Int} (k : WordOK h w) {t : Nat} (ht : t < w.length) : Go.AL.symX w t < h.sym ∧ w.getD t 0 = ((Go.AL.symX w t + 1 : Nat) : Int) := by
  have := k.get ht
  unfold Go.AL.symX
  omega
theorem map_getD_range {α : Type} {n k : Nat} (f : Nat → α) (d : α) (hk : k < n) : ((List.range n).map f).getD k d = f k := by
  rw [List.getD_eq_getElem?_getD, List.getElem?_map, List.getElem?_range hk]; rfl
def fillF {α : Type} (d : α) (g : Nat → α) (n i : Nat) : List α := (List.range n).map fun j => if j < i then g j else d
theorem fillF_len {α : Type} (d : α) (g : Nat → α) (n i : Nat) : (fillF d g n i).length = n := by simp [fillF]
theorem fillF_zero {α : Type} (d : α) (g : Nat → α) (n : Nat) : fillF d g n 0 = List.replicate n d := by
  refine List.ext_getElem (by simp [fillF]) fun k h1 h2 => ?_
  simp [fillF]
theorem fillF_set {α : Type} {d : α} {g : Nat → α} {n i : Nat} (hi : i < n) : (fillF d g n i).set i (g i) = fillF d g n (i + 1) := by
  refine List.ext_getElem (by simp [fillF]) fun k h1 h2 => ?_
  rw [List.getElem_set]
  simp only [fillF, List.getElem_map, List.getElem_range]
  by_cases he : i = k
  · subst he; rw [if_pos rfl, if_pos (by omega)]
  · rw [if_neg he]
    by_cases h3 : k < i
    · rw [if_pos h3, if_pos (by omega)]
    · rw [if_neg h3, if_neg (by omega)]
theorem fillF_all {α : Type} (d : α) (g : Nat → α) (n : Nat) : fillF d g n n = (List.range n).map g := by
  refine List.map_congr_left fun j hj => ?_
  rw [if_pos (List.mem_range.1 hj)]
end Go.AL

set_option linter.unusedVariables false
set_option linter.unusedSimpArgs false
namespace Go.Proofs.YtoohdcpikkkanaaGreat
open Go Go.AL
theorem words_Valid {h : HM} {w : List Int} (k : WordOK h w) (hs : 1 ≤ h.sym ∧ h.sym ≤ 32) : FSpec P F.words_Valid [.d (ints w), .d (dI h.sym)] (.d (dB true)) := by
  have k1 := k.1
  refine FSpec.intro fn.words_Valid (by rfl) (by rfl) (Nat.le_of_ble_eq_true (by rfl)) fun E hE => ?_
  refine AW.seq ?_
  refine AW.region (by rw [hE]; rfl) ?_
  refine asD rfl ?_
  refine OL.nil ?_
  refine AW.seq ?_
  refine AW.seq ?_
  refine AW.region (by rw [hE]; rfl) ?_
  refine mvD rfl ?_
  refine lnL sl.ints rfl rfl ?_
  refine mvD rfl ?_
  refine OL.nil ?_
  refine AW.block ?_
  refine AW.whileK (α := Nat) [(0, _), (1, _), (7, _), (8, _)] [] (fun i => [(9, .d (dI i))]) (fun i => []) (fun i => i ≤ w.length) (fun i => w.length - i) 0 (by repeat (first | exact Knows.nil | refine Knows.cons (by first | exact knD rfl | exact knA rfl | exact knP rfl | exact knO rfl | exact knM rfl | exact knE rfl | exact knR rfl | exact knF rfl | exact knT rfl | exact knJ) ?_)) .nil ⟨Nat.zero_le _, .cons (by first | exact VLe.refl _ | exact VLe.int (by omega) | exact VLe.mt | exact vle_q0 | exact VLe.osl | exact VLe.ptr) .nil, .nil⟩ ?_
  intro i h1
  refine AW.seq ?_
  refine AW.region (by rw [hE]; rfl) ?_
  refine c_lss rfl rfl rfl ?_
  refine OL.nil ?_
  refine AW.seq ?_
  refine AW.cond rfl (fun h10 => ?_) (fun h10 => ?_)
  · first | (simp only [decide_eq_true_eq, decide_eq_false_iff_not, Bool.not_eq_true', Bool.not_eq_false', Bool.not_not, Bool.and_eq_true, Bool.and_eq_false_iff, Bool.or_eq_true, Bool.or_eq_false_iff] at h10) | skip
    refine AW.skip ?_
    refine AW.seq ?_
    refine AW.block ?_
    refine AW.seq ?_
    refine AW.region (by rw [hE]; rfl) ?_
    refine ixLn sl.ints 0 rfl rfl (by omega) rfl rfl ?_
    refine ldRC ce.int rfl ?_
    refine asD rfl ?_
    refine OL.nil ?_
    refine AW.seq ?_
    have kg := k.get (t := i) (by omega)
    refine AW.region (by rw [hE]; rfl) ?_
    refine mvD rfl ?_
    refine c_lss rfl rfl (c := false) (by first | exact decide_eq_true (by omega) | exact decide_eq_false (by omega) | exact cne_f (by omega) | exact cne_t (by omega) | rfl) ?_
    refine mvD rfl ?_
    refine OL.yes rfl ?_
    refine mvD rfl ?_
    refine OL.yes rfl ?_
    refine mvD rfl ?_
    refine OL.yes rfl ?_
    refine c_gtr rfl rfl (c := false) (by first | exact decide_eq_true (by omega) | exact decide_eq_false (by omega) | exact cne_f (by omega) | exact cne_t (by omega) | rfl) ?_
    refine pkF rfl rfl ?_
    refine OL.nil ?_
    refine AW.cond rfl (fun hno => absurd hno (by decide)) (fun _ => ?_)
    refine AW.skip ?_
    refine AW.region (by rw [hE]; rfl) ?_
    refine add_i64 rfl rfl (by omega) ?_
    refine mvD rfl ?_
    refine OL.nil ?_
    exact AW.again (x := i) (i + 1) (by first | omega | (simp only []; omega)) ⟨by omega, Knows.app (.cons (VLe.refl _) (.cons (VLe.refl _) (.cons (VLe.refl _) (.cons (VLe.refl _) .nil)))) (.cons (by first | exact VLe.refl _ | exact VLe.int (by omega) | exact VLe.mt | exact vle_q0 | exact VLe.osl | exact VLe.ptr) .nil), .nil⟩
  · first | (simp only [decide_eq_true_eq, decide_eq_false_iff_not, Bool.not_eq_true', Bool.not_eq_false', Bool.not_not, Bool.and_eq_true, Bool.and_eq_false_iff, Bool.or_eq_true, Bool.or_eq_false_iff] at h10) | skip
    refine AW.exit ?_
    refine AW.seq ?_
    refine AW.region (by rw [hE]; rfl) ?_
    refine mvD rfl ?_
    refine c_geq rfl rfl (c := true) (by first | exact decide_eq_true (by omega) | exact decide_eq_false (by omega) | exact cne_f (by omega) | exact cne_t (by omega) | rfl) ?_
    refine mvD rfl ?_
    refine OL.yes rfl ?_
    refine mvD rfl ?_
    refine OL.yes rfl ?_
    refine c_leq rfl rfl (c := true) (by first | exact decide_eq_true (by omega) | exact decide_eq_false (by omega) | exact cne_f (by omega) | exact cne_t (by omega) | rfl) ?_
    refine pkT rfl rfl ?_
    refine mvD rfl ?_
    refine OL.yes rfl ?_
    refine mvD rfl ?_
    refine OL.yes rfl ?_
    refine lnL sl.ints rfl rfl ?_
    refine OL.yes rfl ?_
    refine c_leq rfl rfl (c := true) (by first | exact decide_eq_true (by omega) | exact decide_eq_false (by omega) | exact cne_f (by omega) | exact cne_t (by omega) | rfl) ?_
    refine pkT rfl rfl ?_
    refine asD rfl ?_
    refine OL.nil ?_
    exact AW.ret (RetQ.r ⟨_, .tmp rfl .nil, .le (by first | exact VLe.refl _ | exact VLe.mt | exact vle_q0 | exact VLe.int (by omega) | exact VLe.bool (by simp_all))⟩)
end Go.Proofs.YtoohdcpikkkanaaGreat

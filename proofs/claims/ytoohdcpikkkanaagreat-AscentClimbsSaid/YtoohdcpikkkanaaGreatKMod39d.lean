/-
  M, chapter 39: the model with the expected frequencies.
-/
import Derived.Test.YtoohdcpikkkanaaGreatKMod39c
set_option linter.unusedVariables false
set_option linter.unusedSimpArgs false
namespace Go.AL
open Go Go.BigFrame
theorem sgn9 {q : Rat} : 0 < sgnQ q ↔ 0 < q := by
 rw [← sgnQ_pos]
 have := sgnQ_cases q
 omega
def poolN (h : HM) (X : List (List Int)) (i j : Nat) : List Rat := (List.range h.sym).map fun x => sumN (fun j => if h.ties.getD j 0 = h.ties.getD i 0 then (shL h X j).getD x 0 else 0) j
def vTot (h : HM) (X : List (List Int)) (i : Nat) : Rat := sumQ (mvL h X i ++ [(enL h X).getD i 0])
def uTot (h : HM) (X : List (List Int)) (i : Nat) : Rat := sumQ (poolN h X i h.st)
def reHM (h : HM) (X : List (List Int)) : HM where
 sym := h.sym
 st := h.st
 empty := (emN X : Rat) / (X.length : Rat)
 ini := (stL h X).map fun x => x / (X.length : Rat)
 trans := (List.range h.st).map fun i => if 0 < vTot h X i then (mvL h X i).map (fun x => x / vTot h X i) else h.trans.getD i []
 stop := (List.range h.st).map fun i => if 0 < vTot h X i then (enL h X).getD i 0 / vTot h X i else h.stop.getD i 0
 emit := (List.range h.st).map fun i => if 0 < uTot h X i then (poolN h X i h.st).map (fun x => x / uTot h X i) else h.emit.getD i []
 silent := h.silent
 ties := h.ties
section
variable {h : HM} {X : List (List Int)} {B : Nat}
theorem poolN_len (h : HM) (X : List (List Int)) (i j : Nat) : (poolN h X i j).length = h.sym := by simp [poolN]
theorem poolN_zero (h : HM) (X : List (List Int)) (i : Nat) : poolN h X i 0 = List.replicate h.sym 0 := by
 refine List.ext_getElem (by simp [poolN]) fun k h1 h2 => ?_
 simp [poolN, sumN]
theorem poolN_add {i j : Nat} (e : h.ties.getD j 0 = h.ties.getD i 0) : poolN h X i (j + 1) = addL (poolN h X i j) (shL h X j) := by
 refine List.ext_getElem (by simp [poolN, addL]) fun k h1 h2 => ?_
 have hk : k < h.sym := by simpa [poolN] using h1
 rw [← getD_lt h1 0, ← getD_lt h2 0, addL_get (by rw [poolN_len]; exact hk)]
 unfold poolN
 rw [map_get9 _ _ hk, map_get9 _ _ hk, sumN, if_pos e]
theorem poolN_same {i j : Nat} (e : h.ties.getD j 0 ≠ h.ties.getD i 0) : poolN h X i (j + 1) = poolN h X i j := by
 unfold poolN
 refine List.map_congr_left fun x _ => ?_
 rw [sumN, if_neg e, Rat.add_zero]
theorem re_trans {i : Nat} (hi : i < h.st) : (reHM h X).trans.getD i [] = if 0 < vTot h X i then (mvL h X i).map (fun x => x / vTot h X i) else h.trans.getD i [] := map_get9 _ _ hi
theorem re_stop {i : Nat} (hi : i < h.st) : (reHM h X).stop.getD i 0 = if 0 < vTot h X i then (enL h X).getD i 0 / vTot h X i else h.stop.getD i 0 := map_get9 _ _ hi
theorem re_emit {i : Nat} (hi : i < h.st) : (reHM h X).emit.getD i [] = if 0 < uTot h X i then (poolN h X i h.st).map (fun x => x / uTot h X i) else h.emit.getD i [] := map_get9 _ _ hi
abbrev CX : Nat := 800000006
theorem acc_small {n : Nat} {f : List Int → List Rat} (k : DataOK h X) (hf : ∀ w, w ∈ X → Small 160000000 (f w)) : Small CX (accL n f X) := (accL_small hf (by decide)).mono (by
 have := k.len
 have h2 : X.length * (160000000 + 1) ≤ 5 * 160000001 := Nat.mul_le_mul_right _ (by omega)
 show _ ≤ 800000006
 omega)
theorem DataOK.few (k : DataOK h X) : h.st ≤ 4 := by
 have h1 := k.len
 exact (k.get (i := 0) (by omega)).2.st
theorem st_small (f : h.Form B) (k : DataOK h X) (ha : AllL h X) : Small CX (stL h X) := acc_small k fun w hw => exS_small f (k.word w hw).2 (ha w hw)
theorem en_small (f : h.Form B) (k : DataOK h X) (ha : AllL h X) : Small CX (enL h X) := acc_small k fun w hw => exE_small f (k.word w hw).2 (ha w hw)
theorem mv_small (f : h.Form B) (k : DataOK h X) (ha : AllL h X) (i : Nat) : Small CX (mvL h X i) := acc_small k fun w hw => exM_small f (k.word w hw).2 (ha w hw) i
theorem sh_small (f : h.Form B) (k : DataOK h X) (ha : AllL h X) (i : Nat) : Small CX (shL h X i) := acc_small k fun w hw => exO_small f (k.word w hw).2 (ha w hw) i
theorem pool_small (f : h.Form B) (k : DataOK h X) (ha : AllL h X) (i j : Nat) (hj : j ≤ 4) : Small 3200000029 (poolN h X i j) := small_map fun x _ => by
 have := sumN_sz4 (C := CX) (f := fun j => if h.ties.getD j 0 = h.ties.getD i 0 then (shL h X j).getD x 0 else 0) (n := j) (fun j => by
  show sz (if h.ties.getD j 0 = h.ties.getD i 0 then (shL h X j).getD x 0 else 0) ≤ _
  split
  ·exact (sh_small f k ha j).get (by decide) x
  ·rw [sz_zero]; decide) hj
 exact this
theorem row_small9 (f : h.Form B) (k : DataOK h X) (ha : AllL h X) (i : Nat) : Small CX (mvL h X i ++ [(enL h X).getD i 0]) := (mv_small f k ha i).app (Small.one ((en_small f k ha).get (by decide) i))
theorem row_big9 {l : List Rat} {y : Rat} {n : Nat} (h1 : l.length = n) (h2 : n ≤ 4) : (l ++ [y]).length * (CX + 1) + 1 ≤ 68719476736 := by
 have h0 : (l ++ [y]).length ≤ 5 := by rw [List.length_append, h1]; simp only [List.length_singleton]; omega
 have h3 : (l ++ [y]).length * (CX + 1) ≤ 4000000035 := Nat.le_trans (Nat.mul_le_mul_right _ h0) (by decide)
 exact Nat.le_trans (Nat.add_le_add_right h3 1) (by decide)
theorem pool_big9 {h : HM} {X : List (List Int)} {i j : Nat} (hs : h.sym ≤ 12) : (poolN h X i j).length * (3200000029 + 1) + 1 ≤ 68719476736 := by
 rw [poolN_len]
 have h3 : h.sym * (3200000029 + 1) ≤ 38400000360 := Nat.le_trans (Nat.mul_le_mul_right _ hs) (by decide)
 exact Nat.le_trans (Nat.add_le_add_right h3 1) (by decide)
theorem v_sz (f : h.Form B) (k : DataOK h X) (ha : AllL h X) (i : Nat) : sz (vTot h X i) ≤ 5000000000 := by
 have h1 := sumQ_sz (row_small9 f k ha i)
 have h2 := k.few
 rw [List.length_append, show (mvL h X i).length = h.st from accL_len ..] at h1
 have h3 : (h.st + [(enL h X).getD i 0].length) * (CX + 1) ≤ 5 * (CX + 1) := Nat.mul_le_mul_right _ (by simp only [List.length_singleton]; omega)
 show sz (sumQ (mvL h X i ++ [(enL h X).getD i 0])) ≤ _
 have h4 : CX = 800000006 := rfl
 omega
theorem u_sz (f : h.Form B) (k : DataOK h X) (ha : AllL h X) (hs : h.sym ≤ 12) (i : Nat) : sz (uTot h X i) ≤ 40000000000 := by
 have h2 := k.few
 have h1 := sumQ_sz (pool_small f k ha i h.st h2)
 rw [poolN_len] at h1
 have h3 : h.sym * (3200000029 + 1) ≤ 12 * (3200000029 + 1) := Nat.mul_le_mul_right _ hs
 show sz (sumQ (poolN h X i h.st)) ≤ _
 omega
end
end Go.AL

/-
  Walks of the specification of chapter 34, for great numbers (printed by mk2.py).
-/
import Derived.Test.YtjghehkgmanmbaaGreatKFxC
import Derived.Test.YtjghehkgmanmbaaGreatKAlg34
set_option linter.unusedVariables false
set_option linter.unusedSimpArgs false
namespace Go.Proofs.YtjghehkgmanmbaaGreat
open Go Go.AL
theorem vd_to {x y : V} {d : D} (h : x = y) (hd : VD y d) : VD x d := h ▸ hd
theorem vc_to {x y : V} {d : D} (h : x = y) (hd : VC y d) : VC x d := h ▸ hd
abbrev nilD : D := .sc (.slice none 0 0)
theorem raw.Rats : (P.info? T.Rats).bind (fun i => i.zero.map fun z => z.cells.toList) = some [.slice none 0 0] := by kernel_rfl
def hdA (i b c : Nat) : D := if i = 0 then nilD else hdC b i c
theorem hdA_zero (b c : Nat) : hdA 0 b c = nilD := rfl
theorem hdA_pos {i b c : Nat} (h : 0 < i) : hdA i b c = hdC b i c := if_neg (by omega)
theorem hdA_cells (i b c : Nat) : (hdA i b c).cells = [hdA i b c] := by unfold hdA; split <;> rfl
theorem vle_hdA (id : Nat) {i b c : Nat} (h0 : i = 0 → c = 0) (h1 : i ≤ c) : VLe (.d (hdA i b c)) (.osl id b i c) := by
 by_cases h : i = 0
 ·subst h
  rw [h0 rfl]
  intro F v hs
  rw [sc_val hs]
  exact .osl (fun e => absurd e (Nat.lt_irrefl 0)) (Nat.le_refl 0)
 ·rw [hdA_pos (by omega)]; exact vle_head id h1
def colN (h : HM) (w : List Int) (d : Nat) : List D := (List.range w.length).map fun j => if w.length ≤ j + d then dQs (bwdF h w (w.length - 1 - j)) else nilD
theorem colN_len (h : HM) (w : List Int) (d : Nat) : (colN h w d).length = w.length := by simp [colN]
theorem colN_zero (h : HM) (w : List Int) : colN h w 0 = List.replicate w.length nilD := by
 refine List.ext_getElem (by simp [colN]) fun k h1 h2 => ?_
 have hk : k < w.length := by simpa [colN] using h1
 simp only [colN, List.getElem_map, List.getElem_range, List.getElem_replicate]
 rw [if_neg (by omega)]
theorem colN_at {h : HM} {w : List Int} {d a : Nat} (hd : d < w.length) (ha : a = w.length - 1 - d) : (colN h w d)[a]? = some nilD := by
 unfold colN
 rw [List.getElem?_map, List.getElem?_range (by omega), Option.map_some, if_neg (by omega)]
theorem colN_get {h : HM} {w : List Int} {d j : Nat} (hj : j < w.length) (hd : w.length ≤ j + d) : (colN h w d)[j]? = some (dQs (bwdF h w (w.length - 1 - j))) := by
 unfold colN
 rw [List.getElem?_map, List.getElem?_range hj, Option.map_some, if_pos hd]
theorem set_at {α : Type} {l : List α} {i : Nat} {x : α} (h : l[i]? = some x) : l.set i x = l := by
 refine List.ext_getElem? fun k => ?_
 rw [List.getElem?_set]
 split
 ·rename_i e; subst e
  rw [h]
  split
  ·rfl
  ·rename_i e; rw [List.getElem?_eq_none (by omega)] at h; cases h
 ·rfl
theorem colN_set {h : HM} {w : List Int} {d a : Nat} (hd : d < w.length) (ha : a = w.length - 1 - d) : (colN h w d).set a (dQs (bwdF h w d)) = colN h w (d + 1) := by
 refine List.ext_getElem (by simp [colN]) fun k h1 h2 => ?_
 have hk : k < w.length := by simpa [colN] using h2
 rw [List.getElem_set]
 simp only [colN, List.getElem_map, List.getElem_range]
 by_cases hq : a = k
 ·rw [if_pos hq, if_pos (by omega), show w.length - 1 - k = d by omega]
 ·rw [if_neg hq]
  by_cases h3 : w.length ≤ k + d
  ·rw [if_pos h3, if_pos (by omega)]
  ·rw [if_neg h3, if_neg (by omega)]
theorem colN_all (h : HM) (w : List Int) : colN h w w.length = (colsB h w w.length).map dQs := by
 refine List.ext_getElem (by simp [colN, colsB]) fun k h1 h2 => ?_
 have hk : k < w.length := by simpa [colN] using h1
 simp only [colN, colsB, List.getElem_map, List.getElem_range]
 rw [if_pos (by omega), if_pos (by omega)]
def posN (h : HM) (w : List Int) (t : Nat) : List D := fillF nilD (fun i => dQs (postF h w i)) w.length t
theorem posN_len (h : HM) (w : List Int) (t : Nat) : (posN h w t).length = w.length := fillF_len ..
theorem posN_at {h : HM} {w : List Int} {t : Nat} (ht : t < w.length) : (posN h w t)[t]? = some nilD := by
 unfold posN fillF
 rw [List.getElem?_map, List.getElem?_range ht, Option.map_some, if_neg (Nat.lt_irrefl t)]
theorem posN_set {h : HM} {w : List Int} {t : Nat} (ht : t < w.length) : (posN h w t).set t (dQs (postF h w t)) = posN h w (t + 1) := fillF_set (g := fun i => dQs (postF h w i)) ht
theorem posN_all (h : HM) (w : List Int) : posN h w w.length = ((List.range w.length).map (postF h w)).map dQs := by
 rw [posN, fillF_all, List.map_map]; rfl
theorem take_row {l : List Rat} {n : Nat} (h : l.length = n) : ((l.take n).map dQ).take n = l.map dQ := by
 rw [List.take_of_length_le (l := l) (by omega), List.take_of_length_le (by rw [List.length_map]; omega)]
def ownGp : Nat → Option Nat
 | 76 => some 0
 | 77 => some 1
 | 78 => some 2
 | 79 => some 3
 | 80 => some 4
 | 81 => some 5
 | 82 => some 6
 | 83 => some 7
 | 84 => some 8
 | 85 => some 9
 | _ => none
theorem ownGp_inj {t i : Nat} (h : ownGp t = some i) : t = [76, 77, 78, 79, 80, 81, 82, 83, 84, 85].getD i 0 := by
 unfold ownGp at h
 split at h <;> first | (cases h; rfl) | cases h
noncomputable def valGp (x : Rat) (es : List D) (tz : Int) (ob on a_ q i c : Nat) (t : Nat) (β : Nat → Nat × Nat) : V :=
 match t with
 | 76 => .osl 43 ob on on
 | 77 => .d (dI tz)
 | 78 => .osl 43 ob on on
 | 79 => .d (dI tz)
 | 80 => .eptr 43 ob 1 a_ 0
 | 81 => .osl 84 q i c
 | 82 => vQ x
 | 83 => .d (.sl [dQ x])
 | 84 => .osl 84 (β 84).1 (i + 1) (β 84).2
 | 85 => .eptr 43 ob 1 a_ 0
 | _ => .junk
noncomputable abbrev telGp (x : Rat) (es : List D) (tz : Int) (ob on a_ q i c : Nat) : List Tell := [⟨84, 8, fun β => .row (β 84).1 (β 84).2 T.Rat 3 (es ++ [dQ x])⟩]
theorem casGp {p : Nat → Prop} (h0 : p 0) (h1 : p 1) (h2 : p 2) (h3 : p 3) (h4 : p 4) (h5 : p 5) (h6 : p 6) (h7 : p 7) (h8 : p 8) (h9 : p 9) : ∀ i, i < 10 → p i := fun i hi => by
 have : i = 0 ∨ i = 1 ∨ i = 2 ∨ i = 3 ∨ i = 4 ∨ i = 5 ∨ i = 6 ∨ i = 7 ∨ i = 8 ∨ i = 9 := by omega
 rcases this with rfl | rfl | rfl | rfl | rfl | rfl | rfl | rfl | rfl | rfl <;> assumption
def ownGb : Nat → Option Nat
 | 84 => some 0
 | 85 => some 1
 | 86 => some 2
 | 87 => some 3
 | 88 => some 4
 | 89 => some 5
 | 90 => some 6
 | 91 => some 7
 | 92 => some 8
 | 93 => some 9
 | _ => none
theorem ownGb_inj {t i : Nat} (h : ownGb t = some i) : t = [84, 85, 86, 87, 88, 89, 90, 91, 92, 93].getD i 0 := by
 unfold ownGb at h
 split at h <;> first | (cases h; rfl) | cases h
noncomputable def valGb (x : Rat) (es : List D) (tz : Int) (ob on a_ q i c : Nat) (t : Nat) (β : Nat → Nat × Nat) : V :=
 match t with
 | 84 => .osl 20 ob on on
 | 85 => .d (dI tz)
 | 86 => .osl 20 ob on on
 | 87 => .d (dI tz)
 | 88 => .eptr 20 ob 1 a_ 0
 | 89 => .osl 92 q i c
 | 90 => vQ x
 | 91 => .d (.sl [dQ x])
 | 92 => .osl 92 (β 92).1 (i + 1) (β 92).2
 | 93 => .eptr 20 ob 1 a_ 0
 | _ => .junk
noncomputable abbrev telGb (x : Rat) (es : List D) (tz : Int) (ob on a_ q i c : Nat) : List Tell := [⟨92, 8, fun β => .row (β 92).1 (β 92).2 T.Rat 3 (es ++ [dQ x])⟩]
theorem casGb {p : Nat → Prop} (h0 : p 0) (h1 : p 1) (h2 : p 2) (h3 : p 3) (h4 : p 4) (h5 : p 5) (h6 : p 6) (h7 : p 7) (h8 : p 8) (h9 : p 9) : ∀ i, i < 10 → p i := fun i hi => by
 have : i = 0 ∨ i = 1 ∨ i = 2 ∨ i = 3 ∨ i = 4 ∨ i = 5 ∨ i = 6 ∨ i = 7 ∨ i = 8 ∨ i = 9 := by omega
 rcases this with rfl | rfl | rfl | rfl | rfl | rfl | rfl | rfl | rfl | rfl <;> assumption
def fwdU (h : HM) (w : List Int) (t j : Nat) : Rat := if t = 0 then h.ini.getD j 0 else preF h w (fwdF h w (t - 1)) (t - 1) j h.st
theorem fwdU_pos {h : HM} {w : List Int} {t j : Nat} (ht : 0 < t) : fwdU h w t j = preF h w (fwdF h w (t - 1)) (t - 1) j h.st := if_neg (by omega)
theorem fwdU_zero {h : HM} {w : List Int} {t j : Nat} (ht : t = 0) : fwdU h w t j = h.ini.getD j 0 := if_pos ht
theorem fwdU_eq {h : HM} {w : List Int} {t j : Nat} (hj : j < h.st) : (fwdF h w t).getD j 0 = fwdU h w t j * (h.emit.getD j []).getD (symX w t) 0 := by
 by_cases ht : t = 0
 ·rw [fwdU_zero ht, ht]; exact fwd_zero hj
 ·rw [fwdU_pos (by omega)]; exact fwd_pos (by omega) hj
set_option maxRecDepth 6000 in
set_option maxHeartbeats 3200000 in
theorem ref34_ForwardX {h : HM} {w : List Int} (g : h.GoodW 1048576) (k : WordOK h w) (xz : ExSz h w) : FSpec P F.ref34_Forward [vHM h, .d (ints w)] (.tup [.d (dQss ((List.range w.length).map (fwdF h w))), .d (dI 0)]) := by
 have f := g.form
 have n0 := f.st0
 have n1 := f.st1
 have s1 := f.sym1
 have e1 := f.ini
 have e2 := f.trans
 have e4 := f.emit
 have k1 := k.1
 have fz := xz.s
 refine FSpec.intro fn.ref34_Forward (by rfl) (by rfl) (nb9 (by rfl)) fun E hE => (AW.sg hE rfl (bxA rfl rfl fun b2 => (asM rfl (asD rfl (OL.nil (AW.seq (AW.sg hE rfl ?_)))))))
 refine ldPA ag.Hidden rfl rfl (vs := [_,_,_,_,_,_,_,_,_,_,_]) rfl (nb9 rfl) (mvD rfl (clv rfl (.cons (VLe.refl _) (.cons (VLe.refl _) (.nil))) (ref34_CheckW g k) (asD rfl (OL.nil (AW.sg hE rfl (mvD rfl (c_neq rfl rfl (c := false) (by exact cne_f (by omega)) ?_)))))))
 refine OL.nil (AW.cond rfl (fun hno => absurd hno (by decide)) (fun _ => ?_))
 refine AW.skip (AW.sg hE rfl (asM rfl (OL.nil (AW.seq (AW.sg hE rfl (asD rfl (OL.nil ?_)))))))
 refine AW.block (AW.own 7 84 T.Rats 1 rfl rfl ?_)
 refine AW.whileK (α := Nat × Nat × Nat) [(1, _), (2, _), (4, _), (5, _)] [(2, _)] (fun (t, p, c) => [(7, .osl 84 p t c), (8, .d (dI t))]) (fun (t, p, c) => [(84, .row p c T.Rats 1 (((List.range t).map (fwdF h w)).map dQs))]) (fun (t, p, c) => t ≤ w.length) (fun (t, p, c) => w.length - t) (0, 0, 0) (.cons (knD rfl) (.cons (knP rfl) (.cons (knM rfl) (.cons (knD rfl) .nil)))) (.cons (owB rfl) .nil) ⟨Nat.zero_le _, .cons (VLe.refl _) (.cons (VLe.refl _) .nil), .cons rfl .nil⟩ ?_
 rintro ⟨t, p, c⟩ h1
 have h1 : t ≤ w.length := h1
 have hwl : ((List.range t).map (fwdF h w)).length = t := by simp
 refine AW.seq (AW.sg hE rfl (mvD rfl (mvD rfl (lnL sl.ints rfl rfl (c_lss rfl rfl rfl (OL.nil (AW.cond rfl (fun h22 => ?_) (fun h22 => ?_))))))))
 ·try simp only [dx9] at h22
  refine AW.skip (AW.seq (AW.block (AW.sg hE rfl (asM rfl (OL.nil (AW.seq (AW.sg hE rfl ?_)))))))
  refine asD rfl (OL.nil (AW.block (AW.own 9 80 T.Rat 3 rfl rfl ?_)))
  refine AW.whileK (α := Nat × Nat × Nat) [(1, _), (2, _), (4, _), (5, _), (7, _), (8, _)] [(2, _), (84, _)] (fun (j, q, d) => [(9, .osl 80 q j d), (10, .d (dI j))]) (fun (j, q, d) => [(80, .row q d T.Rat 3 (((fwdF h w t).take j).map dQ))]) (fun (j, q, d) => j ≤ h.st) (fun (j, q, d) => h.st - j) (0, 0, 0) (.cons (knD rfl) (.cons (knP rfl) (.cons (knM rfl) (.cons (knD rfl) (.cons (knO rfl) (.cons (knD rfl) .nil)))))) (.cons (owB rfl) (.cons (owR rfl) .nil)) ⟨Nat.zero_le _, .cons (VLe.refl _) (.cons (VLe.refl _) .nil), .cons rfl .nil⟩ ?_
  rintro ⟨j, q, d⟩ h2
  have h2 : j ≤ h.st := h2
  have hfl := fwdF_len h w t
  have htl : ((fwdF h w t).take j).length = j := by rw [List.length_take]; omega
  refine AW.seq (AW.sg hE rfl (mvD rfl (faP fd.Hidden_1 rfl rfl (ldPC ce.int rfl rfl rfl (c_lss rfl rfl rfl (OL.nil (AW.cond rfl (fun h28 => ?_) (fun h28 => ?_))))))))
  ·try simp only [dx9] at h28
   refine AW.skip (AW.seq (AW.block (AW.seq ?_)))
   have hj : j < h.st := by omega
   have hx := k.symX (t := t) (by omega)
   have hej := f.erow j hj
   have zi := fz.ini j
   have ze : sz ((h.emit.getD j []).getD (symX w t) 0) ≤ 68719476736 := fz.em j (symX w t)
   refine AW.rg hE rfl (faP fd.Hidden_3 rfl rfl (ldPC ce.Rats rfl rfl rfl (mvD rfl (ixLn sl.Rats 0 rfl rfl (by omega) rfl rfl (ldRA ag.Rat rfl (vs := [_,_,_]) rfl (nb9 rfl) (al z.Rat rfl fun b11 => (sto sz.Rat rfl rfl rfl rfl rfl (nb9 rfl) (cells2 := [_,_,_]) rfl ?_)))))))
   refine OL.nil ?_
   refine AW.midK (α := Unit) [(1, _), (2, _), (4, _), (5, _), (7, _), (8, _), (9, _), (10, _), (11, _)] [(2, _), (80, _), (84, _)] (fun _u => []) (fun _u => [(11, .box b11 T.Rat (cellsQ (fwdU h w t j)))]) (fun _u => True) (.cons (knD rfl) (.cons (knP rfl) (.cons (knM rfl) (.cons (knD rfl) (.cons (knO rfl) (.cons (knD rfl) (.cons (knO rfl) (.cons (knD rfl) (.cons (knP rfl) .nil))))))))) (.cons (owB rfl) (.cons (owR rfl) (.cons (owR rfl) .nil))) ?_ ?_
   ·refine AW.sg hE rfl (mvD rfl (c_gtr rfl rfl rfl (OL.nil (AW.cond rfl (fun ht => ?_) (fun ht => ?_)))))
    ·have ht : 0 < t := by have := of_decide_eq_true ht; omega
     have zp := fz.fwd (t - 1) (by omega)
     have hpl := fwdF_len h w (t - 1)
     have hpg : ((List.range t).map (fwdF h w)).getD (t - 1) [] = fwdF h w (t - 1) := map_getD_range _ _ (by omega)
     refine AW.sg hE rfl (bd z.Rat pl.Rat (cs := [_,_,_]) rfl (sto sz.Rat rfl rfl rfl rfl rfl (nb9 rfl) (cells2 := [_,_,_]) rfl (OL.nil (AW.sg hE rfl (asD rfl (OL.nil (AW.block ?_)))))))
     refine AW.boxW 11 (cellsQ 0) rfl vles_q ?_
     refine AW.whileK (α := Nat) [(1, _), (2, _), (4, _), (5, _), (7, _), (8, _), (9, _), (10, _), (11, _)] [(2, _), (80, _), (84, _)] (fun i => [(12, .d (dI i))]) (fun i => [(11, .box b11 T.Rat (cellsQ (preF h w (fwdF h w (t - 1)) (t - 1) j i)))]) (fun i => i ≤ h.st) (fun i => h.st - i) 0 (.cons (knD rfl) (.cons (knP rfl) (.cons (knM rfl) (.cons (knD rfl) (.cons (knO rfl) (.cons (knD rfl) (.cons (knO rfl) (.cons (knD rfl) (.cons (knP rfl) .nil))))))))) (.cons (owB rfl) (.cons (owR rfl) (.cons (owR rfl) .nil))) ⟨Nat.zero_le _, .cons (VLe.refl _) .nil, .cons rfl .nil⟩ ?_
     intro i h3
     have h3 : i ≤ h.st := h3
     have zs := fz.pre (t - 1) j i (by omega) h3
     refine AW.seq (AW.sg hE rfl (mvD rfl (faP fd.Hidden_1 rfl rfl (ldPC ce.int rfl rfl rfl (c_lss rfl rfl rfl (OL.nil (AW.cond rfl (fun h42 => ?_) (fun h42 => ?_))))))))
     ·try simp only [dx9] at h42
      refine AW.skip (AW.seq (AW.block ?_))
      have tri := f.trow i (by omega)
      have zpi := zp i
      have zt : sz ((h.trans.getD i []).getD j 0) ≤ 68719476736 := fz.tr i j
      have zm : sz ((fwdF h w (t - 1)).getD i 0 * (h.trans.getD i []).getD j 0) ≤ 68719476736 := fz.preM (t - 1) i j (by omega)
      refine AW.dg 1 [0,1,2,3,4,5,6,7,8,9,10,11,12,13,14,15,16,17,18,19] order_free hE rfl (by kernel_rfl) (OI.of_OL (os := [_,_,_,_,_,_,_,_,_,_,_,_,_,_,_,_,_,_,_,_]) rfl ?_)
      refine ldPA ag.Rat rfl rfl (vs := [_,_,_]) rfl (nb9 rfl) (mvO rfl (mvD rfl (bo rfl rfl (bin_sub (c := ((t - 1 : Nat) : Int)) (by omega) (wrap_i64 (by omega))) (ixOn sl.Ratss rfl rfl (by omega) (ldEL ce.Rats [] (by decide) rfl rfl (by omega) rfl ?_)))))
      rw [hpg]
      refine mvD rfl (ixLn sl.Rats 0 rfl rfl (by omega) rfl rfl (ldRA ag.Rat rfl (vs := [_,_,_]) rfl (nb9 rfl) (faP fd.Hidden_4 rfl rfl (ldPC ce.Ratss rfl rfl rfl (mvD rfl (ixLn sl.Ratss [] rfl rfl (by omega) rfl rfl (ldRC ce.Rats rfl ?_)))))))
      refine mvD rfl (ixLn sl.Rats 0 rfl rfl (by omega) rfl rfl (ldRA ag.Rat rfl (vs := [_,_,_]) rfl (nb9 rfl) (clv rfl (.cons (VLe.refl _) (.cons (VLe.refl _) (.nil))) (ref_MulQ (x := (fwdF h w (t - 1)).getD i 0) (y := (h.trans.getD i []).getD j 0) (by omega) (by omega)) (clv rfl (.cons (VLe.refl _) (.cons (VLe.refl _) (.nil))) (ref_AddQ (x := preF h w (fwdF h w (t - 1)) (t - 1) j i) (y := (fwdF h w (t - 1)).getD i 0 * (h.trans.getD i []).getD j 0) (by omega) (by omega)) ?_))))
      rw [show preF h w (fwdF h w (t - 1)) (t - 1) j i + (fwdF h w (t - 1)).getD i 0 * (h.trans.getD i []).getD j 0 = preF h w (fwdF h w (t - 1)) (t - 1) j (i + 1) from rfl]
      refine sto sz.Rat rfl rfl rfl rfl rfl (nb9 rfl) (cells2 := [_,_,_]) rfl (OL.nil (AW.rg hE rfl (mvD rfl (add_i64 rfl rfl (by omega) (asD rfl (OL.nil ?_))))))
      exact AW.again (x := i) (i + 1) (by omega) ⟨by omega, Knows.app (.cons (VLe.refl _) (.cons (VLe.refl _) (.cons (VLe.refl _) (.cons (VLe.refl _) (.cons (VLe.refl _) (.cons (VLe.refl _) (.cons (VLe.refl _) (.cons (VLe.refl _) (.cons (VLe.refl _) .nil))))))))) (.cons (VLe.refl _) .nil), Owns.app (.cons rfl (.cons rfl (.cons rfl .nil))) (.cons rfl .nil)⟩
     ·try simp only [dx9] at h42
      refine AW.exit ?_
      obtain rfl : i = h.st := by omega
      exact AW.reach () ⟨trivial, Knows.app (.cons (VLe.refl _) (.cons (VLe.refl _) (.cons (VLe.refl _) (.cons (VLe.refl _) (.cons (VLe.refl _) (.cons (VLe.refl _) (.cons (VLe.refl _) (.cons (VLe.refl _) (.cons (VLe.refl _) .nil))))))))) (.nil), Owns.app (.cons rfl (.cons rfl (.cons rfl .nil))) (.cons (by rw [fwdU_pos ht]; rfl) .nil)⟩
    ·have ht : t = 0 := by have := of_decide_eq_false ht; omega
     refine AW.skip ?_
     exact AW.reach () ⟨trivial, Knows.app (.cons (VLe.refl _) (.cons (VLe.refl _) (.cons (VLe.refl _) (.cons (VLe.refl _) (.cons (VLe.refl _) (.cons (VLe.refl _) (.cons (VLe.refl _) (.cons (VLe.refl _) (.cons (VLe.refl _) .nil))))))))) (.nil), Owns.app (.cons rfl (.cons rfl (.cons rfl .nil))) (.cons (by rw [fwdU_zero ht]; rfl) .nil)⟩
   rintro ⟨⟩ hφ
   have zu : sz (fwdU h w t j) ≤ 68719476736 := by
    unfold fwdU
    split
    ·exact zi
    ·exact fz.pre (t - 1) j h.st (by omega) (Nat.le_refl _)
   have hfg : (fwdF h w t).getD j 0 = fwdU h w t j * (h.emit.getD j []).getD (symX w t) 0 := fwdU_eq hj
   refine AW.dg 2 [0,1,2,3,4,5,6,7,8,9,10,11,12,13,14,15,16,17] order_free hE rfl (by kernel_rfl) (OI.of_OL (os := [_,_,_,_,_,_,_,_,_,_,_,_,_,_,_,_,_,_]) rfl ?_)
   refine mvO rfl (ldPA ag.Rat rfl rfl (vs := [_,_,_]) rfl (nb9 rfl) (faP fd.Hidden_6 rfl rfl (ldPC ce.Ratss rfl rfl rfl (mvD rfl (ixLn sl.Ratss [] rfl rfl (by omega) rfl rfl (ldRC ce.Rats rfl (mvD rfl ?_)))))))
   refine mvD rfl (ixLn sl.ints 0 rfl rfl (by omega) rfl rfl (ldRC ce.int rfl ?_))
   rw [hx.2]
   refine bo rfl rfl (bin_sub (c := (symX w t : Int)) (by omega) (wrap_i64 (by omega))) (ixLn sl.Rats 0 rfl rfl (by omega) rfl rfl (ldRA ag.Rat rfl (vs := [_,_,_]) rfl (nb9 rfl) (clv rfl (.cons (VLe.refl _) (.cons (VLe.refl _) (.nil))) (ref_MulQ (x := fwdU h w t j) (y := (h.emit.getD j []).getD (symX w t) 0) (by omega) (by omega)) ?_)))
   rw [← hfg]
   refine lt1 (y := dQ ((fwdF h w t).getD j 0)) sl.Rats vd_q rfl (by decide) ?_
   refine apO sl.Rats rfl rfl rfl (by rw [List.length_map]; omega) (VC.d _) (by intro y hy; rw [List.mem_singleton.1 hy]; rfl) (by simp; omega) (by simp; omega) (.inr rfl) (ys := (((fwdF h w t).take (j + 1)).map dQ)) (by rw [take_succ_getD (by omega) 0, List.map_append]; rfl) (n2 := j + 1) (by simp) fun q2 d2 => ?_
   refine asO rfl (OL.nil (AW.rg hE rfl (mvD rfl (add_i64 rfl rfl (by omega) (asD rfl (OL.nil ?_))))))
   exact AW.again (x := (j, q, d)) (j + 1, q2, d2) (by (simp only []; omega)) ⟨by omega, Knows.app (.cons (VLe.refl _) (.cons (VLe.refl _) (.cons (VLe.refl _) (.cons (VLe.refl _) (.cons (VLe.refl _) (.cons (VLe.refl _) .nil)))))) (.cons (VLe.refl _) (.cons (VLe.refl _) .nil)), Owns.app (.cons rfl (.cons rfl .nil)) (.cons rfl .nil)⟩
  ·try simp only [dx9] at h28
   refine AW.exit ?_
   obtain rfl : j = h.st := by omega
   refine AW.freeze 80 rfl (AW.to [(1, .d (ints w)), (2, .ptr 2 b2 0), (7, .osl 84 p t c), (8, .d (dI t)), (4, .mt), (5, .d (dI 0)), (9, .d (dQs (fwdF h w t)))] [(2, .box b2 T.Hidden (cellsHM h)), (84, .row p c T.Rats 1 (((List.range t).map (fwdF h w)).map dQs))] (.cons (VLe.refl _) (.cons (VLe.refl _) (.cons (VLe.refl _) (.cons (VLe.refl _) (.cons (VLe.refl _) (.cons (VLe.refl _) (.cons (frz_osl (by rw [List.length_map]; omega) (by rw [List.take_of_length_le (by omega)])) .nil))))))) (.cons rfl (.cons rfl .nil)) ?_)
   refine AW.rg hE rfl (mvO rfl (mvD rfl (lt1 (y := dQs (fwdF h w t)) sl.Ratss (VC.d _).vd rfl (by decide) ?_)))
   refine apO sl.Ratss rfl rfl rfl (by rw [List.length_map]; omega) (VC.d _) (by intro y hy; rw [List.mem_singleton.1 hy]; rfl) (by simp; omega) (by simp; omega) (.inr rfl) (ys := (((List.range (t + 1)).map (fwdF h w)).map dQs)) (by rw [List.range_succ, List.map_append, List.map_append]; rfl) (n2 := t + 1) (by simp) fun p2 c2 => ?_
   refine asO rfl (OL.nil (AW.rg hE rfl (mvD rfl (add_i64 rfl rfl (by omega) (asD rfl (OL.nil ?_))))))
   exact AW.again (x := (t, p, c)) (t + 1, p2, c2) (by (simp only []; omega)) ⟨by omega, Knows.app (.cons (VLe.refl _) (.cons (VLe.refl _) (.cons (VLe.refl _) (.cons (VLe.refl _) .nil)))) (.cons (VLe.refl _) (.cons (VLe.refl _) .nil)), Owns.app (.cons rfl .nil) (.cons rfl .nil)⟩
 ·try simp only [dx9] at h22
  refine AW.exit (AW.seq ?_)
  obtain rfl : t = w.length := by omega
  exact AW.rg hE rfl (mvO rfl (asO rfl (asD rfl (OL.nil (AW.ret (RetQ.r ⟨_, .tmp rfl (.tmp rfl .nil), _, .cons (RO.row rfl (by rw [List.length_map]; omega) rfl) (.cons (.le (VLe.refl _)) .nil), rfl⟩))))))
set_option maxRecDepth 4000 in
set_option maxHeartbeats 1600000 in
theorem ref34_LikelihoodX {h : HM} {w : List Int} (g : h.GoodW 1048576) (k : WordOK h w) (xz : ExSz h w) : FSpec P F.ref34_Likelihood [vHM h, .d (ints w)] (.tup [vQ (likF h w), .d (dI 0)]) := by
 have f := g.form
 have n0 := f.st0
 have n1 := f.st1
 have e3 := f.stop
 have k1 := k.1
 have fz := xz.s
 refine FSpec.intro fn.ref34_Likelihood (by rfl) (by rfl) (nb9 (by rfl)) fun E hE => (AW.sg hE rfl (bxA rfl rfl fun b2 => (al z.Rat rfl fun b4 => (asD rfl (OL.nil (AW.sg hE rfl (ldPA ag.Hidden rfl rfl (vs := [_,_,_,_,_,_,_,_,_,_,_]) rfl (nb9 rfl) ?_)))))))
 refine mvD rfl (clv rfl (.cons (VLe.refl _) (.cons (VLe.refl _) (.nil))) (ref34_ForwardX g k xz) (mvT rfl (ex rfl rfl (ex rfl rfl (asD rfl (asD rfl (OL.nil ?_)))))))
 refine AW.seq (AW.sg hE rfl (mvD rfl (c_neq rfl rfl (c := false) (by exact cne_f (by omega)) (OL.nil (AW.cond rfl (fun hno => absurd hno (by decide)) (fun _ => ?_))))))
 refine AW.skip (AW.seq (AW.sg hE rfl (mvD rfl (lnL sl.ints rfl rfl (c_eql rfl rfl rfl (OL.nil (AW.cond rfl (fun h0 => ?_) (fun h0 => ?_))))))))
 ·have h0 : w.length = 0 := by have := of_decide_eq_true h0; omega
  rw [show likF h w = h.empty from if_pos h0]
  exact AW.sg hE rfl (faP fd.Hidden_2 rfl rfl (ldPA ag.Rat rfl rfl (vs := [_,_,_]) rfl (nb9 rfl) (sto sz.Rat rfl rfl rfl rfl rfl (nb9 rfl) (cells2 := [_,_,_]) rfl (asD rfl (OL.nil (AW.ret (RetQ.r ⟨_, .cellA rfl rfl ag.Rat (nb9 rfl) (.tmp rfl .nil), _, .cons (.ag (.cons (.le (VLe.refl _)) (.cons (.le (VLe.refl _)) (.cons (.le (VLe.refl _)) .nil)))) (.cons (.le (VLe.refl _)) .nil), rfl⟩)))))))
 ·have h0 : w.length ≠ 0 := fun e => of_decide_eq_false h0 (by omega)
  rw [show likF h w = likN h (fwdF h w (w.length - 1)) h.st from if_neg h0]
  have hfl := fwdF_len h w (w.length - 1)
  refine AW.skip (AW.sg hE rfl (bd z.Rat pl.Rat (cs := [_,_,_]) rfl (al z.Rat rfl fun b8 => (sto sz.Rat rfl rfl rfl rfl rfl (nb9 rfl) (cells2 := [_,_,_]) rfl (OL.nil (AW.seq (AW.sg hE rfl ?_)))))))
  refine asD rfl (OL.nil (AW.block (AW.boxW 8 (cellsQ 0) rfl vles_q ?_)))
  refine AW.whileK (α := Nat) [(1, _), (2, _), (4, _), (5, _), (6, _), (8, _)] [(2, _), (4, _)] (fun i => [(9, .d (dI i))]) (fun i => [(8, .box b8 T.Rat (cellsQ (likN h (fwdF h w (w.length - 1)) i)))]) (fun i => i ≤ h.st) (fun i => h.st - i) 0 (.cons (knD rfl) (.cons (knP rfl) (.cons (knP rfl) (.cons (knD rfl) (.cons (knD rfl) (.cons (knP rfl) .nil)))))) (.cons (owB rfl) (.cons (owB rfl) .nil)) ⟨Nat.zero_le _, .cons (VLe.refl _) .nil, .cons rfl .nil⟩ ?_
  intro i h1
  have h1 : i ≤ h.st := h1
  have zl := fz.lik (w.length - 1) i (by omega) h1
  refine AW.seq (AW.sg hE rfl (mvD rfl (faP fd.Hidden_1 rfl rfl (ldPC ce.int rfl rfl rfl (c_lss rfl rfl rfl (OL.nil (AW.cond rfl (fun h29 => ?_) (fun h29 => ?_))))))))
  ·try simp only [dx9] at h29
   refine AW.skip (AW.seq (AW.block ?_))
   have zi := fz.fwd (w.length - 1) (by omega) i
   have zt := fz.stop i
   have zm := fz.likM (w.length - 1) i (by omega)
   refine AW.dg 1 [0,1,2,3,4,5,6,7,8,9,10,11,12,13,14,15,16,17] order_free hE rfl (by kernel_rfl) (OI.of_OL (os := [_,_,_,_,_,_,_,_,_,_,_,_,_,_,_,_,_,_]) rfl ?_)
   refine ldPA ag.Rat rfl rfl (vs := [_,_,_]) rfl (nb9 rfl) (mvD rfl (mvD rfl (lnL sl.ints rfl rfl (bo rfl rfl (bin_sub (c := ((w.length - 1 : Nat) : Int)) (by omega) (wrap_i64 (by omega))) (ixLn sl.Ratss [] rfl rfl (by rw [List.length_map, List.length_range]; omega) rfl rfl (ldRC ce.Rats rfl ?_))))))
   rw [map_getD_range (fwdF h w) [] (show w.length - 1 < w.length by omega)]
   refine mvD rfl (ixLn sl.Rats 0 rfl rfl (by omega) rfl rfl (ldRA ag.Rat rfl (vs := [_,_,_]) rfl (nb9 rfl) (faP fd.Hidden_5 rfl rfl (ldPC ce.Rats rfl rfl rfl (mvD rfl (ixLn sl.Rats 0 rfl rfl (by omega) rfl rfl (ldRA ag.Rat rfl (vs := [_,_,_]) rfl (nb9 rfl) ?_)))))))
   refine clv rfl (.cons (VLe.refl _) (.cons (VLe.refl _) (.nil))) (ref_MulQ (x := (fwdF h w (w.length - 1)).getD i 0) (y := h.stop.getD i 0) (by omega) (by omega)) (clv rfl (.cons (VLe.refl _) (.cons (VLe.refl _) (.nil))) (ref_AddQ (x := likN h (fwdF h w (w.length - 1)) i) (y := (fwdF h w (w.length - 1)).getD i 0 * h.stop.getD i 0) (by omega) (by omega)) ?_)
   rw [show likN h (fwdF h w (w.length - 1)) i + (fwdF h w (w.length - 1)).getD i 0 * h.stop.getD i 0 = likN h (fwdF h w (w.length - 1)) (i + 1) from rfl]
   refine sto sz.Rat rfl rfl rfl rfl rfl (nb9 rfl) (cells2 := [_,_,_]) rfl (OL.nil (AW.rg hE rfl (mvD rfl (add_i64 rfl rfl (by omega) (asD rfl (OL.nil ?_))))))
   exact AW.again (x := i) (i + 1) (by omega) ⟨by omega, Knows.app (.cons (VLe.refl _) (.cons (VLe.refl _) (.cons (VLe.refl _) (.cons (VLe.refl _) (.cons (VLe.refl _) (.cons (VLe.refl _) .nil)))))) (.cons (VLe.refl _) .nil), Owns.app (.cons rfl (.cons rfl .nil)) (.cons rfl .nil)⟩
  ·try simp only [dx9] at h29
   refine AW.exit (AW.seq ?_)
   obtain rfl : i = h.st := by omega
   exact AW.rg hE rfl (ldPA ag.Rat rfl rfl (vs := [_,_,_]) rfl (nb9 rfl) (sto sz.Rat rfl rfl rfl rfl rfl (nb9 rfl) (cells2 := [_,_,_]) rfl (asD rfl (OL.nil (AW.ret (RetQ.r ⟨_, .cellA rfl rfl ag.Rat (nb9 rfl) (.tmp rfl .nil), _, .cons (.ag (.cons (.le (VLe.refl _)) (.cons (.le (VLe.refl _)) (.cons (.le (VLe.refl _)) .nil)))) (.cons (.le (VLe.refl _)) .nil), rfl⟩))))))
theorem ref_Quo {x y : Raw} (hx : x.Ok) (hy : y.Ok) (h0 : y.q ≠ 0) : FSpec P F.ref01_Quo [vRaw x, vRaw y] (vQ (x.q / y.q)) := by
 have a1 := q_sz hx hx.ln hx.ld (by decide)
 have a2 := q_sz hy hy.ln hy.ld (by decide)
 have sn1 := sz_num x.q
 have sn2 := sz_num y.q
 have sd1 := sz_den x.q
 have sd2 := sz_den y.q
 have hn0 : y.q.num.natAbs ≠ 0 := fun e => h0 (Rat.num_eq_zero.1 (by omega))
 have m1 := len_mul x.q.num.natAbs y.q.den
 have m2 := len_mul x.q.den y.q.num.natAbs
 have dd0 := Nat.mul_ne_zero x.q.den_nz hn0
 have hp := fr_div (s := decide (x.q.num < 0)) (t := decide (y.q.num < 0)) (a := x.q.num.natAbs) x.q.den_nz y.q.den_nz hn0
 rw [fr_ofQ, fr_ofQ] at hp
 refine FSpec.intro fn.ref01_Quo (by rfl) (by rfl) (nb9 (by rfl)) fun E hE => (AW.sg hE rfl (bxA rfl rfl fun b2 => (bxA rfl rfl fun b3 => (al z.Rat rfl fun b4 => (OL.nil (AW.seq (AW.dg 1 [0,1,2,3,4,5] order_free hE rfl (by kernel_rfl) (OI.of_OL (os := [_,_,_,_,_,_]) rfl ?_))))))))
 refine ldPA ag.Rat rfl rfl (vs := [_,_,_]) rfl (nb9 rfl) (clv rfl (.cons (VLe.refl _) .nil) (ref_Take (by assumption)) (ldPA ag.Rat rfl rfl (vs := [_,_,_]) rfl (nb9 rfl) (clv rfl (.cons (VLe.refl _) .nil) (ref_Take (by assumption)) (sto sz.Rat rfl rfl rfl rfl rfl (nb9 rfl) (cells2 := [_,_,_]) rfl (sto sz.Rat rfl rfl rfl rfl rfl (nb9 rfl) (cells2 := [_,_,_]) rfl (OL.nil (AW.seq ?_)))))))
 refine AW.dg 1 [0,1,2,3,4,5,6,7,8,9,10,11,12,13,14,15,16] order_free hE rfl (by kernel_rfl) (OI.of_OL (os := [_,_,_,_,_,_,_,_,_,_,_,_,_,_,_,_,_]) rfl ?_)
 refine faP fd.Rat_0 rfl rfl (ldPC ce.bool rfl rfl rfl (faP fd.Rat_0 rfl rfl (ldPC ce.bool rfl rfl rfl (neb bt.bool rfl rfl (faP fd.Rat_1 rfl rfl (ldPC ce.u32s rfl rfl rfl (ldPA ag.Rat rfl rfl (vs := [_,_,_]) rfl (nb9 rfl) ?_)))))))
 refine clv rfl (.cons (VLe.refl _) .nil) (ref_den) (clv rfl (.cons (VLe.refl _) (.cons (VLe.refl _) (.nil))) (ref_timesN (a := x.q.num.natAbs) (b := y.q.den) (by omega) (by omega)) (ldPA ag.Rat rfl rfl (vs := [_,_,_]) rfl (nb9 rfl) (clv rfl (.cons (VLe.refl _) .nil) (ref_den) (faP fd.Rat_1 rfl rfl (ldPC ce.u32s rfl rfl rfl (clv rfl (.cons (VLe.refl _) (.cons (VLe.refl _) (.nil))) (ref_timesN (a := x.q.den) (b := y.q.num.natAbs) (by omega) (by omega)) (clv rfl (.cons (VLe.refl _) (.cons (VLe.refl _) (.cons (VLe.refl _) (.nil)))) (ref_over (s := (decide (x.q.num < 0) != decide (y.q.num < 0))) (by omega) (by omega) dd0) ?_)))))))
 rw [← hp]
 exact sto sz.Rat rfl rfl rfl rfl rfl (nb9 rfl) (cells2 := [_,_,_]) rfl (OL.nil (AW.ret (RetQ.r ⟨_, .cellA rfl rfl ag.Rat (nb9 rfl) .nil, .ag (.cons (.le (VLe.refl _)) (.cons (.le (VLe.refl _)) (.cons (.le (VLe.refl _)) .nil)))⟩)))
theorem ref_Div {x y : Raw} (hx : x.Ok) (hy : y.Ok) (h0 : y.q ≠ 0) : FSpec P F.ref01_Div [vRaw x, vRaw y] (.tup [vQ (x.q / y.q), .d (dI 0)]) := by
 refine FSpec.intro fn.ref01_Div (by rfl) (by rfl) (nb9 (by rfl)) fun E hE => (AW.sg hE rfl (bxA rfl rfl fun b2 => (bxA rfl rfl fun b3 => (al z.Rat rfl fun b4 => (asD rfl (OL.nil (AW.seq ?_)))))))
 refine AW.sg hE rfl (ldPA ag.Rat rfl rfl (vs := [_,_,_]) rfl (nb9 rfl) (clv rfl (.cons (VLe.refl _) (.nil)) (ref_Sign hy) (c_eql rfl rfl rfl (OL.nil (AW.cond rfl (fun hno => absurd hno (by rw [decide_eq_false fun e => h0 (sgnQ_eq.1 e)]; decide)) (fun _ => ?_))))))
 refine AW.skip (AW.sg hE rfl (ldPA ag.Rat rfl rfl (vs := [_,_,_]) rfl (nb9 rfl) (ldPA ag.Rat rfl rfl (vs := [_,_,_]) rfl (nb9 rfl) (clv rfl (.cons (VLe.refl _) (.cons (VLe.refl _) (.nil))) (ref_Quo hx hy h0) (sto sz.Rat rfl rfl rfl rfl rfl (nb9 rfl) (cells2 := [_,_,_]) rfl (asD rfl (OL.nil ?_)))))))
 exact AW.ret (RetQ.r ⟨_, .cellA rfl rfl ag.Rat (nb9 rfl) (.tmp rfl .nil), _, .cons (.ag (.cons (.le (VLe.refl _)) (.cons (.le (VLe.refl _)) (.cons (.le (VLe.refl _)) .nil)))) (.cons (.le (VLe.refl _)) .nil), rfl⟩)
theorem ref_DivQ {x y : Rat} (hx : sz x ≤ 68719476736) (hy : sz y ≤ 68719476736) (h0 : y ≠ 0) : FSpec P F.ref01_Div [vQ x, vQ y] (.tup [vQ (x / y), .d (dI 0)]) := by
 have h := ref_Div (x := ofQ x) (y := ofQ y) (ofQ_ok (by omega)) (ofQ_ok (by omega)) (by rw [q_ofQ]; exact h0)
 rw [q_ofQ, q_ofQ] at h; exact h
set_option maxRecDepth 6000 in
set_option maxHeartbeats 3200000 in
theorem ref34_BackwardX {h : HM} {w : List Int} (g : h.GoodW 1048576) (k : WordOK h w) (xz : ExSz h w) : FSpec P F.ref34_Backward [vHM h, .d (ints w)] (.tup [.d (dQss (colsB h w w.length)), .d (dI 0)]) := by
 have f := g.form
 have n0 := f.st0
 have n1 := f.st1
 have s1 := f.sym1
 have e2 := f.trans
 have e3 := f.stop
 have e4 := f.emit
 have k1 := k.1
 refine FSpec.intro fn.ref34_Backward (by rfl) (by rfl) (nb9 (by rfl)) fun E hE => (AW.sg hE rfl (bxA rfl rfl fun b2 => (asM rfl (asD rfl (OL.nil (AW.seq (AW.sg hE rfl ?_)))))))
 refine ldPA ag.Hidden rfl rfl (vs := [_,_,_,_,_,_,_,_,_,_,_]) rfl (nb9 rfl) (mvD rfl (clv rfl (.cons (VLe.refl _) (.cons (VLe.refl _) (.nil))) (ref34_CheckW g k) (asD rfl (OL.nil (AW.sg hE rfl (mvD rfl (c_neq rfl rfl (c := false) (by exact cne_f (by omega)) ?_)))))))
 refine OL.nil (AW.cond rfl (fun hno => absurd hno (by decide)) (fun _ => ?_))
 refine AW.skip (AW.seq (AW.regionS (by rw [hE]; rfl) (SL.ofOL (mvD (y := ints w) rfl (OL.nil ?_)))))
 refine SL.ofOL (lnL sl.ints rfl rfl (OL.nil ?_))
 refine SL.ofSO rfl (SO.makeNil (n := w.length) (cp := w.length) (show 20 < E.n by rw [hE]; exact Nat.le_of_ble_eq_true rfl) rfl rfl sl.Ratss raw.Rats (Nat.le_refl _) (by omega) (by omega) fun b20 => ?_)
 refine SL.ofOL (asO rfl (OL.nil ?_))
 refine SL.nil (AW.seq (AW.sg hE rfl (mvD rfl (lnL sl.ints rfl rfl (sub_i64 rfl rfl (by omega) (asD rfl (OL.nil ?_)))))))
 refine AW.block ?_
 refine AW.whileK (α := Nat) [(1, _), (2, _), (4, _), (5, _), (7, _)] [(2, _)] (fun d => [(8, .d (dI ((w.length : Int) - 1 - d)))]) (fun d => [(20, .row b20 w.length T.Rats 1 (colN h w d))]) (fun d => d ≤ w.length) (fun d => w.length - d) 0 (.cons (knD rfl) (.cons (knP rfl) (.cons (knM rfl) (.cons (knD rfl) (.cons (knO rfl) .nil))))) (.cons (owB rfl) .nil) ⟨Nat.zero_le _, .cons (VLe.int (by omega)) .nil, .cons (by rw [colN_zero]; rfl) .nil⟩ ?_
 intro d h1
 have h1 : d ≤ w.length := h1
 have hcl := colN_len h w d
 refine AW.seq (AW.sg hE rfl (mvD rfl (c_geq rfl rfl rfl (OL.nil (AW.cond rfl (fun h25 => ?_) (fun h25 => ?_))))))
 ·try simp only [dx9] at h25
  refine AW.skip (AW.seq (AW.block (AW.sg hE rfl (asD rfl (OL.nil (AW.block ?_))))))
  obtain ⟨a, ha⟩ : ∃ a, a = w.length - 1 - d := ⟨_, rfl⟩
  have hd : d < w.length := by omega
  have hpa := colN_at (h := h) hd ha
  refine AW.row0 92 T.Rat 3 rfl ?_
  refine AW.whileK (α := Nat × Nat × Nat) [(1, _), (2, _), (4, _), (5, _), (7, _), (8, _)] [(2, _)] (fun (i, q, c) => [(9, .d (dI i))]) (fun (i, q, c) => [(20, .row b20 w.length T.Rats 1 ((colN h w d).set a (hdA i q c))), (92, .row q c T.Rat 3 (((bwdF h w d).take i).map dQ))]) (fun (i, q, c) => i ≤ h.st ∧ (i = 0 → c = 0)) (fun (i, q, c) => h.st - i) (0, 0, 0) (.cons (knD rfl) (.cons (knP rfl) (.cons (knM rfl) (.cons (knD rfl) (.cons (knO rfl) (.cons (knD rfl) .nil)))))) (.cons (owB rfl) .nil) ⟨⟨Nat.zero_le _, fun _ => rfl⟩, .cons (VLe.refl _) .nil, .cons (by rw [hdA_zero, set_at hpa]; rfl) (.cons rfl .nil)⟩ ?_
  rintro ⟨i, q, c⟩ ⟨h2, hc0⟩
  have h2 : i ≤ h.st := h2
  have hc0 : i = 0 → c = 0 := hc0
  have hbl := bwdF_len h w d
  refine AW.seq (AW.sg hE rfl (mvD rfl (faP fd.Hidden_1 rfl rfl (ldPC ce.int rfl rfl rfl (c_lss rfl rfl rfl (OL.nil (AW.cond rfl (fun h31 => ?_) (fun h31 => ?_))))))))
  ·try simp only [dx9] at h31
   refine AW.skip (AW.seq (AW.block (AW.seq ?_)))
   have hi : i < h.st := by omega
   have zst := xz.s.stop i
   refine AW.rg hE rfl (faP fd.Hidden_5 rfl rfl (ldPC ce.Rats rfl rfl rfl (mvD rfl (ixLn sl.Rats 0 rfl rfl (by omega) rfl rfl (ldRA ag.Rat rfl (vs := [_,_,_]) rfl (nb9 rfl) (al z.Rat rfl fun b10 => (sto sz.Rat rfl rfl rfl rfl rfl (nb9 rfl) (cells2 := [_,_,_]) rfl ?_)))))))
   refine OL.nil ?_
   refine AW.midK (α := Unit) [(1, _), (2, _), (4, _), (5, _), (7, _), (8, _), (9, _), (10, _)] [(2, _), (20, _), (92, _)] (fun _u => []) (fun _u => [(10, .box b10 T.Rat (cellsQ ((bwdF h w d).getD i 0)))]) (fun _u => True) (.cons (knD rfl) (.cons (knP rfl) (.cons (knM rfl) (.cons (knD rfl) (.cons (knO rfl) (.cons (knD rfl) (.cons (knD rfl) (.cons (knP rfl) .nil)))))))) (.cons (owB rfl) (.cons (owR rfl) (.cons (owR rfl) .nil))) ?_ ?_
   ·refine AW.sg hE rfl (mvD rfl (mvD rfl (lnL sl.ints rfl rfl (sub_i64 rfl rfl (by omega) (c_lss rfl rfl rfl (OL.nil (AW.cond rfl (fun hd0 => ?_) (fun hd0 => ?_))))))))
    ·have hd0 : 0 < d := by have := of_decide_eq_true hd0; omega
     have hval := bwd_pos hd0 ha hi
     have hx := k.symX (t := a + 1) (by omega)
     have hrow : (colN h w d)[a + 1]? = some (dQs (bwdF h w (d - 1))) := by rw [colN_get (show a + 1 < w.length by omega) (by omega), show w.length - 1 - (a + 1) = d - 1 by omega]
     have hrl := bwdF_len h w (d - 1)
     refine AW.sg hE rfl (bd z.Rat pl.Rat (cs := [_,_,_]) rfl (sto sz.Rat rfl rfl rfl rfl rfl (nb9 rfl) (cells2 := [_,_,_]) rfl (OL.nil (AW.sg hE rfl (asD rfl (OL.nil (AW.block ?_)))))))
     refine AW.boxW 10 (cellsQ 0) rfl vles_q ?_
     refine AW.whileK (α := Nat) [(1, _), (2, _), (4, _), (5, _), (7, _), (8, _), (9, _), (10, _)] [(2, _), (20, _), (92, _)] (fun j => [(11, .d (dI j))]) (fun j => [(10, .box b10 T.Rat (cellsQ (sufF h w (bwdF h w (d - 1)) a i j)))]) (fun j => j ≤ h.st) (fun j => h.st - j) 0 (.cons (knD rfl) (.cons (knP rfl) (.cons (knM rfl) (.cons (knD rfl) (.cons (knO rfl) (.cons (knD rfl) (.cons (knD rfl) (.cons (knP rfl) .nil)))))))) (.cons (owB rfl) (.cons (owR rfl) (.cons (owR rfl) .nil))) ⟨Nat.zero_le _, .cons (VLe.refl _) .nil, .cons rfl .nil⟩ ?_
     intro j h3
     have h3 : j ≤ h.st := h3
     have zs := xz.suf (d - 1) a i j (by omega) h3
     refine AW.seq (AW.sg hE rfl (mvD rfl (faP fd.Hidden_1 rfl rfl (ldPC ce.int rfl rfl rfl (c_lss rfl rfl rfl (OL.nil (AW.cond rfl (fun h48 => ?_) (fun h48 => ?_))))))))
     ·try simp only [dx9] at h48
      refine AW.skip (AW.seq (AW.block ?_))
      have hj : j < h.st := by omega
      have tri := f.trow i hi
      have erj := f.erow j hj
      have zt : sz ((h.trans.getD i []).getD j 0) ≤ 68719476736 := xz.s.tr i j
      have ze : sz ((h.emit.getD j []).getD (symX w (a + 1)) 0) ≤ 68719476736 := xz.s.em j (symX w (a + 1))
      have zb := xz.bwd (d - 1) j (by omega)
      have zte : sz ((h.trans.getD i []).getD j 0 * (h.emit.getD j []).getD (symX w (a + 1)) 0) ≤ 68719476736 := xz.trem i j (symX w (a + 1))
      have ztb : sz ((h.trans.getD i []).getD j 0 * ((h.emit.getD j []).getD (symX w (a + 1)) 0 * (bwdF h w (d - 1)).getD j 0)) ≤ 68719476736 := xz.trb (d - 1) i j (symX w (a + 1)) (by omega)
      have hel2 : ((colN h w d).set a (hdA i q c))[a + 1]? = some (dQs (bwdF h w (d - 1))) := by rw [List.getElem?_set_ne (by omega)]; exact hrow
      refine AW.dg 1 [0,1,2,3,4,5,6,7,8,9,10,11,12,13,14,15,16,17,18,19,20,21,22,23,24,25,26,27,28,29,30,31,32,33] order_free hE rfl (by kernel_rfl) (OI.of_OL (os := [_,_,_,_,_,_,_,_,_,_,_,_,_,_,_,_,_,_,_,_,_,_,_,_,_,_,_,_,_,_,_,_,_,_]) rfl ?_)
      refine ldPA ag.Rat rfl rfl (vs := [_,_,_]) rfl (nb9 rfl) (faP fd.Hidden_4 rfl rfl (ldPC ce.Ratss rfl rfl rfl (mvD rfl (ixLn sl.Ratss [] rfl rfl (by omega) rfl rfl (ldRC ce.Rats rfl (mvD rfl (ixLn sl.Rats 0 rfl rfl (by omega) rfl rfl ?_)))))))
      refine ldRA ag.Rat rfl (vs := [_,_,_]) rfl (nb9 rfl) (faP fd.Hidden_6 rfl rfl (ldPC ce.Ratss rfl rfl rfl (mvD rfl (ixLn sl.Ratss [] rfl rfl (by omega) rfl rfl (ldRC ce.Rats rfl (mvD rfl (mvD rfl ?_)))))))
      refine bo rfl rfl (bin_add (c := ((a + 1 : Nat) : Int)) (by omega) (wrap_i64 (by omega))) (ixLn sl.ints 0 rfl rfl (by omega) rfl rfl (ldRC ce.int rfl ?_))
      rw [hx.2]
      refine bo rfl rfl (bin_sub (c := (symX w (a + 1) : Int)) (by omega) (wrap_i64 (by omega))) (ixLn sl.Rats 0 rfl rfl (by omega) rfl rfl (ldRA ag.Rat rfl (vs := [_,_,_]) rfl (nb9 rfl) (clv rfl (.cons (VLe.refl _) (.cons (VLe.refl _) (.nil))) (ref_MulQ (x := (h.trans.getD i []).getD j 0) (y := (h.emit.getD j []).getD (symX w (a + 1)) 0) (by omega) (by omega)) (mvO rfl (mvD rfl (bo rfl rfl (bin_add (c := ((a + 1 : Nat) : Int)) (by omega) (wrap_i64 (by omega))) (ixOn sl.Ratss rfl rfl (by omega) ?_)))))))
      refine ldEC ce.Rats (by decide) rfl rfl hel2 rfl (mvD rfl (ixLn sl.Rats 0 rfl rfl (by omega) rfl rfl (ldRA ag.Rat rfl (vs := [_,_,_]) rfl (nb9 rfl) (clv rfl (.cons (VLe.refl _) (.cons (VLe.refl _) (.nil))) (ref_MulQ (x := (h.trans.getD i []).getD j 0 * (h.emit.getD j []).getD (symX w (a + 1)) 0) (y := (bwdF h w (d - 1)).getD j 0) (by omega) (by omega)) ?_))))
      rw [Rat.mul_assoc]
      refine clv rfl (.cons (VLe.refl _) (.cons (VLe.refl _) (.nil))) (ref_AddQ (x := (sufF h w (bwdF h w (d - 1)) a i j)) (y := (h.trans.getD i []).getD j 0 * ((h.emit.getD j []).getD (symX w (a + 1)) 0 * (bwdF h w (d - 1)).getD j 0)) (by omega) (by omega)) ?_
      rw [show (sufF h w (bwdF h w (d - 1)) a i j) + (h.trans.getD i []).getD j 0 * ((h.emit.getD j []).getD (symX w (a + 1)) 0 * (bwdF h w (d - 1)).getD j 0) = (sufF h w (bwdF h w (d - 1)) a i (j + 1)) from rfl]
      refine sto sz.Rat rfl rfl rfl rfl rfl (nb9 rfl) (cells2 := [_,_,_]) rfl (OL.nil (AW.rg hE rfl (mvD rfl (add_i64 rfl rfl (by omega) (asD rfl (OL.nil ?_))))))
      exact AW.again (x := j) (j + 1) (by omega) ⟨by omega, Knows.app (.cons (VLe.refl _) (.cons (VLe.refl _) (.cons (VLe.refl _) (.cons (VLe.refl _) (.cons (VLe.refl _) (.cons (VLe.refl _) (.cons (VLe.refl _) (.cons (VLe.refl _) .nil)))))))) (.cons (VLe.refl _) .nil), Owns.app (.cons rfl (.cons rfl (.cons rfl .nil))) (.cons rfl .nil)⟩
     ·try simp only [dx9] at h48
      refine AW.exit ?_
      obtain rfl : j = h.st := by omega
      exact AW.reach () ⟨trivial, Knows.app (.cons (VLe.refl _) (.cons (VLe.refl _) (.cons (VLe.refl _) (.cons (VLe.refl _) (.cons (VLe.refl _) (.cons (VLe.refl _) (.cons (VLe.refl _) (.cons (VLe.refl _) .nil)))))))) (.nil), Owns.app (.cons rfl (.cons rfl (.cons rfl .nil))) (.cons (by rw [hval]; rfl) .nil)⟩
    ·have hd0 : d = 0 := by have := of_decide_eq_false hd0; omega
     have hval : (bwdF h w d).getD i 0 = h.stop.getD i 0 := by rw [hd0]; exact bwd_zero (by omega)
     refine AW.skip ?_
     exact AW.reach () ⟨trivial, Knows.app (.cons (VLe.refl _) (.cons (VLe.refl _) (.cons (VLe.refl _) (.cons (VLe.refl _) (.cons (VLe.refl _) (.cons (VLe.refl _) (.cons (VLe.refl _) (.cons (VLe.refl _) .nil)))))))) (.nil), Owns.app (.cons rfl (.cons rfl (.cons rfl .nil))) (.cons (by rw [hval]; rfl) .nil)⟩
   rintro ⟨⟩ hφ
   have hi : i < h.st := by omega
   have hlen9 : i = (((bwdF h w d).take i).map dQ).length := by rw [List.length_map, List.length_take]; omega
   have hel : ((colN h w d).set a (hdA i q c))[a]? = some (hdA i q c) := List.getElem?_set_self (by omega)
   refine AW.rowLen 92 rfl fun hic0 => ?_
   have hic : i ≤ c := by rw [← hlen9] at hic0; exact hic0
   refine AW.region_planT (valGb ((bwdF h w d).getD i 0) (((bwdF h w d).take i).map dQ) ((w.length : Int) - 1 - d) b20 w.length a q i c) ownGb (telGb ((bwdF h w d).getD i 0) (((bwdF h w d).take i).map dQ) ((w.length : Int) - 1 - d) b20 w.length a q i c) 10 order_free (by rw [hE]; rfl) (by rfl) (by kernel_rfl) (by kernel_rfl) ?_ ?_
   ·refine casGb ?_ ?_ ?_ ?_ ?_ ?_ ?_ ?_ ?_ ?_
    ·exact fun β L c9 => ⟨_, rfl, .inl (OG.of_OL (mvO (id := 20) (b := b20) (n := w.length) (c := w.length) ((pG_old rfl).trans rfl) ⟨β, pG_put (d := 84) (i := 0) rfl (fun t ht => ownGb_inj ht) (lt_size 11 c9.size rfl (by decide)) (mfT_same (lt_size 11 c9.size rfl (by decide)) (by rfl))⟩))⟩
    ·exact fun β L c9 => ⟨_, rfl, .inl (OG.of_OL (mvD (y := dI ((w.length : Int) - 1 - d)) ((pG_old rfl).trans rfl) ⟨β, pG_put (d := 85) (i := 1) rfl (fun t ht => ownGb_inj ht) (lt_size 11 c9.size rfl (by decide)) (mfT_same (lt_size 11 c9.size rfl (by decide)) (by rfl))⟩))⟩
    ·exact fun β L c9 => ⟨_, rfl, .inl (OG.of_OL (mvO (id := 20) (b := b20) (n := w.length) (c := w.length) ((pG_old rfl).trans rfl) ⟨β, pG_put (d := 86) (i := 2) rfl (fun t ht => ownGb_inj ht) (lt_size 11 c9.size rfl (by decide)) (mfT_same (lt_size 11 c9.size rfl (by decide)) (by rfl))⟩))⟩
    ·exact fun β L c9 => ⟨_, rfl, .inl (OG.of_OL (mvD (y := dI ((w.length : Int) - 1 - d)) ((pG_old rfl).trans rfl) ⟨β, pG_put (d := 87) (i := 3) rfl (fun t ht => ownGb_inj ht) (lt_size 11 c9.size rfl (by decide)) (mfT_same (lt_size 11 c9.size rfl (by decide)) (by rfl))⟩))⟩
    ·exact fun β L c9 => ⟨_, rfl, .inl (OG.of_OL (ixO sl.Ratss (id := 20) (b := b20) (l := w.length) (c := w.length) (pG_new rfl (come_dep (j := 2) c9 (by kernel_rfl))) (pG_new rfl (come_dep (j := 3) c9 (by kernel_rfl))) (by omega) (by omega) (i := a) (by omega) ⟨β, pG_put (d := 88) (i := 4) rfl (fun t ht => ownGb_inj ht) (lt_size 11 c9.size rfl (by decide)) (mfT_same (lt_size 11 c9.size rfl (by decide)) (by rfl))⟩))⟩
    ·exact fun β L c9 => ⟨_, rfl, .inl (OG.of_OL (ldLe (.rowC (by decide) (pG_new rfl (come_dep (j := 4) c9 (by kernel_rfl))) ((pG_M (mfT_skip (show (20:Nat) ≠ 92 by decide) rfl)) : _ = some (.row b20 w.length T.Rats 1 ((colN h w d).set a (hdA i q c)))) hel ce.Rats (d := hdA i q c) (by rw [hdA_cells]; rfl)) (vle_hdA 92 hc0 hic) ⟨β, pG_put (d := 89) (i := 5) rfl (fun t ht => ownGb_inj ht) (lt_size 11 c9.size rfl (by decide)) (mfT_same (lt_size 11 c9.size rfl (by decide)) (by rfl))⟩))⟩
    ·exact fun β L c9 => ⟨_, rfl, .inl (OG.of_OL (ldPA ag.Rat (id := 10) (b := b10) (o := 0) ((pG_old rfl).trans rfl) ((pG_M (mfT_skip (show (10:Nat) ≠ 92 by decide) rfl)) : _ = some (.box b10 T.Rat (cellsQ ((bwdF h w d).getD i 0)))) (vs := [_,_,_]) rfl (nb9 rfl) ⟨β, pG_put (d := 90) (i := 6) rfl (fun t ht => ownGb_inj ht) (lt_size 11 c9.size rfl (by decide)) (mfT_same (lt_size 11 c9.size rfl (by decide)) (by rfl))⟩))⟩
    ·exact fun β L c9 => ⟨_, rfl, .inl (OG.of_OL (lt1 (y := dQ ((bwdF h w d).getD i 0)) sl.Rats (vd_to (pG_new rfl (come_dep (j := 6) c9 (by kernel_rfl))) vd_q) rfl (by decide) ⟨β, pG_put (d := 91) (i := 7) rfl (fun t ht => ownGb_inj ht) (lt_size 11 c9.size rfl (by decide)) (mfT_same (lt_size 11 c9.size rfl (by decide)) (by rfl))⟩))⟩
    ·exact fun β L c9 => ⟨_, rfl, .inl (OG.of_OL (apO sl.Rats rfl (pG_new rfl (come_dep (j := 5) c9 (by kernel_rfl))) ((pG_M (mfT_no (by exact c9.no) rfl)) : _ = some (.row q c T.Rat 3 (((bwdF h w d).take i).map dQ))) hlen9 (vc_to (pG_new rfl (come_dep (j := 7) c9 (by kernel_rfl))) (VC.d _)) (fun y hy => by rw [List.mem_singleton.1 hy]; rfl) (by simp only [List.length_singleton]; omega) (by simp only [List.length_singleton]; omega) (.inr rfl) (ys := (((bwdF h w d).take i).map dQ) ++ [dQ ((bwdF h w d).getD i 0)]) rfl (n2 := i + 1) rfl fun b8 c8 => ⟨upd β 92 (b8, c8), pG_set (d := 92) (i := 8) (x := (b8, c8)) rfl (fun t ht => ownGb_inj ht) (lt_size 11 c9.size rfl (by decide)) rfl (Eq.trans (mfT_here (lt_size 11 c9.size rfl (by decide)) rfl rfl rfl c9.no (by rfl) (fun y hy => absurd hy List.not_mem_nil)) (upd_upd _ _ _ _).symm) (fun t j ho hl => by unfold ownGb at ho; split at ho <;> cases ho <;> first | rfl | (rw [c9.no] at hl; cases hl) | exact come_notT c9 (by kernel_rfl) hl)⟩))⟩
    ·exact fun β L c9 => ⟨_, rfl, .inl (OG.of_OL (ixO sl.Ratss (id := 20) (b := b20) (l := w.length) (c := w.length) (pG_new rfl (come_dep (j := 0) c9 (by kernel_rfl))) (pG_new rfl (come_dep (j := 1) c9 (by kernel_rfl))) (by omega) (by omega) (i := a) (by omega) ⟨β, pG_put (d := 93) (i := 9) rfl (fun t ht => ownGb_inj ht) (lt_size 11 c9.size rfl (by decide)) (mfT_same (lt_size 11 c9.size rfl (by decide)) (by rfl))⟩))⟩
   refine fun β L c9 hA => ⟨_, rfl, SG.of_SO (SO.stHead (id := 92) (es := (((bwdF h w d).take i).map dQ) ++ [dQ ((bwdF h w d).getD i 0)]) (pG_new rfl (hA 9 (by decide))) (pG_new rfl (hA 8 (by decide))) (pG_M (mfT_yes (hA 8 (by decide)) rfl rfl)) ((pG_M (mfT_skip (show (20:Nat) ≠ 92 by decide) rfl)) : _ = some (.row b20 w.length T.Rats 1 ((colN h w d).set a (hdA i q c)))) sz.Rats (by rw [List.length_set]; omega) (by simp) fun hc => ?_)⟩
   refine AW.to [(1, .d (ints w)), (2, .ptr 2 b2 0), (4, .mt), (5, .d (dI 0)), (7, .osl 20 b20 w.length w.length), (8, .d (dI ((w.length : Int) - 1 - d))), (9, .d (dI i))] [(2, .box b2 T.Hidden (cellsHM h)), (20, .row b20 w.length T.Rats 1 ((colN h w d).set a (hdA (i + 1) (β 92).1 (β 92).2))), (92, .row (β 92).1 (β 92).2 T.Rat 3 ((((bwdF h w d).take (i + 1)).map dQ)))] (.cons (vle_of_eq (sto_rho ((pG_old rfl).trans rfl))) (.cons (vle_of_eq (sto_rho ((pG_old rfl).trans rfl))) (.cons (vle_of_eq (sto_rho ((pG_old rfl).trans rfl))) (.cons (vle_of_eq (sto_rho ((pG_old rfl).trans rfl))) (.cons (vle_of_eq (sto_rho ((pG_old rfl).trans rfl))) (.cons (vle_of_eq (sto_rho ((pG_old rfl).trans rfl))) (.cons (vle_of_eq (sto_rho ((pG_old rfl).trans rfl))) (.nil)))))))) (.cons (sto_old (show (2:Nat) ≠ 20 by decide) (pG_M (mfT_skip (show (2:Nat) ≠ 92 by decide) rfl))) (.cons (sto_new.trans (congrArg some (congrArg (Blk.row b20 w.length T.Rats 1) (by rw [List.set_set, hdA_pos (Nat.succ_pos _)])))) (.cons ((sto_old (show (92:Nat) ≠ 20 by decide) (pG_M (mfT_yes (hA 8 (by decide)) rfl rfl))).trans (congrArg some (congrArg (Blk.row (β 92).1 (β 92).2 T.Rat 3) (by rw [take_succ_getD (show i < (bwdF h w d).length by omega) 0, List.map_append]; rfl)))) (.nil)))) ?_
   generalize (β 92).1 = q2
   generalize (β 92).2 = d2
   refine AW.rg hE rfl (mvD rfl (add_i64 rfl rfl (by omega) (asD rfl (OL.nil ?_))))
   exact AW.again (x := (i, q, c)) (i + 1, q2, d2) (by (simp only []; omega)) ⟨⟨by omega, fun e => absurd e (Nat.succ_ne_zero i)⟩, Knows.app (.cons (VLe.refl _) (.cons (VLe.refl _) (.cons (VLe.refl _) (.cons (VLe.refl _) (.cons (VLe.refl _) (.cons (VLe.refl _) .nil)))))) (.cons (VLe.refl _) .nil), Owns.app (.cons rfl .nil) (.cons rfl (.cons rfl .nil))⟩
  ·try simp only [dx9] at h31
   refine AW.exit ?_
   obtain rfl : i = h.st := by omega
   refine AW.freezeIn 92 20 a rfl rfl ((List.getElem?_set_self (by omega)).trans (congrArg some (hdA_pos (by omega)))) (n := h.st) (by rw [List.length_map, List.length_take]; omega) (by decide) (AW.to [(1, .d (ints w)), (2, .ptr 2 b2 0), (4, .mt), (5, .d (dI 0)), (7, .osl 20 b20 w.length w.length), (8, .d (dI ((w.length : Int) - 1 - d)))] [(2, .box b2 T.Hidden (cellsHM h)), (20, .row b20 w.length T.Rats 1 (colN h w (d + 1)))] (.cons (VLe.refl _) (.cons (VLe.refl _) (.cons (VLe.refl _) (.cons (VLe.refl _) (.cons (VLe.refl _) (.cons (VLe.refl _) (.nil))))))) (.cons rfl (.cons (congrArg some (congrArg (Blk.row b20 w.length T.Rats 1) (by rw [List.set_set, take_row hbl]; exact colN_set hd ha))) (.nil))) ?_)
   exact AW.rg hE rfl (mvD rfl (sub_i64 rfl rfl (by omega) (asD rfl (OL.nil (AW.again (x := d) (d + 1) (by omega) ⟨by omega, Knows.app (.cons (VLe.refl _) (.cons (VLe.refl _) (.cons (VLe.refl _) (.cons (VLe.refl _) (.cons (VLe.refl _) .nil))))) (.cons (VLe.int (by omega)) .nil), Owns.app (.cons rfl .nil) (.cons rfl .nil)⟩)))))
 ·try simp only [dx9] at h25
  refine AW.exit (AW.seq ?_)
  obtain rfl : d = w.length := by omega
  refine AW.freeze 20 rfl (AW.to [(7, .d (dQss (colsB h w w.length)))] [] (.cons (frz_osl hcl.symm (by rw [colN_all])) .nil) .nil ?_)
  exact AW.rg hE rfl (mvD rfl (asD rfl (asD rfl (OL.nil (AW.ret (RetQ.r ⟨_, .tmp rfl (.tmp rfl .nil), _, .cons (.le (VLe.refl _)) (.cons (.le (VLe.refl _)) .nil), rfl⟩))))))
set_option maxRecDepth 6000 in
set_option maxHeartbeats 3200000 in
theorem ref34_PosteriorX {h : HM} {w : List Int} (g : h.GoodW 1048576) (k : WordOK h w) (xz : ExSz h w) : FSpec P F.ref34_Posterior [vHM h, .d (ints w)] (.tup [.d (dQss (postR h w)), .d (dI (postE h w))]) := by
 have f := g.form
 have n0 := f.st0
 have n1 := f.st1
 have k1 := k.1
 have zl := xz.lk
 refine FSpec.intro fn.ref34_Posterior (by rfl) (by rfl) (nb9 (by rfl)) fun E hE => (AW.sg hE rfl (bxA rfl rfl fun b2 => (asM rfl (asD rfl (OL.nil (AW.sg hE rfl (ldPA ag.Hidden rfl rfl (vs := [_,_,_,_,_,_,_,_,_,_,_]) rfl (nb9 rfl) ?_)))))))
 refine mvD rfl (clv rfl (.cons (VLe.refl _) (.cons (VLe.refl _) (.nil))) (ref34_ForwardX g k xz) (mvT rfl (ex rfl rfl (ex rfl rfl (asD rfl (asD rfl (OL.nil ?_)))))))
 refine AW.seq (AW.sg hE rfl (mvD rfl (c_neq rfl rfl (c := false) (by exact cne_f (by omega)) (OL.nil (AW.cond rfl (fun hno => absurd hno (by decide)) (fun _ => ?_))))))
 refine AW.skip (AW.sg hE rfl (ldPA ag.Hidden rfl rfl (vs := [_,_,_,_,_,_,_,_,_,_,_]) rfl (nb9 rfl) (mvD rfl (clv rfl (.cons (VLe.refl _) (.cons (VLe.refl _) (.nil))) (ref34_BackwardX g k xz) (mvT rfl (ex rfl rfl (ex rfl rfl ?_)))))))
 refine asD rfl (asD rfl (OL.nil (AW.sg hE rfl (ldPA ag.Hidden rfl rfl (vs := [_,_,_,_,_,_,_,_,_,_,_]) rfl (nb9 rfl) (mvD rfl (clv rfl (.cons (VLe.refl _) (.cons (VLe.refl _) (.nil))) (ref34_LikelihoodX g k xz) (mvT rfl ?_)))))))
 refine ex rfl rfl (ex rfl rfl (al z.Rat rfl fun b10 => (sto sz.Rat rfl rfl rfl rfl rfl (nb9 rfl) (cells2 := [_,_,_]) rfl (asD rfl (OL.nil (AW.seq (AW.sg hE rfl ?_)))))))
 refine ldPA ag.Rat rfl rfl (vs := [_,_,_]) rfl (nb9 rfl) (clv rfl (.cons (VLe.refl _) (.nil)) (ref_SignQ (x := likF h w) (by omega)) (c_eql rfl rfl rfl (OL.nil (AW.cond rfl (fun hz => ?_) (fun hz => ?_)))))
 ·have hz : likF h w = 0 := sgnQ_eq.1 (of_decide_eq_true hz)
  exact AW.sg hE rfl (asM rfl (asD rfl (OL.nil (AW.ret (RetQ.r ⟨_, .tmp rfl (.tmp rfl .nil), _, .cons (.le (by rw [postR, if_pos hz]; exact VLe.mt)) (.cons (.le (VLe.int (by rw [postE, if_pos hz]))) .nil), rfl⟩)))))
 ·have hz : likF h w ≠ 0 := fun e => of_decide_eq_false hz (sgnQ_eq.2 e)
  refine AW.skip (AW.seq (AW.regionS (by rw [hE]; rfl) (SL.ofOL (mvD (y := ints w) rfl (OL.nil ?_)))))
  refine SL.ofOL (lnL sl.ints rfl rfl (OL.nil ?_))
  refine SL.ofSO rfl (SO.makeNil (n := w.length) (cp := w.length) (show 43 < E.n by rw [hE]; exact Nat.le_of_ble_eq_true rfl) rfl rfl sl.Ratss raw.Rats (Nat.le_refl _) (by omega) (by omega) fun b43 => ?_)
  refine SL.ofOL (asO rfl (OL.nil ?_))
  refine SL.nil (AW.seq (AW.sg hE rfl (asD rfl (OL.nil (AW.block ?_)))))
  refine AW.whileK (α := Nat) [(1, _), (2, _), (4, _), (5, _), (6, _), (8, _), (10, _), (12, _)] [(2, _), (10, _)] (fun t => [(13, .d (dI t))]) (fun t => [(43, .row b43 w.length T.Rats 1 (posN h w t))]) (fun t => t ≤ w.length) (fun t => w.length - t) 0 (.cons (knD rfl) (.cons (knP rfl) (.cons (knM rfl) (.cons (knD rfl) (.cons (knD rfl) (.cons (knD rfl) (.cons (knP rfl) (.cons (knO rfl) .nil)))))))) (.cons (owB rfl) (.cons (owB rfl) .nil)) ⟨Nat.zero_le _, .cons (VLe.refl _) .nil, .cons (by rw [posN, fillF_zero]; rfl) .nil⟩ ?_
  intro t h1
  have h1 : t ≤ w.length := h1
  have hpl := posN_len h w t
  refine AW.seq (AW.sg hE rfl (mvD rfl (mvD rfl (lnL sl.ints rfl rfl (c_lss rfl rfl rfl (OL.nil (AW.cond rfl (fun h47 => ?_) (fun h47 => ?_))))))))
  ·try simp only [dx9] at h47
   refine AW.skip (AW.seq (AW.block (AW.sg hE rfl (asD rfl (OL.nil (AW.block ?_))))))
   have ht : t < w.length := by omega
   have hpa := posN_at (h := h) ht
   refine AW.row0 84 T.Rat 3 rfl ?_
   refine AW.whileK (α := Nat × Nat × Nat) [(1, _), (2, _), (4, _), (5, _), (6, _), (8, _), (10, _), (12, _), (13, _)] [(2, _), (10, _)] (fun (i, q, c) => [(14, .d (dI i))]) (fun (i, q, c) => [(43, .row b43 w.length T.Rats 1 ((posN h w t).set t (hdA i q c))), (84, .row q c T.Rat 3 (((postF h w t).take i).map dQ))]) (fun (i, q, c) => i ≤ h.st ∧ (i = 0 → c = 0)) (fun (i, q, c) => h.st - i) (0, 0, 0) (.cons (knD rfl) (.cons (knP rfl) (.cons (knM rfl) (.cons (knD rfl) (.cons (knD rfl) (.cons (knD rfl) (.cons (knP rfl) (.cons (knO rfl) (.cons (knD rfl) .nil))))))))) (.cons (owB rfl) (.cons (owB rfl) .nil)) ⟨⟨Nat.zero_le _, fun _ => rfl⟩, .cons (VLe.refl _) .nil, .cons (by rw [hdA_zero, set_at hpa]; rfl) (.cons rfl .nil)⟩ ?_
   rintro ⟨i, q, c⟩ ⟨h2, hc0⟩
   have h2 : i ≤ h.st := h2
   have hc0 : i = 0 → c = 0 := hc0
   have hfl := fwdF_len h w t
   have hpfl := postF_len h w t
   refine AW.seq (AW.sg hE rfl (mvD rfl (faP fd.Hidden_1 rfl rfl (ldPC ce.int rfl rfl rfl (c_lss rfl rfl rfl (OL.nil (AW.cond rfl (fun h53 => ?_) (fun h53 => ?_))))))))
   ·try simp only [dx9] at h53
    refine AW.skip (AW.seq (AW.block (AW.seq ?_)))
    have hi : i < h.st := by omega
    have hfg : ((List.range w.length).map (fwdF h w)).getD t [] = fwdF h w t := map_getD_range _ _ ht
    have hcl := colsB_len h w w.length
    have hcg := colsB_get (h := h) (d := w.length) ht (by omega)
    have hbl := bwdF_len h w (w.length - 1 - t)
    have zfi := xz.s.fwd t ht i
    have zbi := xz.bwd (w.length - 1 - t) i (by omega)
    have zm := xz.fb t (w.length - 1 - t) i ht (by omega)
    refine AW.dg 1 [0,1,2,3,4,5,6,7,8,9,10,11,12,13,14,15,16,17,18,19,20,21,22] order_free hE rfl (by kernel_rfl) (OI.of_OL (os := [_,_,_,_,_,_,_,_,_,_,_,_,_,_,_,_,_,_,_,_,_,_,_]) rfl ?_)
    refine mvD rfl (mvD rfl (ixLn sl.Ratss [] rfl rfl (by rw [List.length_map, List.length_range]; omega) rfl rfl (ldRC ce.Rats rfl ?_)))
    rw [hfg]
    refine mvD rfl (ixLn sl.Rats 0 rfl rfl (by omega) rfl rfl (ldRA ag.Rat rfl (vs := [_,_,_]) rfl (nb9 rfl) (mvD rfl (mvD rfl (ixLn sl.Ratss [] rfl rfl (by omega) rfl rfl (ldRC ce.Rats rfl ?_))))))
    rw [hcg]
    refine mvD rfl (ixLn sl.Rats 0 rfl rfl (by omega) rfl rfl (ldRA ag.Rat rfl (vs := [_,_,_]) rfl (nb9 rfl) (clv rfl (.cons (VLe.refl _) (.cons (VLe.refl _) (.nil))) (ref_MulQ (x := (fwdF h w t).getD i 0) (y := (bwdF h w (w.length - 1 - t)).getD i 0) (by omega) (by omega)) (ldPA ag.Rat rfl rfl (vs := [_,_,_]) rfl (nb9 rfl) (clv rfl (.cons (VLe.refl _) (.cons (VLe.refl _) (.nil))) (ref_DivQ (x := ((fwdF h w t).getD i 0 * (bwdF h w (w.length - 1 - t)).getD i 0)) (y := likF h w) (by omega) (by omega) hz) ?_)))))
    rw [show ((fwdF h w t).getD i 0 * (bwdF h w (w.length - 1 - t)).getD i 0) / likF h w = postQ h w t i from rfl]
    refine mvT rfl (ex rfl rfl (ex rfl rfl (al z.Rat rfl fun b15 => (sto sz.Rat rfl rfl rfl rfl rfl (nb9 rfl) (cells2 := [_,_,_]) rfl (asD rfl (OL.nil ?_))))))
    have hpg := postF_get (h := h) (w := w) (t := t) hi
    have hlen9 : i = (((postF h w t).take i).map dQ).length := by rw [List.length_map, List.length_take]; omega
    have hel : ((posN h w t).set t (hdA i q c))[t]? = some (hdA i q c) := List.getElem?_set_self (by omega)
    refine AW.rowLen 84 rfl fun hic0 => ?_
    have hic : i ≤ c := by rw [← hlen9] at hic0; exact hic0
    refine AW.region_planT (valGp (postQ h w t i) (((postF h w t).take i).map dQ) ((t : Nat) : Int) b43 w.length t q i c) ownGp (telGp (postQ h w t i) (((postF h w t).take i).map dQ) ((t : Nat) : Int) b43 w.length t q i c) 10 order_free (by rw [hE]; rfl) (by rfl) (by kernel_rfl) (by kernel_rfl) ?_ ?_
    ·refine casGp ?_ ?_ ?_ ?_ ?_ ?_ ?_ ?_ ?_ ?_
     ·exact fun β L c9 => ⟨_, rfl, .inl (OG.of_OL (mvO (id := 43) (b := b43) (n := w.length) (c := w.length) ((pG_old rfl).trans rfl) ⟨β, pG_put (d := 76) (i := 0) rfl (fun t ht => ownGp_inj ht) (lt_size 11 c9.size rfl (by decide)) (mfT_same (lt_size 11 c9.size rfl (by decide)) (by rfl))⟩))⟩
     ·exact fun β L c9 => ⟨_, rfl, .inl (OG.of_OL (mvD (y := dI ((t : Nat) : Int)) ((pG_old rfl).trans rfl) ⟨β, pG_put (d := 77) (i := 1) rfl (fun t ht => ownGp_inj ht) (lt_size 11 c9.size rfl (by decide)) (mfT_same (lt_size 11 c9.size rfl (by decide)) (by rfl))⟩))⟩
     ·exact fun β L c9 => ⟨_, rfl, .inl (OG.of_OL (mvO (id := 43) (b := b43) (n := w.length) (c := w.length) ((pG_old rfl).trans rfl) ⟨β, pG_put (d := 78) (i := 2) rfl (fun t ht => ownGp_inj ht) (lt_size 11 c9.size rfl (by decide)) (mfT_same (lt_size 11 c9.size rfl (by decide)) (by rfl))⟩))⟩
     ·exact fun β L c9 => ⟨_, rfl, .inl (OG.of_OL (mvD (y := dI ((t : Nat) : Int)) ((pG_old rfl).trans rfl) ⟨β, pG_put (d := 79) (i := 3) rfl (fun t ht => ownGp_inj ht) (lt_size 11 c9.size rfl (by decide)) (mfT_same (lt_size 11 c9.size rfl (by decide)) (by rfl))⟩))⟩
     ·exact fun β L c9 => ⟨_, rfl, .inl (OG.of_OL (ixO sl.Ratss (id := 43) (b := b43) (l := w.length) (c := w.length) (pG_new rfl (come_dep (j := 2) c9 (by kernel_rfl))) (pG_new rfl (come_dep (j := 3) c9 (by kernel_rfl))) (by omega) (by omega) (i := t) (by omega) ⟨β, pG_put (d := 80) (i := 4) rfl (fun t ht => ownGp_inj ht) (lt_size 11 c9.size rfl (by decide)) (mfT_same (lt_size 11 c9.size rfl (by decide)) (by rfl))⟩))⟩
     ·exact fun β L c9 => ⟨_, rfl, .inl (OG.of_OL (ldLe (.rowC (by decide) (pG_new rfl (come_dep (j := 4) c9 (by kernel_rfl))) ((pG_M (mfT_skip (show (43:Nat) ≠ 84 by decide) rfl)) : _ = some (.row b43 w.length T.Rats 1 ((posN h w t).set t (hdA i q c)))) hel ce.Rats (d := hdA i q c) (by rw [hdA_cells]; rfl)) (vle_hdA 84 hc0 hic) ⟨β, pG_put (d := 81) (i := 5) rfl (fun t ht => ownGp_inj ht) (lt_size 11 c9.size rfl (by decide)) (mfT_same (lt_size 11 c9.size rfl (by decide)) (by rfl))⟩))⟩
     ·exact fun β L c9 => ⟨_, rfl, .inl (OG.of_OL (ldPA ag.Rat (id := 15) (b := b15) (o := 0) ((pG_old rfl).trans rfl) ((pG_M (mfT_skip (show (15:Nat) ≠ 84 by decide) rfl)) : _ = some (.box b15 T.Rat (cellsQ (postQ h w t i)))) (vs := [_,_,_]) rfl (nb9 rfl) ⟨β, pG_put (d := 82) (i := 6) rfl (fun t ht => ownGp_inj ht) (lt_size 11 c9.size rfl (by decide)) (mfT_same (lt_size 11 c9.size rfl (by decide)) (by rfl))⟩))⟩
     ·exact fun β L c9 => ⟨_, rfl, .inl (OG.of_OL (lt1 (y := dQ (postQ h w t i)) sl.Rats (vd_to (pG_new rfl (come_dep (j := 6) c9 (by kernel_rfl))) vd_q) rfl (by decide) ⟨β, pG_put (d := 83) (i := 7) rfl (fun t ht => ownGp_inj ht) (lt_size 11 c9.size rfl (by decide)) (mfT_same (lt_size 11 c9.size rfl (by decide)) (by rfl))⟩))⟩
     ·exact fun β L c9 => ⟨_, rfl, .inl (OG.of_OL (apO sl.Rats rfl (pG_new rfl (come_dep (j := 5) c9 (by kernel_rfl))) ((pG_M (mfT_no (by exact c9.no) rfl)) : _ = some (.row q c T.Rat 3 (((postF h w t).take i).map dQ))) hlen9 (vc_to (pG_new rfl (come_dep (j := 7) c9 (by kernel_rfl))) (VC.d _)) (fun y hy => by rw [List.mem_singleton.1 hy]; rfl) (by simp only [List.length_singleton]; omega) (by simp only [List.length_singleton]; omega) (.inr rfl) (ys := (((postF h w t).take i).map dQ) ++ [dQ (postQ h w t i)]) rfl (n2 := i + 1) rfl fun b8 c8 => ⟨upd β 84 (b8, c8), pG_set (d := 84) (i := 8) (x := (b8, c8)) rfl (fun t ht => ownGp_inj ht) (lt_size 11 c9.size rfl (by decide)) rfl (Eq.trans (mfT_here (lt_size 11 c9.size rfl (by decide)) rfl rfl rfl c9.no (by rfl) (fun y hy => absurd hy List.not_mem_nil)) (upd_upd _ _ _ _).symm) (fun t j ho hl => by unfold ownGp at ho; split at ho <;> cases ho <;> first | rfl | (rw [c9.no] at hl; cases hl) | exact come_notT c9 (by kernel_rfl) hl)⟩))⟩
     ·exact fun β L c9 => ⟨_, rfl, .inl (OG.of_OL (ixO sl.Ratss (id := 43) (b := b43) (l := w.length) (c := w.length) (pG_new rfl (come_dep (j := 0) c9 (by kernel_rfl))) (pG_new rfl (come_dep (j := 1) c9 (by kernel_rfl))) (by omega) (by omega) (i := t) (by omega) ⟨β, pG_put (d := 85) (i := 9) rfl (fun t ht => ownGp_inj ht) (lt_size 11 c9.size rfl (by decide)) (mfT_same (lt_size 11 c9.size rfl (by decide)) (by rfl))⟩))⟩
    refine fun β L c9 hA => ⟨_, rfl, SG.of_SO (SO.stHead (id := 84) (es := (((postF h w t).take i).map dQ) ++ [dQ (postQ h w t i)]) (pG_new rfl (hA 9 (by decide))) (pG_new rfl (hA 8 (by decide))) (pG_M (mfT_yes (hA 8 (by decide)) rfl rfl)) ((pG_M (mfT_skip (show (43:Nat) ≠ 84 by decide) rfl)) : _ = some (.row b43 w.length T.Rats 1 ((posN h w t).set t (hdA i q c)))) sz.Rats (by rw [List.length_set]; omega) (by simp) fun hc => ?_)⟩
    refine AW.to [(1, .d (ints w)), (2, .ptr 2 b2 0), (4, .mt), (5, .d (dI 0)), (6, .d (dQss ((List.range w.length).map (fwdF h w)))), (8, .d (dQss (colsB h w w.length))), (10, .ptr 10 b10 0), (12, .osl 43 b43 w.length w.length), (13, .d (dI t)), (14, .d (dI i))] [(2, .box b2 T.Hidden (cellsHM h)), (10, .box b10 T.Rat (cellsQ (likF h w))), (43, .row b43 w.length T.Rats 1 ((posN h w t).set t (hdA (i + 1) (β 84).1 (β 84).2))), (84, .row (β 84).1 (β 84).2 T.Rat 3 ((((postF h w t).take (i + 1)).map dQ)))] (.cons (vle_of_eq (sto_rho ((pG_old rfl).trans rfl))) (.cons (vle_of_eq (sto_rho ((pG_old rfl).trans rfl))) (.cons (vle_of_eq (sto_rho ((pG_old rfl).trans rfl))) (.cons (vle_of_eq (sto_rho ((pG_old rfl).trans rfl))) (.cons (vle_of_eq (sto_rho ((pG_old rfl).trans rfl))) (.cons (vle_of_eq (sto_rho ((pG_old rfl).trans rfl))) (.cons (vle_of_eq (sto_rho ((pG_old rfl).trans rfl))) (.cons (vle_of_eq (sto_rho ((pG_old rfl).trans rfl))) (.cons (vle_of_eq (sto_rho ((pG_old rfl).trans rfl))) (.cons (vle_of_eq (sto_rho ((pG_old rfl).trans rfl))) (.nil))))))))))) (.cons (sto_old (show (2:Nat) ≠ 43 by decide) (pG_M (mfT_skip (show (2:Nat) ≠ 84 by decide) rfl))) (.cons (sto_old (show (10:Nat) ≠ 43 by decide) (pG_M (mfT_skip (show (10:Nat) ≠ 84 by decide) rfl))) (.cons (sto_new.trans (congrArg some (congrArg (Blk.row b43 w.length T.Rats 1) (by rw [List.set_set, hdA_pos (Nat.succ_pos _)])))) (.cons ((sto_old (show (84:Nat) ≠ 43 by decide) (pG_M (mfT_yes (hA 8 (by decide)) rfl rfl))).trans (congrArg some (congrArg (Blk.row (β 84).1 (β 84).2 T.Rat 3) (by rw [take_succ_getD (show i < (postF h w t).length by omega) 0, hpg, List.map_append]; rfl)))) (.nil))))) ?_
    generalize (β 84).1 = q2
    generalize (β 84).2 = d2
    refine AW.rg hE rfl (mvD rfl (add_i64 rfl rfl (by omega) (asD rfl (OL.nil ?_))))
    exact AW.again (x := (i, q, c)) (i + 1, q2, d2) (by (simp only []; omega)) ⟨⟨by omega, fun e => absurd e (Nat.succ_ne_zero i)⟩, Knows.app (.cons (VLe.refl _) (.cons (VLe.refl _) (.cons (VLe.refl _) (.cons (VLe.refl _) (.cons (VLe.refl _) (.cons (VLe.refl _) (.cons (VLe.refl _) (.cons (VLe.refl _) (.cons (VLe.refl _) .nil))))))))) (.cons (VLe.refl _) .nil), Owns.app (.cons rfl (.cons rfl .nil)) (.cons rfl (.cons rfl .nil))⟩
   ·try simp only [dx9] at h53
    refine AW.exit ?_
    obtain rfl : i = h.st := by omega
    refine AW.freezeIn 84 43 t rfl rfl ((List.getElem?_set_self (by omega)).trans (congrArg some (hdA_pos (by omega)))) (n := h.st) (by rw [List.length_map, List.length_take]; omega) (by decide) (AW.to [(1, .d (ints w)), (2, .ptr 2 b2 0), (4, .mt), (5, .d (dI 0)), (6, .d (dQss ((List.range w.length).map (fwdF h w)))), (8, .d (dQss (colsB h w w.length))), (10, .ptr 10 b10 0), (12, .osl 43 b43 w.length w.length), (13, .d (dI t))] [(2, .box b2 T.Hidden (cellsHM h)), (10, .box b10 T.Rat (cellsQ (likF h w))), (43, .row b43 w.length T.Rats 1 (posN h w (t + 1)))] (.cons (VLe.refl _) (.cons (VLe.refl _) (.cons (VLe.refl _) (.cons (VLe.refl _) (.cons (VLe.refl _) (.cons (VLe.refl _) (.cons (VLe.refl _) (.cons (VLe.refl _) (.cons (VLe.refl _) (.nil)))))))))) (.cons rfl (.cons rfl (.cons (congrArg some (congrArg (Blk.row b43 w.length T.Rats 1) (by rw [List.set_set, take_row hpfl]; exact posN_set ht))) (.nil)))) ?_)
    refine AW.rg hE rfl (mvD rfl (add_i64 rfl rfl (by omega) (asD rfl (OL.nil ?_))))
    exact AW.again (x := t) (t + 1) (by omega) ⟨by omega, Knows.app (.cons (VLe.refl _) (.cons (VLe.refl _) (.cons (VLe.refl _) (.cons (VLe.refl _) (.cons (VLe.refl _) (.cons (VLe.refl _) (.cons (VLe.refl _) (.cons (VLe.refl _) .nil)))))))) (.cons (VLe.refl _) .nil), Owns.app (.cons rfl (.cons rfl .nil)) (.cons rfl .nil)⟩
  ·try simp only [dx9] at h47
   refine AW.exit (AW.seq ?_)
   obtain rfl : t = w.length := by omega
   refine AW.freeze 43 rfl (AW.to [(12, .d (dQss ((List.range w.length).map (postF h w))))] [] (.cons (frz_osl hpl.symm (by rw [posN_all])) .nil) .nil ?_)
   exact AW.rg hE rfl (mvD rfl (asD rfl (asD rfl (OL.nil (AW.ret (RetQ.r ⟨_, .tmp rfl (.tmp rfl .nil), _, .cons (.le (by rw [postR, if_neg hz]; exact VLe.refl _)) (.cons (.le (VLe.int (by rw [postE, if_neg hz]))) .nil), rfl⟩))))))
end Go.Proofs.YtjghehkgmanmbaaGreat

/-
  The law CheckpointCuts (printed by mk2.py).
-/
import Derived.Test.YtcebciggodhmcaaGreatKOnP
import Derived.Test.YtcebciggodhmcaaGreatKWord
set_option linter.unusedVariables false
set_option linter.unusedSimpArgs false
namespace Go.Proofs.YtcebciggodhmcaaGreat
open Go Go.AL
set_option maxRecDepth 6000 in
set_option maxHeartbeats 3200000 in
theorem law_CheckpointCuts {L l : List Int} {cs cy at_ : Int} (nL : L.length ≤ 9223372036854775807) : FSpec P F.law36_CheckpointCuts [.ag [.d (dI cs), .d (dI cy), .d (ints L)], .d (ints l), .d (dI at_)] (.d (dB true)) := by
  obtain ⟨h, hh⟩ : ∃ h, h = chainHM L cs cy 3 := ⟨_, rfl⟩
  have hg : h.Good 1 := by rw [hh]; exact chainHM_good L cs cy (by decide)
  have f := hg.form
  have s0 := f.sym0
  have s1 := f.sym1
  have n1 := f.st1
  have e3 := f.stop
  obtain ⟨w, hw⟩ : ∃ w, w = wordF l h.sym 8 := ⟨_, rfl⟩
  have kw : WordOK h w := by rw [hw]; exact wordF_ok s0 (by decide)
  have wl : w.length ≤ 8 := by rw [hw]; exact wordF_len ..
  refine FSpec.intro fn.law36_CheckpointCuts (by rfl) (by rfl) (Nat.le_of_ble_eq_true (by rfl)) fun E hE => ?_
  refine AW.seq ?_
  refine AW.region (by rw [hE]; rfl) ?_
  refine bxA rfl rfl fun b3 => ?_
  refine asD rfl ?_
  refine OL.nil ?_
  refine AW.seq ?_
  refine AW.region (by rw [hE]; rfl) ?_
  refine ldPA ag.Chain rfl rfl (vs := [_, _, _]) rfl (Nat.le_of_ble_eq_true rfl) ?_
  refine clv rfl (.cons (VLe.refl _) (.cons (VLe.refl _) (.nil))) (chain_Hidden (by decide) nL) ?_
  rw [← hh]
  refine al z.Hidden rfl fun b7 => ?_
  refine sto sz.Hidden rfl rfl rfl rfl rfl (Nat.le_of_ble_eq_true rfl) (cells2 := [_, _, _, _, _, _, _, _, _, _, _]) rfl ?_
  refine OL.nil ?_
  refine AW.seq ?_
  refine AW.region (by rw [hE]; rfl) ?_
  refine mvD rfl ?_
  refine faP fd.Hidden_0 rfl rfl ?_
  refine ldPC ce.int rfl rfl rfl ?_
  refine clv rfl (.cons (VLe.refl _) (.cons (VLe.refl _) (.cons (VLe.refl _) (.nil)))) (world_Word (sym := h.sym) (most := 8) ⟨s0, by omega⟩ (by decide)) ?_
  rw [← hw]
  refine asD rfl ?_
  refine OL.nil ?_
  refine AW.seq ?_
  refine AW.seq ?_
  refine AW.region (by rw [hE]; rfl) ?_
  refine mvD rfl ?_
  refine lnL sl.ints rfl rfl ?_
  refine c_lss rfl rfl rfl ?_
  refine OL.nil ?_
  refine AW.cond rfl (fun h2 => ?_) (fun h2 => ?_)
  · have _h2 := h2
    refine AW.seq ?_
    refine AW.region (by rw [hE]; rfl) ?_
    refine clv rfl .nil law36_known ?_
    refine asD rfl ?_
    refine OL.nil ?_
    exact AW.ret (RetQ.r ⟨_, .tmp rfl .nil, .le (by first | exact VLe.refl _ | exact VLe.mt | exact vle_q0 | exact VLe.int (by omega) | exact VLe.bool (by simp_all))⟩)
  · have h2 : 2 ≤ w.length := by have := of_decide_eq_false h2; omega
    have hw0 : w.length ≠ 0 := by omega
    have wr := within_range (v := at_) (m := ((w.length - 1 : Nat) : Int)) (by omega)
    obtain ⟨k, ek⟩ : ∃ k : Nat, 1 + within at_ ((w.length - 1 : Nat) : Int) = (k : Int) := ⟨(1 + within at_ ((w.length - 1 : Nat) : Int)).toNat, by omega⟩
    have hk : 1 ≤ k ∧ k ≤ w.length - 1 := by omega
    have hl0 := colsL_len h w 0 w.length
    have hlk := colsL_len h w 0 k
    have hcl := colF_len h w hw0
    have hlast : (colsL h w 0 w.length).getD (w.length - 1) [] = colF h w w.length := by
      rw [colsL_get (by omega), show 0 + (w.length - 1) + 1 = w.length by omega]
    have hfirst : (colsL h w 0 k).getD (k - 1) [] = colF h w k := by
      rw [colsL_get (by omega), show 0 + (k - 1) + 1 = k by omega]
    have zc := colF_sz f w w.length
    have zE := fun i => endC_sz f zc (by omega) i
    have hbc := best_cols hg w hw0
    refine AW.skip ?_
    refine AW.seq ?_
    refine AW.region (by rw [hE]; rfl) ?_
    refine mvD rfl ?_
    refine mvD rfl ?_
    refine lnL sl.ints rfl rfl ?_
    refine bo rfl rfl (bin_sub (c := ((w.length - 1 : Nat) : Int)) (by omega) (wrap_i64 (by omega))) ?_
    refine clv rfl (.cons (VLe.refl _) (.cons (VLe.refl _) (.nil))) (world_Within (v := at_) (m := ((w.length - 1 : Nat) : Int)) (by omega)) ?_
    refine bo rfl rfl (bin_add (c := (k : Int)) ek (wrap_i64 (by omega))) ?_
    refine asD rfl ?_
    refine OL.nil ?_
    refine AW.seq ?_
    refine AW.region (by rw [hE]; rfl) ?_
    refine ldPA ag.Hidden rfl rfl (vs := [_, _, _, _, _, _, _, _, _, _, _]) rfl (Nat.le_of_ble_eq_true rfl) ?_
    refine mvD rfl ?_
    refine mvD rfl ?_
    refine lnL sl.ints rfl rfl ?_
    refine bo rfl rfl (bin_sub (c := ((w.length - 1 : Nat) : Int)) (by omega) (wrap_i64 (by omega))) ?_
    refine clv rfl (.cons (VLe.refl _) (.cons (VLe.refl _) (.cons (VLe.refl _) (.cons (VLe.int (by omega)) (.cons VLe.mt .nil))))) (checkpoint_Columns (fr := 0) (n := w.length - 1) hg kw (by omega)) ?_
    rw [show w.length - 1 + 1 = w.length by omega]
    refine mvT rfl ?_
    refine ex rfl rfl ?_
    refine ex rfl rfl ?_
    refine asD rfl ?_
    refine asD rfl ?_
    refine OL.nil ?_
    refine AW.seq ?_
    refine AW.region (by rw [hE]; rfl) ?_
    refine ldPA ag.Hidden rfl rfl (vs := [_, _, _, _, _, _, _, _, _, _, _]) rfl (Nat.le_of_ble_eq_true rfl) ?_
    refine mvD rfl ?_
    refine mvD rfl ?_
    refine bo rfl rfl (bin_sub (c := ((k - 1 : Nat) : Int)) (by omega) (wrap_i64 (by omega))) ?_
    refine clv rfl (.cons (VLe.refl _) (.cons (VLe.refl _) (.cons (VLe.refl _) (.cons (VLe.int (by omega)) (.cons VLe.mt .nil))))) (checkpoint_Columns (fr := 0) (n := k - 1) hg kw (by omega)) ?_
    rw [show k - 1 + 1 = k by omega]
    refine mvT rfl ?_
    refine ex rfl rfl ?_
    refine ex rfl rfl ?_
    refine asD rfl ?_
    refine asD rfl ?_
    refine OL.nil ?_
    refine AW.seq ?_
    refine AW.seq ?_
    refine AW.region_draw 1 [0, 1, 2, 3, 4, 5, 6, 7, 8, 9, 10, 11, 12, 13, 14, 15, 16, 17, 18, 19, 20, 21, 22, 23, 24, 25, 26, 27, 28, 29, 30] order_free (by rw [hE]; rfl) (by kernel_rfl) (OI.of_OL (os := [_, _, _, _, _, _, _, _, _, _, _, _, _, _, _, _, _, _, _, _, _, _, _, _, _, _, _, _, _, _, _]) rfl ?_)
    refine mvD rfl ?_
    refine c_neq rfl rfl (c := false) (by first | exact decide_eq_true (by omega) | exact decide_eq_false (by omega) | exact cne_f (by omega) | exact cne_t (by omega) | rfl) ?_
    refine mvD rfl ?_
    refine OL.yes rfl ?_
    refine mvD rfl ?_
    refine OL.yes rfl ?_
    refine c_neq rfl rfl (c := false) (by first | exact decide_eq_true (by omega) | exact decide_eq_false (by omega) | exact cne_f (by omega) | exact cne_t (by omega) | rfl) ?_
    refine pkF rfl rfl ?_
    refine mvD rfl ?_
    refine OL.yes rfl ?_
    refine mvD rfl ?_
    refine OL.yes rfl ?_
    refine lnL sl.Ratss rfl rfl ?_
    refine OL.yes rfl ?_
    refine mvD rfl ?_
    refine OL.yes rfl ?_
    refine lnL sl.ints rfl rfl ?_
    refine OL.yes rfl ?_
    refine c_neq rfl rfl (c := false) (cne_f (by omega)) ?_
    refine pkF rfl rfl ?_
    refine mvD rfl ?_
    refine OL.yes rfl ?_
    refine mvD rfl ?_
    refine OL.yes rfl ?_
    refine lnL sl.Ratss rfl rfl ?_
    refine OL.yes rfl ?_
    refine mvD rfl ?_
    refine OL.yes rfl ?_
    refine c_neq rfl rfl (c := false) (cne_f (by omega)) ?_
    refine pkF rfl rfl ?_
    refine mvD rfl ?_
    refine OL.yes rfl ?_
    refine mvD rfl ?_
    refine OL.yes rfl ?_
    refine mvD rfl ?_
    refine OL.yes rfl ?_
    refine lnL sl.ints rfl rfl ?_
    refine OL.yes rfl ?_
    refine bo rfl rfl (bin_sub (c := ((w.length - 1 : Nat) : Int)) (by omega) (wrap_i64 (by omega))) ?_
    refine OL.yes rfl ?_
    refine ixLn sl.Ratss [] rfl rfl (by omega) rfl rfl ?_
    rw [hlast]
    refine OL.yes rfl ?_
    refine ldRC ce.Rats rfl ?_
    refine OL.yes rfl ?_
    refine lnL sl.Rats rfl rfl ?_
    refine OL.yes rfl ?_
    refine faP fd.Hidden_1 rfl rfl ?_
    refine OL.yes rfl ?_
    refine ldPC ce.int rfl rfl rfl ?_
    refine OL.yes rfl ?_
    refine c_neq rfl rfl (c := false) (cne_f (by omega)) ?_
    refine pkF rfl rfl ?_
    refine OL.nil ?_
    refine AW.cond rfl (fun hno => absurd hno (by decide)) (fun _ => ?_)
    refine AW.skip ?_
    refine AW.seq ?_
    refine AW.region_draw 1 [0, 1, 2, 3, 4, 5, 6, 7, 8, 9, 10, 11, 12, 13, 14, 15, 16] order_free (by rw [hE]; rfl) (by kernel_rfl) (OI.of_OL (os := [_, _, _, _, _, _, _, _, _, _, _, _, _, _, _, _, _]) rfl ?_)
    refine ldPA ag.Hidden rfl rfl (vs := [_, _, _, _, _, _, _, _, _, _, _]) rfl (Nat.le_of_ble_eq_true rfl) ?_
    refine mvD rfl ?_
    refine mvD rfl ?_
    refine mvD rfl ?_
    refine lnL sl.ints rfl rfl ?_
    refine bo rfl rfl (bin_sub (c := ((w.length - 1 : Nat) : Int)) (by omega) (wrap_i64 (by omega))) ?_
    refine mvD rfl ?_
    refine mvD rfl ?_
    refine bo rfl rfl (bin_sub (c := ((k - 1 : Nat) : Int)) (by omega) (wrap_i64 (by omega))) ?_
    refine ixLn sl.Ratss [] rfl rfl (by omega) rfl rfl ?_
    rw [hfirst]
    refine ldRC ce.Rats rfl ?_
    refine clv rfl (.cons (VLe.refl _) (.cons (VLe.refl _) (.cons (VLe.refl _) (.cons (VLe.int (by omega)) (.cons (VLe.refl _) .nil))))) (checkpoint_Columns (fr := k) (n := w.length - 1 - k) hg kw (by omega)) ?_
    refine mvT rfl ?_
    refine ex rfl rfl ?_
    refine ex rfl rfl ?_
    refine asD rfl ?_
    refine asD rfl ?_
    refine OL.nil ?_
    refine AW.seq ?_
    refine AW.region (by rw [hE]; rfl) ?_
    refine bd z.Rat pl.Rat (cs := [_, _, _]) rfl ?_
    refine al z.Rat rfl fun b16 => ?_
    refine sto sz.Rat rfl rfl rfl rfl rfl (Nat.le_of_ble_eq_true rfl) (cells2 := [_, _, _]) rfl ?_
    refine OL.nil ?_
    refine AW.seq ?_
    refine AW.seq ?_
    refine AW.region (by rw [hE]; rfl) ?_
    refine asD rfl ?_
    refine OL.nil ?_
    refine AW.block ?_
    refine AW.boxW 16 (cellsQ 0) rfl vles_q ?_
    refine AW.whileK (α := Nat) [(6, _), (7, _), (8, _), (10, _), (12, _), (14, _), (15, _), (16, _)] [(7, _)] (fun i => [(17, .d (dI i))]) (fun i => [(16, .box b16 T.Rat (cellsQ (endC h (colF h w w.length) i)))]) (fun i => i ≤ h.st) (fun i => h.st - i) 0 (by repeat (first | exact Knows.nil | refine Knows.cons (by first | exact knD rfl | exact knA rfl | exact knP rfl | exact knO rfl | exact knM rfl | exact knE rfl | exact knR rfl | exact knF rfl | exact knT rfl | exact knJ) ?_)) (.cons (by first | exact owB rfl | exact owR rfl | exact owL rfl | exact owT rfl) .nil) ⟨Nat.zero_le _, .cons (by first | exact VLe.refl _ | exact VLe.int (by omega) | exact VLe.mt | exact vle_q0 | exact VLe.osl | exact VLe.ptr) .nil, .cons rfl .nil⟩ ?_
    intro i h4
    have h4 : i ≤ h.st := h4
    have zp := zE i
    have zs := zc.get (by omega) i
    have zt := stop_sz f i
    have zx : sz ((colF h w w.length).getD i 0 * h.stop.getD i 0) ≤ sz ((colF h w w.length).getD i 0) + sz (h.stop.getD i 0) := sz_mul _ _
    refine AW.seq ?_
    refine AW.seq ?_
    refine AW.region (by rw [hE]; rfl) ?_
    refine mvD rfl ?_
    refine faP fd.Hidden_1 rfl rfl ?_
    refine ldPC ce.int rfl rfl rfl ?_
    refine c_lss rfl rfl rfl ?_
    refine OL.nil ?_
    refine AW.cond rfl (fun h105 => ?_) (fun h105 => ?_)
    · first | (simp only [decide_eq_true_eq, decide_eq_false_iff_not, Bool.not_eq_true', Bool.not_eq_false', Bool.not_not, Bool.and_eq_true, Bool.and_eq_false_iff, Bool.or_eq_true, Bool.or_eq_false_iff] at h105) | skip
      refine AW.skip ?_
      refine AW.midK (α := Unit) [(6, _), (7, _), (8, _), (10, _), (12, _), (14, _), (15, _), (16, _)] [(7, _)] (fun _u => [(17, .d (dI i))]) (fun _u => [(16, .box b16 T.Rat (cellsQ (endC h (colF h w w.length) (i + 1))))]) (fun _u => True) (by repeat (first | exact Knows.nil | refine Knows.cons (by first | exact knD rfl | exact knA rfl | exact knP rfl | exact knO rfl | exact knM rfl | exact knE rfl | exact knR rfl | exact knF rfl | exact knT rfl | exact knJ) ?_)) (.cons (by first | exact owB rfl | exact owR rfl | exact owL rfl | exact owT rfl) .nil) ?_ ?_
      · refine AW.block ?_
        refine AW.seq ?_
        refine AW.region_draw 1 [0, 1, 2, 3, 4, 5, 6, 7, 8, 9, 10, 11, 12, 13, 14, 15, 16] order_free (by rw [hE]; rfl) (by kernel_rfl) (OI.of_OL (os := [_, _, _, _, _, _, _, _, _, _, _, _, _, _, _, _, _]) rfl ?_)
        refine mvD rfl ?_
        refine mvD rfl ?_
        refine lnL sl.ints rfl rfl ?_
        refine bo rfl rfl (bin_sub (c := ((w.length - 1 : Nat) : Int)) (by omega) (wrap_i64 (by omega))) ?_
        refine ixLn sl.Ratss [] rfl rfl (by omega) rfl rfl ?_
        rw [hlast]
        refine ldRC ce.Rats rfl ?_
        refine mvD rfl ?_
        refine ixLn sl.Rats 0 rfl rfl (by omega) rfl rfl ?_
        refine ldRA ag.Rat rfl (vs := [_, _, _]) rfl (Nat.le_of_ble_eq_true rfl) ?_
        refine faP fd.Hidden_5 rfl rfl ?_
        refine ldPC ce.Rats rfl rfl rfl ?_
        refine mvD rfl ?_
        refine ixLn sl.Rats 0 rfl rfl (by omega) rfl rfl ?_
        refine ldRA ag.Rat rfl (vs := [_, _, _]) rfl (Nat.le_of_ble_eq_true rfl) ?_
        refine clv rfl (.cons (VLe.refl _) (.cons (VLe.refl _) (.nil))) (ref_MulQ (x := (colF h w w.length).getD i 0) (y := h.stop.getD i 0) (by omega) (by omega)) ?_
        refine al z.Rat rfl fun b18 => ?_
        refine sto sz.Rat rfl rfl rfl rfl rfl (Nat.le_of_ble_eq_true rfl) (cells2 := [_, _, _]) rfl ?_
        refine OL.nil ?_
        refine AW.seq ?_
        refine AW.region (by rw [hE]; rfl) ?_
        refine ldPA ag.Rat rfl rfl (vs := [_, _, _]) rfl (Nat.le_of_ble_eq_true rfl) ?_
        refine ldPA ag.Rat rfl rfl (vs := [_, _, _]) rfl (Nat.le_of_ble_eq_true rfl) ?_
        refine clv rfl (.cons (VLe.refl _) (.cons (VLe.refl _) (.nil))) (ref_CompareQ (x := ((colF h w w.length).getD i 0 * h.stop.getD i 0)) (y := (endC h (colF h w w.length) i)) (by omega) (by omega)) ?_
        refine c_gtr rfl rfl rfl ?_
        refine OL.nil ?_
        refine AW.cond rfl (fun hgt => ?_) (fun hgt => ?_)
        · have hgt : (endC h (colF h w w.length) i) < ((colF h w w.length).getD i 0 * h.stop.getD i 0) := cmpQ_gt.1 (of_decide_eq_true hgt)
          have hcn : (endC h (colF h w w.length) (i + 1)) = ((colF h w w.length).getD i 0 * h.stop.getD i 0) := if_pos hgt
          refine AW.region (by rw [hE]; rfl) ?_
          refine ldPA ag.Rat rfl rfl (vs := [_, _, _]) rfl (Nat.le_of_ble_eq_true rfl) ?_
          refine sto sz.Rat rfl rfl rfl rfl rfl (Nat.le_of_ble_eq_true rfl) (cells2 := [_, _, _]) rfl ?_
          refine OL.nil ?_
          exact AW.reach () ⟨trivial, Knows.app (.cons (VLe.refl _) (.cons (VLe.refl _) (.cons (VLe.refl _) (.cons (VLe.refl _) (.cons (VLe.refl _) (.cons (VLe.refl _) (.cons (VLe.refl _) (.cons (VLe.refl _) .nil)))))))) (.cons (by first | exact VLe.refl _ | exact VLe.int (by omega) | exact VLe.mt | exact vle_q0 | exact VLe.osl | exact VLe.ptr) .nil), Owns.app (.cons rfl .nil) (.cons (by rw [hcn]; rfl) .nil)⟩
        · have hgt : ¬ (endC h (colF h w w.length) i) < ((colF h w w.length).getD i 0 * h.stop.getD i 0) := fun e => of_decide_eq_false hgt (cmpQ_gt.2 e)
          have hcn : (endC h (colF h w w.length) (i + 1)) = (endC h (colF h w w.length) i) := if_neg hgt
          refine AW.skip ?_
          exact AW.reach () ⟨trivial, Knows.app (.cons (VLe.refl _) (.cons (VLe.refl _) (.cons (VLe.refl _) (.cons (VLe.refl _) (.cons (VLe.refl _) (.cons (VLe.refl _) (.cons (VLe.refl _) (.cons (VLe.refl _) .nil)))))))) (.cons (by first | exact VLe.refl _ | exact VLe.int (by omega) | exact VLe.mt | exact vle_q0 | exact VLe.osl | exact VLe.ptr) .nil), Owns.app (.cons rfl .nil) (.cons (by rw [hcn]; rfl) .nil)⟩
      rintro ⟨⟩ hφ
      refine AW.region (by rw [hE]; rfl) ?_
      refine mvD rfl ?_
      refine add_i64 rfl rfl (by omega) ?_
      refine asD rfl ?_
      refine OL.nil ?_
      exact AW.again (x := i) (i + 1) (by first | omega | (simp only []; omega)) ⟨by omega, Knows.app (.cons (VLe.refl _) (.cons (VLe.refl _) (.cons (VLe.refl _) (.cons (VLe.refl _) (.cons (VLe.refl _) (.cons (VLe.refl _) (.cons (VLe.refl _) (.cons (VLe.refl _) .nil)))))))) (.cons (by first | exact VLe.refl _ | exact VLe.int (by omega) | exact VLe.mt | exact vle_q0 | exact VLe.osl | exact VLe.ptr) .nil), Owns.app (.cons rfl .nil) (.cons rfl .nil)⟩
    · first | (simp only [decide_eq_true_eq, decide_eq_false_iff_not, Bool.not_eq_true', Bool.not_eq_false', Bool.not_not, Bool.and_eq_true, Bool.and_eq_false_iff, Bool.or_eq_true, Bool.or_eq_false_iff] at h105) | skip
      refine AW.exit ?_
      refine AW.seq ?_
      obtain rfl : i = h.st := by omega
      refine AW.region (by rw [hE]; rfl) ?_
      refine ldPA ag.Hidden rfl rfl (vs := [_, _, _, _, _, _, _, _, _, _, _]) rfl (Nat.le_of_ble_eq_true rfl) ?_
      refine mvD rfl ?_
      refine clv rfl (.cons (VLe.refl _) (.cons (VLe.refl _) (.nil))) (ref35_Best hg kw hw0) ?_
      rw [hbc]
      refine mvT rfl ?_
      refine ex rfl rfl ?_
      refine ex rfl rfl ?_
      refine ex rfl rfl ?_
      refine al z.Rat rfl fun b20 => ?_
      refine asD rfl ?_
      refine sto sz.Rat rfl rfl rfl rfl rfl (Nat.le_of_ble_eq_true rfl) (cells2 := [_, _, _]) rfl ?_
      refine asD rfl ?_
      refine OL.nil ?_
      refine AW.seq ?_
      have hcz : ∀ i, Small 1048576 ((colsL h w 0 w.length).getD i []) := fun i => by
        rcases Nat.lt_or_ge i w.length with h6 | h6
        · rw [colsL_get h6]; exact (colF_sz f w _).mono (by omega)
        · rw [getD_ge (by omega)]; exact fun q hq => by simp at hq
      have hcz2 : ∀ i, ((colsL h w 0 w.length).getD i []).length ≤ 1099511627776 := fun i => by
        rcases Nat.lt_or_ge i w.length with h6 | h6
        · rw [colsL_get h6, colF_len h w (by omega)]; omega
        · rw [getD_ge (by omega)]; exact Nat.zero_le _
      have zb := zE h.st
      have hcn := endC_nonneg (h := h) (colF h w w.length) h.st
      refine AW.region (by rw [hE]; rfl) ?_
      refine clv rfl .nil law36_known ?_
      refine mvD rfl ?_
      refine OL.yes rfl ?_
      refine mvD rfl ?_
      refine OL.yes rfl ?_
      refine c_eql rfl rfl (c := true) (by first | exact decide_eq_true (by omega) | exact decide_eq_false (by omega) | exact cne_f (by omega) | exact cne_t (by omega) | rfl) ?_
      refine pkT rfl rfl ?_
      refine mvD rfl ?_
      refine OL.yes rfl ?_
      refine lt0 sl.Ratss ?_
      refine OL.yes rfl ?_
      refine mvD rfl ?_
      refine OL.yes rfl ?_
      refine apM sl.Ratss rfl rfl (VC.d _) dIs_len (by rw [List.length_map]; omega) (by rw [List.length_map]; omega) rfl fun b143 c143 => ?_
      refine OL.yes rfl ?_
      refine mvD rfl ?_
      refine OL.yes rfl ?_
      refine apOD sl.Ratss rfl rfl rfl rfl (VC.d _) dIs_len (by have := colsL_len h w k (w.length - 1 - k + 1); simp only [List.length_map]; omega) (by have := colsL_len h w k (w.length - 1 - k + 1); simp only [List.length_map]; omega) (.inl rfl) (ys := (colsL h w 0 w.length).map dQs) (by rw [← List.map_append, colsL_cut, show k + (w.length - 1 - k + 1) = w.length by omega]) ?_
      refine OL.yes rfl ?_
      refine mvD rfl ?_
      refine OL.yes rfl ?_
      refine clv rfl (.cons (VLe.refl _) (.cons (VLe.refl _) (.nil))) (law36_columns (a := colsL h w 0 w.length) (C := 1048576) (fun i => ⟨hcz i, hcz2 i⟩) (by omega) (by omega)) ?_
      refine pkT rfl rfl ?_
      refine mvD rfl ?_
      refine OL.yes rfl ?_
      refine mvD rfl ?_
      refine OL.yes rfl ?_
      refine c_eql rfl rfl rfl ?_
      refine OL.yes rfl ?_
      refine ldPA ag.Rat rfl rfl (vs := [_, _, _]) rfl (Nat.le_of_ble_eq_true rfl) ?_
      refine OL.yes rfl ?_
      refine clv rfl (.cons (VLe.refl _) (.nil)) (ref_SignQ (x := (endC h (colF h w w.length) h.st)) (by omega)) ?_
      refine OL.yes rfl ?_
      refine c_gtr rfl rfl rfl ?_
      refine OL.yes rfl ?_
      refine eqb (a := decide ((if 0 < (endC h (colF h w w.length) h.st) then 0 else 11 : Int) = 0)) (b := decide (0 < sgnQ (endC h (colF h w w.length) h.st))) bt.bool rfl rfl ?_
      rw [show (decide ((if 0 < (endC h (colF h w w.length) h.st) then 0 else 11 : Int) = 0) == decide (0 < sgnQ (endC h (colF h w w.length) h.st))) = true by
        by_cases e : 0 < (endC h (colF h w w.length) h.st)
        · rw [if_pos e, decide_eq_true rfl, decide_eq_true (sgn_gt.2 e)]; rfl
        · rw [if_neg e, decide_eq_false (by decide), decide_eq_false (fun k => e (sgn_gt.1 k))]; rfl]
      refine pkT rfl rfl ?_
      refine mvD rfl ?_
      refine OL.yes rfl ?_
      refine ldPA ag.Rat rfl rfl (vs := [_, _, _]) rfl (Nat.le_of_ble_eq_true rfl) ?_
      refine OL.yes rfl ?_
      refine ldPA ag.Rat rfl rfl (vs := [_, _, _]) rfl (Nat.le_of_ble_eq_true rfl) ?_
      refine OL.yes rfl ?_
      refine clv rfl (.cons (VLe.refl _) (.cons (VLe.refl _) (.nil))) (ref_CompareQ (x := (endC h (colF h w w.length) h.st)) (y := (endC h (colF h w w.length) h.st)) (by omega) (by omega)) ?_
      rw [show cmpQ (endC h (colF h w w.length) h.st) (endC h (colF h w w.length) h.st) = 0 from cmpQ_eq.2 rfl]
      refine OL.yes rfl ?_
      refine c_eql rfl rfl rfl ?_
      refine pkT rfl rfl ?_
      refine asD rfl ?_
      refine OL.nil ?_
      exact AW.ret (RetQ.r ⟨_, .tmp rfl .nil, .le (by first | exact VLe.refl _ | exact VLe.mt | exact vle_q0 | exact VLe.int (by omega) | exact VLe.bool (by simp_all))⟩)
end Go.Proofs.YtcebciggodhmcaaGreat

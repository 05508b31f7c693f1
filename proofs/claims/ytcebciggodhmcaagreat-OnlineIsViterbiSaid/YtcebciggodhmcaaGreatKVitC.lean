/-
  Walks of package viterbi, part 3: the best path, Best, Within; words; sanity checks (printed by mk2.py).
-/
import Derived.Test.YtcebciggodhmcaaGreatKVitB
import Derived.Test.YtcebciggodhmcaaGreatKWord
import Derived.Test.YtcebciggodhmcaaGreatKMod35b
set_option linter.unusedVariables false
set_option linter.unusedSimpArgs false
namespace Go.Proofs.YtcebciggodhmcaaGreat
open Go Go.AL
abbrev dIss (l : List (List Int)) : D := .sl (l.map ints)
theorem vd_q0B : VD (.ag [.d (dB false), .mt, .mt]) (dQ 0) := VD.ag vcs_q0
theorem vit_path {h : HM} {B : Nat} {w : List Int} {p : Nat → Nat → Bool} (g : h.Good B) (k : WordOK h w) : FSpec P F.viterbi_table_path [.ref (cellsT h w (colsG h w p w.length))] (.tup [.d (ints (vitP h w p)), vQ (bestR h w p), .d (dI (vitE h w p))]) := by
  have f := g.form
  have n0 := f.st0
  have n1 := f.st1
  have k1 := k.1
  have zE := f.zE
  have bB := f.bB
  have zR := bestR_sz f k1 p
  refine FSpec.intro fn.viterbi_table_path (by rfl) (by rfl) (Nat.le_of_ble_eq_true (by rfl)) fun E hE => ?_
  refine AW.seq ?_
  refine AW.region (by rw [hE]; rfl) ?_
  refine asM rfl ?_
  refine al z.Rat rfl fun b3 => ?_
  refine asD rfl ?_
  refine OL.nil ?_
  refine AW.seq ?_
  refine AW.seq ?_
  refine AW.region (by rw [hE]; rfl) ?_
  refine mvR rfl ?_
  refine ncR rfl ?_
  refine faR fd.table_1 rfl rfl ?_
  refine ldRC ce.ints rfl ?_
  refine lnL sl.ints rfl rfl ?_
  refine c_eql rfl rfl rfl ?_
  refine OL.nil ?_
  refine AW.cond rfl (fun h0 => ?_) (fun h0 => ?_)
  · have h0 : w.length = 0 := by have := of_decide_eq_true h0; omega
    have hbe : bestR h w p = h.empty := if_pos h0
    refine AW.seq ?_
    refine AW.seq ?_
    refine AW.region (by rw [hE]; rfl) ?_
    refine mvR rfl ?_
    refine ncR rfl ?_
    refine faR fd.table_0 rfl rfl ?_
    refine faR fd.Hidden_2 rfl rfl ?_
    refine ldRA ag.Rat rfl (vs := [_, _, _]) rfl (Nat.le_of_ble_eq_true rfl) ?_
    refine clv rfl (.cons (VLe.refl _) (.nil)) (rational_SignQ (x := h.empty) (by omega)) ?_
    refine c_eql rfl rfl rfl ?_
    refine OL.nil ?_
    refine AW.cond rfl (fun hz => ?_) (fun hz => ?_)
    · have hz : h.empty = 0 := sgnQ_eq.1 (of_decide_eq_true hz)
      have hbr : bestR h w p = 0 := hbe.trans hz
      refine AW.seq ?_
      refine AW.region (by rw [hE]; rfl) ?_
      refine bd z.Rat pl.Rat (cs := [_, _, _]) rfl ?_
      refine asM rfl ?_
      refine sto sz.Rat rfl rfl rfl rfl rfl (Nat.le_of_ble_eq_true rfl) (cells2 := [_, _, _]) rfl ?_
      refine asD rfl ?_
      refine OL.nil ?_
      exact AW.ret (RetQ.r ⟨_, .tmp rfl (.cellA rfl rfl ag.Rat (Nat.le_of_ble_eq_true rfl) (.tmp rfl .nil)), _, .cons (.le (by rw [vitP, if_pos (.inl h0)]; exact VLe.mt)) (.cons (.ag (.cons (.le (by rw [hbr, ofQ_zero]; exact VLe.refl _)) (.cons (.le (by rw [hbr, ofQ_zero]; exact VLe.mt)) (.cons (.le (by rw [hbr, ofQ_zero]; exact VLe.mt)) .nil)))) (.cons (.le (VLe.int (by rw [vitE, if_pos hbr]))) .nil)), rfl⟩)
    · have hbr : bestR h w p ≠ 0 := fun e => of_decide_eq_false hz (sgnQ_eq.2 (hbe.symm.trans e))
      refine AW.skip ?_
      refine AW.seq ?_
      refine AW.region (by rw [hE]; rfl) ?_
      refine mvR rfl ?_
      refine ncR rfl ?_
      refine faR fd.table_0 rfl rfl ?_
      refine faR fd.Hidden_2 rfl rfl ?_
      refine ldRA ag.Rat rfl (vs := [_, _, _]) rfl (Nat.le_of_ble_eq_true rfl) ?_
      refine clv rfl (.cons (VLe.refl _) (.nil)) (fresh_Rat (q := h.empty) (by omega)) ?_
      refine asM rfl ?_
      refine sto sz.Rat rfl rfl rfl rfl rfl (Nat.le_of_ble_eq_true rfl) (cells2 := [_, _, _]) rfl ?_
      refine asD rfl ?_
      refine OL.nil ?_
      exact AW.ret (RetQ.r ⟨_, .tmp rfl (.cellA rfl rfl ag.Rat (Nat.le_of_ble_eq_true rfl) (.tmp rfl .nil)), _, .cons (.le (by rw [vitP, if_pos (.inl h0)]; exact VLe.mt)) (.cons (.ag (.cons (.le (vle_of_eq (congrArg (fun z : Rat => V.d (dB (ofQ z).neg)) hbe.symm))) (.cons (.le (vle_of_eq (congrArg (fun z : Rat => V.d (u32s (ofQ z).num)) hbe.symm))) (.cons (.le (vle_of_eq (congrArg (fun z : Rat => V.d (u32s (ofQ z).den)) hbe.symm))) .nil)))) (.cons (.le (VLe.int (by rw [vitE, if_neg hbr]))) .nil)), rfl⟩)
  · have h0 : w.length ≠ 0 := fun e => of_decide_eq_false h0 (by omega)
    have hbe : bestR h w p = bestG h w p := if_neg h0
    refine AW.skip ?_
    refine AW.seq ?_
    refine AW.region (by rw [hE]; rfl) ?_
    refine mvR rfl ?_
    refine clv rfl (.cons (VLe.refl _) (.cons (VLe.refl _) (.cons (VLe.refl _) (.nil)))) (vit_best (rows := colsG h w p w.length) (a := 0) (fr := -1) (rest := restG h w p (w.length - 1 - 0)) f k (by omega) ⟨by omega, by omega⟩ (restG_len ..) (restG_szB f w p (by omega)) (by rw [colsG_len]; omega) (colsG_get (by omega) (by omega))) ?_
    rw [show aheadF h (-1) (symX w 0) (restG h w p (w.length - 1 - 0)) h.st = ahdG h w p (-1) 0 from rfl, show (ahdG h w p (-1) 0).1 = bestG h w p from rfl]
    refine mvT rfl ?_
    refine ex rfl rfl ?_
    refine ex rfl rfl ?_
    refine al z.Rat rfl fun b5 => ?_
    refine sto sz.Rat rfl rfl rfl rfl rfl (Nat.le_of_ble_eq_true rfl) (cells2 := [_, _, _]) rfl ?_
    refine asD rfl ?_
    refine OL.nil ?_
    refine AW.seq ?_
    refine AW.seq ?_
    refine AW.region (by rw [hE]; rfl) ?_
    refine ldPA ag.Rat rfl rfl (vs := [_, _, _]) rfl (Nat.le_of_ble_eq_true rfl) ?_
    refine clv rfl (.cons (VLe.refl _) (.nil)) (rational_SignQ (x := bestG h w p) (by rw [← hbe]; omega)) ?_
    refine c_eql rfl rfl rfl ?_
    refine OL.nil ?_
    refine AW.cond rfl (fun hz => ?_) (fun hz => ?_)
    · have hz : bestG h w p = 0 := sgnQ_eq.1 (of_decide_eq_true hz)
      have hbr : bestR h w p = 0 := hbe.trans hz
      refine AW.seq ?_
      refine AW.region (by rw [hE]; rfl) ?_
      refine bd z.Rat pl.Rat (cs := [_, _, _]) rfl ?_
      refine asM rfl ?_
      refine sto sz.Rat rfl rfl rfl rfl rfl (Nat.le_of_ble_eq_true rfl) (cells2 := [_, _, _]) rfl ?_
      refine asD rfl ?_
      refine OL.nil ?_
      exact AW.ret (RetQ.r ⟨_, .tmp rfl (.cellA rfl rfl ag.Rat (Nat.le_of_ble_eq_true rfl) (.tmp rfl .nil)), _, .cons (.le (by rw [vitP, if_pos (.inr hz)]; exact VLe.mt)) (.cons (.ag (.cons (.le (by rw [hbr, ofQ_zero]; exact VLe.refl _)) (.cons (.le (by rw [hbr, ofQ_zero]; exact VLe.mt)) (.cons (.le (by rw [hbr, ofQ_zero]; exact VLe.mt)) .nil)))) (.cons (.le (VLe.int (by rw [vitE, if_pos hbr]))) .nil)), rfl⟩)
    · have hz : bestG h w p ≠ 0 := fun e => of_decide_eq_false hz (sgnQ_eq.2 e)
      have hbr : bestR h w p ≠ 0 := fun e => hz (hbe.symm.trans e)
      refine AW.skip ?_
      refine AW.seq ?_
      refine AW.region (by rw [hE]; rfl) ?_
      refine mvD rfl ?_
      refine lt1O (y := dI (toG h w p 1)) sl.ints (VC.d _).vd rfl (by decide) rfl fun b39 => ?_
      refine asO rfl ?_
      refine OL.nil ?_
      refine AW.seq ?_
      refine AW.seq ?_
      refine AW.region (by rw [hE]; rfl) ?_
      refine asD rfl ?_
      refine OL.nil ?_
      refine AW.block ?_
      refine AW.rename 39 59 rfl ?_
      refine AW.whileK (α := Nat × Nat × Nat) [(0, _), (2, _), (3, _), (4, _), (5, _)] [(3, _), (5, _)] (fun (t, q, c) => [(7, .osl 59 q t c), (8, .d (dI t)), (6, .d (dI (toG h w p t)))]) (fun (t, q, c) => [(59, .row q c T.int 1 ((pathG h w p t).map dI))]) (fun (t, q, c) => 1 ≤ t ∧ t ≤ w.length) (fun (t, q, c) => w.length - t) (1, b39, 1) (by repeat (first | exact Knows.nil | refine Knows.cons (by first | exact knD rfl | exact knA rfl | exact knP rfl | exact knO rfl | exact knM rfl | exact knE rfl | exact knR rfl | exact knF rfl | exact knT rfl | exact knJ) ?_)) (by repeat (first | exact Owns.nil | refine Owns.cons (by first | exact owB rfl | exact owR rfl | exact owL rfl | exact owT rfl) ?_)) ⟨⟨by decide, by omega⟩, .cons (by first | exact VLe.refl _ | exact VLe.int (by omega) | exact VLe.mt | exact vle_q0 | exact VLe.osl | exact VLe.ptr) (.cons (by first | exact VLe.refl _ | exact VLe.int (by omega) | exact VLe.mt | exact vle_q0 | exact VLe.osl | exact VLe.ptr) (.cons (by first | exact VLe.refl _ | exact VLe.int (by omega) | exact VLe.mt | exact vle_q0 | exact VLe.osl | exact VLe.ptr) .nil)), .cons rfl .nil⟩ ?_
      rintro ⟨t, q, c⟩ ⟨ht1, ht2⟩
      have ht1 : 1 ≤ t := ht1
      have ht2 : t ≤ w.length := ht2
      have hpl := pathG_len h w p t
      have htr := toG_range n0 w p t
      refine AW.seq ?_
      refine AW.seq ?_
      refine AW.region (by rw [hE]; rfl) ?_
      refine mvD rfl ?_
      refine mvR rfl ?_
      refine ncR rfl ?_
      refine faR fd.table_1 rfl rfl ?_
      refine ldRC ce.ints rfl ?_
      refine lnL sl.ints rfl rfl ?_
      refine c_lss rfl rfl rfl ?_
      refine OL.nil ?_
      refine AW.cond rfl (fun h46 => ?_) (fun h46 => ?_)
      · first | (simp only [decide_eq_true_eq, decide_eq_false_iff_not, Bool.not_eq_true', Bool.not_eq_false', Bool.not_not, Bool.and_eq_true, Bool.and_eq_false_iff, Bool.or_eq_true, Bool.or_eq_false_iff] at h46) | skip
        refine AW.skip ?_
        refine AW.seq ?_
        refine AW.block ?_
        refine AW.seq ?_
        refine AW.region (by rw [hE]; rfl) ?_
        refine mvR rfl ?_
        refine mvD rfl ?_
        refine mvD rfl ?_
        refine clv rfl (.cons (VLe.refl _) (.cons (VLe.refl _) (.cons (VLe.refl _) (.nil)))) (vit_best (rows := colsG h w p w.length) (a := t) (fr := toG h w p t) (rest := restG h w p (w.length - 1 - t)) f k (by omega) htr (restG_len ..) (restG_szB f w p (by omega)) (by rw [colsG_len]; omega) (colsG_get (by omega) (by omega))) ?_
        rw [show aheadF h (toG h w p t) (symX w t) (restG h w p (w.length - 1 - t)) h.st = ahdG h w p (toG h w p t) t from rfl, show (((ahdG h w p (toG h w p t) t).2 : Nat) : Int) = toG h w p (t + 1) from rfl]
        refine mvT rfl ?_
        refine ex rfl rfl ?_
        refine ex rfl rfl ?_
        refine asD rfl ?_
        refine OL.nil ?_
        refine AW.region (by rw [hE]; rfl) ?_
        refine mvO rfl ?_
        refine mvD rfl ?_
        refine lt1 sl.ints (VC.d _).vd rfl (by decide) ?_
        refine apO sl.ints rfl rfl rfl (by rw [List.length_map, hpl]) (VC.d _) (by simp [D.cells]) (by simp; omega) (by simp; omega) (.inr rfl) (ys := (pathG h w p (t + 1)).map dI) (by rw [pathG_succ, List.map_append]; rfl) (n2 := t + 1) (by simp) fun q2 c2 => ?_
        refine asO rfl ?_
        refine OL.nil ?_
        refine AW.region (by rw [hE]; rfl) ?_
        refine mvD rfl ?_
        refine add_i64 rfl rfl (by omega) ?_
        refine asD rfl ?_
        refine OL.nil ?_
        exact AW.again (x := (t, q, c)) (t + 1, q2, c2) (by first | omega | (simp only []; omega)) ⟨⟨by omega, by omega⟩, Knows.app (.cons (VLe.refl _) (.cons (VLe.refl _) (.cons (VLe.refl _) (.cons (VLe.refl _) (.cons (VLe.refl _) .nil))))) (.cons (by first | exact VLe.refl _ | exact VLe.int (by omega) | exact VLe.mt | exact vle_q0 | exact VLe.osl | exact VLe.ptr) (.cons (by first | exact VLe.refl _ | exact VLe.int (by omega) | exact VLe.mt | exact vle_q0 | exact VLe.osl | exact VLe.ptr) (.cons (by first | exact VLe.refl _ | exact VLe.int (by omega) | exact VLe.mt | exact vle_q0 | exact VLe.osl | exact VLe.ptr) .nil))), Owns.app (.cons rfl (.cons rfl .nil)) (.cons rfl .nil)⟩
      · first | (simp only [decide_eq_true_eq, decide_eq_false_iff_not, Bool.not_eq_true', Bool.not_eq_false', Bool.not_not, Bool.and_eq_true, Bool.and_eq_false_iff, Bool.or_eq_true, Bool.or_eq_false_iff] at h46) | skip
        refine AW.exit ?_
        refine AW.seq ?_
        obtain rfl : t = w.length := by omega
        refine AW.region_draw 1 [0, 1, 2, 3, 4] order_free (by rw [hE]; rfl) (by kernel_rfl) (OI.of_OL (os := [_, _, _, _, _]) rfl ?_)
        refine mvO rfl ?_
        refine ldPA ag.Rat rfl rfl (vs := [_, _, _]) rfl (Nat.le_of_ble_eq_true rfl) ?_
        refine asO rfl ?_
        refine sto sz.Rat rfl rfl rfl rfl rfl (Nat.le_of_ble_eq_true rfl) (cells2 := [_, _, _]) rfl ?_
        refine asD rfl ?_
        refine OL.nil ?_
        exact AW.ret (RetQ.r ⟨_, .tmp rfl (.cellA rfl rfl ag.Rat (Nat.le_of_ble_eq_true rfl) (.tmp rfl .nil)), _, .cons (RO.row rfl (by rw [List.length_map, hpl]) (by rw [vitP, if_neg fun x => x.elim h0 hz])) (.cons (.ag (.cons (.le (vle_of_eq (congrArg (fun z : Rat => V.d (dB (ofQ z).neg)) hbe.symm))) (.cons (.le (vle_of_eq (congrArg (fun z : Rat => V.d (u32s (ofQ z).num)) hbe.symm))) (.cons (.le (vle_of_eq (congrArg (fun z : Rat => V.d (u32s (ofQ z).den)) hbe.symm))) .nil)))) (.cons (.le (VLe.int (by rw [vitE, if_neg hbr]))) .nil)), rfl⟩)
theorem vit_Best {h : HM} {B : Nat} {w : List Int} (g : h.Good B) (k : WordOK h w) : FSpec P F.viterbi_Best [vHM h, .d (ints w)] (.tup [.d (ints (vitP h w every)), vQ (bestR h w every), .d (dI (vitE h w every))]) := by
  refine FSpec.intro fn.viterbi_Best (by rfl) (by rfl) (Nat.le_of_ble_eq_true (by rfl)) fun E hE => ?_
  refine AW.seq ?_
  refine AW.region (by rw [hE]; rfl) ?_
  refine bxA rfl rfl fun b2 => ?_
  refine asM rfl ?_
  refine al z.Rat rfl fun b5 => ?_
  refine asD rfl ?_
  refine OL.nil ?_
  refine AW.seq ?_
  refine AW.seq ?_
  refine AW.region (by rw [hE]; rfl) ?_
  refine ldPA ag.Hidden rfl rfl (vs := [_, _, _, _, _, _, _, _, _, _, _]) rfl (Nat.le_of_ble_eq_true rfl) ?_
  refine mvD rfl ?_
  refine clv rfl (.cons (VLe.refl _) (.cons (VLe.refl _) (.nil))) (viterbi_refuse g k) ?_
  refine asD rfl ?_
  refine OL.nil ?_
  refine AW.seq ?_
  refine AW.region (by rw [hE]; rfl) ?_
  refine mvD rfl ?_
  refine c_neq rfl rfl (c := false) (by first | exact decide_eq_true (by omega) | exact decide_eq_false (by omega) | exact cne_f (by omega) | exact cne_t (by omega) | rfl) ?_
  refine OL.nil ?_
  refine AW.cond rfl (fun hno => absurd hno (by decide)) (fun _ => ?_)
  refine AW.skip ?_
  refine AW.seq ?_
  refine AW.region (by rw [hE]; rfl) ?_
  refine ldPA ag.Hidden rfl rfl (vs := [_, _, _, _, _, _, _, _, _, _, _]) rfl (Nat.le_of_ble_eq_true rfl) ?_
  refine mvD rfl ?_
  refine clv rfl (.cons (VLe.refl _) (.cons (VLe.refl _) (.cons (VLe.refl _) (.nil)))) (vit_newTable (fp := F.viterbi_every) (caps := []) (p := every) g k fun t i _ _ => viterbi_every) ?_
  refine clv rfl (.cons (VLe.refl _) (.nil)) (vit_path g k) ?_
  refine ex rfl rfl ?_
  refine ex rfl rfl ?_
  refine ex rfl rfl ?_
  refine asD rfl ?_
  refine sto sz.Rat rfl rfl rfl rfl rfl (Nat.le_of_ble_eq_true rfl) (cells2 := [_, _, _]) rfl ?_
  refine asD rfl ?_
  refine OL.nil ?_
  exact AW.ret (RetQ.r ⟨_, .tmp rfl (.cellA rfl rfl ag.Rat (Nat.le_of_ble_eq_true rfl) (.tmp rfl .nil)), _, .cons (.le (by first | exact VLe.refl _ | exact VLe.mt | exact vle_q0 | exact VLe.int (by omega) | exact VLe.bool (by simp_all))) (.cons (.ag (.cons (.le (by first | exact VLe.refl _ | exact VLe.mt | exact vle_q0 | exact VLe.int (by omega) | exact VLe.bool (by simp_all))) (.cons (.le (by first | exact VLe.refl _ | exact VLe.mt | exact vle_q0 | exact VLe.int (by omega) | exact VLe.bool (by simp_all))) (.cons (.le (by first | exact VLe.refl _ | exact VLe.mt | exact vle_q0 | exact VLe.int (by omega) | exact VLe.bool (by simp_all))) .nil)))) (.cons (.le (by first | exact VLe.refl _ | exact VLe.mt | exact vle_q0 | exact VLe.int (by omega) | exact VLe.bool (by simp_all))) .nil)), rfl⟩)
end Go.Proofs.YtcebciggodhmcaaGreat

/-
  Walks of package checkpoint, part 2: the best path (printed by mk2.py).
-/
import Derived.Test.YtcebciggodhmcaaGreatKCkA
set_option linter.unusedVariables false
set_option linter.unusedSimpArgs false
namespace Go.Proofs.YtcebciggodhmcaaGreat
open Go Go.AL
theorem vcs_mt_row : VCs [.mt] (dQs []).cells := .cons VC.mt .nil
theorem checkpoint_Best {h : HM} {B b : Nat} {w : List Int} (g : h.Good B) (k : WordOK h w) (h0 : w ≠ []) (hb : 1 ≤ b ∧ b ≤ 256) : FSpec P F.checkpoint_Best [vHM h, .d (ints w), .d (dI b)] (.tup [.d (ints (ckP h w)), vQ (if bestP h w = 0 then 0 else bestP h w), .d (dI (ckS h w b : Nat)), .d (dI (ckE h w))]) := by
  have f := g.form
  have k1 := k.1
  have s1 := f.sym1
  have n0 := f.st0
  have n1 := f.st1
  have l0 : 1 ≤ w.length := List.length_pos_iff.2 h0
  have hnk : numK w.length b ≤ 512 := Nat.le_trans (Nat.div_le_self ..) (by omega)
  refine FSpec.intro fn.checkpoint_Best (by rfl) (by rfl) (Nat.le_of_ble_eq_true (by rfl)) fun E hE => ?_
  refine AW.seq ?_
  refine AW.region (by rw [hE]; rfl) ?_
  refine bxA rfl rfl fun b3 => ?_
  refine asM rfl ?_
  refine al z.Rat rfl fun b7 => ?_
  refine asD rfl ?_
  refine asD rfl ?_
  refine OL.nil ?_
  refine AW.seq ?_
  refine AW.seq ?_
  refine AW.region (by rw [hE]; rfl) ?_
  refine ldPA ag.Hidden rfl rfl (vs := [_, _, _, _, _, _, _, _, _, _, _]) rfl (Nat.le_of_ble_eq_true rfl) ?_
  refine mvD rfl ?_
  refine clv rfl (.cons (VLe.refl _) (.cons (VLe.refl _) .nil)) (checkpoint_refuse g k) ?_
  refine asD rfl ?_
  refine OL.nil ?_
  refine AW.seq ?_
  refine AW.region (by rw [hE]; rfl) ?_
  refine mvD rfl ?_
  refine c_neq rfl rfl (c := false) (by first | exact decide_eq_true (by omega) | exact decide_eq_false (by omega) | exact cne_f (by omega) | exact cne_t (by omega) | rfl) ?_
  refine OL.nil ?_
  refine AW.cond rfl (fun hno => absurd hno (by decide)) (fun _ => ?_)
  refine AW.skip ?_
  refine AW.seq ?_
  refine AW.region (by rw [hE]; rfl) ?_
  refine mvD rfl ?_
  refine lnL sl.ints rfl rfl ?_
  refine mvD rfl ?_
  refine clv rfl (.cons (VLe.refl _) (.cons (VLe.refl _) .nil)) (checkpoint_Stored k1 hb) ?_
  refine mvT rfl ?_
  refine ex rfl rfl ?_
  refine ex rfl rfl ?_
  refine asD rfl ?_
  refine asD rfl ?_
  refine OL.nil ?_
  refine AW.seq ?_
  refine AW.seq ?_
  refine AW.region (by rw [hE]; rfl) ?_
  refine mvD rfl ?_
  refine c_neq rfl rfl (c := false) (by first | exact decide_eq_true (by omega) | exact decide_eq_false (by omega) | exact cne_f (by omega) | exact cne_t (by omega) | rfl) ?_
  refine OL.nil ?_
  refine AW.cond rfl (fun hno => absurd hno (by decide)) (fun _ => ?_)
  refine AW.skip ?_
  refine AW.seq ?_
  refine AW.seq ?_
  refine AW.region (by rw [hE]; rfl) ?_
  refine mvD rfl ?_
  refine lnL sl.ints rfl rfl ?_
  refine c_eql rfl rfl (c := false) (by first | exact decide_eq_true (by omega) | exact decide_eq_false (by omega) | exact cne_f (by omega) | exact cne_t (by omega) | rfl) ?_
  refine OL.nil ?_
  refine AW.cond rfl (fun hno => absurd hno (by decide)) (fun _ => ?_)
  refine AW.skip ?_
  refine AW.seq ?_
  refine AW.region (by rw [hE]; rfl) ?_
  refine mvD rfl ?_
  refine lnL sl.ints rfl rfl ?_
  refine mvD rfl ?_
  refine add_i64 rfl rfl (by omega) ?_
  refine sub_i64 rfl rfl (by omega) ?_
  refine mvD rfl ?_
  refine bo rfl rfl (quoN (w.length + b - 1) b (by omega) (by omega) (by omega)) ?_
  rw [show (w.length + b - 1) / b = numK w.length b from rfl]
  refine mkL dQs [] sl.Ratss z.Rats vcs_mt_row rfl rfl (Nat.le_refl _) (by omega) (by omega) rfl fun b66 => ?_
  refine asO rfl ?_
  refine OL.nil ?_
  refine AW.seq ?_
  refine AW.region (by rw [hE]; rfl) ?_
  refine faP fd.Hidden_5 rfl rfl ?_
  refine ldPC ce.Rats rfl rfl rfl ?_
  refine asD rfl ?_
  refine OL.nil ?_
  refine AW.seq ?_
  refine AW.seq ?_
  refine AW.region (by rw [hE]; rfl) ?_
  refine mvD rfl ?_
  refine lnL sl.ints rfl rfl ?_
  refine sub_i64 rfl rfl (by omega) ?_
  refine asD rfl ?_
  refine OL.nil ?_
  refine AW.block ?_
  refine AW.whileK (α := Nat) [(1, _), (2, _), (3, _), (6, _), (7, _), (8, _), (9, _), (11, _), (13, _)] [(3, _), (7, _)] (fun d => [(14, .d (dQs (restF h w (min d (w.length - 1))))), (15, .d (dI ((w.length : Int) - 1 - d)))]) (fun d => [(66, .row b66 (numK w.length b) T.Rats 1 ((keptF h w b d).map dQs))]) (fun d => d ≤ w.length) (fun d => w.length - d) 0 (by repeat (first | exact Knows.nil | refine Knows.cons (by first | exact knD rfl | exact knA rfl | exact knP rfl | exact knO rfl | exact knM rfl | exact knE rfl | exact knR rfl | exact knF rfl | exact knT rfl | exact knJ) ?_)) (by repeat (first | exact Owns.nil | refine Owns.cons (by first | exact owB rfl | exact owR rfl | exact owL rfl | exact owT rfl) ?_)) ⟨Nat.zero_le _, .cons (vle_of_eq (by rw [Nat.zero_min]; rfl)) (.cons (VLe.int (by omega)) .nil), .cons (by rw [keptF_zero hb.1]; rfl) .nil⟩ ?_
  intro d h1
  have h1 : d ≤ w.length := h1
  have hkl := keptF_len h w b d
  refine AW.seq ?_
  refine AW.seq ?_
  refine AW.region (by rw [hE]; rfl) ?_
  refine mvD rfl ?_
  refine c_geq rfl rfl rfl ?_
  refine OL.nil ?_
  refine AW.cond rfl (fun h73 => ?_) (fun h73 => ?_)
  · first | (simp only [decide_eq_true_eq, decide_eq_false_iff_not, Bool.not_eq_true', Bool.not_eq_false', Bool.not_not, Bool.and_eq_true, Bool.and_eq_false_iff, Bool.or_eq_true, Bool.or_eq_false_iff] at h73) | skip
    refine AW.skip ?_
    refine AW.seq ?_
    refine AW.block ?_
    have hdl : d < w.length := by omega
    have hmin : min d (w.length - 1) = d := Nat.min_eq_left (by omega)
    have hdn := div_numK hb.1 (show w.length - 1 - d < w.length by omega)
    refine AW.midK (α := Unit) [(1, _), (2, _), (3, _), (6, _), (7, _), (8, _), (9, _), (11, _), (13, _), (14, _), (15, _)] [(3, _), (7, _)] (fun _u => []) (fun _u => [(66, .row b66 (numK w.length b) T.Rats 1 ((keptF h w b (d + 1)).map dQs))]) (fun _u => True) (by repeat (first | exact Knows.nil | refine Knows.cons (by first | exact knD rfl | exact knA rfl | exact knP rfl | exact knO rfl | exact knM rfl | exact knE rfl | exact knR rfl | exact knF rfl | exact knT rfl | exact knJ) ?_)) (by repeat (first | exact Owns.nil | refine Owns.cons (by first | exact owB rfl | exact owR rfl | exact owL rfl | exact owT rfl) ?_)) ?_ ?_
    · refine AW.midK (α := Unit) [(1, _), (2, _), (3, _), (6, _), (7, _), (8, _), (9, _), (11, _), (13, _), (14, _), (15, _)] [(3, _), (7, _), (66, _)] (fun _u => [(87, .d (dB (decide (w.length - 1 - d + 1 = w.length ∨ (w.length - 1 - d + 1) % b = 0))))]) (fun _u => []) (fun _u => True) (by repeat (first | exact Knows.nil | refine Knows.cons (by first | exact knD rfl | exact knA rfl | exact knP rfl | exact knO rfl | exact knM rfl | exact knE rfl | exact knR rfl | exact knF rfl | exact knT rfl | exact knJ) ?_)) (by repeat (first | exact Owns.nil | refine Owns.cons (by first | exact owB rfl | exact owR rfl | exact owL rfl | exact owT rfl) ?_)) ?_ ?_
      · refine AW.region (by rw [hE]; rfl) ?_
        refine mvD rfl ?_
        refine mvD rfl ?_
        refine lnL sl.ints rfl rfl ?_
        refine sub_i64 rfl rfl (by omega) ?_
        refine c_eql rfl rfl rfl ?_
        refine OL.split 80 rfl (fun g80 => ?_) (fun g80 => ?_)
        · have g80 : w.length - 1 - d + 1 = w.length := by have := of_decide_eq_true g80; omega
          refine mvD rfl ?_
          refine OL.no rfl (by decide) ?_
          refine OL.no rfl (by decide) ?_
          refine OL.no rfl (by decide) ?_
          refine OL.no rfl (by decide) ?_
          refine OL.no rfl (by decide) ?_
          refine pkT rfl rfl ?_
          refine OL.nil ?_
          exact AW.reach () ⟨trivial, Knows.app (.cons (VLe.refl _) (.cons (VLe.refl _) (.cons (VLe.refl _) (.cons (VLe.refl _) (.cons (VLe.refl _) (.cons (VLe.refl _) (.cons (VLe.refl _) (.cons (VLe.refl _) (.cons (VLe.refl _) (.cons (VLe.refl _) (.cons (VLe.refl _) .nil))))))))))) (.cons (VLe.bool (decide_eq_true (.inl g80)).symm) .nil), Owns.app (.cons rfl (.cons rfl (.cons rfl .nil))) (.nil)⟩
        · have g80 : ¬ w.length - 1 - d + 1 = w.length := fun e => of_decide_eq_false g80 (by omega)
          refine mvD rfl ?_
          refine OL.yes rfl ?_
          refine mvD rfl ?_
          refine OL.yes rfl ?_
          refine bo rfl rfl (bin_add (c := ((w.length - 1 - d + 1 : Nat) : Int)) (by omega) (wrap_i64 (by omega))) ?_
          refine OL.yes rfl ?_
          refine mvD rfl ?_
          refine OL.yes rfl ?_
          refine bo rfl rfl (remN (w.length - 1 - d + 1) b (by omega) (by omega)) ?_
          refine OL.yes rfl ?_
          refine c_eql rfl rfl rfl ?_
          refine pkF rfl rfl ?_
          refine OL.nil ?_
          exact AW.reach () ⟨trivial, Knows.app (.cons (VLe.refl _) (.cons (VLe.refl _) (.cons (VLe.refl _) (.cons (VLe.refl _) (.cons (VLe.refl _) (.cons (VLe.refl _) (.cons (VLe.refl _) (.cons (VLe.refl _) (.cons (VLe.refl _) (.cons (VLe.refl _) (.cons (VLe.refl _) .nil))))))))))) (.cons (VLe.bool (decide_eq_decide.2 ⟨fun e => .inr (by omega), fun e => by have := e.resolve_left g80; omega⟩)) .nil), Owns.app (.cons rfl (.cons rfl (.cons rfl .nil))) (.nil)⟩
      rintro ⟨⟩ hφ
      refine AW.cond rfl (fun hc => ?_) (fun hc => ?_)
      · have hc : (w.length - 1 - d + 1 = w.length ∨ (w.length - 1 - d + 1) % b = 0) := of_decide_eq_true hc
        refine AW.region (by rw [hE]; rfl) ?_
        refine mvO rfl ?_
        refine mvD rfl ?_
        refine mvD rfl ?_
        refine bo rfl rfl (quoN (w.length - 1 - d) b (by omega) (by omega) (by omega)) ?_
        refine mvD rfl ?_
        refine ixOn sl.Ratss rfl rfl hdn ?_
        refine stE sz.Rats rfl (VC.d _).vd rfl rfl (by rw [List.length_map, hkl]; exact hdn) (es2 := (keptF h w b (d + 1)).map dQs) (by rw [keptF_set hb.1 hdl hc, List.map_set, hmin]) ?_
        refine OL.nil ?_
        exact AW.reach () ⟨trivial, Knows.app (.cons (VLe.refl _) (.cons (VLe.refl _) (.cons (VLe.refl _) (.cons (VLe.refl _) (.cons (VLe.refl _) (.cons (VLe.refl _) (.cons (VLe.refl _) (.cons (VLe.refl _) (.cons (VLe.refl _) (.cons (VLe.refl _) (.cons (VLe.refl _) .nil))))))))))) (.nil), Owns.app (.cons rfl (.cons rfl .nil)) (.cons rfl .nil)⟩
      · have hc : ¬ (w.length - 1 - d + 1 = w.length ∨ (w.length - 1 - d + 1) % b = 0) := of_decide_eq_false hc
        refine AW.skip ?_
        exact AW.reach () ⟨trivial, Knows.app (.cons (VLe.refl _) (.cons (VLe.refl _) (.cons (VLe.refl _) (.cons (VLe.refl _) (.cons (VLe.refl _) (.cons (VLe.refl _) (.cons (VLe.refl _) (.cons (VLe.refl _) (.cons (VLe.refl _) (.cons (VLe.refl _) (.cons (VLe.refl _) .nil))))))))))) (.nil), Owns.app (.cons rfl (.cons rfl .nil)) (.cons (by rw [keptF_skip hb.1 hdl hc]; rfl) .nil)⟩
    rintro ⟨⟩ hφ
    refine AW.seq ?_
    refine AW.region (by rw [hE]; rfl) ?_
    refine mvD rfl ?_
    refine c_gtr rfl rfl rfl ?_
    refine OL.nil ?_
    refine AW.cond rfl (fun h95 => ?_) (fun h95 => ?_)
    · first | (simp only [decide_eq_true_eq, decide_eq_false_iff_not, Bool.not_eq_true', Bool.not_eq_false', Bool.not_not, Bool.and_eq_true, Bool.and_eq_false_iff, Bool.or_eq_true, Bool.or_eq_false_iff] at h95) | skip
      have hx := k.symX (t := w.length - 1 - d) (by omega)
      have hzr := restF_szB f w (d := d) (by omega)
      refine AW.region_draw 1 [0, 1, 2, 3, 4, 5, 6, 7] order_free (by rw [hE]; rfl) (by kernel_rfl) (OI.of_OL (os := [_, _, _, _, _, _, _, _]) rfl ?_)
      refine ldPA ag.Hidden rfl rfl (vs := [_, _, _, _, _, _, _, _, _, _, _]) rfl (Nat.le_of_ble_eq_true rfl) ?_
      refine mvD rfl ?_
      refine mvD rfl ?_
      refine ixLe (w.length - 1 - d) sl.ints 0 rfl rfl (by omega) (by omega) rfl rfl ?_
      refine ldRC ce.int rfl ?_
      rw [hx.2]
      refine mvD rfl ?_
      refine clv rfl (.cons (VLe.refl _) (.cons (VLe.refl _) (.cons (vle_of_eq (congrArg (fun z => V.d (dQs (restF h w z))) hmin)) .nil))) (checkpoint_before (C := 1048576) f hx.1 (restF_len f w d) hzr ⟨by decide, by decide⟩) ?_
      refine asD rfl ?_
      refine OL.nil ?_
      refine AW.region (by rw [hE]; rfl) ?_
      refine mvD rfl ?_
      refine sub_i64 rfl rfl (by omega) ?_
      refine asD rfl ?_
      refine OL.nil ?_
      exact AW.again (x := d) (d + 1) (by first | omega | (simp only []; omega)) ⟨by omega, Knows.app (.cons (VLe.refl _) (.cons (VLe.refl _) (.cons (VLe.refl _) (.cons (VLe.refl _) (.cons (VLe.refl _) (.cons (VLe.refl _) (.cons (VLe.refl _) (.cons (VLe.refl _) (.cons (VLe.refl _) .nil))))))))) (.cons (vle_of_eq (congrArg (fun z => V.d (dQs (restF h w z))) (show d + 1 = min (d + 1) (w.length - 1) by omega))) (.cons (VLe.int (by omega)) .nil)), Owns.app (.cons rfl (.cons rfl .nil)) (.cons rfl .nil)⟩
    · first | (simp only [decide_eq_true_eq, decide_eq_false_iff_not, Bool.not_eq_true', Bool.not_eq_false', Bool.not_not, Bool.and_eq_true, Bool.and_eq_false_iff, Bool.or_eq_true, Bool.or_eq_false_iff] at h95) | skip
      refine AW.skip ?_
      refine AW.region (by rw [hE]; rfl) ?_
      refine mvD rfl ?_
      refine sub_i64 rfl rfl (by omega) ?_
      refine asD rfl ?_
      refine OL.nil ?_
      exact AW.again (x := d) (d + 1) (by first | omega | (simp only []; omega)) ⟨by omega, Knows.app (.cons (VLe.refl _) (.cons (VLe.refl _) (.cons (VLe.refl _) (.cons (VLe.refl _) (.cons (VLe.refl _) (.cons (VLe.refl _) (.cons (VLe.refl _) (.cons (VLe.refl _) (.cons (VLe.refl _) .nil))))))))) (.cons (vle_of_eq (congrArg (fun z => V.d (dQs (restF h w z))) (show min d (w.length - 1) = min (d + 1) (w.length - 1) by omega))) (.cons (VLe.int (by omega)) .nil)), Owns.app (.cons rfl (.cons rfl .nil)) (.cons rfl .nil)⟩
  · first | (simp only [decide_eq_true_eq, decide_eq_false_iff_not, Bool.not_eq_true', Bool.not_eq_false', Bool.not_not, Bool.and_eq_true, Bool.and_eq_false_iff, Bool.or_eq_true, Bool.or_eq_false_iff] at h73) | skip
    refine AW.exit ?_
    refine AW.seq ?_
    refine AW.region (by rw [hE]; rfl) ?_
    refine asM rfl ?_
    refine OL.nil ?_
    refine AW.seq ?_
    refine AW.region (by rw [hE]; rfl) ?_
    refine al z.Rat rfl fun b17 => ?_
    refine OL.nil ?_
    refine AW.seq ?_
    refine AW.region (by rw [hE]; rfl) ?_
    refine asD rfl ?_
    refine OL.nil ?_
    refine AW.seq ?_
    refine AW.seq ?_
    refine AW.region (by rw [hE]; rfl) ?_
    refine mvO rfl ?_
    refine lnO sl.Ratss rfl rfl ?_
    refine mvD rfl ?_
    refine OL.nil ?_
    refine AW.block ?_
    obtain rfl : d = w.length := by omega
    refine AW.own 16 179 T.int 1 rfl rfl ?_
    refine AW.boxW 17 (cellsQ 0) rfl vles_q ?_
    refine AW.whileK (α := Nat × Nat × Nat × Nat) [(1, _), (2, _), (3, _), (7, _), (11, _), (17, _), (103, _), (104, _)] [(3, _), (66, _)] (fun (q, t, bp, cp) => [(16, .osl 179 bp t cp), (18, .d (dI (toF h w t))), (105, .d (dI q))]) (fun (q, t, bp, cp) => [(179, .row bp cp T.int 1 ((pathF h w t).map dI)), (17, .box b17 T.Rat (cellsQ (if t = 0 then 0 else bestP h w))), (7, .box b7 T.Rat [.d (dB false), .mt, .mt])]) (fun (q, t, bp, cp) => t = tK w.length b q ∧ q ≤ numK w.length b ∧ (0 < t → bestP h w ≠ 0)) (fun (q, t, bp, cp) => numK w.length b - q) (0, 0, 0, 0) (by repeat (first | exact Knows.nil | refine Knows.cons (by first | exact knD rfl | exact knA rfl | exact knP rfl | exact knO rfl | exact knM rfl | exact knE rfl | exact knR rfl | exact knF rfl | exact knT rfl | exact knJ) ?_)) (by repeat (first | exact Owns.nil | refine Owns.cons (by first | exact owB rfl | exact owR rfl | exact owL rfl | exact owT rfl) ?_)) ⟨⟨tK_zero _ _, Nat.zero_le _, fun e => absurd e (by decide)⟩, .cons (by first | exact VLe.refl _ | exact VLe.int (by omega) | exact VLe.mt | exact vle_q0 | exact VLe.osl | exact VLe.ptr) (.cons (by first | exact VLe.refl _ | exact VLe.int (by omega) | exact VLe.mt | exact vle_q0 | exact VLe.osl | exact VLe.ptr) (.cons (by first | exact VLe.refl _ | exact VLe.int (by omega) | exact VLe.mt | exact vle_q0 | exact VLe.osl | exact VLe.ptr) .nil)), .cons rfl (.cons rfl (.cons rfl .nil))⟩ ?_
    rintro ⟨q, t, bp, cp⟩ ⟨ht, h2, hne⟩
    have h2 : q ≤ numK w.length b := h2
    refine AW.seq ?_
    refine AW.region (by rw [hE]; rfl) ?_
    refine c_lss rfl rfl rfl ?_
    refine OL.nil ?_
    refine AW.seq ?_
    refine AW.cond rfl (fun h106 => ?_) (fun h106 => ?_)
    · first | (simp only [decide_eq_true_eq, decide_eq_false_iff_not, Bool.not_eq_true', Bool.not_eq_false', Bool.not_not, Bool.and_eq_true, Bool.and_eq_false_iff, Bool.or_eq_true, Bool.or_eq_false_iff] at h106) | skip
      refine AW.skip ?_
      refine AW.seq ?_
      refine AW.block ?_
      refine AW.seq ?_
      obtain ⟨a, l, ha, e1, e2, hll, hal, hln, hl1, hta, hl9⟩ := block_facts k1 hb (show q < numK w.length b by omega)
      have htq : t = a := by rw [← hta]; exact ht
      subst htq
      refine AW.region (by rw [hE]; rfl) ?_
      refine mvD rfl ?_
      refine ixOn sl.Ratss rfl rfl (by omega) ?_
      refine ldEL ce.Rats [] (by decide) rfl rfl (by omega) rfl ?_
      rw [keptF_get hb.1 (show q < numK w.length b by omega), ← hll]
      refine asD rfl ?_
      refine asD rfl ?_
      refine OL.nil ?_
      refine AW.seq ?_
      refine AW.region (by rw [hE]; rfl) ?_
      refine mvD rfl ?_
      refine mvD rfl ?_
      refine bo rfl rfl (bin_mul (c := (t : Int)) e1 (wrap_i64 (by omega))) ?_
      refine mvD rfl ?_
      refine bo rfl rfl (bin_add (c := ((q + 1 : Nat) : Int)) (by omega) (wrap_i64 (by omega))) ?_
      refine mvD rfl ?_
      refine bo rfl rfl (bin_mul (c := ((t + b : Nat) : Int)) e2 (wrap_i64 (by omega))) ?_
      refine mvD rfl ?_
      refine lnL sl.ints rfl rfl ?_
      refine mn rfl rfl (c := ((l + 1 : Nat) : Int)) (by omega) ?_
      refine bo rfl rfl (bin_sub (c := (l : Int)) (by omega) (wrap_i64 (by omega))) ?_
      refine asD rfl ?_
      refine asD rfl ?_
      refine OL.nil ?_
      refine AW.seq ?_
      refine AW.region (by rw [hE]; rfl) ?_
      refine mvD rfl ?_
      refine mvD rfl ?_
      refine sub_i64 rfl rfl (by omega) ?_
      refine bo rfl rfl (bin_add (c := ((l - t + 1 : Nat) : Int)) (by omega) (wrap_i64 (by omega))) ?_
      refine mkL dQs [] sl.Ratss z.Rats vcs_mt_row rfl rfl (Nat.le_refl _) (by omega) (by omega) rfl fun b125 => ?_
      refine asO rfl ?_
      refine OL.nil ?_
      refine AW.seq ?_
      refine AW.seq ?_
      refine AW.region (by rw [hE]; rfl) ?_
      refine mvD rfl ?_
      refine asD rfl ?_
      refine OL.nil ?_
      refine AW.block ?_
      refine AW.whileK (α := Nat) [(1, _), (2, _), (3, _), (7, _), (11, _), (16, _), (17, _), (18, _), (21, _), (23, _), (103, _), (104, _), (105, _)] [(3, _), (7, _), (17, _), (66, _), (179, _)] (fun e => [(20, .d (dQs (restF h w (w.length - 1 - l + min e (l - t))))), (24, .d (dI ((l : Int) - e)))]) (fun e => [(125, .row b125 (l - t + 1) T.Rats 1 ((colsF h w t (l - t + 1) e).map dQs))]) (fun e => e ≤ l - t + 1) (fun e => l - t + 1 - e) 0 (by repeat (first | exact Knows.nil | refine Knows.cons (by first | exact knD rfl | exact knA rfl | exact knP rfl | exact knO rfl | exact knM rfl | exact knE rfl | exact knR rfl | exact knF rfl | exact knT rfl | exact knJ) ?_)) (by repeat (first | exact Owns.nil | refine Owns.cons (by first | exact owB rfl | exact owR rfl | exact owL rfl | exact owT rfl) ?_)) ⟨Nat.zero_le _, .cons (vle_of_eq (by rw [Nat.zero_min]; rfl)) (.cons (VLe.int (by omega)) .nil), .cons (by rw [colsF_zero]; rfl) .nil⟩ ?_
      intro e h3
      have h3 : e ≤ l - t + 1 := h3
      have hcl := colsF_len h w t (l - t + 1) e
      refine AW.seq ?_
      refine AW.seq ?_
      refine AW.region (by rw [hE]; rfl) ?_
      refine mvD rfl ?_
      refine mvD rfl ?_
      refine c_geq rfl rfl rfl ?_
      refine OL.nil ?_
      refine AW.cond rfl (fun h129 => ?_) (fun h129 => ?_)
      · first | (simp only [decide_eq_true_eq, decide_eq_false_iff_not, Bool.not_eq_true', Bool.not_eq_false', Bool.not_not, Bool.and_eq_true, Bool.and_eq_false_iff, Bool.or_eq_true, Bool.or_eq_false_iff] at h129) | skip
        refine AW.skip ?_
        refine AW.seq ?_
        refine AW.block ?_
        refine AW.seq ?_
        have he : e < l - t + 1 := by omega
        have hmin : min e (l - t) = e := Nat.min_eq_left (by omega)
        refine AW.region (by rw [hE]; rfl) ?_
        refine mvO rfl ?_
        refine mvD rfl ?_
        refine mvD rfl ?_
        refine bo rfl rfl (bin_sub (c := ((l - t + 1 - 1 - e : Nat) : Int)) (by omega) (wrap_i64 (by omega))) ?_
        refine mvD rfl ?_
        refine ixOn sl.Ratss rfl rfl (by omega) ?_
        refine stE sz.Rats rfl (VC.d _).vd rfl rfl (by rw [List.length_map, hcl]; omega) (es2 := (colsF h w t (l - t + 1) (e + 1)).map dQs) (by rw [colsF_set he, List.map_set, hmin, show w.length - 1 - (t + (l - t + 1 - 1 - e)) = w.length - 1 - l + e by omega]) ?_
        refine OL.nil ?_
        refine AW.seq ?_
        refine AW.region (by rw [hE]; rfl) ?_
        refine mvD rfl ?_
        refine mvD rfl ?_
        refine c_gtr rfl rfl rfl ?_
        refine OL.nil ?_
        refine AW.cond rfl (fun h140 => ?_) (fun h140 => ?_)
        · first | (simp only [decide_eq_true_eq, decide_eq_false_iff_not, Bool.not_eq_true', Bool.not_eq_false', Bool.not_not, Bool.and_eq_true, Bool.and_eq_false_iff, Bool.or_eq_true, Bool.or_eq_false_iff] at h140) | skip
          have hx := k.symX (t := l - e) (by omega)
          have hzr := restF_szB f w (d := w.length - 1 - l + e) (by omega)
          refine AW.region_draw 1 [0, 1, 2, 3, 4, 5, 6, 7] order_free (by rw [hE]; rfl) (by kernel_rfl) (OI.of_OL (os := [_, _, _, _, _, _, _, _]) rfl ?_)
          refine ldPA ag.Hidden rfl rfl (vs := [_, _, _, _, _, _, _, _, _, _, _]) rfl (Nat.le_of_ble_eq_true rfl) ?_
          refine mvD rfl ?_
          refine mvD rfl ?_
          refine ixLe (l - e) sl.ints 0 rfl rfl (by omega) (by omega) rfl rfl ?_
          refine ldRC ce.int rfl ?_
          rw [hx.2]
          refine mvD rfl ?_
          refine clv rfl (.cons (VLe.refl _) (.cons (VLe.refl _) (.cons (vle_of_eq (congrArg (fun z => V.d (dQs (restF h w z))) (congrArg (fun z => w.length - 1 - l + z) hmin))) .nil))) (checkpoint_before (C := 1048576) f hx.1 (restF_len f w _) hzr ⟨by decide, by decide⟩) ?_
          refine asD rfl ?_
          refine OL.nil ?_
          refine AW.region (by rw [hE]; rfl) ?_
          refine mvD rfl ?_
          refine sub_i64 rfl rfl (by omega) ?_
          refine asD rfl ?_
          refine OL.nil ?_
          exact AW.again (x := e) (e + 1) (by first | omega | (simp only []; omega)) ⟨by omega, Knows.app (.cons (VLe.refl _) (.cons (VLe.refl _) (.cons (VLe.refl _) (.cons (VLe.refl _) (.cons (VLe.refl _) (.cons (VLe.refl _) (.cons (VLe.refl _) (.cons (VLe.refl _) (.cons (VLe.refl _) (.cons (VLe.refl _) (.cons (VLe.refl _) (.cons (VLe.refl _) (.cons (VLe.refl _) .nil))))))))))))) (.cons (vle_of_eq (by show V.d (dQs (beforeF h (symX w (l - e)) (restF h w (w.length - 1 - l + e)))) = _; rw [show min (e + 1) (l - t) = e + 1 by omega, ← Nat.add_assoc, restF, show w.length - 1 - (w.length - 1 - l + e) = l - e by omega])) (.cons (VLe.int (by omega)) .nil)), Owns.app (.cons rfl (.cons rfl (.cons rfl (.cons rfl (.cons rfl .nil))))) (.cons rfl .nil)⟩
        · first | (simp only [decide_eq_true_eq, decide_eq_false_iff_not, Bool.not_eq_true', Bool.not_eq_false', Bool.not_not, Bool.and_eq_true, Bool.and_eq_false_iff, Bool.or_eq_true, Bool.or_eq_false_iff] at h140) | skip
          refine AW.skip ?_
          refine AW.region (by rw [hE]; rfl) ?_
          refine mvD rfl ?_
          refine sub_i64 rfl rfl (by omega) ?_
          refine asD rfl ?_
          refine OL.nil ?_
          exact AW.again (x := e) (e + 1) (by first | omega | (simp only []; omega)) ⟨by omega, Knows.app (.cons (VLe.refl _) (.cons (VLe.refl _) (.cons (VLe.refl _) (.cons (VLe.refl _) (.cons (VLe.refl _) (.cons (VLe.refl _) (.cons (VLe.refl _) (.cons (VLe.refl _) (.cons (VLe.refl _) (.cons (VLe.refl _) (.cons (VLe.refl _) (.cons (VLe.refl _) (.cons (VLe.refl _) .nil))))))))))))) (.cons (vle_of_eq (congrArg (fun z => V.d (dQs (restF h w (w.length - 1 - l + z)))) (show min e (l - t) = min (e + 1) (l - t) by omega))) (.cons (VLe.int (by omega)) .nil)), Owns.app (.cons rfl (.cons rfl (.cons rfl (.cons rfl (.cons rfl .nil))))) (.cons rfl .nil)⟩
      · first | (simp only [decide_eq_true_eq, decide_eq_false_iff_not, Bool.not_eq_true', Bool.not_eq_false', Bool.not_not, Bool.and_eq_true, Bool.and_eq_false_iff, Bool.or_eq_true, Bool.or_eq_false_iff] at h129) | skip
        refine AW.exit ?_
        refine AW.seq ?_
        refine AW.region (by rw [hE]; rfl) ?_
        refine mvO rfl ?_
        refine lnO sl.Ratss rfl rfl ?_
        refine mvD rfl ?_
        refine OL.nil ?_
        refine AW.block ?_
        obtain rfl : e = l - t + 1 := by omega
        refine AW.whileK (α := Nat × Nat × Nat) [(1, _), (2, _), (3, _), (7, _), (11, _), (17, _), (21, _), (103, _), (104, _), (105, _), (148, _), (149, _)] [(3, _), (66, _), (125, _)] (fun (j, bp, cp) => [(16, .osl 179 bp (t + j) cp), (18, .d (dI (toF h w (t + j)))), (150, .d (dI j))]) (fun (j, bp, cp) => [(179, .row bp cp T.int 1 ((pathF h w (t + j)).map dI)), (17, .box b17 T.Rat (cellsQ (if t + j = 0 then 0 else bestP h w))), (7, .box b7 T.Rat [.d (dB false), .mt, .mt])]) (fun (j, bp, cp) => j ≤ l - t + 1 ∧ (0 < t + j → bestP h w ≠ 0)) (fun (j, bp, cp) => l - t + 1 - j) (0, bp, cp) (by repeat (first | exact Knows.nil | refine Knows.cons (by first | exact knD rfl | exact knA rfl | exact knP rfl | exact knO rfl | exact knM rfl | exact knE rfl | exact knR rfl | exact knF rfl | exact knT rfl | exact knJ) ?_)) (by repeat (first | exact Owns.nil | refine Owns.cons (by first | exact owB rfl | exact owR rfl | exact owL rfl | exact owT rfl) ?_)) ⟨⟨Nat.zero_le _, hne⟩, .cons (by first | exact VLe.refl _ | exact VLe.int (by omega) | exact VLe.mt | exact vle_q0 | exact VLe.osl | exact VLe.ptr) (.cons (by first | exact VLe.refl _ | exact VLe.int (by omega) | exact VLe.mt | exact vle_q0 | exact VLe.osl | exact VLe.ptr) (.cons (by first | exact VLe.refl _ | exact VLe.int (by omega) | exact VLe.mt | exact vle_q0 | exact VLe.osl | exact VLe.ptr) .nil)), .cons rfl (.cons rfl (.cons rfl .nil))⟩ ?_
        rintro ⟨j, p7, c7⟩ ⟨h4, hn7⟩
        have h4 : j ≤ l - t + 1 := h4
        have hpl := pathF_len h w (t + j)
        refine AW.seq ?_
        refine AW.region (by rw [hE]; rfl) ?_
        refine c_lss rfl rfl rfl ?_
        refine OL.nil ?_
        refine AW.seq ?_
        refine AW.cond rfl (fun h151 => ?_) (fun h151 => ?_)
        · first | (simp only [decide_eq_true_eq, decide_eq_false_iff_not, Bool.not_eq_true', Bool.not_eq_false', Bool.not_not, Bool.and_eq_true, Bool.and_eq_false_iff, Bool.or_eq_true, Bool.or_eq_false_iff] at h151) | skip
          refine AW.skip ?_
          refine AW.seq ?_
          refine AW.block ?_
          refine AW.seq ?_
          refine AW.region (by rw [hE]; rfl) ?_
          refine mvD rfl ?_
          refine ixOn sl.Ratss rfl rfl (by omega) ?_
          refine ldEL ce.Rats [] (by decide) rfl rfl (by rw [hcl]; omega) rfl ?_
          rw [colsF_get (show j < l - t + 1 by omega)]
          refine asD rfl ?_
          refine asD rfl ?_
          refine OL.nil ?_
          refine AW.seq ?_
          have hx := k.symX (t := t + j) (by omega)
          have hzr := restF_szB f w (d := w.length - 1 - (t + j)) (by omega)
          have htr := toF_range n0 w (t + j)
          have hps := aheadF_sz f (toF h w (t + j)) (symX w (t + j)) hzr (by decide) h.st
          refine AW.region_draw 1 [0, 1, 2, 3, 4, 5, 6, 7, 8, 9, 10, 11, 12, 13, 14, 15] order_free (by rw [hE]; rfl) (by kernel_rfl) (OI.of_OL (os := [_, _, _, _, _, _, _, _, _, _, _, _, _, _, _, _]) rfl ?_)
          refine ldPA ag.Hidden rfl rfl (vs := [_, _, _, _, _, _, _, _, _, _, _]) rfl (Nat.le_of_ble_eq_true rfl) ?_
          refine mvD rfl ?_
          refine mvD rfl ?_
          refine mvD rfl ?_
          refine mvD rfl ?_
          refine add_i64 rfl rfl (by omega) ?_
          refine ixLe (t + j) sl.ints 0 rfl rfl (by omega) (by omega) rfl rfl ?_
          refine ldRC ce.int rfl ?_
          rw [hx.2]
          refine mvD rfl ?_
          refine clv rfl (.cons (VLe.refl _) (.cons (VLe.refl _) (.cons (VLe.refl _) (.cons (VLe.refl _) .nil)))) (checkpoint_ahead (C := 1048576) f htr hx.1 (restF_len f w _) hzr ⟨by decide, by decide⟩) ?_
          refine mvT rfl ?_
          refine ex rfl rfl ?_
          refine ex rfl rfl ?_
          refine al z.Rat rfl fun b27 => ?_
          refine sto sz.Rat rfl rfl rfl rfl rfl (Nat.le_of_ble_eq_true rfl) (cells2 := [_, _, _]) rfl ?_
          refine asD rfl ?_
          refine OL.nil ?_
          refine AW.midK (α := Unit) [(1, _), (2, _), (3, _), (7, _), (11, _), (16, _), (17, _), (18, _), (21, _), (28, _), (103, _), (104, _), (105, _), (148, _), (149, _), (150, _)] [(3, _), (66, _), (125, _), (179, _)] (fun _u => []) (fun _u => [(17, .box b17 T.Rat (cellsQ (bestP h w))), (7, .box b7 T.Rat [.d (dB false), .mt, .mt])]) (fun _u => bestP h w ≠ 0) (by repeat (first | exact Knows.nil | refine Knows.cons (by first | exact knD rfl | exact knA rfl | exact knP rfl | exact knO rfl | exact knM rfl | exact knE rfl | exact knR rfl | exact knF rfl | exact knT rfl | exact knJ) ?_)) (by repeat (first | exact Owns.nil | refine Owns.cons (by first | exact owB rfl | exact owR rfl | exact owL rfl | exact owT rfl) ?_)) ?_ ?_
          · refine AW.seq ?_
            refine AW.region (by rw [hE]; rfl) ?_
            refine mvD rfl ?_
            refine c_lss rfl rfl rfl ?_
            refine OL.nil ?_
            refine AW.cond rfl (fun hz => ?_) (fun hz => ?_)
            · have hz : t + j = 0 := by
                  rcases Nat.eq_zero_or_pos (t + j) with e | e
                  · exact e
                  · have e2 := toF_succ_nonneg h w (t + j - 1)
                    rw [show t + j - 1 + 1 = t + j by omega] at e2
                    have := of_decide_eq_true hz
                    omega
              have hbp : (aheadF h (toF h w (t + j)) (symX w (t + j)) (restF h w (w.length - 1 - (t + j))) h.st).1 = bestP h w := by rw [hz]; rfl
              refine AW.seq ?_
              refine AW.region (by rw [hE]; rfl) ?_
              refine ldPA ag.Rat rfl rfl (vs := [_, _, _]) rfl (Nat.le_of_ble_eq_true rfl) ?_
              refine sto sz.Rat rfl rfl rfl rfl rfl (Nat.le_of_ble_eq_true rfl) (cells2 := [_, _, _]) rfl ?_
              refine OL.nil ?_
              refine AW.seq ?_
              rw [hbp] at hps
              refine AW.region (by rw [hE]; rfl) ?_
              refine ldPA ag.Rat rfl rfl (vs := [_, _, _]) rfl (Nat.le_of_ble_eq_true rfl) ?_
              refine clv rfl (.cons (vle_of_eq (congrArg (fun z : Rat => vQ z) hbp)) .nil) (rational_SignQ (x := bestP h w) (by omega)) ?_
              refine c_eql rfl rfl rfl ?_
              refine OL.nil ?_
              refine AW.cond rfl (fun hs => ?_) (fun hs => ?_)
              · have hs : bestP h w = 0 := sgnQ_eq.1 (of_decide_eq_true hs)
                refine AW.seq ?_
                refine AW.region (by rw [hE]; rfl) ?_
                refine bd z.Rat pl.Rat (cs := [_, _, _]) rfl ?_
                refine asM rfl ?_
                refine sto sz.Rat rfl rfl rfl rfl rfl (Nat.le_of_ble_eq_true rfl) (cells2 := [_, _, _]) rfl ?_
                refine asD rfl ?_
                refine asD rfl ?_
                refine OL.nil ?_
                exact AW.ret (RetQ.r ⟨_, .tmp rfl (.cellA rfl rfl ag.Rat (Nat.le_of_ble_eq_true rfl) (.tmp rfl (.tmp rfl .nil))), _, .cons (.le (by rw [ckP, if_pos hs]; exact VLe.mt)) (.cons (.ag (.cons (.le (by rw [if_pos hs, ofQ_zero]; exact VLe.refl _)) (.cons (.le (by rw [if_pos hs, ofQ_zero]; exact VLe.mt)) (.cons (.le (by rw [if_pos hs, ofQ_zero]; exact VLe.mt)) .nil)))) (.cons (.le (VLe.int (by rw [ckS, if_pos hs]; rfl))) (.cons (.le (VLe.int (by rw [ckE, if_pos hs]))) .nil))), rfl⟩)
              · have hb0 : bestP h w ≠ 0 := fun e => of_decide_eq_false hs (sgnQ_eq.2 e)
                refine AW.skip ?_
                exact AW.reach () ⟨hb0, Knows.app (.cons (VLe.refl _) (.cons (VLe.refl _) (.cons (VLe.refl _) (.cons (VLe.refl _) (.cons (VLe.refl _) (.cons (VLe.refl _) (.cons (VLe.refl _) (.cons (VLe.refl _) (.cons (VLe.refl _) (.cons (VLe.refl _) (.cons (VLe.refl _) (.cons (VLe.refl _) (.cons (VLe.refl _) (.cons (VLe.refl _) (.cons (VLe.refl _) (.cons (VLe.refl _) .nil)))))))))))))))) (.nil), Owns.app (.cons rfl (.cons rfl (.cons rfl (.cons rfl .nil)))) (.cons (by rw [← hbp]; rfl) (.cons rfl .nil))⟩
            · have hz : t + j ≠ 0 := fun e => by rw [e] at hz; exact absurd hz (by show ¬ decide ((-1 : Int) < 0) = false; decide)
              have hb0 := hn7 (by omega)
              refine AW.skip ?_
              exact AW.reach () ⟨hb0, Knows.app (.cons (VLe.refl _) (.cons (VLe.refl _) (.cons (VLe.refl _) (.cons (VLe.refl _) (.cons (VLe.refl _) (.cons (VLe.refl _) (.cons (VLe.refl _) (.cons (VLe.refl _) (.cons (VLe.refl _) (.cons (VLe.refl _) (.cons (VLe.refl _) (.cons (VLe.refl _) (.cons (VLe.refl _) (.cons (VLe.refl _) (.cons (VLe.refl _) (.cons (VLe.refl _) .nil)))))))))))))))) (.nil), Owns.app (.cons rfl (.cons rfl (.cons rfl (.cons rfl .nil)))) (.cons (congrArg (fun z => some (Blk.box b17 T.Rat (cellsQ z))) (if_neg hz : (if t + j = 0 then (0 : Rat) else bestP h w) = bestP h w)) (.cons rfl .nil))⟩
          rintro ⟨⟩ hb0
          refine AW.seq ?_
          refine AW.region (by rw [hE]; rfl) ?_
          refine mvD rfl ?_
          refine asD rfl ?_
          refine OL.nil ?_
          refine AW.region (by rw [hE]; rfl) ?_
          refine mvO rfl ?_
          refine mvD rfl ?_
          refine lt1 sl.ints (VC.d _).vd rfl (by decide) ?_
          refine apO sl.ints rfl rfl rfl (by rw [List.length_map, hpl]) (VC.d _) (by simp [D.cells]) (by simp; omega) (by simp; omega) (.inr rfl) (ys := (pathF h w (t + j + 1)).map dI) (by rw [pathF_succ, List.map_append]; rfl) (n2 := t + j + 1) (by simp) fun b8 c8 => ?_
          refine asO rfl ?_
          refine OL.nil ?_
          refine AW.region (by rw [hE]; rfl) ?_
          refine add_i64 rfl rfl (by omega) ?_
          refine mvD rfl ?_
          refine OL.nil ?_
          exact AW.again (x := (j, bp, cp)) (j + 1, b8, c8) (by first | omega | (simp only []; omega)) ⟨⟨by omega, fun _ => hb0⟩, Knows.app (.cons (VLe.refl _) (.cons (VLe.refl _) (.cons (VLe.refl _) (.cons (VLe.refl _) (.cons (VLe.refl _) (.cons (VLe.refl _) (.cons (VLe.refl _) (.cons (VLe.refl _) (.cons (VLe.refl _) (.cons (VLe.refl _) (.cons (VLe.refl _) (.cons (VLe.refl _) .nil)))))))))))) (.cons (by first | exact VLe.refl _ | exact VLe.int (by omega) | exact VLe.mt | exact vle_q0 | exact VLe.osl | exact VLe.ptr) (.cons (by first | exact VLe.refl _ | exact VLe.int (by omega) | exact VLe.mt | exact vle_q0 | exact VLe.osl | exact VLe.ptr) (.cons (by first | exact VLe.refl _ | exact VLe.int (by omega) | exact VLe.mt | exact vle_q0 | exact VLe.osl | exact VLe.ptr) .nil))), Owns.app (.cons rfl (.cons rfl (.cons rfl .nil))) (.cons rfl (.cons rfl (.cons rfl .nil)))⟩
        · first | (simp only [decide_eq_true_eq, decide_eq_false_iff_not, Bool.not_eq_true', Bool.not_eq_false', Bool.not_not, Bool.and_eq_true, Bool.and_eq_false_iff, Bool.or_eq_true, Bool.or_eq_false_iff] at h151) | skip
          refine AW.exit ?_
          refine AW.region (by rw [hE]; rfl) ?_
          refine add_i64 rfl rfl (by omega) ?_
          refine mvD rfl ?_
          refine OL.nil ?_
          exact AW.again (x := (q, t, bp, cp)) (q + 1, t + j, p7, c7) (by simp only []; omega) ⟨⟨show t + j = _ by rw [hl9]; omega, by omega, fun _ => hn7 (by omega)⟩, Knows.app (.cons (VLe.refl _) (.cons (VLe.refl _) (.cons (VLe.refl _) (.cons (VLe.refl _) (.cons (VLe.refl _) (.cons (VLe.refl _) (.cons (VLe.refl _) (.cons (VLe.refl _) .nil)))))))) (.cons (by first | exact VLe.refl _ | exact VLe.int (by omega) | exact VLe.mt | exact vle_q0 | exact VLe.osl | exact VLe.ptr) (.cons (by first | exact VLe.refl _ | exact VLe.int (by omega) | exact VLe.mt | exact vle_q0 | exact VLe.osl | exact VLe.ptr) (.cons (by first | exact VLe.refl _ | exact VLe.int (by omega) | exact VLe.mt | exact vle_q0 | exact VLe.osl | exact VLe.ptr) .nil))), Owns.app (.cons rfl (.cons rfl .nil)) (.cons rfl (.cons rfl (.cons rfl .nil)))⟩
    · first | (simp only [decide_eq_true_eq, decide_eq_false_iff_not, Bool.not_eq_true', Bool.not_eq_false', Bool.not_not, Bool.and_eq_true, Bool.and_eq_false_iff, Bool.or_eq_true, Bool.or_eq_false_iff] at h106) | skip
      refine AW.exit ?_
      refine AW.seq ?_
      obtain rfl : q = numK w.length b := by omega
      have htn : t = w.length := by rw [ht]; exact tK_end hb.1
      have hb0 := hne (by omega)
      have hq : (if t = 0 then (0 : Rat) else bestP h w) = (if bestP h w = 0 then 0 else bestP h w) := (if_neg (by omega)).trans (if_neg hb0).symm
      refine AW.region_draw 1 [0, 1, 2, 3, 4, 5, 6] order_free (by rw [hE]; rfl) (by kernel_rfl) (OI.of_OL (os := [_, _, _, _, _, _, _]) rfl ?_)
      refine mvO rfl ?_
      refine ldPA ag.Rat rfl rfl (vs := [_, _, _]) rfl (Nat.le_of_ble_eq_true rfl) ?_
      refine mvD rfl ?_
      refine asO rfl ?_
      refine sto sz.Rat rfl rfl rfl rfl rfl (Nat.le_of_ble_eq_true rfl) (cells2 := [_, _, _]) rfl ?_
      refine asD rfl ?_
      refine asD rfl ?_
      refine OL.nil ?_
      exact AW.ret (RetQ.r ⟨_, .tmp rfl (.cellA rfl rfl ag.Rat (Nat.le_of_ble_eq_true rfl) (.tmp rfl (.tmp rfl .nil))), _, .cons (RO.row rfl (by rw [List.length_map, pathF_len]) (by rw [ckP, if_neg hb0, htn])) (.cons (.ag (.cons (.le (vle_of_eq (congrArg (fun z : Rat => V.d (dB (ofQ z).neg)) hq))) (.cons (.le (vle_of_eq (congrArg (fun z : Rat => V.d (u32s (ofQ z).num)) hq))) (.cons (.le (vle_of_eq (congrArg (fun z : Rat => V.d (u32s (ofQ z).den)) hq))) .nil)))) (.cons (.le (VLe.int (by rw [ckS, if_neg hb0]))) (.cons (.le (VLe.int (by rw [ckE, if_neg hb0]))) .nil))), rfl⟩)
end Go.Proofs.YtcebciggodhmcaaGreat

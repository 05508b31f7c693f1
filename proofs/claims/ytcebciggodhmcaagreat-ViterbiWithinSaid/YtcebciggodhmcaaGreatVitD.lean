/-
  Walks of package viterbi, part 4: the law ViterbiWithin (printed by mk2.py).
-/
import Derived.Test.YtcebciggodhmcaaGreatVitC
set_option linter.unusedVariables false
set_option linter.unusedSimpArgs false
namespace Go.Proofs.YtcebciggodhmcaaGreat
open Go Go.AL
theorem fitsA_succ {h : HM} {w sets : List Int} {n : Nat} (e : FitsA h w sets n) : FitsA h w sets (n + 1) ↔ bitS (setF sets n) ((vitP h w every).getD n 0).toNat = true := by
  constructor
  · intro k; exact k.2 n (Nat.lt_succ_self n)
  · intro k
    refine ⟨e.1, fun t ht => ?_⟩
    rcases Nat.lt_or_ge t n with h1 | h1
    · exact e.2 t h1
    · obtain rfl : t = n := by omega
      exact k
theorem fits_dec {h : HM} {w sets : List Int} {n : Nat} (hf : FitsA h w sets n) : bitS (setF sets n) ((vitP h w every).getD n 0).toNat = decide (FitsA h w sets (n + 1)) := by
  cases hb : bitS (setF sets n) ((vitP h w every).getD n 0).toNat with
  | false => exact (decide_eq_false fun e => by have := (fitsA_succ hf).1 e; rw [hb] at this; cases this).symm
  | true => exact (decide_eq_true ((fitsA_succ hf).2 hb)).symm
theorem fitsA_pred {h : HM} {w sets : List Int} {n : Nat} (e : FitsA h w sets (n + 1)) : FitsA h w sets n := ⟨e.1, fun t ht => e.2 t (by omega)⟩
theorem bit_dec {x s : Nat} : decide (((x / 2 ^ s % 2 : Nat) : Int) = 1) = bitS x s := by
  unfold bitS
  exact decide_eq_decide.2 (by omega)

set_option maxRecDepth 6000 in
set_option maxHeartbeats 3200000 in
theorem law_ViterbiWithin {L l sets : List Int} {cs cy : Int} (nL : L.length ≤ 9223372036854775807) (nS : sets.length ≤ 9223372036854775807) : FSpec P F.law35_ViterbiWithin [.ag [.d (dI cs), .d (dI cy), .d (ints L)], .d (ints l), .d (ints sets)] (.d (dB true)) := by
  have hg : (chainHM L cs cy 3).Good 1 := chainHM_good L cs cy (by decide)
  have f := hg.form
  have s0 := f.sym0
  have s1 := f.sym1
  have n0 := f.st0
  have n1 := f.st1
  obtain ⟨w, hw⟩ : ∃ w, w = wordF l (chainHM L cs cy 3).sym 5 := ⟨_, rfl⟩
  have kw : WordOK (chainHM L cs cy 3) w := by rw [hw]; exact wordF_ok s0 (by decide)
  have wl : w.length ≤ 5 := by rw [hw]; exact wordF_len ..
  have zb := bestR_sz f (by omega) (w := w) every
  refine FSpec.intro fn.law35_ViterbiWithin (by rfl) (by rfl) (Nat.le_of_ble_eq_true (by rfl)) fun E hE => ?_
  refine AW.seq ?_
  refine AW.region (by rw [hE]; rfl) ?_
  first | refine bxA rfl rfl fun b3 => ?_ | refine bxD rfl rfl fun b3 => ?_
  refine asD rfl ?_
  refine OL.nil ?_
  refine AW.seq ?_
  refine AW.region (by rw [hE]; rfl) ?_
  first | refine ldPA ag.Chain rfl rfl (vs := [_, _, _]) rfl (Nat.le_of_ble_eq_true rfl) ?_ | refine ldRA ag.Chain rfl (vs := [_, _, _]) rfl (Nat.le_of_ble_eq_true rfl) ?_
  refine clv rfl (.cons (VLe.refl _) (.cons (VLe.refl _) (.nil))) (chain_Hidden (by decide) nL) ?_
  refine al z.Hidden rfl fun b7 => ?_
  first | refine sto sz.Hidden rfl rfl rfl rfl rfl (Nat.le_of_ble_eq_true rfl) (cells2 := [_, _, _, _, _, _, _, _, _, _, _]) rfl ?_ | refine stE sz.Hidden rfl (VC.d _).vd rfl rfl (by omega) rfl ?_
  refine OL.nil ?_
  refine AW.seq ?_
  refine AW.region (by rw [hE]; rfl) ?_
  first | refine mvD rfl ?_ | refine mvO rfl ?_ | refine mvM rfl ?_
  first | refine faP fd.Hidden_0 rfl rfl ?_ | refine faR fd.Hidden_0 rfl rfl ?_ | refine faE fd.Hidden_0 rfl rfl ?_
  first | refine ldRC ce.int rfl ?_ | refine ldPC ce.int rfl rfl rfl ?_
  refine clv rfl (.cons (VLe.refl _) (.cons (VLe.refl _) (.cons (VLe.refl _) (.nil)))) (world_Word (sym := (chainHM L cs cy 3).sym) (most := 5) ⟨s0, by omega⟩ (by decide)) ?_
  rw [← hw]
  first | refine asD rfl ?_ | refine asO rfl ?_ | refine asM rfl ?_
  refine OL.nil ?_
  refine AW.seq ?_
  refine AW.region (by rw [hE]; rfl) ?_
  first | refine ldPA ag.Hidden rfl rfl (vs := [_, _, _, _, _, _, _, _, _, _, _]) rfl (Nat.le_of_ble_eq_true rfl) ?_ | refine ldRA ag.Hidden rfl (vs := [_, _, _, _, _, _, _, _, _, _, _]) rfl (Nat.le_of_ble_eq_true rfl) ?_
  first | refine mvD rfl ?_ | refine mvO rfl ?_ | refine mvM rfl ?_
  refine clv rfl (.cons (VLe.refl _) (.cons (VLe.refl _) (.nil))) (vit_Best hg kw) ?_
  first | refine mvD rfl ?_ | refine mvT rfl ?_ | refine mvP rfl ?_ | refine mvR rfl ?_ | refine mvE rfl ?_ | refine mvF rfl ?_ | refine mvA rfl ?_ | refine mvO rfl ?_ | refine mvM rfl ?_ | refine mvJ rfl ?_
  refine ex rfl rfl ?_
  refine ex rfl rfl ?_
  refine ex rfl rfl ?_
  refine al z.Rat rfl fun b10 => ?_
  first | refine asD rfl ?_ | refine asO rfl ?_ | refine asM rfl ?_
  first | refine sto sz.Rat rfl rfl rfl rfl rfl (Nat.le_of_ble_eq_true rfl) (cells2 := [_, _, _]) rfl ?_ | refine stE sz.Rat rfl (VC.d _).vd rfl rfl (by omega) rfl ?_
  refine asD rfl ?_
  refine OL.nil ?_
  refine AW.seq ?_
  refine AW.region (by rw [hE]; rfl) ?_
  refine asM rfl ?_
  refine OL.nil ?_
  refine AW.midK (α := Unit) [(2, _), (6, _), (7, _), (8, _), (9, _), (10, _), (11, _), (12, _)] [(7, _), (10, _)] (fun _u => [(13, .d (dB (decide (FitsA (chainHM L cs cy 3) w sets 0))))]) (fun _u => []) (fun _u => True) (.cons (by first | exact knD rfl | exact knA rfl | exact knP rfl | exact knO rfl | exact knM rfl | exact knE rfl | exact knR rfl | exact knF rfl | exact knT rfl | exact knJ) (.cons (by first | exact knD rfl | exact knA rfl | exact knP rfl | exact knO rfl | exact knM rfl | exact knE rfl | exact knR rfl | exact knF rfl | exact knT rfl | exact knJ) (.cons (by first | exact knD rfl | exact knA rfl | exact knP rfl | exact knO rfl | exact knM rfl | exact knE rfl | exact knR rfl | exact knF rfl | exact knT rfl | exact knJ) (.cons (by first | exact knD rfl | exact knA rfl | exact knP rfl | exact knO rfl | exact knM rfl | exact knE rfl | exact knR rfl | exact knF rfl | exact knT rfl | exact knJ) (.cons (by first | exact knD rfl | exact knA rfl | exact knP rfl | exact knO rfl | exact knM rfl | exact knE rfl | exact knR rfl | exact knF rfl | exact knT rfl | exact knJ) (.cons (by first | exact knD rfl | exact knA rfl | exact knP rfl | exact knO rfl | exact knM rfl | exact knE rfl | exact knR rfl | exact knF rfl | exact knT rfl | exact knJ) (.cons (by first | exact knD rfl | exact knA rfl | exact knP rfl | exact knO rfl | exact knM rfl | exact knE rfl | exact knR rfl | exact knF rfl | exact knT rfl | exact knJ) (.cons (by first | exact knD rfl | exact knA rfl | exact knP rfl | exact knO rfl | exact knM rfl | exact knE rfl | exact knR rfl | exact knF rfl | exact knT rfl | exact knJ) .nil)))))))) (.cons (by first | exact owB rfl | exact owR rfl) (.cons (by first | exact owB rfl | exact owR rfl) .nil)) ?_ ?_
  · refine AW.region (by rw [hE]; rfl) ?_
    refine mvD rfl ?_
    refine c_eql rfl rfl rfl ?_
    refine OL.split 38 rfl (fun he0 => ?_) (fun he0 => ?_)
    · have he0 := of_decide_eq_true he0
      refine mvD rfl ?_
      refine OL.yes rfl ?_
      first | refine mvD rfl ?_ | refine mvO rfl ?_ | refine mvM rfl ?_
      refine OL.yes rfl ?_
      first | refine lnL sl.ints rfl rfl ?_ | refine lnO sl.ints rfl rfl ?_ | refine lnM sl.ints rfl rfl ?_ | refine lnD sl.ints rfl rfl rfl ?_
      refine OL.yes rfl ?_
      first | refine mvD rfl ?_ | refine mvO rfl ?_ | refine mvM rfl ?_
      refine OL.yes rfl ?_
      first | refine lnL sl.ints rfl rfl ?_ | refine lnO sl.ints rfl rfl ?_ | refine lnM sl.ints rfl rfl ?_ | refine lnD sl.ints rfl rfl rfl ?_
      refine OL.yes rfl ?_
      refine c_eql rfl rfl (c := true) (decide_eq_true (by rw [vitP_len he0])) ?_
      refine pkT rfl rfl ?_
      refine asD rfl ?_
      refine OL.nil ?_
      exact AW.reach () ⟨trivial, Knows.app (.cons (VLe.refl _) (.cons (VLe.refl _) (.cons (VLe.refl _) (.cons (VLe.refl _) (.cons (VLe.refl _) (.cons (VLe.refl _) (.cons (VLe.refl _) (.cons (VLe.refl _) .nil)))))))) (.cons (VLe.bool ((decide_eq_true ⟨he0, fun t ht => absurd ht (Nat.not_lt_zero t)⟩).symm)) .nil), Owns.app (.cons rfl (.cons rfl .nil)) (.nil)⟩
    · have he0 := of_decide_eq_false he0
      refine mvD rfl ?_
      refine OL.no rfl (by decide) ?_
      refine OL.no rfl (by decide) ?_
      refine OL.no rfl (by decide) ?_
      refine OL.no rfl (by decide) ?_
      refine OL.no rfl (by decide) ?_
      refine pkF rfl rfl ?_
      refine asD rfl ?_
      refine OL.nil ?_
      exact AW.reach () ⟨trivial, Knows.app (.cons (VLe.refl _) (.cons (VLe.refl _) (.cons (VLe.refl _) (.cons (VLe.refl _) (.cons (VLe.refl _) (.cons (VLe.refl _) (.cons (VLe.refl _) (.cons (VLe.refl _) .nil)))))))) (.cons (VLe.bool ((decide_eq_false fun e => he0 e.1).symm)) .nil), Owns.app (.cons rfl (.cons rfl .nil)) (.nil)⟩
  rintro ⟨⟩ hφ
  refine AW.seq ?_
  refine AW.seq ?_
  refine AW.region (by rw [hE]; rfl) ?_
  refine asD rfl ?_
  refine OL.nil ?_
  refine AW.block ?_
  refine AW.own 12 80 T.ints 1 rfl rfl ?_
  refine AW.whileK (α := Nat × Nat × Nat) [(2, _), (6, _), (7, _), (8, _), (9, _), (10, _), (11, _)] [(7, _), (10, _)] (fun (t, q, c) => [(12, .osl 80 q t c), (13, .d (dB (decide (FitsA (chainHM L cs cy 3) w sets t)))), (14, .d (dI t))]) (fun (t, q, c) => [(80, .row q c T.ints 1 ((allowA sets (chainHM L cs cy 3).st t).map ints))]) (fun (t, q, c) => t ≤ w.length) (fun (t, q, c) => w.length - t) (0, 0, 0) (.cons (by first | exact knD rfl | exact knA rfl | exact knP rfl | exact knO rfl | exact knM rfl | exact knE rfl | exact knR rfl | exact knF rfl | exact knT rfl | exact knJ) (.cons (by first | exact knD rfl | exact knA rfl | exact knP rfl | exact knO rfl | exact knM rfl | exact knE rfl | exact knR rfl | exact knF rfl | exact knT rfl | exact knJ) (.cons (by first | exact knD rfl | exact knA rfl | exact knP rfl | exact knO rfl | exact knM rfl | exact knE rfl | exact knR rfl | exact knF rfl | exact knT rfl | exact knJ) (.cons (by first | exact knD rfl | exact knA rfl | exact knP rfl | exact knO rfl | exact knM rfl | exact knE rfl | exact knR rfl | exact knF rfl | exact knT rfl | exact knJ) (.cons (by first | exact knD rfl | exact knA rfl | exact knP rfl | exact knO rfl | exact knM rfl | exact knE rfl | exact knR rfl | exact knF rfl | exact knT rfl | exact knJ) (.cons (by first | exact knD rfl | exact knA rfl | exact knP rfl | exact knO rfl | exact knM rfl | exact knE rfl | exact knR rfl | exact knF rfl | exact knT rfl | exact knJ) (.cons (by first | exact knD rfl | exact knA rfl | exact knP rfl | exact knO rfl | exact knM rfl | exact knE rfl | exact knR rfl | exact knF rfl | exact knT rfl | exact knJ) .nil))))))) (.cons (by first | exact owB rfl | exact owR rfl) (.cons (by first | exact owB rfl | exact owR rfl) .nil)) ⟨Nat.zero_le _, .cons (by first | exact VLe.refl _ | exact VLe.int (by omega) | exact VLe.mt | exact vle_q0 | exact VLe.osl | exact VLe.ptr) (.cons (by first | exact VLe.refl _ | exact VLe.int (by omega) | exact VLe.mt | exact vle_q0 | exact VLe.osl | exact VLe.ptr) (.cons (by first | exact VLe.refl _ | exact VLe.int (by omega) | exact VLe.mt | exact vle_q0 | exact VLe.osl | exact VLe.ptr) .nil)), .cons rfl .nil⟩ ?_
  rintro ⟨t, q, c⟩ h1
  have h1 : t ≤ w.length := h1
  have hal := allowA_len sets (chainHM L cs cy 3).st t
  have hs7 := setF_le sets t
  refine AW.seq ?_
  refine AW.seq ?_
  refine AW.region (by rw [hE]; rfl) ?_
  refine mvD rfl ?_
  first | refine mvD rfl ?_ | refine mvO rfl ?_ | refine mvM rfl ?_
  first | refine lnL sl.ints rfl rfl ?_ | refine lnO sl.ints rfl rfl ?_ | refine lnM sl.ints rfl rfl ?_ | refine lnD sl.ints rfl rfl rfl ?_
  refine c_lss rfl rfl rfl ?_
  refine OL.nil ?_
  refine AW.cond rfl (fun h49 => ?_) (fun h49 => ?_)
  · first | (simp only [decide_eq_true_eq, decide_eq_false_iff_not, Bool.not_eq_true', Bool.not_eq_false', Bool.not_not, Bool.and_eq_true, Bool.and_eq_false_iff, Bool.or_eq_true, Bool.or_eq_false_iff] at h49) | skip
    refine AW.skip ?_
    refine AW.midK (α := Nat × Nat) [(2, _), (6, _), (7, _), (8, _), (9, _), (10, _), (11, _), (14, _)] [(7, _), (10, _)] (fun (q4, c4) => [(12, .osl 80 q4 (t + 1) c4), (13, .d (dB (decide (FitsA (chainHM L cs cy 3) w sets (t + 1)))))]) (fun (q4, c4) => [(80, .row q4 c4 T.ints 1 ((allowA sets (chainHM L cs cy 3).st (t + 1)).map ints))]) (fun (q4, c4) => True) (.cons (by first | exact knD rfl | exact knA rfl | exact knP rfl | exact knO rfl | exact knM rfl | exact knE rfl | exact knR rfl | exact knF rfl | exact knT rfl | exact knJ) (.cons (by first | exact knD rfl | exact knA rfl | exact knP rfl | exact knO rfl | exact knM rfl | exact knE rfl | exact knR rfl | exact knF rfl | exact knT rfl | exact knJ) (.cons (by first | exact knD rfl | exact knA rfl | exact knP rfl | exact knO rfl | exact knM rfl | exact knE rfl | exact knR rfl | exact knF rfl | exact knT rfl | exact knJ) (.cons (by first | exact knD rfl | exact knA rfl | exact knP rfl | exact knO rfl | exact knM rfl | exact knE rfl | exact knR rfl | exact knF rfl | exact knT rfl | exact knJ) (.cons (by first | exact knD rfl | exact knA rfl | exact knP rfl | exact knO rfl | exact knM rfl | exact knE rfl | exact knR rfl | exact knF rfl | exact knT rfl | exact knJ) (.cons (by first | exact knD rfl | exact knA rfl | exact knP rfl | exact knO rfl | exact knM rfl | exact knE rfl | exact knR rfl | exact knF rfl | exact knT rfl | exact knJ) (.cons (by first | exact knD rfl | exact knA rfl | exact knP rfl | exact knO rfl | exact knM rfl | exact knE rfl | exact knR rfl | exact knF rfl | exact knT rfl | exact knJ) (.cons (by first | exact knD rfl | exact knA rfl | exact knP rfl | exact knO rfl | exact knM rfl | exact knE rfl | exact knR rfl | exact knF rfl | exact knT rfl | exact knJ) .nil)))))))) (.cons (by first | exact owB rfl | exact owR rfl) (.cons (by first | exact owB rfl | exact owR rfl) .nil)) ?_ ?_
    · refine AW.block ?_
      refine AW.seq ?_
      refine AW.region (by rw [hE]; rfl) ?_
      refine asD rfl ?_
      refine OL.nil ?_
      refine AW.midK (α := Unit) [(2, _), (6, _), (7, _), (8, _), (9, _), (10, _), (11, _), (12, _), (13, _), (14, _)] [(7, _), (10, _), (80, _)] (fun _u => [(15, .d (dI (setF sets t : Nat)))]) (fun _u => []) (fun _u => True) (.cons (by first | exact knD rfl | exact knA rfl | exact knP rfl | exact knO rfl | exact knM rfl | exact knE rfl | exact knR rfl | exact knF rfl | exact knT rfl | exact knJ) (.cons (by first | exact knD rfl | exact knA rfl | exact knP rfl | exact knO rfl | exact knM rfl | exact knE rfl | exact knR rfl | exact knF rfl | exact knT rfl | exact knJ) (.cons (by first | exact knD rfl | exact knA rfl | exact knP rfl | exact knO rfl | exact knM rfl | exact knE rfl | exact knR rfl | exact knF rfl | exact knT rfl | exact knJ) (.cons (by first | exact knD rfl | exact knA rfl | exact knP rfl | exact knO rfl | exact knM rfl | exact knE rfl | exact knR rfl | exact knF rfl | exact knT rfl | exact knJ) (.cons (by first | exact knD rfl | exact knA rfl | exact knP rfl | exact knO rfl | exact knM rfl | exact knE rfl | exact knR rfl | exact knF rfl | exact knT rfl | exact knJ) (.cons (by first | exact knD rfl | exact knA rfl | exact knP rfl | exact knO rfl | exact knM rfl | exact knE rfl | exact knR rfl | exact knF rfl | exact knT rfl | exact knJ) (.cons (by first | exact knD rfl | exact knA rfl | exact knP rfl | exact knO rfl | exact knM rfl | exact knE rfl | exact knR rfl | exact knF rfl | exact knT rfl | exact knJ) (.cons (by first | exact knD rfl | exact knA rfl | exact knP rfl | exact knO rfl | exact knM rfl | exact knE rfl | exact knR rfl | exact knF rfl | exact knT rfl | exact knJ) (.cons (by first | exact knD rfl | exact knA rfl | exact knP rfl | exact knO rfl | exact knM rfl | exact knE rfl | exact knR rfl | exact knF rfl | exact knT rfl | exact knJ) (.cons (by first | exact knD rfl | exact knA rfl | exact knP rfl | exact knO rfl | exact knM rfl | exact knE rfl | exact knR rfl | exact knF rfl | exact knT rfl | exact knJ) .nil)))))))))) (.cons (by first | exact owB rfl | exact owR rfl) (.cons (by first | exact owB rfl | exact owR rfl) (.cons (by first | exact owB rfl | exact owR rfl) .nil))) ?_ ?_
      · refine AW.seq ?_
        have wr8 := within_range (v := sets.getD t 0) (m := 8) (by decide)
        refine AW.region (by rw [hE]; rfl) ?_
        refine mvD rfl ?_
        first | refine mvD rfl ?_ | refine mvO rfl ?_ | refine mvM rfl ?_
        first | refine lnL sl.ints rfl rfl ?_ | refine lnO sl.ints rfl rfl ?_ | refine lnM sl.ints rfl rfl ?_ | refine lnD sl.ints rfl rfl rfl ?_
        refine c_lss rfl rfl rfl ?_
        refine OL.nil ?_
        refine AW.cond rfl (fun ht => ?_) (fun ht => ?_)
        · have ht : t < sets.length := by have := of_decide_eq_true ht; omega
          refine AW.region (by rw [hE]; rfl) ?_
          first | refine mvD rfl ?_ | refine mvO rfl ?_ | refine mvM rfl ?_
          refine mvD rfl ?_
          first | refine ixO sl.ints rfl rfl (by omega) (by omega) rfl ?_ | refine ixLn sl.ints 0 rfl rfl (by omega) rfl rfl ?_ | refine ixL sl.ints 0 rfl rfl (by omega) (by omega) rfl rfl ?_
          first | refine ldRC ce.int rfl ?_ | refine ldPC ce.int rfl rfl rfl ?_
          refine clv rfl (.cons (VLe.refl _) (.cons (VLe.refl _) (.nil))) (world_Within (by decide)) ?_
          refine asD rfl ?_
          refine OL.nil ?_
          exact AW.reach () ⟨trivial, Knows.app (.cons (VLe.refl _) (.cons (VLe.refl _) (.cons (VLe.refl _) (.cons (VLe.refl _) (.cons (VLe.refl _) (.cons (VLe.refl _) (.cons (VLe.refl _) (.cons (VLe.refl _) (.cons (VLe.refl _) (.cons (VLe.refl _) .nil)))))))))) (.cons (VLe.int (by rw [setF, if_pos ht]; omega)) .nil), Owns.app (.cons rfl (.cons rfl (.cons rfl .nil))) (.nil)⟩
        · have ht : ¬ t < sets.length := fun e => of_decide_eq_false ht (by omega)
          refine AW.skip ?_
          exact AW.reach () ⟨trivial, Knows.app (.cons (VLe.refl _) (.cons (VLe.refl _) (.cons (VLe.refl _) (.cons (VLe.refl _) (.cons (VLe.refl _) (.cons (VLe.refl _) (.cons (VLe.refl _) (.cons (VLe.refl _) (.cons (VLe.refl _) (.cons (VLe.refl _) .nil)))))))))) (.cons (VLe.int (by rw [setF, if_neg ht]; rfl)) .nil), Owns.app (.cons rfl (.cons rfl (.cons rfl .nil))) (.nil)⟩
      rintro ⟨⟩ hφ
      refine AW.seq ?_
      refine AW.region (by rw [hE]; rfl) ?_
      refine asM rfl ?_
      refine OL.nil ?_
      refine AW.seq ?_
      refine AW.seq ?_
      refine AW.region (by rw [hE]; rfl) ?_
      refine asD rfl ?_
      refine OL.nil ?_
      refine AW.block ?_
      refine AW.own 16 76 T.int 1 rfl rfl ?_
      refine AW.whileK (α := Nat × Nat × Nat) [(2, _), (6, _), (7, _), (8, _), (9, _), (10, _), (11, _), (12, _), (13, _), (14, _), (15, _)] [(7, _), (10, _), (80, _)] (fun (s, q2, c2) => [(16, .osl 76 q2 (rowA (setF sets t) s).length c2), (17, .d (dI s))]) (fun (s, q2, c2) => [(76, .row q2 c2 T.int 1 ((rowA (setF sets t) s).map dI))]) (fun (s, q2, c2) => s ≤ (chainHM L cs cy 3).st) (fun (s, q2, c2) => (chainHM L cs cy 3).st - s) (0, 0, 0) (.cons (by first | exact knD rfl | exact knA rfl | exact knP rfl | exact knO rfl | exact knM rfl | exact knE rfl | exact knR rfl | exact knF rfl | exact knT rfl | exact knJ) (.cons (by first | exact knD rfl | exact knA rfl | exact knP rfl | exact knO rfl | exact knM rfl | exact knE rfl | exact knR rfl | exact knF rfl | exact knT rfl | exact knJ) (.cons (by first | exact knD rfl | exact knA rfl | exact knP rfl | exact knO rfl | exact knM rfl | exact knE rfl | exact knR rfl | exact knF rfl | exact knT rfl | exact knJ) (.cons (by first | exact knD rfl | exact knA rfl | exact knP rfl | exact knO rfl | exact knM rfl | exact knE rfl | exact knR rfl | exact knF rfl | exact knT rfl | exact knJ) (.cons (by first | exact knD rfl | exact knA rfl | exact knP rfl | exact knO rfl | exact knM rfl | exact knE rfl | exact knR rfl | exact knF rfl | exact knT rfl | exact knJ) (.cons (by first | exact knD rfl | exact knA rfl | exact knP rfl | exact knO rfl | exact knM rfl | exact knE rfl | exact knR rfl | exact knF rfl | exact knT rfl | exact knJ) (.cons (by first | exact knD rfl | exact knA rfl | exact knP rfl | exact knO rfl | exact knM rfl | exact knE rfl | exact knR rfl | exact knF rfl | exact knT rfl | exact knJ) (.cons (by first | exact knD rfl | exact knA rfl | exact knP rfl | exact knO rfl | exact knM rfl | exact knE rfl | exact knR rfl | exact knF rfl | exact knT rfl | exact knJ) (.cons (by first | exact knD rfl | exact knA rfl | exact knP rfl | exact knO rfl | exact knM rfl | exact knE rfl | exact knR rfl | exact knF rfl | exact knT rfl | exact knJ) (.cons (by first | exact knD rfl | exact knA rfl | exact knP rfl | exact knO rfl | exact knM rfl | exact knE rfl | exact knR rfl | exact knF rfl | exact knT rfl | exact knJ) (.cons (by first | exact knD rfl | exact knA rfl | exact knP rfl | exact knO rfl | exact knM rfl | exact knE rfl | exact knR rfl | exact knF rfl | exact knT rfl | exact knJ) .nil))))))))))) (.cons (by first | exact owB rfl | exact owR rfl) (.cons (by first | exact owB rfl | exact owR rfl) (.cons (by first | exact owB rfl | exact owR rfl) .nil))) ⟨Nat.zero_le _, .cons (by first | exact VLe.refl _ | exact VLe.int (by omega) | exact VLe.mt | exact vle_q0 | exact VLe.osl | exact VLe.ptr) (.cons (by first | exact VLe.refl _ | exact VLe.int (by omega) | exact VLe.mt | exact vle_q0 | exact VLe.osl | exact VLe.ptr) .nil), .cons rfl .nil⟩ ?_
      rintro ⟨s, q2, c2⟩ h2
      have h2 : s ≤ (chainHM L cs cy 3).st := h2
      have hrl := rowA_len (setF sets t) s
      refine AW.seq ?_
      refine AW.seq ?_
      refine AW.region (by rw [hE]; rfl) ?_
      refine mvD rfl ?_
      first | refine faP fd.Hidden_1 rfl rfl ?_ | refine faR fd.Hidden_1 rfl rfl ?_ | refine faE fd.Hidden_1 rfl rfl ?_
      first | refine ldRC ce.int rfl ?_ | refine ldPC ce.int rfl rfl rfl ?_
      refine c_lss rfl rfl rfl ?_
      refine OL.nil ?_
      refine AW.cond rfl (fun h64 => ?_) (fun h64 => ?_)
      · first | (simp only [decide_eq_true_eq, decide_eq_false_iff_not, Bool.not_eq_true', Bool.not_eq_false', Bool.not_not, Bool.and_eq_true, Bool.and_eq_false_iff, Bool.or_eq_true, Bool.or_eq_false_iff] at h64) | skip
        refine AW.skip ?_
        refine AW.midK (α := Nat × Nat) [(2, _), (6, _), (7, _), (8, _), (9, _), (10, _), (11, _), (12, _), (13, _), (14, _), (15, _), (17, _)] [(7, _), (10, _), (80, _)] (fun (q3, c3) => [(16, .osl 76 q3 (rowA (setF sets t) (s + 1)).length c3)]) (fun (q3, c3) => [(76, .row q3 c3 T.int 1 ((rowA (setF sets t) (s + 1)).map dI))]) (fun (q3, c3) => True) (.cons (by first | exact knD rfl | exact knA rfl | exact knP rfl | exact knO rfl | exact knM rfl | exact knE rfl | exact knR rfl | exact knF rfl | exact knT rfl | exact knJ) (.cons (by first | exact knD rfl | exact knA rfl | exact knP rfl | exact knO rfl | exact knM rfl | exact knE rfl | exact knR rfl | exact knF rfl | exact knT rfl | exact knJ) (.cons (by first | exact knD rfl | exact knA rfl | exact knP rfl | exact knO rfl | exact knM rfl | exact knE rfl | exact knR rfl | exact knF rfl | exact knT rfl | exact knJ) (.cons (by first | exact knD rfl | exact knA rfl | exact knP rfl | exact knO rfl | exact knM rfl | exact knE rfl | exact knR rfl | exact knF rfl | exact knT rfl | exact knJ) (.cons (by first | exact knD rfl | exact knA rfl | exact knP rfl | exact knO rfl | exact knM rfl | exact knE rfl | exact knR rfl | exact knF rfl | exact knT rfl | exact knJ) (.cons (by first | exact knD rfl | exact knA rfl | exact knP rfl | exact knO rfl | exact knM rfl | exact knE rfl | exact knR rfl | exact knF rfl | exact knT rfl | exact knJ) (.cons (by first | exact knD rfl | exact knA rfl | exact knP rfl | exact knO rfl | exact knM rfl | exact knE rfl | exact knR rfl | exact knF rfl | exact knT rfl | exact knJ) (.cons (by first | exact knD rfl | exact knA rfl | exact knP rfl | exact knO rfl | exact knM rfl | exact knE rfl | exact knR rfl | exact knF rfl | exact knT rfl | exact knJ) (.cons (by first | exact knD rfl | exact knA rfl | exact knP rfl | exact knO rfl | exact knM rfl | exact knE rfl | exact knR rfl | exact knF rfl | exact knT rfl | exact knJ) (.cons (by first | exact knD rfl | exact knA rfl | exact knP rfl | exact knO rfl | exact knM rfl | exact knE rfl | exact knR rfl | exact knF rfl | exact knT rfl | exact knJ) (.cons (by first | exact knD rfl | exact knA rfl | exact knP rfl | exact knO rfl | exact knM rfl | exact knE rfl | exact knR rfl | exact knF rfl | exact knT rfl | exact knJ) (.cons (by first | exact knD rfl | exact knA rfl | exact knP rfl | exact knO rfl | exact knM rfl | exact knE rfl | exact knR rfl | exact knF rfl | exact knT rfl | exact knJ) .nil)))))))))))) (.cons (by first | exact owB rfl | exact owR rfl) (.cons (by first | exact owB rfl | exact owR rfl) (.cons (by first | exact owB rfl | exact owR rfl) .nil))) ?_ ?_
        · refine AW.block ?_
          refine AW.seq ?_
          have hdv : setF sets t / 2 ^ s ≤ setF sets t := Nat.div_le_self ..
          refine AW.region (by rw [hE]; rfl) ?_
          refine mvD rfl ?_
          refine mvD rfl ?_
          refine cv it.int it.uint rfl (wrap_u64 (by omega)) ?_
          refine shrV rfl rfl (by show (0:Int) ≤ (s : Int) ∧ (s : Int).toNat ≤ 64; omega) (c := ((setF sets t / 2 ^ s : Nat) : Int)) (by rw [Int.toNat_natCast]; push_cast; rfl) ?_
          refine bo rfl rfl (and1_i64 (a := setF sets t / 2 ^ s) (by omega)) ?_
          refine c_eql rfl rfl rfl ?_
          rw [bit_dec]
          refine OL.nil ?_
          refine AW.cond rfl (fun hb => ?_) (fun hb => ?_)
          · have hb := hb
            refine AW.region (by rw [hE]; rfl) ?_
            first | refine mvD rfl ?_ | refine mvO rfl ?_ | refine mvM rfl ?_
            refine mvD rfl ?_
            refine lt1 sl.ints (VC.d _).vd rfl (by decide) ?_
            refine apO sl.ints rfl rfl rfl (by rw [List.length_map]) (VC.d _) (by simp [D.cells]) (by simp; omega) (by simp; omega) (.inr rfl) (ys := (rowA (setF sets t) (s + 1)).map dI) (by rw [rowA_succ, if_pos hb, List.map_append]; rfl) (n2 := (rowA (setF sets t) (s + 1)).length) (by rw [rowA_succ, if_pos hb, List.length_append]; rfl) fun q3 c3 => ?_
            first | refine asD rfl ?_ | refine asO rfl ?_ | refine asM rfl ?_
            refine OL.nil ?_
            exact AW.reach (q3, c3) ⟨trivial, Knows.app (.cons (VLe.refl _) (.cons (VLe.refl _) (.cons (VLe.refl _) (.cons (VLe.refl _) (.cons (VLe.refl _) (.cons (VLe.refl _) (.cons (VLe.refl _) (.cons (VLe.refl _) (.cons (VLe.refl _) (.cons (VLe.refl _) (.cons (VLe.refl _) (.cons (VLe.refl _) .nil)))))))))))) (.cons (by first | exact VLe.refl _ | exact VLe.int (by omega) | exact VLe.mt | exact vle_q0 | exact VLe.osl | exact VLe.ptr) .nil), Owns.app (.cons rfl (.cons rfl (.cons rfl .nil))) (.cons rfl .nil)⟩
          · have hb : ¬ bitS (setF sets t) s = true := fun e => by rw [e] at hb; cases hb
            refine AW.skip ?_
            exact AW.reach (q2, c2) ⟨trivial, Knows.app (.cons (VLe.refl _) (.cons (VLe.refl _) (.cons (VLe.refl _) (.cons (VLe.refl _) (.cons (VLe.refl _) (.cons (VLe.refl _) (.cons (VLe.refl _) (.cons (VLe.refl _) (.cons (VLe.refl _) (.cons (VLe.refl _) (.cons (VLe.refl _) (.cons (VLe.refl _) .nil)))))))))))) (.cons (vle_of_eq (by rw [rowA_succ, if_neg hb]; rfl)) .nil), Owns.app (.cons rfl (.cons rfl (.cons rfl .nil))) (.cons (by rw [rowA_succ, if_neg hb]; rfl) .nil)⟩
        rintro ⟨q3, c3⟩ hφ
        refine AW.region (by rw [hE]; rfl) ?_
        refine mvD rfl ?_
        refine add_i64 rfl rfl (by omega) ?_
        refine asD rfl ?_
        refine OL.nil ?_
        exact AW.again (x := (s, q2, c2)) (s + 1, q3, c3) (by first | omega | (simp only []; omega)) ⟨by omega, Knows.app (.cons (VLe.refl _) (.cons (VLe.refl _) (.cons (VLe.refl _) (.cons (VLe.refl _) (.cons (VLe.refl _) (.cons (VLe.refl _) (.cons (VLe.refl _) (.cons (VLe.refl _) (.cons (VLe.refl _) (.cons (VLe.refl _) (.cons (VLe.refl _) .nil))))))))))) (.cons (by first | exact VLe.refl _ | exact VLe.int (by omega) | exact VLe.mt | exact vle_q0 | exact VLe.osl | exact VLe.ptr) (.cons (by first | exact VLe.refl _ | exact VLe.int (by omega) | exact VLe.mt | exact vle_q0 | exact VLe.osl | exact VLe.ptr) .nil)), Owns.app (.cons rfl (.cons rfl (.cons rfl .nil))) (.cons rfl .nil)⟩
      · first | (simp only [decide_eq_true_eq, decide_eq_false_iff_not, Bool.not_eq_true', Bool.not_eq_false', Bool.not_not, Bool.and_eq_true, Bool.and_eq_false_iff, Bool.or_eq_true, Bool.or_eq_false_iff] at h64) | skip
        refine AW.exit ?_
        refine AW.seq ?_
        have hse : s = (chainHM L cs cy 3).st := by omega
        refine AW.freeze 76 rfl (AW.to [(2, .d (ints sets)), (6, .d (dB false)), (7, .ptr 7 b7 0), (8, .d (ints w)), (9, .d (ints (vitP (chainHM L cs cy 3) w every))), (10, .ptr 10 b10 0), (11, .d (dI (vitE (chainHM L cs cy 3) w every))), (12, .osl 80 q t c), (13, .d (dB (decide (FitsA (chainHM L cs cy 3) w sets t)))), (14, .d (dI t)), (15, .d (dI (setF sets t : Nat))), (16, .d (ints (rowA (setF sets t) (chainHM L cs cy 3).st)))] [(7, .box b7 T.Hidden (cellsHM (chainHM L cs cy 3))), (10, .box b10 T.Rat (cellsQ (bestR (chainHM L cs cy 3) w every))), (80, .row q c T.ints 1 ((allowA sets (chainHM L cs cy 3).st t).map ints))] (.cons (VLe.refl _) (.cons (VLe.refl _) (.cons (VLe.refl _) (.cons (VLe.refl _) (.cons (VLe.refl _) (.cons (VLe.refl _) (.cons (VLe.refl _) (.cons (VLe.refl _) (.cons (VLe.refl _) (.cons (VLe.refl _) (.cons (VLe.refl _) (.cons (frz_osl (by rw [List.length_map]) (by rw [hse])) .nil)))))))))))) (.cons rfl (.cons rfl (.cons rfl .nil))) ?_)
        refine AW.region (by rw [hE]; rfl) ?_
        first | refine mvD rfl ?_ | refine mvO rfl ?_ | refine mvM rfl ?_
        first | refine mvD rfl ?_ | refine mvO rfl ?_ | refine mvM rfl ?_
        refine lt1 (y := ints (rowA (setF sets t) (chainHM L cs cy 3).st)) sl.intss (VC.d _).vd rfl (by decide) ?_
        refine apO sl.intss rfl rfl rfl (by rw [List.length_map, hal]) (VC.d _) (by simp [D.cells]) (by simp; omega) (by simp; omega) (.inr rfl) (ys := (allowA sets (chainHM L cs cy 3).st (t + 1)).map ints) (by rw [allowA_succ, List.map_append]; rfl) (n2 := t + 1) (by simp) fun q4 c4 => ?_
        first | refine asD rfl ?_ | refine asO rfl ?_ | refine asM rfl ?_
        refine OL.nil ?_
        refine AW.region (by rw [hE]; rfl) ?_
        refine mvD rfl ?_
        refine mvD rfl ?_
        refine OL.split 82 rfl (fun hf => ?_) (fun hf => ?_)
        · have hf := of_decide_eq_true hf
          have hpl := vitP_len hf.1
          obtain ⟨i, hi⟩ : ∃ i : Nat, (vitP (chainHM L cs cy 3) w every).getD t 0 = (i : Int) := ⟨((vitP (chainHM L cs cy 3) w every).getD t 0).toNat, by rw [vitP_get hf.1 (by omega)]; have := toG_nonneg (chainHM L cs cy 3) w every t; omega⟩
          have hi2 : ((vitP (chainHM L cs cy 3) w every).getD t 0).toNat = i := by omega
          have hi3 : i < 64 := by rw [vitP_get hf.1 (by omega)] at hi; have := toG_range n0 w every (t + 1); omega
          have hdv : setF sets t / 2 ^ i ≤ setF sets t := Nat.div_le_self ..
          refine OL.yes rfl ?_
          refine mvD rfl ?_
          refine OL.yes rfl ?_
          first | refine mvD rfl ?_ | refine mvO rfl ?_ | refine mvM rfl ?_
          refine OL.yes rfl ?_
          refine mvD rfl ?_
          refine OL.yes rfl ?_
          refine ixLn sl.ints 0 rfl rfl (by rw [hpl]; omega) rfl rfl ?_
          refine OL.yes rfl ?_
          first | refine ldRC ce.int rfl ?_ | refine ldPC ce.int rfl rfl rfl ?_
          rw [hi]
          refine OL.yes rfl ?_
          refine cv it.int it.uint rfl (wrap_u64 (by omega)) ?_
          refine OL.yes rfl ?_
          refine shrV rfl rfl (by show (0:Int) ≤ (i : Int) ∧ (i : Int).toNat ≤ 64; omega) (c := ((setF sets t / 2 ^ i : Nat) : Int)) (by rw [Int.toNat_natCast]; push_cast; rfl) ?_
          refine OL.yes rfl ?_
          refine bo rfl rfl (and1_i64 (a := setF sets t / 2 ^ i) (by omega)) ?_
          refine OL.yes rfl ?_
          refine c_eql rfl rfl rfl ?_
          rw [bit_dec]
          refine pkT rfl rfl ?_
          refine asD rfl ?_
          refine OL.nil ?_
          exact AW.reach (q4, c4) ⟨trivial, Knows.app (.cons (VLe.refl _) (.cons (VLe.refl _) (.cons (VLe.refl _) (.cons (VLe.refl _) (.cons (VLe.refl _) (.cons (VLe.refl _) (.cons (VLe.refl _) (.cons (VLe.refl _) .nil)))))))) (.cons (by first | exact VLe.refl _ | exact VLe.int (by omega) | exact VLe.mt | exact vle_q0 | exact VLe.osl | exact VLe.ptr) (.cons (VLe.bool (by subst hi2; exact fits_dec hf)) .nil)), Owns.app (.cons rfl (.cons rfl .nil)) (.cons rfl .nil)⟩
        · have hf := of_decide_eq_false hf
          refine OL.no rfl (by decide) ?_
          refine OL.no rfl (by decide) ?_
          refine OL.no rfl (by decide) ?_
          refine OL.no rfl (by decide) ?_
          refine OL.no rfl (by decide) ?_
          refine OL.no rfl (by decide) ?_
          refine OL.no rfl (by decide) ?_
          refine OL.no rfl (by decide) ?_
          refine OL.no rfl (by decide) ?_
          refine pkF rfl rfl ?_
          refine asD rfl ?_
          refine OL.nil ?_
          exact AW.reach (q4, c4) ⟨trivial, Knows.app (.cons (VLe.refl _) (.cons (VLe.refl _) (.cons (VLe.refl _) (.cons (VLe.refl _) (.cons (VLe.refl _) (.cons (VLe.refl _) (.cons (VLe.refl _) (.cons (VLe.refl _) .nil)))))))) (.cons (by first | exact VLe.refl _ | exact VLe.int (by omega) | exact VLe.mt | exact vle_q0 | exact VLe.osl | exact VLe.ptr) (.cons (VLe.bool ((decide_eq_false fun e => hf (fitsA_pred e)).symm)) .nil)), Owns.app (.cons rfl (.cons rfl .nil)) (.cons rfl .nil)⟩
    rintro ⟨q4, c4⟩ hφ
    refine AW.region (by rw [hE]; rfl) ?_
    refine mvD rfl ?_
    refine add_i64 rfl rfl (by omega) ?_
    refine asD rfl ?_
    refine OL.nil ?_
    exact AW.again (x := (t, q, c)) (t + 1, q4, c4) (by first | omega | (simp only []; omega)) ⟨by omega, Knows.app (.cons (VLe.refl _) (.cons (VLe.refl _) (.cons (VLe.refl _) (.cons (VLe.refl _) (.cons (VLe.refl _) (.cons (VLe.refl _) (.cons (VLe.refl _) .nil))))))) (.cons (by first | exact VLe.refl _ | exact VLe.int (by omega) | exact VLe.mt | exact vle_q0 | exact VLe.osl | exact VLe.ptr) (.cons (by first | exact VLe.refl _ | exact VLe.int (by omega) | exact VLe.mt | exact vle_q0 | exact VLe.osl | exact VLe.ptr) (.cons (by first | exact VLe.refl _ | exact VLe.int (by omega) | exact VLe.mt | exact vle_q0 | exact VLe.osl | exact VLe.ptr) .nil))), Owns.app (.cons rfl (.cons rfl .nil)) (.cons rfl .nil)⟩
  · first | (simp only [decide_eq_true_eq, decide_eq_false_iff_not, Bool.not_eq_true', Bool.not_eq_false', Bool.not_not, Bool.and_eq_true, Bool.and_eq_false_iff, Bool.or_eq_true, Bool.or_eq_false_iff] at h49) | skip
    refine AW.exit ?_
    refine AW.seq ?_
    have hte : t = w.length := by omega
    subst hte
    refine AW.freeze 80 rfl (AW.to [(6, .d (dB false)), (7, .ptr 7 b7 0), (8, .d (ints w)), (9, .d (ints (vitP (chainHM L cs cy 3) w every))), (10, .ptr 10 b10 0), (11, .d (dI (vitE (chainHM L cs cy 3) w every))), (12, .d (dIss (allowA sets (chainHM L cs cy 3).st w.length))), (13, .d (dB (decide (FitsA (chainHM L cs cy 3) w sets w.length))))] [(7, .box b7 T.Hidden (cellsHM (chainHM L cs cy 3))), (10, .box b10 T.Rat (cellsQ (bestR (chainHM L cs cy 3) w every)))] (.cons (VLe.refl _) (.cons (VLe.refl _) (.cons (VLe.refl _) (.cons (VLe.refl _) (.cons (VLe.refl _) (.cons (VLe.refl _) (.cons (frz_osl (by rw [List.length_map, hal]) rfl) (.cons (VLe.refl _) .nil)))))))) (.cons rfl (.cons rfl .nil)) ?_)
    have zx := bestR_sz f (by omega) (w := w) (permA (allowA sets (chainHM L cs cy 3).st w.length))
    refine AW.region (by rw [hE]; rfl) ?_
    first | refine ldPA ag.Hidden rfl rfl (vs := [_, _, _, _, _, _, _, _, _, _, _]) rfl (Nat.le_of_ble_eq_true rfl) ?_ | refine ldRA ag.Hidden rfl (vs := [_, _, _, _, _, _, _, _, _, _, _]) rfl (Nat.le_of_ble_eq_true rfl) ?_
    first | refine mvD rfl ?_ | refine mvO rfl ?_ | refine mvM rfl ?_
    first | refine mvD rfl ?_ | refine mvO rfl ?_ | refine mvM rfl ?_
    refine clv rfl (.cons (VLe.refl _) (.cons (VLe.refl _) (.cons (VLe.refl _) (.nil)))) (vit_Within hg kw hal fun l hl => ⟨(allowA_ok l hl).1, by have := (allowA_ok l hl).2; omega⟩) ?_
    first | refine mvD rfl ?_ | refine mvT rfl ?_ | refine mvP rfl ?_ | refine mvR rfl ?_ | refine mvE rfl ?_ | refine mvF rfl ?_ | refine mvA rfl ?_ | refine mvO rfl ?_ | refine mvM rfl ?_ | refine mvJ rfl ?_
    refine ex rfl rfl ?_
    refine ex rfl rfl ?_
    refine ex rfl rfl ?_
    refine al z.Rat rfl fun b19 => ?_
    first | refine asD rfl ?_ | refine asO rfl ?_ | refine asM rfl ?_
    first | refine sto sz.Rat rfl rfl rfl rfl rfl (Nat.le_of_ble_eq_true rfl) (cells2 := [_, _, _]) rfl ?_ | refine stE sz.Rat rfl (VC.d _).vd rfl rfl (by omega) rfl ?_
    refine asD rfl ?_
    refine OL.nil ?_
    refine AW.seq ?_
    refine AW.seq ?_
    refine AW.region (by rw [hE]; rfl) ?_
    refine mvD rfl ?_
    refine c_neq rfl rfl rfl ?_
    refine OL.nil ?_
    refine AW.cond rfl (fun hv => ?_) (fun hv => ?_)
    · have hv : vitE (chainHM L cs cy 3) w (permA (allowA sets (chainHM L cs cy 3).st w.length)) ≠ 0 := nd_t hv
      have e11 := (vitE_cases (chainHM L cs cy 3) w (permA (allowA sets (chainHM L cs cy 3).st w.length))).resolve_left hv
      have hnil := vitP_nil hv
      have hnf : ¬ (FitsA (chainHM L cs cy 3) w sets w.length) := fun e => hv (fitsA_perm hg e).1
      refine AW.seq ?_
      refine AW.region (by rw [hE]; rfl) ?_
      refine clv rfl .nil law35_known ?_
      refine mvD rfl ?_
      refine OL.yes rfl ?_
      refine mvD rfl ?_
      refine OL.yes rfl ?_
      refine c_eql rfl rfl (c := true) (decide_eq_true e11) ?_
      refine pkT rfl rfl ?_
      refine mvD rfl ?_
      refine OL.yes rfl ?_
      first | refine mvD rfl ?_ | refine mvO rfl ?_ | refine mvM rfl ?_
      refine OL.yes rfl ?_
      first | refine lnL sl.ints rfl rfl ?_ | refine lnO sl.ints rfl rfl ?_ | refine lnM sl.ints rfl rfl ?_ | refine lnD sl.ints rfl rfl rfl ?_
      refine OL.yes rfl ?_
      refine c_eql rfl rfl (c := true) (decide_eq_true (by rw [hnil]; rfl)) ?_
      refine pkT rfl rfl ?_
      refine mvD rfl ?_
      refine OL.yes rfl ?_
      refine mvD rfl ?_
      refine OL.yes rfl ?_
      refine nt rfl ?_
      refine pkT rfl rfl ?_
      refine asD rfl ?_
      refine OL.nil ?_
      exact AW.ret (RetQ.r ⟨_, .tmp rfl .nil, .le (VLe.bool (by rw [decide_eq_false hnf]; rfl))⟩)
    · have hv : vitE (chainHM L cs cy 3) w (permA (allowA sets (chainHM L cs cy 3).st w.length)) = 0 := nd_f hv
      have he0 := within_ok hg hv
      have hlen := vitP_len hv
      have hlen0 := vitP_len he0
      refine AW.skip ?_
      refine AW.seq ?_
      refine AW.seq ?_
      refine AW.region (by rw [hE]; rfl) ?_
      refine mvD rfl ?_
      refine c_neq rfl rfl (c := false) (cne_f he0) ?_
      refine mvD rfl ?_
      refine OL.yes rfl ?_
      first | refine mvD rfl ?_ | refine mvO rfl ?_ | refine mvM rfl ?_
      refine OL.yes rfl ?_
      first | refine lnL sl.ints rfl rfl ?_ | refine lnO sl.ints rfl rfl ?_ | refine lnM sl.ints rfl rfl ?_ | refine lnD sl.ints rfl rfl rfl ?_
      refine OL.yes rfl ?_
      first | refine mvD rfl ?_ | refine mvO rfl ?_ | refine mvM rfl ?_
      refine OL.yes rfl ?_
      first | refine lnL sl.ints rfl rfl ?_ | refine lnO sl.ints rfl rfl ?_ | refine lnM sl.ints rfl rfl ?_ | refine lnD sl.ints rfl rfl rfl ?_
      refine OL.yes rfl ?_
      refine c_neq rfl rfl (c := false) (cne_f (by rw [hlen])) ?_
      refine pkF rfl rfl ?_
      refine OL.nil ?_
      refine AW.cond rfl (fun hno => absurd hno (by decide)) (fun _ => ?_)
      refine AW.skip ?_
      refine AW.seq ?_
      refine AW.seq ?_
      refine AW.region (by rw [hE]; rfl) ?_
      refine asD rfl ?_
      refine OL.nil ?_
      refine AW.block ?_
      refine AW.whileK (α := Nat) [(8, _), (9, _), (10, _), (12, _), (13, _), (18, _), (19, _)] [(10, _), (19, _)] (fun t => [(21, .d (dI t))]) (fun t => []) (fun t => t ≤ w.length) (fun t => w.length - t) 0 (.cons (by first | exact knD rfl | exact knA rfl | exact knP rfl | exact knO rfl | exact knM rfl | exact knE rfl | exact knR rfl | exact knF rfl | exact knT rfl | exact knJ) (.cons (by first | exact knD rfl | exact knA rfl | exact knP rfl | exact knO rfl | exact knM rfl | exact knE rfl | exact knR rfl | exact knF rfl | exact knT rfl | exact knJ) (.cons (by first | exact knD rfl | exact knA rfl | exact knP rfl | exact knO rfl | exact knM rfl | exact knE rfl | exact knR rfl | exact knF rfl | exact knT rfl | exact knJ) (.cons (by first | exact knD rfl | exact knA rfl | exact knP rfl | exact knO rfl | exact knM rfl | exact knE rfl | exact knR rfl | exact knF rfl | exact knT rfl | exact knJ) (.cons (by first | exact knD rfl | exact knA rfl | exact knP rfl | exact knO rfl | exact knM rfl | exact knE rfl | exact knR rfl | exact knF rfl | exact knT rfl | exact knJ) (.cons (by first | exact knD rfl | exact knA rfl | exact knP rfl | exact knO rfl | exact knM rfl | exact knE rfl | exact knR rfl | exact knF rfl | exact knT rfl | exact knJ) (.cons (by first | exact knD rfl | exact knA rfl | exact knP rfl | exact knO rfl | exact knM rfl | exact knE rfl | exact knR rfl | exact knF rfl | exact knT rfl | exact knJ) .nil))))))) (.cons (by first | exact owB rfl | exact owR rfl) (.cons (by first | exact owB rfl | exact owR rfl) .nil)) ⟨Nat.zero_le _, .cons (by first | exact VLe.refl _ | exact VLe.int (by omega) | exact VLe.mt | exact vle_q0 | exact VLe.osl | exact VLe.ptr) .nil, .nil⟩ ?_
      intro t h4
      have h4 : t ≤ w.length := h4
      refine AW.seq ?_
      refine AW.seq ?_
      refine AW.region (by rw [hE]; rfl) ?_
      refine mvD rfl ?_
      first | refine mvD rfl ?_ | refine mvO rfl ?_ | refine mvM rfl ?_
      first | refine lnL sl.ints rfl rfl ?_ | refine lnO sl.ints rfl rfl ?_ | refine lnM sl.ints rfl rfl ?_ | refine lnD sl.ints rfl rfl rfl ?_
      refine c_lss rfl rfl rfl ?_
      refine OL.nil ?_
      refine AW.cond rfl (fun h129 => ?_) (fun h129 => ?_)
      · first | (simp only [decide_eq_true_eq, decide_eq_false_iff_not, Bool.not_eq_true', Bool.not_eq_false', Bool.not_not, Bool.and_eq_true, Bool.and_eq_false_iff, Bool.or_eq_true, Bool.or_eq_false_iff] at h129) | skip
        refine AW.skip ?_
        refine AW.seq ?_
        refine AW.block ?_
        refine AW.seq ?_
        have ht : t < w.length := by omega
        have hrl := rowA_len (setF sets t) (chainHM L cs cy 3).st
        have hin := within_in hg hv ht
        refine AW.region (by rw [hE]; rfl) ?_
        refine asD rfl ?_
        refine OL.nil ?_
        refine AW.seq ?_
        refine AW.seq ?_
        refine AW.region (by rw [hE]; rfl) ?_
        refine asD rfl ?_
        refine OL.nil ?_
        refine AW.block ?_
        refine AW.whileK (α := Nat) [(8, _), (9, _), (10, _), (12, _), (13, _), (18, _), (19, _), (21, _)] [(10, _), (19, _)] (fun i => [(22, .d (dB (decide ((vitP (chainHM L cs cy 3) w (permA (allowA sets (chainHM L cs cy 3).st w.length))).getD t 0 ∈ (rowA (setF sets t) (chainHM L cs cy 3).st).take i)))), (23, .d (dI i))]) (fun i => []) (fun i => i ≤ (rowA (setF sets t) (chainHM L cs cy 3).st).length) (fun i => (rowA (setF sets t) (chainHM L cs cy 3).st).length - i) 0 (.cons (by first | exact knD rfl | exact knA rfl | exact knP rfl | exact knO rfl | exact knM rfl | exact knE rfl | exact knR rfl | exact knF rfl | exact knT rfl | exact knJ) (.cons (by first | exact knD rfl | exact knA rfl | exact knP rfl | exact knO rfl | exact knM rfl | exact knE rfl | exact knR rfl | exact knF rfl | exact knT rfl | exact knJ) (.cons (by first | exact knD rfl | exact knA rfl | exact knP rfl | exact knO rfl | exact knM rfl | exact knE rfl | exact knR rfl | exact knF rfl | exact knT rfl | exact knJ) (.cons (by first | exact knD rfl | exact knA rfl | exact knP rfl | exact knO rfl | exact knM rfl | exact knE rfl | exact knR rfl | exact knF rfl | exact knT rfl | exact knJ) (.cons (by first | exact knD rfl | exact knA rfl | exact knP rfl | exact knO rfl | exact knM rfl | exact knE rfl | exact knR rfl | exact knF rfl | exact knT rfl | exact knJ) (.cons (by first | exact knD rfl | exact knA rfl | exact knP rfl | exact knO rfl | exact knM rfl | exact knE rfl | exact knR rfl | exact knF rfl | exact knT rfl | exact knJ) (.cons (by first | exact knD rfl | exact knA rfl | exact knP rfl | exact knO rfl | exact knM rfl | exact knE rfl | exact knR rfl | exact knF rfl | exact knT rfl | exact knJ) (.cons (by first | exact knD rfl | exact knA rfl | exact knP rfl | exact knO rfl | exact knM rfl | exact knE rfl | exact knR rfl | exact knF rfl | exact knT rfl | exact knJ) .nil)))))))) (.cons (by first | exact owB rfl | exact owR rfl) (.cons (by first | exact owB rfl | exact owR rfl) .nil)) ⟨Nat.zero_le _, .cons (VLe.bool (by rw [List.take_zero]; rfl)) (.cons (by first | exact VLe.refl _ | exact VLe.int (by omega) | exact VLe.mt | exact vle_q0 | exact VLe.osl | exact VLe.ptr) .nil), .nil⟩ ?_
        intro i h5
        have h5 : i ≤ (rowA (setF sets t) (chainHM L cs cy 3).st).length := h5
        refine AW.seq ?_
        refine AW.seq ?_
        refine AW.region (by rw [hE]; rfl) ?_
        refine mvD rfl ?_
        first | refine mvD rfl ?_ | refine mvO rfl ?_ | refine mvM rfl ?_
        refine mvD rfl ?_
        refine ixLn sl.intss [] rfl rfl (by rw [hal]; exact ht) rfl rfl ?_
        first | refine ldRC ce.ints rfl ?_ | refine ldPC ce.ints rfl rfl rfl ?_
        rw [allowA_get ht]
        first | refine lnL sl.ints rfl rfl ?_ | refine lnO sl.ints rfl rfl ?_ | refine lnM sl.ints rfl rfl ?_ | refine lnD sl.ints rfl rfl rfl ?_
        refine c_lss rfl rfl rfl ?_
        refine OL.nil ?_
        refine AW.cond rfl (fun h138 => ?_) (fun h138 => ?_)
        · first | (simp only [decide_eq_true_eq, decide_eq_false_iff_not, Bool.not_eq_true', Bool.not_eq_false', Bool.not_not, Bool.and_eq_true, Bool.and_eq_false_iff, Bool.or_eq_true, Bool.or_eq_false_iff] at h138) | skip
          refine AW.skip ?_
          refine AW.midK (α := Unit) [(8, _), (9, _), (10, _), (12, _), (13, _), (18, _), (19, _), (21, _), (23, _)] [(10, _), (19, _)] (fun _u => [(22, .d (dB (decide ((vitP (chainHM L cs cy 3) w (permA (allowA sets (chainHM L cs cy 3).st w.length))).getD t 0 ∈ (rowA (setF sets t) (chainHM L cs cy 3).st).take (i + 1)))))]) (fun _u => []) (fun _u => True) (.cons (by first | exact knD rfl | exact knA rfl | exact knP rfl | exact knO rfl | exact knM rfl | exact knE rfl | exact knR rfl | exact knF rfl | exact knT rfl | exact knJ) (.cons (by first | exact knD rfl | exact knA rfl | exact knP rfl | exact knO rfl | exact knM rfl | exact knE rfl | exact knR rfl | exact knF rfl | exact knT rfl | exact knJ) (.cons (by first | exact knD rfl | exact knA rfl | exact knP rfl | exact knO rfl | exact knM rfl | exact knE rfl | exact knR rfl | exact knF rfl | exact knT rfl | exact knJ) (.cons (by first | exact knD rfl | exact knA rfl | exact knP rfl | exact knO rfl | exact knM rfl | exact knE rfl | exact knR rfl | exact knF rfl | exact knT rfl | exact knJ) (.cons (by first | exact knD rfl | exact knA rfl | exact knP rfl | exact knO rfl | exact knM rfl | exact knE rfl | exact knR rfl | exact knF rfl | exact knT rfl | exact knJ) (.cons (by first | exact knD rfl | exact knA rfl | exact knP rfl | exact knO rfl | exact knM rfl | exact knE rfl | exact knR rfl | exact knF rfl | exact knT rfl | exact knJ) (.cons (by first | exact knD rfl | exact knA rfl | exact knP rfl | exact knO rfl | exact knM rfl | exact knE rfl | exact knR rfl | exact knF rfl | exact knT rfl | exact knJ) (.cons (by first | exact knD rfl | exact knA rfl | exact knP rfl | exact knO rfl | exact knM rfl | exact knE rfl | exact knR rfl | exact knF rfl | exact knT rfl | exact knJ) (.cons (by first | exact knD rfl | exact knA rfl | exact knP rfl | exact knO rfl | exact knM rfl | exact knE rfl | exact knR rfl | exact knF rfl | exact knT rfl | exact knJ) .nil))))))))) (.cons (by first | exact owB rfl | exact owR rfl) (.cons (by first | exact owB rfl | exact owR rfl) .nil)) ?_ ?_
          · refine AW.block ?_
            have hts := take_succ_getD (show i < (rowA (setF sets t) (chainHM L cs cy 3).st).length by omega) 0
            refine AW.region_draw 1 [0, 1, 2, 3, 4, 5, 6, 7, 8, 9, 10, 11, 12, 13, 14, 15] order_free (by rw [hE]; rfl) (by kernel_rfl) (OI.of_OL (os := [_, _, _, _, _, _, _, _, _, _, _, _, _, _, _, _]) rfl ?_)
            refine mvD rfl ?_
            refine mvD rfl ?_
            refine OL.split 142 rfl (fun hm => ?_) (fun hm => ?_)
            · have hm := of_decide_eq_true hm
              refine OL.no rfl (by decide) ?_
              refine OL.no rfl (by decide) ?_
              refine OL.no rfl (by decide) ?_
              refine OL.no rfl (by decide) ?_
              refine OL.no rfl (by decide) ?_
              refine OL.no rfl (by decide) ?_
              refine OL.no rfl (by decide) ?_
              refine OL.no rfl (by decide) ?_
              refine OL.no rfl (by decide) ?_
              refine OL.no rfl (by decide) ?_
              refine OL.no rfl (by decide) ?_
              refine OL.no rfl (by decide) ?_
              refine pkT rfl rfl ?_
              refine asD rfl ?_
              refine OL.nil ?_
              exact AW.reach () ⟨trivial, Knows.app (.cons (VLe.refl _) (.cons (VLe.refl _) (.cons (VLe.refl _) (.cons (VLe.refl _) (.cons (VLe.refl _) (.cons (VLe.refl _) (.cons (VLe.refl _) (.cons (VLe.refl _) (.cons (VLe.refl _) .nil))))))))) (.cons (VLe.bool ((decide_eq_true (by rw [hts]; exact List.mem_append.2 (.inl hm))).symm)) .nil), Owns.app (.cons rfl (.cons rfl .nil)) (.nil)⟩
            · have hm := of_decide_eq_false hm
              refine OL.yes rfl ?_
              first | refine mvD rfl ?_ | refine mvO rfl ?_ | refine mvM rfl ?_
              refine OL.yes rfl ?_
              refine mvD rfl ?_
              refine OL.yes rfl ?_
              refine ixLn sl.intss [] rfl rfl (by rw [hal]; exact ht) rfl rfl ?_
              refine OL.yes rfl ?_
              first | refine ldRC ce.ints rfl ?_ | refine ldPC ce.ints rfl rfl rfl ?_
              rw [allowA_get ht]
              refine OL.yes rfl ?_
              refine mvD rfl ?_
              refine OL.yes rfl ?_
              refine ixLn sl.ints 0 rfl rfl (by omega) rfl rfl ?_
              refine OL.yes rfl ?_
              first | refine ldRC ce.int rfl ?_ | refine ldPC ce.int rfl rfl rfl ?_
              refine OL.yes rfl ?_
              first | refine mvD rfl ?_ | refine mvO rfl ?_ | refine mvM rfl ?_
              refine OL.yes rfl ?_
              refine mvD rfl ?_
              refine OL.yes rfl ?_
              refine ixLn sl.ints 0 rfl rfl (by rw [hlen]; exact ht) rfl rfl ?_
              refine OL.yes rfl ?_
              first | refine ldRC ce.int rfl ?_ | refine ldPC ce.int rfl rfl rfl ?_
              refine OL.yes rfl ?_
              refine c_eql rfl rfl rfl ?_
              refine pkF rfl rfl ?_
              refine asD rfl ?_
              refine OL.nil ?_
              exact AW.reach () ⟨trivial, Knows.app (.cons (VLe.refl _) (.cons (VLe.refl _) (.cons (VLe.refl _) (.cons (VLe.refl _) (.cons (VLe.refl _) (.cons (VLe.refl _) (.cons (VLe.refl _) (.cons (VLe.refl _) (.cons (VLe.refl _) .nil))))))))) (.cons (VLe.bool (decide_eq_decide.2 ⟨fun e => by rw [hts]; exact List.mem_append.2 (.inr (List.mem_singleton.2 e.symm)), fun e => by rw [hts] at e; exact (List.mem_singleton.1 ((List.mem_append.1 e).resolve_left hm)).symm⟩)) .nil), Owns.app (.cons rfl (.cons rfl .nil)) (.nil)⟩
          rintro ⟨⟩ hφ
          refine AW.region (by rw [hE]; rfl) ?_
          refine mvD rfl ?_
          refine add_i64 rfl rfl (by omega) ?_
          refine asD rfl ?_
          refine OL.nil ?_
          exact AW.again (x := i) (i + 1) (by first | omega | (simp only []; omega)) ⟨by omega, Knows.app (.cons (VLe.refl _) (.cons (VLe.refl _) (.cons (VLe.refl _) (.cons (VLe.refl _) (.cons (VLe.refl _) (.cons (VLe.refl _) (.cons (VLe.refl _) (.cons (VLe.refl _) .nil)))))))) (.cons (by first | exact VLe.refl _ | exact VLe.int (by omega) | exact VLe.mt | exact vle_q0 | exact VLe.osl | exact VLe.ptr) (.cons (by first | exact VLe.refl _ | exact VLe.int (by omega) | exact VLe.mt | exact vle_q0 | exact VLe.osl | exact VLe.ptr) .nil)), Owns.app (.cons rfl (.cons rfl .nil)) (.nil)⟩
        · first | (simp only [decide_eq_true_eq, decide_eq_false_iff_not, Bool.not_eq_true', Bool.not_eq_false', Bool.not_not, Bool.and_eq_true, Bool.and_eq_false_iff, Bool.or_eq_true, Bool.or_eq_false_iff] at h138) | skip
          refine AW.exit ?_
          refine AW.seq ?_
          have hi9 : i = (rowA (setF sets t) (chainHM L cs cy 3).st).length := by omega
          refine AW.region (by rw [hE]; rfl) ?_
          refine mvD rfl ?_
          refine nt rfl ?_
          refine OL.nil ?_
          refine AW.cond rfl (fun hno => absurd hno (by rw [hi9, List.take_length, decide_eq_true hin]; decide)) (fun _ => ?_)
          refine AW.skip ?_
          refine AW.region (by rw [hE]; rfl) ?_
          refine mvD rfl ?_
          refine add_i64 rfl rfl (by omega) ?_
          refine asD rfl ?_
          refine OL.nil ?_
          exact AW.again (x := t) (t + 1) (by first | omega | (simp only []; omega)) ⟨by omega, Knows.app (.cons (VLe.refl _) (.cons (VLe.refl _) (.cons (VLe.refl _) (.cons (VLe.refl _) (.cons (VLe.refl _) (.cons (VLe.refl _) (.cons (VLe.refl _) .nil))))))) (.cons (by first | exact VLe.refl _ | exact VLe.int (by omega) | exact VLe.mt | exact vle_q0 | exact VLe.osl | exact VLe.ptr) .nil), Owns.app (.cons rfl (.cons rfl .nil)) (.nil)⟩
      · first | (simp only [decide_eq_true_eq, decide_eq_false_iff_not, Bool.not_eq_true', Bool.not_eq_false', Bool.not_not, Bool.and_eq_true, Bool.and_eq_false_iff, Bool.or_eq_true, Bool.or_eq_false_iff] at h129) | skip
        refine AW.exit ?_
        refine AW.seq ?_
        refine AW.region (by rw [hE]; rfl) ?_
        refine clv rfl .nil law35_known ?_
        refine mvD rfl ?_
        refine OL.yes rfl ?_
        first | refine ldPA ag.Rat rfl rfl (vs := [_, _, _]) rfl (Nat.le_of_ble_eq_true rfl) ?_ | refine ldRA ag.Rat rfl (vs := [_, _, _]) rfl (Nat.le_of_ble_eq_true rfl) ?_
        refine OL.yes rfl ?_
        first | refine ldPA ag.Rat rfl rfl (vs := [_, _, _]) rfl (Nat.le_of_ble_eq_true rfl) ?_ | refine ldRA ag.Rat rfl (vs := [_, _, _]) rfl (Nat.le_of_ble_eq_true rfl) ?_
        refine OL.yes rfl ?_
        refine clv rfl (.cons (VLe.refl _) (.cons (VLe.refl _) (.nil))) (ref_CompareQ (x := bestR (chainHM L cs cy 3) w (permA (allowA sets (chainHM L cs cy 3).st w.length))) (y := bestR (chainHM L cs cy 3) w every) (by omega) (by omega)) ?_
        refine OL.yes rfl ?_
        refine c_leq rfl rfl (c := true) (decide_eq_true (cmpQ_le.2 (within_le hg w _))) ?_
        refine pkT rfl rfl ?_
        refine mvD rfl ?_
        refine OL.yes rfl ?_
        refine mvD rfl ?_
        refine OL.yes rfl ?_
        refine nt rfl ?_
        refine OL.split 167 rfl (fun hq => ?_) (fun hq => ?_)
        · have _h := hq
          refine OL.yes rfl ?_
          refine mvD rfl ?_
          refine OL.no rfl (by decide) ?_
          refine OL.no rfl (by decide) ?_
          refine OL.no rfl (by decide) ?_
          refine OL.yes rfl ?_
          refine pkT rfl rfl ?_
          refine pkT rfl rfl ?_
          refine asD rfl ?_
          refine OL.nil ?_
          exact AW.ret (RetQ.r ⟨_, .tmp rfl .nil, .le (by first | exact VLe.refl _ | exact VLe.mt | exact vle_q0 | exact VLe.int (by omega) | exact VLe.bool (by simp_all))⟩)
        · have hq := nd_f hq
          refine OL.yes rfl ?_
          refine mvD rfl ?_
          refine OL.yes rfl ?_
          first | refine mvD rfl ?_ | refine mvO rfl ?_ | refine mvM rfl ?_
          refine OL.yes rfl ?_
          first | refine mvD rfl ?_ | refine mvO rfl ?_ | refine mvM rfl ?_
          refine OL.yes rfl ?_
          refine clv rfl (.cons (VLe.refl _) (.cons (VLe.refl _) (.nil))) (law35_same (l := (vitP (chainHM L cs cy 3) w (permA (allowA sets (chainHM L cs cy 3).st w.length)))) (m := (vitP (chainHM L cs cy 3) w every)) (by omega)) ?_
          refine OL.yes rfl ?_
          refine pkF rfl rfl ?_
          refine pkT rfl rfl ?_
          refine asD rfl ?_
          refine OL.nil ?_
          exact AW.ret (RetQ.r ⟨_, .tmp rfl .nil, .le (VLe.bool (by rw [decide_eq_true (fitsA_perm hg hq).2]))⟩)
end Go.Proofs.YtcebciggodhmcaaGreat

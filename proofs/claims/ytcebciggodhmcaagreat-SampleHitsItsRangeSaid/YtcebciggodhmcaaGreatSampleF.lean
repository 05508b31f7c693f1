/-
  Walks of drawings, part 6: the law SampleHitsItsRange (printed by mk2.py).
-/
import Derived.Test.YtcebciggodhmcaaGreatSampleE
set_option linter.unusedVariables false
set_option linter.unusedSimpArgs false
namespace Go.Proofs.YtcebciggodhmcaaGreat
open Go Go.AL

set_option maxRecDepth 4000 in
set_option maxHeartbeats 1600000 in
theorem law_SampleHitsItsRange {L l : List Int} {cs cy : Int} (nL : L.length ≤ 9223372036854775807) : FSpec P F.law40_SampleHitsItsRange [.ag [.d (dI cs), .d (dI cy), .d (ints L)], .d (ints l)] (.d (dB true)) := by
  have hg : (chainHM L cs cy 3).Good 1 := chainHM_good L cs cy (by decide)
  have hbl := coinsF_len l 24
  have hb01 := coinsF_bit l 24
  refine FSpec.intro fn.law40_SampleHitsItsRange (by rfl) (by rfl) (Nat.le_of_ble_eq_true (by rfl)) fun E hE => ?_
  refine AW.seq ?_
  refine AW.region (by rw [hE]; rfl) ?_
  first | refine bxA rfl rfl fun b2 => ?_ | refine bxD rfl rfl fun b2 => ?_
  refine asD rfl ?_
  refine OL.nil ?_
  refine AW.seq ?_
  refine AW.region (by rw [hE]; rfl) ?_
  first | refine ldPA ag.Chain rfl rfl (vs := [_, _, _]) rfl (Nat.le_of_ble_eq_true rfl) ?_ | refine ldRA ag.Chain rfl (vs := [_, _, _]) rfl (Nat.le_of_ble_eq_true rfl) ?_
  refine clv rfl (.cons (VLe.refl _) (.cons (VLe.refl _) (.nil))) (chain_Hidden (by decide) nL) ?_
  refine al z.Hidden rfl fun b5 => ?_
  first | refine sto sz.Hidden rfl rfl rfl rfl rfl (Nat.le_of_ble_eq_true rfl) (cells2 := [_, _, _, _, _, _, _, _, _, _, _]) rfl ?_ | refine stE sz.Hidden rfl (VC.d _).vd rfl rfl (by omega) rfl ?_
  refine OL.nil ?_
  refine AW.seq ?_
  refine AW.region (by rw [hE]; rfl) ?_
  first | refine mvD rfl ?_ | refine mvO rfl ?_ | refine mvM rfl ?_
  refine clv rfl (.cons (VLe.refl _) (.cons (VLe.refl _) (.nil))) (law40_coins (most := 24) (by decide)) ?_
  first | refine asD rfl ?_ | refine asO rfl ?_ | refine asM rfl ?_
  refine OL.nil ?_
  refine AW.seq ?_
  refine AW.region (by rw [hE]; rfl) ?_
  first | refine ldPA ag.Hidden rfl rfl (vs := [_, _, _, _, _, _, _, _, _, _, _]) rfl (Nat.le_of_ble_eq_true rfl) ?_ | refine ldRA ag.Hidden rfl (vs := [_, _, _, _, _, _, _, _, _, _, _]) rfl (Nat.le_of_ble_eq_true rfl) ?_
  first | refine mvD rfl ?_ | refine mvO rfl ?_ | refine mvM rfl ?_
  refine clv rfl (.cons (VLe.refl _) (.cons (VLe.refl _) (.nil))) (sample_Draw (bits := (coinsF l 24)) hg (by omega) hb01) ?_
  first | refine mvD rfl ?_ | refine mvT rfl ?_ | refine mvP rfl ?_ | refine mvR rfl ?_ | refine mvE rfl ?_ | refine mvF rfl ?_ | refine mvA rfl ?_ | refine mvO rfl ?_ | refine mvM rfl ?_ | refine mvJ rfl ?_
  refine ex rfl rfl ?_
  refine ex rfl rfl ?_
  refine al z.Drawn rfl fun b7 => ?_
  first | refine sto sz.Drawn rfl rfl rfl rfl rfl (Nat.le_of_ble_eq_true rfl) (cells2 := [_, _, _]) rfl ?_ | refine stE sz.Drawn rfl (VC.d _).vd rfl rfl (by omega) rfl ?_
  refine asD rfl ?_
  refine OL.nil ?_
  refine AW.seq ?_
  refine AW.seq ?_
  refine AW.region (by rw [hE]; rfl) ?_
  refine mvD rfl ?_
  refine c_neq rfl rfl rfl ?_
  refine OL.nil ?_
  refine AW.cond rfl (fun h26 => ?_) (fun h26 => ?_)
  · obtain ⟨e, hd, he⟩ : ∃ e, draw (chainHM L cs cy 3) (coinsF l 24) = .err e ∧ (e = 17 ∨ e = 2) := by
        cases hd : draw (chainHM L cs cy 3) (coinsF l 24) with
        | err e => exact ⟨e, rfl, draw_err hd⟩
        | run => rw [hd] at h26; cases h26
    rw [hd]
    refine AW.seq ?_
    refine AW.region (by rw [hE]; rfl) ?_
    refine clv rfl .nil law40_known ?_
    refine mvD rfl ?_
    refine OL.yes rfl ?_
    refine mvD rfl ?_
    refine OL.yes rfl ?_
    refine c_eql rfl rfl rfl ?_
    refine OL.yes rfl ?_
    refine mvD rfl ?_
    refine OL.split 31 rfl (fun g31 => ?_) (fun g31 => ?_)
    · first | (simp only [decide_eq_true_eq, decide_eq_false_iff_not, Bool.not_eq_true', Bool.not_eq_false', Bool.not_not, Bool.and_eq_true, Bool.and_eq_false_iff, Bool.or_eq_true, Bool.or_eq_false_iff] at g31) | skip
      refine OL.no rfl (by decide) ?_
      refine OL.no rfl (by decide) ?_
      refine OL.yes rfl ?_
      refine pkT rfl rfl ?_
      refine pkT rfl rfl ?_
      refine asD rfl ?_
      refine OL.nil ?_
      exact AW.ret (RetQ.r ⟨_, .tmp rfl .nil, .le (VLe.bool (by rfl))⟩)
    · first | (simp only [decide_eq_true_eq, decide_eq_false_iff_not, Bool.not_eq_true', Bool.not_eq_false', Bool.not_not, Bool.and_eq_true, Bool.and_eq_false_iff, Bool.or_eq_true, Bool.or_eq_false_iff] at g31) | skip
      refine OL.yes rfl ?_
      refine mvD rfl ?_
      refine OL.yes rfl ?_
      refine c_eql rfl rfl rfl ?_
      refine OL.yes rfl ?_
      refine pkF rfl rfl ?_
      refine pkT rfl rfl ?_
      refine asD rfl ?_
      refine OL.nil ?_
      exact AW.ret (RetQ.r ⟨_, .tmp rfl .nil, .le (VLe.bool (by rcases he with rfl | rfl; exact absurd rfl g31; rfl))⟩)
  · obtain ⟨st, w, u, hd⟩ : ∃ st w u, draw (chainHM L cs cy 3) (coinsF l 24) = .run st w u := by
        cases hd : draw (chainHM L cs cy 3) (coinsF l 24) with
        | err e => rw [hd] at h26; rcases draw_err hd with rfl | rfl <;> cases h26
        | run st w u => exact ⟨st, w, u, rfl⟩
    rw [hd]
    have hu := draw_used hd
    have k := draw_ok hg.form hd
    obtain ⟨hA, hB, hC⟩ := draw_range hg hd
    have so := range_ok hg.form k
    have so1 := so.lo
    have so2 := so.len
    have hlen := range_len hg.form k
    have zJ : sz (jointQ (chainHM L cs cy 3) st w) ≤ 1 + 513 * 1024 := by rw [← hlen]; exact so2
    have hJ : 0 < (jointQ (chainHM L cs cy 3) st w) := by rw [← hlen]; exact hB
    have hsub : (rangeS (chainHM L cs cy 3) st w).lo + (rangeS (chainHM L cs cy 3) st w).len - (rangeS (chainHM L cs cy 3) st w).lo = (jointQ (chainHM L cs cy 3) st w) := by rw [← hlen]; grind
    have ad := sz_add (rangeS (chainHM L cs cy 3) st w).lo (rangeS (chainHM L cs cy 3) st w).len
    have sb := sz_sub ((rangeS (chainHM L cs cy 3) st w).lo + (rangeS (chainHM L cs cy 3) st w).len) (rangeS (chainHM L cs cy 3) st w).lo
    have ok1 := rdN_ok (bits := (coinsF l 24)) (by omega) u hu
    have o1 := ok1.lo
    have o2 := ok1.len
    rw [rdN_used] at o1 o2
    have ad1 := sz_add (rdN (coinsF l 24) u).read.lo (rdN (coinsF l 24) u).read.len
    refine AW.skip ?_
    refine AW.seq ?_
    refine AW.region (by rw [hE]; rfl) ?_
    first | refine ldPA ag.Hidden rfl rfl (vs := [_, _, _, _, _, _, _, _, _, _, _]) rfl (Nat.le_of_ble_eq_true rfl) ?_ | refine ldRA ag.Hidden rfl (vs := [_, _, _, _, _, _, _, _, _, _, _]) rfl (Nat.le_of_ble_eq_true rfl) ?_
    first | refine faP fd.Drawn_0 rfl rfl ?_ | refine faR fd.Drawn_0 rfl rfl ?_ | refine faE fd.Drawn_0 rfl rfl ?_
    first | refine ldRC ce.ints rfl ?_ | refine ldPC ce.ints rfl rfl rfl ?_
    first | refine faP fd.Drawn_1 rfl rfl ?_ | refine faR fd.Drawn_1 rfl rfl ?_ | refine faE fd.Drawn_1 rfl rfl ?_
    first | refine ldRC ce.ints rfl ?_ | refine ldPC ce.ints rfl rfl rfl ?_
    refine clv rfl (.cons (VLe.refl _) (.cons (VLe.refl _) (.cons (VLe.refl _) (.nil)))) (sample_Range hg k) ?_
    first | refine mvD rfl ?_ | refine mvT rfl ?_ | refine mvP rfl ?_ | refine mvR rfl ?_ | refine mvE rfl ?_ | refine mvF rfl ?_ | refine mvA rfl ?_ | refine mvO rfl ?_ | refine mvM rfl ?_ | refine mvJ rfl ?_
    refine ex rfl rfl ?_
    refine ex rfl rfl ?_
    refine al z.Interval rfl fun b9 => ?_
    first | refine sto sz.Interval rfl rfl rfl rfl rfl (Nat.le_of_ble_eq_true rfl) (cells2 := [_, _, _, _, _, _]) rfl ?_ | refine stE sz.Interval rfl (VC.d _).vd rfl rfl (by omega) rfl ?_
    refine asD rfl ?_
    refine OL.nil ?_
    refine AW.seq ?_
    refine AW.region (by rw [hE]; rfl) ?_
    first | refine ldPA ag.Hidden rfl rfl (vs := [_, _, _, _, _, _, _, _, _, _, _]) rfl (Nat.le_of_ble_eq_true rfl) ?_ | refine ldRA ag.Hidden rfl (vs := [_, _, _, _, _, _, _, _, _, _, _]) rfl (Nat.le_of_ble_eq_true rfl) ?_
    first | refine faP fd.Drawn_1 rfl rfl ?_ | refine faR fd.Drawn_1 rfl rfl ?_ | refine faE fd.Drawn_1 rfl rfl ?_
    first | refine ldRC ce.ints rfl ?_ | refine ldPC ce.ints rfl rfl rfl ?_
    first | refine faP fd.Drawn_0 rfl rfl ?_ | refine faR fd.Drawn_0 rfl rfl ?_ | refine faE fd.Drawn_0 rfl rfl ?_
    first | refine ldRC ce.ints rfl ?_ | refine ldPC ce.ints rfl rfl rfl ?_
    refine clv rfl (.cons (VLe.refl _) (.cons (VLe.refl _) (.cons (VLe.refl _) (.nil)))) (viterbi_Joint hg k) ?_
    first | refine mvD rfl ?_ | refine mvT rfl ?_ | refine mvP rfl ?_ | refine mvR rfl ?_ | refine mvE rfl ?_ | refine mvF rfl ?_ | refine mvA rfl ?_ | refine mvO rfl ?_ | refine mvM rfl ?_ | refine mvJ rfl ?_
    refine ex rfl rfl ?_
    refine ex rfl rfl ?_
    refine al z.Rat rfl fun b11 => ?_
    first | refine sto sz.Rat rfl rfl rfl rfl rfl (Nat.le_of_ble_eq_true rfl) (cells2 := [_, _, _]) rfl ?_ | refine stE sz.Rat rfl (VC.d _).vd rfl rfl (by omega) rfl ?_
    refine asD rfl ?_
    refine OL.nil ?_
    refine AW.seq ?_
    refine AW.seq ?_
    refine AW.region_draw 1 [0, 1, 2, 3, 4, 5, 6, 7, 8, 9, 10, 11, 12, 13, 14, 15, 16, 17, 18, 19, 20, 21, 22, 23, 24, 25, 26, 27, 28, 29, 30, 31, 32] order_free (by rw [hE]; rfl) (by kernel_rfl) (OI.of_OL (os := [_, _, _, _, _, _, _, _, _, _, _, _, _, _, _, _, _, _, _, _, _, _, _, _, _, _, _, _, _, _, _, _, _]) rfl ?_)
    refine mvD rfl ?_
    refine c_neq rfl rfl (c := false) (by first | exact decide_eq_true (by omega) | exact decide_eq_false (by omega) | exact cne_f (by omega) | exact cne_t (by omega) | rfl) ?_
    refine mvD rfl ?_
    refine OL.yes rfl ?_
    refine mvD rfl ?_
    refine OL.yes rfl ?_
    refine c_neq rfl rfl (c := false) (by first | exact decide_eq_true (by omega) | exact decide_eq_false (by omega) | exact cne_f (by omega) | exact cne_t (by omega) | rfl) ?_
    refine pkF rfl rfl ?_
    refine mvD rfl ?_
    refine OL.yes rfl ?_
    first | refine faP fd.Drawn_2 rfl rfl ?_ | refine faR fd.Drawn_2 rfl rfl ?_ | refine faE fd.Drawn_2 rfl rfl ?_
    refine OL.yes rfl ?_
    first | refine ldRC ce.int rfl ?_ | refine ldPC ce.int rfl rfl rfl ?_
    refine OL.yes rfl ?_
    refine c_lss rfl rfl (c := false) (decide_eq_false (by show ¬ (u : Int) < 0; omega)) ?_
    refine pkF rfl rfl ?_
    refine mvD rfl ?_
    refine OL.yes rfl ?_
    first | refine faP fd.Drawn_2 rfl rfl ?_ | refine faR fd.Drawn_2 rfl rfl ?_ | refine faE fd.Drawn_2 rfl rfl ?_
    refine OL.yes rfl ?_
    first | refine ldRC ce.int rfl ?_ | refine ldPC ce.int rfl rfl rfl ?_
    refine OL.yes rfl ?_
    first | refine mvD rfl ?_ | refine mvO rfl ?_ | refine mvM rfl ?_
    refine OL.yes rfl ?_
    first | refine lnL sl.ints rfl rfl ?_ | refine lnO sl.ints rfl rfl ?_ | refine lnM sl.ints rfl rfl ?_ | refine lnD sl.ints rfl rfl rfl ?_
    refine OL.yes rfl ?_
    refine c_gtr rfl rfl (c := false) (decide_eq_false (by show ¬ (((coinsF l 24).length : Nat) : Int) < (u : Int); omega)) ?_
    refine pkF rfl rfl ?_
    refine mvD rfl ?_
    refine OL.yes rfl ?_
    first | refine faP fd.Interval_1 rfl rfl ?_ | refine faR fd.Interval_1 rfl rfl ?_ | refine faE fd.Interval_1 rfl rfl ?_
    refine OL.yes rfl ?_
    first | refine ldPA ag.Rat rfl rfl (vs := [_, _, _]) rfl (Nat.le_of_ble_eq_true rfl) ?_ | refine ldRA ag.Rat rfl (vs := [_, _, _]) rfl (Nat.le_of_ble_eq_true rfl) ?_
    refine OL.yes rfl ?_
    first | refine faP fd.Interval_0 rfl rfl ?_ | refine faR fd.Interval_0 rfl rfl ?_ | refine faE fd.Interval_0 rfl rfl ?_
    refine OL.yes rfl ?_
    first | refine ldPA ag.Rat rfl rfl (vs := [_, _, _]) rfl (Nat.le_of_ble_eq_true rfl) ?_ | refine ldRA ag.Rat rfl (vs := [_, _, _]) rfl (Nat.le_of_ble_eq_true rfl) ?_
    refine OL.yes rfl ?_
    refine clv rfl (.cons (VLe.refl _) (.cons (VLe.refl _) (.nil))) (ref_SubQ (x := (rangeS (chainHM L cs cy 3) st w).lo + (rangeS (chainHM L cs cy 3) st w).len) (y := (rangeS (chainHM L cs cy 3) st w).lo) (by omega) (by omega)) ?_
    rw [hsub]
    refine OL.yes rfl ?_
    first | refine ldPA ag.Rat rfl rfl (vs := [_, _, _]) rfl (Nat.le_of_ble_eq_true rfl) ?_ | refine ldRA ag.Rat rfl (vs := [_, _, _]) rfl (Nat.le_of_ble_eq_true rfl) ?_
    refine OL.yes rfl ?_
    refine clv rfl (.cons (VLe.refl _) (.cons (VLe.refl _) (.nil))) (ref_CompareQ (x := (jointQ (chainHM L cs cy 3) st w)) (y := (jointQ (chainHM L cs cy 3) st w)) (by omega) (by omega)) ?_
    rw [show cmpQ (jointQ (chainHM L cs cy 3) st w) (jointQ (chainHM L cs cy 3) st w) = 0 from cmpQ_eq.2 rfl]
    refine OL.yes rfl ?_
    refine c_neq rfl rfl (c := false) (by first | exact decide_eq_true (by omega) | exact decide_eq_false (by omega) | exact cne_f (by omega) | exact cne_t (by omega) | rfl) ?_
    refine pkF rfl rfl ?_
    refine mvD rfl ?_
    refine OL.yes rfl ?_
    first | refine ldPA ag.Rat rfl rfl (vs := [_, _, _]) rfl (Nat.le_of_ble_eq_true rfl) ?_ | refine ldRA ag.Rat rfl (vs := [_, _, _]) rfl (Nat.le_of_ble_eq_true rfl) ?_
    refine OL.yes rfl ?_
    refine clv rfl (.cons (VLe.refl _) (.nil)) (ref_SignQ (x := (jointQ (chainHM L cs cy 3) st w)) (by omega)) ?_
    rw [show sgnQ (jointQ (chainHM L cs cy 3) st w) = 1 from sgnQ_pos.2 hJ]
    refine OL.yes rfl ?_
    refine c_leq rfl rfl (c := false) (by first | exact decide_eq_true (by omega) | exact decide_eq_false (by omega) | exact cne_f (by omega) | exact cne_t (by omega) | rfl) ?_
    refine pkF rfl rfl ?_
    refine OL.nil ?_
    refine AW.cond rfl (fun hno => absurd hno (by decide)) (fun _ => ?_)
    refine AW.skip ?_
    refine AW.seq ?_
    have htl : ((coinsF l 24).take u).length = u := take_len hu
    refine AW.region (by rw [hE]; rfl) ?_
    first | refine mvD rfl ?_ | refine mvO rfl ?_ | refine mvM rfl ?_
    first | refine faP fd.Drawn_2 rfl rfl ?_ | refine faR fd.Drawn_2 rfl rfl ?_ | refine faE fd.Drawn_2 rfl rfl ?_
    first | refine ldRC ce.int rfl ?_ | refine ldPC ce.int rfl rfl rfl ?_
    refine slTo sl.ints rfl rfl (fun _ => rfl) (by show 0 ≤ (u : Int) ∧ (u : Int) ≤ _; omega) (l2 := (coinsF l 24).take u) (by show _ = _; rw [show (drU (.run st w u)).toNat = u from Int.toNat_natCast u]) ?_
    refine clv rfl (.cons (VLe.refl _) (.nil)) (law40_number (bits := (coinsF l 24).take u) (by omega)) ?_
    rw [htl, rdN_take _ _ _ (Nat.le_refl _)]
    first | refine mvD rfl ?_ | refine mvT rfl ?_ | refine mvP rfl ?_ | refine mvR rfl ?_ | refine mvE rfl ?_ | refine mvF rfl ?_ | refine mvA rfl ?_ | refine mvO rfl ?_ | refine mvM rfl ?_ | refine mvJ rfl ?_
    refine ex rfl rfl ?_
    refine ex rfl rfl ?_
    refine al z.Rat rfl fun b13 => ?_
    refine al z.Rat rfl fun b14 => ?_
    first | refine sto sz.Rat rfl rfl rfl rfl rfl (Nat.le_of_ble_eq_true rfl) (cells2 := [_, _, _]) rfl ?_ | refine stE sz.Rat rfl (VC.d _).vd rfl rfl (by omega) rfl ?_
    first | refine sto sz.Rat rfl rfl rfl rfl rfl (Nat.le_of_ble_eq_true rfl) (cells2 := [_, _, _]) rfl ?_ | refine stE sz.Rat rfl (VC.d _).vd rfl rfl (by omega) rfl ?_
    refine OL.nil ?_
    refine AW.seq ?_
    refine AW.seq ?_
    refine AW.region_draw 1 [0, 1, 2, 3, 4, 5, 6, 7, 8, 9, 10, 11, 12, 13] order_free (by rw [hE]; rfl) (by kernel_rfl) (OI.of_OL (os := [_, _, _, _, _, _, _, _, _, _, _, _, _, _]) rfl ?_)
    first | refine faP fd.Interval_0 rfl rfl ?_ | refine faR fd.Interval_0 rfl rfl ?_ | refine faE fd.Interval_0 rfl rfl ?_
    first | refine ldPA ag.Rat rfl rfl (vs := [_, _, _]) rfl (Nat.le_of_ble_eq_true rfl) ?_ | refine ldRA ag.Rat rfl (vs := [_, _, _]) rfl (Nat.le_of_ble_eq_true rfl) ?_
    first | refine ldPA ag.Rat rfl rfl (vs := [_, _, _]) rfl (Nat.le_of_ble_eq_true rfl) ?_ | refine ldRA ag.Rat rfl (vs := [_, _, _]) rfl (Nat.le_of_ble_eq_true rfl) ?_
    refine clv rfl (.cons (VLe.refl _) (.cons (VLe.refl _) (.nil))) (ref_CompareQ (x := (rangeS (chainHM L cs cy 3) st w).lo) (y := (rdN (coinsF l 24) u).read.lo) (by omega) (by omega)) ?_
    refine c_gtr rfl rfl (c := false) (decide_eq_false fun e => absurd (cmpQ_gt.1 e) (Rat.not_lt.2 hA.1)) ?_
    refine mvD rfl ?_
    refine OL.yes rfl ?_
    first | refine ldPA ag.Rat rfl rfl (vs := [_, _, _]) rfl (Nat.le_of_ble_eq_true rfl) ?_ | refine ldRA ag.Rat rfl (vs := [_, _, _]) rfl (Nat.le_of_ble_eq_true rfl) ?_
    refine OL.yes rfl ?_
    first | refine ldPA ag.Rat rfl rfl (vs := [_, _, _]) rfl (Nat.le_of_ble_eq_true rfl) ?_ | refine ldRA ag.Rat rfl (vs := [_, _, _]) rfl (Nat.le_of_ble_eq_true rfl) ?_
    refine OL.yes rfl ?_
    refine clv rfl (.cons (VLe.refl _) (.cons (VLe.refl _) (.nil))) (ref_AddQ (x := (rdN (coinsF l 24) u).read.lo) (y := (rdN (coinsF l 24) u).read.len) (by omega) (by omega)) ?_
    refine OL.yes rfl ?_
    first | refine faP fd.Interval_1 rfl rfl ?_ | refine faR fd.Interval_1 rfl rfl ?_ | refine faE fd.Interval_1 rfl rfl ?_
    refine OL.yes rfl ?_
    first | refine ldPA ag.Rat rfl rfl (vs := [_, _, _]) rfl (Nat.le_of_ble_eq_true rfl) ?_ | refine ldRA ag.Rat rfl (vs := [_, _, _]) rfl (Nat.le_of_ble_eq_true rfl) ?_
    refine OL.yes rfl ?_
    refine clv rfl (.cons (VLe.refl _) (.cons (VLe.refl _) (.nil))) (ref_CompareQ (x := (rdN (coinsF l 24) u).read.lo + (rdN (coinsF l 24) u).read.len) (y := (rangeS (chainHM L cs cy 3) st w).lo + (rangeS (chainHM L cs cy 3) st w).len) (by omega) (by omega)) ?_
    refine OL.yes rfl ?_
    refine c_gtr rfl rfl (c := false) (decide_eq_false fun e => absurd (cmpQ_gt.1 e) (Rat.not_lt.2 hA.2)) ?_
    refine pkF rfl rfl ?_
    refine OL.nil ?_
    refine AW.cond rfl (fun hno => absurd hno (by decide)) (fun _ => ?_)
    refine AW.skip ?_
    refine AW.seq ?_
    refine AW.seq ?_
    refine AW.region (by rw [hE]; rfl) ?_
    first | refine faP fd.Drawn_2 rfl rfl ?_ | refine faR fd.Drawn_2 rfl rfl ?_ | refine faE fd.Drawn_2 rfl rfl ?_
    first | refine ldRC ce.int rfl ?_ | refine ldPC ce.int rfl rfl rfl ?_
    refine c_eql rfl rfl rfl ?_
    refine OL.nil ?_
    refine AW.cond rfl (fun h0 => ?_) (fun h0 => ?_)
    · have _h := h0
      refine AW.seq ?_
      refine AW.region (by rw [hE]; rfl) ?_
      refine clv rfl .nil law40_known ?_
      refine asD rfl ?_
      refine OL.nil ?_
      exact AW.ret (RetQ.r ⟨_, .tmp rfl .nil, .le (by first | exact VLe.refl _ | exact VLe.mt | exact vle_q0 | exact VLe.int (by omega) | exact VLe.bool (by simp_all))⟩)
    · have h0 : 0 < u := by have := of_decide_eq_false h0; change ¬ ((u : Int) = 0) at this; omega
      have ok2 := rdN_ok (bits := (coinsF l 24)) (by omega) (u - 1) (by omega)
      have p1 := ok2.lo
      have p2 := ok2.len
      rw [rdN_used] at p1 p2
      have ad2 := sz_add (rdN (coinsF l 24) (u - 1)).read.lo (rdN (coinsF l 24) (u - 1)).read.len
      have hno := hC (u - 1) (by omega)
      have htl2 : ((coinsF l 24).take (u - 1)).length = u - 1 := take_len (by omega)
      refine AW.skip ?_
      refine AW.seq ?_
      refine AW.region (by rw [hE]; rfl) ?_
      first | refine mvD rfl ?_ | refine mvO rfl ?_ | refine mvM rfl ?_
      first | refine faP fd.Drawn_2 rfl rfl ?_ | refine faR fd.Drawn_2 rfl rfl ?_ | refine faE fd.Drawn_2 rfl rfl ?_
      first | refine ldRC ce.int rfl ?_ | refine ldPC ce.int rfl rfl rfl ?_
      refine bo rfl rfl (bin_sub (c := ((u - 1 : Nat) : Int)) (by show (u : Int) - 1 = _; omega) (wrap_i64 (by omega))) ?_
      refine slTo sl.ints rfl rfl (fun _ => rfl) (by omega) (l2 := (coinsF l 24).take (u - 1)) (by rw [Int.toNat_natCast]) ?_
      refine clv rfl (.cons (VLe.refl _) (.nil)) (law40_number (bits := (coinsF l 24).take (u - 1)) (by omega)) ?_
      rw [htl2, rdN_take _ _ _ (Nat.le_refl _)]
      first | refine mvD rfl ?_ | refine mvT rfl ?_ | refine mvP rfl ?_ | refine mvR rfl ?_ | refine mvE rfl ?_ | refine mvF rfl ?_ | refine mvA rfl ?_ | refine mvO rfl ?_ | refine mvM rfl ?_ | refine mvJ rfl ?_
      refine ex rfl rfl ?_
      refine ex rfl rfl ?_
      first | refine sto sz.Rat rfl rfl rfl rfl rfl (Nat.le_of_ble_eq_true rfl) (cells2 := [_, _, _]) rfl ?_ | refine stE sz.Rat rfl (VC.d _).vd rfl rfl (by omega) rfl ?_
      first | refine sto sz.Rat rfl rfl rfl rfl rfl (Nat.le_of_ble_eq_true rfl) (cells2 := [_, _, _]) rfl ?_ | refine stE sz.Rat rfl (VC.d _).vd rfl rfl (by omega) rfl ?_
      refine OL.nil ?_
      refine AW.seq ?_
      refine AW.region_draw 1 [0, 1, 2, 3, 4, 5, 6, 7, 8, 9, 10, 11, 12, 13, 14, 15, 16, 17] order_free (by rw [hE]; rfl) (by kernel_rfl) (OI.of_OL (os := [_, _, _, _, _, _, _, _, _, _, _, _, _, _, _, _, _, _]) rfl ?_)
      refine clv rfl .nil law40_known ?_
      refine mvD rfl ?_
      refine OL.yes rfl ?_
      first | refine faP fd.Interval_0 rfl rfl ?_ | refine faR fd.Interval_0 rfl rfl ?_ | refine faE fd.Interval_0 rfl rfl ?_
      refine OL.yes rfl ?_
      first | refine ldPA ag.Rat rfl rfl (vs := [_, _, _]) rfl (Nat.le_of_ble_eq_true rfl) ?_ | refine ldRA ag.Rat rfl (vs := [_, _, _]) rfl (Nat.le_of_ble_eq_true rfl) ?_
      refine OL.yes rfl ?_
      first | refine ldPA ag.Rat rfl rfl (vs := [_, _, _]) rfl (Nat.le_of_ble_eq_true rfl) ?_ | refine ldRA ag.Rat rfl (vs := [_, _, _]) rfl (Nat.le_of_ble_eq_true rfl) ?_
      refine OL.yes rfl ?_
      refine clv rfl (.cons (VLe.refl _) (.cons (VLe.refl _) (.nil))) (ref_CompareQ (x := (rangeS (chainHM L cs cy 3) st w).lo) (y := (rdN (coinsF l 24) (u - 1)).read.lo) (by omega) (by omega)) ?_
      refine OL.yes rfl ?_
      refine c_gtr rfl rfl rfl ?_
      refine OL.split 128 rfl (fun g => ?_) (fun g => ?_)
      · have g := cmpQ_gt.1 (of_decide_eq_true g)
        refine OL.yes rfl ?_
        refine mvD rfl ?_
        refine OL.no rfl (by decide) ?_
        refine OL.no rfl (by decide) ?_
        refine OL.no rfl (by decide) ?_
        refine OL.no rfl (by decide) ?_
        refine OL.no rfl (by decide) ?_
        refine OL.no rfl (by decide) ?_
        refine OL.no rfl (by decide) ?_
        refine OL.yes rfl ?_
        refine pkT rfl rfl ?_
        refine pkT rfl rfl ?_
        refine asD rfl ?_
        refine OL.nil ?_
        exact AW.ret (RetQ.r ⟨_, .tmp rfl .nil, .le (by first | exact VLe.refl _ | exact VLe.mt | exact vle_q0 | exact VLe.int (by omega) | exact VLe.bool (by simp_all))⟩)
      · have g : (rangeS (chainHM L cs cy 3) st w).lo ≤ (rdN (coinsF l 24) (u - 1)).read.lo := Rat.not_lt.1 fun e => of_decide_eq_false g (cmpQ_gt.2 e)
        have g2 : (rangeS (chainHM L cs cy 3) st w).lo + (rangeS (chainHM L cs cy 3) st w).len < (rdN (coinsF l 24) (u - 1)).read.lo + (rdN (coinsF l 24) (u - 1)).read.len := Rat.not_le.1 fun e => hno ⟨g, e⟩
        refine OL.yes rfl ?_
        refine mvD rfl ?_
        refine OL.yes rfl ?_
        first | refine ldPA ag.Rat rfl rfl (vs := [_, _, _]) rfl (Nat.le_of_ble_eq_true rfl) ?_ | refine ldRA ag.Rat rfl (vs := [_, _, _]) rfl (Nat.le_of_ble_eq_true rfl) ?_
        refine OL.yes rfl ?_
        first | refine ldPA ag.Rat rfl rfl (vs := [_, _, _]) rfl (Nat.le_of_ble_eq_true rfl) ?_ | refine ldRA ag.Rat rfl (vs := [_, _, _]) rfl (Nat.le_of_ble_eq_true rfl) ?_
        refine OL.yes rfl ?_
        refine clv rfl (.cons (VLe.refl _) (.cons (VLe.refl _) (.nil))) (ref_AddQ (x := (rdN (coinsF l 24) (u - 1)).read.lo) (y := (rdN (coinsF l 24) (u - 1)).read.len) (by omega) (by omega)) ?_
        refine OL.yes rfl ?_
        first | refine faP fd.Interval_1 rfl rfl ?_ | refine faR fd.Interval_1 rfl rfl ?_ | refine faE fd.Interval_1 rfl rfl ?_
        refine OL.yes rfl ?_
        first | refine ldPA ag.Rat rfl rfl (vs := [_, _, _]) rfl (Nat.le_of_ble_eq_true rfl) ?_ | refine ldRA ag.Rat rfl (vs := [_, _, _]) rfl (Nat.le_of_ble_eq_true rfl) ?_
        refine OL.yes rfl ?_
        refine clv rfl (.cons (VLe.refl _) (.cons (VLe.refl _) (.nil))) (ref_CompareQ (x := (rdN (coinsF l 24) (u - 1)).read.lo + (rdN (coinsF l 24) (u - 1)).read.len) (y := (rangeS (chainHM L cs cy 3) st w).lo + (rangeS (chainHM L cs cy 3) st w).len) (by omega) (by omega)) ?_
        refine OL.yes rfl ?_
        refine c_gtr rfl rfl (c := true) (decide_eq_true (cmpQ_gt.2 g2)) ?_
        refine OL.yes rfl ?_
        refine pkF rfl rfl ?_
        refine pkT rfl rfl ?_
        refine asD rfl ?_
        refine OL.nil ?_
        exact AW.ret (RetQ.r ⟨_, .tmp rfl .nil, .le (by first | exact VLe.refl _ | exact VLe.mt | exact vle_q0 | exact VLe.int (by omega) | exact VLe.bool (by simp_all))⟩)
end Go.Proofs.YtcebciggodhmcaaGreat

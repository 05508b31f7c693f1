/-
  Walks of drawings, part 8: the law SampleIsInOrder (printed by mk2.py).
-/
import Derived.Test.YtcebciggodhmcaaGreatSampleG
import Derived.Test.YtcebciggodhmcaaGreatSampleD
set_option linter.unusedVariables false
set_option linter.unusedSimpArgs false
namespace Go.Proofs.YtcebciggodhmcaaGreat
open Go Go.AL

def lastQ (h : HM) (out : List DRun) (i : Nat) : Rat := if i = 0 then 0 else ((out.getD (i - 1) dr0).iv h).lo + ((out.getD (i - 1) dr0).iv h).len
theorem lastQ_succ (h : HM) (out : List DRun) (i : Nat) : lastQ h out (i + 1) = ((out.getD i dr0).iv h).lo + ((out.getD i dr0).iv h).len := if_neg (Nat.succ_ne_zero i)
theorem lastQ_sz {h : HM} {B b n : Nat} {out : List DRun} (f : h.Form B) (k : Asc h b n out) {i : Nat} (hi : i ≤ out.length) : sz (lastQ h out i) ≤ 30000000000 := by
  unfold lastQ
  split
  · rw [sz_zero]; decide
  · have so := range_ok f (k.ok (i - 1) (by omega))
    have h1 := so.lo
    have h2 := so.len
    have h3 := sz_add (rangeS h (out.getD (i - 1) dr0).st (out.getD (i - 1) dr0).w).lo (rangeS h (out.getD (i - 1) dr0).st (out.getD (i - 1) dr0).w).len
    show sz ((rangeS h (out.getD (i - 1) dr0).st (out.getD (i - 1) dr0).w).lo + (rangeS h (out.getD (i - 1) dr0).st (out.getD (i - 1) dr0).w).len) ≤ _
    omega
theorem lastQ_le {h : HM} {B b n : Nat} {out : List DRun} (g : h.Good B) (k : Asc h b n out) {i : Nat} (hi : i < out.length) : lastQ h out i ≤ ((out.getD i dr0).iv h).lo := by
  unfold lastQ
  split
  · exact (range_in_one g (k.ok i hi)).1
  · rename_i h0
    have h1 := k.asc (i - 1) (by omega)
    rw [show i - 1 + 1 = i by omega] at h1
    exact h1
theorem lastQ_one {h : HM} {B b n : Nat} {out : List DRun} (g : h.Good B) (k : Asc h b n out) {i : Nat} (hi : i ≤ out.length) : lastQ h out i ≤ 1 := by
  unfold lastQ
  split
  · decide
  · have h1 := (range_in_one g (k.ok (i - 1) (by omega))).2
    have e : Span.one.lo + Span.one.len = 1 := by decide +kernel
    rw [e] at h1
    exact h1
theorem law_SampleIsInOrder {L : List Int} {cs cy m : Int} (nL : L.length ≤ 9223372036854775807) : FSpec P F.law40_SampleIsInOrder [.ag [.d (dI cs), .d (dI cy), .d (ints L)], .d (dI m)] (.d (dB true)) := by
  have hg : (chainHM L cs cy 2).Good 1 := chainHM_good L cs cy (by decide)
  have wr := within_range (v := m) (m := 7) (by decide)
  obtain ⟨b, eb⟩ : ∃ b : Nat, within m 7 = (b : Int) := ⟨(within m 7).toNat, by omega⟩
  have hasc := allF_asc (b := b) hg (2 ^ b) (Nat.le_refl _)
  have hp : 2 ^ b ≤ 2 ^ 10 := Nat.pow_le_pow_right (by decide) (by omega)
  have hp : 2 ^ b ≤ 1024 := hp
  have hal := allF_len (chainHM L cs cy 2) b (2 ^ b)
  have hal2 : (allF (chainHM L cs cy 2) b (2 ^ b)).length ≤ 1024 := Nat.le_trans hal hp
  refine FSpec.intro fn.law40_SampleIsInOrder (by rfl) (by rfl) (Nat.le_of_ble_eq_true (by rfl)) fun E hE => ?_
  refine AW.seq ?_
  refine AW.region (by rw [hE]; rfl) ?_
  first | refine bxA rfl rfl fun b2 => ?_ | refine bxD rfl rfl fun b2 => ?_
  refine asD rfl ?_
  refine OL.nil ?_
  refine AW.seq ?_
  refine AW.region (by rw [hE]; rfl) ?_
  first | refine ldPA ag.Chain rfl rfl (vs := [_, _, _]) rfl (Nat.le_of_ble_eq_true rfl) ?_ | refine ldRA ag.Chain rfl (vs := [_, _, _]) rfl (Nat.le_of_ble_eq_true rfl) ?_
  refine clv rfl (.cons (VLe.refl _) (.cons (VLe.refl _) (.nil))) (chain_Hidden (by decide) nL) ?_
  refine al z.Hidden rfl fun b5 => ?_
  first | refine sto sz.Hidden rfl rfl rfl rfl rfl (Nat.le_of_ble_eq_true rfl) (cells2 := [_, _, _, _, _, _, _, _, _, _, _]) rfl ?_ | refine stE sz.Hidden rfl (VC.d _).vd rfl rfl (by omega) rfl ?_
  refine OL.nil ?_
  refine AW.seq ?_
  refine AW.region_draw 1 [0, 1, 2, 3, 4, 5, 6, 7, 8] order_free (by rw [hE]; rfl) (by kernel_rfl) (OI.of_OL (os := [_, _, _, _, _, _, _, _, _]) rfl ?_)
  first | refine ldPA ag.Hidden rfl rfl (vs := [_, _, _, _, _, _, _, _, _, _, _]) rfl (Nat.le_of_ble_eq_true rfl) ?_ | refine ldRA ag.Hidden rfl (vs := [_, _, _, _, _, _, _, _, _, _, _]) rfl (Nat.le_of_ble_eq_true rfl) ?_
  refine mvD rfl ?_
  refine clv rfl (.cons (VLe.refl _) (.cons (VLe.refl _) (.nil))) (world_Within (by decide)) ?_
  rw [eb]
  refine clv rfl (.cons (VLe.refl _) (.cons (VLe.refl _) (.nil))) (sample_All hg (by omega)) ?_
  first | refine mvD rfl ?_ | refine mvT rfl ?_ | refine mvP rfl ?_ | refine mvR rfl ?_ | refine mvE rfl ?_ | refine mvF rfl ?_ | refine mvA rfl ?_ | refine mvO rfl ?_ | refine mvM rfl ?_ | refine mvJ rfl ?_
  refine ex rfl rfl ?_
  refine ex rfl rfl ?_
  first | refine asD rfl ?_ | refine asO rfl ?_ | refine asM rfl ?_
  refine asD rfl ?_
  refine OL.nil ?_
  refine AW.seq ?_
  refine AW.seq ?_
  refine AW.region (by rw [hE]; rfl) ?_
  refine mvD rfl ?_
  refine c_neq rfl rfl (c := false) (by first | exact decide_eq_true (by omega) | exact decide_eq_false (by omega) | exact cne_f (by omega) | exact cne_t (by omega) | rfl) ?_
  refine OL.nil ?_
  refine AW.cond rfl (fun hno => absurd hno (by decide)) (fun _ => ?_)
  refine AW.skip ?_
  refine AW.seq ?_
  refine AW.region (by rw [hE]; rfl) ?_
  refine bd z.Rat pl.Rat (cs := [_, _, _]) rfl ?_
  refine al z.Rat rfl fun b8 => ?_
  first | refine sto sz.Rat rfl rfl rfl rfl rfl (Nat.le_of_ble_eq_true rfl) (cells2 := [_, _, _]) rfl ?_ | refine stE sz.Rat rfl (VC.d _).vd rfl rfl (by omega) rfl ?_
  refine OL.nil ?_
  refine AW.seq ?_
  refine AW.seq ?_
  refine AW.region (by rw [hE]; rfl) ?_
  refine asD rfl ?_
  refine OL.nil ?_
  refine AW.block ?_
  refine AW.boxW 8 (cellsQ 0) rfl vles_q ?_
  refine AW.whileK (α := Nat) [(5, _), (6, _), (8, _)] [(5, _)] (fun i => [(9, .d (dI i))]) (fun i => [(8, .box b8 T.Rat (cellsQ (lastQ (chainHM L cs cy 2) (allF (chainHM L cs cy 2) b (2 ^ b)) i)))]) (fun i => i ≤ (allF (chainHM L cs cy 2) b (2 ^ b)).length) (fun i => (allF (chainHM L cs cy 2) b (2 ^ b)).length - i) 0 (.cons (by first | exact knD rfl | exact knA rfl | exact knP rfl | exact knO rfl | exact knM rfl | exact knE rfl | exact knR rfl | exact knF rfl | exact knT rfl | exact knJ) (.cons (by first | exact knD rfl | exact knA rfl | exact knP rfl | exact knO rfl | exact knM rfl | exact knE rfl | exact knR rfl | exact knF rfl | exact knT rfl | exact knJ) (.cons (by first | exact knD rfl | exact knA rfl | exact knP rfl | exact knO rfl | exact knM rfl | exact knE rfl | exact knR rfl | exact knF rfl | exact knT rfl | exact knJ) .nil))) (.cons (by first | exact owB rfl | exact owR rfl) .nil) ⟨Nat.zero_le _, .cons (by first | exact VLe.refl _ | exact VLe.int (by omega) | exact VLe.mt | exact vle_q0 | exact VLe.osl | exact VLe.ptr) .nil, .cons rfl .nil⟩ ?_
  intro i h1
  have h1 : i ≤ (allF (chainHM L cs cy 2) b (2 ^ b)).length := h1
  have zl := lastQ_sz hg.form hasc h1
  refine AW.seq ?_
  refine AW.seq ?_
  refine AW.region (by rw [hE]; rfl) ?_
  refine mvD rfl ?_
  first | refine mvD rfl ?_ | refine mvO rfl ?_ | refine mvM rfl ?_
  first | refine lnL sl.Drawns rfl rfl ?_ | refine lnO sl.Drawns rfl rfl ?_ | refine lnM sl.Drawns rfl rfl ?_ | refine lnD sl.Drawns rfl rfl rfl ?_
  refine c_lss rfl rfl rfl ?_
  refine OL.nil ?_
  refine AW.cond rfl (fun h27 => ?_) (fun h27 => ?_)
  · first | (simp only [decide_eq_true_eq, decide_eq_false_iff_not, Bool.not_eq_true', Bool.not_eq_false', Bool.not_not, Bool.and_eq_true, Bool.and_eq_false_iff, Bool.or_eq_true, Bool.or_eq_false_iff] at h27) | skip
    refine AW.skip ?_
    refine AW.seq ?_
    refine AW.block ?_
    refine AW.seq ?_
    have hk := hasc.ok i (by omega)
    have so := range_ok hg.form hk
    have s1 := so.lo
    have hle := lastQ_le hg hasc (i := i) (by omega)
    refine AW.region_draw 1 [0, 1, 2, 3, 4, 5, 6, 7, 8, 9, 10, 11, 12, 13, 14, 15, 16, 17] order_free (by rw [hE]; rfl) (by kernel_rfl) (OI.of_OL (os := [_, _, _, _, _, _, _, _, _, _, _, _, _, _, _, _, _, _]) rfl ?_)
    first | refine ldPA ag.Hidden rfl rfl (vs := [_, _, _, _, _, _, _, _, _, _, _]) rfl (Nat.le_of_ble_eq_true rfl) ?_ | refine ldRA ag.Hidden rfl (vs := [_, _, _, _, _, _, _, _, _, _, _]) rfl (Nat.le_of_ble_eq_true rfl) ?_
    first | refine mvD rfl ?_ | refine mvO rfl ?_ | refine mvM rfl ?_
    refine mvD rfl ?_
    refine ixLn sl.Drawns dr0 rfl rfl (by omega) rfl rfl ?_
    first | refine faP fd.Drawn_0 rfl rfl ?_ | refine faR fd.Drawn_0 rfl rfl ?_ | refine faE fd.Drawn_0 rfl rfl ?_
    first | refine ldRC ce.ints rfl ?_ | refine ldPC ce.ints rfl rfl rfl ?_
    first | refine mvD rfl ?_ | refine mvO rfl ?_ | refine mvM rfl ?_
    refine mvD rfl ?_
    refine ixLn sl.Drawns dr0 rfl rfl (by omega) rfl rfl ?_
    first | refine faP fd.Drawn_1 rfl rfl ?_ | refine faR fd.Drawn_1 rfl rfl ?_ | refine faE fd.Drawn_1 rfl rfl ?_
    first | refine ldRC ce.ints rfl ?_ | refine ldPC ce.ints rfl rfl rfl ?_
    refine clv rfl (.cons (VLe.refl _) (.cons (VLe.refl _) (.cons (VLe.refl _) (.nil)))) (sample_Range hg hk) ?_
    first | refine mvD rfl ?_ | refine mvT rfl ?_ | refine mvP rfl ?_ | refine mvR rfl ?_ | refine mvE rfl ?_ | refine mvF rfl ?_ | refine mvA rfl ?_ | refine mvO rfl ?_ | refine mvM rfl ?_ | refine mvJ rfl ?_
    refine ex rfl rfl ?_
    refine ex rfl rfl ?_
    refine al z.Interval rfl fun b10 => ?_
    first | refine sto sz.Interval rfl rfl rfl rfl rfl (Nat.le_of_ble_eq_true rfl) (cells2 := [_, _, _, _, _, _]) rfl ?_ | refine stE sz.Interval rfl (VC.d _).vd rfl rfl (by omega) rfl ?_
    refine asD rfl ?_
    refine OL.nil ?_
    refine AW.seq ?_
    refine AW.seq ?_
    refine AW.region (by rw [hE]; rfl) ?_
    refine mvD rfl ?_
    refine c_neq rfl rfl (c := false) (by first | exact decide_eq_true (by omega) | exact decide_eq_false (by omega) | exact cne_f (by omega) | exact cne_t (by omega) | rfl) ?_
    refine mvD rfl ?_
    refine OL.yes rfl ?_
    first | refine ldPA ag.Rat rfl rfl (vs := [_, _, _]) rfl (Nat.le_of_ble_eq_true rfl) ?_ | refine ldRA ag.Rat rfl (vs := [_, _, _]) rfl (Nat.le_of_ble_eq_true rfl) ?_
    refine OL.yes rfl ?_
    first | refine faP fd.Interval_0 rfl rfl ?_ | refine faR fd.Interval_0 rfl rfl ?_ | refine faE fd.Interval_0 rfl rfl ?_
    refine OL.yes rfl ?_
    first | refine ldPA ag.Rat rfl rfl (vs := [_, _, _]) rfl (Nat.le_of_ble_eq_true rfl) ?_ | refine ldRA ag.Rat rfl (vs := [_, _, _]) rfl (Nat.le_of_ble_eq_true rfl) ?_
    refine OL.yes rfl ?_
    refine clv rfl (.cons (VLe.refl _) (.cons (VLe.refl _) (.nil))) (ref_CompareQ (x := (lastQ (chainHM L cs cy 2) (allF (chainHM L cs cy 2) b (2 ^ b)) i)) (y := (rangeS (chainHM L cs cy 2) ((allF (chainHM L cs cy 2) b (2 ^ b)).getD i dr0).st ((allF (chainHM L cs cy 2) b (2 ^ b)).getD i dr0).w).lo) (by omega) (by omega)) ?_
    refine OL.yes rfl ?_
    refine c_gtr rfl rfl (c := false) (decide_eq_false fun e => absurd (cmpQ_gt.1 e) (Rat.not_lt.2 hle)) ?_
    refine pkF rfl rfl ?_
    refine OL.nil ?_
    refine AW.cond rfl (fun hno => absurd hno (by decide)) (fun _ => ?_)
    refine AW.skip ?_
    refine AW.region (by rw [hE]; rfl) ?_
    first | refine faP fd.Interval_1 rfl rfl ?_ | refine faR fd.Interval_1 rfl rfl ?_ | refine faE fd.Interval_1 rfl rfl ?_
    first | refine ldPA ag.Rat rfl rfl (vs := [_, _, _]) rfl (Nat.le_of_ble_eq_true rfl) ?_ | refine ldRA ag.Rat rfl (vs := [_, _, _]) rfl (Nat.le_of_ble_eq_true rfl) ?_
    first | refine sto sz.Rat rfl rfl rfl rfl rfl (Nat.le_of_ble_eq_true rfl) (cells2 := [_, _, _]) rfl ?_ | refine stE sz.Rat rfl (VC.d _).vd rfl rfl (by omega) rfl ?_
    refine OL.nil ?_
    refine AW.region (by rw [hE]; rfl) ?_
    refine mvD rfl ?_
    refine add_i64 rfl rfl (by omega) ?_
    refine asD rfl ?_
    refine OL.nil ?_
    exact AW.again (x := i) (i + 1) (by first | omega | (simp only []; omega)) ⟨by omega, Knows.app (.cons (VLe.refl _) (.cons (VLe.refl _) (.cons (VLe.refl _) .nil))) (.cons (by first | exact VLe.refl _ | exact VLe.int (by omega) | exact VLe.mt | exact vle_q0 | exact VLe.osl | exact VLe.ptr) .nil), Owns.app (.cons rfl .nil) (.cons (by rw [lastQ_succ]; rfl) .nil)⟩
  · first | (simp only [decide_eq_true_eq, decide_eq_false_iff_not, Bool.not_eq_true', Bool.not_eq_false', Bool.not_not, Bool.and_eq_true, Bool.and_eq_false_iff, Bool.or_eq_true, Bool.or_eq_false_iff] at h27) | skip
    refine AW.exit ?_
    refine AW.seq ?_
    have h11 := lastQ_one hg hasc h1
    have z1 : sz 1 ≤ 68719476736 := z1K
    refine AW.region_draw 1 [0, 1, 2, 3, 4, 5, 6, 7] order_free (by rw [hE]; rfl) (by kernel_rfl) (OI.of_OL (os := [_, _, _, _, _, _, _, _]) rfl ?_)
    refine clv rfl .nil law40_known ?_
    refine mvD rfl ?_
    refine OL.yes rfl ?_
    first | refine ldPA ag.Rat rfl rfl (vs := [_, _, _]) rfl (Nat.le_of_ble_eq_true rfl) ?_ | refine ldRA ag.Rat rfl (vs := [_, _, _]) rfl (Nat.le_of_ble_eq_true rfl) ?_
    refine OL.yes rfl ?_
    refine clv rfl (.cons (VLe.refl _) .nil) ref33_Whole1 ?_
    refine OL.yes rfl ?_
    refine clv rfl (.cons (VLe.refl _) (.cons (VLe.refl _) (.nil))) (ref_CompareQ (x := (lastQ (chainHM L cs cy 2) (allF (chainHM L cs cy 2) b (2 ^ b)) i)) (y := 1) (by omega) z1) ?_
    refine OL.yes rfl ?_
    refine c_leq rfl rfl (c := true) (decide_eq_true (cmpQ_le.2 h11)) ?_
    refine pkT rfl rfl ?_
    refine asD rfl ?_
    refine OL.nil ?_
    exact AW.ret (RetQ.r ⟨_, .tmp rfl .nil, .le (by first | exact VLe.refl _ | exact VLe.mt | exact vle_q0 | exact VLe.int (by omega) | exact VLe.bool (by simp_all))⟩)
end Go.Proofs.YtcebciggodhmcaaGreat

/-
  Walks for chapter 39, part 10: data out of plain numbers; the statement on the bounds (printed by mk2.py).
-/
import Derived.Test.YtoohdcpikkkanaaGreatKAsI
import Derived.Test.YtoohdcpikkkanaaGreatKMod39g
set_option linter.unusedVariables false
set_option linter.unusedSimpArgs false
namespace Go.Proofs.YtoohdcpikkkanaaGreat
open Go Go.AL
set_option maxRecDepth 4000 in
set_option maxHeartbeats 1600000 in
theorem world_Data {L : List Int} {sym most : Nat} (hs : 1 ≤ sym ∧ sym ≤ 1000) (hm : 1 ≤ most ∧ most ≤ 1000) (nL : L.length ≤ 9223372036854775807) : FSpec P F.world_Data [.d (ints L), .d (dI sym), .d (dI most)] (.d (dIss (dataF L sym most))) := by
  have hN := dataN_eq (L := L) hm.1
  refine FSpec.intro fn.world_Data (by rfl) (by rfl) (Nat.le_of_ble_eq_true (by rfl)) fun E hE => ?_
  refine AW.seq ?_
  refine AW.region (by rw [hE]; rfl) ?_
  refine asM rfl ?_
  refine OL.nil ?_
  refine AW.seq ?_
  refine AW.region (by rw [hE]; rfl) ?_
  refine mvD rfl ?_
  refine bd z.Tape pl.Tape (cs := [_, _]) rfl ?_
  refine bxA rfl rfl fun b14 => ?_
  refine asP rfl ?_
  refine OL.nil ?_
  refine AW.seq ?_
  refine AW.rename 14 1000 rfl ?_
  refine AW.region (by rw [hE]; rfl) ?_
  refine asM rfl ?_
  refine OL.nil ?_
  refine AW.seq ?_
  refine AW.seq ?_
  refine AW.region (by rw [hE]; rfl) ?_
  refine mvP rfl ?_
  refine mvD rfl ?_
  refine OL.callM (v := .d (dI (tnext L 0 most))) (.mk (args' := [.ptr 1000 b14 0, .d (dI most)]) rfl (.cons (by first | exact VLe.refl _ | exact VLe.ptr) (.cons (by first | exact VLe.refl _ | exact VLe.ptr) (.nil))) (mem1_keep (id := 1000) (blk := tapeB b14 L 0) rfl) mem1_sub (tape_Next (by omega) nL)) ?_
  refine bo rfl rfl (bin_add (c := ((dataN L most : Nat) : Int)) (by omega) (wrap_i64 (by omega))) ?_
  refine asD rfl ?_
  refine OL.nil ?_
  refine AW.block ?_
  refine AW.own 8 39 T.ints 1 rfl rfl ?_
  refine AW.whileK (α := Nat × Nat × Nat) [(1, _), (6, _), (7, _)] [] (fun (m, b, c) => [(8, .osl 39 b m c), (9, .d (dI ((dataN L most : Int) - (m : Int))))]) (fun (m, b, c) => [(39, .row b c T.ints 1 ((dtF L sym m (tat L 0)).1.map ints)), (1000, tapeB b14 L (dtF L sym m (tat L 0)).2)]) (fun (m, b, c) => m ≤ dataN L most) (fun (m, b, c) => dataN L most - m) (0, 0, 0) (by repeat (first | exact Knows.nil | refine Knows.cons (by first | exact knD rfl | exact knA rfl | exact knP rfl | exact knO rfl | exact knM rfl | exact knE rfl | exact knR rfl | exact knF rfl | exact knT rfl | exact knJ) ?_)) .nil ⟨Nat.zero_le _, .cons (by first | exact VLe.refl _ | exact VLe.int (by omega) | exact VLe.mt | exact vle_q0 | exact VLe.osl | exact VLe.ptr) (.cons (VLe.int (by simp)) .nil), .cons rfl (.cons rfl .nil)⟩ ?_
  rintro ⟨m, b, c⟩ h1
  have h1 : m ≤ dataN L most := h1
  have hdl : (dtF L sym m (tat L 0)).1.length = m := dtF_len ..
  have hwn := wordN_le (L := L) (dtF L sym m (tat L 0)).2
  refine AW.seq ?_
  refine AW.seq ?_
  refine AW.region (by rw [hE]; rfl) ?_
  refine mvD rfl ?_
  refine c_gtr rfl rfl rfl ?_
  refine OL.nil ?_
  refine AW.cond rfl (fun h20 => ?_) (fun h20 => ?_)
  · first | (simp only [decide_eq_true_eq, decide_eq_false_iff_not, Bool.not_eq_true', Bool.not_eq_false', Bool.not_not, Bool.and_eq_true, Bool.and_eq_false_iff, Bool.or_eq_true, Bool.or_eq_false_iff] at h20) | skip
    refine AW.skip ?_
    refine AW.seq ?_
    refine AW.block ?_
    refine AW.seq ?_
    refine AW.region (by rw [hE]; rfl) ?_
    refine asM rfl ?_
    refine OL.nil ?_
    refine AW.seq ?_
    refine AW.seq ?_
    refine AW.region (by rw [hE]; rfl) ?_
    refine mvP rfl ?_
    refine OL.callM (v := .d (dI (tnext L (dtF L sym m (tat L 0)).2 5))) (.mk (args' := [.ptr 1000 b14 0, .d (dI 5)]) rfl (.cons (by first | exact VLe.refl _ | exact VLe.ptr) (.cons (by first | exact VLe.refl _ | exact VLe.ptr) (.nil))) (mem1_keep (id := 1000) (blk := tapeB b14 L (dtF L sym m (tat L 0)).2) rfl) mem1_sub (tape_Next (by decide) nL)) ?_
    rw [← hwn.1]
    refine asD rfl ?_
    refine OL.nil ?_
    refine AW.block ?_
    refine AW.own 10 35 T.int 1 rfl rfl ?_
    refine AW.whileK (α := Nat × Nat × Nat) [(1, _), (6, _), (7, _), (8, _), (9, _)] [(39, _)] (fun (k, bw, cw) => [(10, .osl 35 bw k cw), (11, .d (dI (((wordN L (dtF L sym m (tat L 0)).2) : Int) - (k : Int))))]) (fun (k, bw, cw) => [(35, .row bw cw T.int 1 ((wdF L sym k (tat L (dtF L sym m (tat L 0)).2)).1.map dI)), (1000, tapeB b14 L (wdF L sym k (tat L (dtF L sym m (tat L 0)).2)).2)]) (fun (k, bw, cw) => k ≤ (wordN L (dtF L sym m (tat L 0)).2)) (fun (k, bw, cw) => (wordN L (dtF L sym m (tat L 0)).2) - k) (0, 0, 0) (by repeat (first | exact Knows.nil | refine Knows.cons (by first | exact knD rfl | exact knA rfl | exact knP rfl | exact knO rfl | exact knM rfl | exact knE rfl | exact knR rfl | exact knF rfl | exact knT rfl | exact knJ) ?_)) (.cons (by first | exact owB rfl | exact owR rfl | exact owL rfl | exact owT rfl) .nil) ⟨Nat.zero_le _, .cons (by first | exact VLe.refl _ | exact VLe.int (by omega) | exact VLe.mt | exact vle_q0 | exact VLe.osl | exact VLe.ptr) (.cons (VLe.int (by simp)) .nil), .cons rfl (.cons rfl .nil)⟩ ?_
    rintro ⟨k, bw, cw⟩ h2
    have h2 : k ≤ (wordN L (dtF L sym m (tat L 0)).2) := h2
    have hwl : (wdF L sym k (tat L (dtF L sym m (tat L 0)).2)).1.length = k := wdF_len ..
    have htr := tnext_range (L := L) (a := (wdF L sym k (tat L (dtF L sym m (tat L 0)).2)).2) (m := (sym : Int)) (by omega)
    refine AW.seq ?_
    refine AW.seq ?_
    refine AW.region (by rw [hE]; rfl) ?_
    refine mvD rfl ?_
    refine c_gtr rfl rfl rfl ?_
    refine OL.nil ?_
    refine AW.cond rfl (fun h26 => ?_) (fun h26 => ?_)
    · first | (simp only [decide_eq_true_eq, decide_eq_false_iff_not, Bool.not_eq_true', Bool.not_eq_false', Bool.not_not, Bool.and_eq_true, Bool.and_eq_false_iff, Bool.or_eq_true, Bool.or_eq_false_iff] at h26) | skip
      refine AW.skip ?_
      refine AW.seq ?_
      refine AW.block ?_
      refine AW.region (by rw [hE]; rfl) ?_
      refine mvO rfl ?_
      refine mvP rfl ?_
      refine mvD rfl ?_
      refine OL.callM (v := .d (dI (tnext L (wdF L sym k (tat L (dtF L sym m (tat L 0)).2)).2 sym))) (.mk (args' := [.ptr 1000 b14 0, .d (dI sym)]) rfl (.cons (by first | exact VLe.refl _ | exact VLe.ptr) (.cons (by first | exact VLe.refl _ | exact VLe.ptr) (.nil))) (mem1_keep (id := 1000) (blk := tapeB b14 L (wdF L sym k (tat L (dtF L sym m (tat L 0)).2)).2) rfl) mem1_sub (tape_Next (by omega) nL)) ?_
      refine add_i64 rfl rfl (by omega) ?_
      refine lt1 sl.ints (VC.d _).vd rfl (by decide) ?_
      refine apO sl.ints rfl rfl rfl (by rw [List.length_map, hwl]) (VC.d _) (by simp [D.cells]) (by simp; omega) (by simp; omega) (.inr rfl) (ys := (wdF L sym (k + 1) (tat L (dtF L sym m (tat L 0)).2)).1.map dI) (by simp [wdF]) (n2 := k + 1) (by simp) fun b3 c3 => ?_
      refine asO rfl ?_
      refine OL.nil ?_
      refine AW.region (by rw [hE]; rfl) ?_
      refine mvD rfl ?_
      refine sub_i64 rfl rfl (by omega) ?_
      refine asD rfl ?_
      refine OL.nil ?_
      exact AW.again (x := (k, bw, cw)) (k + 1, b3, c3) (by first | omega | (simp only []; omega)) ⟨by omega, Knows.app (.cons (VLe.refl _) (.cons (VLe.refl _) (.cons (VLe.refl _) (.cons (VLe.refl _) (.cons (VLe.refl _) .nil))))) (.cons (by first | exact VLe.refl _ | exact VLe.int (by omega) | exact VLe.mt | exact vle_q0 | exact VLe.osl | exact VLe.ptr) (.cons (VLe.int (by omega)) .nil)), Owns.app (.cons rfl .nil) (.cons rfl (.cons rfl .nil))⟩
    · first | (simp only [decide_eq_true_eq, decide_eq_false_iff_not, Bool.not_eq_true', Bool.not_eq_false', Bool.not_not, Bool.and_eq_true, Bool.and_eq_false_iff, Bool.or_eq_true, Bool.or_eq_false_iff] at h26) | skip
      refine AW.exit ?_
      obtain rfl : k = (wordN L (dtF L sym m (tat L 0)).2) := by omega
      refine AW.freeze 35 rfl ?_
      refine AW.to [(1, .d (dI sym)), (6, .mt), (7, .ptr 14 b14 0), (8, .osl 39 b m c), (9, .d (dI ((dataN L most : Int) - (m : Int)))), (10, .d (ints (wdF L sym (wordN L (dtF L sym m (tat L 0)).2) (tat L (dtF L sym m (tat L 0)).2)).1))] [(39, .row b c T.ints 1 ((dtF L sym m (tat L 0)).1.map ints)), (1000, tapeB b14 L (wdF L sym (wordN L (dtF L sym m (tat L 0)).2) (tat L (dtF L sym m (tat L 0)).2)).2)] (.cons (VLe.refl _) (.cons (VLe.refl _) (.cons (VLe.refl _) (.cons (VLe.refl _) (.cons (VLe.refl _) (.cons (frz_osl (by rw [List.length_map, hwl]) rfl) .nil)))))) (.cons rfl (.cons rfl .nil)) ?_
      refine AW.region (by rw [hE]; rfl) ?_
      refine mvO rfl ?_
      refine mvD rfl ?_
      refine lt1 sl.intss (VC.d _).vd rfl (by decide) ?_
      refine apO sl.intss rfl rfl rfl (by rw [List.length_map, hdl]) (VC.d _) (by simp [D.cells]) (by simp; omega) (by simp; omega) (.inr rfl) (ys := (dtF L sym (m + 1) (tat L 0)).1.map ints) (by simp [dtF]) (n2 := m + 1) (by simp) fun b2 c2 => ?_
      refine asO rfl ?_
      refine OL.nil ?_
      refine AW.region (by rw [hE]; rfl) ?_
      refine mvD rfl ?_
      refine sub_i64 rfl rfl (by omega) ?_
      refine asD rfl ?_
      refine OL.nil ?_
      exact AW.again (x := (m, b, c)) (m + 1, b2, c2) (by first | omega | (simp only []; omega)) ⟨by omega, Knows.app (.cons (VLe.refl _) (.cons (VLe.refl _) (.cons (VLe.refl _) .nil))) (.cons (by first | exact VLe.refl _ | exact VLe.int (by omega) | exact VLe.mt | exact vle_q0 | exact VLe.osl | exact VLe.ptr) (.cons (VLe.int (by omega)) .nil)), .cons rfl (.cons rfl .nil)⟩
  · first | (simp only [decide_eq_true_eq, decide_eq_false_iff_not, Bool.not_eq_true', Bool.not_eq_false', Bool.not_not, Bool.and_eq_true, Bool.and_eq_false_iff, Bool.or_eq_true, Bool.or_eq_false_iff] at h20) | skip
    refine AW.exit ?_
    refine AW.seq ?_
    obtain rfl : m = dataN L most := by omega
    refine AW.freeze 39 rfl (AW.to [(8, .d (dIss (dataF L sym most)))] [] (.cons (frz_osl (by rw [List.length_map, hdl]) rfl) .nil) .nil ?_)
    refine AW.region (by rw [hE]; rfl) ?_
    refine mvD rfl ?_
    refine asD rfl ?_
    refine OL.nil ?_
    exact AW.ret (RetQ.r ⟨_, .tmp rfl .nil, .le (by first | exact VLe.refl _ | exact VLe.mt | exact vle_q0 | exact VLe.int (by omega) | exact VLe.bool (by simp_all))⟩)
set_option maxRecDepth 6000 in
set_option maxHeartbeats 3200000 in
theorem law_AscentEncloses {L l : List Int} {cs cy bt : Int} (nL : L.length ≤ 9223372036854775807) (nl : l.length ≤ 9223372036854775807) : FSpec P F.law39_AscentEncloses [.ag [.d (dI cs), .d (dI cy), .d (ints L)], .d (ints l), .d (dI bt)] (.d (dB true)) := by
  obtain ⟨h, hh⟩ : ∃ h, h = chainHM L cs cy 3 := ⟨_, rfl⟩
  have hg : h.Good 1 := by rw [hh]; exact chainHM_good L cs cy (by decide)
  have hst : (h.st : Int) ≤ 3 := by rw [hh]; exact chainHM_st L cs cy (by decide)
  have hsy : h.sym ≤ 12 := by rw [hh]; exact chain_sym9 ..
  have f := hg.form
  have s0 := f.sym0
  obtain ⟨X, hX⟩ : ∃ X, X = dataF l h.sym 3 := ⟨_, rfl⟩
  have k5 : DataOK h X := by rw [hX]; exact data_ok s0 (by omega) (by decide)
  have wg := within_range (v := bt) (m := 60) (by omega)
  obtain ⟨K, eK⟩ : ∃ K : Nat, 8 + within bt 60 = (K : Int) := ⟨(8 + within bt 60).toNat, by omega⟩
  have hK : 8 ≤ K ∧ K ≤ 256 := by omega
  have hK2 : 8 ≤ K + 20 ∧ K + 20 ≤ 256 := by omega
  have bd1 := (enc_below hg (below_dn K) X X.length).2
  have bd2 := (enc_below hg (below_up K) X X.length).2
  have bd3 := (enc_below hg (below_dn2 K 20) X X.length).2
  have bd4 := (enc_below hg (below_up2 K 20) X X.length).2
  rw [enc_id] at bd1 bd2
  have k1 := k5.len
  have y1 := enc_sz f k5 (rnd_dn hK.2) X.length (Nat.le_refl _)
  have y2 := enc_sz f k5 (rnd_up hK.2) X.length (Nat.le_refl _)
  have y3 := enc_sz f k5 (rnd_dn hK2.2) X.length (Nat.le_refl _)
  have y4 := enc_sz f k5 (rnd_up hK2.2) X.length (Nat.le_refl _)
  have y5 := lk_sz f k5 X.length (Nat.le_refl _)
  refine FSpec.intro fn.law39_AscentEncloses (by rfl) (by rfl) (Nat.le_of_ble_eq_true (by rfl)) fun E hE => ?_
  refine AW.seq ?_
  refine AW.region (by rw [hE]; rfl) ?_
  refine bxA rfl rfl fun b3 => ?_
  refine asD rfl ?_
  refine OL.nil ?_
  refine AW.seq ?_
  refine AW.region (by rw [hE]; rfl) ?_
  refine ldPA ag.Chain rfl rfl (vs := [_, _, _]) rfl (Nat.le_of_ble_eq_true rfl) ?_
  refine clv rfl (.cons (VLe.refl _) (.cons (VLe.refl _) (.nil))) (chain_Hidden (by decide) nL) ?_
  rw [← hh]
  refine al z.Hidden rfl fun b7 => ?_
  refine sto sz.Hidden rfl rfl rfl rfl rfl (Nat.le_of_ble_eq_true rfl) (cells2 := [_, _, _, _, _, _, _, _, _, _, _]) rfl ?_
  refine OL.nil ?_
  refine AW.seq ?_
  refine AW.region (by rw [hE]; rfl) ?_
  refine mvD rfl ?_
  refine faP fd.Hidden_0 rfl rfl ?_
  refine ldPC ce.int rfl rfl rfl ?_
  refine clv rfl (.cons (VLe.refl _) (.cons (VLe.refl _) (.cons (VLe.refl _) (.nil)))) (world_Data (L := l) (sym := h.sym) (most := 3) ⟨s0, by omega⟩ (by decide) nl) ?_
  rw [← hX]
  refine asD rfl ?_
  refine OL.nil ?_
  refine AW.seq ?_
  refine AW.region (by rw [hE]; rfl) ?_
  refine mvD rfl ?_
  refine clv rfl (.cons (VLe.refl _) (.cons (VLe.refl _) (.nil))) (world_Within (v := bt) (m := 60) (by decide)) ?_
  refine add_i64 rfl rfl (by omega) ?_
  rw [eK]
  refine asD rfl ?_
  refine OL.nil ?_
  refine AW.seq ?_
  refine AW.region (by rw [hE]; rfl) ?_
  refine ldPA ag.Hidden rfl rfl (vs := [_, _, _, _, _, _, _, _, _, _, _]) rfl (Nat.le_of_ble_eq_true rfl) ?_
  refine mvD rfl ?_
  refine clv rfl (.cons (VLe.refl _) (.cons (VLe.refl _) (.nil))) (ascent_Likelihood hg k5) ?_
  refine mvT rfl ?_
  refine ex rfl rfl ?_
  refine ex rfl rfl ?_
  refine al z.Rat rfl fun b10 => ?_
  refine sto sz.Rat rfl rfl rfl rfl rfl (Nat.le_of_ble_eq_true rfl) (cells2 := [_, _, _]) rfl ?_
  refine asD rfl ?_
  refine OL.nil ?_
  refine AW.seq ?_
  refine AW.region (by rw [hE]; rfl) ?_
  refine ldPA ag.Hidden rfl rfl (vs := [_, _, _, _, _, _, _, _, _, _, _]) rfl (Nat.le_of_ble_eq_true rfl) ?_
  refine mvD rfl ?_
  refine mvD rfl ?_
  refine clv rfl (.cons (VLe.refl _) (.cons (VLe.refl _) (.cons (VLe.refl _) (.nil)))) (ascent_Enclose hg k5 hK) ?_
  refine mvT rfl ?_
  refine ex rfl rfl ?_
  refine ex rfl rfl ?_
  refine al z.Interval rfl fun b12 => ?_
  refine sto sz.Interval rfl rfl rfl rfl rfl (Nat.le_of_ble_eq_true rfl) (cells2 := [_, _, _, _, _, _]) rfl ?_
  refine asD rfl ?_
  refine OL.nil ?_
  refine AW.seq ?_
  refine AW.region (by rw [hE]; rfl) ?_
  refine ldPA ag.Hidden rfl rfl (vs := [_, _, _, _, _, _, _, _, _, _, _]) rfl (Nat.le_of_ble_eq_true rfl) ?_
  refine mvD rfl ?_
  refine mvD rfl ?_
  refine bo rfl rfl (bin_add (c := ((K + 20 : Nat) : Int)) (by omega) (wrap_i64 (by omega))) ?_
  refine clv rfl (.cons (VLe.refl _) (.cons (VLe.refl _) (.cons (VLe.refl _) (.nil)))) (ascent_Enclose hg k5 hK2) ?_
  refine mvT rfl ?_
  refine ex rfl rfl ?_
  refine ex rfl rfl ?_
  refine al z.Interval rfl fun b14 => ?_
  refine sto sz.Interval rfl rfl rfl rfl rfl (Nat.le_of_ble_eq_true rfl) (cells2 := [_, _, _, _, _, _]) rfl ?_
  refine asD rfl ?_
  refine OL.nil ?_
  refine AW.seq ?_
  refine AW.region (by rw [hE]; rfl) ?_
  refine clv rfl .nil law39_known ?_
  refine mvD rfl ?_
  refine OL.yes rfl ?_
  refine mvD rfl ?_
  refine OL.yes rfl ?_
  refine c_eql rfl rfl (c := true) (by first | exact decide_eq_true (by omega) | exact decide_eq_false (by omega) | exact cne_f (by omega) | exact cne_t (by omega) | rfl) ?_
  refine pkT rfl rfl ?_
  refine mvD rfl ?_
  refine OL.yes rfl ?_
  refine mvD rfl ?_
  refine OL.yes rfl ?_
  refine c_eql rfl rfl (c := true) (by first | exact decide_eq_true (by omega) | exact decide_eq_false (by omega) | exact cne_f (by omega) | exact cne_t (by omega) | rfl) ?_
  refine pkT rfl rfl ?_
  refine mvD rfl ?_
  refine OL.yes rfl ?_
  refine mvD rfl ?_
  refine OL.yes rfl ?_
  refine c_eql rfl rfl (c := true) (by first | exact decide_eq_true (by omega) | exact decide_eq_false (by omega) | exact cne_f (by omega) | exact cne_t (by omega) | rfl) ?_
  refine pkT rfl rfl ?_
  refine mvD rfl ?_
  refine OL.yes rfl ?_
  refine faP fd.Interval_0 rfl rfl ?_
  refine OL.yes rfl ?_
  refine ldPA ag.Rat rfl rfl (vs := [_, _, _]) rfl (Nat.le_of_ble_eq_true rfl) ?_
  refine OL.yes rfl ?_
  refine ldPA ag.Rat rfl rfl (vs := [_, _, _]) rfl (Nat.le_of_ble_eq_true rfl) ?_
  refine OL.yes rfl ?_
  refine clv rfl (.cons (VLe.refl _) (.cons (VLe.refl _) (.nil))) (ref_CompareQ (x := (clsN (downQ · K) h X X.length)) (y := (lkN h X X.length)) (by omega) (by omega)) ?_
  refine OL.yes rfl ?_
  refine c_leq rfl rfl (c := true) (decide_eq_true (cmpQ_le.2 bd1)) ?_
  refine pkT rfl rfl ?_
  refine mvD rfl ?_
  refine OL.yes rfl ?_
  refine ldPA ag.Rat rfl rfl (vs := [_, _, _]) rfl (Nat.le_of_ble_eq_true rfl) ?_
  refine OL.yes rfl ?_
  refine faP fd.Interval_1 rfl rfl ?_
  refine OL.yes rfl ?_
  refine ldPA ag.Rat rfl rfl (vs := [_, _, _]) rfl (Nat.le_of_ble_eq_true rfl) ?_
  refine OL.yes rfl ?_
  refine clv rfl (.cons (VLe.refl _) (.cons (VLe.refl _) (.nil))) (ref_CompareQ (x := (lkN h X X.length)) (y := (clsN (upQ · K) h X X.length)) (by omega) (by omega)) ?_
  refine OL.yes rfl ?_
  refine c_leq rfl rfl (c := true) (decide_eq_true (cmpQ_le.2 bd2)) ?_
  refine pkT rfl rfl ?_
  refine mvD rfl ?_
  refine OL.yes rfl ?_
  refine faP fd.Interval_0 rfl rfl ?_
  refine OL.yes rfl ?_
  refine ldPA ag.Rat rfl rfl (vs := [_, _, _]) rfl (Nat.le_of_ble_eq_true rfl) ?_
  refine OL.yes rfl ?_
  refine faP fd.Interval_0 rfl rfl ?_
  refine OL.yes rfl ?_
  refine ldPA ag.Rat rfl rfl (vs := [_, _, _]) rfl (Nat.le_of_ble_eq_true rfl) ?_
  refine OL.yes rfl ?_
  refine clv rfl (.cons (VLe.refl _) (.cons (VLe.refl _) (.nil))) (ref_CompareQ (x := (clsN (downQ · K) h X X.length)) (y := (clsN (downQ · (K + 20)) h X X.length)) (by omega) (by omega)) ?_
  refine OL.yes rfl ?_
  refine c_leq rfl rfl (c := true) (decide_eq_true (cmpQ_le.2 bd3)) ?_
  refine pkT rfl rfl ?_
  refine mvD rfl ?_
  refine OL.yes rfl ?_
  refine faP fd.Interval_1 rfl rfl ?_
  refine OL.yes rfl ?_
  refine ldPA ag.Rat rfl rfl (vs := [_, _, _]) rfl (Nat.le_of_ble_eq_true rfl) ?_
  refine OL.yes rfl ?_
  refine faP fd.Interval_1 rfl rfl ?_
  refine OL.yes rfl ?_
  refine ldPA ag.Rat rfl rfl (vs := [_, _, _]) rfl (Nat.le_of_ble_eq_true rfl) ?_
  refine OL.yes rfl ?_
  refine clv rfl (.cons (VLe.refl _) (.cons (VLe.refl _) (.nil))) (ref_CompareQ (x := (clsN (upQ · (K + 20)) h X X.length)) (y := (clsN (upQ · K) h X X.length)) (by omega) (by omega)) ?_
  refine OL.yes rfl ?_
  refine c_leq rfl rfl (c := true) (decide_eq_true (cmpQ_le.2 bd4)) ?_
  refine pkT rfl rfl ?_
  refine asD rfl ?_
  refine OL.nil ?_
  exact AW.ret (RetQ.r ⟨_, .tmp rfl .nil, .le (by first | exact VLe.refl _ | exact VLe.mt | exact vle_q0 | exact VLe.int (by omega) | exact VLe.bool (by simp_all))⟩)
end Go.Proofs.YtoohdcpikkkanaaGreat

/-
  Walks of drawings, part 3: a drawing whole (printed by mk2.py).
-/
import Derived.Test.YtcebciggodhmcaaGreatSampleB
set_option linter.unusedVariables false
set_option linter.unusedSimpArgs false
namespace Go.Proofs.YtcebciggodhmcaaGreat
open Go Go.AL
theorem vles_span1 : VLes [.d (dB false), .mt, .mt, .d (dB (ofQ 1).neg), .d (u32s (ofQ 1).num), .d (u32s (ofQ 1).den)] (cellsSpan .one) := by
  have e : cellsSpan .one = [.d (dB (ofQ 0).neg), .d (u32s (ofQ 0).num), .d (u32s (ofQ 0).den), .d (dB (ofQ 1).neg), .d (u32s (ofQ 1).num), .d (u32s (ofQ 1).den)] := rfl
  rw [e, ofQ_zero]
  exact .cons (VLe.refl _) (.cons VLe.mt (.cons VLe.mt (VLes.refl _)))
theorem vles_rd {bits : List Int} : VLes [.d (ints bits), .d (.sc (.int .i64 0)), .d (dB false), .mt, .mt, .d (dB (ofQ 1).neg), .d (u32s (ofQ 1).num), .d (u32s (ofQ 1).den)] [.d (ints bits), .d (dI ((0 : Nat) : Int)), .d (dB (ofQ 0).neg), .d (u32s (ofQ 0).num), .d (u32s (ofQ 0).den), .d (dB (ofQ 1).neg), .d (u32s (ofQ 1).num), .d (u32s (ofQ 1).den)] := by
  rw [ofQ_zero]
  exact .cons (VLe.refl _) (.cons (VLe.refl _) (.cons (VLe.refl _) (.cons VLe.mt (.cons VLe.mt (VLes.refl _)))))
theorem span_one_ok (t : Nat) : SpanOK t .one := ⟨by show sz 0 ≤ _; rw [sz_zero]; omega, by show sz 1 ≤ _; rw [sz_one]; omega⟩
theorem rd0_ok {bits : List Int} (hb : bits.length ≤ 2000) : RdOK bits ⟨0, .one⟩ := ⟨Nat.zero_le _, hb, by show sz 0 ≤ _; rw [sz_zero]; omega, by show sz 1 ≤ _; rw [sz_one]; omega⟩

theorem sample_draw {h : HM} {B : Nat} {bits : List Int} (f : h.Form B) (hb : bits.length ≤ 2000) : FSpec P F.sample_draw [vHM h, .d (ints bits)] (.tup [vDrawn (drS (draw h bits)) (drW (draw h bits)) (drU (draw h bits)), .d (dI (drE (draw h bits)))]) := by
  have f1 := f.sym1
  have f2 := f.st1
  have f3 := f.emit
  have f4 := f.bB
  refine FSpec.intro fn.sample_draw (by rfl) (by rfl) (Nat.le_of_ble_eq_true (by rfl)) fun E hE => ?_
  refine AW.seq ?_
  refine AW.region (by rw [hE]; rfl) ?_
  first | refine bxA rfl rfl fun b2 => ?_ | refine bxD rfl rfl fun b2 => ?_
  refine al z.Drawn rfl fun b4 => ?_
  refine asD rfl ?_
  refine OL.nil ?_
  refine AW.seq ?_
  refine AW.region (by rw [hE]; rfl) ?_
  first | refine mvD rfl ?_ | refine mvO rfl ?_ | refine mvM rfl ?_
  refine clv rfl (.nil) (sample_one) ?_
  refine bd z.span pl.span (cs := [_, _, _, _, _, _]) rfl ?_
  refine bd z.reader pl.reader (cs := [_, _, _, _, _, _, _, _]) rfl ?_
  first | refine bxA rfl rfl fun b17 => ?_ | refine bxD rfl rfl fun b17 => ?_
  first | refine asD rfl ?_ | refine asT rfl ?_ | refine asP rfl ?_ | refine asR rfl ?_ | refine asE rfl ?_ | refine asF rfl ?_ | refine asA rfl ?_ | refine asO rfl ?_ | refine asM rfl ?_ | refine asJ rfl ?_
  refine OL.nil ?_
  refine AW.seq ?_
  refine AW.rename 17 1000 rfl ?_
  refine AW.boxW 1000 [.d (ints bits), .d (dI ((0 : Nat) : Int)), .d (dB (ofQ 0).neg), .d (u32s (ofQ 0).num), .d (u32s (ofQ 0).den), .d (dB (ofQ 1).neg), .d (u32s (ofQ 1).num), .d (u32s (ofQ 1).den)] rfl vles_rd ?_
  refine AW.region (by rw [hE]; rfl) ?_
  refine clv rfl (.nil) (sample_one) ?_
  refine bd z.span pl.span (cs := [_, _, _, _, _, _]) rfl ?_
  refine al z.span rfl fun b7 => ?_
  first | refine sto sz.span rfl rfl rfl rfl rfl (Nat.le_of_ble_eq_true rfl) (cells2 := [_, _, _, _, _, _]) rfl ?_ | refine stE sz.span rfl (VC.d _).vd rfl rfl (by omega) rfl ?_
  refine asD rfl ?_
  refine OL.nil ?_
  refine AW.seq ?_
  refine AW.region (by rw [hE]; rfl) ?_
  refine al z.Drawn rfl fun b9 => ?_
  refine OL.nil ?_
  refine AW.boxW 7 (cellsSpan .one) rfl vles_span1 ?_
  refine AW.boxW 9 [.osl 75 0 0 0, .osl 81 0 0 0, .d (dI 0)] rfl (.cons VLe.mtO (.cons VLe.mtO (.cons (VLe.refl _) .nil))) ?_
  refine AW.row0 75 T.int 1 rfl ?_
  refine AW.row0 81 T.int 1 rfl ?_
  refine AW.block ?_
  refine AW.whileK (α := Rd × Span × Option Nat × List Int × List Int × Nat × Nat × Nat × Nat) [(2, _), (4, _), (7, _), (9, _)] [(2, _)] (fun (r, s, fr, st, w, p1, c1, p2, c2) => [(6, .ptr 1000 b17 0), (8, .d (dI (frI fr)))]) (fun (r, s, fr, st, w, p1, c1, p2, c2) => [(7, .box b7 T.span (cellsSpan s)), (9, .box b9 T.Drawn [.osl 75 p1 st.length c1, .osl 81 p2 w.length c2, .d (dI 0)]), (75, .row p1 c1 T.int 1 (st.map dI)), (81, .row p2 c2 T.int 1 (w.map dI)), (1000, rdB b17 bits r), (4, .box b4 T.Drawn [.mt, .mt, .d (dI 0)])]) (fun (r, s, fr, st, w, p1, c1, p2, c2) => drawF h bits (257 - w.length) r s fr st w = draw h bits ∧ w.length ≤ 256 ∧ st.length = w.length ∧ RdOK bits r ∧ SpanOK (2 * w.length) s ∧ FrOK h fr) (fun (r, s, fr, st, w, p1, c1, p2, c2) => 256 - w.length) (⟨0, .one⟩, .one, none, [], [], 0, 0, 0, 0) (.cons (by first | exact knD rfl | exact knA rfl | exact knP rfl | exact knO rfl | exact knM rfl | exact knE rfl | exact knR rfl | exact knF rfl | exact knT rfl | exact knJ) (.cons (by first | exact knD rfl | exact knA rfl | exact knP rfl | exact knO rfl | exact knM rfl | exact knE rfl | exact knR rfl | exact knF rfl | exact knT rfl | exact knJ) (.cons (by first | exact knD rfl | exact knA rfl | exact knP rfl | exact knO rfl | exact knM rfl | exact knE rfl | exact knR rfl | exact knF rfl | exact knT rfl | exact knJ) (.cons (by first | exact knD rfl | exact knA rfl | exact knP rfl | exact knO rfl | exact knM rfl | exact knE rfl | exact knR rfl | exact knF rfl | exact knT rfl | exact knJ) .nil)))) (.cons (by first | exact owB rfl | exact owR rfl) .nil) ⟨⟨rfl, by decide, rfl, rd0_ok hb, span_one_ok 0, fun i hi => by cases hi⟩, .cons (by first | exact VLe.refl _ | exact VLe.int (by omega) | exact VLe.mt | exact vle_q0 | exact VLe.osl | exact VLe.ptr) (.cons (by first | exact VLe.refl _ | exact VLe.int (by omega) | exact VLe.mt | exact vle_q0 | exact VLe.osl | exact VLe.ptr) .nil), .cons rfl (.cons rfl (.cons rfl (.cons rfl (.cons rfl (.cons rfl .nil)))))⟩ ?_
  rintro ⟨r, s, fr, st, w, p1, c1, p2, c2⟩ ⟨hD, hw, hst, hr, hs, hfr⟩
  have hw : w.length ≤ 256 := hw
  have hst : st.length = w.length := hst
  have hfi := frI_range hfr
  have hnl := next_len f hfr
  have hns := next_small f fr
  obtain ⟨n, hn⟩ : ∃ n, 257 - w.length = n + 1 := ⟨256 - w.length, by omega⟩
  have hD : drawF h bits (257 - w.length) r s fr st w = draw h bits := hD
  rw [hn, drawF] at hD
  refine AW.block ?_
  refine AW.seq ?_
  refine AW.region_draw 55 [0, 1, 2, 3, 4, 5, 6, 7, 8, 9, 10, 11, 12, 13] order_free (by rw [hE]; rfl) (by kernel_rfl) (OI.of_OL (os := [_, _, _, _, _, _, _, _, _, _, _, _, _, _]) rfl ?_)
  first | refine mvD rfl ?_ | refine mvT rfl ?_ | refine mvP rfl ?_ | refine mvR rfl ?_ | refine mvE rfl ?_ | refine mvF rfl ?_ | refine mvA rfl ?_ | refine mvO rfl ?_ | refine mvM rfl ?_ | refine mvJ rfl ?_
  first | refine ldPA ag.span rfl rfl (vs := [_, _, _, _, _, _]) rfl (Nat.le_of_ble_eq_true rfl) ?_ | refine ldRA ag.span rfl (vs := [_, _, _, _, _, _]) rfl (Nat.le_of_ble_eq_true rfl) ?_
  first | refine ldPA ag.Hidden rfl rfl (vs := [_, _, _, _, _, _, _, _, _, _, _]) rfl (Nat.le_of_ble_eq_true rfl) ?_ | refine ldRA ag.Hidden rfl (vs := [_, _, _, _, _, _, _, _, _, _, _]) rfl (Nat.le_of_ble_eq_true rfl) ?_
  refine mvD rfl ?_
  refine clv rfl (.cons (VLe.refl _) (.cons (VLe.refl _) .nil)) (sample_next f hfi) ?_
  rw [next_frI]
  refine OL.callMd (v := .tup [.d (dI (chK (chooseB bits s (h.next fr) r))), vSpan (chS s (h.next fr) (chooseB bits s (h.next fr) r)), .d (dI (chE (chooseB bits s (h.next fr) r)))]) (.mk (args' := [.ptr 1000 b17 0, vSpan s, .d (dQs (h.next fr))]) rfl (.cons (by first | exact VLe.refl _ | exact VLe.ptr) (.cons (by first | exact VLe.refl _ | exact VLe.ptr) (.cons (by first | exact VLe.refl _ | exact VLe.ptr) (.nil)))) (mem1_keep (id := 1000) (blk := rdB b17 bits r) rfl) mem1_sub (sample_choose hs (by omega) hns (by omega) hr)) rfl ?_
  first | refine mvD rfl ?_ | refine mvT rfl ?_ | refine mvP rfl ?_ | refine mvR rfl ?_ | refine mvE rfl ?_ | refine mvF rfl ?_ | refine mvA rfl ?_ | refine mvO rfl ?_ | refine mvM rfl ?_ | refine mvJ rfl ?_
  refine ex rfl rfl ?_
  refine ex rfl rfl ?_
  refine ex rfl rfl ?_
  refine al z.span rfl fun b11 => ?_
  refine asD rfl ?_
  first | refine sto sz.span rfl rfl rfl rfl rfl (Nat.le_of_ble_eq_true rfl) (cells2 := [_, _, _, _, _, _]) rfl ?_ | refine stE sz.span rfl (VC.d _).vd rfl rfl (by omega) rfl ?_
  refine asD rfl ?_
  refine OL.nil ?_
  refine AW.seq ?_
  refine AW.block ?_
  refine AW.seq ?_
  refine AW.region (by rw [hE]; rfl) ?_
  refine mvD rfl ?_
  refine c_neq rfl rfl rfl ?_
  refine asD rfl ?_
  refine OL.nil ?_
  refine AW.cond rfl (fun h30 => ?_) (fun h30 => ?_)
  · have h30 : chooseB bits s (h.next fr) r = none := chE_ne (by simpa using h30)
    rw [h30] at hD
    have hdr : draw h bits = .err 17 := hD.symm
    rw [h30]
    refine AW.seq ?_
    refine AW.region (by rw [hE]; rfl) ?_
    refine bd z.Drawn pl.Drawn (cs := [_, _, _]) rfl ?_
    refine mvD rfl ?_
    first | refine sto sz.Drawn rfl rfl rfl rfl rfl (Nat.le_of_ble_eq_true rfl) (cells2 := [_, _, _]) rfl ?_ | refine stE sz.Drawn rfl (VC.d _).vd rfl rfl (by omega) rfl ?_
    refine asD rfl ?_
    refine OL.nil ?_
    exact AW.ret (RetQ.r ⟨_, .cellA rfl rfl ag.Drawn (Nat.le_of_ble_eq_true rfl) (.tmp rfl .nil), _, .cons (.ag (.cons (.le (by rw [hdr]; exact VLe.mt)) (.cons (.le (by rw [hdr]; exact VLe.mt)) (.cons (.le (VLe.int (by rw [hdr]; rfl))) .nil)))) (.cons (.le (VLe.int (by rw [hdr]; rfl))) .nil), rfl⟩)
  · obtain ⟨k, r1, hch⟩ := chE_eq (show chE (chooseB bits s (h.next fr) r) = 0 by simpa using h30)
    rw [hch, choose_end hch]
    rw [hch] at hD
    simp only at hD
    have hk := choose_lt hch
    have hr1 := choose_end hch ▸ chEnd_ok (s := s) (ch := h.next fr) hr
    have hP := hs.part (by omega) hns (by omega) k hk
    refine AW.seq ?_
    refine AW.region (by rw [hE]; rfl) ?_
    refine mvD rfl ?_
    first | refine faP fd.Hidden_1 rfl rfl ?_ | refine faR fd.Hidden_1 rfl rfl ?_ | refine faE fd.Hidden_1 rfl rfl ?_
    first | refine ldRC ce.int rfl ?_ | refine ldPC ce.int rfl rfl rfl ?_
    refine c_eql rfl rfl rfl ?_
    refine asD rfl ?_
    refine OL.nil ?_
    refine AW.cond rfl (fun h35 => ?_) (fun h35 => ?_)
    · have h35 : k = h.st := by have := of_decide_eq_true h35; change (k : Int) = _ at this; omega
      rw [if_pos h35] at hD
      have hdr : draw h bits = .run st w r1.used := hD.symm
      rw [hdr]
      refine AW.seq ?_
      refine AW.region (by rw [hE]; rfl) ?_
      first | refine mvD rfl ?_ | refine mvT rfl ?_ | refine mvP rfl ?_ | refine mvR rfl ?_ | refine mvE rfl ?_ | refine mvF rfl ?_ | refine mvA rfl ?_ | refine mvO rfl ?_ | refine mvM rfl ?_ | refine mvJ rfl ?_
      first | refine ncP rfl ?_ | refine ncR rfl ?_ | refine ncE rfl ?_
      first | refine faP fd.reader_1 rfl rfl ?_ | refine faR fd.reader_1 rfl rfl ?_ | refine faE fd.reader_1 rfl rfl ?_
      first | refine ldRC ce.int rfl ?_ | refine ldPC ce.int rfl rfl rfl ?_
      first | refine faP fd.Drawn_2 rfl rfl ?_ | refine faR fd.Drawn_2 rfl rfl ?_ | refine faE fd.Drawn_2 rfl rfl ?_
      first | refine sto sz.int rfl rfl rfl rfl rfl (Nat.le_of_ble_eq_true rfl) (cells2 := [_, _, _]) rfl ?_ | refine stE sz.int rfl (VC.d _).vd rfl rfl (by omega) rfl ?_
      refine OL.nil ?_
      refine AW.seq ?_
      refine AW.region (by rw [hE]; rfl) ?_
      first | refine ldPA ag.Drawn rfl rfl (vs := [_, _, _]) rfl (Nat.le_of_ble_eq_true rfl) ?_ | refine ldRA ag.Drawn rfl (vs := [_, _, _]) rfl (Nat.le_of_ble_eq_true rfl) ?_
      first | refine sto sz.Drawn rfl rfl rfl rfl rfl (Nat.le_of_ble_eq_true rfl) (cells2 := [_, _, _]) rfl ?_ | refine stE sz.Drawn rfl (VC.d _).vd rfl rfl (by omega) rfl ?_
      refine asD rfl ?_
      refine OL.nil ?_
      exact AW.ret (RetQ.r ⟨_, .cellA rfl rfl ag.Drawn (Nat.le_of_ble_eq_true rfl) (.tmp rfl .nil), _, .cons (.ag (.cons (RO.row rfl (by rw [List.length_map]) rfl) (.cons (RO.row rfl (by rw [List.length_map]) rfl) (.cons (.le (VLe.refl _)) .nil)))) (.cons (.le (by first | exact VLe.refl _ | exact VLe.mt | exact vle_q0 | exact VLe.int (by omega) | exact VLe.bool (by simp_all))) .nil), rfl⟩)
    · have h35 : k ≠ h.st := fun e => of_decide_eq_false h35 (by show (k : Int) = _; omega)
      rw [if_neg h35] at hD
      refine AW.seq ?_
      refine AW.region (by rw [hE]; rfl) ?_
      first | refine faP fd.Drawn_1 rfl rfl ?_ | refine faR fd.Drawn_1 rfl rfl ?_ | refine faE fd.Drawn_1 rfl rfl ?_
      first | refine ldRC ce.ints rfl ?_ | refine ldPC ce.ints rfl rfl rfl ?_
      first | refine lnL sl.ints rfl rfl ?_ | refine lnO sl.ints rfl rfl ?_ | refine lnM sl.ints rfl rfl ?_ | refine lnD sl.ints rfl rfl rfl ?_
      refine c_eql rfl rfl rfl ?_
      refine asD rfl ?_
      refine OL.nil ?_
      refine AW.cond rfl (fun h46 => ?_) (fun h46 => ?_)
      · have h46 := of_decide_eq_true h46
        rw [if_pos (show n = 0 by omega)] at hD
        have hdr : draw h bits = .err 2 := hD.symm
        refine AW.seq ?_
        refine AW.region (by rw [hE]; rfl) ?_
        refine bd z.Drawn pl.Drawn (cs := [_, _, _]) rfl ?_
        first | refine sto sz.Drawn rfl rfl rfl rfl rfl (Nat.le_of_ble_eq_true rfl) (cells2 := [_, _, _]) rfl ?_ | refine stE sz.Drawn rfl (VC.d _).vd rfl rfl (by omega) rfl ?_
        refine asD rfl ?_
        refine OL.nil ?_
        exact AW.ret (RetQ.r ⟨_, .cellA rfl rfl ag.Drawn (Nat.le_of_ble_eq_true rfl) (.tmp rfl .nil), _, .cons (.ag (.cons (.le (by rw [hdr]; exact VLe.mt)) (.cons (.le (by rw [hdr]; exact VLe.mt)) (.cons (.le (VLe.int (by rw [hdr]; rfl))) .nil)))) (.cons (.le (VLe.int (by rw [hdr]; rfl))) .nil), rfl⟩)
      · have h46 := of_decide_eq_false h46
        rw [if_neg (show n ≠ 0 by omega)] at hD
        have hem := f.erow k (by omega)
        have hes := (f.zM k).mono f.bB
        refine AW.skip ?_
        refine AW.seq ?_
        refine AW.region_draw 1 [0, 1, 2, 3] order_free (by rw [hE]; rfl) (by kernel_rfl) (OI.of_OL (os := [_, _, _, _]) rfl ?_)
        refine mvD rfl ?_
        first | refine ldPA ag.span rfl rfl (vs := [_, _, _, _, _, _]) rfl (Nat.le_of_ble_eq_true rfl) ?_ | refine ldRA ag.span rfl (vs := [_, _, _, _, _, _]) rfl (Nat.le_of_ble_eq_true rfl) ?_
        refine asD rfl ?_
        first | refine sto sz.span rfl rfl rfl rfl rfl (Nat.le_of_ble_eq_true rfl) (cells2 := [_, _, _, _, _, _]) rfl ?_ | refine stE sz.span rfl (VC.d _).vd rfl rfl (by omega) rfl ?_
        refine OL.nil ?_
        refine AW.seq ?_
        refine AW.region_draw 127 [0, 1, 2, 3, 4, 5, 6, 7, 8, 9, 10, 11, 12, 13, 14] order_free (by rw [hE]; rfl) (by kernel_rfl) (OI.of_OL (os := [_, _, _, _, _, _, _, _, _, _, _, _, _, _, _]) rfl ?_)
        first | refine mvD rfl ?_ | refine mvT rfl ?_ | refine mvP rfl ?_ | refine mvR rfl ?_ | refine mvE rfl ?_ | refine mvF rfl ?_ | refine mvA rfl ?_ | refine mvO rfl ?_ | refine mvM rfl ?_ | refine mvJ rfl ?_
        first | refine ldPA ag.span rfl rfl (vs := [_, _, _, _, _, _]) rfl (Nat.le_of_ble_eq_true rfl) ?_ | refine ldRA ag.span rfl (vs := [_, _, _, _, _, _]) rfl (Nat.le_of_ble_eq_true rfl) ?_
        first | refine faP fd.Hidden_6 rfl rfl ?_ | refine faR fd.Hidden_6 rfl rfl ?_ | refine faE fd.Hidden_6 rfl rfl ?_
        first | refine ldRC ce.Ratss rfl ?_ | refine ldPC ce.Ratss rfl rfl rfl ?_
        refine mvD rfl ?_
        refine ixLe k sl.Ratss [] rfl rfl rfl (by omega) rfl rfl ?_
        first | refine ldRC ce.Rats rfl ?_ | refine ldPC ce.Rats rfl rfl rfl ?_
        refine OL.callMd (v := .tup [.d (dI (chK (chooseB bits (s.part (h.next fr) k) (h.emit.getD k []) r1))), vSpan (chS (s.part (h.next fr) k) (h.emit.getD k []) (chooseB bits (s.part (h.next fr) k) (h.emit.getD k []) r1)), .d (dI (chE (chooseB bits (s.part (h.next fr) k) (h.emit.getD k []) r1)))]) (.mk (args' := [.ptr 1000 b17 0, vSpan (s.part (h.next fr) k), .d (dQs (h.emit.getD k []))]) rfl (.cons (by first | exact VLe.refl _ | exact VLe.ptr) (.cons (by first | exact VLe.refl _ | exact VLe.ptr) (.cons (by first | exact VLe.refl _ | exact VLe.ptr) (.nil)))) (mem1_keep (id := 1000) (blk := rdB b17 bits r1) rfl) mem1_sub (sample_choose hP (by omega) hes (by omega) hr1)) rfl ?_
        first | refine mvD rfl ?_ | refine mvT rfl ?_ | refine mvP rfl ?_ | refine mvR rfl ?_ | refine mvE rfl ?_ | refine mvF rfl ?_ | refine mvA rfl ?_ | refine mvO rfl ?_ | refine mvM rfl ?_ | refine mvJ rfl ?_
        refine ex rfl rfl ?_
        refine ex rfl rfl ?_
        refine ex rfl rfl ?_
        refine asD rfl ?_
        first | refine sto sz.span rfl rfl rfl rfl rfl (Nat.le_of_ble_eq_true rfl) (cells2 := [_, _, _, _, _, _]) rfl ?_ | refine stE sz.span rfl (VC.d _).vd rfl rfl (by omega) rfl ?_
        refine asD rfl ?_
        refine OL.nil ?_
        refine AW.seq ?_
        refine AW.seq ?_
        refine AW.region (by rw [hE]; rfl) ?_
        refine mvD rfl ?_
        refine c_neq rfl rfl rfl ?_
        refine OL.nil ?_
        refine AW.cond rfl (fun h67 => ?_) (fun h67 => ?_)
        · have h67 := chE_ne (o := chooseB bits (s.part (h.next fr) k) (h.emit.getD k []) r1) (by simpa using h67)
          rw [h67] at hD
          have hdr : draw h bits = .err 17 := hD.symm
          rw [h67]
          refine AW.seq ?_
          refine AW.region (by rw [hE]; rfl) ?_
          refine bd z.Drawn pl.Drawn (cs := [_, _, _]) rfl ?_
          refine mvD rfl ?_
          first | refine sto sz.Drawn rfl rfl rfl rfl rfl (Nat.le_of_ble_eq_true rfl) (cells2 := [_, _, _]) rfl ?_ | refine stE sz.Drawn rfl (VC.d _).vd rfl rfl (by omega) rfl ?_
          refine asD rfl ?_
          refine OL.nil ?_
          exact AW.ret (RetQ.r ⟨_, .cellA rfl rfl ag.Drawn (Nat.le_of_ble_eq_true rfl) (.tmp rfl .nil), _, .cons (.ag (.cons (.le (by rw [hdr]; exact VLe.mt)) (.cons (.le (by rw [hdr]; exact VLe.mt)) (.cons (.le (VLe.int (by rw [hdr]; rfl))) .nil)))) (.cons (.le (VLe.int (by rw [hdr]; rfl))) .nil), rfl⟩)
        · obtain ⟨x, r2, hch2⟩ := chE_eq (o := chooseB bits (s.part (h.next fr) k) (h.emit.getD k []) r1) (by simpa using h67)
          rw [hch2, choose_end hch2]
          have hx := choose_lt hch2
          have hr2 := choose_end hch2 ▸ chEnd_ok (s := s.part (h.next fr) k) (ch := h.emit.getD k []) hr1
          have hP2 := hP.part (by omega) hes (by omega) x hx
          rw [show 2 * w.length + 1 + 1 = 2 * (w.length + 1) by omega] at hP2
          refine AW.skip ?_
          refine AW.seq ?_
          refine AW.region (by rw [hE]; rfl) ?_
          first | refine ldPA ag.span rfl rfl (vs := [_, _, _, _, _, _]) rfl (Nat.le_of_ble_eq_true rfl) ?_ | refine ldRA ag.span rfl (vs := [_, _, _, _, _, _]) rfl (Nat.le_of_ble_eq_true rfl) ?_
          first | refine sto sz.span rfl rfl rfl rfl rfl (Nat.le_of_ble_eq_true rfl) (cells2 := [_, _, _, _, _, _]) rfl ?_ | refine stE sz.span rfl (VC.d _).vd rfl rfl (by omega) rfl ?_
          refine OL.nil ?_
          refine AW.region_draw 2 [0, 1, 2, 3, 5, 6, 7, 8, 9, 4, 11, 10, 12, 13, 14] order_free (by rw [hE]; rfl) (by kernel_rfl) (OI.of_OL (os := [_, _, _, _, _, _, _, _, _, _, _, _, _, _, _]) rfl ?_)
          first | refine faP fd.Drawn_0 rfl rfl ?_ | refine faR fd.Drawn_0 rfl rfl ?_ | refine faE fd.Drawn_0 rfl rfl ?_
          first | refine ldRC ce.ints rfl ?_ | refine ldPC ce.ints rfl rfl rfl ?_
          refine mvD rfl ?_
          refine lt1 sl.ints (VC.d _).vd rfl (by decide) ?_
          first | refine faP fd.Drawn_1 rfl rfl ?_ | refine faR fd.Drawn_1 rfl rfl ?_ | refine faE fd.Drawn_1 rfl rfl ?_
          first | refine ldRC ce.ints rfl ?_ | refine ldPC ce.ints rfl rfl rfl ?_
          refine mvD rfl ?_
          refine bo rfl rfl (bin_add (c := (x : Int) + 1) rfl (wrap_i64 (by omega))) ?_
          refine lt1 sl.ints (VC.d _).vd rfl (by decide) ?_
          refine apO sl.ints rfl rfl rfl (by rw [List.length_map]) (VC.d _) (by simp [D.cells]) (by simp only [List.length_cons, List.length_nil]; omega) (by simp only [List.length_cons, List.length_nil]; omega) (.inr rfl) (ys := (st ++ [(k : Int)]).map dI) (by rw [List.map_append]; rfl) (n2 := (st ++ [(k : Int)]).length) (by simp) fun q1 d1 => ?_
          first | refine faP fd.Drawn_0 rfl rfl ?_ | refine faR fd.Drawn_0 rfl rfl ?_ | refine faE fd.Drawn_0 rfl rfl ?_
          refine apO sl.ints rfl rfl rfl (by rw [List.length_map]) (VC.d _) (by simp [D.cells]) (by simp only [List.length_cons, List.length_nil]; omega) (by simp only [List.length_cons, List.length_nil]; omega) (.inr rfl) (ys := (w ++ [(x : Int) + 1]).map dI) (by rw [List.map_append]; rfl) (n2 := (w ++ [(x : Int) + 1]).length) (by simp) fun q2 d2 => ?_
          first | refine sto sz.ints rfl rfl rfl rfl rfl (Nat.le_of_ble_eq_true rfl) (cells2 := [_, _, _]) rfl ?_ | refine stE sz.ints rfl (VC.d _).vd rfl rfl (by omega) rfl ?_
          first | refine faP fd.Drawn_1 rfl rfl ?_ | refine faR fd.Drawn_1 rfl rfl ?_ | refine faE fd.Drawn_1 rfl rfl ?_
          first | refine sto sz.ints rfl rfl rfl rfl rfl (Nat.le_of_ble_eq_true rfl) (cells2 := [_, _, _]) rfl ?_ | refine stE sz.ints rfl (VC.d _).vd rfl rfl (by omega) rfl ?_
          refine OL.nil ?_
          exact AW.again (x := (r, s, fr, st, w, p1, c1, p2, c2)) (r2, (s.part (h.next fr) k).part (h.emit.getD k []) x, some k, st ++ [(k : Int)], w ++ [(x : Int) + 1], q1, d1, q2, d2) (by simp; omega) ⟨⟨by rw [hch2] at hD; simp only at hD; rw [← hD, List.length_append, List.length_singleton, show 257 - (w.length + 1) = n by omega], by simp; omega, by simp [hst], hr2, by rw [List.length_append, List.length_singleton]; exact hP2, fun i hi => by cases hi; omega⟩, Knows.app (.cons (VLe.refl _) (.cons (VLe.refl _) (.cons (VLe.refl _) (.cons (VLe.refl _) .nil)))) (.cons (by first | exact VLe.refl _ | exact VLe.int (by omega) | exact VLe.mt | exact vle_q0 | exact VLe.osl | exact VLe.ptr) (.cons (by first | exact VLe.refl _ | exact VLe.int (by omega) | exact VLe.mt | exact vle_q0 | exact VLe.osl | exact VLe.ptr) .nil)), Owns.app (.cons rfl .nil) (.cons rfl (.cons rfl (.cons rfl (.cons rfl (.cons rfl (.cons rfl .nil))))))⟩
end Go.Proofs.YtcebciggodhmcaaGreat

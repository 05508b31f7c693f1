/-
  Walks of the specification of drawings, for any model, part 3 (printed by mk2.py).
-/
import Derived.Test.YtjghehkgmanmbaaGreatKSaD
set_option linter.unusedVariables false
set_option linter.unusedSimpArgs false
namespace Go.Proofs.YtjghehkgmanmbaaGreat
open Go Go.AL
set_option maxRecDepth 6000 in
set_option maxHeartbeats 3200000 in
theorem ref40_DrawR {h : RM} {bits : List Int} (zz : h.Sz) (lt : h.Lite) (nb : bits.length ≤ 1048576) : FSpec P F.ref40_Draw [vRM h, .d (ints bits)] (.tup [vDrawn (drS (drawR h bits)) (drW (drawR h bits)) (drU (drawR h bits)), .d (dI (drE (drawR h bits)))]) := by
 refine FSpec.intro fn.ref40_Draw (by rfl) (by rfl) (nb9 (by rfl)) fun E hE => ?_
 refine AW.sg hE rfl ?_
 first | refine bxA rfl rfl fun b2 => ?_ | refine bxD rfl rfl fun b2 => ?_
 refine al z.Drawn rfl fun b4 => ?_
 refine asD rfl ?_
 refine OL.nil ?_
 refine AW.seq ?_
 refine AW.sg hE rfl ?_
 first | refine ldPA ag.Hidden rfl rfl (vs := [_,_,_,_,_,_,_,_,_,_,_]) rfl (nb9 rfl) ?_ | refine ldRA ag.Hidden rfl (vs := [_,_,_,_,_,_,_,_,_,_,_]) rfl (nb9 rfl) ?_
 refine clv rfl (.cons (VLe.refl _) (.nil)) (ref33_CheckR zz) ?_
 refine asD rfl ?_
 refine OL.nil ?_
 refine AW.sg hE rfl ?_
 refine mvD rfl ?_
 refine c_neq rfl rfl rfl ?_
 refine OL.nil ?_
 refine AW.cond rfl (fun cp => ?_) (fun cp => ?_)
 ·have cp : ¬ chkP h = 0 := by simpa using cp
  have hdr := drawR_e (h := h) (bits := bits) cp
  refine AW.sg hE rfl ?_
  refine bd z.Drawn pl.Drawn (cs := [_,_,_]) rfl ?_
  refine mvD rfl ?_
  first | refine sto sz.Drawn rfl rfl rfl rfl rfl (nb9 rfl) (cells2 := [_,_,_]) rfl ?_ | refine stE sz.Drawn rfl (VC.d _).vd rfl rfl (by omega) rfl ?_
  refine asD rfl ?_
  refine OL.nil ?_
  exact AW.ret (RetQ.r ⟨_, .cellA rfl rfl ag.Drawn (nb9 rfl) (.tmp rfl .nil), _, .cons (.ag (.cons (.le (by rw [hdr]; exact VLe.mt)) (.cons (.le (by rw [hdr]; exact VLe.mt)) (.cons (.le (VLe.int (by rw [hdr]; rfl))) .nil)))) (.cons (.le (VLe.int (by rw [hdr]; rfl))) .nil), rfl⟩)
 ·have cp : chkP h = 0 := by simpa using cp
  obtain ⟨g, hv⟩ := chkP_good zz cp
  have hQ := (hm h).den
  have hl := lt.ll zz cp
  have s0 := g.form.sym0
  have s1 := g.form.sym1
  refine AW.boxW 2 (cellsHM (hm h)) rfl (vles_of_eq (V.ag.inj hv)) ?_
  refine AW.skip ?_
  refine AW.seq ?_
  refine AW.sg hE rfl ?_
  first | refine mvD rfl ?_ | refine mvO rfl ?_ | refine mvM rfl ?_
  first | refine lnL sl.ints rfl rfl ?_ | refine lnO sl.ints rfl rfl ?_ | refine lnM sl.ints rfl rfl ?_ | refine lnD sl.ints rfl rfl rfl ?_
  refine c_gtr rfl rfl rfl ?_
  refine OL.nil ?_
  refine AW.cond rfl (fun a1 => ?_) (fun a1 => ?_)
  ·have a1 : (2000 : Int) < bits.length := of_decide_eq_true a1
   have hdr := drawR_1 cp (bits := bits) fun b => by have := b.1; omega
   refine AW.sg hE rfl ?_
   refine bd z.Drawn pl.Drawn (cs := [_,_,_]) rfl ?_
   first | refine sto sz.Drawn rfl rfl rfl rfl rfl (nb9 rfl) (cells2 := [_,_,_]) rfl ?_ | refine stE sz.Drawn rfl (VC.d _).vd rfl rfl (by omega) rfl ?_
   refine asD rfl ?_
   refine OL.nil ?_
   exact AW.ret (RetQ.r ⟨_, .cellA rfl rfl ag.Drawn (nb9 rfl) (.tmp rfl .nil), _, .cons (.ag (.cons (.le (by rw [hdr]; exact VLe.mt)) (.cons (.le (by rw [hdr]; exact VLe.mt)) (.cons (.le (VLe.int (by rw [hdr]; rfl))) .nil)))) (.cons (.le (VLe.int (by rw [hdr]; rfl))) .nil), rfl⟩)
  ·have a1 : ¬ (2000 : Int) < bits.length := of_decide_eq_false a1
   refine AW.skip ?_
   refine AW.seq ?_
   refine AW.sg hE rfl ?_
   refine asD rfl ?_
   refine OL.nil ?_
   refine AW.block ?_
   refine AW.whileK (α := Nat) [(1, _), (2, _), (4, _)] [(2, _)] (fun i => [(7, .d (dI i))]) (fun i => [(4, .box b4 T.Drawn [.mt, .mt, .d (dI 0)])]) (fun i => i ≤ bits.length ∧ ∀ j, j < i → bits.getD j 0 = 0 ∨ bits.getD j 0 = 1) (fun i => bits.length - i) 0 (by repeat (first | exact Knows.nil | refine Knows.cons (by first | exact knD rfl | exact knA rfl | exact knP rfl | exact knO rfl | exact knM rfl | exact knE rfl | exact knR rfl | exact knF rfl | exact knT rfl | exact knJ) ?_)) (.cons (by first | exact owB rfl | exact owR rfl | exact owL rfl | exact owT rfl) .nil) ⟨⟨Nat.zero_le _, fun j hj => absurd hj (Nat.not_lt_zero j)⟩, .cons (by first | exact VLe.refl _ | exact VLe.int (by omega) | exact VLe.mt | exact vle_q0 | exact VLe.osl | exact VLe.ptr) .nil, .cons rfl .nil⟩ ?_
   rintro i ⟨h1, h2⟩
   refine AW.seq ?_
   refine AW.sg hE rfl ?_
   refine mvD rfl ?_
   first | refine mvD rfl ?_ | refine mvO rfl ?_ | refine mvM rfl ?_
   first | refine lnL sl.ints rfl rfl ?_ | refine lnO sl.ints rfl rfl ?_ | refine lnM sl.ints rfl rfl ?_ | refine lnD sl.ints rfl rfl rfl ?_
   refine c_lss rfl rfl rfl ?_
   refine OL.nil ?_
   refine AW.cond rfl (fun h27 => ?_) (fun h27 => ?_)
   ·try simp only [dx9] at h27
    refine AW.skip ?_
    refine AW.seq ?_
    refine AW.block ?_
    refine AW.sg hE rfl ?_
    first | refine mvD rfl ?_ | refine mvO rfl ?_ | refine mvM rfl ?_
    refine mvD rfl ?_
    first | refine ixO sl.ints rfl rfl (by omega) (by omega) rfl ?_ | refine ixLn sl.ints 0 rfl rfl (by omega) rfl rfl ?_ | refine ixL sl.ints 0 rfl rfl (by omega) (by omega) rfl rfl ?_
    first | refine ldRC ce.int rfl ?_ | refine ldPC ce.int rfl rfl rfl ?_
    refine c_neq rfl rfl rfl ?_
    refine mvD rfl ?_
    refine OL.split 35 rfl (fun b1 => ?_) (fun b1 => ?_)
    ·have b1 : bits.getD i 0 ≠ 0 := by simpa using b1
     refine OL.yes rfl ?_
     first | refine mvD rfl ?_ | refine mvO rfl ?_ | refine mvM rfl ?_
     refine OL.yes rfl ?_
     refine mvD rfl ?_
     refine OL.yes rfl ?_
     first | refine ixO sl.ints rfl rfl (by omega) (by omega) rfl ?_ | refine ixLn sl.ints 0 rfl rfl (by omega) rfl rfl ?_ | refine ixL sl.ints 0 rfl rfl (by omega) (by omega) rfl rfl ?_
     refine OL.yes rfl ?_
     first | refine ldRC ce.int rfl ?_ | refine ldPC ce.int rfl rfl rfl ?_
     refine OL.yes rfl ?_
     refine c_neq rfl rfl rfl ?_
     refine pkT rfl rfl ?_
     refine OL.nil ?_
     refine AW.cond rfl (fun b2 => ?_) (fun b2 => ?_)
     ·have b2 : bits.getD i 0 ≠ 1 := by simpa using b2
      have hdr := drawR_1 cp (bits := bits) fun b => by
        have := b.2 _ (getD_mem (show i < bits.length by omega) 0); omega
      refine AW.sg hE rfl ?_
      refine bd z.Drawn pl.Drawn (cs := [_,_,_]) rfl ?_
      first | refine sto sz.Drawn rfl rfl rfl rfl rfl (nb9 rfl) (cells2 := [_,_,_]) rfl ?_ | refine stE sz.Drawn rfl (VC.d _).vd rfl rfl (by omega) rfl ?_
      refine asD rfl ?_
      refine OL.nil ?_
      exact AW.ret (RetQ.r ⟨_, .cellA rfl rfl ag.Drawn (nb9 rfl) (.tmp rfl .nil), _, .cons (.ag (.cons (.le (by rw [hdr]; exact VLe.mt)) (.cons (.le (by rw [hdr]; exact VLe.mt)) (.cons (.le (VLe.int (by rw [hdr]; rfl))) .nil)))) (.cons (.le (VLe.int (by rw [hdr]; rfl))) .nil), rfl⟩)
     ·have b2 : bits.getD i 0 = 1 := by simpa using b2
      refine AW.skip ?_
      refine AW.rg hE rfl ?_
      refine mvD rfl ?_
      refine add_i64 rfl rfl (by omega) ?_
      refine asD rfl ?_
      refine OL.nil ?_
      exact AW.again (x := i) (i + 1) (by first | omega | (simp only []; omega)) ⟨⟨by omega, upto_step h2 (.inr b2)⟩, Knows.app (.cons (VLe.refl _) (.cons (VLe.refl _) (.cons (VLe.refl _) .nil))) (.cons (by first | exact VLe.refl _ | exact VLe.int (by omega) | exact VLe.mt | exact vle_q0 | exact VLe.osl | exact VLe.ptr) .nil), Owns.app (.cons rfl .nil) (.cons rfl .nil)⟩
    ·have b1 : bits.getD i 0 = 0 := by simpa using b1
     refine OL.no rfl (by decide) ?_
     refine OL.no rfl (by decide) ?_
     refine OL.no rfl (by decide) ?_
     refine OL.no rfl (by decide) ?_
     refine OL.no rfl (by decide) ?_
     refine pkF rfl rfl ?_
     refine OL.nil ?_
     refine AW.cond rfl (fun hno => absurd hno (by decide)) (fun _ => ?_)
     refine AW.skip ?_
     refine AW.rg hE rfl ?_
     refine mvD rfl ?_
     refine add_i64 rfl rfl (by omega) ?_
     refine asD rfl ?_
     refine OL.nil ?_
     exact AW.again (x := i) (i + 1) (by first | omega | (simp only []; omega)) ⟨⟨by omega, upto_step h2 (.inl b1)⟩, Knows.app (.cons (VLe.refl _) (.cons (VLe.refl _) (.cons (VLe.refl _) .nil))) (.cons (by first | exact VLe.refl _ | exact VLe.int (by omega) | exact VLe.mt | exact vle_q0 | exact VLe.osl | exact VLe.ptr) .nil), Owns.app (.cons rfl .nil) (.cons rfl .nil)⟩
   ·try simp only [dx9] at h27
    refine AW.exit ?_
    refine AW.seq ?_
    have hb : BitsOK bits := ⟨by omega, fun x hx => by obtain ⟨j, hj, rfl⟩ := mem_ix 0 hx; exact h2 j (by omega)⟩
    rw [drawR_0 cp hb]
    generalize hm h = h at *
    have f := g.form
    have f1 := f.sym1
    have f2 := f.st1
    have f3 := f.emit
    refine AW.rg hE rfl ?_
    first | refine mvD rfl ?_ | refine mvO rfl ?_ | refine mvM rfl ?_
    refine clv rfl (.cons (VLe.refl _) (.nil)) (ref33_Whole1) ?_
    refine bd z.ref40_reader pl.ref40_reader (cs := [_,_,_,_,_,_,_,_]) rfl ?_
    first | refine bxA rfl rfl fun b46 => ?_ | refine bxD rfl rfl fun b46 => ?_
    first | refine asD rfl ?_ | refine asT rfl ?_ | refine asP rfl ?_ | refine asR rfl ?_ | refine asE rfl ?_ | refine asF rfl ?_ | refine asA rfl ?_ | refine asO rfl ?_ | refine asM rfl ?_ | refine asJ rfl ?_
    refine OL.nil ?_
    refine AW.seq ?_
    refine AW.rename 46 1000 rfl ?_
    refine AW.boxW 1000 [.d (ints bits), .d (dI ((0 : Nat) : Int)), .d (dB (ofQ 0).neg), .d (u32s (ofQ 0).num), .d (u32s (ofQ 0).den), .d (dB (ofQ 1).neg), .d (u32s (ofQ 1).num), .d (u32s (ofQ 1).den)] rfl vles_rd ?_
    refine AW.dg 1 [0,1,2,3,4,5] order_free hE rfl (by kernel_rfl) (OI.of_OL (os := [_,_,_,_,_,_]) rfl ?_)
    refine clv rfl .nil ref40_unit ?_
    first | refine ldPA ag.Hidden rfl rfl (vs := [_,_,_,_,_,_,_,_,_,_,_]) rfl (nb9 rfl) ?_ | refine ldRA ag.Hidden rfl (vs := [_,_,_,_,_,_,_,_,_,_,_]) rfl (nb9 rfl) ?_
    refine clv rfl (.cons (VLe.refl _) (.nil)) (ref40_beginnings f) ?_
    refine al z.Interval rfl fun b9 => ?_
    first | refine sto sz.Interval rfl rfl rfl rfl rfl (nb9 rfl) (cells2 := [_,_,_,_,_,_]) rfl ?_ | refine stE sz.Interval rfl (VC.d _).vd rfl rfl (by omega) rfl ?_
    first | refine asD rfl ?_ | refine asO rfl ?_ | refine asM rfl ?_
    refine OL.nil ?_
    refine AW.sg hE rfl ?_
    refine bd z.Drawn pl.Drawn (cs := [_,_,_]) rfl ?_
    refine al z.Drawn rfl fun b11 => ?_
    first | refine sto sz.Drawn rfl rfl rfl rfl rfl (nb9 rfl) (cells2 := [_,_,_]) rfl ?_ | refine stE sz.Drawn rfl (VC.d _).vd rfl rfl (by omega) rfl ?_
    refine OL.nil ?_
    refine AW.block ?_
    refine AW.boxW 11 [.osl 91 0 0 0, .osl 97 0 0 0, .d (dI 0)] rfl (.cons VLe.mtO (.cons VLe.mtO (.cons (VLe.refl _) .nil))) ?_
    refine AW.row0 91 T.int 1 rfl ?_
    refine AW.row0 97 T.int 1 rfl ?_
    refine AW.whileK (α := Rd × Span × Option Nat × List Int × List Int × Nat × Nat × Nat × Nat) [(2, _), (4, _), (9, _), (11, _)] [(2, _)] (fun (r, s, fr, st, w, p1, c1, p2, c2) => [(8, .ptr 1000 b46 0), (10, .d (dQs (h.next fr)))]) (fun (r, s, fr, st, w, p1, c1, p2, c2) => [(9, .box b9 T.Interval (cellsIv s.lo (s.lo + s.len))), (11, .box b11 T.Drawn [.osl 91 p1 st.length c1, .osl 97 p2 w.length c2, .d (dI 0)]), (91, .row p1 c1 T.int 1 (st.map dI)), (97, .row p2 c2 T.int 1 (w.map dI)), (1000, rfB b46 bits r), (4, .box b4 T.Drawn [.mt, .mt, .d (dI 0)])]) (fun (r, s, fr, st, w, p1, c1, p2, c2) => drawF h bits (257 - w.length) r s fr st w = draw h bits ∧ w.length ≤ 256 ∧ st.length = w.length ∧ RdOK bits r ∧ SpanW h.dn (2 * w.length) s ∧ FrOK h fr ∧ 0 < s.len) (fun (r, s, fr, st, w, p1, c1, p2, c2) => 256 - w.length) (⟨0, .one⟩, .one, none, [], [], 0, 0, 0, 0) (by repeat (first | exact Knows.nil | refine Knows.cons (by first | exact knD rfl | exact knA rfl | exact knP rfl | exact knO rfl | exact knM rfl | exact knE rfl | exact knR rfl | exact knF rfl | exact knT rfl | exact knJ) ?_)) (.cons (by first | exact owB rfl | exact owR rfl | exact owL rfl | exact owT rfl) .nil) ⟨⟨rfl, by decide, rfl, rd0_ok hb.1, SpanW.one hQ.ne 0, fun i hi => (by cases hi), by decide +kernel⟩, .cons (by first | exact VLe.refl _ | exact VLe.int (by omega) | exact VLe.mt | exact vle_q0 | exact VLe.osl | exact VLe.ptr) (.cons (by first | exact VLe.refl _ | exact VLe.int (by omega) | exact VLe.mt | exact vle_q0 | exact VLe.osl | exact VLe.ptr) .nil), .cons rfl (.cons rfl (.cons rfl (.cons rfl (.cons rfl (.cons rfl .nil)))))⟩ ?_
    rintro ⟨r, s, fr, st, w, p1, c1, p2, c2⟩ ⟨hD, hw, hst, hr, hs, hfr, hpos⟩
    have hw : w.length ≤ 256 := hw
    have hst : st.length = w.length := hst
    have hpos : 0 < s.len := hpos
    have hnl := next_len f hfr
    have hns := next_row g hQ hfr
    obtain ⟨n, hn⟩ : ∃ n, 257 - w.length = n + 1 := ⟨256 - w.length, by omega⟩
    have hD : drawF h bits (257 - w.length) r s fr st w = draw h bits := hD
    rw [hn, drawF] at hD
    refine AW.block ?_
    refine AW.sg hE rfl ?_
    first | refine mvD rfl ?_ | refine mvT rfl ?_ | refine mvP rfl ?_ | refine mvR rfl ?_ | refine mvE rfl ?_ | refine mvF rfl ?_ | refine mvA rfl ?_ | refine mvO rfl ?_ | refine mvM rfl ?_ | refine mvJ rfl ?_
    first | refine ldPA ag.Interval rfl rfl (vs := [_,_,_,_,_,_]) rfl (nb9 rfl) ?_ | refine ldRA ag.Interval rfl (vs := [_,_,_,_,_,_]) rfl (nb9 rfl) ?_
    first | refine mvD rfl ?_ | refine mvO rfl ?_ | refine mvM rfl ?_
    refine OL.callM (v := .d (dI (chI (chooseB bits s (h.next fr) r)))) (.mk (args' := [.ptr 1000 b46 0, vIvS s, .d (dQs (h.next fr))]) rfl (.cons (by first | exact VLe.refl _ | exact VLe.ptr) (.cons (VLe.refl _) (.cons (VLe.refl _) .nil))) (mem1_keep (id := 1000) (blk := rfB b46 bits r) rfl) mem1_sub (ref40_choose ⟨hQ.ne, hl⟩ hs (by omega) hns (by omega) hr hpos)) ?_
    refine asD rfl ?_
    refine OL.nil ?_
    refine AW.seq ?_
    refine AW.sg hE rfl ?_
    refine mvD rfl ?_
    refine c_lss rfl rfl rfl ?_
    refine OL.nil ?_
    refine AW.cond rfl (fun h30 => ?_) (fun h30 => ?_)
    ·have h30 : chooseB bits s (h.next fr) r = none := chI_neg (of_decide_eq_true h30)
     rw [h30] at hD
     have hdr : draw h bits = .err 17 := hD.symm
     refine AW.sg hE rfl ?_
     refine bd z.Drawn pl.Drawn (cs := [_,_,_]) rfl ?_
     first | refine sto sz.Drawn rfl rfl rfl rfl rfl (nb9 rfl) (cells2 := [_,_,_]) rfl ?_ | refine stE sz.Drawn rfl (VC.d _).vd rfl rfl (by omega) rfl ?_
     refine asD rfl ?_
     refine OL.nil ?_
     exact AW.ret (RetQ.r ⟨_, .cellA rfl rfl ag.Drawn (nb9 rfl) (.tmp rfl .nil), _, .cons (.ag (.cons (.le (by rw [hdr]; exact VLe.mt)) (.cons (.le (by rw [hdr]; exact VLe.mt)) (.cons (.le (VLe.int (by rw [hdr]; rfl))) .nil)))) (.cons (.le (VLe.int (by rw [hdr]; rfl))) .nil), rfl⟩)
    ·obtain ⟨k, r1, hch⟩ := chI_some (of_decide_eq_false h30)
     rw [hch, choose_end hch]
     rw [hch] at hD
     simp only at hD
     have hk := choose_lt hch
     have hr1 := choose_end hch ▸ chEnd_ok (s := s) (ch := h.next fr) hr
     have hP := hs.part hQ.ne hns k hk
     have hpos1 := part_pos hpos (choose_pos hch)
     refine AW.skip ?_
     refine AW.seq ?_
     refine AW.sg hE rfl ?_
     refine mvD rfl ?_
     first | refine mvD rfl ?_ | refine mvO rfl ?_ | refine mvM rfl ?_
     first | refine lnL sl.choice rfl rfl ?_ | refine lnO sl.choice rfl rfl ?_ | refine lnM sl.choice rfl rfl ?_ | refine lnD sl.choice rfl rfl rfl ?_
     refine bo rfl rfl (bin_sub (c := (h.st : Int)) (by omega) (wrap_i64 (by omega))) ?_
     refine c_eql rfl rfl rfl ?_
     refine OL.nil ?_
     refine AW.cond rfl (fun h35 => ?_) (fun h35 => ?_)
     ·have h35 : k = h.st := by have := of_decide_eq_true h35; change (k : Int) = _ at this; omega
      rw [if_pos h35] at hD
      have hdr : draw h bits = .run st w r1.used := hD.symm
      rw [hdr]
      refine AW.sg hE rfl ?_
      first | refine mvD rfl ?_ | refine mvT rfl ?_ | refine mvP rfl ?_ | refine mvR rfl ?_ | refine mvE rfl ?_ | refine mvF rfl ?_ | refine mvA rfl ?_ | refine mvO rfl ?_ | refine mvM rfl ?_ | refine mvJ rfl ?_
      first | refine ncP rfl ?_ | refine ncR rfl ?_ | refine ncE rfl ?_
      first | refine faP fd.ref40_reader_1 rfl rfl ?_ | refine faR fd.ref40_reader_1 rfl rfl ?_ | refine faE fd.ref40_reader_1 rfl rfl ?_
      first | refine ldRC ce.int rfl ?_ | refine ldPC ce.int rfl rfl rfl ?_
      first | refine faP fd.Drawn_2 rfl rfl ?_ | refine faR fd.Drawn_2 rfl rfl ?_ | refine faE fd.Drawn_2 rfl rfl ?_
      first | refine sto sz.int rfl rfl rfl rfl rfl (nb9 rfl) (cells2 := [_,_,_]) rfl ?_ | refine stE sz.int rfl (VC.d _).vd rfl rfl (by omega) rfl ?_
      refine OL.nil ?_
      refine AW.sg hE rfl ?_
      first | refine ldPA ag.Drawn rfl rfl (vs := [_,_,_]) rfl (nb9 rfl) ?_ | refine ldRA ag.Drawn rfl (vs := [_,_,_]) rfl (nb9 rfl) ?_
      first | refine sto sz.Drawn rfl rfl rfl rfl rfl (nb9 rfl) (cells2 := [_,_,_]) rfl ?_ | refine stE sz.Drawn rfl (VC.d _).vd rfl rfl (by omega) rfl ?_
      refine asD rfl ?_
      refine OL.nil ?_
      exact AW.ret (RetQ.r ⟨_, .cellA rfl rfl ag.Drawn (nb9 rfl) (.tmp rfl .nil), _, .cons (.ag (.cons (RO.row rfl (by rw [List.length_map]) rfl) (.cons (RO.row rfl (by rw [List.length_map]) rfl) (.cons (.le (VLe.refl _)) .nil)))) (.cons (.le (by first | exact VLe.refl _ | exact VLe.mt | exact vle_q0 | exact VLe.int (by omega) | exact VLe.bool (by simp_all))) .nil), rfl⟩)
     ·have h35 : k ≠ h.st := fun e => of_decide_eq_false h35 (by show (k : Int) = _; omega)
      rw [if_neg h35] at hD
      refine AW.skip ?_
      refine AW.seq ?_
      refine AW.sg hE rfl ?_
      first | refine faP fd.Drawn_1 rfl rfl ?_ | refine faR fd.Drawn_1 rfl rfl ?_ | refine faE fd.Drawn_1 rfl rfl ?_
      first | refine ldRC ce.ints rfl ?_ | refine ldPC ce.ints rfl rfl rfl ?_
      first | refine lnL sl.ints rfl rfl ?_ | refine lnO sl.ints rfl rfl ?_ | refine lnM sl.ints rfl rfl ?_ | refine lnD sl.ints rfl rfl rfl ?_
      refine c_eql rfl rfl rfl ?_
      refine OL.nil ?_
      refine AW.cond rfl (fun h46 => ?_) (fun h46 => ?_)
      ·have h46 := of_decide_eq_true h46
       rw [if_pos (show n = 0 by omega)] at hD
       have hdr : draw h bits = .err 2 := hD.symm
       refine AW.sg hE rfl ?_
       refine bd z.Drawn pl.Drawn (cs := [_,_,_]) rfl ?_
       first | refine sto sz.Drawn rfl rfl rfl rfl rfl (nb9 rfl) (cells2 := [_,_,_]) rfl ?_ | refine stE sz.Drawn rfl (VC.d _).vd rfl rfl (by omega) rfl ?_
       refine asD rfl ?_
       refine OL.nil ?_
       exact AW.ret (RetQ.r ⟨_, .cellA rfl rfl ag.Drawn (nb9 rfl) (.tmp rfl .nil), _, .cons (.ag (.cons (.le (by rw [hdr]; exact VLe.mt)) (.cons (.le (by rw [hdr]; exact VLe.mt)) (.cons (.le (VLe.int (by rw [hdr]; rfl))) .nil)))) (.cons (.le (VLe.int (by rw [hdr]; rfl))) .nil), rfl⟩)
      ·have h46 := of_decide_eq_false h46
       rw [if_neg (show n ≠ 0 by omega)] at hD
       have hem := f.erow k (by omega)
       have hes := emit_row g hQ (show k < h.st by omega)
       refine AW.skip ?_
       refine AW.sg hE rfl ?_
       first | refine ldPA ag.Interval rfl rfl (vs := [_,_,_,_,_,_]) rfl (nb9 rfl) ?_ | refine ldRA ag.Interval rfl (vs := [_,_,_,_,_,_]) rfl (nb9 rfl) ?_
       first | refine mvD rfl ?_ | refine mvO rfl ?_ | refine mvM rfl ?_
       refine mvD rfl ?_
       refine clv rfl (.cons (VLe.refl _) (.cons (VLe.refl _) (.cons (VLe.refl _) (.nil)))) (ref40_part ⟨hQ.ne, hl⟩ hs (by omega) hns (by omega) (by omega)) ?_
       first | refine sto sz.Interval rfl rfl rfl rfl rfl (nb9 rfl) (cells2 := [_,_,_,_,_,_]) rfl ?_ | refine stE sz.Interval rfl (VC.d _).vd rfl rfl (by omega) rfl ?_
       refine OL.nil ?_
       refine AW.seq ?_
       refine AW.dg 169 [0,1,2,3,4,5,6] order_free hE rfl (by kernel_rfl) (OI.of_OL (os := [_,_,_,_,_,_,_]) rfl ?_)
       first | refine mvD rfl ?_ | refine mvT rfl ?_ | refine mvP rfl ?_ | refine mvR rfl ?_ | refine mvE rfl ?_ | refine mvF rfl ?_ | refine mvA rfl ?_ | refine mvO rfl ?_ | refine mvM rfl ?_ | refine mvJ rfl ?_
       first | refine ldPA ag.Interval rfl rfl (vs := [_,_,_,_,_,_]) rfl (nb9 rfl) ?_ | refine ldRA ag.Interval rfl (vs := [_,_,_,_,_,_]) rfl (nb9 rfl) ?_
       first | refine ldPA ag.Hidden rfl rfl (vs := [_,_,_,_,_,_,_,_,_,_,_]) rfl (nb9 rfl) ?_ | refine ldRA ag.Hidden rfl (vs := [_,_,_,_,_,_,_,_,_,_,_]) rfl (nb9 rfl) ?_
       refine mvD rfl ?_
       refine clv rfl (.cons (VLe.refl _) (.cons (VLe.refl _) (.nil))) (ref40_symbols f (show k < h.st by omega)) ?_
       refine OL.callMd (v := .d (dI (chI (chooseB bits (s.part (h.next fr) k) (h.emit.getD k []) r1)))) (.mk (args' := [.ptr 1000 b46 0, vIvS (s.part (h.next fr) k), .d (dQs (h.emit.getD k []))]) rfl (.cons (by first | exact VLe.refl _ | exact VLe.ptr) (.cons (VLe.refl _) (.cons (VLe.refl _) .nil))) (mem1_keep (id := 1000) (blk := rfB b46 bits r1) rfl) mem1_sub (ref40_choose ⟨hQ.ne, hl⟩ hP (by omega) hes (by omega) hr1 hpos1)) rfl ?_
       refine asD rfl ?_
       refine OL.nil ?_
       refine AW.seq ?_
       refine AW.sg hE rfl ?_
       refine mvD rfl ?_
       refine c_lss rfl rfl rfl ?_
       refine OL.nil ?_
       refine AW.cond rfl (fun h67 => ?_) (fun h67 => ?_)
       ·have h67 : (chooseB bits (s.part (h.next fr) k) (h.emit.getD k []) r1) = none := chI_neg (of_decide_eq_true h67)
        rw [h67] at hD
        have hdr : draw h bits = .err 17 := hD.symm
        refine AW.sg hE rfl ?_
        refine bd z.Drawn pl.Drawn (cs := [_,_,_]) rfl ?_
        first | refine sto sz.Drawn rfl rfl rfl rfl rfl (nb9 rfl) (cells2 := [_,_,_]) rfl ?_ | refine stE sz.Drawn rfl (VC.d _).vd rfl rfl (by omega) rfl ?_
        refine asD rfl ?_
        refine OL.nil ?_
        exact AW.ret (RetQ.r ⟨_, .cellA rfl rfl ag.Drawn (nb9 rfl) (.tmp rfl .nil), _, .cons (.ag (.cons (.le (by rw [hdr]; exact VLe.mt)) (.cons (.le (by rw [hdr]; exact VLe.mt)) (.cons (.le (VLe.int (by rw [hdr]; rfl))) .nil)))) (.cons (.le (VLe.int (by rw [hdr]; rfl))) .nil), rfl⟩)
       ·obtain ⟨x, r2, hch2⟩ := chI_some (o := (chooseB bits (s.part (h.next fr) k) (h.emit.getD k []) r1)) (of_decide_eq_false h67)
        rw [hch2, choose_end hch2]
        have hx := choose_lt hch2
        have hr2 := choose_end hch2 ▸ chEnd_ok (s := s.part (h.next fr) k) (ch := h.emit.getD k []) hr1
        have hP2 := hP.part hQ.ne hes x hx
        rw [show 2 * w.length + 1 + 1 = 2 * (w.length + 1) by omega] at hP2
        refine AW.skip ?_
        refine AW.seq ?_
        refine AW.dg 2 [0,1,2,3,5,6,7,8,9,4,11,10,12,13,14] order_free hE rfl (by kernel_rfl) (OI.of_OL (os := [_,_,_,_,_,_,_,_,_,_,_,_,_,_,_]) rfl ?_)
        first | refine faP fd.Drawn_0 rfl rfl ?_ | refine faR fd.Drawn_0 rfl rfl ?_ | refine faE fd.Drawn_0 rfl rfl ?_
        first | refine ldRC ce.ints rfl ?_ | refine ldPC ce.ints rfl rfl rfl ?_
        refine mvD rfl ?_
        refine lt1 sl.ints (VC.d _).vd rfl (by decide) ?_
        first | refine faP fd.Drawn_1 rfl rfl ?_ | refine faR fd.Drawn_1 rfl rfl ?_ | refine faE fd.Drawn_1 rfl rfl ?_
        first | refine ldRC ce.ints rfl ?_ | refine ldPC ce.ints rfl rfl rfl ?_
        refine mvD rfl ?_
        refine bo rfl rfl (bin_add (c := (x : Int) + 1) rfl (wrap_i64 (by omega))) ?_
        refine lt1 sl.ints (VC.d _).vd rfl (by decide) ?_
        refine apO sl.ints rfl rfl rfl (by rw [List.length_map]) (VC.d _) (by simp [D.cells]) (by simp only [List.length_cons, List.length_nil]; omega) (by simp only [List.length_cons, List.length_nil]; omega) (.inr rfl) (ys := (st ++ [(k : Int)]).map dI) (by rw [List.map_append]; rfl) (n2 := (st ++ [(k : Int)]).length) (by simp) fun q1 d1 => ?_
        first | refine faP fd.Drawn_0 rfl rfl ?_ | refine faR fd.Drawn_0 rfl rfl ?_ | refine faE fd.Drawn_0 rfl rfl ?_
        refine apO sl.ints rfl rfl rfl (by rw [List.length_map]) (VC.d _) (by simp [D.cells]) (by simp only [List.length_cons, List.length_nil]; omega) (by simp only [List.length_cons, List.length_nil]; omega) (.inr rfl) (ys := (w ++ [(x : Int) + 1]).map dI) (by rw [List.map_append]; rfl) (n2 := (w ++ [(x : Int) + 1]).length) (by simp) fun q2 d2 => ?_
        first | refine sto sz.ints rfl rfl rfl rfl rfl (nb9 rfl) (cells2 := [_,_,_]) rfl ?_ | refine stE sz.ints rfl (VC.d _).vd rfl rfl (by omega) rfl ?_
        first | refine faP fd.Drawn_1 rfl rfl ?_ | refine faR fd.Drawn_1 rfl rfl ?_ | refine faE fd.Drawn_1 rfl rfl ?_
        first | refine sto sz.ints rfl rfl rfl rfl rfl (nb9 rfl) (cells2 := [_,_,_]) rfl ?_ | refine stE sz.ints rfl (VC.d _).vd rfl rfl (by omega) rfl ?_
        refine OL.nil ?_
        refine AW.dg 1 [0,1,2,3,4,5,6,7,8,9,10] order_free hE rfl (by kernel_rfl) (OI.of_OL (os := [_,_,_,_,_,_,_,_,_,_,_]) rfl ?_)
        first | refine ldPA ag.Interval rfl rfl (vs := [_,_,_,_,_,_]) rfl (nb9 rfl) ?_ | refine ldRA ag.Interval rfl (vs := [_,_,_,_,_,_]) rfl (nb9 rfl) ?_
        first | refine ldPA ag.Hidden rfl rfl (vs := [_,_,_,_,_,_,_,_,_,_,_]) rfl (nb9 rfl) ?_ | refine ldRA ag.Hidden rfl (vs := [_,_,_,_,_,_,_,_,_,_,_]) rfl (nb9 rfl) ?_
        refine mvD rfl ?_
        refine clv rfl (.cons (VLe.refl _) (.cons (VLe.refl _) (.nil))) (ref40_symbols f (show k < h.st by omega)) ?_
        refine mvD rfl ?_
        refine clv rfl (.cons (VLe.refl _) (.cons (VLe.refl _) (.cons (VLe.refl _) (.nil)))) (ref40_part ⟨hQ.ne, hl⟩ hP (by omega) hes (by omega) (hx)) ?_
        first | refine ldPA ag.Hidden rfl rfl (vs := [_,_,_,_,_,_,_,_,_,_,_]) rfl (nb9 rfl) ?_ | refine ldRA ag.Hidden rfl (vs := [_,_,_,_,_,_,_,_,_,_,_]) rfl (nb9 rfl) ?_
        refine mvD rfl ?_
        refine clv rfl (.cons (VLe.refl _) (.cons (VLe.refl _) (.nil))) (ref40_moves f (show k < h.st by omega)) ?_
        first | refine sto sz.Interval rfl rfl rfl rfl rfl (nb9 rfl) (cells2 := [_,_,_,_,_,_]) rfl ?_ | refine stE sz.Interval rfl (VC.d _).vd rfl rfl (by omega) rfl ?_
        first | refine asD rfl ?_ | refine asO rfl ?_ | refine asM rfl ?_
        refine OL.nil ?_
        exact AW.again (x := (r, s, fr, st, w, p1, c1, p2, c2)) (r2, (s.part (h.next fr) k).part (h.emit.getD k []) x, some k, st ++ [(k : Int)], w ++ [(x : Int) + 1], q1, d1, q2, d2) (by simp; omega) ⟨⟨by rw [hch2] at hD; simp only at hD; rw [← hD, List.length_append, List.length_singleton, show 257 - (w.length + 1) = n by omega], by simp; omega, by simp [hst], hr2, by rw [List.length_append, List.length_singleton]; exact hP2, fun i hi => (by cases hi; omega), part_pos hpos1 (choose_pos hch2)⟩, Knows.app (.cons (VLe.refl _) (.cons (VLe.refl _) (.cons (VLe.refl _) (.cons (VLe.refl _) .nil)))) (.cons (by first | exact VLe.refl _ | exact VLe.int (by omega) | exact VLe.mt | exact vle_q0 | exact VLe.osl | exact VLe.ptr) (.cons (by first | exact VLe.refl _ | exact VLe.int (by omega) | exact VLe.mt | exact vle_q0 | exact VLe.osl | exact VLe.ptr) .nil)), Owns.app (.cons rfl .nil) (.cons rfl (.cons rfl (.cons rfl (.cons rfl (.cons rfl (.cons rfl .nil))))))⟩
set_option maxRecDepth 6000 in
set_option maxHeartbeats 3200000 in
theorem ref40_AllR {h : RM} {n : Int} (zz : h.Sz) (lt : h.Lite) : FSpec P F.ref40_All [vRM h, .d (dI n)] (.tup [.d (.sl ((allR h n).2.map dDr)), .d (dI (allR h n).1)]) := by
 refine FSpec.intro fn.ref40_All (by rfl) (by rfl) (nb9 (by rfl)) fun E hE => ?_
 refine AW.sg hE rfl ?_
 first | refine bxA rfl rfl fun b2 => ?_ | refine bxD rfl rfl fun b2 => ?_
 refine asM rfl ?_
 refine asD rfl ?_
 refine OL.nil ?_
 refine AW.seq ?_
 refine AW.sg hE rfl ?_
 first | refine ldPA ag.Hidden rfl rfl (vs := [_,_,_,_,_,_,_,_,_,_,_]) rfl (nb9 rfl) ?_ | refine ldRA ag.Hidden rfl (vs := [_,_,_,_,_,_,_,_,_,_,_]) rfl (nb9 rfl) ?_
 refine clv rfl (.cons (VLe.refl _) (.nil)) (ref33_CheckR zz) ?_
 refine asD rfl ?_
 refine OL.nil ?_
 refine AW.sg hE rfl ?_
 refine mvD rfl ?_
 refine c_neq rfl rfl rfl ?_
 refine OL.nil ?_
 refine AW.cond rfl (fun cp => ?_) (fun cp => ?_)
 ·have cp : ¬ chkP h = 0 := by simpa using cp
  have hdr := allR_e (h := h) (n := n) cp
  refine AW.sg hE rfl ?_
  refine mvD rfl ?_
  refine asM rfl ?_
  refine asD rfl ?_
  refine OL.nil ?_
  exact AW.ret (RetQ.r ⟨_, .tmp rfl (.tmp rfl .nil), _, .cons (.le (by rw [hdr]; exact VLe.mt)) (.cons (.le (VLe.int (by rw [hdr]))) .nil), rfl⟩)
 ·have cp : chkP h = 0 := by simpa using cp
  obtain ⟨g, hv⟩ := chkP_good zz cp
  have hQ := (hm h).den
  have hl := lt.ll zz cp
  have s0 := g.form.sym0
  have s1 := g.form.sym1
  refine AW.skip ?_
  refine AW.seq ?_
  refine AW.sg hE rfl ?_
  refine mvD rfl ?_
  refine c_lss rfl rfl rfl ?_
  refine mvD rfl ?_
  refine OL.split 21 rfl (fun a1 => ?_) (fun a1 => ?_)
  ·have a1 : n < 0 := of_decide_eq_true a1
   have hdr := allR_1 cp (n := n) (.inl a1)
   refine OL.no rfl (by decide) ?_
   refine OL.no rfl (by decide) ?_
   refine pkT rfl rfl ?_
   refine OL.nil ?_
   refine AW.cond rfl (fun _ => ?_) (fun hno => absurd hno (by decide))
   refine AW.sg hE rfl ?_
   refine asM rfl ?_
   refine asD rfl ?_
   refine OL.nil ?_
   exact AW.ret (RetQ.r ⟨_, .tmp rfl (.tmp rfl .nil), _, .cons (.le (by rw [hdr]; exact VLe.mt)) (.cons (.le (VLe.int (by rw [hdr]))) .nil), rfl⟩)
  ·have a1 : ¬ n < 0 := of_decide_eq_false a1
   refine OL.yes rfl ?_
   refine mvD rfl ?_
   refine OL.yes rfl ?_
   refine c_gtr rfl rfl rfl ?_
   refine pkF rfl rfl ?_
   refine OL.nil ?_
   refine AW.cond rfl (fun a2 => ?_) (fun a2 => ?_)
   ·have a2 : 10 < n := of_decide_eq_true a2
    have hdr := allR_1 cp (n := n) (.inr a2)
    refine AW.sg hE rfl ?_
    refine asM rfl ?_
    refine asD rfl ?_
    refine OL.nil ?_
    exact AW.ret (RetQ.r ⟨_, .tmp rfl (.tmp rfl .nil), _, .cons (.le (by rw [hdr]; exact VLe.mt)) (.cons (.le (VLe.int (by rw [hdr]))) .nil), rfl⟩)
   ·have a2 : ¬ 10 < n := of_decide_eq_false a2
    obtain ⟨b, rfl⟩ : ∃ b : Nat, n = (b : Int) := ⟨n.toNat, by omega⟩
    rw [allR_0 cp (by omega), Int.toNat_natCast]
    have hdw : ∀ l, BitsOK l → drawR h l = draw (hm h) l := fun l hb => drawR_0 cp hb
    have hDS : ∀ l : List Int, l.length ≤ 1048576 → FSpec P F.ref40_Draw [vRM h, .d (ints l)] (.tup [vDrawn (drS (drawR h l)) (drW (drawR h l)) (drU (drawR h l)), .d (dI (drE (drawR h l)))]) := fun l hn => ref40_DrawR zz lt hn
    generalize hgm : hm h = m at *
    obtain ⟨N, hN⟩ : ∃ N : Nat, N = 2 ^ b := ⟨_, rfl⟩
    have hp : 2 ^ b ≤ 2 ^ 10 := Nat.pow_le_pow_right (by decide) (by omega)
    have hp : N ≤ 1024 := by rw [hN]; exact hp
    rw [← hN]
    refine AW.skip ?_
    refine AW.sg hE rfl ?_
    refine asM rfl ?_
    refine OL.nil ?_
    refine AW.seq ?_
    refine AW.sg hE rfl ?_
    refine asD rfl ?_
    refine OL.nil ?_
    refine AW.block ?_
    refine AW.own 7 87 T.Drawn 3 rfl rfl ?_
    refine AW.whileK (α := Nat × Nat × Nat) [(1, _), (2, _), (4, _), (5, _)] [(2, _)] (fun (n, p, c) => [(7, .osl 87 p (allF m b n).length c), (8, .d (dI n))]) (fun (n, p, c) => [(87, .row p c T.Drawn 3 ((allF m b n).map dDr))]) (fun (n, p, c) => n ≤ N) (fun (n, p, c) => N - n) (0, 0, 0) (by repeat (first | exact Knows.nil | refine Knows.cons (by first | exact knD rfl | exact knA rfl | exact knP rfl | exact knO rfl | exact knM rfl | exact knE rfl | exact knR rfl | exact knF rfl | exact knT rfl | exact knJ) ?_)) (.cons (by first | exact owB rfl | exact owR rfl | exact owL rfl | exact owT rfl) .nil) ⟨Nat.zero_le _, .cons (by first | exact VLe.refl _ | exact VLe.int (by omega) | exact VLe.mt | exact vle_q0 | exact VLe.osl | exact VLe.ptr) (.cons (by first | exact VLe.refl _ | exact VLe.int (by omega) | exact VLe.mt | exact vle_q0 | exact VLe.osl | exact VLe.ptr) .nil), .cons rfl .nil⟩ ?_
    rintro ⟨n, p, c⟩ h1
    have h1 : n ≤ N := h1
    have hal := allF_len m b n
    refine AW.seq ?_
    refine AW.sg hE rfl ?_
    refine mvD rfl ?_
    refine mvD rfl ?_
    refine cv it.int it.uint rfl (wrap_u64 (by omega)) ?_
    refine shlV rfl rfl (by show (0:Int) ≤ (b : Int) ∧ b ≤ 64; omega) (c := (N : Int)) (by rw [Int.toNat_natCast, Int.one_mul, show (2 : Int) ^ b = (N : Int) by rw [hN]; push_cast; rfl]; exact wrap_i64 (by omega)) ?_
    refine c_lss rfl rfl rfl ?_
    refine OL.nil ?_
    refine AW.cond rfl (fun h29 => ?_) (fun h29 => ?_)
    ·try simp only [dx9] at h29
     refine AW.skip ?_
     refine AW.seq ?_
     refine AW.block ?_
     refine AW.sg hE rfl ?_
     refine asM rfl ?_
     refine OL.nil ?_
     refine AW.seq ?_
     refine AW.sg hE rfl ?_
     refine mvD rfl ?_
     refine sub_i64 rfl rfl (by omega) ?_
     refine asD rfl ?_
     refine OL.nil ?_
     refine AW.block ?_
     refine AW.own 9 45 T.int 1 rfl rfl ?_
     refine AW.whileK (α := Nat × Nat × Nat) [(1, _), (2, _), (4, _), (5, _), (7, _), (8, _)] [(2, _), (87, _)] (fun (e, p3, c3) => [(9, .osl 45 p3 e c3), (10, .d (dI ((b : Int) - 1 - e)))]) (fun (e, p3, c3) => [(45, .row p3 c3 T.int 1 (((bitsN b n).take e).map dI))]) (fun (e, p3, c3) => e ≤ b) (fun (e, p3, c3) => b - e) (0, 0, 0) (by repeat (first | exact Knows.nil | refine Knows.cons (by first | exact knD rfl | exact knA rfl | exact knP rfl | exact knO rfl | exact knM rfl | exact knE rfl | exact knR rfl | exact knF rfl | exact knT rfl | exact knJ) ?_)) (by repeat (first | exact Owns.nil | refine Owns.cons (by first | exact owB rfl | exact owR rfl | exact owL rfl | exact owT rfl) ?_)) ⟨Nat.zero_le _, .cons (by first | exact VLe.refl _ | exact VLe.int (by omega) | exact VLe.mt | exact vle_q0 | exact VLe.osl | exact VLe.ptr) (.cons (VLe.int (by omega)) .nil), .cons rfl .nil⟩ ?_
     rintro ⟨e, p3, c3⟩ h2
     have h2 : e ≤ b := h2
     have htk : ((bitsN b n).take e).length = e := by rw [List.length_take, bitsN_len]; omega
     refine AW.seq ?_
     refine AW.sg hE rfl ?_
     refine mvD rfl ?_
     refine c_geq rfl rfl rfl ?_
     refine OL.nil ?_
     refine AW.cond rfl (fun h35 => ?_) (fun h35 => ?_)
     ·try simp only [dx9] at h35
      refine AW.skip ?_
      refine AW.seq ?_
      refine AW.block ?_
      have hnd : n / 2 ^ (b - 1 - e) ≤ n := Nat.div_le_self ..
      refine AW.rg hE rfl ?_
      first | refine mvD rfl ?_ | refine mvO rfl ?_ | refine mvM rfl ?_
      refine mvD rfl ?_
      refine mvD rfl ?_
      refine cv it.int it.uint rfl (wrap_u64 (by omega)) ?_
      refine shrV rfl rfl (by show (0:Int) ≤ (b : Int) - 1 - e ∧ ((b : Int) - 1 - e).toNat ≤ 64; omega) (c := ((n / 2 ^ (b - 1 - e) : Nat) : Int)) (by rw [show ((b : Int) - 1 - e).toNat = b - 1 - e by omega]; push_cast; rfl) ?_
      refine bo rfl rfl (and1_i64 (a := n / 2 ^ (b - 1 - e)) (by omega)) ?_
      refine lt1 sl.ints (VC.d _).vd rfl (by decide) ?_
      refine apO sl.ints rfl rfl rfl (by rw [List.length_map, htk]) (VC.d _) (by simp [D.cells]) (by simp; omega) (by simp; omega) (.inr rfl) (ys := ((bitsN b n).take (e + 1)).map dI) (by rw [take_succ_getD (by rw [bitsN_len]; omega) 0, List.map_append, bitsN_get (by omega)]; rfl) (n2 := e + 1) (by simp) fun p4 c4 => ?_
      first | refine asD rfl ?_ | refine asO rfl ?_ | refine asM rfl ?_
      refine OL.nil ?_
      refine AW.rg hE rfl ?_
      refine mvD rfl ?_
      refine sub_i64 rfl rfl (by omega) ?_
      refine asD rfl ?_
      refine OL.nil ?_
      exact AW.again (x := (e, p3, c3)) (e + 1, p4, c4) (by first | omega | (simp only []; omega)) ⟨by omega, Knows.app (.cons (VLe.refl _) (.cons (VLe.refl _) (.cons (VLe.refl _) (.cons (VLe.refl _) (.cons (VLe.refl _) (.cons (VLe.refl _) .nil)))))) (.cons (by first | exact VLe.refl _ | exact VLe.int (by omega) | exact VLe.mt | exact vle_q0 | exact VLe.osl | exact VLe.ptr) (.cons (by first | exact VLe.refl _ | exact VLe.int (by omega) | exact VLe.mt | exact vle_q0 | exact VLe.osl | exact VLe.ptr) .nil)), Owns.app (.cons rfl (.cons rfl .nil)) (.cons rfl .nil)⟩
     ·try simp only [dx9] at h35
      refine AW.exit ?_
      refine AW.seq ?_
      have heb : e = b := by omega
      refine AW.freeze 45 rfl (AW.to [(1, .d (dI b)), (2, .ptr 2 b2 0), (4, .mt), (5, .d (dI 0)), (7, .osl 87 p (allF m b n).length c), (8, .d (dI n)), (9, .d (ints (bitsN b n)))] [(2, .box b2 T.Hidden (cellsRM h)), (87, .row p c T.Drawn 3 ((allF m b n).map dDr))] (.cons (VLe.refl _) (.cons (VLe.refl _) (.cons (VLe.refl _) (.cons (VLe.refl _) (.cons (VLe.refl _) (.cons (VLe.refl _) (.cons (frz_osl (by rw [List.length_map, htk]) (by rw [heb, List.take_of_length_le (by rw [bitsN_len]; exact Nat.le_refl _)])) .nil))))))) (.cons rfl (.cons rfl .nil)) ?_)
      have hbo : BitsOK (bitsN b n) := ⟨by rw [bitsN_len]; omega, bitsN_bit b n⟩
      have hasc := allF_okW (b := b) g.form n
      have hdo : ∀ st w u, draw m (bitsN b n) = .run st w u → RunOK m st w := fun st w u hd => draw_ok g.form hd
      refine AW.rg hE rfl ?_
      first | refine ldPA ag.Hidden rfl rfl (vs := [_,_,_,_,_,_,_,_,_,_,_]) rfl (nb9 rfl) ?_ | refine ldRA ag.Hidden rfl (vs := [_,_,_,_,_,_,_,_,_,_,_]) rfl (nb9 rfl) ?_
      first | refine mvD rfl ?_ | refine mvO rfl ?_ | refine mvM rfl ?_
      refine clv rfl (.cons (VLe.refl _) (.cons (VLe.refl _) (.nil))) (hDS (bitsN b n) (by rw [bitsN_len]; omega)) ?_
      rw [hdw _ hbo]
      first | refine mvD rfl ?_ | refine mvT rfl ?_ | refine mvP rfl ?_ | refine mvR rfl ?_ | refine mvE rfl ?_ | refine mvF rfl ?_ | refine mvA rfl ?_ | refine mvO rfl ?_ | refine mvM rfl ?_ | refine mvJ rfl ?_
      refine ex rfl rfl ?_
      refine ex rfl rfl ?_
      refine al z.Drawn rfl fun b11 => ?_
      first | refine sto sz.Drawn rfl rfl rfl rfl rfl (nb9 rfl) (cells2 := [_,_,_]) rfl ?_ | refine stE sz.Drawn rfl (VC.d _).vd rfl rfl (by omega) rfl ?_
      refine asD rfl ?_
      refine OL.nil ?_
      refine AW.sg hE rfl ?_
      first | refine mvD rfl ?_ | refine mvO rfl ?_ | refine mvM rfl ?_
      first | refine lnL sl.Drawns rfl rfl ?_ | refine lnO sl.Drawns rfl rfl ?_ | refine lnM sl.Drawns rfl rfl ?_ | refine lnD sl.Drawns rfl rfl rfl ?_
      refine asD rfl ?_
      refine OL.nil ?_
      refine AW.seq ?_
      rcases hd : (draw m (bitsN b n)) with e0 | ⟨st, w, u⟩
      ·have he0 := draw_err hd
       have ha : allF m b (n + 1) = allF m b n := by rw [allF, hd]; rfl
       refine AW.dg 1 [0,1,2,3,4,5,6,7,8,9,10,11,12,13,14,15,16,17,18,19,20,21,22,23,24,25,26,27,28,29] order_free hE rfl (by kernel_rfl) (OI.of_OL (os := [_,_,_,_,_,_,_,_,_,_,_,_,_,_,_,_,_,_,_,_,_,_,_,_,_,_,_,_,_,_]) rfl ?_)
       refine mvD rfl ?_
       refine c_eql rfl rfl (c := false) (by show decide (e0 = 0) = false; exact decide_eq_false (by omega)) ?_
       refine mvD rfl ?_
       refine OL.no rfl (by decide) ?_
       refine OL.no rfl (by decide) ?_
       refine OL.no rfl (by decide) ?_
       refine OL.no rfl (by decide) ?_
       refine OL.no rfl (by decide) ?_
       refine OL.no rfl (by decide) ?_
       refine OL.no rfl (by decide) ?_
       refine OL.no rfl (by decide) ?_
       refine OL.no rfl (by decide) ?_
       refine OL.no rfl (by decide) ?_
       refine OL.no rfl (by decide) ?_
       refine OL.no rfl (by decide) ?_
       refine OL.no rfl (by decide) ?_
       refine OL.no rfl (by decide) ?_
       refine OL.no rfl (by decide) ?_
       refine OL.no rfl (by decide) ?_
       refine OL.no rfl (by decide) ?_
       refine OL.no rfl (by decide) ?_
       refine OL.no rfl (by decide) ?_
       refine OL.no rfl (by decide) ?_
       refine OL.no rfl (by decide) ?_
       refine OL.no rfl (by decide) ?_
       refine OL.no rfl (by decide) ?_
       refine OL.no rfl (by decide) ?_
       refine OL.no rfl (by decide) ?_
       refine OL.no rfl (by decide) ?_
       refine pkF rfl rfl ?_
       refine OL.nil ?_
       refine AW.cond rfl (fun hno => absurd hno (by decide)) (fun _ => ?_)
       refine AW.skip ?_
       refine AW.rg hE rfl ?_
       refine mvD rfl ?_
       refine add_i64 rfl rfl (by omega) ?_
       refine asD rfl ?_
       refine OL.nil ?_
       exact AW.again (x := (n, p, c)) (n + 1, p, c) (by first | omega | (simp only []; omega)) ⟨by omega, Knows.app (.cons (VLe.refl _) (.cons (VLe.refl _) (.cons (VLe.refl _) (.cons (VLe.refl _) .nil)))) (.cons (vle_of_eq (by rw [ha]; rfl)) (.cons (by first | exact VLe.refl _ | exact VLe.int (by omega) | exact VLe.mt | exact vle_q0 | exact VLe.osl | exact VLe.ptr) .nil)), Owns.app (.cons rfl .nil) (.cons (by rw [ha]; rfl) .nil)⟩
      ·have hro := hdo st w u hd
       have hro1 := hro.1
       have hro2 := hro.2.1
       refine AW.dg 1 [0,1,2,3,4,5,6,7,8,9,10,11,12,13,14,15,16,17,18,19,20,21,22,23,24,25,26,27,28,29] order_free hE rfl (by kernel_rfl) (OI.of_OL (os := [_,_,_,_,_,_,_,_,_,_,_,_,_,_,_,_,_,_,_,_,_,_,_,_,_,_,_,_,_,_]) rfl ?_)
       refine mvD rfl ?_
       refine c_eql rfl rfl (c := true) (by first | exact decide_eq_true (by omega) | exact decide_eq_false (by omega) | exact cne_f (by omega) | exact cne_t (by omega) | rfl) ?_
       refine mvD rfl ?_
       refine OL.yes rfl ?_
       refine mvD rfl ?_
       refine OL.yes rfl ?_
       refine c_eql rfl rfl rfl ?_
       refine OL.yes rfl ?_
       refine mvD rfl ?_
       refine OL.split 59 rfl (fun b1 => ?_) (fun b1 => ?_)
       ·have b1 : (allF m b n).length = 0 := by have := of_decide_eq_true b1; omega
        have hnl : ¬ LastIs (allF m b n) st w := fun x => by have := x.1; omega
        refine OL.no rfl (by decide) ?_
        refine OL.no rfl (by decide) ?_
        refine OL.no rfl (by decide) ?_
        refine OL.no rfl (by decide) ?_
        refine OL.no rfl (by decide) ?_
        refine OL.no rfl (by decide) ?_
        refine OL.no rfl (by decide) ?_
        refine OL.no rfl (by decide) ?_
        refine OL.no rfl (by decide) ?_
        refine OL.no rfl (by decide) ?_
        refine OL.yes rfl ?_
        refine pkT rfl rfl ?_
        refine OL.yes rfl ?_
        refine mvD rfl ?_
        refine OL.no rfl (by decide) ?_
        refine OL.no rfl (by decide) ?_
        refine OL.no rfl (by decide) ?_
        refine OL.no rfl (by decide) ?_
        refine OL.no rfl (by decide) ?_
        refine OL.no rfl (by decide) ?_
        refine OL.no rfl (by decide) ?_
        refine OL.no rfl (by decide) ?_
        refine OL.no rfl (by decide) ?_
        refine OL.no rfl (by decide) ?_
        refine OL.yes rfl ?_
        refine pkT rfl rfl ?_
        refine pkT rfl rfl ?_
        refine OL.nil ?_
        refine AW.cond rfl (fun _ => ?_) (fun hno => absurd hno (by decide))
        have ha : allF m b (n + 1) = allF m b n ++ [⟨st, w, (u : Int)⟩] := by rw [allF, hd]; exact if_neg hnl
        refine AW.rg hE rfl ?_
        first | refine mvD rfl ?_ | refine mvO rfl ?_ | refine mvM rfl ?_
        first | refine ldPA ag.Drawn rfl rfl (vs := [_,_,_]) rfl (nb9 rfl) ?_ | refine ldRA ag.Drawn rfl (vs := [_,_,_]) rfl (nb9 rfl) ?_
        refine lt1 (y := dDr ⟨st, w, (u : Int)⟩) sl.Drawns (VD.ag (.cons (VC.d _) (.cons (VC.d _) (.cons (VC.d _) .nil)))) rfl (by decide) ?_
        refine apO sl.Drawns rfl rfl rfl (by rw [List.length_map]) (VC.d _) (fun y hy => by rw [List.mem_singleton.1 hy]; rfl) (by simp only [List.length_singleton]; omega) (by simp only [List.length_singleton]; omega) (.inr rfl) (ys := (allF m b (n + 1)).map dDr) (by rw [ha, List.map_append]; rfl) (n2 := (allF m b (n + 1)).length) (by rw [ha, List.length_append]; rfl) fun p2 c2 => ?_
        first | refine asD rfl ?_ | refine asO rfl ?_ | refine asM rfl ?_
        refine OL.nil ?_
        refine AW.rg hE rfl ?_
        refine mvD rfl ?_
        refine add_i64 rfl rfl (by omega) ?_
        refine asD rfl ?_
        refine OL.nil ?_
        exact AW.again (x := (n, p, c)) (n + 1, p2, c2) (by first | omega | (simp only []; omega)) ⟨by omega, Knows.app (.cons (VLe.refl _) (.cons (VLe.refl _) (.cons (VLe.refl _) (.cons (VLe.refl _) .nil)))) (.cons (by first | exact VLe.refl _ | exact VLe.int (by omega) | exact VLe.mt | exact vle_q0 | exact VLe.osl | exact VLe.ptr) (.cons (by first | exact VLe.refl _ | exact VLe.int (by omega) | exact VLe.mt | exact vle_q0 | exact VLe.osl | exact VLe.ptr) .nil)), Owns.app (.cons rfl .nil) (.cons rfl .nil)⟩
       ·have b1 : 0 < (allF m b n).length := by have := of_decide_eq_false b1; omega
        have hk := hasc.ok ((allF m b n).length - 1) (by omega)
        have hk1 := hk.1
        have hk2 := hk.2.1
        refine OL.yes rfl ?_
        first | refine mvD rfl ?_ | refine mvO rfl ?_ | refine mvM rfl ?_
        refine OL.yes rfl ?_
        refine mvD rfl ?_
        refine OL.yes rfl ?_
        refine sub_i64 rfl rfl (by omega) ?_
        refine OL.yes rfl ?_
        refine ixO sl.Drawns rfl rfl (by omega) (by omega) (i := (allF m b n).length - 1) (by omega) ?_
        refine OL.yes rfl ?_
        first | refine faP fd.Drawn_0 rfl rfl ?_ | refine faR fd.Drawn_0 rfl rfl ?_ | refine faE fd.Drawn_0 rfl rfl ?_
        refine OL.yes rfl ?_
        refine ldEL ce.ints dr0 (by decide) rfl rfl (by omega) rfl ?_
        refine OL.yes rfl ?_
        first | refine faP fd.Drawn_0 rfl rfl ?_ | refine faR fd.Drawn_0 rfl rfl ?_ | refine faE fd.Drawn_0 rfl rfl ?_
        refine OL.yes rfl ?_
        first | refine ldRC ce.ints rfl ?_ | refine ldPC ce.ints rfl rfl rfl ?_
        refine OL.yes rfl ?_
        refine clv rfl (.cons (VLe.refl _) (.cons (VLe.refl _) (.nil))) (ref05_Compare (l := ((allF m b n).getD ((allF m b n).length - 1) dr0).st) (m := st) (by omega)) ?_
        refine OL.yes rfl ?_
        refine c_neq rfl rfl rfl ?_
        refine OL.yes rfl ?_
        refine pkF rfl rfl ?_
        refine OL.yes rfl ?_
        refine mvD rfl ?_
        refine OL.split 71 rfl (fun b2 => ?_) (fun b2 => ?_)
        ·have b2 : ((allF m b n).getD ((allF m b n).length - 1) dr0).st ≠ st := fun e => by rw [cmpI_zero.2 e] at b2; cases b2
         have hnl : ¬ LastIs (allF m b n) st w := fun x => b2 x.2.1
         refine OL.no rfl (by decide) ?_
         refine OL.no rfl (by decide) ?_
         refine OL.no rfl (by decide) ?_
         refine OL.no rfl (by decide) ?_
         refine OL.no rfl (by decide) ?_
         refine OL.no rfl (by decide) ?_
         refine OL.no rfl (by decide) ?_
         refine OL.no rfl (by decide) ?_
         refine OL.no rfl (by decide) ?_
         refine OL.no rfl (by decide) ?_
         refine OL.yes rfl ?_
         refine pkT rfl rfl ?_
         refine pkT rfl rfl ?_
         refine OL.nil ?_
         refine AW.cond rfl (fun _ => ?_) (fun hno => absurd hno (by decide))
         have ha : allF m b (n + 1) = allF m b n ++ [⟨st, w, (u : Int)⟩] := by rw [allF, hd]; exact if_neg hnl
         refine AW.rg hE rfl ?_
         first | refine mvD rfl ?_ | refine mvO rfl ?_ | refine mvM rfl ?_
         first | refine ldPA ag.Drawn rfl rfl (vs := [_,_,_]) rfl (nb9 rfl) ?_ | refine ldRA ag.Drawn rfl (vs := [_,_,_]) rfl (nb9 rfl) ?_
         refine lt1 (y := dDr ⟨st, w, (u : Int)⟩) sl.Drawns (VD.ag (.cons (VC.d _) (.cons (VC.d _) (.cons (VC.d _) .nil)))) rfl (by decide) ?_
         refine apO sl.Drawns rfl rfl rfl (by rw [List.length_map]) (VC.d _) (fun y hy => by rw [List.mem_singleton.1 hy]; rfl) (by simp only [List.length_singleton]; omega) (by simp only [List.length_singleton]; omega) (.inr rfl) (ys := (allF m b (n + 1)).map dDr) (by rw [ha, List.map_append]; rfl) (n2 := (allF m b (n + 1)).length) (by rw [ha, List.length_append]; rfl) fun p2 c2 => ?_
         first | refine asD rfl ?_ | refine asO rfl ?_ | refine asM rfl ?_
         refine OL.nil ?_
         refine AW.rg hE rfl ?_
         refine mvD rfl ?_
         refine add_i64 rfl rfl (by omega) ?_
         refine asD rfl ?_
         refine OL.nil ?_
         exact AW.again (x := (n, p, c)) (n + 1, p2, c2) (by first | omega | (simp only []; omega)) ⟨by omega, Knows.app (.cons (VLe.refl _) (.cons (VLe.refl _) (.cons (VLe.refl _) (.cons (VLe.refl _) .nil)))) (.cons (by first | exact VLe.refl _ | exact VLe.int (by omega) | exact VLe.mt | exact vle_q0 | exact VLe.osl | exact VLe.ptr) (.cons (by first | exact VLe.refl _ | exact VLe.int (by omega) | exact VLe.mt | exact vle_q0 | exact VLe.osl | exact VLe.ptr) .nil)), Owns.app (.cons rfl .nil) (.cons rfl .nil)⟩
        ·have b2 : ((allF m b n).getD ((allF m b n).length - 1) dr0).st = st := cmpI_zero.1 (by simpa using b2)
         refine OL.yes rfl ?_
         first | refine mvD rfl ?_ | refine mvO rfl ?_ | refine mvM rfl ?_
         refine OL.yes rfl ?_
         refine mvD rfl ?_
         refine OL.yes rfl ?_
         refine sub_i64 rfl rfl (by omega) ?_
         refine OL.yes rfl ?_
         refine ixO sl.Drawns rfl rfl (by omega) (by omega) (i := (allF m b n).length - 1) (by omega) ?_
         refine OL.yes rfl ?_
         first | refine faP fd.Drawn_1 rfl rfl ?_ | refine faR fd.Drawn_1 rfl rfl ?_ | refine faE fd.Drawn_1 rfl rfl ?_
         refine OL.yes rfl ?_
         refine ldEL ce.ints dr0 (by decide) rfl rfl (by omega) rfl ?_
         refine OL.yes rfl ?_
         first | refine faP fd.Drawn_1 rfl rfl ?_ | refine faR fd.Drawn_1 rfl rfl ?_ | refine faE fd.Drawn_1 rfl rfl ?_
         refine OL.yes rfl ?_
         first | refine ldRC ce.ints rfl ?_ | refine ldPC ce.ints rfl rfl rfl ?_
         refine OL.yes rfl ?_
         refine clv rfl (.cons (VLe.refl _) (.cons (VLe.refl _) (.nil))) (ref05_Compare (l := ((allF m b n).getD ((allF m b n).length - 1) dr0).w) (m := w) (by omega)) ?_
         refine OL.yes rfl ?_
         refine c_neq rfl rfl rfl ?_
         refine OL.yes rfl ?_
         refine pkF rfl rfl ?_
         refine pkT rfl rfl ?_
         refine OL.nil ?_
         refine AW.cond rfl (fun b3 => ?_) (fun b3 => ?_)
         ·have b3 : ((allF m b n).getD ((allF m b n).length - 1) dr0).w ≠ w := fun e => by rw [cmpI_zero.2 e] at b3; cases b3
          have hnl : ¬ LastIs (allF m b n) st w := fun x => b3 x.2.2
          have ha : allF m b (n + 1) = allF m b n ++ [⟨st, w, (u : Int)⟩] := by rw [allF, hd]; exact if_neg hnl
          refine AW.rg hE rfl ?_
          first | refine mvD rfl ?_ | refine mvO rfl ?_ | refine mvM rfl ?_
          first | refine ldPA ag.Drawn rfl rfl (vs := [_,_,_]) rfl (nb9 rfl) ?_ | refine ldRA ag.Drawn rfl (vs := [_,_,_]) rfl (nb9 rfl) ?_
          refine lt1 (y := dDr ⟨st, w, (u : Int)⟩) sl.Drawns (VD.ag (.cons (VC.d _) (.cons (VC.d _) (.cons (VC.d _) .nil)))) rfl (by decide) ?_
          refine apO sl.Drawns rfl rfl rfl (by rw [List.length_map]) (VC.d _) (fun y hy => by rw [List.mem_singleton.1 hy]; rfl) (by simp only [List.length_singleton]; omega) (by simp only [List.length_singleton]; omega) (.inr rfl) (ys := (allF m b (n + 1)).map dDr) (by rw [ha, List.map_append]; rfl) (n2 := (allF m b (n + 1)).length) (by rw [ha, List.length_append]; rfl) fun p2 c2 => ?_
          first | refine asD rfl ?_ | refine asO rfl ?_ | refine asM rfl ?_
          refine OL.nil ?_
          refine AW.rg hE rfl ?_
          refine mvD rfl ?_
          refine add_i64 rfl rfl (by omega) ?_
          refine asD rfl ?_
          refine OL.nil ?_
          exact AW.again (x := (n, p, c)) (n + 1, p2, c2) (by first | omega | (simp only []; omega)) ⟨by omega, Knows.app (.cons (VLe.refl _) (.cons (VLe.refl _) (.cons (VLe.refl _) (.cons (VLe.refl _) .nil)))) (.cons (by first | exact VLe.refl _ | exact VLe.int (by omega) | exact VLe.mt | exact vle_q0 | exact VLe.osl | exact VLe.ptr) (.cons (by first | exact VLe.refl _ | exact VLe.int (by omega) | exact VLe.mt | exact vle_q0 | exact VLe.osl | exact VLe.ptr) .nil)), Owns.app (.cons rfl .nil) (.cons rfl .nil)⟩
         ·have b3 : ((allF m b n).getD ((allF m b n).length - 1) dr0).w = w := cmpI_zero.1 (by simpa using b3)
          have ha : allF m b (n + 1) = allF m b n := by rw [allF, hd]; exact if_pos ⟨b1, b2, b3⟩
          refine AW.skip ?_
          refine AW.rg hE rfl ?_
          refine mvD rfl ?_
          refine add_i64 rfl rfl (by omega) ?_
          refine asD rfl ?_
          refine OL.nil ?_
          exact AW.again (x := (n, p, c)) (n + 1, p, c) (by first | omega | (simp only []; omega)) ⟨by omega, Knows.app (.cons (VLe.refl _) (.cons (VLe.refl _) (.cons (VLe.refl _) (.cons (VLe.refl _) .nil)))) (.cons (vle_of_eq (by rw [ha]; rfl)) (.cons (by first | exact VLe.refl _ | exact VLe.int (by omega) | exact VLe.mt | exact vle_q0 | exact VLe.osl | exact VLe.ptr) .nil)), Owns.app (.cons rfl .nil) (.cons (by rw [ha]; rfl) .nil)⟩
    ·try simp only [dx9] at h29
     refine AW.exit ?_
     refine AW.seq ?_
     obtain rfl : n = N := by omega
     refine AW.rg hE rfl ?_
     first | refine mvD rfl ?_ | refine mvO rfl ?_ | refine mvM rfl ?_
     first | refine asD rfl ?_ | refine asO rfl ?_ | refine asM rfl ?_
     refine asD rfl ?_
     refine OL.nil ?_
     exact AW.ret (RetQ.r ⟨_, .tmp rfl (.tmp rfl .nil), _, .cons (RO.row rfl (by rw [List.length_map]) rfl) (.cons (.le (by first | exact VLe.refl _ | exact VLe.mt | exact vle_q0 | exact VLe.int (by omega) | exact VLe.bool (by simp_all))) .nil), rfl⟩)
end Go.Proofs.YtjghehkgmanmbaaGreat

/-
  Walks of package checkpoint on any input, part 2: the best path (printed by mk2.py).
-/
import Derived.Test.YtjghehkgmanmbaaGreatKCwA
set_option linter.unusedVariables false
set_option linter.unusedSimpArgs false
namespace Go.Proofs.YtjghehkgmanmbaaGreat
open Go Go.AL
set_option maxRecDepth 6000 in
set_option maxHeartbeats 3200000 in
theorem checkpoint_BestA {h : RM} {w : List Int} {b : Int} (zz : h.Sz) (nw : w.length ≤ 1048576) : FSpec P F.checkpoint_Best [vRM h, .d (ints w), .d (dI b)] (.tup [.d (ints (bestA h w b).1), vQ (bestA h w b).2.1, .d (dI (bestA h w b).2.2.1), .d (dI (bestA h w b).2.2.2)]) := by
 refine FSpec.intro fn.checkpoint_Best (by rfl) (by rfl) (nb9 (by rfl)) fun E hE => (AW.sg hE rfl (bxA rfl rfl fun b3 => (asM rfl (al z.Rat rfl fun b7 => (asD rfl (asD rfl (OL.nil ?_)))))))
 refine AW.seq (AW.sg hE rfl (ldPA ag.Hidden rfl rfl (vs := [_,_,_,_,_,_,_,_,_,_,_]) rfl (nb9 rfl) (mvD rfl (clv rfl (.cons (VLe.refl _) (.cons (VLe.refl _) (.nil))) (checkpoint_refuseR zz nw) (asD rfl (OL.nil (AW.sg hE rfl ?_)))))))
 refine mvD rfl (c_neq rfl rfl rfl (OL.nil (AW.cond rfl (fun cw9 => ?_) (fun cw9 => ?_))))
 ·have cw9 : ¬ wrdE h w = 0 := by simpa using cw9
  have hdr := bestA_e (b := b) cw9
  refine AW.sg hE rfl (bd z.Rat pl.Rat (cs := [_,_,_]) rfl (mvD rfl (asM rfl (sto sz.Rat rfl rfl rfl rfl rfl (nb9 rfl) (cells2 := [_,_,_]) rfl (asD rfl (asD rfl (OL.nil ?_)))))))
  exact AW.ret (RetQ.r ⟨_, .tmp rfl (.cellA rfl rfl ag.Rat (nb9 rfl) (.tmp rfl (.tmp rfl .nil))), _, .cons (.le (by rw [hdr]; exact VLe.mt)) (.cons (.ag (.cons (.le (by rw [hdr]; show VLe _ (.d (dB (ofQ 0).neg)); rw [ofQ_zero]; exact VLe.refl _)) (.cons (.le (by rw [hdr]; show VLe _ (.d (u32s (ofQ 0).num)); rw [ofQ_zero]; exact VLe.mt)) (.cons (.le (by rw [hdr]; show VLe _ (.d (u32s (ofQ 0).den)); rw [ofQ_zero]; exact VLe.mt)) .nil)))) (.cons (.le (VLe.int (by rw [hdr]))) (.cons (.le (VLe.int (by rw [hdr]))) .nil))), rfl⟩)
 ·have cw9 : wrdE h w = 0 := by simpa using cw9
  obtain ⟨cp, k⟩ := wrdE_ok cw9
  obtain ⟨g, hv⟩ := chkP_good zz cp
  refine AW.boxW 3 (cellsHM (hm h)) rfl (vles_of_eq (V.ag.inj hv)) (AW.skip (AW.sg hE rfl (mvD rfl (lnL sl.ints rfl rfl (mvD rfl (clv rfl (.cons (VLe.refl _) (.cons (VLe.refl _) (.nil))) (checkpoint_StoredA nw) (mvT rfl ?_)))))))
  refine ex rfl rfl (ex rfl rfl (asD rfl (asD rfl (OL.nil (AW.seq (AW.sg hE rfl (mvD rfl ?_)))))))
  refine c_neq rfl rfl rfl (OL.nil (AW.cond rfl (fun cs => ?_) (fun cs => ?_)))
  ·have cs : ¬ (stoR w.length b).2 = 0 := by simpa using cs
   have sk : ¬ StoOK w.length b := fun s => cs (by rw [stoR_0 s])
   have hdr := bestA_1 cw9 sk
   have e1 : (stoR w.length b).2 = 1 := by rw [stoR_1 sk]
   refine AW.sg hE rfl (bd z.Rat pl.Rat (cs := [_,_,_]) rfl (mvD rfl (asM rfl (sto sz.Rat rfl rfl rfl rfl rfl (nb9 rfl) (cells2 := [_,_,_]) rfl (asD rfl (asD rfl (OL.nil ?_)))))))
   exact AW.ret (RetQ.r ⟨_, .tmp rfl (.cellA rfl rfl ag.Rat (nb9 rfl) (.tmp rfl (.tmp rfl .nil))), _, .cons (.le (by rw [hdr]; exact VLe.mt)) (.cons (.ag (.cons (.le (by rw [hdr]; show VLe _ (.d (dB (ofQ 0).neg)); rw [ofQ_zero]; exact VLe.refl _)) (.cons (.le (by rw [hdr]; show VLe _ (.d (u32s (ofQ 0).num)); rw [ofQ_zero]; exact VLe.mt)) (.cons (.le (by rw [hdr]; show VLe _ (.d (u32s (ofQ 0).den)); rw [ofQ_zero]; exact VLe.mt)) .nil)))) (.cons (.le (VLe.int (by rw [hdr]))) (.cons (.le (VLe.int (by rw [hdr]; exact e1))) .nil))), rfl⟩)
  ·have cs : (stoR w.length b).2 = 0 := by simpa using cs
   have sk := stoR_ok cs
   refine AW.skip (AW.seq (AW.sg hE rfl (mvD rfl (lnL sl.ints rfl rfl (c_eql rfl rfl rfl (OL.nil (AW.cond rfl (fun c49 => ?_) (fun c49 => ?_))))))))
   ·have c49 : w = [] := List.eq_nil_of_length_eq_zero (by have := of_decide_eq_true c49; omega)
    have zE := g.form.zE
    refine AW.seq (AW.sg hE rfl (faP fd.Hidden_2 rfl rfl (ldPA ag.Rat rfl rfl (vs := [_,_,_]) rfl (nb9 rfl) (clv rfl (.cons (VLe.refl _) .nil) (rational_SignQ (x := (hm h).empty) (by omega)) (c_eql rfl rfl rfl (OL.nil (AW.cond rfl (fun c53 => ?_) (fun c53 => ?_))))))))
    ·have c53 : (hm h).empty = 0 := sgnQ_eq.1 (of_decide_eq_true c53)
     have hdr := bestA_z cw9 sk c49 c53
     refine AW.sg hE rfl (bd z.Rat pl.Rat (cs := [_,_,_]) rfl (asM rfl (sto sz.Rat rfl rfl rfl rfl rfl (nb9 rfl) (cells2 := [_,_,_]) rfl (asD rfl (asD rfl (OL.nil ?_))))))
     exact AW.ret (RetQ.r ⟨_, .tmp rfl (.cellA rfl rfl ag.Rat (nb9 rfl) (.tmp rfl (.tmp rfl .nil))), _, .cons (.le (by rw [hdr]; exact VLe.mt)) (.cons (.ag (.cons (.le (by rw [hdr]; show VLe _ (.d (dB (ofQ 0).neg)); rw [ofQ_zero]; exact VLe.refl _)) (.cons (.le (by rw [hdr]; show VLe _ (.d (u32s (ofQ 0).num)); rw [ofQ_zero]; exact VLe.mt)) (.cons (.le (by rw [hdr]; show VLe _ (.d (u32s (ofQ 0).den)); rw [ofQ_zero]; exact VLe.mt)) .nil)))) (.cons (.le (VLe.int (by rw [hdr]))) (.cons (.le (VLe.int (by rw [hdr]))) .nil))), rfl⟩)
    ·have c53 : ¬ (hm h).empty = 0 := fun e => of_decide_eq_false c53 (sgnQ_eq.2 e)
     have hdr := bestA_n cw9 sk c49 c53
     refine AW.skip (AW.sg hE rfl (faP fd.Hidden_2 rfl rfl (ldPA ag.Rat rfl rfl (vs := [_,_,_]) rfl (nb9 rfl) (clv rfl (.cons (VLe.refl _) .nil) (fresh_Rat (q := (hm h).empty) (by omega)) (mvD rfl (asM rfl (sto sz.Rat rfl rfl rfl rfl rfl (nb9 rfl) (cells2 := [_,_,_]) rfl ?_)))))))
     refine asD rfl (asD rfl (OL.nil ?_))
     exact AW.ret (RetQ.r ⟨_, .tmp rfl (.cellA rfl rfl ag.Rat (nb9 rfl) (.tmp rfl (.tmp rfl .nil))), _, .cons (.le (by rw [hdr]; exact VLe.mt)) (.cons (.ag (.cons (.le (by rw [hdr]; exact VLe.refl _)) (.cons (.le (by rw [hdr]; exact VLe.refl _)) (.cons (.le (by rw [hdr]; exact VLe.refl _)) .nil)))) (.cons (.le (VLe.int (by rw [hdr]))) (.cons (.le (VLe.int (by rw [hdr]))) .nil))), rfl⟩)
   ·have c49 : ¬ w.length = 0 := by have := of_decide_eq_false c49; omega
    have h0 : w ≠ [] := fun e => c49 (by rw [e]; rfl)
    rw [bestA_w cw9 sk h0]
    obtain ⟨b, rfl⟩ : ∃ d : Nat, b = (d : Int) := ⟨b.toNat, by have := sk.2.1; omega⟩
    rw [Int.toNat_natCast]
    have hb : 1 ≤ b ∧ b ≤ 256 := ⟨by have := sk.2.1; omega, by have := sk.2.2; omega⟩
    rw [stoR_0 sk, Int.toNat_natCast]
    generalize hm h = h at *
    have f := g.form
    have k1 := k.1
    have s1 := f.sym1
    have n0 := f.st0
    have n1 := f.st1
    have l0 : 1 ≤ w.length := List.length_pos_iff.2 h0
    have hnk : numK w.length b ≤ 512 := Nat.le_trans (Nat.div_le_self ..) (by omega)
    refine AW.skip (AW.sg hE rfl (mvD rfl (lnL sl.ints rfl rfl (mvD rfl (add_i64 rfl rfl (by omega) (sub_i64 rfl rfl (by omega) (mvD rfl ?_)))))))
    refine bo rfl rfl (quoN (w.length + b - 1) b (by omega) (by omega) (by omega)) ?_
    rw [show (w.length + b - 1) / b = numK w.length b from rfl]
    refine mkL dQs [] sl.Ratss z.Rats vcs_mt_row rfl rfl (Nat.le_refl _) (by omega) (by omega) rfl fun b66 => (asO rfl (OL.nil (AW.sg hE rfl (faP fd.Hidden_5 rfl rfl (ldPC ce.Rats rfl rfl rfl (asD rfl (OL.nil ?_)))))))
    refine AW.seq (AW.sg hE rfl (mvD rfl (lnL sl.ints rfl rfl (sub_i64 rfl rfl (by omega) (asD rfl (OL.nil (AW.block ?_)))))))
    refine AW.whileK (α := Nat) [(1, _), (2, _), (3, _), (6, _), (7, _), (8, _), (9, _), (11, _), (13, _)] [(3, _), (7, _)] (fun d => [(14, .d (dQs (restF h w (min d (w.length - 1))))), (15, .d (dI ((w.length : Int) - 1 - d)))]) (fun d => [(66, .row b66 (numK w.length b) T.Rats 1 ((keptF h w b d).map dQs))]) (fun d => d ≤ w.length) (fun d => w.length - d) 0 (.cons (knD rfl) (.cons (knD rfl) (.cons (knP rfl) (.cons (knM rfl) (.cons (knP rfl) (.cons (knD rfl) (.cons (knD rfl) (.cons (knD rfl) (.cons (knO rfl) .nil))))))))) (.cons (owB rfl) (.cons (owB rfl) .nil)) ⟨Nat.zero_le _, .cons (vle_of_eq (by rw [Nat.zero_min]; rfl)) (.cons (VLe.int (by omega)) .nil), .cons (by rw [keptF_zero hb.1]; rfl) .nil⟩ ?_
    intro d h1
    have h1 : d ≤ w.length := h1
    have hkl := keptF_len h w b d
    refine AW.seq (AW.sg hE rfl (mvD rfl (c_geq rfl rfl rfl (OL.nil (AW.cond rfl (fun h73 => ?_) (fun h73 => ?_))))))
    ·try simp only [dx9] at h73
     refine AW.skip (AW.seq (AW.block ?_))
     have hdl : d < w.length := by omega
     have hmin : min d (w.length - 1) = d := Nat.min_eq_left (by omega)
     have hdn := div_numK hb.1 (show w.length - 1 - d < w.length by omega)
     refine AW.midK (α := Unit) [(1, _), (2, _), (3, _), (6, _), (7, _), (8, _), (9, _), (11, _), (13, _), (14, _), (15, _)] [(3, _), (7, _)] (fun _u => []) (fun _u => [(66, .row b66 (numK w.length b) T.Rats 1 ((keptF h w b (d + 1)).map dQs))]) (fun _u => True) (.cons (knD rfl) (.cons (knD rfl) (.cons (knP rfl) (.cons (knM rfl) (.cons (knP rfl) (.cons (knD rfl) (.cons (knD rfl) (.cons (knD rfl) (.cons (knO rfl) (.cons (knD rfl) (.cons (knD rfl) .nil))))))))))) (.cons (owB rfl) (.cons (owB rfl) .nil)) ?_ ?_
     ·refine AW.midK (α := Unit) [(1, _), (2, _), (3, _), (6, _), (7, _), (8, _), (9, _), (11, _), (13, _), (14, _), (15, _)] [(3, _), (7, _), (66, _)] (fun _u => [(87, .d (dB (decide (w.length - 1 - d + 1 = w.length ∨ (w.length - 1 - d + 1) % b = 0))))]) (fun _u => []) (fun _u => True) (.cons (knD rfl) (.cons (knD rfl) (.cons (knP rfl) (.cons (knM rfl) (.cons (knP rfl) (.cons (knD rfl) (.cons (knD rfl) (.cons (knD rfl) (.cons (knO rfl) (.cons (knD rfl) (.cons (knD rfl) .nil))))))))))) (.cons (owB rfl) (.cons (owB rfl) (.cons (owR rfl) .nil))) ?_ ?_
      ·refine AW.rg hE rfl (mvD rfl (mvD rfl (lnL sl.ints rfl rfl (sub_i64 rfl rfl (by omega) (c_eql rfl rfl rfl (OL.split 80 rfl (fun g80 => ?_) (fun g80 => ?_)))))))
       ·have g80 : w.length - 1 - d + 1 = w.length := by have := of_decide_eq_true g80; omega
        refine mvD rfl (OL.no rfl (by decide) (OL.no rfl (by decide) (OL.no rfl (by decide) (OL.no rfl (by decide) (OL.no rfl (by decide) (pkT rfl rfl (OL.nil ?_)))))))
        exact AW.reach () ⟨trivial, Knows.app (.cons (VLe.refl _) (.cons (VLe.refl _) (.cons (VLe.refl _) (.cons (VLe.refl _) (.cons (VLe.refl _) (.cons (VLe.refl _) (.cons (VLe.refl _) (.cons (VLe.refl _) (.cons (VLe.refl _) (.cons (VLe.refl _) (.cons (VLe.refl _) .nil))))))))))) (.cons (VLe.bool (decide_eq_true (.inl g80)).symm) .nil), Owns.app (.cons rfl (.cons rfl (.cons rfl .nil))) (.nil)⟩
       ·have g80 : ¬ w.length - 1 - d + 1 = w.length := fun e => of_decide_eq_false g80 (by omega)
        refine mvD rfl (OL.yes rfl (mvD rfl (OL.yes rfl (bo rfl rfl (bin_add (c := ((w.length - 1 - d + 1 : Nat) : Int)) (by omega) (wrap_i64 (by omega))) (OL.yes rfl (mvD rfl (OL.yes rfl ?_)))))))
        refine bo rfl rfl (remN (w.length - 1 - d + 1) b (by omega) (by omega)) (OL.yes rfl (c_eql rfl rfl rfl (pkF rfl rfl (OL.nil ?_))))
        exact AW.reach () ⟨trivial, Knows.app (.cons (VLe.refl _) (.cons (VLe.refl _) (.cons (VLe.refl _) (.cons (VLe.refl _) (.cons (VLe.refl _) (.cons (VLe.refl _) (.cons (VLe.refl _) (.cons (VLe.refl _) (.cons (VLe.refl _) (.cons (VLe.refl _) (.cons (VLe.refl _) .nil))))))))))) (.cons (VLe.bool (decide_eq_decide.2 ⟨fun e => .inr (by omega), fun e => by have := e.resolve_left g80; omega⟩)) .nil), Owns.app (.cons rfl (.cons rfl (.cons rfl .nil))) (.nil)⟩
      rintro ⟨⟩ hφ
      refine AW.cond rfl (fun hc => ?_) (fun hc => ?_)
      ·have hc : (w.length - 1 - d + 1 = w.length ∨ (w.length - 1 - d + 1) % b = 0) := of_decide_eq_true hc
       refine AW.rg hE rfl (mvO rfl (mvD rfl (mvD rfl (bo rfl rfl (quoN (w.length - 1 - d) b (by omega) (by omega) (by omega)) (mvD rfl (ixOn sl.Ratss rfl rfl hdn (stE sz.Rats rfl (VC.d _).vd rfl rfl (by rw [List.length_map, hkl]; exact hdn) (es2 := (keptF h w b (d + 1)).map dQs) (by rw [keptF_set hb.1 hdl hc, List.map_set, hmin]) ?_)))))))
       refine OL.nil ?_
       exact AW.reach () ⟨trivial, Knows.app (.cons (VLe.refl _) (.cons (VLe.refl _) (.cons (VLe.refl _) (.cons (VLe.refl _) (.cons (VLe.refl _) (.cons (VLe.refl _) (.cons (VLe.refl _) (.cons (VLe.refl _) (.cons (VLe.refl _) (.cons (VLe.refl _) (.cons (VLe.refl _) .nil))))))))))) (.nil), Owns.app (.cons rfl (.cons rfl .nil)) (.cons rfl .nil)⟩
      ·have hc : ¬ (w.length - 1 - d + 1 = w.length ∨ (w.length - 1 - d + 1) % b = 0) := of_decide_eq_false hc
       refine AW.skip ?_
       exact AW.reach () ⟨trivial, Knows.app (.cons (VLe.refl _) (.cons (VLe.refl _) (.cons (VLe.refl _) (.cons (VLe.refl _) (.cons (VLe.refl _) (.cons (VLe.refl _) (.cons (VLe.refl _) (.cons (VLe.refl _) (.cons (VLe.refl _) (.cons (VLe.refl _) (.cons (VLe.refl _) .nil))))))))))) (.nil), Owns.app (.cons rfl (.cons rfl .nil)) (.cons (by rw [keptF_skip hb.1 hdl hc]; rfl) .nil)⟩
     rintro ⟨⟩ hφ
     refine AW.sg hE rfl (mvD rfl (c_gtr rfl rfl rfl (OL.nil (AW.cond rfl (fun h95 => ?_) (fun h95 => ?_)))))
     ·try simp only [dx9] at h95
      have hx := k.symX (t := w.length - 1 - d) (by omega)
      have hzr := restF_szBW f w (d := d) (by omega)
      refine AW.dg 1 [0,1,2,3,4,5,6,7] order_free hE rfl (by kernel_rfl) (OI.of_OL (os := [_,_,_,_,_,_,_,_]) rfl ?_)
      refine ldPA ag.Hidden rfl rfl (vs := [_,_,_,_,_,_,_,_,_,_,_]) rfl (nb9 rfl) (mvD rfl (mvD rfl (ixLe (w.length - 1 - d) sl.ints 0 rfl rfl (by omega) (by omega) rfl rfl (ldRC ce.int rfl ?_))))
      rw [hx.2]
      refine mvD rfl (clv rfl (.cons (VLe.refl _) (.cons (VLe.refl _) (.cons (vle_of_eq (congrArg (fun z => V.d (dQs (restF h w z))) hmin)) .nil))) (checkpoint_before (C := 537919488) f hx.1 (restF_lenW f w d) hzr ⟨by decide, by decide⟩) (asD rfl (OL.nil (AW.rg hE rfl (mvD rfl (sub_i64 rfl rfl (by omega) (asD rfl ?_)))))))
      refine OL.nil ?_
      exact AW.again (x := d) (d + 1) (by omega) ⟨by omega, Knows.app (.cons (VLe.refl _) (.cons (VLe.refl _) (.cons (VLe.refl _) (.cons (VLe.refl _) (.cons (VLe.refl _) (.cons (VLe.refl _) (.cons (VLe.refl _) (.cons (VLe.refl _) (.cons (VLe.refl _) .nil))))))))) (.cons (vle_of_eq (congrArg (fun z => V.d (dQs (restF h w z))) (show d + 1 = min (d + 1) (w.length - 1) by omega))) (.cons (VLe.int (by omega)) .nil)), Owns.app (.cons rfl (.cons rfl .nil)) (.cons rfl .nil)⟩
     ·try simp only [dx9] at h95
      refine AW.skip (AW.rg hE rfl (mvD rfl (sub_i64 rfl rfl (by omega) (asD rfl (OL.nil ?_)))))
      exact AW.again (x := d) (d + 1) (by omega) ⟨by omega, Knows.app (.cons (VLe.refl _) (.cons (VLe.refl _) (.cons (VLe.refl _) (.cons (VLe.refl _) (.cons (VLe.refl _) (.cons (VLe.refl _) (.cons (VLe.refl _) (.cons (VLe.refl _) (.cons (VLe.refl _) .nil))))))))) (.cons (vle_of_eq (congrArg (fun z => V.d (dQs (restF h w z))) (show min d (w.length - 1) = min (d + 1) (w.length - 1) by omega))) (.cons (VLe.int (by omega)) .nil)), Owns.app (.cons rfl (.cons rfl .nil)) (.cons rfl .nil)⟩
    ·try simp only [dx9] at h73
     refine AW.exit (AW.sg hE rfl (asM rfl (OL.nil (AW.sg hE rfl (al z.Rat rfl fun b17 => (OL.nil (AW.sg hE rfl ?_)))))))
     refine asD rfl (OL.nil (AW.seq (AW.sg hE rfl (mvO rfl (lnO sl.Ratss rfl rfl (mvD rfl (OL.nil ?_)))))))
     refine AW.block ?_
     obtain rfl : d = w.length := by omega
     refine AW.own 16 179 T.int 1 rfl rfl (AW.boxW 17 (cellsQ 0) rfl vles_q ?_)
     refine AW.whileK (α := Nat × Nat × Nat × Nat) [(1, _), (2, _), (3, _), (7, _), (11, _), (17, _), (103, _), (104, _)] [(3, _), (66, _)] (fun (q, t, bp, cp) => [(16, .osl 179 bp t cp), (18, .d (dI (toF h w t))), (105, .d (dI q))]) (fun (q, t, bp, cp) => [(179, .row bp cp T.int 1 ((pathF h w t).map dI)), (17, .box b17 T.Rat (cellsQ (if t = 0 then 0 else bestP h w))), (7, .box b7 T.Rat [.d (dB false), .mt, .mt])]) (fun (q, t, bp, cp) => t = tK w.length b q ∧ q ≤ numK w.length b ∧ (0 < t → bestP h w ≠ 0)) (fun (q, t, bp, cp) => numK w.length b - q) (0, 0, 0, 0) (.cons (knD rfl) (.cons (knD rfl) (.cons (knP rfl) (.cons (knP rfl) (.cons (knD rfl) (.cons (knP rfl) (.cons (knO rfl) (.cons (knD rfl) .nil)))))))) (.cons (owB rfl) (.cons (owR rfl) .nil)) ⟨⟨tK_zero _ _, Nat.zero_le _, fun e => absurd e (by decide)⟩, .cons (VLe.refl _) (.cons (VLe.refl _) (.cons (VLe.refl _) .nil)), .cons rfl (.cons rfl (.cons rfl .nil))⟩ ?_
     rintro ⟨q, t, bp, cp⟩ ⟨ht, h2, hne⟩
     have h2 : q ≤ numK w.length b := h2
     refine AW.sg hE rfl (c_lss rfl rfl rfl (OL.nil (AW.seq (AW.cond rfl (fun h106 => ?_) (fun h106 => ?_)))))
     ·try simp only [dx9] at h106
      refine AW.skip (AW.seq (AW.block (AW.seq ?_)))
      obtain ⟨a, l, ha, e1, e2, hll, hal, hln, hl1, hta, hl9⟩ := block_facts k1 hb (show q < numK w.length b by omega)
      have htq : t = a := by rw [← hta]; exact ht
      subst htq
      refine AW.rg hE rfl (mvD rfl (ixOn sl.Ratss rfl rfl (by omega) (ldEL ce.Rats [] (by decide) rfl rfl (by omega) rfl ?_)))
      rw [keptF_get hb.1 (show q < numK w.length b by omega), ← hll]
      refine asD rfl (asD rfl (OL.nil (AW.sg hE rfl (mvD rfl (mvD rfl (bo rfl rfl (bin_mul (c := (t : Int)) e1 (wrap_i64 (by omega))) (mvD rfl ?_)))))))
      refine bo rfl rfl (bin_add (c := ((q + 1 : Nat) : Int)) (by omega) (wrap_i64 (by omega))) (mvD rfl (bo rfl rfl (bin_mul (c := ((t + b : Nat) : Int)) e2 (wrap_i64 (by omega))) (mvD rfl (lnL sl.ints rfl rfl (mn rfl rfl (c := ((l + 1 : Nat) : Int)) (by omega) (bo rfl rfl (bin_sub (c := (l : Int)) (by omega) (wrap_i64 (by omega))) (asD rfl ?_)))))))
      refine asD rfl (OL.nil (AW.sg hE rfl (mvD rfl (mvD rfl (sub_i64 rfl rfl (by omega) (bo rfl rfl (bin_add (c := ((l - t + 1 : Nat) : Int)) (by omega) (wrap_i64 (by omega))) (mkL dQs [] sl.Ratss z.Rats vcs_mt_row rfl rfl (Nat.le_refl _) (by omega) (by omega) rfl fun b125 => ?_)))))))
      refine asO rfl (OL.nil (AW.seq (AW.sg hE rfl (mvD rfl (asD rfl (OL.nil (AW.block ?_)))))))
      refine AW.whileK (α := Nat) [(1, _), (2, _), (3, _), (7, _), (11, _), (16, _), (17, _), (18, _), (21, _), (23, _), (103, _), (104, _), (105, _)] [(3, _), (7, _), (17, _), (66, _), (179, _)] (fun e => [(20, .d (dQs (restF h w (w.length - 1 - l + min e (l - t))))), (24, .d (dI ((l : Int) - e)))]) (fun e => [(125, .row b125 (l - t + 1) T.Rats 1 ((colsF h w t (l - t + 1) e).map dQs))]) (fun e => e ≤ l - t + 1) (fun e => l - t + 1 - e) 0 (.cons (knD rfl) (.cons (knD rfl) (.cons (knP rfl) (.cons (knP rfl) (.cons (knD rfl) (.cons (knO rfl) (.cons (knP rfl) (.cons (knD rfl) (.cons (knD rfl) (.cons (knO rfl) (.cons (knO rfl) (.cons (knD rfl) (.cons (knD rfl) .nil))))))))))))) (.cons (owB rfl) (.cons (owB rfl) (.cons (owB rfl) (.cons (owR rfl) (.cons (owR rfl) .nil))))) ⟨Nat.zero_le _, .cons (vle_of_eq (by rw [Nat.zero_min]; rfl)) (.cons (VLe.int (by omega)) .nil), .cons (by rw [colsF_zero]; rfl) .nil⟩ ?_
      intro e h3
      have h3 : e ≤ l - t + 1 := h3
      have hcl := colsF_len h w t (l - t + 1) e
      refine AW.seq (AW.sg hE rfl (mvD rfl (mvD rfl (c_geq rfl rfl rfl (OL.nil (AW.cond rfl (fun h129 => ?_) (fun h129 => ?_)))))))
      ·try simp only [dx9] at h129
       refine AW.skip (AW.seq (AW.block (AW.seq ?_)))
       have he : e < l - t + 1 := by omega
       have hmin : min e (l - t) = e := Nat.min_eq_left (by omega)
       refine AW.rg hE rfl (mvO rfl (mvD rfl (mvD rfl (bo rfl rfl (bin_sub (c := ((l - t + 1 - 1 - e : Nat) : Int)) (by omega) (wrap_i64 (by omega))) (mvD rfl (ixOn sl.Ratss rfl rfl (by omega) (stE sz.Rats rfl (VC.d _).vd rfl rfl (by rw [List.length_map, hcl]; omega) (es2 := (colsF h w t (l - t + 1) (e + 1)).map dQs) (by rw [colsF_set he, List.map_set, hmin, show w.length - 1 - (t + (l - t + 1 - 1 - e)) = w.length - 1 - l + e by omega]) ?_)))))))
       refine OL.nil (AW.sg hE rfl (mvD rfl (mvD rfl (c_gtr rfl rfl rfl (OL.nil (AW.cond rfl (fun h140 => ?_) (fun h140 => ?_)))))))
       ·try simp only [dx9] at h140
        have hx := k.symX (t := l - e) (by omega)
        have hzr := restF_szBW f w (d := w.length - 1 - l + e) (by omega)
        refine AW.dg 1 [0,1,2,3,4,5,6,7] order_free hE rfl (by kernel_rfl) (OI.of_OL (os := [_,_,_,_,_,_,_,_]) rfl ?_)
        refine ldPA ag.Hidden rfl rfl (vs := [_,_,_,_,_,_,_,_,_,_,_]) rfl (nb9 rfl) (mvD rfl (mvD rfl (ixLe (l - e) sl.ints 0 rfl rfl (by omega) (by omega) rfl rfl (ldRC ce.int rfl ?_))))
        rw [hx.2]
        refine mvD rfl ?_
        refine clv rfl (.cons (VLe.refl _) (.cons (VLe.refl _) (.cons (vle_of_eq (congrArg (fun z => V.d (dQs (restF h w z))) (congrArg (fun z => w.length - 1 - l + z) hmin))) .nil))) (checkpoint_before (C := 537919488) f hx.1 (restF_lenW f w _) hzr ⟨by decide, by decide⟩) ?_
        refine asD rfl (OL.nil (AW.rg hE rfl (mvD rfl (sub_i64 rfl rfl (by omega) (asD rfl (OL.nil ?_))))))
        exact AW.again (x := e) (e + 1) (by omega) ⟨by omega, Knows.app (.cons (VLe.refl _) (.cons (VLe.refl _) (.cons (VLe.refl _) (.cons (VLe.refl _) (.cons (VLe.refl _) (.cons (VLe.refl _) (.cons (VLe.refl _) (.cons (VLe.refl _) (.cons (VLe.refl _) (.cons (VLe.refl _) (.cons (VLe.refl _) (.cons (VLe.refl _) (.cons (VLe.refl _) .nil))))))))))))) (.cons (vle_of_eq (by show V.d (dQs (beforeF h (symX w (l - e)) (restF h w (w.length - 1 - l + e)))) = _; rw [show min (e + 1) (l - t) = e + 1 by omega, ← Nat.add_assoc, restF, show w.length - 1 - (w.length - 1 - l + e) = l - e by omega])) (.cons (VLe.int (by omega)) .nil)), Owns.app (.cons rfl (.cons rfl (.cons rfl (.cons rfl (.cons rfl .nil))))) (.cons rfl .nil)⟩
       ·try simp only [dx9] at h140
        refine AW.skip (AW.rg hE rfl (mvD rfl (sub_i64 rfl rfl (by omega) (asD rfl (OL.nil ?_)))))
        exact AW.again (x := e) (e + 1) (by omega) ⟨by omega, Knows.app (.cons (VLe.refl _) (.cons (VLe.refl _) (.cons (VLe.refl _) (.cons (VLe.refl _) (.cons (VLe.refl _) (.cons (VLe.refl _) (.cons (VLe.refl _) (.cons (VLe.refl _) (.cons (VLe.refl _) (.cons (VLe.refl _) (.cons (VLe.refl _) (.cons (VLe.refl _) (.cons (VLe.refl _) .nil))))))))))))) (.cons (vle_of_eq (congrArg (fun z => V.d (dQs (restF h w (w.length - 1 - l + z)))) (show min e (l - t) = min (e + 1) (l - t) by omega))) (.cons (VLe.int (by omega)) .nil)), Owns.app (.cons rfl (.cons rfl (.cons rfl (.cons rfl (.cons rfl .nil))))) (.cons rfl .nil)⟩
      ·try simp only [dx9] at h129
       refine AW.exit (AW.sg hE rfl (mvO rfl (lnO sl.Ratss rfl rfl (mvD rfl (OL.nil (AW.block ?_))))))
       obtain rfl : e = l - t + 1 := by omega
       refine AW.whileK (α := Nat × Nat × Nat) [(1, _), (2, _), (3, _), (7, _), (11, _), (17, _), (21, _), (103, _), (104, _), (105, _), (148, _), (149, _)] [(3, _), (66, _), (125, _)] (fun (j, bp, cp) => [(16, .osl 179 bp (t + j) cp), (18, .d (dI (toF h w (t + j)))), (150, .d (dI j))]) (fun (j, bp, cp) => [(179, .row bp cp T.int 1 ((pathF h w (t + j)).map dI)), (17, .box b17 T.Rat (cellsQ (if t + j = 0 then 0 else bestP h w))), (7, .box b7 T.Rat [.d (dB false), .mt, .mt])]) (fun (j, bp, cp) => j ≤ l - t + 1 ∧ (0 < t + j → bestP h w ≠ 0)) (fun (j, bp, cp) => l - t + 1 - j) (0, bp, cp) (.cons (knD rfl) (.cons (knD rfl) (.cons (knP rfl) (.cons (knP rfl) (.cons (knD rfl) (.cons (knP rfl) (.cons (knD rfl) (.cons (knO rfl) (.cons (knD rfl) (.cons (knD rfl) (.cons (knO rfl) (.cons (knD rfl) .nil)))))))))))) (.cons (owB rfl) (.cons (owR rfl) (.cons (owR rfl) .nil))) ⟨⟨Nat.zero_le _, hne⟩, .cons (VLe.refl _) (.cons (VLe.refl _) (.cons (VLe.refl _) .nil)), .cons rfl (.cons rfl (.cons rfl .nil))⟩ ?_
       rintro ⟨j, p7, c7⟩ ⟨h4, hn7⟩
       have h4 : j ≤ l - t + 1 := h4
       have hpl := pathF_len h w (t + j)
       refine AW.sg hE rfl (c_lss rfl rfl rfl (OL.nil (AW.seq (AW.cond rfl (fun h151 => ?_) (fun h151 => ?_)))))
       ·try simp only [dx9] at h151
        refine AW.skip (AW.seq (AW.block (AW.sg hE rfl (mvD rfl (ixOn sl.Ratss rfl rfl (by omega) (ldEL ce.Rats [] (by decide) rfl rfl (by rw [hcl]; omega) rfl ?_))))))
        rw [colsF_get (show j < l - t + 1 by omega)]
        refine asD rfl (asD rfl (OL.nil (AW.seq ?_)))
        have hx := k.symX (t := t + j) (by omega)
        have hzr := restF_szBW f w (d := w.length - 1 - (t + j)) (by omega)
        have htr := toF_range n0 w (t + j)
        have hps := aheadF_szW f (toF h w (t + j)) (symX w (t + j)) hzr (by decide) h.st
        refine AW.dg 1 [0,1,2,3,4,5,6,7,8,9,10,11,12,13,14,15] order_free hE rfl (by kernel_rfl) (OI.of_OL (os := [_,_,_,_,_,_,_,_,_,_,_,_,_,_,_,_]) rfl ?_)
        refine ldPA ag.Hidden rfl rfl (vs := [_,_,_,_,_,_,_,_,_,_,_]) rfl (nb9 rfl) (mvD rfl (mvD rfl (mvD rfl (mvD rfl (add_i64 rfl rfl (by omega) (ixLe (t + j) sl.ints 0 rfl rfl (by omega) (by omega) rfl rfl (ldRC ce.int rfl ?_)))))))
        rw [hx.2]
        refine mvD rfl (clv rfl (.cons (VLe.refl _) (.cons (VLe.refl _) (.cons (VLe.refl _) (.cons (VLe.refl _) .nil)))) (checkpoint_ahead (C := 537919488) f htr hx.1 (restF_lenW f w _) hzr ⟨by decide, by decide⟩) (mvT rfl (ex rfl rfl (ex rfl rfl (al z.Rat rfl fun b27 => (sto sz.Rat rfl rfl rfl rfl rfl (nb9 rfl) (cells2 := [_,_,_]) rfl (asD rfl ?_)))))))
        refine OL.nil ?_
        refine AW.midK (α := Unit) [(1, _), (2, _), (3, _), (7, _), (11, _), (16, _), (17, _), (18, _), (21, _), (28, _), (103, _), (104, _), (105, _), (148, _), (149, _), (150, _)] [(3, _), (66, _), (125, _), (179, _)] (fun _u => []) (fun _u => [(17, .box b17 T.Rat (cellsQ (bestP h w))), (7, .box b7 T.Rat [.d (dB false), .mt, .mt])]) (fun _u => bestP h w ≠ 0) (.cons (knD rfl) (.cons (knD rfl) (.cons (knP rfl) (.cons (knP rfl) (.cons (knD rfl) (.cons (knO rfl) (.cons (knP rfl) (.cons (knD rfl) (.cons (knD rfl) (.cons (knD rfl) (.cons (knO rfl) (.cons (knD rfl) (.cons (knD rfl) (.cons (knO rfl) (.cons (knD rfl) (.cons (knD rfl) .nil)))))))))))))))) (.cons (owB rfl) (.cons (owR rfl) (.cons (owR rfl) (.cons (owR rfl) .nil)))) ?_ ?_
        ·refine AW.sg hE rfl (mvD rfl (c_lss rfl rfl rfl (OL.nil (AW.cond rfl (fun hz => ?_) (fun hz => ?_)))))
         ·have hz : t + j = 0 := by
            rcases Nat.eq_zero_or_pos (t + j) with e | e
            ·exact e
            ·have e2 := toF_succ_nonneg h w (t + j - 1)
             rw [show t + j - 1 + 1 = t + j by omega] at e2
             have := of_decide_eq_true hz
             omega
          have hbp : (aheadF h (toF h w (t + j)) (symX w (t + j)) (restF h w (w.length - 1 - (t + j))) h.st).1 = bestP h w := by rw [hz]; rfl
          refine AW.sg hE rfl (ldPA ag.Rat rfl rfl (vs := [_,_,_]) rfl (nb9 rfl) (sto sz.Rat rfl rfl rfl rfl rfl (nb9 rfl) (cells2 := [_,_,_]) rfl (OL.nil (AW.seq ?_))))
          rw [hbp] at hps
          refine AW.rg hE rfl (ldPA ag.Rat rfl rfl (vs := [_,_,_]) rfl (nb9 rfl) (clv rfl (.cons (vle_of_eq (congrArg (fun z : Rat => vQ z) hbp)) .nil) (rational_SignQ (x := bestP h w) (by omega)) (c_eql rfl rfl rfl (OL.nil (AW.cond rfl (fun hs => ?_) (fun hs => ?_))))))
          ·have hs : bestP h w = 0 := sgnQ_eq.1 (of_decide_eq_true hs)
           refine AW.sg hE rfl (bd z.Rat pl.Rat (cs := [_,_,_]) rfl (asM rfl (sto sz.Rat rfl rfl rfl rfl rfl (nb9 rfl) (cells2 := [_,_,_]) rfl (asD rfl (asD rfl (OL.nil ?_))))))
           exact AW.ret (RetQ.r ⟨_, .tmp rfl (.cellA rfl rfl ag.Rat (nb9 rfl) (.tmp rfl (.tmp rfl .nil))), _, .cons (.le (by rw [ckP, if_pos hs]; exact VLe.mt)) (.cons (.ag (.cons (.le (by rw [if_pos hs, ofQ_zero]; exact VLe.refl _)) (.cons (.le (by rw [if_pos hs, ofQ_zero]; exact VLe.mt)) (.cons (.le (by rw [if_pos hs, ofQ_zero]; exact VLe.mt)) .nil)))) (.cons (.le (VLe.int (by show _ = ((ckS h w b : Nat) : Int); rw [ckS, if_pos hs]; rfl))) (.cons (.le (VLe.int (by show _ = ckE h w; rw [ckE, if_pos hs]))) .nil))), rfl⟩)
          ·have hb0 : bestP h w ≠ 0 := fun e => of_decide_eq_false hs (sgnQ_eq.2 e)
           refine AW.skip ?_
           exact AW.reach () ⟨hb0, Knows.app (.cons (VLe.refl _) (.cons (VLe.refl _) (.cons (VLe.refl _) (.cons (VLe.refl _) (.cons (VLe.refl _) (.cons (VLe.refl _) (.cons (VLe.refl _) (.cons (VLe.refl _) (.cons (VLe.refl _) (.cons (VLe.refl _) (.cons (VLe.refl _) (.cons (VLe.refl _) (.cons (VLe.refl _) (.cons (VLe.refl _) (.cons (VLe.refl _) (.cons (VLe.refl _) .nil)))))))))))))))) (.nil), Owns.app (.cons rfl (.cons rfl (.cons rfl (.cons rfl .nil)))) (.cons (by rw [← hbp]; rfl) (.cons rfl .nil))⟩
         ·have hz : t + j ≠ 0 := fun e => by rw [e] at hz; exact absurd hz (by show ¬ decide ((-1 : Int) < 0) = false; decide)
          have hb0 := hn7 (by omega)
          refine AW.skip ?_
          exact AW.reach () ⟨hb0, Knows.app (.cons (VLe.refl _) (.cons (VLe.refl _) (.cons (VLe.refl _) (.cons (VLe.refl _) (.cons (VLe.refl _) (.cons (VLe.refl _) (.cons (VLe.refl _) (.cons (VLe.refl _) (.cons (VLe.refl _) (.cons (VLe.refl _) (.cons (VLe.refl _) (.cons (VLe.refl _) (.cons (VLe.refl _) (.cons (VLe.refl _) (.cons (VLe.refl _) (.cons (VLe.refl _) .nil)))))))))))))))) (.nil), Owns.app (.cons rfl (.cons rfl (.cons rfl (.cons rfl .nil)))) (.cons (congrArg (fun z => some (Blk.box b17 T.Rat (cellsQ z))) (if_neg hz : (if t + j = 0 then (0 : Rat) else bestP h w) = bestP h w)) (.cons rfl .nil))⟩
        rintro ⟨⟩ hb0
        refine AW.sg hE rfl (mvD rfl (asD rfl (OL.nil (AW.rg hE rfl (mvO rfl (mvD rfl (lt1 sl.ints (VC.d _).vd rfl (by decide) ?_)))))))
        refine apO sl.ints rfl rfl rfl (by rw [List.length_map, hpl]) (VC.d _) (by simp [D.cells]) (by simp; omega) (by simp; omega) (.inr rfl) (ys := (pathF h w (t + j + 1)).map dI) (by rw [pathF_succ, List.map_append]; rfl) (n2 := t + j + 1) (by simp) fun b8 c8 => (asO rfl (OL.nil (AW.rg hE rfl (add_i64 rfl rfl (by omega) (mvD rfl (OL.nil ?_))))))
        exact AW.again (x := (j, bp, cp)) (j + 1, b8, c8) (by (simp only []; omega)) ⟨⟨by omega, fun _ => hb0⟩, Knows.app (.cons (VLe.refl _) (.cons (VLe.refl _) (.cons (VLe.refl _) (.cons (VLe.refl _) (.cons (VLe.refl _) (.cons (VLe.refl _) (.cons (VLe.refl _) (.cons (VLe.refl _) (.cons (VLe.refl _) (.cons (VLe.refl _) (.cons (VLe.refl _) (.cons (VLe.refl _) .nil)))))))))))) (.cons (VLe.refl _) (.cons (VLe.refl _) (.cons (VLe.refl _) .nil))), Owns.app (.cons rfl (.cons rfl (.cons rfl .nil))) (.cons rfl (.cons rfl (.cons rfl .nil)))⟩
       ·try simp only [dx9] at h151
        refine AW.exit (AW.rg hE rfl (add_i64 rfl rfl (by omega) (mvD rfl (OL.nil ?_))))
        exact AW.again (x := (q, t, bp, cp)) (q + 1, t + j, p7, c7) (by simp only []; omega) ⟨⟨show t + j = _ by rw [hl9]; omega, by omega, fun _ => hn7 (by omega)⟩, Knows.app (.cons (VLe.refl _) (.cons (VLe.refl _) (.cons (VLe.refl _) (.cons (VLe.refl _) (.cons (VLe.refl _) (.cons (VLe.refl _) (.cons (VLe.refl _) (.cons (VLe.refl _) .nil)))))))) (.cons (VLe.refl _) (.cons (VLe.refl _) (.cons (VLe.refl _) .nil))), Owns.app (.cons rfl (.cons rfl .nil)) (.cons rfl (.cons rfl (.cons rfl .nil)))⟩
     ·try simp only [dx9] at h106
      refine AW.exit (AW.seq ?_)
      obtain rfl : q = numK w.length b := by omega
      have htn : t = w.length := by rw [ht]; exact tK_end hb.1
      have hb0 := hne (by omega)
      have hq : (if t = 0 then (0 : Rat) else bestP h w) = (if bestP h w = 0 then 0 else bestP h w) := (if_neg (by omega)).trans (if_neg hb0).symm
      refine AW.dg 1 [0,1,2,3,4,5,6] order_free hE rfl (by kernel_rfl) (OI.of_OL (os := [_,_,_,_,_,_,_]) rfl ?_)
      refine mvO rfl (ldPA ag.Rat rfl rfl (vs := [_,_,_]) rfl (nb9 rfl) (mvD rfl (asO rfl (sto sz.Rat rfl rfl rfl rfl rfl (nb9 rfl) (cells2 := [_,_,_]) rfl (asD rfl (asD rfl (OL.nil ?_)))))))
      exact AW.ret (RetQ.r ⟨_, .tmp rfl (.cellA rfl rfl ag.Rat (nb9 rfl) (.tmp rfl (.tmp rfl .nil))), _, .cons (RO.row rfl (by rw [List.length_map, pathF_len]) (by rw [ckP, if_neg hb0, htn])) (.cons (.ag (.cons (.le (vle_of_eq (congrArg (fun z : Rat => V.d (dB (ofQ z).neg)) hq))) (.cons (.le (vle_of_eq (congrArg (fun z : Rat => V.d (u32s (ofQ z).num)) hq))) (.cons (.le (vle_of_eq (congrArg (fun z : Rat => V.d (u32s (ofQ z).den)) hq))) .nil)))) (.cons (.le (VLe.int (by show _ = ((ckS h w b : Nat) : Int); rw [ckS, if_neg hb0]))) (.cons (.le (VLe.int (by show _ = ckE h w; rw [ckE, if_neg hb0]))) .nil))), rfl⟩)
end Go.Proofs.YtjghehkgmanmbaaGreat

/-
  Walks of package forward, part 2: the likelihood, posteriors (printed by mk2.py).
-/
import Derived.Test.YtoohdcpikkkanaaGreatKFwdA
set_option linter.unusedVariables false
set_option linter.unusedSimpArgs false
namespace Go.Proofs.YtoohdcpikkkanaaGreat
open Go Go.AL
theorem rational_DivQ {x y : Rat} (hx : sz x ≤ 68719476736) (hy : sz y ≤ 68719476736) (h0 : y ≠ 0) : FSpec P F.rational_Div [vQ x, vQ y] (.tup [vQ (x / y), .d (dI 0)]) := by
 have h := rational_Div (x := ofQ x) (y := ofQ y) (ofQ_ok (by omega)) (ofQ_ok (by omega))
 rw [q_ofQ, q_ofQ, if_neg h0, if_neg h0] at h; exact h
theorem fwd_likelihoodS {h : HM} {b B : Nat} {w : List Int} (f : HM.FormX b B h) (k : WordOK h w) (fz : FwdSz h w) : FSpec P F.forward_likelihood [vHM h, .d (ints w)] (vQ (likF h w)) := by
 have n0 := f.st0
 have n1 := f.st1
 have s1 := f.sym1
 have e3 := f.stop
 have k1 := k.1
 have zE := fz.empty
 refine FSpec.intro fn.forward_likelihood (by rfl) (by rfl) (nb9 (by rfl)) fun E hE => (AW.sg hE rfl (bxA rfl rfl fun b2 => (al z.Rat rfl fun b4 => (OL.nil (AW.seq (AW.sg hE rfl (mvD rfl ?_)))))))
 refine lnL sl.ints rfl rfl (c_eql rfl rfl rfl (OL.nil (AW.cond rfl (fun h0 => ?_) (fun h0 => ?_))))
 ·have h0 : w.length = 0 := by have := of_decide_eq_true h0; omega
  rw [show likF h w = h.empty from if_pos h0]
  exact AW.sg hE rfl (faP fd.Hidden_2 rfl rfl (ldPA ag.Rat rfl rfl (vs := [_,_,_]) rfl (nb9 rfl) (clv rfl (.cons (VLe.refl _) (.nil)) (fresh_Rat (q := h.empty) (by omega)) (sto sz.Rat rfl rfl rfl rfl rfl (nb9 rfl) (cells2 := [_,_,_]) rfl (OL.nil (AW.ret (RetQ.r ⟨_, .cellA rfl rfl ag.Rat (nb9 rfl) .nil, .ag (.cons (.le (VLe.refl _)) (.cons (.le (VLe.refl _)) (.cons (.le (VLe.refl _)) .nil)))⟩)))))))
 ·have h0 : w.length ≠ 0 := fun e => of_decide_eq_false h0 (by omega)
  rw [show likF h w = likN h (fwdF h w (w.length - 1)) h.st from if_neg h0]
  have hfl := fwdF_len h w (w.length - 1)
  refine AW.skip (AW.sg hE rfl (bd z.Rat pl.Rat (cs := [_,_,_]) rfl (al z.Rat rfl fun b5 => (sto sz.Rat rfl rfl rfl rfl rfl (nb9 rfl) (cells2 := [_,_,_]) rfl (OL.nil (AW.seq (AW.sg hE rfl ?_)))))))
  refine ldPA ag.Hidden rfl rfl (vs := [_,_,_,_,_,_,_,_,_,_,_]) rfl (nb9 rfl) (mvD rfl (clv rfl (.cons (VLe.refl _) (.cons (VLe.refl _) (.nil))) (fwd_forwardD f k fz) (mvD rfl (lnL sl.ints rfl rfl (bo rfl rfl (bin_sub (c := ((w.length - 1 : Nat) : Int)) (by omega) (wrap_i64 (by omega))) (ixLn sl.Ratss [] rfl rfl (by rw [List.length_map, List.length_range]; omega) rfl rfl (ldRC ce.Rats rfl ?_)))))))
  rw [map_getD_range (fwdF h w) [] (show w.length - 1 < w.length by omega)]
  refine lnL sl.Rats rfl rfl (mvD rfl (OL.nil (AW.block (AW.boxW 5 (cellsQ 0) rfl vles_q ?_))))
  refine AW.whileK (α := Nat) [(2, _), (4, _), (5, _), (22, _), (23, _)] [(2, _), (4, _)] (fun i => [(24, .d (dI i))]) (fun i => [(5, .box b5 T.Rat (cellsQ (likN h (fwdF h w (w.length - 1)) i)))]) (fun i => i ≤ h.st) (fun i => h.st - i) 0 (.cons (knP rfl) (.cons (knP rfl) (.cons (knP rfl) (.cons (knD rfl) (.cons (knD rfl) .nil))))) (.cons (owB rfl) (.cons (owB rfl) .nil)) ⟨Nat.zero_le _, .cons (VLe.refl _) .nil, .cons rfl .nil⟩ ?_
  intro i h1
  have h1 : i ≤ h.st := h1
  have zl := fz.lik (w.length - 1) i (by omega) h1
  refine AW.sg hE rfl (c_lss rfl rfl rfl (OL.nil (AW.seq (AW.cond rfl (fun h25 => ?_) (fun h25 => ?_)))))
  ·try simp only [dx9] at h25
   refine AW.skip (AW.seq (AW.block (AW.sg hE rfl (mvD rfl (ixLn sl.Rats 0 rfl rfl (by omega) rfl rfl (ldRA ag.Rat rfl (vs := [_,_,_]) rfl (nb9 rfl) (al z.Rat rfl fun b7 => ?_)))))))
   refine asD rfl (sto sz.Rat rfl rfl rfl rfl rfl (nb9 rfl) (cells2 := [_,_,_]) rfl (OL.nil ?_))
   have zi := fz.fwd (w.length - 1) (by omega) i
   have zt := fz.stop i
   have zm := fz.likM (w.length - 1) i (by omega)
   refine AW.dg 1 [0,1,2,3,4,5,6,7,8,9] order_free hE rfl (by kernel_rfl) (OI.of_OL (os := [_,_,_,_,_,_,_,_,_,_]) rfl ?_)
   refine ldPA ag.Rat rfl rfl (vs := [_,_,_]) rfl (nb9 rfl) (ldPA ag.Rat rfl rfl (vs := [_,_,_]) rfl (nb9 rfl) (faP fd.Hidden_5 rfl rfl (ldPC ce.Rats rfl rfl rfl (mvD rfl (ixLn sl.Rats 0 rfl rfl (by omega) rfl rfl (ldRA ag.Rat rfl (vs := [_,_,_]) rfl (nb9 rfl) (clv rfl (.cons (VLe.refl _) (.cons (VLe.refl _) .nil)) (rational_MulQ (by assumption) (by assumption)) ?_)))))))
   refine clv rfl (.cons (VLe.refl _) (.cons (VLe.refl _) .nil)) (rational_AddQ (by assumption) (by assumption)) ?_
   rw [show likN h (fwdF h w (w.length - 1)) i + (fwdF h w (w.length - 1)).getD i 0 * h.stop.getD i 0 = likN h (fwdF h w (w.length - 1)) (i + 1) from rfl]
   exact sto sz.Rat rfl rfl rfl rfl rfl (nb9 rfl) (cells2 := [_,_,_]) rfl (OL.nil (AW.rg hE rfl (add_i64 rfl rfl (by omega) (mvD rfl (OL.nil (AW.again (x := i) (i + 1) (by omega) ⟨by omega, Knows.app (.cons (VLe.refl _) (.cons (VLe.refl _) (.cons (VLe.refl _) (.cons (VLe.refl _) (.cons (VLe.refl _) .nil))))) (.cons (VLe.refl _) .nil), Owns.app (.cons rfl (.cons rfl .nil)) (.cons rfl .nil)⟩))))))
  ·try simp only [dx9] at h25
   refine AW.exit (AW.seq ?_)
   obtain rfl : i = h.st := by omega
   exact AW.rg hE rfl (ldPA ag.Rat rfl rfl (vs := [_,_,_]) rfl (nb9 rfl) (sto sz.Rat rfl rfl rfl rfl rfl (nb9 rfl) (cells2 := [_,_,_]) rfl (OL.nil (AW.ret (RetQ.r ⟨_, .cellA rfl rfl ag.Rat (nb9 rfl) .nil, .ag (.cons (.le (VLe.refl _)) (.cons (.le (VLe.refl _)) (.cons (.le (VLe.refl _)) .nil)))⟩)))))
theorem fwd_LikelihoodW {h : HM} {B : Nat} {w : List Int} (g : h.GoodW B) (k : WordOK h w) (fz : FwdSz h w) : FSpec P F.forward_Likelihood [vHM h, .d (ints w)] (.tup [vQ (likF h w), .d (dI 0)]) := by
 refine FSpec.intro fn.forward_Likelihood (by rfl) (by rfl) (nb9 (by rfl)) fun E hE => (AW.sg hE rfl (bxA rfl rfl fun b2 => (al z.Rat rfl fun b4 => (asD rfl (OL.nil (AW.seq (AW.sg hE rfl ?_)))))))
 refine ldPA ag.Hidden rfl rfl (vs := [_,_,_,_,_,_,_,_,_,_,_]) rfl (nb9 rfl) (mvD rfl (clv rfl (.cons (VLe.refl _) (.cons (VLe.refl _) (.nil))) (forward_refuseW g k) (asD rfl (OL.nil (AW.sg hE rfl (mvD rfl (c_neq rfl rfl (c := false) (by exact cne_f (by omega)) ?_)))))))
 refine OL.nil (AW.cond rfl (fun hno => absurd hno (by decide)) (fun _ => ?_))
 refine AW.skip (AW.sg hE rfl (ldPA ag.Hidden rfl rfl (vs := [_,_,_,_,_,_,_,_,_,_,_]) rfl (nb9 rfl) (mvD rfl (clv rfl (.cons (VLe.refl _) (.cons (VLe.refl _) (.nil))) (fwd_likelihoodS g.form k fz) (sto sz.Rat rfl rfl rfl rfl rfl (nb9 rfl) (cells2 := [_,_,_]) rfl (asD rfl (OL.nil ?_)))))))
 exact AW.ret (RetQ.r ⟨_, .cellA rfl rfl ag.Rat (nb9 rfl) (.tmp rfl .nil), _, .cons (.ag (.cons (.le (VLe.refl _)) (.cons (.le (VLe.refl _)) (.cons (.le (VLe.refl _)) .nil)))) (.cons (.le (VLe.refl _)) .nil), rfl⟩)
theorem fwd_likelihood {h : HM} {B : Nat} {w : List Int} (g : h.Good B) (k : WordOK h w) (fw : Few h w) : FSpec P F.forward_likelihood [vHM h, .d (ints w)] (vQ (likF h w)) := fwd_likelihoodS g.form k (fwdSz g.form fw)
set_option maxRecDepth 4000 in
set_option maxHeartbeats 1600000 in
theorem fwd_Posterior {h : HM} {B : Nat} {w : List Int} (g : h.Good B) (k : WordOK h w) (fw : Few h w) : FSpec P F.forward_Posterior [vHM h, .d (ints w)] (.tup [.d (dQss (postR h w)), .d (dI (postE h w))]) := by
 have f := g.form
 have n0 := f.st0
 have n1 := f.st1
 have s1 := f.sym1
 have e3 := f.stop
 have k1 := k.1
 have fl := fw.len
 have fs := fw.st
 have zE := f.zE
 have bB := f.bB
 have zl := lik_sz f fw
 refine FSpec.intro fn.forward_Posterior (by rfl) (by rfl) (nb9 (by rfl)) fun E hE => (AW.sg hE rfl (bxA rfl rfl fun b2 => (asM rfl (asD rfl (OL.nil (AW.seq (AW.sg hE rfl ?_)))))))
 refine ldPA ag.Hidden rfl rfl (vs := [_,_,_,_,_,_,_,_,_,_,_]) rfl (nb9 rfl) (mvD rfl (clv rfl (.cons (VLe.refl _) (.cons (VLe.refl _) (.nil))) (forward_refuse g k) (asD rfl (OL.nil (AW.sg hE rfl (mvD rfl (c_neq rfl rfl (c := false) (by exact cne_f (by omega)) ?_)))))))
 refine OL.nil (AW.cond rfl (fun hno => absurd hno (by decide)) (fun _ => ?_))
 refine AW.skip (AW.sg hE rfl (ldPA ag.Hidden rfl rfl (vs := [_,_,_,_,_,_,_,_,_,_,_]) rfl (nb9 rfl) (mvD rfl (clv rfl (.cons (VLe.refl _) (.cons (VLe.refl _) (.nil))) (fwd_likelihood g k fw) (al z.Rat rfl fun b7 => (sto sz.Rat rfl rfl rfl rfl rfl (nb9 rfl) (cells2 := [_,_,_]) rfl (OL.nil ?_)))))))
 refine AW.seq (AW.sg hE rfl (ldPA ag.Rat rfl rfl (vs := [_,_,_]) rfl (nb9 rfl) (clv rfl (.cons (VLe.refl _) (.nil)) (rational_SignQ (x := likF h w) (by omega)) (c_eql rfl rfl rfl (OL.nil (AW.cond rfl (fun hz => ?_) (fun hz => ?_)))))))
 ·have hz : likF h w = 0 := sgnQ_eq.1 (of_decide_eq_true hz)
  exact AW.sg hE rfl (asM rfl (asD rfl (OL.nil (AW.ret (RetQ.r ⟨_, .tmp rfl (.tmp rfl .nil), _, .cons (.le (by rw [postR, if_pos hz]; exact VLe.mt)) (.cons (.le (VLe.int (by rw [postE, if_pos hz]))) .nil), rfl⟩)))))
 ·have hz : likF h w ≠ 0 := fun e => of_decide_eq_false hz (sgnQ_eq.2 e)
  refine AW.skip (AW.seq (AW.dg 60 [0,1,3,4,2,5,6,7] order_free hE rfl (by kernel_rfl) (OI.of_OL (os := [_,_,_,_,_,_,_,_]) rfl ?_)))
  refine ldPA ag.Hidden rfl rfl (vs := [_,_,_,_,_,_,_,_,_,_,_]) rfl (nb9 rfl) (mvD rfl (ldPA ag.Hidden rfl rfl (vs := [_,_,_,_,_,_,_,_,_,_,_]) rfl (nb9 rfl) (mvD rfl (clXd rfl (.cons (VLe.refl _) (.cons (VLe.refl _) .nil)) (fwd_forward f k fw) rfl (by rfl) fun b28 c28 bs hbs => (clv rfl (.cons (VLe.refl _) (.cons (VLe.refl _) (.nil))) (fwd_backward f k fw) (asO rfl (asD rfl ?_)))))))
  refine OL.nil (AW.seq (AW.seq ?_))
  have hrs0 := map_zip_snd hbs
  generalize List.zip bs (rowsD h w w.length) = rs0 at hrs0 ⊢
  rw [← postD_zero] at hrs0
  refine AW.unmat 28 2000 rfl rfl (AW.rg hE rfl (mvO rfl (lnO sl.Ratss rfl rfl (mvD rfl (OL.nil (AW.block ?_))))))
  refine AW.whileK (α := Nat × List (Nat × List D)) [(4, _), (5, _), (7, _), (8, _), (9, _), (32, _), (33, _)] [(7, _)] (fun (t, rs) => [(34, .d (dI t))]) (fun (t, rs) => [(28, .row b28 c28 T.Rats 1 (rs.map hdP)), (2000, .pool T.Rat 3 rs)]) (fun (t, rs) => t ≤ w.length ∧ rs.map Prod.snd = postD h w t) (fun (t, rs) => w.length - t) (0, rs0) (.cons (knM rfl) (.cons (knD rfl) (.cons (knP rfl) (.cons (knO rfl) (.cons (knD rfl) (.cons (knO rfl) (.cons (knD rfl) .nil))))))) (.cons (owB rfl) .nil) ⟨⟨Nat.zero_le _, hrs0⟩, .cons (VLe.refl _) .nil, .cons rfl (.cons rfl .nil)⟩ ?_
  rintro ⟨t, rs⟩ ⟨h1, hrs⟩
  have h1 : t ≤ w.length := h1
  have hrs : rs.map Prod.snd = postD h w t := hrs
  have hrl : rs.length = w.length := (snd_len hrs).trans (postD_len h w t)
  refine AW.sg hE rfl (c_lss rfl rfl rfl (OL.nil (AW.seq (AW.cond rfl (fun h35 => ?_) (fun h35 => ?_)))))
  ·try simp only [dx9] at h35
   refine AW.skip (AW.seq (AW.block (AW.seq ?_)))
   obtain ⟨bt, hbt⟩ := snd_get hrs (postD_get (h := h) (w := w) (show t < w.length by omega))
   have hlen : ((fwdF h w t).map dQ).length = h.st := by rw [List.length_map, fwdF_len]
   have zf := fwd_szB f fw (t := t) (by omega)
   have zb := bwd_szB f fw (d := w.length - 1 - t) (by omega)
   have hcl := colsB_len h w w.length
   have hcg := colsB_get (h := h) (d := w.length) (show t < w.length by omega) (by omega)
   have hbl := bwdF_len h w (w.length - 1 - t)
   refine AW.takeN 2001 2000 t h.st rfl rfl hbt hlen ?_
   have hel : (rs.map hdP)[t]? = some (hdP (bt, (fwdF h w t).map dQ)) := by rw [List.getElem?_map, hbt]; rfl
   refine AW.rg hE rfl (mvD rfl (ixOn sl.Ratss rfl rfl (by omega) (ldLe (.rowC (by decide) rfl rfl hel ce.Rats rfl) (vle_hdP 2001 hlen) (asD rfl (asO rfl (OL.nil (AW.sg hE rfl ?_)))))))
   refine mvO rfl (lnO sl.Rats rfl rfl (mvD rfl (OL.nil (AW.block ?_))))
   refine AW.whileK (α := Nat) [(4, _), (5, _), (7, _), (8, _), (9, _), (10, _), (11, _), (32, _), (33, _), (34, _), (39, _), (40, _)] [(7, _), (28, _), (2000, _)] (fun i => [(41, .d (dI i))]) (fun i => [(2001, .row bt h.st T.Rat 3 ((mixR h w t i).map dQ))]) (fun i => i ≤ h.st) (fun i => h.st - i) 0 (.cons (knM rfl) (.cons (knD rfl) (.cons (knP rfl) (.cons (knO rfl) (.cons (knD rfl) (.cons (knD rfl) (.cons (knO rfl) (.cons (knO rfl) (.cons (knD rfl) (.cons (knD rfl) (.cons (knO rfl) (.cons (knD rfl) .nil)))))))))))) (.cons (owB rfl) (.cons (owR rfl) (.cons (owL rfl) .nil))) ⟨Nat.zero_le _, .cons (VLe.refl _) .nil, .cons (by rw [mixR_zero]; rfl) .nil⟩ ?_
   intro i h2
   have h2 : i ≤ h.st := h2
   have hml := mixR_len h w t i
   refine AW.sg hE rfl (c_lss rfl rfl rfl (OL.nil (AW.seq (AW.cond rfl (fun h42 => ?_) (fun h42 => ?_)))))
   ·try simp only [dx9] at h42
    refine AW.skip (AW.seq (AW.block (AW.sg hE rfl (mvD rfl (ixOn sl.Rats rfl rfl (by omega) (ldEAL ag.Rat 0 (by decide) rfl rfl (by omega) (vs := [_,_,_]) rfl (nb9 rfl) ?_))))))
    rw [mixR_get (show i < h.st by omega)]
    refine al z.Rat rfl fun b13 => (asD rfl (sto sz.Rat rfl rfl rfl rfl rfl (nb9 rfl) (cells2 := [_,_,_]) rfl (OL.nil ?_)))
    have zfi := zf.get (by decide) i
    have zbi := zb.get (by decide) i
    have zm := sz_mul ((fwdF h w t).getD i 0) ((bwdF h w (w.length - 1 - t)).getD i 0)
    refine AW.dg 1 [0,1,2,3,4,5,6,7,8,9,10,11,12,13,14,15,16,17] order_free hE rfl (by kernel_rfl) (OI.of_OL (os := [_,_,_,_,_,_,_,_,_,_,_,_,_,_,_,_,_,_]) rfl ?_)
    refine mvO rfl (mvD rfl (ldPA ag.Rat rfl rfl (vs := [_,_,_]) rfl (nb9 rfl) (mvD rfl (mvD rfl (ixLn sl.Ratss [] rfl rfl (by omega) rfl rfl (ldRC ce.Rats rfl ?_))))))
    rw [hcg]
    refine mvD rfl (ixLn sl.Rats 0 rfl rfl (by omega) rfl rfl (ldRA ag.Rat rfl (vs := [_,_,_]) rfl (nb9 rfl) (clv rfl (.cons (VLe.refl _) (.cons (VLe.refl _) .nil)) (rational_MulQ (by omega) (by omega)) (ldPA ag.Rat rfl rfl (vs := [_,_,_]) rfl (nb9 rfl) (clv rfl (.cons (VLe.refl _) (.cons (VLe.refl _) (.nil))) (rational_DivQ (x := (fwdF h w t).getD i 0 * (bwdF h w (w.length - 1 - t)).getD i 0) (y := likF h w) (by omega) (by omega) hz) ?_)))))
    rw [show (fwdF h w t).getD i 0 * (bwdF h w (w.length - 1 - t)).getD i 0 / likF h w = postQ h w t i from rfl]
    refine mvT rfl (ex rfl rfl (ex rfl rfl (ixOn sl.Rats rfl rfl (by omega) (stE sz.Rat rfl vd_q rfl rfl (by rw [List.length_map]; omega) (es2 := (mixR h w t (i + 1)).map dQ) (by rw [← mixR_set (show i < h.st by omega), List.map_set]) (OL.nil (AW.rg hE rfl (add_i64 rfl rfl (by omega) ?_)))))))
    refine mvD rfl (OL.nil ?_)
    exact AW.again (x := i) (i + 1) (by omega) ⟨by omega, Knows.app (.cons (VLe.refl _) (.cons (VLe.refl _) (.cons (VLe.refl _) (.cons (VLe.refl _) (.cons (VLe.refl _) (.cons (VLe.refl _) (.cons (VLe.refl _) (.cons (VLe.refl _) (.cons (VLe.refl _) (.cons (VLe.refl _) (.cons (VLe.refl _) (.cons (VLe.refl _) .nil)))))))))))) (.cons (VLe.refl _) .nil), Owns.app (.cons rfl (.cons rfl (.cons rfl .nil))) (.cons rfl .nil)⟩
   ·try simp only [dx9] at h42
    refine AW.exit ?_
    obtain rfl : i = h.st := by omega
    refine AW.back 2001 2000 t rs rfl rfl rfl (by omega) (by rw [List.length_map, mixR_len]) rfl (AW.rg hE rfl (add_i64 rfl rfl (by omega) (mvD rfl (OL.nil ?_))))
    exact AW.again (x := (t, rs)) (t + 1, rs.set t (bt, (mixR h w t h.st).map dQ)) (by (simp only []; omega)) ⟨⟨by omega, by rw [List.map_set, hrs, mixR_all]; exact postD_set (by omega)⟩, Knows.app (.cons (VLe.refl _) (.cons (VLe.refl _) (.cons (VLe.refl _) (.cons (VLe.refl _) (.cons (VLe.refl _) (.cons (VLe.refl _) (.cons (VLe.refl _) .nil))))))) (.cons (VLe.refl _) .nil), Owns.app (.cons rfl .nil) (.cons (congrArg (fun z => some (Blk.row b28 c28 T.Rats 1 z)) (by rw [List.map_set, hdP_eq (show ((mixR h w t h.st).map dQ).length = h.st by rw [List.length_map, mixR_len])]; exact (set_same (by rw [List.getElem?_map, hbt]; exact congrArg some (hdP_eq hlen))).symm)) (.cons rfl .nil))⟩
  ·try simp only [dx9] at h35
   refine AW.exit (AW.seq ?_)
   obtain rfl : t = w.length := by omega
   refine AW.freezePool 28 2000 rfl rfl (by decide) (AW.freeze 28 rfl (AW.to [(8, .d (dQss ((List.range w.length).map (postF h w))))] [] (.cons (frz_osl (by rw [List.length_map]; exact hrl.symm) (by rw [← postD_all, ← hrs, List.map_map]; rfl)) .nil) .nil ?_))
   exact AW.rg hE rfl (mvD rfl (asD rfl (asD rfl (OL.nil (AW.ret (RetQ.r ⟨_, .tmp rfl (.tmp rfl .nil), _, .cons (.le (by rw [postR, if_neg hz]; exact VLe.refl _)) (.cons (.le (VLe.int (by rw [postE, if_neg hz]))) .nil), rfl⟩))))))
end Go.Proofs.YtoohdcpikkkanaaGreat

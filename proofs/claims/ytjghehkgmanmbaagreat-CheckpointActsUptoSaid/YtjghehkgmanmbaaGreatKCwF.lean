/-
  The law CheckpointActs (printed by mk2.py).
-/
import Derived.Test.YtjghehkgmanmbaaGreatKKwP
import Derived.Test.YtjghehkgmanmbaaGreatKAlg34
import Derived.Test.YtjghehkgmanmbaaGreatKMod50
import Derived.Test.YtjghehkgmanmbaaGreatKMod35b
set_option linter.unusedVariables false
set_option linter.unusedSimpArgs false
namespace Go.Proofs.YtjghehkgmanmbaaGreat
open Go Go.AL
theorem put_newD {w : Rat × List Int} (hz : sz w.1 ≤ 68719476736) (h0 : w.1 ≠ 0) : FSpec P F.ref35_put [.mt, vWay w, .d (dI 1)] (.d (.sl [dWay w])) := (put_new hz h0).data rfl
theorem vd_q0 : VD (.ag [.d (dB false), .mt, .mt]) (dQ 0) := VD.ag vcs_q0
theorem dWl_pos {v : Rat × List Int} (h : 0 < v.1) : dWl v = .sl [dWay v] := by unfold dWl; rw [if_pos h]
theorem dWl_not {v : Rat × List Int} (h : ¬ 0 < v.1) : dWl v = .sl [] := by unfold dWl; rw [if_neg h]
theorem vWay_mt {q : Rat} : VLe (.ag [.mt, .d (dB (ofQ q).neg), .d (u32s (ofQ q).num), .d (u32s (ofQ q).den)]) (vWay (q, [])) := VLe.ag (.cons VLe.mt (VLes.refl _))
set_option maxRecDepth 4000 in
set_option maxHeartbeats 800000 in
theorem ref35_list0 {h : HM} (g : h.GoodW 1048576) : FSpec P F.ref35_list [vHM h, .d (ints []), .d nilD, .d (dI 1)] (.d (dWl (h.empty, ([] : List Int)))) := by
 have f := g.form
 have zE := f.zE
 have bB := f.bB
 refine FSpec.intro fn.ref35_list (by rfl) (by rfl) (nb9 (by rfl)) fun E hE => (AW.sg hE rfl (bxA rfl rfl fun b4 => (asM rfl (OL.nil (AW.seq (AW.sg hE rfl (mvD rfl ?_)))))))
 refine lnL sl.ints rfl rfl (c_eql rfl rfl (c := true) (by rfl) (OL.nil (AW.cond rfl (fun _ => ?_) (fun hno => absurd hno (by decide)))))
 refine AW.seq ?_
 by_cases h0 : h.empty = 0
 ·have hw : dWl (h.empty, ([] : List Int)) = .sl [] := dWl_not (by rw [h0]; decide)
  refine AW.rg hE rfl (faP fd.Hidden_2 rfl rfl (ldPA ag.Rat rfl rfl (vs := [_,_,_]) rfl (nb9 rfl) (bd z.Rat pl.Rat (cs := [_,_,_]) rfl (clv rfl (.cons (VLe.refl _) (.cons vle_q0 .nil)) (ref_AddQ (x := h.empty) (y := 0) (by omega) (by rw [sz_zero]; decide)) ?_))))
  rw [Rat.add_zero]
  exact bd2 (cs := [_,_,_,_]) z.Way pl.Way (pvC (by exact evA rfl) pvN) (by rfl) (mvD rfl (clv rfl (.cons (VLe.refl _) (.cons vWay_mt (.cons (VLe.refl _) .nil))) (put_zeroV (v := .mt) (w := (h.empty, ([] : List Int))) (k := 1) h0) (asM rfl (OL.nil (AW.ret (RetQ.r ⟨_, .tmp rfl .nil, .le (by rw [hw]; exact VLe.mt)⟩))))))
 ·have hp : 0 < h.empty := (rat_pos g.pE.1).resolve_right fun e => h0 e.symm
  have hw : dWl (h.empty, ([] : List Int)) = .sl [dWay (h.empty, ([] : List Int))] := dWl_pos hp
  refine AW.rg hE rfl (faP fd.Hidden_2 rfl rfl (ldPA ag.Rat rfl rfl (vs := [_,_,_]) rfl (nb9 rfl) (bd z.Rat pl.Rat (cs := [_,_,_]) rfl (clv rfl (.cons (VLe.refl _) (.cons vle_q0 .nil)) (ref_AddQ (x := h.empty) (y := 0) (by omega) (by rw [sz_zero]; decide)) ?_))))
  rw [Rat.add_zero]
  exact bd2 (cs := [_,_,_,_]) z.Way pl.Way (pvC (by exact evA rfl) pvN) (by rfl) (mvD rfl (clv rfl (.cons (VLe.refl _) (.cons vWay_mt (.cons (VLe.refl _) .nil))) (put_newD (w := (h.empty, ([] : List Int))) (show sz h.empty ≤ 68719476736 by omega) h0) (asD rfl (OL.nil (AW.ret (RetQ.r ⟨_, .tmp rfl .nil, .le (by rw [hw]; exact VLe.refl _)⟩))))))
set_option maxRecDepth 4000 in
set_option maxHeartbeats 1600000 in
theorem ref35_Best0 {h : HM} (g : h.GoodW 1048576) : FSpec P F.ref35_Best [vHM h, .d (ints [])] (.tup [.d (ints []), vQ h.empty, .d (dI (if 0 < h.empty then 0 else 11))]) := by
 have f := g.form
 have kw : WordOK h [] := ⟨Nat.zero_le _, fun x hx => (by cases hx)⟩
 refine FSpec.intro fn.ref35_Best (by rfl) (by rfl) (nb9 (by rfl)) fun E hE => (AW.sg hE rfl (bxA rfl rfl fun b2 => (asM rfl (al z.Rat rfl fun b5 => (asD rfl (OL.nil (AW.seq ?_)))))))
 refine AW.sg hE rfl (ldPA ag.Hidden rfl rfl (vs := [_,_,_,_,_,_,_,_,_,_,_]) rfl (nb9 rfl) (mvD rfl (clv rfl (.cons (VLe.refl _) (.cons (VLe.refl _) (.nil))) (ref34_CheckW g kw) (asD rfl (OL.nil (AW.sg hE rfl (mvD rfl ?_)))))))
 refine c_neq rfl rfl (c := false) (by exact cne_f (by omega)) (OL.nil (AW.cond rfl (fun hno => absurd hno (by decide)) (fun _ => ?_)))
 refine AW.skip (AW.seq (AW.regionS (by rw [hE]; rfl) (SL.ofOL (ldPA ag.Hidden rfl rfl (vs := cellsHM h) rfl (nb9 rfl) (OL.nil ?_)))))
 refine SL.ofOL (mvD rfl (OL.nil ?_))
 refine SL.ofSO rfl (SO.callN (args2 := [vHM h, .d (ints []), .d nilD, .d (dI 1)]) (res := .d (dWl (h.empty, ([] : List Int)))) (show 18 < E.n by rw [hE]; exact Nat.le_of_ble_eq_true rfl) rfl (fun F a hev => simVs_cons (sim_of (hev (.tmp 16)) rfl) (simVs_cons (sim_of (hev (.tmp 17)) rfl) (simVs_cons (.d (.sc rfl) rfl) (simVs_cons (.d (.sc rfl) rfl) simVs_nil)))) (ref35_list0 g) ?_)
 refine SL.ofOL (asD rfl (OL.nil ?_))
 refine SL.nil (AW.seq (AW.sg hE rfl (mvD rfl (lnD sl.Ways rfl rfl (n := if 0 < h.empty then 1 else 0) (by split <;> rfl) (c_eql rfl rfl rfl (OL.nil (AW.cond rfl (fun hl => ?_) (fun hl => ?_))))))))
 ·have hv : ¬ 0 < h.empty := fun k2 => by
   have e1 := of_decide_eq_true hl
   rw [if_pos k2] at e1
   exact absurd e1 (by decide)
  have hz : h.empty = 0 := Rat.le_antisymm (Rat.not_lt.1 hv) g.pE.1
  refine AW.sg hE rfl (bd z.Rat pl.Rat (cs := [_,_,_]) rfl (asM rfl (sto sz.Rat rfl rfl rfl rfl rfl (nb9 rfl) (cells2 := [_,_,_]) rfl (asD rfl (OL.nil ?_)))))
  exact AW.ret (RetQ.r ⟨_, .tmp rfl (.cellA rfl rfl ag.Rat (nb9 rfl) (.tmp rfl .nil)), _, .cons (.le (VLe.mt)) (.cons (.ag (.cons (.le (by rw [hz, ofQ_zero]; exact VLe.refl _)) (.cons (.le (by rw [hz, ofQ_zero]; exact VLe.mt)) (.cons (.le (by rw [hz, ofQ_zero]; exact VLe.mt)) .nil)))) (.cons (.le (VLe.int (if_neg hv).symm)) .nil)), rfl⟩)
 ·have hv : 0 < h.empty := Decidable.byContradiction fun k2 => by
   have e1 := of_decide_eq_false hl
   rw [if_neg k2] at e1
   exact e1 rfl
  refine AW.skip (AW.seq (AW.dg 1 [0,1,2,3,4,5,6,7,8,9,10] order_free hE rfl (by kernel_rfl) (OI.of_OL (os := [_,_,_,_,_,_,_,_,_,_,_]) rfl ?_)))
  refine mvD rfl (ixDn (n := 0) sl.Ways rfl rfl (el := dWay (h.empty, ([] : List Int))) (by rw [if_pos hv]; rfl) rfl rfl (faR fd.Way_0 rfl rfl (ldRC ce.ints rfl (mvD rfl (ixDn (n := 0) sl.Ways rfl rfl (el := dWay (h.empty, ([] : List Int))) (by rw [if_pos hv]; rfl) rfl rfl (faR fd.Way_1 rfl rfl (ldRA ag.Rat rfl (vs := cellsQ h.empty) rfl (nb9 rfl) ?_)))))))
  exact asD rfl (sto sz.Rat rfl rfl rfl rfl rfl (nb9 rfl) (cells2 := [_,_,_]) rfl (asD rfl (OL.nil (AW.ret (RetQ.r ⟨_, .tmp rfl (.cellA rfl rfl ag.Rat (nb9 rfl) (.tmp rfl .nil)), _, .cons (.le (VLe.refl _)) (.cons (.ag (.cons (.le (VLe.refl _)) (.cons (.le (VLe.refl _)) (.cons (.le (VLe.refl _)) .nil)))) (.cons (.le (VLe.int (if_pos hv).symm)) .nil)), rfl⟩)))))
theorem ref35_BestE {h : HM} {w : List Int} (g : h.GoodW 1048576) (kw : WordOK h w) : FSpec P F.ref35_Best [vHM h, .d (ints w)] (.tup [.d (ints (bP h w)), vQ (bQ h w), .d (dI (bE h w))]) := by
 by_cases hw : w = []
 ·subst hw
  have k := ref35_Best0 g
  unfold bP bQ bE
  rw [if_pos rfl, if_pos rfl, if_pos rfl]
  exact k
 ·have hn : w.length ≠ 0 := fun e => hw (List.eq_nil_of_length_eq_zero e)
  have k := ref35_Best g kw hn
  obtain ⟨e1, e2, e3⟩ := end_ck g (u := w) (by omega)
  rw [e2, e3, e1] at k
  unfold bP bQ bE
  rw [if_neg hw, if_neg hw, if_neg hw]
  exact k
set_option maxRecDepth 4000 in
set_option maxHeartbeats 1600000 in
theorem ref36_BestA {h : RM} {w : List Int} {b : Int} (zz : h.Sz) (nw : w.length ≤ 1048576) : FSpec P F.ref36_Best [vRM h, .d (ints w), .d (dI b)] (.tup [.d (ints (bestA h w b).1), vQ (bestA h w b).2.1, .d (dI (bestA h w b).2.2.1), .d (dI (bestA h w b).2.2.2)]) := by
 refine FSpec.intro fn.ref36_Best (by rfl) (by rfl) (nb9 (by rfl)) fun E hE => (AW.sg hE rfl (bxA rfl rfl fun b3 => (asM rfl (al z.Rat rfl fun b7 => (asD rfl (asD rfl (OL.nil ?_)))))))
 refine AW.seq (AW.sg hE rfl (ldPA ag.Hidden rfl rfl (vs := [_,_,_,_,_,_,_,_,_,_,_]) rfl (nb9 rfl) (mvD rfl (clv rfl (.cons (VLe.refl _) (.cons (VLe.refl _) (.nil))) (ref34_CheckR zz nw) (asD rfl (OL.nil (AW.sg hE rfl ?_)))))))
 refine mvD rfl (c_neq rfl rfl rfl (OL.nil (AW.cond rfl (fun cw9 => ?_) (fun cw9 => ?_))))
 ·have cw9 : ¬ wrdE h w = 0 := by simpa using cw9
  have hdr := bestA_e (b := b) cw9
  refine AW.sg hE rfl (bd z.Rat pl.Rat (cs := [_,_,_]) rfl (mvD rfl (asM rfl (sto sz.Rat rfl rfl rfl rfl rfl (nb9 rfl) (cells2 := [_,_,_]) rfl (asD rfl (asD rfl (OL.nil ?_)))))))
  exact AW.ret (RetQ.r ⟨_, .tmp rfl (.cellA rfl rfl ag.Rat (nb9 rfl) (.tmp rfl (.tmp rfl .nil))), _, .cons (.le (by rw [hdr]; exact VLe.mt)) (.cons (.ag (.cons (.le (by rw [hdr]; show VLe _ (.d (dB (ofQ 0).neg)); rw [ofQ_zero]; exact VLe.refl _)) (.cons (.le (by rw [hdr]; show VLe _ (.d (u32s (ofQ 0).num)); rw [ofQ_zero]; exact VLe.mt)) (.cons (.le (by rw [hdr]; show VLe _ (.d (u32s (ofQ 0).den)); rw [ofQ_zero]; exact VLe.mt)) .nil)))) (.cons (.le (VLe.int (by rw [hdr]))) (.cons (.le (VLe.int (by rw [hdr]))) .nil))), rfl⟩)
 ·have cw9 : wrdE h w = 0 := by simpa using cw9
  obtain ⟨cp, k⟩ := wrdE_ok cw9
  obtain ⟨g, hv⟩ := chkP_good zz cp
  refine AW.boxW 3 (cellsHM (hm h)) rfl (vles_of_eq (V.ag.inj hv)) (AW.skip (AW.sg hE rfl (mvD rfl (lnL sl.ints rfl rfl (mvD rfl (clv rfl (.cons (VLe.refl _) (.cons (VLe.refl _) (.nil))) (ref36_StoredA nw) (mvT rfl ?_)))))))
  refine ex rfl rfl (ex rfl rfl (asD rfl (asD rfl (OL.nil (AW.seq (AW.sg hE rfl (mvD rfl ?_)))))))
  refine c_neq rfl rfl rfl (OL.nil (AW.cond rfl (fun cs => ?_) (fun cs => ?_)))
  ·have cs : ¬ (stoR w.length b).2 = 0 := by simpa using cs
   have sk : ¬ StoOK w.length b := fun s => cs (by rw [stoR_0 s])
   have hdr := bestA_1 cw9 sk
   have e1 : (stoR w.length b).2 = 1 := by rw [stoR_1 sk]
   refine AW.sg hE rfl (bd z.Rat pl.Rat (cs := [_,_,_]) rfl (mvD rfl (asM rfl (sto sz.Rat rfl rfl rfl rfl rfl (nb9 rfl) (cells2 := [_,_,_]) rfl (asD rfl (asD rfl (OL.nil ?_)))))))
   exact AW.ret (RetQ.r ⟨_, .tmp rfl (.cellA rfl rfl ag.Rat (nb9 rfl) (.tmp rfl (.tmp rfl .nil))), _, .cons (.le (by rw [hdr]; exact VLe.mt)) (.cons (.ag (.cons (.le (by rw [hdr]; show VLe _ (.d (dB (ofQ 0).neg)); rw [ofQ_zero]; exact VLe.refl _)) (.cons (.le (by rw [hdr]; show VLe _ (.d (u32s (ofQ 0).num)); rw [ofQ_zero]; exact VLe.mt)) (.cons (.le (by rw [hdr]; show VLe _ (.d (u32s (ofQ 0).den)); rw [ofQ_zero]; exact VLe.mt)) .nil)))) (.cons (.le (VLe.int (by rw [hdr]))) (.cons (.le (VLe.int (by rw [hdr]; exact e1))) .nil))), rfl⟩)
  ·have cs : (stoR w.length b).2 = 0 := by simpa using cs
   have sk := stoR_ok cs
   refine AW.skip (AW.sg hE rfl (ldPA ag.Hidden rfl rfl (vs := [_,_,_,_,_,_,_,_,_,_,_]) rfl (nb9 rfl) (mvD rfl (clv rfl (.cons (VLe.refl _) (.cons (VLe.refl _) (.nil))) (ref35_BestE g k) (mvT rfl (ex rfl rfl (ex rfl rfl ?_)))))))
   refine ex rfl rfl (al z.Rat rfl fun b14 => (asD rfl (sto sz.Rat rfl rfl rfl rfl rfl (nb9 rfl) (cells2 := [_,_,_]) rfl (asD rfl (OL.nil (AW.seq (AW.sg hE rfl ?_)))))))
   refine mvD rfl (c_neq rfl rfl rfl (OL.nil (AW.cond rfl (fun ce => ?_) (fun ce => ?_))))
   ·have ce : ¬ bE (hm h) w = 0 := by simpa using ce
    have hdr := bestA_bad cw9 sk g.pE.1 ce
    refine AW.sg hE rfl (bd z.Rat pl.Rat (cs := [_,_,_]) rfl (mvD rfl (asM rfl (sto sz.Rat rfl rfl rfl rfl rfl (nb9 rfl) (cells2 := [_,_,_]) rfl (asD rfl (asD rfl (OL.nil ?_)))))))
    exact AW.ret (RetQ.r ⟨_, .tmp rfl (.cellA rfl rfl ag.Rat (nb9 rfl) (.tmp rfl (.tmp rfl .nil))), _, .cons (.le (by rw [hdr]; exact VLe.mt)) (.cons (.ag (.cons (.le (by rw [hdr]; show VLe _ (.d (dB (ofQ 0).neg)); rw [ofQ_zero]; exact VLe.refl _)) (.cons (.le (by rw [hdr]; show VLe _ (.d (u32s (ofQ 0).num)); rw [ofQ_zero]; exact VLe.mt)) (.cons (.le (by rw [hdr]; show VLe _ (.d (u32s (ofQ 0).den)); rw [ofQ_zero]; exact VLe.mt)) .nil)))) (.cons (.le (VLe.int (by rw [hdr]))) (.cons (.le (VLe.int (by rw [hdr]))) .nil))), rfl⟩)
   ·have ce : bE (hm h) w = 0 := by simpa using ce
    have hdr := bestA_good cw9 sk g.pE.1 ce
    refine AW.skip (AW.seq (AW.dg 1 [0,1,2,3,4,5,6] order_free hE rfl (by kernel_rfl) (OI.of_OL (os := [_,_,_,_,_,_,_]) rfl ?_)))
    refine mvD rfl (ldPA ag.Rat rfl rfl (vs := [_,_,_]) rfl (nb9 rfl) (mvD rfl (asD rfl (sto sz.Rat rfl rfl rfl rfl rfl (nb9 rfl) (cells2 := [_,_,_]) rfl (asD rfl (asD rfl (OL.nil ?_)))))))
    exact AW.ret (RetQ.r ⟨_, .tmp rfl (.cellA rfl rfl ag.Rat (nb9 rfl) (.tmp rfl (.tmp rfl .nil))), _, .cons (.le (by rw [hdr]; exact VLe.refl _)) (.cons (.ag (.cons (.le (by rw [hdr]; exact VLe.refl _)) (.cons (.le (by rw [hdr]; exact VLe.refl _)) (.cons (.le (by rw [hdr]; exact VLe.refl _)) .nil)))) (.cons (.le (VLe.int (by rw [hdr]))) (.cons (.le (VLe.int (by rw [hdr]))) .nil))), rfl⟩)
theorem law36_light {h : RM} : FSpec P F.law36_light [vRM h] (.d (dB (liteB h))) := by
 refine FSpec.intro fn.law36_light (by rfl) (by rfl) (nb9 (by rfl)) fun E hE => (AW.sg hE rfl (bxA rfl rfl fun b1 => (asD rfl (OL.nil (AW.sg hE rfl (faP fd.Hidden_1 rfl rfl (ldPC ce.int rfl rfl rfl ?_)))))))
 refine c_leq rfl rfl rfl (mvD rfl (OL.split 6 rfl (fun g6 => ?_) (fun g6 => ?_)))
 ·try simp only [dx9] at g6
  refine OL.no rfl (by decide) (OL.no rfl (by decide) (OL.no rfl (by decide) (pkT rfl rfl (mvD rfl (OL.yes rfl (faP fd.Hidden_3 rfl rfl (OL.yes rfl ?_)))))))
  refine ldPC ce.Rats rfl rfl rfl (OL.yes rfl (lnL sl.Rats rfl rfl (OL.yes rfl (c_leq rfl rfl rfl (pkT rfl rfl (mvD rfl (OL.split 17 rfl (fun g17 => ?_) (fun g17 => ?_))))))))
  ·try simp only [dx9] at g17
   refine OL.yes rfl (faP fd.Hidden_4 rfl rfl (OL.yes rfl (ldPC ce.Ratss rfl rfl rfl (OL.yes rfl (lnL sl.Ratss rfl rfl (OL.yes rfl (c_leq rfl rfl rfl ?_)))))))
   refine pkT rfl rfl (mvD rfl (OL.split 23 rfl (fun g23 => ?_) (fun g23 => ?_)))
   ·try simp only [dx9] at g23
    refine OL.yes rfl (faP fd.Hidden_6 rfl rfl (OL.yes rfl (ldPC ce.Ratss rfl rfl rfl (OL.yes rfl (lnL sl.Ratss rfl rfl (OL.yes rfl (c_leq rfl rfl rfl ?_)))))))
    refine pkT rfl rfl (mvD rfl (OL.split 29 rfl (fun g29 => ?_) (fun g29 => ?_)))
    ·try simp only [dx9] at g29
     refine OL.yes rfl (faP fd.Hidden_0 rfl rfl (OL.yes rfl (ldPC ce.int rfl rfl rfl (OL.yes rfl (c_leq rfl rfl rfl (OL.yes rfl (mvD rfl ?_)))))))
     refine OL.split 33 rfl (fun g33 => ?_) (fun g33 => ?_)
     ·try simp only [dx9] at g33
      refine OL.no rfl (by decide) (OL.no rfl (by decide) (OL.no rfl (by decide) (OL.yes rfl (pkT rfl rfl (pkT rfl rfl (asD rfl (OL.nil ?_)))))))
      exact AW.ret (RetQ.r ⟨_, .tmp rfl .nil, .le (VLe.bool (by unfold liteB; simp_all <;> omega))⟩)
     ·try simp only [dx9] at g33
      refine OL.yes rfl (faP fd.Hidden_0 rfl rfl (OL.yes rfl (ldPC ce.int rfl rfl rfl (OL.yes rfl (c_gtr rfl rfl rfl (OL.yes rfl (pkF rfl rfl ?_)))))))
      exact pkT rfl rfl (asD rfl (OL.nil (AW.ret (RetQ.r ⟨_, .tmp rfl .nil, .le (VLe.bool (by unfold liteB; simp_all <;> omega))⟩))))
    ·try simp only [dx9] at g29
     refine OL.no rfl (by decide) (OL.no rfl (by decide) (OL.no rfl (by decide) (OL.no rfl (by decide) (OL.no rfl (by decide) (OL.no rfl (by decide) (OL.no rfl (by decide) (OL.no rfl (by decide) ?_)))))))
     exact pkF rfl rfl (asD rfl (OL.nil (AW.ret (RetQ.r ⟨_, .tmp rfl .nil, .le (VLe.bool (by unfold liteB; simp_all <;> omega))⟩))))
   ·try simp only [dx9] at g23
    refine OL.no rfl (by decide) (OL.no rfl (by decide) (OL.no rfl (by decide) (OL.no rfl (by decide) (pkF rfl rfl (mvD rfl (OL.no rfl (by decide) (OL.no rfl (by decide) ?_)))))))
    refine OL.no rfl (by decide) (OL.no rfl (by decide) (OL.no rfl (by decide) (OL.no rfl (by decide) (OL.no rfl (by decide) (OL.no rfl (by decide) (pkF rfl rfl (asD rfl ?_)))))))
    exact OL.nil (AW.ret (RetQ.r ⟨_, .tmp rfl .nil, .le (VLe.bool (by unfold liteB; simp_all <;> omega))⟩))
  ·try simp only [dx9] at g17
   refine OL.no rfl (by decide) (OL.no rfl (by decide) (OL.no rfl (by decide) (OL.no rfl (by decide) (pkF rfl rfl (mvD rfl (OL.no rfl (by decide) (OL.no rfl (by decide) ?_)))))))
   refine OL.no rfl (by decide) (OL.no rfl (by decide) (pkF rfl rfl (mvD rfl (OL.no rfl (by decide) (OL.no rfl (by decide) (OL.no rfl (by decide) (OL.no rfl (by decide) ?_)))))))
   exact OL.no rfl (by decide) (OL.no rfl (by decide) (OL.no rfl (by decide) (OL.no rfl (by decide) (pkF rfl rfl (asD rfl (OL.nil (AW.ret (RetQ.r ⟨_, .tmp rfl .nil, .le (VLe.bool (by unfold liteB; simp_all <;> omega))⟩))))))))
 ·try simp only [dx9] at g6
  refine OL.yes rfl (faP fd.Hidden_1 rfl rfl (OL.yes rfl (ldPC ce.int rfl rfl rfl (OL.yes rfl (c_gtr rfl rfl rfl (pkF rfl rfl (mvD rfl ?_)))))))
  refine OL.split 11 rfl (fun g11 => ?_) (fun g11 => ?_)
  ·try simp only [dx9] at g11
   refine OL.yes rfl (faP fd.Hidden_3 rfl rfl (OL.yes rfl (ldPC ce.Rats rfl rfl rfl (OL.yes rfl (lnL sl.Rats rfl rfl (OL.yes rfl (c_leq rfl rfl rfl ?_)))))))
   refine pkT rfl rfl (mvD rfl (OL.split 17 rfl (fun g17 => ?_) (fun g17 => ?_)))
   ·try simp only [dx9] at g17
    refine OL.yes rfl (faP fd.Hidden_4 rfl rfl (OL.yes rfl (ldPC ce.Ratss rfl rfl rfl (OL.yes rfl (lnL sl.Ratss rfl rfl (OL.yes rfl (c_leq rfl rfl rfl ?_)))))))
    refine pkT rfl rfl (mvD rfl (OL.split 23 rfl (fun g23 => ?_) (fun g23 => ?_)))
    ·try simp only [dx9] at g23
     refine OL.yes rfl (faP fd.Hidden_6 rfl rfl (OL.yes rfl (ldPC ce.Ratss rfl rfl rfl (OL.yes rfl (lnL sl.Ratss rfl rfl (OL.yes rfl (c_leq rfl rfl rfl ?_)))))))
     refine pkT rfl rfl (mvD rfl (OL.split 29 rfl (fun g29 => ?_) (fun g29 => ?_)))
     ·try simp only [dx9] at g29
      refine OL.yes rfl (faP fd.Hidden_0 rfl rfl (OL.yes rfl (ldPC ce.int rfl rfl rfl (OL.yes rfl (c_leq rfl rfl rfl (OL.yes rfl (mvD rfl ?_)))))))
      refine OL.split 33 rfl (fun g33 => ?_) (fun g33 => ?_)
      ·try simp only [dx9] at g33
       refine OL.no rfl (by decide) (OL.no rfl (by decide) (OL.no rfl (by decide) (OL.yes rfl (pkT rfl rfl (pkT rfl rfl (asD rfl (OL.nil ?_)))))))
       exact AW.ret (RetQ.r ⟨_, .tmp rfl .nil, .le (VLe.bool (by unfold liteB; simp_all <;> omega))⟩)
      ·try simp only [dx9] at g33
       refine OL.yes rfl (faP fd.Hidden_0 rfl rfl (OL.yes rfl (ldPC ce.int rfl rfl rfl (OL.yes rfl (c_gtr rfl rfl rfl (OL.yes rfl (pkF rfl rfl ?_)))))))
       exact pkT rfl rfl (asD rfl (OL.nil (AW.ret (RetQ.r ⟨_, .tmp rfl .nil, .le (VLe.bool (by unfold liteB; simp_all <;> omega))⟩))))
     ·try simp only [dx9] at g29
      refine OL.no rfl (by decide) (OL.no rfl (by decide) (OL.no rfl (by decide) (OL.no rfl (by decide) (OL.no rfl (by decide) (OL.no rfl (by decide) (OL.no rfl (by decide) (OL.no rfl (by decide) ?_)))))))
      exact pkF rfl rfl (asD rfl (OL.nil (AW.ret (RetQ.r ⟨_, .tmp rfl .nil, .le (VLe.bool (by unfold liteB; simp_all <;> omega))⟩))))
    ·try simp only [dx9] at g23
     refine OL.no rfl (by decide) (OL.no rfl (by decide) (OL.no rfl (by decide) (OL.no rfl (by decide) (pkF rfl rfl (mvD rfl (OL.no rfl (by decide) (OL.no rfl (by decide) ?_)))))))
     refine OL.no rfl (by decide) (OL.no rfl (by decide) (OL.no rfl (by decide) (OL.no rfl (by decide) (OL.no rfl (by decide) (OL.no rfl (by decide) (pkF rfl rfl (asD rfl ?_)))))))
     exact OL.nil (AW.ret (RetQ.r ⟨_, .tmp rfl .nil, .le (VLe.bool (by unfold liteB; simp_all <;> omega))⟩))
   ·try simp only [dx9] at g17
    refine OL.no rfl (by decide) (OL.no rfl (by decide) (OL.no rfl (by decide) (OL.no rfl (by decide) (pkF rfl rfl (mvD rfl (OL.no rfl (by decide) (OL.no rfl (by decide) ?_)))))))
    refine OL.no rfl (by decide) (OL.no rfl (by decide) (pkF rfl rfl (mvD rfl (OL.no rfl (by decide) (OL.no rfl (by decide) (OL.no rfl (by decide) (OL.no rfl (by decide) ?_)))))))
    exact OL.no rfl (by decide) (OL.no rfl (by decide) (OL.no rfl (by decide) (OL.no rfl (by decide) (pkF rfl rfl (asD rfl (OL.nil (AW.ret (RetQ.r ⟨_, .tmp rfl .nil, .le (VLe.bool (by unfold liteB; simp_all <;> omega))⟩))))))))
  ·try simp only [dx9] at g11
   refine OL.no rfl (by decide) (OL.no rfl (by decide) (OL.no rfl (by decide) (OL.no rfl (by decide) (pkF rfl rfl (mvD rfl (OL.no rfl (by decide) (OL.no rfl (by decide) ?_)))))))
   refine OL.no rfl (by decide) (OL.no rfl (by decide) (pkF rfl rfl (mvD rfl (OL.no rfl (by decide) (OL.no rfl (by decide) (OL.no rfl (by decide) (OL.no rfl (by decide) ?_)))))))
   refine pkF rfl rfl (mvD rfl (OL.no rfl (by decide) (OL.no rfl (by decide) (OL.no rfl (by decide) (OL.no rfl (by decide) (OL.no rfl (by decide) (OL.no rfl (by decide) ?_)))))))
   exact OL.no rfl (by decide) (OL.no rfl (by decide) (pkF rfl rfl (asD rfl (OL.nil (AW.ret (RetQ.r ⟨_, .tmp rfl .nil, .le (VLe.bool (by unfold liteB; simp_all <;> omega))⟩))))))
theorem law36_same {l m : List Int} (nl : l.length ≤ 9223372036854775807) : FSpec P F.law36_same [.d (ints l), .d (ints m)] (.d (dB (decide (l = m)))) := by
 refine FSpec.intro fn.law36_same (by rfl) (by rfl) (nb9 (by rfl)) fun E hE => (AW.sg hE rfl (asD rfl (OL.nil (AW.seq (AW.sg hE rfl (mvD rfl (lnL sl.ints rfl rfl ?_)))))))
 refine mvD rfl (lnL sl.ints rfl rfl (c_neq rfl rfl rfl (OL.nil (AW.cond rfl (fun h10 => ?_) (fun h10 => ?_)))))
 ·have hl : l.length ≠ m.length := by simp at h10; omega
  exact AW.sg hE rfl (asD rfl (OL.nil (AW.ret (RetQ.r ⟨_, .tmp rfl .nil, .le (VLe.bool ((decide_eq_false fun e => hl (by rw [e])).symm))⟩))))
 ·have hl : l.length = m.length := by simp at h10; omega
  refine AW.skip (AW.seq (AW.sg hE rfl (asD rfl (OL.nil (AW.block ?_)))))
  refine AW.whileK (α := Nat) [(0, _), (1, _)] [] (fun i => [(5, .d (dI i))]) (fun i => []) (fun i => i ≤ l.length ∧ ∀ j, j < i → l.getD j 0 = m.getD j 0) (fun i => l.length - i) 0 (.cons (knD rfl) (.cons (knD rfl) .nil)) .nil ⟨⟨Nat.zero_le _, fun j hj => by omega⟩, .cons (VLe.refl _) .nil, .nil⟩ ?_
  rintro i ⟨h1, h2⟩
  refine AW.seq (AW.sg hE rfl (mvD rfl (mvD rfl (lnL sl.ints rfl rfl (c_lss rfl rfl rfl (OL.nil (AW.cond rfl (fun h14 => ?_) (fun h14 => ?_))))))))
  ·try simp only [dx9] at h14
   refine AW.skip (AW.seq (AW.block (AW.seq (AW.dg 1 [0,1,2,3,4,5,6,7,8] order_free hE rfl (by kernel_rfl) (OI.of_OL (os := [_,_,_,_,_,_,_,_,_]) rfl ?_)))))
   refine mvD rfl (mvD rfl (ixLn sl.ints 0 rfl rfl (by omega) rfl rfl (ldRC ce.int rfl (mvD rfl (mvD rfl (ixLn sl.ints 0 rfl rfl (by omega) rfl rfl (ldRC ce.int rfl ?_)))))))
   refine c_neq rfl rfl rfl (OL.nil (AW.cond rfl (fun hc => ?_) (fun hc => ?_)))
   ·have hc : l.getD i 0 ≠ m.getD i 0 := fun e => by rw [e] at hc; simp at hc
    exact AW.sg hE rfl (asD rfl (OL.nil (AW.ret (RetQ.r ⟨_, .tmp rfl .nil, .le (VLe.bool ((decide_eq_false fun e => hc (by rw [e])).symm))⟩))))
   ·have hc : l.getD i 0 = m.getD i 0 := nd_f hc
    exact AW.skip (AW.rg hE rfl (mvD rfl (add_i64 rfl rfl (by omega) (asD rfl (OL.nil (AW.again (x := i) (i + 1) (by omega) ⟨⟨by omega, fun j hj => by rcases Nat.lt_or_ge j i with h | h; exact h2 j h; obtain rfl : j = i := (by omega); exact hc⟩, Knows.app (.cons (VLe.refl _) (.cons (VLe.refl _) .nil)) (.cons (VLe.refl _) .nil), .nil⟩))))))
  ·try simp only [dx9] at h14
   exact AW.exit (AW.sg hE rfl (asD rfl (OL.nil (AW.ret (RetQ.r ⟨_, .tmp rfl .nil, .le (VLe.bool ((decide_eq_true (list_eq_getD hl 0 fun j hj => h2 j (by omega))).symm))⟩)))))
theorem law36_pairQ {q o : Rat} (hq : FSpec P F.ref01_Make [.d (dI 1), .d (dI 2)] (.tup [vQ q, .d (dI 0)])) (ho : FSpec P F.ref33_Whole [.d (dI 1)] (vQ o)) : FSpec P F.law36_pair [] (vHM ⟨2, 2, 0, [q, q], [[0, q], [0, 0]], [q, o], [[o, 0], [0, o]], [false, false], [0, 1]⟩) := by
 refine FSpec.intro fn.law36_pair (by rfl) (by rfl) (nb9 (by rfl)) fun E hE => (AW.sg hE rfl (al z.Hidden rfl fun b0 => (OL.nil (AW.sg hE rfl (clv rfl (.cons (VLe.refl _) (.cons (VLe.refl _) .nil)) hq (mvT rfl (ex rfl rfl ?_)))))))
 refine ex rfl rfl (al z.Rat rfl fun b1 => (sto sz.Rat rfl rfl rfl rfl rfl (nb9 rfl) (cells2 := [_,_,_]) rfl (asD rfl (OL.nil (AW.sg hE rfl (clv rfl (.cons (VLe.refl _) .nil) ho (al z.Rat rfl fun b3 => ?_)))))))
 refine sto sz.Rat rfl rfl rfl rfl rfl (nb9 rfl) (cells2 := [_,_,_]) rfl (OL.nil (AW.sg hE rfl (ldPA ag.Rat rfl rfl (vs := [_,_,_]) rfl (nb9 rfl) (ldPA ag.Rat rfl rfl (vs := [_,_,_]) rfl (nb9 rfl) (lt2 (y := dQ q) (y2 := dQ q) sl.Rats vd_q vd_q ⟨rfl, rfl⟩ (by decide) (bd z.Rat pl.Rat (cs := [_,_,_]) rfl (ldPA ag.Rat rfl rfl (vs := [_,_,_]) rfl (nb9 rfl) ?_)))))))
 refine lt2 (y := dQ 0) (y2 := dQ q) sl.Rats vd_q0 vd_q ⟨rfl, rfl⟩ (by decide) (bd z.Rat pl.Rat (cs := [_,_,_]) rfl (bd z.Rat pl.Rat (cs := [_,_,_]) rfl (lt2 (y := dQ 0) (y2 := dQ 0) sl.Rats vd_q0 vd_q0 ⟨rfl, rfl⟩ (by decide) (lt2 sl.Ratss (VC.d _).vd (VC.d _).vd ⟨rfl, rfl⟩ (by decide) (ldPA ag.Rat rfl rfl (vs := [_,_,_]) rfl (nb9 rfl) (ldPA ag.Rat rfl rfl (vs := [_,_,_]) rfl (nb9 rfl) (lt2 (y := dQ q) (y2 := dQ o) sl.Rats vd_q vd_q ⟨rfl, rfl⟩ (by decide) ?_)))))))
 refine ldPA ag.Rat rfl rfl (vs := [_,_,_]) rfl (nb9 rfl) (bd z.Rat pl.Rat (cs := [_,_,_]) rfl (lt2 (y := dQ o) (y2 := dQ 0) sl.Rats vd_q vd_q0 ⟨rfl, rfl⟩ (by decide) (bd z.Rat pl.Rat (cs := [_,_,_]) rfl (ldPA ag.Rat rfl rfl (vs := [_,_,_]) rfl (nb9 rfl) (lt2 (y := dQ 0) (y2 := dQ o) sl.Rats vd_q0 vd_q ⟨rfl, rfl⟩ (by decide) (lt2 sl.Ratss (VC.d _).vd (VC.d _).vd ⟨rfl, rfl⟩ (by decide) (lt2 sl.bools (VC.d _).vd (VC.d _).vd ⟨rfl, rfl⟩ (by decide) ?_)))))))
 refine lt2 sl.ints (VC.d _).vd (VC.d _).vd ⟨rfl, rfl⟩ (by decide) ?_
 refine bd2 (cs := [_,_,_,_,_,_,_,_,_,_,_]) z.Hidden pl.Hidden (pvC (by exact evD rfl) (pvC (by exact evD rfl) (pvC (by exact evD rfl) (pvC (by exact evD rfl) (pvC (by exact evD rfl) (pvC (by exact evD rfl) (pvC (by exact evD rfl) (pvC (by exact evD rfl) (pvN))))))))) (by rfl) ?_
 refine sto sz.Hidden rfl rfl rfl rfl rfl (nb9 rfl) (cells2 := [_,_,_,_,_,_,_,_,_,_,_]) rfl (OL.nil ?_)
 exact AW.ret (RetQ.r ⟨_, .cellA rfl rfl ag.Hidden (nb9 rfl) .nil, .ag (.cons (.le (VLe.refl _)) (.cons (.le (VLe.refl _)) (.cons (.le (vle_of_eq (by show _ = V.d (dB (ofQ 0).neg); rw [ofQ_zero]))) (.cons (.le (by show VLe _ (.d (u32s (ofQ 0).num)); rw [ofQ_zero]; exact VLe.mt)) (.cons (.le (by show VLe _ (.d (u32s (ofQ 0).den)); rw [ofQ_zero]; exact VLe.mt)) (.cons (.le (VLe.refl _)) (.cons (.le (VLe.refl _)) (.cons (.le (VLe.refl _)) (.cons (.le (VLe.refl _)) (.cons (.le (VLe.refl _)) (.cons (.le (VLe.refl _)) .nil)))))))))))⟩)
theorem law36_pair : FSpec P F.law36_pair [] (vHM pairHM) := law36_pairQ ref_half ref33_Whole1
theorem ref33_SameRatsX {l m : List Rat} {B : Nat} (zl : Small B l) (zm : Small B m) (hB : 1 ≤ B ∧ B ≤ 68719476736 ∧ l.length ≤ 1099511627776) : FSpec P F.ref33_SameRats [.d (dQs l), .d (dQs m)] (.d (dB (decide (l = m)))) := by
 refine FSpec.intro fn.ref33_SameRats (by rfl) (by rfl) (nb9 (by rfl)) fun E hE => (AW.sg hE rfl (asD rfl (OL.nil (AW.seq (AW.sg hE rfl (mvD rfl (lnL sl.Rats rfl rfl ?_)))))))
 refine mvD rfl (lnL sl.Rats rfl rfl (c_neq rfl rfl rfl (OL.nil (AW.cond rfl (fun h10 => ?_) (fun h10 => ?_)))))
 ·have hl : l.length ≠ m.length := by simp at h10; omega
  exact AW.sg hE rfl (asD rfl (OL.nil (AW.ret (RetQ.r ⟨_, .tmp rfl .nil, .le (VLe.bool ((decide_eq_false fun e => hl (by rw [e])).symm))⟩))))
 ·have hl : l.length = m.length := by simp at h10; omega
  refine AW.skip (AW.seq (AW.sg hE rfl (asD rfl (OL.nil (AW.block ?_)))))
  refine AW.whileK (α := Nat) [(0, _), (1, _)] [] (fun i => [(5, .d (dI i))]) (fun i => []) (fun i => i ≤ l.length ∧ ∀ j, j < i → l.getD j 0 = m.getD j 0) (fun i => l.length - i) 0 (.cons (knD rfl) (.cons (knD rfl) .nil)) .nil ⟨⟨Nat.zero_le _, fun j hj => by omega⟩, .cons (VLe.refl _) .nil, .nil⟩ ?_
  rintro i ⟨h1, h2⟩
  refine AW.seq (AW.sg hE rfl (mvD rfl (mvD rfl (lnL sl.Rats rfl rfl (c_lss rfl rfl rfl (OL.nil (AW.cond rfl (fun h14 => ?_) (fun h14 => ?_))))))))
  ·try simp only [dx9] at h14
   refine AW.skip (AW.seq (AW.block (AW.seq ?_)))
   have z1 := zl.get hB.1 i
   have z2 := zm.get hB.1 i
   refine AW.dg 1 [0,1,2,3,4,5,6,7,8,9] order_free hE rfl (by kernel_rfl) (OI.of_OL (os := [_,_,_,_,_,_,_,_,_,_]) rfl ?_)
   refine mvD rfl (mvD rfl (ixLn sl.Rats 0 rfl rfl (by omega) rfl rfl (ldRA ag.Rat rfl (vs := [_,_,_]) rfl (nb9 rfl) (mvD rfl (mvD rfl (ixLn sl.Rats 0 rfl rfl (by omega) rfl rfl (ldRA ag.Rat rfl (vs := [_,_,_]) rfl (nb9 rfl) ?_)))))))
   refine clv rfl (.cons (VLe.refl _) (.cons (VLe.refl _) .nil)) (ref_CompareQ (by omega) (by omega)) (c_neq rfl rfl rfl (OL.nil (AW.cond rfl (fun hc => ?_) (fun hc => ?_))))
   ·have hc : l.getD i 0 ≠ m.getD i 0 := fun e => by rw [cmpQ_eq.2 e] at hc; simp at hc
    exact AW.sg hE rfl (asD rfl (OL.nil (AW.ret (RetQ.r ⟨_, .tmp rfl .nil, .le (VLe.bool ((decide_eq_false fun e => hc (by rw [e])).symm))⟩))))
   ·have hc : l.getD i 0 = m.getD i 0 := cmpQ_eq.1 (by simpa using hc)
    exact AW.skip (AW.rg hE rfl (mvD rfl (add_i64 rfl rfl (by omega) (asD rfl (OL.nil (AW.again (x := i) (i + 1) (by omega) ⟨⟨by omega, fun j hj => by rcases Nat.lt_or_ge j i with h | h; exact h2 j h; obtain rfl : j = i := (by omega); exact hc⟩, Knows.app (.cons (VLe.refl _) (.cons (VLe.refl _) .nil)) (.cons (VLe.refl _) .nil), .nil⟩))))))
  ·try simp only [dx9] at h14
   exact AW.exit (AW.sg hE rfl (asD rfl (OL.nil (AW.ret (RetQ.r ⟨_, .tmp rfl .nil, .le (VLe.bool ((decide_eq_true (list_eq_getD hl 0 fun j hj => h2 j (by omega))).symm))⟩)))))
theorem law36_columnsX {a : List (List Rat)} {C n : Nat} (hz : ∀ i, Small C (a.getD i []) ∧ (a.getD i []).length ≤ n) (hC : 1 ≤ C ∧ C ≤ 68719476736) (nl : a.length ≤ 1099511627776 ∧ n ≤ 1099511627776) : FSpec P F.law36_columns [.d (dQss a), .d (dQss a)] (.d (dB true)) := by
 refine FSpec.intro fn.law36_columns (by rfl) (by rfl) (nb9 (by rfl)) fun E hE => (AW.sg hE rfl (asD rfl (OL.nil (AW.seq (AW.sg hE rfl (mvD rfl (lnL sl.Ratss rfl rfl ?_)))))))
 refine mvD rfl (lnL sl.Ratss rfl rfl (c_neq rfl rfl (c := false) (cne_f rfl) (OL.nil (AW.cond rfl (fun hno => absurd hno (by decide)) (fun _ => ?_)))))
 refine AW.skip (AW.seq (AW.sg hE rfl (asD rfl (OL.nil (AW.block (AW.whileK (α := Nat) [(0, _), (1, _)] [] (fun i => [(5, .d (dI i))]) (fun i => []) (fun i => i ≤ a.length) (fun i => a.length - i) 0 (.cons (knD rfl) (.cons (knD rfl) .nil)) .nil ⟨Nat.zero_le _, .cons (VLe.refl _) .nil, .nil⟩ ?_))))))
 intro i h1
 refine AW.seq (AW.sg hE rfl (mvD rfl (mvD rfl (lnL sl.Ratss rfl rfl (c_lss rfl rfl rfl (OL.nil (AW.cond rfl (fun h14 => ?_) (fun h14 => ?_))))))))
 ·try simp only [dx9] at h14
  refine AW.skip (AW.seq (AW.block (AW.seq ?_)))
  have hzi := hz i
  refine AW.dg 1 [0,1,2,3,4,5,6,7,8,9] order_free hE rfl (by kernel_rfl) (OI.of_OL (os := [_,_,_,_,_,_,_,_,_,_]) rfl ?_)
  refine mvD rfl (mvD rfl (ixLn sl.Ratss [] rfl rfl (by omega) rfl rfl (ldRC ce.Rats rfl (mvD rfl (mvD rfl (ixLn sl.Ratss [] rfl rfl (by omega) rfl rfl (ldRC ce.Rats rfl ?_)))))))
  refine clv rfl (.cons (VLe.refl _) (.cons (VLe.refl _) (.nil))) (ref33_SameRatsX hzi.1 hzi.1 ⟨hC.1, hC.2, by omega⟩) ?_
  rw [decide_eq_true rfl]
  refine nt rfl (OL.nil (AW.cond rfl (fun hno => absurd hno (by decide)) (fun _ => ?_)))
  exact AW.skip (AW.rg hE rfl (mvD rfl (add_i64 rfl rfl (by omega) (asD rfl (OL.nil (AW.again (x := i) (i + 1) (by omega) ⟨by omega, Knows.app (.cons (VLe.refl _) (.cons (VLe.refl _) .nil)) (.cons (VLe.refl _) .nil), .nil⟩))))))
 ·try simp only [dx9] at h14
  exact AW.exit (AW.sg hE rfl (asD rfl (OL.nil (AW.ret (RetQ.r ⟨_, .tmp rfl .nil, .le (VLe.refl _)⟩)))))
theorem pair_wrd : wrdE (rmOf pairHM) [1, 2] = 0 := wrdE_0 (good_chkP pair_good.wide) (by rw [hm_rmOf]; exact pair_word)
theorem known_best : bestA (rmOf pairHM) [1, 2] 1 = ([0, 1], bestP pairHM [1, 2], 3, 0) := by
 rw [bestA_w pair_wrd ⟨by decide, by decide, by decide⟩ (by decide), hm_rmOf]
 rw [show ckP pairHM [1, 2] = [0, 1] from (if_neg pair_best.1).trans pair_best.2, show ckE pairHM [1, 2] = 0 from if_neg pair_best.1, if_neg pair_best.1]
 rw [show (1 : Int).toNat = 1 from rfl, show ckS pairHM [1, 2] 1 = 3 from if_neg pair_best.1]
 rfl
theorem pair_vRM : vHM pairHM = vRM (rmOf pairHM) := (vRM_rmOf pairHM).symm
theorem law36_known  : FSpec P F.law36_known [] (.d (dB true)) := by
 refine FSpec.intro fn.law36_known (by rfl) (by rfl) (nb9 (by rfl)) fun E hE => (AW.sg hE rfl (asD rfl (OL.nil (AW.sg hE rfl (clv rfl (.cons (VLe.refl _) (.cons (VLe.refl _) (.nil))) (checkpoint_StoredA (n := 9) (b := 3) (by decide)) ?_)))))
 rw [show stoR 9 3 = (6, 0) from by decide +kernel]
 refine mvT rfl (ex rfl rfl (ex rfl rfl (asD rfl (asD rfl (OL.nil (AW.sg hE rfl (clv rfl .nil law36_pair ?_)))))))
 refine lt2 sl.ints (VC.d _).vd (VC.d _).vd ⟨rfl, rfl⟩ (by decide) (clv rfl (.cons (vle_of_eq pair_vRM) (.cons (VLe.refl _) (.cons (VLe.refl _) .nil))) (checkpoint_BestA (b := 1) (w := [1, 2]) (good_sz pair_good.wide) (by decide)) ?_)
 rw [known_best]
 generalize bestP pairHM [1, 2] = qb
 refine mvT rfl (ex rfl rfl (ex rfl rfl (ex rfl rfl (ex rfl rfl (al z.Rat rfl fun b4 => (asD rfl (sto sz.Rat rfl rfl rfl rfl rfl (nb9 rfl) (cells2 := [_,_,_]) rfl ?_)))))))
 refine asD rfl (asD rfl (OL.nil (AW.sg hE rfl (mvD rfl (c_eql rfl rfl (c := true) (by exact decide_eq_true (by omega)) (mvD rfl (OL.yes rfl ?_)))))))
 refine mvD rfl (OL.yes rfl (c_eql rfl rfl (c := true) (by rfl) (pkT rfl rfl (mvD rfl (OL.yes rfl (mvD rfl (OL.yes rfl ?_)))))))
 refine c_eql rfl rfl (c := true) (by exact decide_eq_true (by omega)) (pkT rfl rfl (mvD rfl (OL.yes rfl (mvD rfl (OL.yes rfl (c_eql rfl rfl (c := true) (by rfl) (pkT rfl rfl ?_)))))))
 refine mvD rfl (OL.yes rfl (mvD rfl (OL.yes rfl (lt2 sl.ints (VC.d _).vd (VC.d _).vd ⟨rfl, rfl⟩ (by decide) (OL.yes rfl (clv rfl (.cons (VLe.refl _) (.cons (VLe.refl _) .nil)) (law36_same (l := [0, 1]) (m := [0, 1]) (by decide)) ?_))))))
 rw [decide_eq_true rfl]
 exact pkT rfl rfl (asD rfl (OL.nil (AW.ret (RetQ.r ⟨_, .tmp rfl .nil, .le (VLe.refl _)⟩))))
set_option maxRecDepth 6000 in
set_option maxHeartbeats 3200000 in
theorem law_CheckpointActs {h : RM} {w : List Int} {b fr to : Int} {c : List Raw} (zz : h.Sz) (nw : w.length ≤ 1048576) (mc : MedL c) (nc : c.length ≤ 1048576) : FSpec P F.law36_CheckpointActs [vRM h, .d (ints w), .d (dI b), .d (dI fr), .d (dI to), .d (dRs c)] (.d (dB true)) := by
 refine FSpec.intro fn.law36_CheckpointActs (by rfl) (by rfl) (nb9 (by rfl)) fun E hE => (AW.sg hE rfl (bxA rfl rfl fun b6 => (asD rfl (OL.nil (AW.seq ?_)))))
 refine AW.midK (α := Bool) [(1, _), (2, _), (3, _), (4, _), (5, _), (6, _), (12, _)] [(6, _)] (fun x => [(46, .d (dB x))]) (fun x => []) (fun x => x = false → w.length ≤ 6 ∨ 256 < w.length) (.cons (knD rfl) (.cons (knD rfl) (.cons (knD rfl) (.cons (knD rfl) (.cons (knD rfl) (.cons (knP rfl) (.cons (knD rfl) .nil))))))) (.cons (owB rfl) .nil) ?_ ?_
 ·refine AW.rg hE rfl (ldPA ag.Hidden rfl rfl (vs := [_,_,_,_,_,_,_,_,_,_,_]) rfl (nb9 rfl) (clv rfl (.cons (VLe.refl _) (.nil)) (law36_light) (nt rfl (mvD rfl (OL.split 32 rfl (fun a1 => ?_) (fun a1 => ?_))))))
  ·have _a1 := a1
   refine OL.no rfl (by decide) (OL.no rfl (by decide) (OL.no rfl (by decide) (OL.no rfl (by decide) (OL.no rfl (by decide) (OL.no rfl (by decide) (OL.no rfl (by decide) (OL.no rfl (by decide) ?_)))))))
   exact pkT rfl rfl (mvD rfl (OL.no rfl (by decide) (OL.no rfl (by decide) (OL.no rfl (by decide) (pkT rfl rfl (OL.nil (AW.reach true ⟨fun e => (by cases e), Knows.app (.cons (VLe.refl _) (.cons (VLe.refl _) (.cons (VLe.refl _) (.cons (VLe.refl _) (.cons (VLe.refl _) (.cons (VLe.refl _) (.cons (VLe.refl _) .nil))))))) (.cons (VLe.refl _) .nil), Owns.app (.cons rfl .nil) (.nil)⟩)))))))
  ·have _a1 := a1
   refine OL.yes rfl (mvD rfl (OL.yes rfl (lnL sl.ints rfl rfl (OL.yes rfl (c_gtr rfl rfl rfl (OL.yes rfl (mvD rfl ?_)))))))
   refine OL.split 36 rfl (fun a2 => ?_) (fun a2 => ?_)
   ·have a2 : (6 : Int) < w.length := of_decide_eq_true a2
    refine OL.yes rfl (mvD rfl (OL.yes rfl (lnL sl.ints rfl rfl (OL.yes rfl (c_leq rfl rfl rfl (OL.yes rfl (pkT rfl rfl ?_)))))))
    refine pkF rfl rfl (mvD rfl (OL.split 42 rfl (fun a3 => ?_) (fun a3 => ?_)))
    ·have _a3 := a3
     exact OL.no rfl (by decide) (OL.no rfl (by decide) (OL.no rfl (by decide) (pkT rfl rfl (OL.nil (AW.reach true ⟨fun e => (by cases e), Knows.app (.cons (VLe.refl _) (.cons (VLe.refl _) (.cons (VLe.refl _) (.cons (VLe.refl _) (.cons (VLe.refl _) (.cons (VLe.refl _) (.cons (VLe.refl _) .nil))))))) (.cons (VLe.refl _) .nil), Owns.app (.cons rfl .nil) (.nil)⟩)))))
    ·have a3 : ¬ (w.length : Int) ≤ 256 := of_decide_eq_false a3
     refine OL.yes rfl (mvD rfl (OL.yes rfl (lnL sl.Rats rfl rfl (OL.yes rfl (c_gtr rfl rfl rfl (pkF rfl rfl (OL.nil ?_)))))))
     exact AW.reach (decide ((20 : Int) < c.length)) ⟨fun _ => .inr (by omega), Knows.app (.cons (VLe.refl _) (.cons (VLe.refl _) (.cons (VLe.refl _) (.cons (VLe.refl _) (.cons (VLe.refl _) (.cons (VLe.refl _) (.cons (VLe.refl _) .nil))))))) (.cons (VLe.refl _) .nil), Owns.app (.cons rfl .nil) (.nil)⟩
   ·have a2 : ¬ (6 : Int) < w.length := of_decide_eq_false a2
    refine OL.no rfl (by decide) (OL.no rfl (by decide) (OL.no rfl (by decide) (OL.yes rfl (pkF rfl rfl (pkF rfl rfl (mvD rfl (OL.yes rfl ?_)))))))
    refine mvD rfl (OL.yes rfl (lnL sl.Rats rfl rfl (OL.yes rfl (c_gtr rfl rfl rfl (pkF rfl rfl (OL.nil ?_))))))
    exact AW.reach (decide ((20 : Int) < c.length)) ⟨fun _ => .inl (by omega), Knows.app (.cons (VLe.refl _) (.cons (VLe.refl _) (.cons (VLe.refl _) (.cons (VLe.refl _) (.cons (VLe.refl _) (.cons (VLe.refl _) (.cons (VLe.refl _) .nil))))))) (.cons (VLe.refl _) .nil), Owns.app (.cons rfl .nil) (.nil)⟩
 rintro x hx
 refine AW.cond rfl (fun c46 => ?_) (fun c46 => ?_)
 ·have _c46 := c46
  exact AW.sg hE rfl (clv rfl .nil law36_known (asD rfl (OL.nil (AW.ret (RetQ.r ⟨_, .tmp rfl .nil, .le (VLe.refl _)⟩)))))
 ·have wl := hx c46
  refine AW.skip (AW.sg hE rfl (mvD rfl (lnL sl.ints rfl rfl (mvD rfl (clv rfl (.cons (VLe.refl _) (.cons (VLe.refl _) (.nil))) (checkpoint_StoredA nw) (mvT rfl (ex rfl rfl ?_)))))))
  refine ex rfl rfl (asD rfl (asD rfl (OL.nil (AW.sg hE rfl (mvD rfl (lnL sl.ints rfl rfl (mvD rfl ?_)))))))
  refine clv rfl (.cons (VLe.refl _) (.cons (VLe.refl _) (.nil))) (ref36_StoredA nw) (mvT rfl (ex rfl rfl (ex rfl rfl (asD rfl (asD rfl (OL.nil (AW.sg hE rfl ?_)))))))
  refine ldPA ag.Hidden rfl rfl (vs := [_,_,_,_,_,_,_,_,_,_,_]) rfl (nb9 rfl) (mvD rfl (mvD rfl (clv rfl (.cons (VLe.refl _) (.cons (VLe.refl _) (.cons (VLe.refl _) (.nil)))) (checkpoint_BestA zz nw) (mvT rfl (ex rfl rfl (ex rfl rfl (ex rfl rfl ?_)))))))
  refine ex rfl rfl (al z.Rat rfl fun b18 => (asD rfl (sto sz.Rat rfl rfl rfl rfl rfl (nb9 rfl) (cells2 := [_,_,_]) rfl (asD rfl (asD rfl (OL.nil (AW.sg hE rfl ?_)))))))
  refine ldPA ag.Hidden rfl rfl (vs := [_,_,_,_,_,_,_,_,_,_,_]) rfl (nb9 rfl) (mvD rfl (mvD rfl (clv rfl (.cons (VLe.refl _) (.cons (VLe.refl _) (.cons (VLe.refl _) (.nil)))) (ref36_BestA zz nw) (mvT rfl (ex rfl rfl (ex rfl rfl (ex rfl rfl ?_)))))))
  refine ex rfl rfl (al z.Rat rfl fun b22 => (asD rfl (sto sz.Rat rfl rfl rfl rfl rfl (nb9 rfl) (cells2 := [_,_,_]) rfl (asD rfl (asD rfl (OL.nil (AW.sg hE rfl ?_)))))))
  refine ldPA ag.Hidden rfl rfl (vs := [_,_,_,_,_,_,_,_,_,_,_]) rfl (nb9 rfl) (mvD rfl (mvD rfl (mvD rfl (mvD rfl (clv rfl (.cons (VLe.refl _) (.cons (VLe.refl _) (.cons (VLe.refl _) (.cons (VLe.refl _) (.cons (VLe.refl _) (.nil)))))) (checkpoint_ColumnsA zz nw mc nc) (mvT rfl (ex rfl rfl ?_)))))))
  refine ex rfl rfl (asD rfl (asD rfl (OL.nil (AW.sg hE rfl (ldPA ag.Hidden rfl rfl (vs := [_,_,_,_,_,_,_,_,_,_,_]) rfl (nb9 rfl) (mvD rfl (mvD rfl ?_)))))))
  refine mvD rfl (mvD rfl (clv rfl (.cons (VLe.refl _) (.cons (VLe.refl _) (.cons (VLe.refl _) (.cons (VLe.refl _) (.cons (VLe.refl _) (.nil)))))) (ref36_ColumnsA zz nw mc nc) (mvT rfl (ex rfl rfl (ex rfl rfl (asD rfl (asD rfl ?_)))))))
  refine OL.nil (AW.seq ?_)
  obtain ⟨z1, z2⟩ := bestA_sz zz w b
  obtain ⟨z3, z4⟩ := colA_sz (fr := fr) (to := to) zz mc wl
  refine AW.rg hE rfl (clv rfl .nil law36_known (mvD rfl (OL.yes rfl (mvD rfl (OL.yes rfl (mvD rfl (OL.yes rfl ?_)))))))
  refine c_eql rfl rfl (c := true) (decide_eq_true rfl) (pkT rfl rfl (mvD rfl (OL.yes rfl (mvD rfl (OL.yes rfl (mvD rfl (OL.yes rfl ?_)))))))
  refine c_eql rfl rfl (c := true) (decide_eq_true rfl) (pkT rfl rfl (mvD rfl (OL.yes rfl (mvD rfl (OL.yes rfl (mvD rfl (OL.yes rfl ?_)))))))
  refine c_eql rfl rfl (c := true) (decide_eq_true rfl) (pkT rfl rfl (mvD rfl (OL.yes rfl (mvD rfl (OL.yes rfl (mvD rfl (OL.yes rfl ?_)))))))
  refine clv rfl (.cons (VLe.refl _) (.cons (VLe.refl _) (.nil))) (law36_same (l := (bestA h w b).1) (m := (bestA h w b).1) (by omega)) ?_
  rw [decide_eq_true rfl]
  refine pkT rfl rfl (mvD rfl (OL.yes rfl (ldPA ag.Rat rfl rfl (vs := [_,_,_]) rfl (nb9 rfl) (OL.yes rfl (ldPA ag.Rat rfl rfl (vs := [_,_,_]) rfl (nb9 rfl) (OL.yes rfl (clv rfl (.cons (VLe.refl _) (.cons (VLe.refl _) (.nil))) (ref_CompareQ (x := (bestA h w b).2.1) (y := (bestA h w b).2.1) (by omega) (by omega)) ?_)))))))
  rw [show cmpQ ((bestA h w b).2.1) ((bestA h w b).2.1) = 0 from cmpQ_eq.2 rfl]
  refine OL.yes rfl (c_eql rfl rfl (c := true) (by exact decide_eq_true (by omega)) (pkT rfl rfl (mvD rfl (OL.yes rfl (mvD rfl (OL.yes rfl (mvD rfl ?_)))))))
  refine OL.yes rfl (c_eql rfl rfl (c := true) (decide_eq_true rfl) (pkT rfl rfl (mvD rfl (OL.yes rfl (mvD rfl (OL.yes rfl (mvD rfl ?_)))))))
  refine OL.yes rfl (c_eql rfl rfl (c := true) (decide_eq_true rfl) (pkT rfl rfl (mvD rfl (OL.yes rfl (mvD rfl (OL.yes rfl (mvD rfl ?_)))))))
  exact OL.yes rfl (clv rfl (.cons (VLe.refl _) (.cons (VLe.refl _) (.nil))) (law36_columnsX (a := (colA h w fr to c).1) z4 ⟨by decide, by decide⟩ ⟨by omega, by decide⟩) (pkT rfl rfl (asD rfl (OL.nil (AW.ret (RetQ.r ⟨_, .tmp rfl .nil, .le (VLe.refl _)⟩))))))
end Go.Proofs.YtjghehkgmanmbaaGreat

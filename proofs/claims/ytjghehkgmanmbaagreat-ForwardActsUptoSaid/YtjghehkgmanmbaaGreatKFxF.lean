/-
  The law ForwardActs (printed by mk2.py).
-/
import Derived.Test.YtjghehkgmanmbaaGreatKFxE
import Derived.Test.YtjghehkgmanmbaaGreatKMod53
set_option linter.unusedVariables false
set_option linter.unusedSimpArgs false
namespace Go.Proofs.YtjghehkgmanmbaaGreat
open Go Go.AL
theorem ex_coin : ExSz coinHM [1, 2] := exSz coin_good.wide (by decide) (by decide) (by decide)
theorem fwd_ForwardX {h : HM} {w : List Int} (g : h.GoodW 1048576) (k : WordOK h w) (xz : ExSz h w) : FSpec P F.forward_Forward [vHM h, .d (ints w)] (.tup [.d (dQss ((List.range w.length).map (fwdF h w))), .d (dI 0)]) := by
 have f := g.form
 refine FSpec.intro fn.forward_Forward (by rfl) (by rfl) (nb9 (by rfl)) fun E hE => (AW.sg hE rfl (bxA rfl rfl fun b2 => (asM rfl (asD rfl (OL.nil (AW.seq (AW.sg hE rfl ?_)))))))
 refine ldPA ag.Hidden rfl rfl (vs := [_,_,_,_,_,_,_,_,_,_,_]) rfl (nb9 rfl) (mvD rfl (clv rfl (.cons (VLe.refl _) (.cons (VLe.refl _) (.nil))) (forward_refuseX g k) (asD rfl (OL.nil (AW.sg hE rfl (mvD rfl (c_neq rfl rfl (c := false) (by exact cne_f (by omega)) ?_)))))))
 refine OL.nil (AW.cond rfl (fun hno => absurd hno (by decide)) (fun _ => ?_))
 refine AW.skip (AW.sg hE rfl (ldPA ag.Hidden rfl rfl (vs := [_,_,_,_,_,_,_,_,_,_,_]) rfl (nb9 rfl) (mvD rfl (clv rfl (.cons (VLe.refl _) (.cons (VLe.refl _) (.nil))) (fwd_forwardD f k xz.s) (asD rfl (asD rfl (OL.nil ?_)))))))
 exact AW.ret (RetQ.r ⟨_, .tmp rfl (.tmp rfl .nil), _, .cons (.le (VLe.refl _)) (.cons (.le (VLe.refl _)) .nil), rfl⟩)
theorem fwd_BackwardX {h : HM} {w : List Int} (g : h.GoodW 1048576) (k : WordOK h w) (xz : ExSz h w) : FSpec P F.forward_Backward [vHM h, .d (ints w)] (.tup [.d (dQss (colsB h w w.length)), .d (dI 0)]) := by
 have f := g.form
 refine FSpec.intro fn.forward_Backward (by rfl) (by rfl) (nb9 (by rfl)) fun E hE => (AW.sg hE rfl (bxA rfl rfl fun b2 => (asM rfl (asD rfl (OL.nil (AW.seq (AW.sg hE rfl ?_)))))))
 refine ldPA ag.Hidden rfl rfl (vs := [_,_,_,_,_,_,_,_,_,_,_]) rfl (nb9 rfl) (mvD rfl (clv rfl (.cons (VLe.refl _) (.cons (VLe.refl _) (.nil))) (forward_refuseX g k) (asD rfl (OL.nil (AW.sg hE rfl (mvD rfl (c_neq rfl rfl (c := false) (by exact cne_f (by omega)) ?_)))))))
 refine OL.nil (AW.cond rfl (fun hno => absurd hno (by decide)) (fun _ => ?_))
 refine AW.skip (AW.sg hE rfl (ldPA ag.Hidden rfl rfl (vs := [_,_,_,_,_,_,_,_,_,_,_]) rfl (nb9 rfl) (mvD rfl (clv rfl (.cons (VLe.refl _) (.cons (VLe.refl _) (.nil))) (fwd_backwardX f k xz) (asD rfl (asD rfl (OL.nil ?_)))))))
 exact AW.ret (RetQ.r ⟨_, .tmp rfl (.tmp rfl .nil), _, .cons (.le (VLe.refl _)) (.cons (.le (VLe.refl _)) .nil), rfl⟩)
theorem fwd_LikelihoodX {h : HM} {w : List Int} (g : h.GoodW 1048576) (k : WordOK h w) (xz : ExSz h w) : FSpec P F.forward_Likelihood [vHM h, .d (ints w)] (.tup [vQ (likF h w), .d (dI 0)]) := by
 have f := g.form
 refine FSpec.intro fn.forward_Likelihood (by rfl) (by rfl) (nb9 (by rfl)) fun E hE => (AW.sg hE rfl (bxA rfl rfl fun b2 => (al z.Rat rfl fun b4 => (asD rfl (OL.nil (AW.seq (AW.sg hE rfl ?_)))))))
 refine ldPA ag.Hidden rfl rfl (vs := [_,_,_,_,_,_,_,_,_,_,_]) rfl (nb9 rfl) (mvD rfl (clv rfl (.cons (VLe.refl _) (.cons (VLe.refl _) (.nil))) (forward_refuseX g k) (asD rfl (OL.nil (AW.sg hE rfl (mvD rfl (c_neq rfl rfl (c := false) (by exact cne_f (by omega)) ?_)))))))
 refine OL.nil (AW.cond rfl (fun hno => absurd hno (by decide)) (fun _ => ?_))
 refine AW.skip (AW.sg hE rfl (ldPA ag.Hidden rfl rfl (vs := [_,_,_,_,_,_,_,_,_,_,_]) rfl (nb9 rfl) (mvD rfl (clv rfl (.cons (VLe.refl _) (.cons (VLe.refl _) (.nil))) (fwd_likelihoodS f k xz.s) (sto sz.Rat rfl rfl rfl rfl rfl (nb9 rfl) (cells2 := [_,_,_]) rfl (asD rfl (OL.nil ?_)))))))
 exact AW.ret (RetQ.r ⟨_, .cellA rfl rfl ag.Rat (nb9 rfl) (.tmp rfl .nil), _, .cons (.ag (.cons (.le (VLe.refl _)) (.cons (.le (VLe.refl _)) (.cons (.le (VLe.refl _)) .nil)))) (.cons (.le (VLe.refl _)) .nil), rfl⟩)
theorem fwd_ForwardE {h : RM} {w : List Int} (zz : h.Sz) (nw : w.length ≤ 1048576) (e : ¬ wrdE h w = 0) : FSpec P F.forward_Forward [vRM h, .d (ints w)] (.tup [.d (dQss []), .d (dI (wrdE h w))]) := by
 refine FSpec.intro fn.forward_Forward (by rfl) (by rfl) (nb9 (by rfl)) fun E hE => (AW.sg hE rfl (bxA rfl rfl fun b2 => (asM rfl (asD rfl (OL.nil (AW.seq (AW.sg hE rfl ?_)))))))
 refine ldPA ag.Hidden rfl rfl (vs := [_,_,_,_,_,_,_,_,_,_,_]) rfl (nb9 rfl) (mvD rfl (clv rfl (.cons (VLe.refl _) (.cons (VLe.refl _) (.nil))) (forward_refuseR zz nw) (asD rfl (OL.nil (AW.sg hE rfl (mvD rfl (c_neq rfl rfl (c := true) (cne_t e) ?_)))))))
 refine OL.nil (AW.cond rfl (fun _ => ?_) (fun hno => absurd hno (by decide)))
 exact AW.sg hE rfl (mvD rfl (asM rfl (asD rfl (OL.nil (AW.ret (RetQ.r ⟨_, .tmp rfl (.tmp rfl .nil), _, .cons (.le (VLe.mt)) (.cons (.le (VLe.refl _)) .nil), rfl⟩))))))
theorem fwd_BackwardE {h : RM} {w : List Int} (zz : h.Sz) (nw : w.length ≤ 1048576) (e : ¬ wrdE h w = 0) : FSpec P F.forward_Backward [vRM h, .d (ints w)] (.tup [.d (dQss []), .d (dI (wrdE h w))]) := by
 refine FSpec.intro fn.forward_Backward (by rfl) (by rfl) (nb9 (by rfl)) fun E hE => (AW.sg hE rfl (bxA rfl rfl fun b2 => (asM rfl (asD rfl (OL.nil (AW.seq (AW.sg hE rfl ?_)))))))
 refine ldPA ag.Hidden rfl rfl (vs := [_,_,_,_,_,_,_,_,_,_,_]) rfl (nb9 rfl) (mvD rfl (clv rfl (.cons (VLe.refl _) (.cons (VLe.refl _) (.nil))) (forward_refuseR zz nw) (asD rfl (OL.nil (AW.sg hE rfl (mvD rfl (c_neq rfl rfl (c := true) (cne_t e) ?_)))))))
 refine OL.nil (AW.cond rfl (fun _ => ?_) (fun hno => absurd hno (by decide)))
 exact AW.sg hE rfl (mvD rfl (asM rfl (asD rfl (OL.nil (AW.ret (RetQ.r ⟨_, .tmp rfl (.tmp rfl .nil), _, .cons (.le (VLe.mt)) (.cons (.le (VLe.refl _)) .nil), rfl⟩))))))
theorem fwd_LikelihoodE {h : RM} {w : List Int} (zz : h.Sz) (nw : w.length ≤ 1048576) (e : ¬ wrdE h w = 0) : FSpec P F.forward_Likelihood [vRM h, .d (ints w)] (.tup [vQ 0, .d (dI (wrdE h w))]) := by
 refine FSpec.intro fn.forward_Likelihood (by rfl) (by rfl) (nb9 (by rfl)) fun E hE => (AW.sg hE rfl (bxA rfl rfl fun b2 => (al z.Rat rfl fun b4 => (asD rfl (OL.nil (AW.seq (AW.sg hE rfl ?_)))))))
 refine ldPA ag.Hidden rfl rfl (vs := [_,_,_,_,_,_,_,_,_,_,_]) rfl (nb9 rfl) (mvD rfl (clv rfl (.cons (VLe.refl _) (.cons (VLe.refl _) (.nil))) (forward_refuseR zz nw) (asD rfl (OL.nil (AW.sg hE rfl (mvD rfl (c_neq rfl rfl (c := true) (cne_t e) ?_)))))))
 refine OL.nil (AW.cond rfl (fun _ => ?_) (fun hno => absurd hno (by decide)))
 refine AW.sg hE rfl (bd z.Rat pl.Rat (cs := [_,_,_]) rfl (mvD rfl (sto sz.Rat rfl rfl rfl rfl rfl (nb9 rfl) (cells2 := [_,_,_]) rfl (asD rfl (OL.nil ?_)))))
 exact AW.ret (RetQ.r ⟨_, .cellA rfl rfl ag.Rat (nb9 rfl) (.tmp rfl .nil), _, .cons (.ag (.cons (.le (by rw [ofQ_zero]; exact VLe.refl _)) (.cons (.le (by rw [ofQ_zero]; exact VLe.mt)) (.cons (.le (by rw [ofQ_zero]; exact VLe.mt)) .nil)))) (.cons (.le (VLe.refl _)) .nil), rfl⟩)
theorem fwd_PosteriorE {h : RM} {w : List Int} (zz : h.Sz) (nw : w.length ≤ 1048576) (e : ¬ wrdE h w = 0) : FSpec P F.forward_Posterior [vRM h, .d (ints w)] (.tup [.d (dQss []), .d (dI (wrdE h w))]) := by
 refine FSpec.intro fn.forward_Posterior (by rfl) (by rfl) (nb9 (by rfl)) fun E hE => (AW.sg hE rfl (bxA rfl rfl fun b2 => (asM rfl (asD rfl (OL.nil (AW.seq (AW.sg hE rfl ?_)))))))
 refine ldPA ag.Hidden rfl rfl (vs := [_,_,_,_,_,_,_,_,_,_,_]) rfl (nb9 rfl) (mvD rfl (clv rfl (.cons (VLe.refl _) (.cons (VLe.refl _) (.nil))) (forward_refuseR zz nw) (asD rfl (OL.nil (AW.sg hE rfl (mvD rfl (c_neq rfl rfl (c := true) (cne_t e) ?_)))))))
 refine OL.nil (AW.cond rfl (fun _ => ?_) (fun hno => absurd hno (by decide)))
 exact AW.sg hE rfl (mvD rfl (asM rfl (asD rfl (OL.nil (AW.ret (RetQ.r ⟨_, .tmp rfl (.tmp rfl .nil), _, .cons (.le (VLe.mt)) (.cons (.le (VLe.refl _)) .nil), rfl⟩))))))
theorem fwd_ExpectedE {h : RM} {w : List Int} (zz : h.Sz) (nw : w.length ≤ 1048576) (e : ¬ wrdE h w = 0) : FSpec P F.forward_Expected [vRM h, .d (ints w)] (.tup [.ag [.d (dQs []), .d (dQss []), .d (dQs []), .d (dQss [])], .d (dI (wrdE h w))]) := by
 refine FSpec.intro fn.forward_Expected (by rfl) (by rfl) (nb9 (by rfl)) fun E hE => (AW.sg hE rfl (bxA rfl rfl fun b2 => (al z.Counts rfl fun b4 => (asD rfl (OL.nil (AW.sg hE rfl (ldPA ag.Hidden rfl rfl (vs := [_,_,_,_,_,_,_,_,_,_,_]) rfl (nb9 rfl) ?_)))))))
 refine mvD rfl (clv rfl (.cons (VLe.refl _) (.cons (VLe.refl _) (.nil))) (fwd_PosteriorE zz nw e) (mvT rfl (ex rfl rfl (ex rfl rfl (asD rfl (asD rfl (OL.nil ?_)))))))
 refine AW.seq (AW.sg hE rfl (mvD rfl (c_neq rfl rfl (c := true) (cne_t e) (OL.nil (AW.cond rfl (fun _ => ?_) (fun hno => absurd hno (by decide)))))))
 exact AW.sg hE rfl (bd z.Counts pl.Counts (cs := [_,_,_,_]) rfl (mvD rfl (sto sz.Counts rfl rfl rfl rfl rfl (nb9 rfl) (cells2 := [_,_,_,_]) rfl (asD rfl (OL.nil (AW.ret (RetQ.r ⟨_, .cellA rfl rfl ag.Counts (nb9 rfl) (.tmp rfl .nil), _, .cons (.ag (.cons (.le (VLe.mt)) (.cons (.le (VLe.mt)) (.cons (.le (VLe.mt)) (.cons (.le (VLe.mt)) .nil))))) (.cons (.le (VLe.refl _)) .nil), rfl⟩)))))))
theorem ref34_ForwardE {h : RM} {w : List Int} (zz : h.Sz) (nw : w.length ≤ 1048576) (e : ¬ wrdE h w = 0) : FSpec P F.ref34_Forward [vRM h, .d (ints w)] (.tup [.d (dQss []), .d (dI (wrdE h w))]) := by
 refine FSpec.intro fn.ref34_Forward (by rfl) (by rfl) (nb9 (by rfl)) fun E hE => (AW.sg hE rfl (bxA rfl rfl fun b2 => (asM rfl (asD rfl (OL.nil (AW.seq (AW.sg hE rfl ?_)))))))
 refine ldPA ag.Hidden rfl rfl (vs := [_,_,_,_,_,_,_,_,_,_,_]) rfl (nb9 rfl) (mvD rfl (clv rfl (.cons (VLe.refl _) (.cons (VLe.refl _) (.nil))) (ref34_CheckR zz nw) (asD rfl (OL.nil (AW.sg hE rfl (mvD rfl (c_neq rfl rfl (c := true) (cne_t e) ?_)))))))
 refine OL.nil (AW.cond rfl (fun _ => ?_) (fun hno => absurd hno (by decide)))
 exact AW.sg hE rfl (mvD rfl (asM rfl (asD rfl (OL.nil (AW.ret (RetQ.r ⟨_, .tmp rfl (.tmp rfl .nil), _, .cons (.le (VLe.mt)) (.cons (.le (VLe.refl _)) .nil), rfl⟩))))))
theorem ref34_BackwardE {h : RM} {w : List Int} (zz : h.Sz) (nw : w.length ≤ 1048576) (e : ¬ wrdE h w = 0) : FSpec P F.ref34_Backward [vRM h, .d (ints w)] (.tup [.d (dQss []), .d (dI (wrdE h w))]) := by
 refine FSpec.intro fn.ref34_Backward (by rfl) (by rfl) (nb9 (by rfl)) fun E hE => (AW.sg hE rfl (bxA rfl rfl fun b2 => (asM rfl (asD rfl (OL.nil (AW.seq (AW.sg hE rfl ?_)))))))
 refine ldPA ag.Hidden rfl rfl (vs := [_,_,_,_,_,_,_,_,_,_,_]) rfl (nb9 rfl) (mvD rfl (clv rfl (.cons (VLe.refl _) (.cons (VLe.refl _) (.nil))) (ref34_CheckR zz nw) (asD rfl (OL.nil (AW.sg hE rfl (mvD rfl (c_neq rfl rfl (c := true) (cne_t e) ?_)))))))
 refine OL.nil (AW.cond rfl (fun _ => ?_) (fun hno => absurd hno (by decide)))
 exact AW.sg hE rfl (mvD rfl (asM rfl (asD rfl (OL.nil (AW.ret (RetQ.r ⟨_, .tmp rfl (.tmp rfl .nil), _, .cons (.le (VLe.mt)) (.cons (.le (VLe.refl _)) .nil), rfl⟩))))))
theorem ref34_LikelihoodE {h : RM} {w : List Int} (zz : h.Sz) (nw : w.length ≤ 1048576) (e : ¬ wrdE h w = 0) : FSpec P F.ref34_Likelihood [vRM h, .d (ints w)] (.tup [vQ 0, .d (dI (wrdE h w))]) := by
 refine FSpec.intro fn.ref34_Likelihood (by rfl) (by rfl) (nb9 (by rfl)) fun E hE => (AW.sg hE rfl (bxA rfl rfl fun b2 => (al z.Rat rfl fun b4 => (asD rfl (OL.nil (AW.sg hE rfl (ldPA ag.Hidden rfl rfl (vs := [_,_,_,_,_,_,_,_,_,_,_]) rfl (nb9 rfl) ?_)))))))
 refine mvD rfl (clv rfl (.cons (VLe.refl _) (.cons (VLe.refl _) (.nil))) (ref34_ForwardE zz nw e) (mvT rfl (ex rfl rfl (ex rfl rfl (asD rfl (asD rfl (OL.nil ?_)))))))
 refine AW.seq (AW.sg hE rfl (mvD rfl (c_neq rfl rfl (c := true) (cne_t e) (OL.nil (AW.cond rfl (fun _ => ?_) (fun hno => absurd hno (by decide)))))))
 refine AW.sg hE rfl (bd z.Rat pl.Rat (cs := [_,_,_]) rfl (mvD rfl (sto sz.Rat rfl rfl rfl rfl rfl (nb9 rfl) (cells2 := [_,_,_]) rfl (asD rfl (OL.nil ?_)))))
 exact AW.ret (RetQ.r ⟨_, .cellA rfl rfl ag.Rat (nb9 rfl) (.tmp rfl .nil), _, .cons (.ag (.cons (.le (by rw [ofQ_zero]; exact VLe.refl _)) (.cons (.le (by rw [ofQ_zero]; exact VLe.mt)) (.cons (.le (by rw [ofQ_zero]; exact VLe.mt)) .nil)))) (.cons (.le (VLe.refl _)) .nil), rfl⟩)
theorem ref34_PosteriorE {h : RM} {w : List Int} (zz : h.Sz) (nw : w.length ≤ 1048576) (e : ¬ wrdE h w = 0) : FSpec P F.ref34_Posterior [vRM h, .d (ints w)] (.tup [.d (dQss []), .d (dI (wrdE h w))]) := by
 refine FSpec.intro fn.ref34_Posterior (by rfl) (by rfl) (nb9 (by rfl)) fun E hE => (AW.sg hE rfl (bxA rfl rfl fun b2 => (asM rfl (asD rfl (OL.nil (AW.sg hE rfl (ldPA ag.Hidden rfl rfl (vs := [_,_,_,_,_,_,_,_,_,_,_]) rfl (nb9 rfl) ?_)))))))
 refine mvD rfl (clv rfl (.cons (VLe.refl _) (.cons (VLe.refl _) (.nil))) (ref34_ForwardE zz nw e) (mvT rfl (ex rfl rfl (ex rfl rfl (asD rfl (asD rfl (OL.nil ?_)))))))
 refine AW.seq (AW.sg hE rfl (mvD rfl (c_neq rfl rfl (c := true) (cne_t e) (OL.nil (AW.cond rfl (fun _ => ?_) (fun hno => absurd hno (by decide)))))))
 exact AW.sg hE rfl (mvD rfl (asM rfl (asD rfl (OL.nil (AW.ret (RetQ.r ⟨_, .tmp rfl (.tmp rfl .nil), _, .cons (.le (VLe.mt)) (.cons (.le (VLe.refl _)) .nil), rfl⟩))))))
theorem ref34_ExpectedE {h : RM} {w : List Int} (zz : h.Sz) (nw : w.length ≤ 1048576) (e : ¬ wrdE h w = 0) : FSpec P F.ref34_Expected [vRM h, .d (ints w)] (.tup [.ag [.d (dQs []), .d (dQss []), .d (dQs []), .d (dQss [])], .d (dI (wrdE h w))]) := by
 refine FSpec.intro fn.ref34_Expected (by rfl) (by rfl) (nb9 (by rfl)) fun E hE => (AW.sg hE rfl (bxA rfl rfl fun b2 => (al z.Counts rfl fun b4 => (asD rfl (OL.nil (AW.sg hE rfl (ldPA ag.Hidden rfl rfl (vs := [_,_,_,_,_,_,_,_,_,_,_]) rfl (nb9 rfl) ?_)))))))
 refine mvD rfl (clv rfl (.cons (VLe.refl _) (.cons (VLe.refl _) (.nil))) (ref34_PosteriorE zz nw e) (mvT rfl (ex rfl rfl (ex rfl rfl (asD rfl (asD rfl (OL.nil ?_)))))))
 refine AW.seq (AW.sg hE rfl (mvD rfl (c_neq rfl rfl (c := true) (cne_t e) (OL.nil (AW.cond rfl (fun _ => ?_) (fun hno => absurd hno (by decide)))))))
 exact AW.sg hE rfl (bd z.Counts pl.Counts (cs := [_,_,_,_]) rfl (mvD rfl (sto sz.Counts rfl rfl rfl rfl rfl (nb9 rfl) (cells2 := [_,_,_,_]) rfl (asD rfl (OL.nil (AW.ret (RetQ.r ⟨_, .cellA rfl rfl ag.Counts (nb9 rfl) (.tmp rfl .nil), _, .cons (.ag (.cons (.le (VLe.mt)) (.cons (.le (VLe.mt)) (.cons (.le (VLe.mt)) (.cons (.le (VLe.mt)) .nil))))) (.cons (.le (VLe.refl _)) .nil), rfl⟩)))))))
theorem fwd_ForwardA {h : RM} {w : List Int} (zz : h.Sz) (nw : w.length ≤ 1048576) (xz : wrdE h w = 0 → ExSz (hm h) w) : FSpec P F.forward_Forward [vRM h, .d (ints w)] (.tup [.d (dQss (fwA h w)), .d (dI (wrdE h w))]) := by
 unfold fwA
 by_cases e : wrdE h w = 0
 ·obtain ⟨cp, k⟩ := wrdE_ok e
  obtain ⟨g, hv⟩ := chkP_good zz cp
  have x := fwd_ForwardX g k (xz e)
  rw [← hv] at x
  simp only [okQ_0 e, e]
  exact x
 ·have x := fwd_ForwardE zz nw e
  simp only [okQ_e e]
  exact x
theorem fwd_BackwardA {h : RM} {w : List Int} (zz : h.Sz) (nw : w.length ≤ 1048576) (xz : wrdE h w = 0 → ExSz (hm h) w) : FSpec P F.forward_Backward [vRM h, .d (ints w)] (.tup [.d (dQss (bwA h w)), .d (dI (wrdE h w))]) := by
 unfold bwA
 by_cases e : wrdE h w = 0
 ·obtain ⟨cp, k⟩ := wrdE_ok e
  obtain ⟨g, hv⟩ := chkP_good zz cp
  have x := fwd_BackwardX g k (xz e)
  rw [← hv] at x
  simp only [okQ_0 e, e]
  exact x
 ·have x := fwd_BackwardE zz nw e
  simp only [okQ_e e]
  exact x
theorem fwd_LikelihoodA {h : RM} {w : List Int} (zz : h.Sz) (nw : w.length ≤ 1048576) (xz : wrdE h w = 0 → ExSz (hm h) w) : FSpec P F.forward_Likelihood [vRM h, .d (ints w)] (.tup [vQ (lkA h w), .d (dI (wrdE h w))]) := by
 unfold lkA
 by_cases e : wrdE h w = 0
 ·obtain ⟨cp, k⟩ := wrdE_ok e
  obtain ⟨g, hv⟩ := chkP_good zz cp
  have x := fwd_LikelihoodX g k (xz e)
  rw [← hv] at x
  simp only [okQ_0 e, e]
  exact x
 ·have x := fwd_LikelihoodE zz nw e
  simp only [okQ_e e]
  exact x
theorem fwd_PosteriorA {h : RM} {w : List Int} (zz : h.Sz) (nw : w.length ≤ 1048576) (xz : wrdE h w = 0 → ExSz (hm h) w) : FSpec P F.forward_Posterior [vRM h, .d (ints w)] (.tup [.d (dQss (poA h w)), .d (dI (poE h w))]) := by
 unfold poA poE
 by_cases e : wrdE h w = 0
 ·obtain ⟨cp, k⟩ := wrdE_ok e
  obtain ⟨g, hv⟩ := chkP_good zz cp
  have x := fwd_PosteriorX g k (xz e)
  rw [← hv] at x
  simp only [okQ_0 e, e]
  exact x
 ·have x := fwd_PosteriorE zz nw e
  simp only [okQ_e e]
  exact x
theorem fwd_ExpectedA {h : RM} {w : List Int} (zz : h.Sz) (nw : w.length ≤ 1048576) (xz : wrdE h w = 0 → ExSz (hm h) w) : FSpec P F.forward_Expected [vRM h, .d (ints w)] (.tup [.ag [.d (dQs (xsA h w)), .d (dQss (xmA h w)), .d (dQs (xeA h w)), .d (dQss (xoA h w))], .d (dI (poE h w))]) := by
 unfold xsA xmA xeA xoA poE
 by_cases e : wrdE h w = 0
 ·obtain ⟨cp, k⟩ := wrdE_ok e
  obtain ⟨g, hv⟩ := chkP_good zz cp
  have x := fwd_ExpectedX g k (xz e)
  rw [← hv] at x
  simp only [okQ_0 e, e]
  exact x
 ·have x := fwd_ExpectedE zz nw e
  simp only [okQ_e e]
  exact x
theorem ref34_ForwardA {h : RM} {w : List Int} (zz : h.Sz) (nw : w.length ≤ 1048576) (xz : wrdE h w = 0 → ExSz (hm h) w) : FSpec P F.ref34_Forward [vRM h, .d (ints w)] (.tup [.d (dQss (fwA h w)), .d (dI (wrdE h w))]) := by
 unfold fwA
 by_cases e : wrdE h w = 0
 ·obtain ⟨cp, k⟩ := wrdE_ok e
  obtain ⟨g, hv⟩ := chkP_good zz cp
  have x := ref34_ForwardX g k (xz e)
  rw [← hv] at x
  simp only [okQ_0 e, e]
  exact x
 ·have x := ref34_ForwardE zz nw e
  simp only [okQ_e e]
  exact x
theorem ref34_BackwardA {h : RM} {w : List Int} (zz : h.Sz) (nw : w.length ≤ 1048576) (xz : wrdE h w = 0 → ExSz (hm h) w) : FSpec P F.ref34_Backward [vRM h, .d (ints w)] (.tup [.d (dQss (bwA h w)), .d (dI (wrdE h w))]) := by
 unfold bwA
 by_cases e : wrdE h w = 0
 ·obtain ⟨cp, k⟩ := wrdE_ok e
  obtain ⟨g, hv⟩ := chkP_good zz cp
  have x := ref34_BackwardX g k (xz e)
  rw [← hv] at x
  simp only [okQ_0 e, e]
  exact x
 ·have x := ref34_BackwardE zz nw e
  simp only [okQ_e e]
  exact x
theorem ref34_LikelihoodA {h : RM} {w : List Int} (zz : h.Sz) (nw : w.length ≤ 1048576) (xz : wrdE h w = 0 → ExSz (hm h) w) : FSpec P F.ref34_Likelihood [vRM h, .d (ints w)] (.tup [vQ (lkA h w), .d (dI (wrdE h w))]) := by
 unfold lkA
 by_cases e : wrdE h w = 0
 ·obtain ⟨cp, k⟩ := wrdE_ok e
  obtain ⟨g, hv⟩ := chkP_good zz cp
  have x := ref34_LikelihoodX g k (xz e)
  rw [← hv] at x
  simp only [okQ_0 e, e]
  exact x
 ·have x := ref34_LikelihoodE zz nw e
  simp only [okQ_e e]
  exact x
theorem ref34_PosteriorA {h : RM} {w : List Int} (zz : h.Sz) (nw : w.length ≤ 1048576) (xz : wrdE h w = 0 → ExSz (hm h) w) : FSpec P F.ref34_Posterior [vRM h, .d (ints w)] (.tup [.d (dQss (poA h w)), .d (dI (poE h w))]) := by
 unfold poA poE
 by_cases e : wrdE h w = 0
 ·obtain ⟨cp, k⟩ := wrdE_ok e
  obtain ⟨g, hv⟩ := chkP_good zz cp
  have x := ref34_PosteriorX g k (xz e)
  rw [← hv] at x
  simp only [okQ_0 e, e]
  exact x
 ·have x := ref34_PosteriorE zz nw e
  simp only [okQ_e e]
  exact x
theorem ref34_ExpectedA {h : RM} {w : List Int} (zz : h.Sz) (nw : w.length ≤ 1048576) (xz : wrdE h w = 0 → ExSz (hm h) w) : FSpec P F.ref34_Expected [vRM h, .d (ints w)] (.tup [.ag [.d (dQs (xsA h w)), .d (dQss (xmA h w)), .d (dQs (xeA h w)), .d (dQss (xoA h w))], .d (dI (poE h w))]) := by
 unfold xsA xmA xeA xoA poE
 by_cases e : wrdE h w = 0
 ·obtain ⟨cp, k⟩ := wrdE_ok e
  obtain ⟨g, hv⟩ := chkP_good zz cp
  have x := ref34_ExpectedX g k (xz e)
  rw [← hv] at x
  simp only [okQ_0 e, e]
  exact x
 ·have x := ref34_ExpectedE zz nw e
  simp only [okQ_e e]
  exact x
theorem law34_light {h : RM} : FSpec P F.law34_light [vRM h] (.d (dB (liteF h))) := by
 refine FSpec.intro fn.law34_light (by rfl) (by rfl) (nb9 (by rfl)) fun E hE => (AW.sg hE rfl (bxA rfl rfl fun b1 => (asD rfl (OL.nil (AW.sg hE rfl (faP fd.Hidden_1 rfl rfl (ldPC ce.int rfl rfl rfl ?_)))))))
 refine c_leq rfl rfl rfl (mvD rfl (OL.split 6 rfl (fun g6 => ?_) (fun g6 => ?_)))
 ·try simp only [dx9] at g6
  refine OL.no rfl (by decide) (OL.no rfl (by decide) (OL.no rfl (by decide) (pkT rfl rfl (mvD rfl (OL.yes rfl (faP fd.Hidden_3 rfl rfl (OL.yes rfl ?_)))))))
  refine ldPC ce.Rats rfl rfl rfl (OL.yes rfl (lnL sl.Rats rfl rfl (OL.yes rfl (c_leq rfl rfl rfl (pkT rfl rfl (mvD rfl (OL.split 17 rfl (fun g17 => ?_) (fun g17 => ?_))))))))
  ·try simp only [dx9] at g17
   refine OL.yes rfl (faP fd.Hidden_4 rfl rfl (OL.yes rfl (ldPC ce.Ratss rfl rfl rfl (OL.yes rfl (lnL sl.Ratss rfl rfl (OL.yes rfl (c_leq rfl rfl rfl ?_)))))))
   refine pkT rfl rfl (mvD rfl (OL.split 23 rfl (fun g23 => ?_) (fun g23 => ?_)))
   ·try simp only [dx9] at g23
    refine OL.yes rfl (faP fd.Hidden_6 rfl rfl (OL.yes rfl (ldPC ce.Ratss rfl rfl rfl (OL.yes rfl (lnL sl.Ratss rfl rfl (OL.yes rfl (c_leq rfl rfl rfl ?_)))))))
    refine pkT rfl rfl (mvD rfl (OL.split 29 rfl (fun g29 => ?_) (fun g29 => ?_)))
    ·try simp only [dx9] at g29
     refine OL.yes rfl (faP fd.Hidden_0 rfl rfl (OL.yes rfl (ldPC ce.int rfl rfl rfl (OL.yes rfl (c_leq rfl rfl rfl (OL.yes rfl (mvD rfl ?_)))))))
     refine OL.split 33 rfl (fun g33 => ?_) (fun g33 => ?_)
     ·try simp only [dx9] at g33
      refine OL.no rfl (by decide) (OL.no rfl (by decide) (OL.no rfl (by decide) (OL.yes rfl (pkT rfl rfl (pkT rfl rfl (asD rfl (OL.nil ?_)))))))
      exact AW.ret (RetQ.r ⟨_, .tmp rfl .nil, .le (VLe.bool (by unfold liteF; simp_all <;> omega))⟩)
     ·try simp only [dx9] at g33
      refine OL.yes rfl (faP fd.Hidden_0 rfl rfl (OL.yes rfl (ldPC ce.int rfl rfl rfl (OL.yes rfl (c_gtr rfl rfl rfl (OL.yes rfl (pkF rfl rfl ?_)))))))
      exact pkT rfl rfl (asD rfl (OL.nil (AW.ret (RetQ.r ⟨_, .tmp rfl .nil, .le (VLe.bool (by unfold liteF; simp_all <;> omega))⟩))))
    ·try simp only [dx9] at g29
     refine OL.no rfl (by decide) (OL.no rfl (by decide) (OL.no rfl (by decide) (OL.no rfl (by decide) (OL.no rfl (by decide) (OL.no rfl (by decide) (OL.no rfl (by decide) (OL.no rfl (by decide) ?_)))))))
     exact pkF rfl rfl (asD rfl (OL.nil (AW.ret (RetQ.r ⟨_, .tmp rfl .nil, .le (VLe.bool (by unfold liteF; simp_all <;> omega))⟩))))
   ·try simp only [dx9] at g23
    refine OL.no rfl (by decide) (OL.no rfl (by decide) (OL.no rfl (by decide) (OL.no rfl (by decide) (pkF rfl rfl (mvD rfl (OL.no rfl (by decide) (OL.no rfl (by decide) ?_)))))))
    refine OL.no rfl (by decide) (OL.no rfl (by decide) (OL.no rfl (by decide) (OL.no rfl (by decide) (OL.no rfl (by decide) (OL.no rfl (by decide) (pkF rfl rfl (asD rfl ?_)))))))
    exact OL.nil (AW.ret (RetQ.r ⟨_, .tmp rfl .nil, .le (VLe.bool (by unfold liteF; simp_all <;> omega))⟩))
  ·try simp only [dx9] at g17
   refine OL.no rfl (by decide) (OL.no rfl (by decide) (OL.no rfl (by decide) (OL.no rfl (by decide) (pkF rfl rfl (mvD rfl (OL.no rfl (by decide) (OL.no rfl (by decide) ?_)))))))
   refine OL.no rfl (by decide) (OL.no rfl (by decide) (pkF rfl rfl (mvD rfl (OL.no rfl (by decide) (OL.no rfl (by decide) (OL.no rfl (by decide) (OL.no rfl (by decide) ?_)))))))
   exact OL.no rfl (by decide) (OL.no rfl (by decide) (OL.no rfl (by decide) (OL.no rfl (by decide) (pkF rfl rfl (asD rfl (OL.nil (AW.ret (RetQ.r ⟨_, .tmp rfl .nil, .le (VLe.bool (by unfold liteF; simp_all <;> omega))⟩))))))))
 ·try simp only [dx9] at g6
  refine OL.yes rfl (faP fd.Hidden_1 rfl rfl (OL.yes rfl (ldPC ce.int rfl rfl rfl (OL.yes rfl (c_gtr rfl rfl rfl (pkF rfl rfl (mvD rfl ?_)))))))
  refine OL.split 11 rfl (fun g11 => ?_) (fun g11 => ?_)
  ·try simp only [dx9] at g11
   refine OL.yes rfl (faP fd.Hidden_3 rfl rfl (OL.yes rfl (ldPC ce.Rats rfl rfl rfl (OL.yes rfl (lnL sl.Rats rfl rfl (OL.yes rfl (c_leq rfl rfl rfl ?_)))))))
   refine pkT rfl rfl (mvD rfl (OL.split 17 rfl (fun g17 => ?_) (fun g17 => ?_)))
   ·try simp only [dx9] at g17
    refine OL.yes rfl (faP fd.Hidden_4 rfl rfl (OL.yes rfl (ldPC ce.Ratss rfl rfl rfl (OL.yes rfl (lnL sl.Ratss rfl rfl (OL.yes rfl (c_leq rfl rfl rfl ?_)))))))
    refine pkT rfl rfl (mvD rfl (OL.split 23 rfl (fun g23 => ?_) (fun g23 => ?_)))
    ·try simp only [dx9] at g23
     refine OL.yes rfl (faP fd.Hidden_6 rfl rfl (OL.yes rfl (ldPC ce.Ratss rfl rfl rfl (OL.yes rfl (lnL sl.Ratss rfl rfl (OL.yes rfl (c_leq rfl rfl rfl ?_)))))))
     refine pkT rfl rfl (mvD rfl (OL.split 29 rfl (fun g29 => ?_) (fun g29 => ?_)))
     ·try simp only [dx9] at g29
      refine OL.yes rfl (faP fd.Hidden_0 rfl rfl (OL.yes rfl (ldPC ce.int rfl rfl rfl (OL.yes rfl (c_leq rfl rfl rfl (OL.yes rfl (mvD rfl ?_)))))))
      refine OL.split 33 rfl (fun g33 => ?_) (fun g33 => ?_)
      ·try simp only [dx9] at g33
       refine OL.no rfl (by decide) (OL.no rfl (by decide) (OL.no rfl (by decide) (OL.yes rfl (pkT rfl rfl (pkT rfl rfl (asD rfl (OL.nil ?_)))))))
       exact AW.ret (RetQ.r ⟨_, .tmp rfl .nil, .le (VLe.bool (by unfold liteF; simp_all <;> omega))⟩)
      ·try simp only [dx9] at g33
       refine OL.yes rfl (faP fd.Hidden_0 rfl rfl (OL.yes rfl (ldPC ce.int rfl rfl rfl (OL.yes rfl (c_gtr rfl rfl rfl (OL.yes rfl (pkF rfl rfl ?_)))))))
       exact pkT rfl rfl (asD rfl (OL.nil (AW.ret (RetQ.r ⟨_, .tmp rfl .nil, .le (VLe.bool (by unfold liteF; simp_all <;> omega))⟩))))
     ·try simp only [dx9] at g29
      refine OL.no rfl (by decide) (OL.no rfl (by decide) (OL.no rfl (by decide) (OL.no rfl (by decide) (OL.no rfl (by decide) (OL.no rfl (by decide) (OL.no rfl (by decide) (OL.no rfl (by decide) ?_)))))))
      exact pkF rfl rfl (asD rfl (OL.nil (AW.ret (RetQ.r ⟨_, .tmp rfl .nil, .le (VLe.bool (by unfold liteF; simp_all <;> omega))⟩))))
    ·try simp only [dx9] at g23
     refine OL.no rfl (by decide) (OL.no rfl (by decide) (OL.no rfl (by decide) (OL.no rfl (by decide) (pkF rfl rfl (mvD rfl (OL.no rfl (by decide) (OL.no rfl (by decide) ?_)))))))
     refine OL.no rfl (by decide) (OL.no rfl (by decide) (OL.no rfl (by decide) (OL.no rfl (by decide) (OL.no rfl (by decide) (OL.no rfl (by decide) (pkF rfl rfl (asD rfl ?_)))))))
     exact OL.nil (AW.ret (RetQ.r ⟨_, .tmp rfl .nil, .le (VLe.bool (by unfold liteF; simp_all <;> omega))⟩))
   ·try simp only [dx9] at g17
    refine OL.no rfl (by decide) (OL.no rfl (by decide) (OL.no rfl (by decide) (OL.no rfl (by decide) (pkF rfl rfl (mvD rfl (OL.no rfl (by decide) (OL.no rfl (by decide) ?_)))))))
    refine OL.no rfl (by decide) (OL.no rfl (by decide) (pkF rfl rfl (mvD rfl (OL.no rfl (by decide) (OL.no rfl (by decide) (OL.no rfl (by decide) (OL.no rfl (by decide) ?_)))))))
    exact OL.no rfl (by decide) (OL.no rfl (by decide) (OL.no rfl (by decide) (OL.no rfl (by decide) (pkF rfl rfl (asD rfl (OL.nil (AW.ret (RetQ.r ⟨_, .tmp rfl .nil, .le (VLe.bool (by unfold liteF; simp_all <;> omega))⟩))))))))
  ·try simp only [dx9] at g11
   refine OL.no rfl (by decide) (OL.no rfl (by decide) (OL.no rfl (by decide) (OL.no rfl (by decide) (pkF rfl rfl (mvD rfl (OL.no rfl (by decide) (OL.no rfl (by decide) ?_)))))))
   refine OL.no rfl (by decide) (OL.no rfl (by decide) (pkF rfl rfl (mvD rfl (OL.no rfl (by decide) (OL.no rfl (by decide) (OL.no rfl (by decide) (OL.no rfl (by decide) ?_)))))))
   refine pkF rfl rfl (mvD rfl (OL.no rfl (by decide) (OL.no rfl (by decide) (OL.no rfl (by decide) (OL.no rfl (by decide) (OL.no rfl (by decide) (OL.no rfl (by decide) ?_)))))))
   exact OL.no rfl (by decide) (OL.no rfl (by decide) (pkF rfl rfl (asD rfl (OL.nil (AW.ret (RetQ.r ⟨_, .tmp rfl .nil, .le (VLe.bool (by unfold liteF; simp_all <;> omega))⟩))))))
theorem ref33_SameRatsX {l m : List Rat} {B : Nat} (zl : Small B l) (zm : Small B m) (hB : 1 ≤ B ∧ B ≤ 68719476736 ∧ l.length ≤ 1099511627776) : FSpec P F.ref33_SameRats [.d (dQs l), .d (dQs m)] (.d (dB (decide (l = m)))) := by
 refine FSpec.intro fn.ref33_SameRats (by rfl) (by rfl) (nb9 (by rfl)) fun E hE => (AW.sg hE rfl (asD rfl (OL.nil (AW.seq (AW.sg hE rfl (mvD rfl (lnL sl.Rats rfl rfl ?_)))))))
 refine mvD rfl (lnL sl.Rats rfl rfl (c_neq rfl rfl rfl (OL.nil (AW.cond rfl (fun h10 => ?_) (fun h10 => ?_)))))
 ·have hl : l.length ≠ m.length := by simp at h10; omega
  exact AW.sg hE rfl (asD rfl (OL.nil (AW.ret (RetQ.r ⟨_, .tmp rfl .nil, .le (VLe.bool ((decide_eq_false fun e => hl (by rw [e])).symm))⟩))))
 ·have hl : l.length = m.length := by simp at h10; omega
  refine AW.skip (AW.seq (AW.sg hE rfl (asD rfl (OL.nil (AW.block ?_)))))
  refine AW.whileK (α := Nat) [(0, _), (1, _)] [] (fun i => [(5, .d (dI i))]) (fun i => []) (fun i => i ≤ l.length ∧ ∀ j, j < i → l.getD j 0 = m.getD j 0) (fun i => l.length - i) 0 (.cons (knD rfl) (.cons (knD rfl) .nil)) .nil ⟨⟨Nat.zero_le _, fun j hj => by omega⟩, .cons (VLe.refl _) .nil, .nil⟩ ?_
  rintro i ⟨h1, h2⟩
  refine AW.seq (AW.sg hE rfl (mvD rfl (mvD rfl (lnL sl.Rats rfl rfl (c_lss rfl rfl rfl (OL.nil (AW.cond rfl (fun h14 => ?_) (fun h14 => ?_))))))))
  ·try simp only [dx9] at h14
   refine AW.skip (AW.seq (AW.block (AW.seq ?_)))
   have z1 := zl.get hB.1 i
   have z2 := zm.get hB.1 i
   refine AW.dg 1 [0,1,2,3,4,5,6,7,8,9] order_free hE rfl (by kernel_rfl) (OI.of_OL (os := [_,_,_,_,_,_,_,_,_,_]) rfl ?_)
   refine mvD rfl (mvD rfl (ixLn sl.Rats 0 rfl rfl (by omega) rfl rfl (ldRA ag.Rat rfl (vs := [_,_,_]) rfl (nb9 rfl) (mvD rfl (mvD rfl (ixLn sl.Rats 0 rfl rfl (by omega) rfl rfl (ldRA ag.Rat rfl (vs := [_,_,_]) rfl (nb9 rfl) ?_)))))))
   refine clv rfl (.cons (VLe.refl _) (.cons (VLe.refl _) .nil)) (ref_CompareQ (by omega) (by omega)) (c_neq rfl rfl rfl (OL.nil (AW.cond rfl (fun hc => ?_) (fun hc => ?_))))
   ·have hc : l.getD i 0 ≠ m.getD i 0 := fun e => by rw [cmpQ_eq.2 e] at hc; simp at hc
    exact AW.sg hE rfl (asD rfl (OL.nil (AW.ret (RetQ.r ⟨_, .tmp rfl .nil, .le (VLe.bool ((decide_eq_false fun e => hc (by rw [e])).symm))⟩))))
   ·have hc : l.getD i 0 = m.getD i 0 := cmpQ_eq.1 (by simpa using hc)
    exact AW.skip (AW.rg hE rfl (mvD rfl (add_i64 rfl rfl (by omega) (asD rfl (OL.nil (AW.again (x := i) (i + 1) (by omega) ⟨⟨by omega, fun j hj => by rcases Nat.lt_or_ge j i with h | h; exact h2 j h; obtain rfl : j = i := (by omega); exact hc⟩, Knows.app (.cons (VLe.refl _) (.cons (VLe.refl _) .nil)) (.cons (VLe.refl _) .nil), .nil⟩))))))
  ·try simp only [dx9] at h14
   exact AW.exit (AW.sg hE rfl (asD rfl (OL.nil (AW.ret (RetQ.r ⟨_, .tmp rfl .nil, .le (VLe.bool ((decide_eq_true (list_eq_getD hl 0 fun j hj => h2 j (by omega))).symm))⟩)))))
theorem law34_sameX {a : List (List Rat)} (ha : RowsOK a) : FSpec P F.law34_same [.d (dQss a), .d (dQss a)] (.d (dB true)) := by
 have hz := ha.2
 have nl := ha.1
 refine FSpec.intro fn.law34_same (by rfl) (by rfl) (nb9 (by rfl)) fun E hE => (AW.sg hE rfl (asD rfl (OL.nil (AW.seq (AW.sg hE rfl (mvD rfl (lnL sl.Ratss rfl rfl ?_)))))))
 refine mvD rfl (lnL sl.Ratss rfl rfl (c_neq rfl rfl (c := false) (cne_f rfl) (OL.nil (AW.cond rfl (fun hno => absurd hno (by decide)) (fun _ => ?_)))))
 refine AW.skip (AW.seq (AW.sg hE rfl (asD rfl (OL.nil (AW.block (AW.whileK (α := Nat) [(0, _), (1, _)] [] (fun i => [(5, .d (dI i))]) (fun i => []) (fun i => i ≤ a.length) (fun i => a.length - i) 0 (.cons (knD rfl) (.cons (knD rfl) .nil)) .nil ⟨Nat.zero_le _, .cons (VLe.refl _) .nil, .nil⟩ ?_))))))
 intro i h1
 refine AW.seq (AW.sg hE rfl (mvD rfl (mvD rfl (lnL sl.Ratss rfl rfl (c_lss rfl rfl rfl (OL.nil (AW.cond rfl (fun h14 => ?_) (fun h14 => ?_))))))))
 ·try simp only [dx9] at h14
  refine AW.skip (AW.seq (AW.block (AW.seq ?_)))
  have hzi := hz i
  refine AW.dg 1 [0,1,2,3,4,5,6,7,8,9] order_free hE rfl (by kernel_rfl) (OI.of_OL (os := [_,_,_,_,_,_,_,_,_,_]) rfl ?_)
  refine mvD rfl (mvD rfl (ixLn sl.Ratss [] rfl rfl (by omega) rfl rfl (ldRC ce.Rats rfl (mvD rfl (mvD rfl (ixLn sl.Ratss [] rfl rfl (by omega) rfl rfl (ldRC ce.Rats rfl ?_)))))))
  refine clv rfl (.cons (VLe.refl _) (.cons (VLe.refl _) (.nil))) (ref33_SameRatsX hzi.1 hzi.1 ⟨by decide, by decide, by omega⟩) ?_
  rw [decide_eq_true rfl]
  refine nt rfl (OL.nil (AW.cond rfl (fun hno => absurd hno (by decide)) (fun _ => ?_)))
  exact AW.skip (AW.rg hE rfl (mvD rfl (add_i64 rfl rfl (by omega) (asD rfl (OL.nil (AW.again (x := i) (i + 1) (by omega) ⟨by omega, Knows.app (.cons (VLe.refl _) (.cons (VLe.refl _) .nil)) (.cons (VLe.refl _) .nil), .nil⟩))))))
 ·try simp only [dx9] at h14
  exact AW.exit (AW.sg hE rfl (asD rfl (OL.nil (AW.ret (RetQ.r ⟨_, .tmp rfl .nil, .le (VLe.refl _)⟩)))))
theorem law34_row {l : List Rat} (hl : RowOK2 l) : FSpec P F.ref33_SameRats [.d (dQs l), .d (dQs l)] (.d (dB true)) := by
 have h := ref33_SameRatsX hl.1 hl.1 ⟨by decide, by decide, Nat.le_trans hl.2 (by decide)⟩
 rw [decide_eq_true rfl] at h
 exact h
theorem law34_knownQ {q o p : Rat} {h : HM} (hh : h = ⟨2, 1, 0, [o], [[q]], [q], [[q, q]], [false], [0]⟩) (g : h.GoodW 1048576) (k : WordOK h [1, 2]) (xz : ExSz h [1, 2]) (hp : likF h [1, 2] = p) (zp : sz p ≤ 68719476736) (zo : sz o ≤ 68719476736) (hx : FSpec P F.ref01_Make [.d (dI 1), .d (dI 16)] (.tup [vQ p, .d (dI 0)])) (hm : exM h [1, 2] = [[o]]) (he : postE h [1, 2] = 0) (hq : FSpec P F.ref01_Make [.d (dI 1), .d (dI 2)] (.tup [vQ q, .d (dI 0)])) (ho : FSpec P F.ref33_Whole [.d (dI 1)] (vQ o)) : FSpec P F.law34_known [] (.d (dB true)) := by
 refine FSpec.intro fn.law34_known (by rfl) (by rfl) (nb9 (by rfl)) fun E hE => (AW.sg hE rfl (asD rfl (OL.nil (AW.sg hE rfl (clv rfl (.cons (VLe.refl _) (.cons (VLe.refl _) (.nil))) (hq) (mvT rfl (ex rfl rfl ?_)))))))
 refine ex rfl rfl (al z.Rat rfl fun b1 => (sto sz.Rat rfl rfl rfl rfl rfl (nb9 rfl) (cells2 := [_,_,_]) rfl (asD rfl (OL.nil (AW.seq (AW.dg 1 [0,1,2,3,4,5,6,7,8,9,10,11,12,13,14,15] order_free hE rfl (by kernel_rfl) (OI.of_OL (os := [_,_,_,_,_,_,_,_,_,_,_,_,_,_,_,_]) rfl ?_)))))))
 refine clv rfl (.cons (VLe.refl _) (.nil)) (ho) (lt1 (y := dQ o) sl.Rats vd_q rfl (by decide) (ldPA ag.Rat rfl rfl (vs := [_,_,_]) rfl (nb9 rfl) (lt1 (y := dQ q) sl.Rats vd_q rfl (by decide) (lt1 (y := dQs [q]) sl.Ratss (VC.d _).vd rfl (by decide) (ldPA ag.Rat rfl rfl (vs := [_,_,_]) rfl (nb9 rfl) (lt1 (y := dQ q) sl.Rats vd_q rfl (by decide) (ldPA ag.Rat rfl rfl (vs := [_,_,_]) rfl (nb9 rfl) ?_)))))))
 refine ldPA ag.Rat rfl rfl (vs := [_,_,_]) rfl (nb9 rfl) (lt2 (y := dQ q) (y2 := dQ q) sl.Rats vd_q vd_q ⟨rfl, rfl⟩ (by decide) (lt1 (y := dQs [q, q]) sl.Ratss (VC.d _).vd rfl (by decide) (lt1 sl.bools (VC.d _).vd rfl (by decide) (lt1 sl.ints (VC.d _).vd rfl (by decide) ?_))))
 refine bd2 (cs := [_,_,_,_,_,_,_,_,_,_,_]) z.Hidden pl.Hidden (pvC (by exact evD rfl) (pvC (by exact evD rfl) (pvC (by exact evD rfl) (pvC (by exact evD rfl) (pvC (by exact evD rfl) (pvC (by exact evD rfl) (pvC (by exact evD rfl) (pvC (by exact evD rfl) (pvN))))))))) (by rfl) ?_
 refine al z.Hidden rfl fun b3 => (sto sz.Hidden rfl rfl rfl rfl rfl (nb9 rfl) (cells2 := [_,_,_,_,_,_,_,_,_,_,_]) rfl (OL.nil (AW.seq ?_)))
 refine AW.boxW 3 (cellsHM h) rfl (by rw [hh]; exact .cons (VLe.refl _) (.cons (VLe.refl _) (.cons (vle_of_eq (by show _ = V.d (dB (ofQ 0).neg); rw [ofQ_zero])) (.cons (by show VLe _ (.d (u32s (ofQ 0).num)); rw [ofQ_zero]; exact VLe.mt) (.cons (by show VLe _ (.d (u32s (ofQ 0).den)); rw [ofQ_zero]; exact VLe.mt) (.cons (VLe.refl _) (.cons (VLe.refl _) (.cons (VLe.refl _) (.cons (VLe.refl _) (.cons (VLe.refl _) (.cons (VLe.refl _) .nil))))))))))) ?_
 refine AW.rg hE rfl (ldPA ag.Hidden rfl rfl (vs := [_,_,_,_,_,_,_,_,_,_,_]) rfl (nb9 rfl) (lt2 sl.ints (VC.d _).vd (VC.d _).vd ⟨rfl, rfl⟩ (by decide) (clv rfl (.cons (VLe.refl _) (.cons (VLe.refl _) (.nil))) (fwd_LikelihoodX g k xz) ?_)))
 rw [hp]
 refine mvT rfl (ex rfl rfl (ex rfl rfl (al z.Rat rfl fun b4 => (sto sz.Rat rfl rfl rfl rfl rfl (nb9 rfl) (cells2 := [_,_,_]) rfl (asD rfl (OL.nil (AW.sg hE rfl ?_)))))))
 refine clv rfl (.cons (VLe.refl _) (.cons (VLe.refl _) (.nil))) (hx) (mvT rfl (ex rfl rfl (ex rfl rfl (al z.Rat rfl fun b6 => (sto sz.Rat rfl rfl rfl rfl rfl (nb9 rfl) (cells2 := [_,_,_]) rfl (asD rfl (OL.nil ?_)))))))
 refine AW.sg hE rfl (ldPA ag.Hidden rfl rfl (vs := [_,_,_,_,_,_,_,_,_,_,_]) rfl (nb9 rfl) (lt2 sl.ints (VC.d _).vd (VC.d _).vd ⟨rfl, rfl⟩ (by decide) (clv rfl (.cons (VLe.refl _) (.cons (VLe.refl _) (.nil))) (fwd_ExpectedX g k xz) ?_)))
 rw [hm, he]
 refine mvT rfl (ex rfl rfl (ex rfl rfl (al z.Counts rfl fun b8 => (sto sz.Counts rfl rfl rfl rfl rfl (nb9 rfl) (cells2 := [_,_,_,_]) rfl (asD rfl (OL.nil (AW.seq ?_)))))))
 refine AW.dg 1 [0,1,2,3,4,5,6,7,8,9,10,11,12,13,14,15,16,17,18,19,20,21,22,23,24,25,26,27,28,29] order_free hE rfl (by kernel_rfl) (OI.of_OL (os := [_,_,_,_,_,_,_,_,_,_,_,_,_,_,_,_,_,_,_,_,_,_,_,_,_,_,_,_,_,_]) rfl ?_)
 refine mvD rfl (c_eql rfl rfl (c := true) (by exact decide_eq_true (by omega)) (mvD rfl (OL.yes rfl (mvD rfl (OL.yes rfl (c_eql rfl rfl (c := true) (by exact decide_eq_true (by omega)) (pkT rfl rfl ?_)))))))
 refine mvD rfl (OL.yes rfl (ldPA ag.Rat rfl rfl (vs := [_,_,_]) rfl (nb9 rfl) (OL.yes rfl (ldPA ag.Rat rfl rfl (vs := [_,_,_]) rfl (nb9 rfl) (OL.yes rfl (clv rfl (.cons (VLe.refl _) (.cons (VLe.refl _) (.nil))) (ref_CompareQ (x := p) (y := p) (by omega) (by omega)) ?_))))))
 rw [show cmpQ (p) (p) = 0 from cmpQ_eq.2 rfl]
 refine OL.yes rfl (c_eql rfl rfl (c := true) (by exact decide_eq_true (by omega)) (pkT rfl rfl (mvD rfl (OL.yes rfl (faP fd.Counts_1 rfl rfl (OL.yes rfl (ldPC ce.Ratss rfl rfl rfl ?_)))))))
 refine OL.yes rfl (lnL sl.Ratss rfl rfl (OL.yes rfl (c_eql rfl rfl (c := true) (by rfl) (pkT rfl rfl (mvD rfl (OL.yes rfl (faP fd.Counts_1 rfl rfl ?_)))))))
 refine OL.yes rfl (ldPC ce.Ratss rfl rfl rfl (OL.yes rfl (ixLe 0 sl.Ratss [] rfl rfl (by decide) (Nat.le_refl 1) rfl rfl (OL.yes rfl (ldRC ce.Rats rfl (OL.yes rfl (ixLe 0 sl.Rats 0 rfl rfl (by decide) (Nat.le_refl 1) rfl rfl ?_)))))))
 refine OL.yes rfl (ldRA ag.Rat rfl (vs := [_,_,_]) rfl (nb9 rfl) (OL.yes rfl (clv rfl (.cons (VLe.refl _) (.nil)) (ho) (OL.yes rfl (clv rfl (.cons (VLe.refl _) (.cons (VLe.refl _) (.nil))) (ref_CompareQ (x := o) (y := o) (by omega) (by omega)) ?_)))))
 rw [show cmpQ (o) (o) = 0 from cmpQ_eq.2 rfl]
 exact OL.yes rfl (c_eql rfl rfl (c := true) (by exact decide_eq_true (by omega)) (pkT rfl rfl (asD rfl (OL.nil (AW.ret (RetQ.r ⟨_, .tmp rfl .nil, .le (VLe.refl _)⟩))))))
theorem q16 : ((1 : Int) : Rat) / ((16 : Int) : Rat) = 1 / 16 := rfl
theorem law34_known : FSpec P F.law34_known [] (.d (dB true)) := by
 have h16 := ref_Make (n := 1) (d := 16) (by decide) (by decide) (by decide)
 rw [q16] at h16
 have z16 : sz (1 / 16) ≤ 1 := by rw [← q16]; exact div_sz (by decide) (by decide) (by decide)
 exact law34_knownQ rfl coin_good.wide coin_word ex_coin coin_lik (Nat.le_trans z16 (by decide)) (by rw [sz_one]; decide) h16 coin_exM coin_post ref_half ref33_Whole1
set_option maxRecDepth 6000 in
set_option maxHeartbeats 6400000 in
theorem law_ForwardActs {h : RM} {w : List Int} (zz : h.Sz) (nw : w.length ≤ 1048576) : FSpec P F.law34_ForwardActs [vRM h, .d (ints w)] (.d (dB true)) := by
 refine FSpec.intro fn.law34_ForwardActs (by rfl) (by rfl) (nb9 (by rfl)) fun E hE => (AW.sg hE rfl (bxA rfl rfl fun b2 => (asD rfl (OL.nil (AW.seq (AW.midK (α := Bool) [(1, _), (2, _), (4, _)] [(2, _)] (fun x => [(37, .d (dB x))]) (fun x => []) (fun x => x = false → liteF h = true ∧ (w.length ≤ 6 ∨ 256 < w.length)) (.cons (knD rfl) (.cons (knP rfl) (.cons (knD rfl) .nil))) (.cons (owB rfl) .nil) ?_ ?_))))))
 ·refine AW.rg hE rfl (ldPA ag.Hidden rfl rfl (vs := [_,_,_,_,_,_,_,_,_,_,_]) rfl (nb9 rfl) (clv rfl (.cons (VLe.refl _) (.nil)) (law34_light) (nt rfl (mvD rfl (OL.split 28 rfl (fun a1 => ?_) (fun a1 => ?_))))))
  ·have _a1 := a1
   refine OL.no rfl (by decide) (OL.no rfl (by decide) (OL.no rfl (by decide) (OL.no rfl (by decide) (OL.no rfl (by decide) (OL.no rfl (by decide) (OL.no rfl (by decide) (OL.no rfl (by decide) ?_)))))))
   exact pkT rfl rfl (OL.nil (AW.reach true ⟨fun e => (by cases e), Knows.app (.cons (VLe.refl _) (.cons (VLe.refl _) (.cons (VLe.refl _) .nil))) (.cons (VLe.refl _) .nil), Owns.app (.cons rfl .nil) (.nil)⟩))
  ·have a1 : liteF h = true := by simpa using a1
   refine OL.yes rfl (mvD rfl (OL.yes rfl (lnL sl.ints rfl rfl (OL.yes rfl (c_gtr rfl rfl rfl (OL.yes rfl (mvD rfl ?_)))))))
   refine OL.split 32 rfl (fun a2 => ?_) (fun a2 => ?_)
   ·have a2 : (6 : Int) < w.length := of_decide_eq_true a2
    refine OL.yes rfl (mvD rfl (OL.yes rfl (lnL sl.ints rfl rfl (OL.yes rfl (c_leq rfl rfl rfl (OL.yes rfl (pkT rfl rfl ?_)))))))
    exact pkF rfl rfl (OL.nil (AW.reach (decide ((w.length : Int) ≤ 256)) ⟨fun e => ⟨a1, .inr (by have := of_decide_eq_false e; omega)⟩, Knows.app (.cons (VLe.refl _) (.cons (VLe.refl _) (.cons (VLe.refl _) .nil))) (.cons (VLe.refl _) .nil), Owns.app (.cons rfl .nil) (.nil)⟩))
   ·have a2 : ¬ (6 : Int) < w.length := of_decide_eq_false a2
    exact OL.no rfl (by decide) (OL.no rfl (by decide) (OL.no rfl (by decide) (OL.yes rfl (pkF rfl rfl (pkF rfl rfl (OL.nil (AW.reach false ⟨fun _ => ⟨a1, .inl (by omega)⟩, Knows.app (.cons (VLe.refl _) (.cons (VLe.refl _) (.cons (VLe.refl _) .nil))) (.cons (VLe.refl _) .nil), Owns.app (.cons rfl .nil) (.nil)⟩)))))))
 rintro x hx
 refine AW.cond rfl (fun c37 => ?_) (fun c37 => ?_)
 ·have _c37 := c37
  exact AW.sg hE rfl (clv rfl .nil law34_known (asD rfl (OL.nil (AW.ret (RetQ.r ⟨_, .tmp rfl .nil, .le (VLe.refl _)⟩)))))
 ·have xz := liteF_ex zz (hx c37).1 (hx c37).2
  have ok := actsOK zz xz
  have zl := ok.lk
  refine AW.skip (AW.sg hE rfl (ldPA ag.Hidden rfl rfl (vs := [_,_,_,_,_,_,_,_,_,_,_]) rfl (nb9 rfl) (mvD rfl (clv rfl (.cons (VLe.refl _) (.cons (VLe.refl _) (.nil))) (fwd_ForwardA zz nw xz) (mvT rfl (ex rfl rfl (ex rfl rfl ?_)))))))
  refine asD rfl (asD rfl (OL.nil (AW.sg hE rfl (ldPA ag.Hidden rfl rfl (vs := [_,_,_,_,_,_,_,_,_,_,_]) rfl (nb9 rfl) (mvD rfl (clv rfl (.cons (VLe.refl _) (.cons (VLe.refl _) (.nil))) (ref34_ForwardA zz nw xz) (mvT rfl ?_)))))))
  refine ex rfl rfl (ex rfl rfl (asD rfl (asD rfl (OL.nil (AW.sg hE rfl (ldPA ag.Hidden rfl rfl (vs := [_,_,_,_,_,_,_,_,_,_,_]) rfl (nb9 rfl) (mvD rfl ?_)))))))
  refine clv rfl (.cons (VLe.refl _) (.cons (VLe.refl _) (.nil))) (fwd_BackwardA zz nw xz) (mvT rfl (ex rfl rfl (ex rfl rfl (asD rfl (asD rfl (OL.nil (AW.sg hE rfl ?_)))))))
  refine ldPA ag.Hidden rfl rfl (vs := [_,_,_,_,_,_,_,_,_,_,_]) rfl (nb9 rfl) (mvD rfl (clv rfl (.cons (VLe.refl _) (.cons (VLe.refl _) (.nil))) (ref34_BackwardA zz nw xz) (mvT rfl (ex rfl rfl (ex rfl rfl (asD rfl (asD rfl ?_)))))))
  refine OL.nil (AW.sg hE rfl (ldPA ag.Hidden rfl rfl (vs := [_,_,_,_,_,_,_,_,_,_,_]) rfl (nb9 rfl) (mvD rfl (clv rfl (.cons (VLe.refl _) (.cons (VLe.refl _) (.nil))) (fwd_LikelihoodA zz nw xz) (mvT rfl (ex rfl rfl (ex rfl rfl ?_)))))))
  refine al z.Rat rfl fun b13 => (sto sz.Rat rfl rfl rfl rfl rfl (nb9 rfl) (cells2 := [_,_,_]) rfl (asD rfl (OL.nil (AW.sg hE rfl (ldPA ag.Hidden rfl rfl (vs := [_,_,_,_,_,_,_,_,_,_,_]) rfl (nb9 rfl) (mvD rfl (clv rfl (.cons (VLe.refl _) (.cons (VLe.refl _) (.nil))) (ref34_LikelihoodA zz nw xz) ?_)))))))
  refine mvT rfl (ex rfl rfl (ex rfl rfl (al z.Rat rfl fun b15 => (sto sz.Rat rfl rfl rfl rfl rfl (nb9 rfl) (cells2 := [_,_,_]) rfl (asD rfl (OL.nil (AW.sg hE rfl ?_)))))))
  refine ldPA ag.Hidden rfl rfl (vs := [_,_,_,_,_,_,_,_,_,_,_]) rfl (nb9 rfl) (mvD rfl (clv rfl (.cons (VLe.refl _) (.cons (VLe.refl _) (.nil))) (fwd_PosteriorA zz nw xz) (mvT rfl (ex rfl rfl (ex rfl rfl (asD rfl (asD rfl ?_)))))))
  refine OL.nil (AW.sg hE rfl (ldPA ag.Hidden rfl rfl (vs := [_,_,_,_,_,_,_,_,_,_,_]) rfl (nb9 rfl) (mvD rfl (clv rfl (.cons (VLe.refl _) (.cons (VLe.refl _) (.nil))) (ref34_PosteriorA zz nw xz) (mvT rfl (ex rfl rfl (ex rfl rfl ?_)))))))
  refine asD rfl (asD rfl (OL.nil (AW.sg hE rfl (ldPA ag.Hidden rfl rfl (vs := [_,_,_,_,_,_,_,_,_,_,_]) rfl (nb9 rfl) (mvD rfl (clv rfl (.cons (VLe.refl _) (.cons (VLe.refl _) (.nil))) (fwd_ExpectedA zz nw xz) (mvT rfl ?_)))))))
  refine ex rfl rfl (ex rfl rfl (al z.Counts rfl fun b21 => (sto sz.Counts rfl rfl rfl rfl rfl (nb9 rfl) (cells2 := [_,_,_,_]) rfl (asD rfl (OL.nil (AW.sg hE rfl (ldPA ag.Hidden rfl rfl (vs := [_,_,_,_,_,_,_,_,_,_,_]) rfl (nb9 rfl) ?_)))))))
  refine mvD rfl (clv rfl (.cons (VLe.refl _) (.cons (VLe.refl _) (.nil))) (ref34_ExpectedA zz nw xz) (mvT rfl (ex rfl rfl (ex rfl rfl (al z.Counts rfl fun b23 => (sto sz.Counts rfl rfl rfl rfl rfl (nb9 rfl) (cells2 := [_,_,_,_]) rfl (asD rfl ?_)))))))
  refine OL.nil (AW.seq (AW.sg hE rfl (mvD rfl (mvD rfl (c_neq rfl rfl (c := false) (cne_f rfl) (mvD rfl (OL.yes rfl ?_)))))))
  refine mvD rfl (OL.yes rfl (mvD rfl (OL.yes rfl (c_neq rfl rfl (c := false) (cne_f rfl) (pkF rfl rfl (mvD rfl (OL.yes rfl ?_)))))))
  refine mvD rfl (OL.yes rfl (mvD rfl (OL.yes rfl (c_neq rfl rfl (c := false) (cne_f rfl) (pkF rfl rfl (mvD rfl (OL.yes rfl ?_)))))))
  refine mvD rfl (OL.yes rfl (mvD rfl (OL.yes rfl (c_neq rfl rfl (c := false) (cne_f rfl) (pkF rfl rfl (mvD rfl (OL.yes rfl ?_)))))))
  refine mvD rfl (OL.yes rfl (mvD rfl (OL.yes rfl (c_neq rfl rfl (c := false) (cne_f rfl) (pkF rfl rfl (mvD rfl (OL.yes rfl ?_)))))))
  refine mvD rfl (OL.yes rfl (mvD rfl (OL.yes rfl (clv rfl (.cons (VLe.refl _) (.cons (VLe.refl _) (.nil))) (law34_sameX ok.fw) (OL.yes rfl (nt rfl (pkF rfl rfl ?_)))))))
  refine mvD rfl (OL.yes rfl (mvD rfl (OL.yes rfl (mvD rfl (OL.yes rfl (clv rfl (.cons (VLe.refl _) (.cons (VLe.refl _) (.nil))) (law34_sameX ok.bw) (OL.yes rfl ?_)))))))
  refine nt rfl (pkF rfl rfl (mvD rfl (OL.yes rfl (ldPA ag.Rat rfl rfl (vs := [_,_,_]) rfl (nb9 rfl) (OL.yes rfl (ldPA ag.Rat rfl rfl (vs := [_,_,_]) rfl (nb9 rfl) (OL.yes rfl ?_)))))))
  refine clv rfl (.cons (VLe.refl _) (.cons (VLe.refl _) (.nil))) (ref_CompareQ (x := (lkA h w)) (y := (lkA h w)) zl zl) ?_
  rw [show cmpQ (lkA h w) (lkA h w) = 0 from cmpQ_eq.2 rfl]
  refine OL.yes rfl (c_neq rfl rfl (c := false) (cne_f rfl) (pkF rfl rfl (mvD rfl (OL.yes rfl (mvD rfl (OL.yes rfl (mvD rfl ?_)))))))
  refine OL.yes rfl (clv rfl (.cons (VLe.refl _) (.cons (VLe.refl _) (.nil))) (law34_sameX ok.po) (OL.yes rfl (nt rfl (pkF rfl rfl (OL.nil (AW.cond rfl (fun hno => absurd hno (by decide)) (fun _ => ?_)))))))
  refine AW.skip (AW.sg hE rfl (clv rfl .nil law34_known (mvD rfl (OL.yes rfl (faP fd.Counts_0 rfl rfl (OL.yes rfl (ldPC ce.Rats rfl rfl rfl ?_)))))))
  refine OL.yes rfl (faP fd.Counts_0 rfl rfl (OL.yes rfl (ldPC ce.Rats rfl rfl rfl (OL.yes rfl (clv rfl (.cons (VLe.refl _) (.cons (VLe.refl _) (.nil))) (law34_row ok.xs) (pkT rfl rfl (mvD rfl ?_)))))))
  refine OL.yes rfl (faP fd.Counts_1 rfl rfl (OL.yes rfl (ldPC ce.Ratss rfl rfl rfl (OL.yes rfl (faP fd.Counts_1 rfl rfl (OL.yes rfl (ldPC ce.Ratss rfl rfl rfl ?_)))))))
  refine OL.yes rfl (clv rfl (.cons (VLe.refl _) (.cons (VLe.refl _) (.nil))) (law34_sameX ok.xm) (pkT rfl rfl (mvD rfl (OL.yes rfl (faP fd.Counts_2 rfl rfl (OL.yes rfl (ldPC ce.Rats rfl rfl rfl ?_)))))))
  refine OL.yes rfl (faP fd.Counts_2 rfl rfl (OL.yes rfl (ldPC ce.Rats rfl rfl rfl (OL.yes rfl (clv rfl (.cons (VLe.refl _) (.cons (VLe.refl _) (.nil))) (law34_row ok.xe) (pkT rfl rfl (mvD rfl ?_)))))))
  refine OL.yes rfl (faP fd.Counts_3 rfl rfl (OL.yes rfl (ldPC ce.Ratss rfl rfl rfl (OL.yes rfl (faP fd.Counts_3 rfl rfl (OL.yes rfl (ldPC ce.Ratss rfl rfl rfl ?_)))))))
  exact OL.yes rfl (clv rfl (.cons (VLe.refl _) (.cons (VLe.refl _) (.nil))) (law34_sameX ok.xo) (pkT rfl rfl (asD rfl (OL.nil (AW.ret (RetQ.r ⟨_, .tmp rfl .nil, .le (VLe.refl _)⟩))))))
end Go.Proofs.YtjghehkgmanmbaaGreat

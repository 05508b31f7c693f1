/-
  Walks of package forward and of the specification of chapter 34: likelihoods alone (printed by mk2.py).
-/
import Derived.Test.YtonndaibggjmjaaGreatKFwdA
import Derived.Test.YtonndaibggjmjaaGreatKLsE
import Derived.Test.YtonndaibggjmjaaGreatKMod67
set_option linter.unusedVariables false
set_option linter.unusedSimpArgs false
namespace Go.Proofs.YtonndaibggjmjaaGreat
open Go Go.AL
theorem map_get9 {α : Type} (f : Nat → α) (d : α) {n i : Nat} (h : i < n) : ((List.range n).map f).getD i d = f i := map_getD_range f d h
theorem ref33_SumJ {l : List Rat} (hl : Small 20000 l) (hn : l.length ≤ 27) : FSpec P F.ref33_Sum [.d (dQs l)] (vQ (sumQ l)) := ref33_SumS (B := 20000) hl (by decide) (by omega)
theorem fwd_likelihoodS {h : HM} {b B : Nat} {w : List Int} (f : HM.FormX b B h) (k : WordOK h w) (fz : FwdSz h w) : FSpec P F.forward_likelihood [vHM h, .d (ints w)] (vQ (likF h w)) := by
 have n0 := f.st0
 have n1 := f.st1
 have s1 := f.sym1
 have e3 := f.stop
 have k1 := k.1
 have zE := fz.empty
 refine FSpec.intro fn.forward_likelihood (by rfl) (by rfl) (nb9 (by rfl)) fun E hE => ?_
 refine AW.sg hE rfl ?_
 first | refine bxA rfl rfl fun b2 => ?_ | refine bxD rfl rfl fun b2 => ?_
 refine al z.Rat rfl fun b4 => ?_
 refine OL.nil ?_
 refine AW.seq ?_
 refine AW.sg hE rfl ?_
 first | refine mvD rfl ?_ | refine mvO rfl ?_ | refine mvM rfl ?_ | refine mvB rfl ?_
 first | refine lnL sl.ints rfl rfl ?_ | refine lnO sl.ints rfl rfl ?_ | refine lnM sl.ints rfl rfl ?_ | refine lnD sl.ints rfl rfl rfl ?_
 refine c_eql rfl rfl rfl ?_
 refine OL.nil ?_
 refine AW.cond rfl (fun h0 => ?_) (fun h0 => ?_)
 ·have h0 : w.length = 0 := by have := of_decide_eq_true h0; omega
  rw [show likF h w = h.empty from if_pos h0]
  refine AW.sg hE rfl ?_
  first | refine faP fd.Hidden_2 rfl rfl ?_ | refine faR fd.Hidden_2 rfl rfl ?_ | refine faE fd.Hidden_2 rfl rfl ?_
  first | refine ldPA ag.Rat rfl rfl (vs := [_,_,_]) rfl (nb9 rfl) ?_ | refine ldRA ag.Rat rfl (vs := [_,_,_]) rfl (nb9 rfl) ?_
  refine clv rfl (.cons (VLe.refl _) (.nil)) (fresh_Rat (q := h.empty) (by omega)) ?_
  first | refine sto sz.Rat rfl rfl rfl rfl rfl (nb9 rfl) (cells2 := [_,_,_]) rfl ?_ | refine stE sz.Rat rfl (VC.d _).vd rfl rfl (by omega) rfl ?_
  refine OL.nil ?_
  exact AW.ret (RetQ.r ⟨_, .cellA rfl rfl ag.Rat (nb9 rfl) .nil, .ag (.cons (.le (by first | exact VLe.refl _ | exact VLe.mt | exact vle_q0 | exact VLe.int (by omega) | exact VLe.bool (by simp_all))) (.cons (.le (by first | exact VLe.refl _ | exact VLe.mt | exact vle_q0 | exact VLe.int (by omega) | exact VLe.bool (by simp_all))) (.cons (.le (by first | exact VLe.refl _ | exact VLe.mt | exact vle_q0 | exact VLe.int (by omega) | exact VLe.bool (by simp_all))) .nil)))⟩)
 ·have h0 : w.length ≠ 0 := fun e => of_decide_eq_false h0 (by omega)
  rw [show likF h w = likN h (fwdF h w (w.length - 1)) h.st from if_neg h0]
  have hfl := fwdF_len h w (w.length - 1)
  refine AW.skip ?_
  refine AW.sg hE rfl ?_
  refine bd z.Rat pl.Rat (cs := [_,_,_]) rfl ?_
  refine al z.Rat rfl fun b5 => ?_
  first | refine sto sz.Rat rfl rfl rfl rfl rfl (nb9 rfl) (cells2 := [_,_,_]) rfl ?_ | refine stE sz.Rat rfl (VC.d _).vd rfl rfl (by omega) rfl ?_
  refine OL.nil ?_
  refine AW.seq ?_
  refine AW.sg hE rfl ?_
  first | refine ldPA ag.Hidden rfl rfl (vs := [_,_,_,_,_,_,_,_,_,_,_]) rfl (nb9 rfl) ?_ | refine ldRA ag.Hidden rfl (vs := [_,_,_,_,_,_,_,_,_,_,_]) rfl (nb9 rfl) ?_
  first | refine mvD rfl ?_ | refine mvO rfl ?_ | refine mvM rfl ?_ | refine mvB rfl ?_
  refine clv rfl (.cons (VLe.refl _) (.cons (VLe.refl _) (.nil))) (fwd_forwardD f k fz) ?_
  first | refine mvD rfl ?_ | refine mvO rfl ?_ | refine mvM rfl ?_ | refine mvB rfl ?_
  first | refine lnL sl.ints rfl rfl ?_ | refine lnO sl.ints rfl rfl ?_ | refine lnM sl.ints rfl rfl ?_ | refine lnD sl.ints rfl rfl rfl ?_
  refine bo rfl rfl (bin_sub (c := ((w.length - 1 : Nat) : Int)) (by omega) (wrap_i64 (by omega))) ?_
  refine ixLn sl.Ratss [] rfl rfl (by rw [List.length_map, List.length_range]; omega) rfl rfl ?_
  first | refine ldRC ce.Rats rfl ?_ | refine ldPC ce.Rats rfl rfl rfl ?_
  rw [map_getD_range (fwdF h w) [] (show w.length - 1 < w.length by omega)]
  first | refine lnL sl.Rats rfl rfl ?_ | refine lnO sl.Rats rfl rfl ?_ | refine lnM sl.Rats rfl rfl ?_ | refine lnD sl.Rats rfl rfl rfl ?_
  refine mvD rfl ?_
  refine OL.nil ?_
  refine AW.block ?_
  refine AW.boxW 5 (cellsQ 0) rfl vles_q ?_
  refine AW.whileK (α := Nat) [(2, _), (4, _), (5, _), (22, _), (23, _)] [(2, _), (4, _)] (fun i => [(24, .d (dI i))]) (fun i => [(5, .box b5 T.Rat (cellsQ (likN h (fwdF h w (w.length - 1)) i)))]) (fun i => i ≤ h.st) (fun i => h.st - i) 0 (by repeat (first | exact Knows.nil | refine Knows.cons (by first | exact knD rfl | exact knA rfl | exact knP rfl | exact knO rfl | exact knM rfl | exact knE rfl | exact knR rfl | exact knF rfl | exact knT rfl | exact knI rfl | exact knB rfl | exact knJ) ?_)) (by repeat (first | exact Owns.nil | refine Owns.cons (by first | exact owB rfl | exact owR rfl | exact owL rfl | exact owT rfl) ?_)) ⟨Nat.zero_le _, .cons (by first | exact VLe.refl _ | exact VLe.int (by omega) | exact VLe.mt | exact vle_q0 | exact VLe.osl | exact VLe.ptr) .nil, .cons rfl .nil⟩ ?_
  intro i h1
  have h1 : i ≤ h.st := h1
  have zl := fz.lik (w.length - 1) i (by omega) h1
  refine AW.sg hE rfl ?_
  refine c_lss rfl rfl rfl ?_
  refine OL.nil ?_
  refine AW.seq ?_
  refine AW.cond rfl (fun h25 => ?_) (fun h25 => ?_)
  ·try simp only [dx9] at h25
   refine AW.skip ?_
   refine AW.seq ?_
   refine AW.block ?_
   refine AW.sg hE rfl ?_
   refine mvD rfl ?_
   first | refine ixO sl.Rats rfl rfl (by omega) (by omega) rfl ?_ | refine ixLn sl.Rats 0 rfl rfl (by omega) rfl rfl ?_ | refine ixL sl.Rats 0 rfl rfl (by omega) (by omega) rfl rfl ?_
   first | refine ldPA ag.Rat rfl rfl (vs := [_,_,_]) rfl (nb9 rfl) ?_ | refine ldRA ag.Rat rfl (vs := [_,_,_]) rfl (nb9 rfl) ?_
   refine al z.Rat rfl fun b7 => ?_
   refine asD rfl ?_
   first | refine sto sz.Rat rfl rfl rfl rfl rfl (nb9 rfl) (cells2 := [_,_,_]) rfl ?_ | refine stE sz.Rat rfl (VC.d _).vd rfl rfl (by omega) rfl ?_
   refine OL.nil ?_
   have zi := fz.fwd (w.length - 1) (by omega) i
   have zt := fz.stop i
   have zm := fz.likM (w.length - 1) i (by omega)
   refine AW.dg 1 [0,1,2,3,4,5,6,7,8,9] order_free hE rfl (by kernel_rfl) (OI.of_OL (os := [_,_,_,_,_,_,_,_,_,_]) rfl ?_)
   first | refine ldPA ag.Rat rfl rfl (vs := [_,_,_]) rfl (nb9 rfl) ?_ | refine ldRA ag.Rat rfl (vs := [_,_,_]) rfl (nb9 rfl) ?_
   first | refine ldPA ag.Rat rfl rfl (vs := [_,_,_]) rfl (nb9 rfl) ?_ | refine ldRA ag.Rat rfl (vs := [_,_,_]) rfl (nb9 rfl) ?_
   first | refine faP fd.Hidden_5 rfl rfl ?_ | refine faR fd.Hidden_5 rfl rfl ?_ | refine faE fd.Hidden_5 rfl rfl ?_
   first | refine ldRC ce.Rats rfl ?_ | refine ldPC ce.Rats rfl rfl rfl ?_
   refine mvD rfl ?_
   first | refine ixO sl.Rats rfl rfl (by omega) (by omega) rfl ?_ | refine ixLn sl.Rats 0 rfl rfl (by omega) rfl rfl ?_ | refine ixL sl.Rats 0 rfl rfl (by omega) (by omega) rfl rfl ?_
   first | refine ldPA ag.Rat rfl rfl (vs := [_,_,_]) rfl (nb9 rfl) ?_ | refine ldRA ag.Rat rfl (vs := [_,_,_]) rfl (nb9 rfl) ?_
   refine clv rfl (.cons (by first | exact VLe.refl _ | exact VLe.mt | exact vle_q0 | exact VLe.ptr) (.cons (by first | exact VLe.refl _ | exact VLe.mt | exact vle_q0 | exact VLe.ptr) .nil)) (rational_MulQ (by first | assumption | omega) (by first | assumption | omega)) ?_
   refine clv rfl (.cons (by first | exact VLe.refl _ | exact VLe.mt | exact vle_q0 | exact VLe.ptr) (.cons (by first | exact VLe.refl _ | exact VLe.mt | exact vle_q0 | exact VLe.ptr) .nil)) (rational_AddQ (by first | assumption | omega) (by first | assumption | omega)) ?_
   rw [show likN h (fwdF h w (w.length - 1)) i + (fwdF h w (w.length - 1)).getD i 0 * h.stop.getD i 0 = likN h (fwdF h w (w.length - 1)) (i + 1) from rfl]
   first | refine sto sz.Rat rfl rfl rfl rfl rfl (nb9 rfl) (cells2 := [_,_,_]) rfl ?_ | refine stE sz.Rat rfl (VC.d _).vd rfl rfl (by omega) rfl ?_
   refine OL.nil ?_
   refine AW.rg hE rfl ?_
   refine add_i64 rfl rfl (by omega) ?_
   refine mvD rfl ?_
   refine OL.nil ?_
   exact AW.again (x := i) (i + 1) (by first | omega | (simp only []; omega)) ⟨by omega, Knows.app .rq5 (.cons (by first | exact VLe.refl _ | exact VLe.int (by omega) | exact VLe.mt | exact vle_q0 | exact VLe.osl | exact VLe.ptr) .nil), Owns.app (.cons rfl (.cons rfl .nil)) (.cons rfl .nil)⟩
  ·try simp only [dx9] at h25
   refine AW.exit ?_
   refine AW.seq ?_
   obtain rfl : i = h.st := by omega
   refine AW.rg hE rfl ?_
   first | refine ldPA ag.Rat rfl rfl (vs := [_,_,_]) rfl (nb9 rfl) ?_ | refine ldRA ag.Rat rfl (vs := [_,_,_]) rfl (nb9 rfl) ?_
   first | refine sto sz.Rat rfl rfl rfl rfl rfl (nb9 rfl) (cells2 := [_,_,_]) rfl ?_ | refine stE sz.Rat rfl (VC.d _).vd rfl rfl (by omega) rfl ?_
   refine OL.nil ?_
   exact AW.ret (RetQ.r ⟨_, .cellA rfl rfl ag.Rat (nb9 rfl) .nil, .ag (.cons (.le (by first | exact VLe.refl _ | exact VLe.mt | exact vle_q0 | exact VLe.int (by omega) | exact VLe.bool (by simp_all))) (.cons (.le (by first | exact VLe.refl _ | exact VLe.mt | exact vle_q0 | exact VLe.int (by omega) | exact VLe.bool (by simp_all))) (.cons (.le (by first | exact VLe.refl _ | exact VLe.mt | exact vle_q0 | exact VLe.int (by omega) | exact VLe.bool (by simp_all))) .nil)))⟩)
theorem fwd_LikelihoodW {h : HM} {B : Nat} {w : List Int} (g : h.GoodW B) (k : WordOK h w) (fz : FwdSz h w) : FSpec P F.forward_Likelihood [vHM h, .d (ints w)] (.tup [vQ (likF h w), .d (dI 0)]) := by
 refine FSpec.intro fn.forward_Likelihood (by rfl) (by rfl) (nb9 (by rfl)) fun E hE => ?_
 refine AW.sg hE rfl ?_
 first | refine bxA rfl rfl fun b2 => ?_ | refine bxD rfl rfl fun b2 => ?_
 refine al z.Rat rfl fun b4 => ?_
 refine asD rfl ?_
 refine OL.nil ?_
 refine AW.seq ?_
 refine AW.sg hE rfl ?_
 first | refine ldPA ag.Hidden rfl rfl (vs := [_,_,_,_,_,_,_,_,_,_,_]) rfl (nb9 rfl) ?_ | refine ldRA ag.Hidden rfl (vs := [_,_,_,_,_,_,_,_,_,_,_]) rfl (nb9 rfl) ?_
 first | refine mvD rfl ?_ | refine mvO rfl ?_ | refine mvM rfl ?_ | refine mvB rfl ?_
 refine clv rfl (.cons (VLe.refl _) (.cons (VLe.refl _) (.nil))) (forward_refuseW g k) ?_
 refine asD rfl ?_
 refine OL.nil ?_
 refine AW.sg hE rfl ?_
 refine mvD rfl ?_
 refine c_neq rfl rfl (c := false) (by first | exact decide_eq_true (by omega) | exact decide_eq_false (by omega) | exact cne_f (by omega) | exact cne_t (by omega) | rfl) ?_
 refine OL.nil ?_
 refine AW.cond rfl (fun hno => absurd hno (by decide)) (fun _ => ?_)
 refine AW.skip ?_
 refine AW.sg hE rfl ?_
 first | refine ldPA ag.Hidden rfl rfl (vs := [_,_,_,_,_,_,_,_,_,_,_]) rfl (nb9 rfl) ?_ | refine ldRA ag.Hidden rfl (vs := [_,_,_,_,_,_,_,_,_,_,_]) rfl (nb9 rfl) ?_
 first | refine mvD rfl ?_ | refine mvO rfl ?_ | refine mvM rfl ?_ | refine mvB rfl ?_
 refine clv rfl (.cons (VLe.refl _) (.cons (VLe.refl _) (.nil))) (fwd_likelihoodS g.form k fz) ?_
 first | refine sto sz.Rat rfl rfl rfl rfl rfl (nb9 rfl) (cells2 := [_,_,_]) rfl ?_ | refine stE sz.Rat rfl (VC.d _).vd rfl rfl (by omega) rfl ?_
 refine asD rfl ?_
 refine OL.nil ?_
 exact AW.ret (RetQ.r ⟨_, .cellA rfl rfl ag.Rat (nb9 rfl) (.tmp rfl .nil), _, .cons (.ag (.cons (.le (by first | exact VLe.refl _ | exact VLe.mt | exact vle_q0 | exact VLe.int (by omega) | exact VLe.bool (by simp_all))) (.cons (.le (by first | exact VLe.refl _ | exact VLe.mt | exact vle_q0 | exact VLe.int (by omega) | exact VLe.bool (by simp_all))) (.cons (.le (by first | exact VLe.refl _ | exact VLe.mt | exact vle_q0 | exact VLe.int (by omega) | exact VLe.bool (by simp_all))) .nil)))) (.cons (.le (by first | exact VLe.refl _ | exact VLe.mt | exact vle_q0 | exact VLe.int (by omega) | exact VLe.bool (by simp_all))) .nil), rfl⟩)
theorem fwd_Likelihood {h : HM} {B : Nat} {w : List Int} (g : h.Good B) (k : WordOK h w) (fw : Few h w) : FSpec P F.forward_Likelihood [vHM h, .d (ints w)] (.tup [vQ (likF h w), .d (dI 0)]) := fwd_LikelihoodW g.w k (fwdSz g.form fw)
def fwdU (h : HM) (w : List Int) (t j : Nat) : Rat := if t = 0 then h.ini.getD j 0 else preF h w (fwdF h w (t - 1)) (t - 1) j h.st
theorem fwdU_pos {h : HM} {w : List Int} {t j : Nat} (ht : 0 < t) : fwdU h w t j = preF h w (fwdF h w (t - 1)) (t - 1) j h.st := if_neg (by omega)
theorem fwdU_zero {h : HM} {w : List Int} {t j : Nat} (ht : t = 0) : fwdU h w t j = h.ini.getD j 0 := if_pos ht
theorem fwdU_eq {h : HM} {w : List Int} {t j : Nat} (hj : j < h.st) : (fwdF h w t).getD j 0 = fwdU h w t j * (h.emit.getD j []).getD (symX w t) 0 := by
 by_cases ht : t = 0
 ·rw [fwdU_zero ht, ht]; exact fwd_zero hj
 ·rw [fwdU_pos (by omega)]; exact fwd_pos (by omega) hj
set_option maxRecDepth 6000 in
set_option maxHeartbeats 3200000 in
theorem ref34_Forward {h : HM} {B : Nat} {w : List Int} (g : h.Good B) (k : WordOK h w) (fw : Few h w) : FSpec P F.ref34_Forward [vHM h, .d (ints w)] (.tup [.d (dQss ((List.range w.length).map (fwdF h w))), .d (dI 0)]) := by
 have f := g.form
 have n0 := f.st0
 have n1 := f.st1
 have s1 := f.sym1
 have e1 := f.ini
 have e2 := f.trans
 have e4 := f.emit
 have k1 := k.1
 have fz := fwdSz f fw
 refine FSpec.intro fn.ref34_Forward (by rfl) (by rfl) (nb9 (by rfl)) fun E hE => ?_
 refine AW.sg hE rfl ?_
 first | refine bxA rfl rfl fun b2 => ?_ | refine bxD rfl rfl fun b2 => ?_
 refine asM rfl ?_
 refine asD rfl ?_
 refine OL.nil ?_
 refine AW.seq ?_
 refine AW.sg hE rfl ?_
 first | refine ldPA ag.Hidden rfl rfl (vs := [_,_,_,_,_,_,_,_,_,_,_]) rfl (nb9 rfl) ?_ | refine ldRA ag.Hidden rfl (vs := [_,_,_,_,_,_,_,_,_,_,_]) rfl (nb9 rfl) ?_
 first | refine mvD rfl ?_ | refine mvO rfl ?_ | refine mvM rfl ?_ | refine mvB rfl ?_
 refine clv rfl (.cons (VLe.refl _) (.cons (VLe.refl _) (.nil))) (ref34_Check g k) ?_
 refine asD rfl ?_
 refine OL.nil ?_
 refine AW.sg hE rfl ?_
 refine mvD rfl ?_
 refine c_neq rfl rfl (c := false) (by first | exact decide_eq_true (by omega) | exact decide_eq_false (by omega) | exact cne_f (by omega) | exact cne_t (by omega) | rfl) ?_
 refine OL.nil ?_
 refine AW.cond rfl (fun hno => absurd hno (by decide)) (fun _ => ?_)
 refine AW.skip ?_
 refine AW.sg hE rfl ?_
 refine asM rfl ?_
 refine OL.nil ?_
 refine AW.seq ?_
 refine AW.sg hE rfl ?_
 refine asD rfl ?_
 refine OL.nil ?_
 refine AW.block ?_
 refine AW.own 7 84 T.Rats 1 rfl rfl ?_
 refine AW.whileK (α := Nat × Nat × Nat) [(1, _), (2, _), (4, _), (5, _)] [(2, _)] (fun (t, p, c) => [(7, .osl 84 p t c), (8, .d (dI t))]) (fun (t, p, c) => [(84, .row p c T.Rats 1 (((List.range t).map (fwdF h w)).map dQs))]) (fun (t, p, c) => t ≤ w.length) (fun (t, p, c) => w.length - t) (0, 0, 0) (by repeat (first | exact Knows.nil | refine Knows.cons (by first | exact knD rfl | exact knA rfl | exact knP rfl | exact knO rfl | exact knM rfl | exact knE rfl | exact knR rfl | exact knF rfl | exact knT rfl | exact knI rfl | exact knB rfl | exact knJ) ?_)) (.cons (by first | exact owB rfl | exact owR rfl | exact owL rfl | exact owT rfl) .nil) ⟨Nat.zero_le _, .cons (by first | exact VLe.refl _ | exact VLe.int (by omega) | exact VLe.mt | exact vle_q0 | exact VLe.osl | exact VLe.ptr) (.cons (by first | exact VLe.refl _ | exact VLe.int (by omega) | exact VLe.mt | exact vle_q0 | exact VLe.osl | exact VLe.ptr) .nil), .cons rfl .nil⟩ ?_
 rintro ⟨t, p, c⟩ h1
 have h1 : t ≤ w.length := h1
 have hwl : ((List.range t).map (fwdF h w)).length = t := by simp
 refine AW.seq ?_
 refine AW.sg hE rfl ?_
 refine mvD rfl ?_
 first | refine mvD rfl ?_ | refine mvO rfl ?_ | refine mvM rfl ?_ | refine mvB rfl ?_
 first | refine lnL sl.ints rfl rfl ?_ | refine lnO sl.ints rfl rfl ?_ | refine lnM sl.ints rfl rfl ?_ | refine lnD sl.ints rfl rfl rfl ?_
 refine c_lss rfl rfl rfl ?_
 refine OL.nil ?_
 refine AW.cond rfl (fun h22 => ?_) (fun h22 => ?_)
 ·try simp only [dx9] at h22
  refine AW.skip ?_
  refine AW.seq ?_
  refine AW.block ?_
  refine AW.sg hE rfl ?_
  refine asM rfl ?_
  refine OL.nil ?_
  refine AW.seq ?_
  refine AW.sg hE rfl ?_
  refine asD rfl ?_
  refine OL.nil ?_
  refine AW.block ?_
  refine AW.own 9 80 T.Rat 3 rfl rfl ?_
  refine AW.whileK (α := Nat × Nat × Nat) [(1, _), (2, _), (4, _), (5, _), (7, _), (8, _)] [(2, _), (84, _)] (fun (j, q, d) => [(9, .osl 80 q j d), (10, .d (dI j))]) (fun (j, q, d) => [(80, .row q d T.Rat 3 (((fwdF h w t).take j).map dQ))]) (fun (j, q, d) => j ≤ h.st) (fun (j, q, d) => h.st - j) (0, 0, 0) (by repeat (first | exact Knows.nil | refine Knows.cons (by first | exact knD rfl | exact knA rfl | exact knP rfl | exact knO rfl | exact knM rfl | exact knE rfl | exact knR rfl | exact knF rfl | exact knT rfl | exact knI rfl | exact knB rfl | exact knJ) ?_)) (by repeat (first | exact Owns.nil | refine Owns.cons (by first | exact owB rfl | exact owR rfl | exact owL rfl | exact owT rfl) ?_)) ⟨Nat.zero_le _, .cons (by first | exact VLe.refl _ | exact VLe.int (by omega) | exact VLe.mt | exact vle_q0 | exact VLe.osl | exact VLe.ptr) (.cons (by first | exact VLe.refl _ | exact VLe.int (by omega) | exact VLe.mt | exact vle_q0 | exact VLe.osl | exact VLe.ptr) .nil), .cons rfl .nil⟩ ?_
  rintro ⟨j, q, d⟩ h2
  have h2 : j ≤ h.st := h2
  have hfl := fwdF_len h w t
  have htl : ((fwdF h w t).take j).length = j := by rw [List.length_take]; omega
  refine AW.seq ?_
  refine AW.sg hE rfl ?_
  refine mvD rfl ?_
  first | refine faP fd.Hidden_1 rfl rfl ?_ | refine faR fd.Hidden_1 rfl rfl ?_ | refine faE fd.Hidden_1 rfl rfl ?_
  first | refine ldRC ce.int rfl ?_ | refine ldPC ce.int rfl rfl rfl ?_
  refine c_lss rfl rfl rfl ?_
  refine OL.nil ?_
  refine AW.cond rfl (fun h28 => ?_) (fun h28 => ?_)
  ·try simp only [dx9] at h28
   refine AW.skip ?_
   refine AW.seq ?_
   refine AW.block ?_
   refine AW.seq ?_
   have hj : j < h.st := by omega
   have hx := k.symX (t := t) (by omega)
   have hej := f.erow j hj
   have zi := fz.ini j
   have ze : sz ((h.emit.getD j []).getD (symX w t) 0) ≤ 68719476736 := fz.em j (symX w t)
   refine AW.rg hE rfl ?_
   first | refine faP fd.Hidden_3 rfl rfl ?_ | refine faR fd.Hidden_3 rfl rfl ?_ | refine faE fd.Hidden_3 rfl rfl ?_
   first | refine ldRC ce.Rats rfl ?_ | refine ldPC ce.Rats rfl rfl rfl ?_
   refine mvD rfl ?_
   refine ixLn sl.Rats 0 rfl rfl (by omega) rfl rfl ?_
   first | refine ldPA ag.Rat rfl rfl (vs := [_,_,_]) rfl (nb9 rfl) ?_ | refine ldRA ag.Rat rfl (vs := [_,_,_]) rfl (nb9 rfl) ?_
   refine al z.Rat rfl fun b11 => ?_
   first | refine sto sz.Rat rfl rfl rfl rfl rfl (nb9 rfl) (cells2 := [_,_,_]) rfl ?_ | refine stE sz.Rat rfl (VC.d _).vd rfl rfl (by omega) rfl ?_
   refine OL.nil ?_
   refine AW.midK (α := Unit) [(1, _), (2, _), (4, _), (5, _), (7, _), (8, _), (9, _), (10, _), (11, _)] [(2, _), (80, _), (84, _)] (fun _u => []) (fun _u => [(11, .box b11 T.Rat (cellsQ (fwdU h w t j)))]) (fun _u => True) (by repeat (first | exact Knows.nil | refine Knows.cons (by first | exact knD rfl | exact knA rfl | exact knP rfl | exact knO rfl | exact knM rfl | exact knE rfl | exact knR rfl | exact knF rfl | exact knT rfl | exact knI rfl | exact knB rfl | exact knJ) ?_)) (by repeat (first | exact Owns.nil | refine Owns.cons (by first | exact owB rfl | exact owR rfl | exact owL rfl | exact owT rfl) ?_)) ?_ ?_
   ·refine AW.sg hE rfl ?_
    refine mvD rfl ?_
    refine c_gtr rfl rfl rfl ?_
    refine OL.nil ?_
    refine AW.cond rfl (fun ht => ?_) (fun ht => ?_)
    ·have ht : 0 < t := by have := of_decide_eq_true ht; omega
     have zp := fz.fwd (t - 1) (by omega)
     have hpl := fwdF_len h w (t - 1)
     have hpg : ((List.range t).map (fwdF h w)).getD (t - 1) [] = fwdF h w (t - 1) := map_get9 _ _ (by omega)
     refine AW.sg hE rfl ?_
     refine bd z.Rat pl.Rat (cs := [_,_,_]) rfl ?_
     first | refine sto sz.Rat rfl rfl rfl rfl rfl (nb9 rfl) (cells2 := [_,_,_]) rfl ?_ | refine stE sz.Rat rfl (VC.d _).vd rfl rfl (by omega) rfl ?_
     refine OL.nil ?_
     refine AW.sg hE rfl ?_
     refine asD rfl ?_
     refine OL.nil ?_
     refine AW.block ?_
     refine AW.boxW 11 (cellsQ 0) rfl vles_q ?_
     refine AW.whileK (α := Nat) [(1, _), (2, _), (4, _), (5, _), (7, _), (8, _), (9, _), (10, _), (11, _)] [(2, _), (80, _), (84, _)] (fun i => [(12, .d (dI i))]) (fun i => [(11, .box b11 T.Rat (cellsQ (preF h w (fwdF h w (t - 1)) (t - 1) j i)))]) (fun i => i ≤ h.st) (fun i => h.st - i) 0 (by repeat (first | exact Knows.nil | refine Knows.cons (by first | exact knD rfl | exact knA rfl | exact knP rfl | exact knO rfl | exact knM rfl | exact knE rfl | exact knR rfl | exact knF rfl | exact knT rfl | exact knI rfl | exact knB rfl | exact knJ) ?_)) (by repeat (first | exact Owns.nil | refine Owns.cons (by first | exact owB rfl | exact owR rfl | exact owL rfl | exact owT rfl) ?_)) ⟨Nat.zero_le _, .cons (by first | exact VLe.refl _ | exact VLe.int (by omega) | exact VLe.mt | exact vle_q0 | exact VLe.osl | exact VLe.ptr) .nil, .cons rfl .nil⟩ ?_
     intro i h3
     have h3 : i ≤ h.st := h3
     have zs := fz.pre (t - 1) j i (by omega) h3
     refine AW.seq ?_
     refine AW.sg hE rfl ?_
     refine mvD rfl ?_
     first | refine faP fd.Hidden_1 rfl rfl ?_ | refine faR fd.Hidden_1 rfl rfl ?_ | refine faE fd.Hidden_1 rfl rfl ?_
     first | refine ldRC ce.int rfl ?_ | refine ldPC ce.int rfl rfl rfl ?_
     refine c_lss rfl rfl rfl ?_
     refine OL.nil ?_
     refine AW.cond rfl (fun h42 => ?_) (fun h42 => ?_)
     ·try simp only [dx9] at h42
      refine AW.skip ?_
      refine AW.seq ?_
      refine AW.block ?_
      have tri := f.trow i (by omega)
      have zpi := zp i
      have zt : sz ((h.trans.getD i []).getD j 0) ≤ 68719476736 := fz.tr i j
      have zm : sz ((fwdF h w (t - 1)).getD i 0 * (h.trans.getD i []).getD j 0) ≤ 68719476736 := fz.preM (t - 1) i j (by omega)
      refine AW.dg 1 [0,1,2,3,4,5,6,7,8,9,10,11,12,13,14,15,16,17,18,19] order_free hE rfl (by kernel_rfl) (OI.of_OL (os := [_,_,_,_,_,_,_,_,_,_,_,_,_,_,_,_,_,_,_,_]) rfl ?_)
      first | refine ldPA ag.Rat rfl rfl (vs := [_,_,_]) rfl (nb9 rfl) ?_ | refine ldRA ag.Rat rfl (vs := [_,_,_]) rfl (nb9 rfl) ?_
      first | refine mvD rfl ?_ | refine mvO rfl ?_ | refine mvM rfl ?_ | refine mvB rfl ?_
      refine mvD rfl ?_
      refine bo rfl rfl (bin_sub (c := ((t - 1 : Nat) : Int)) (by omega) (wrap_i64 (by omega))) ?_
      refine ixOn sl.Ratss rfl rfl (by omega) ?_
      refine ldEL ce.Rats [] (by decide) rfl rfl (by omega) rfl ?_
      rw [hpg]
      refine mvD rfl ?_
      refine ixLn sl.Rats 0 rfl rfl (by omega) rfl rfl ?_
      first | refine ldPA ag.Rat rfl rfl (vs := [_,_,_]) rfl (nb9 rfl) ?_ | refine ldRA ag.Rat rfl (vs := [_,_,_]) rfl (nb9 rfl) ?_
      first | refine faP fd.Hidden_4 rfl rfl ?_ | refine faR fd.Hidden_4 rfl rfl ?_ | refine faE fd.Hidden_4 rfl rfl ?_
      first | refine ldRC ce.Ratss rfl ?_ | refine ldPC ce.Ratss rfl rfl rfl ?_
      refine mvD rfl ?_
      refine ixLn sl.Ratss [] rfl rfl (by omega) rfl rfl ?_
      first | refine ldRC ce.Rats rfl ?_ | refine ldPC ce.Rats rfl rfl rfl ?_
      refine mvD rfl ?_
      refine ixLn sl.Rats 0 rfl rfl (by omega) rfl rfl ?_
      first | refine ldPA ag.Rat rfl rfl (vs := [_,_,_]) rfl (nb9 rfl) ?_ | refine ldRA ag.Rat rfl (vs := [_,_,_]) rfl (nb9 rfl) ?_
      refine clv rfl (.cons (VLe.refl _) (.cons (VLe.refl _) (.nil))) (ref_MulQ (x := (fwdF h w (t - 1)).getD i 0) (y := (h.trans.getD i []).getD j 0) (by omega) (by omega)) ?_
      refine clv rfl (.cons (VLe.refl _) (.cons (VLe.refl _) (.nil))) (ref_AddQ (x := preF h w (fwdF h w (t - 1)) (t - 1) j i) (y := (fwdF h w (t - 1)).getD i 0 * (h.trans.getD i []).getD j 0) (by omega) (by omega)) ?_
      rw [show preF h w (fwdF h w (t - 1)) (t - 1) j i + (fwdF h w (t - 1)).getD i 0 * (h.trans.getD i []).getD j 0 = preF h w (fwdF h w (t - 1)) (t - 1) j (i + 1) from rfl]
      first | refine sto sz.Rat rfl rfl rfl rfl rfl (nb9 rfl) (cells2 := [_,_,_]) rfl ?_ | refine stE sz.Rat rfl (VC.d _).vd rfl rfl (by omega) rfl ?_
      refine OL.nil ?_
      refine AW.rg hE rfl ?_
      refine mvD rfl ?_
      refine add_i64 rfl rfl (by omega) ?_
      refine asD rfl ?_
      refine OL.nil ?_
      exact AW.again (x := i) (i + 1) (by first | omega | (simp only []; omega)) ⟨by omega, Knows.app .rq9 (.cons (by first | exact VLe.refl _ | exact VLe.int (by omega) | exact VLe.mt | exact vle_q0 | exact VLe.osl | exact VLe.ptr) .nil), Owns.app (.cons rfl (.cons rfl (.cons rfl .nil))) (.cons rfl .nil)⟩
     ·try simp only [dx9] at h42
      refine AW.exit ?_
      obtain rfl : i = h.st := by omega
      exact AW.reach () ⟨trivial, Knows.app .rq9 (.nil), Owns.app (.cons rfl (.cons rfl (.cons rfl .nil))) (.cons (by rw [fwdU_pos ht]; rfl) .nil)⟩
    ·have ht : t = 0 := by have := of_decide_eq_false ht; omega
     refine AW.skip ?_
     exact AW.reach () ⟨trivial, Knows.app .rq9 (.nil), Owns.app (.cons rfl (.cons rfl (.cons rfl .nil))) (.cons (by rw [fwdU_zero ht]; rfl) .nil)⟩
   rintro ⟨⟩ hφ
   have zu : sz (fwdU h w t j) ≤ 68719476736 := by
    unfold fwdU
    split
    ·exact zi
    ·exact fz.pre (t - 1) j h.st (by omega) (Nat.le_refl _)
   have hfg : (fwdF h w t).getD j 0 = fwdU h w t j * (h.emit.getD j []).getD (symX w t) 0 := fwdU_eq hj
   refine AW.dg 2 [0,1,2,3,4,5,6,7,8,9,10,11,12,13,14,15,16,17] order_free hE rfl (by kernel_rfl) (OI.of_OL (os := [_,_,_,_,_,_,_,_,_,_,_,_,_,_,_,_,_,_]) rfl ?_)
   first | refine mvD rfl ?_ | refine mvO rfl ?_ | refine mvM rfl ?_ | refine mvB rfl ?_
   first | refine ldPA ag.Rat rfl rfl (vs := [_,_,_]) rfl (nb9 rfl) ?_ | refine ldRA ag.Rat rfl (vs := [_,_,_]) rfl (nb9 rfl) ?_
   first | refine faP fd.Hidden_6 rfl rfl ?_ | refine faR fd.Hidden_6 rfl rfl ?_ | refine faE fd.Hidden_6 rfl rfl ?_
   first | refine ldRC ce.Ratss rfl ?_ | refine ldPC ce.Ratss rfl rfl rfl ?_
   refine mvD rfl ?_
   refine ixLn sl.Ratss [] rfl rfl (by omega) rfl rfl ?_
   first | refine ldRC ce.Rats rfl ?_ | refine ldPC ce.Rats rfl rfl rfl ?_
   first | refine mvD rfl ?_ | refine mvO rfl ?_ | refine mvM rfl ?_ | refine mvB rfl ?_
   refine mvD rfl ?_
   refine ixLn sl.ints 0 rfl rfl (by omega) rfl rfl ?_
   first | refine ldRC ce.int rfl ?_ | refine ldPC ce.int rfl rfl rfl ?_
   rw [hx.2]
   refine bo rfl rfl (bin_sub (c := (symX w t : Int)) (by omega) (wrap_i64 (by omega))) ?_
   refine ixLn sl.Rats 0 rfl rfl (by omega) rfl rfl ?_
   first | refine ldPA ag.Rat rfl rfl (vs := [_,_,_]) rfl (nb9 rfl) ?_ | refine ldRA ag.Rat rfl (vs := [_,_,_]) rfl (nb9 rfl) ?_
   refine clv rfl (.cons (VLe.refl _) (.cons (VLe.refl _) (.nil))) (ref_MulQ (x := fwdU h w t j) (y := (h.emit.getD j []).getD (symX w t) 0) (by omega) (by omega)) ?_
   rw [← hfg]
   refine lt1 (y := dQ ((fwdF h w t).getD j 0)) sl.Rats vd_q rfl (by decide) ?_
   refine apO sl.Rats rfl rfl rfl (by rw [List.length_map]; omega) (VC.d _) (by intro y hy; rw [List.mem_singleton.1 hy]; rfl) (by simp; omega) (by simp; omega) (.inr rfl) (ys := (((fwdF h w t).take (j + 1)).map dQ)) (by rw [take_succ_getD (by omega) 0, List.map_append]; rfl) (n2 := j + 1) (by simp) fun q2 d2 => ?_
   first | refine asD rfl ?_ | refine asO rfl ?_ | refine asM rfl ?_ | refine asB rfl ?_
   refine OL.nil ?_
   refine AW.rg hE rfl ?_
   refine mvD rfl ?_
   refine add_i64 rfl rfl (by omega) ?_
   refine asD rfl ?_
   refine OL.nil ?_
   exact AW.again (x := (j, q, d)) (j + 1, q2, d2) (by first | omega | (simp only []; omega)) ⟨by omega, Knows.app .rq6 (.cons (by first | exact VLe.refl _ | exact VLe.int (by omega) | exact VLe.mt | exact vle_q0 | exact VLe.osl | exact VLe.ptr) (.cons (by first | exact VLe.refl _ | exact VLe.int (by omega) | exact VLe.mt | exact vle_q0 | exact VLe.osl | exact VLe.ptr) .nil)), Owns.app (.cons rfl (.cons rfl .nil)) (.cons rfl .nil)⟩
  ·try simp only [dx9] at h28
   refine AW.exit ?_
   obtain rfl : j = h.st := by omega
   refine AW.freeze 80 rfl (AW.to [(1, .d (ints w)), (2, .ptr 2 b2 0), (7, .osl 84 p t c), (8, .d (dI t)), (4, .mt), (5, .d (dI 0)), (9, .d (dQs (fwdF h w t)))] [(2, .box b2 T.Hidden (cellsHM h)), (84, .row p c T.Rats 1 (((List.range t).map (fwdF h w)).map dQs))] (.cons (VLe.refl _) (.cons (VLe.refl _) (.cons (VLe.refl _) (.cons (VLe.refl _) (.cons (VLe.refl _) (.cons (VLe.refl _) (.cons (frz_osl (by rw [List.length_map]; omega) (by rw [List.take_of_length_le (by omega)])) .nil))))))) (.cons rfl (.cons rfl .nil)) ?_)
   refine AW.rg hE rfl ?_
   first | refine mvD rfl ?_ | refine mvO rfl ?_ | refine mvM rfl ?_ | refine mvB rfl ?_
   first | refine mvD rfl ?_ | refine mvO rfl ?_ | refine mvM rfl ?_ | refine mvB rfl ?_
   refine lt1 (y := dQs (fwdF h w t)) sl.Ratss (VC.d _).vd rfl (by decide) ?_
   refine apO sl.Ratss rfl rfl rfl (by rw [List.length_map]; omega) (VC.d _) (by intro y hy; rw [List.mem_singleton.1 hy]; rfl) (by simp; omega) (by simp; omega) (.inr rfl) (ys := (((List.range (t + 1)).map (fwdF h w)).map dQs)) (by rw [List.range_succ, List.map_append, List.map_append]; rfl) (n2 := t + 1) (by simp) fun p2 c2 => ?_
   first | refine asD rfl ?_ | refine asO rfl ?_ | refine asM rfl ?_ | refine asB rfl ?_
   refine OL.nil ?_
   refine AW.rg hE rfl ?_
   refine mvD rfl ?_
   refine add_i64 rfl rfl (by omega) ?_
   refine asD rfl ?_
   refine OL.nil ?_
   exact AW.again (x := (t, p, c)) (t + 1, p2, c2) (by first | omega | (simp only []; omega)) ⟨by omega, Knows.app .rq4 (.cons (by first | exact VLe.refl _ | exact VLe.int (by omega) | exact VLe.mt | exact vle_q0 | exact VLe.osl | exact VLe.ptr) (.cons (by first | exact VLe.refl _ | exact VLe.int (by omega) | exact VLe.mt | exact vle_q0 | exact VLe.osl | exact VLe.ptr) .nil)), Owns.app (.cons rfl .nil) (.cons rfl .nil)⟩
 ·try simp only [dx9] at h22
  refine AW.exit ?_
  refine AW.seq ?_
  obtain rfl : t = w.length := by omega
  refine AW.rg hE rfl ?_
  first | refine mvD rfl ?_ | refine mvO rfl ?_ | refine mvM rfl ?_ | refine mvB rfl ?_
  first | refine asD rfl ?_ | refine asO rfl ?_ | refine asM rfl ?_ | refine asB rfl ?_
  refine asD rfl ?_
  refine OL.nil ?_
  exact AW.ret (RetQ.r ⟨_, .tmp rfl (.tmp rfl .nil), _, .cons (RO.row rfl (by rw [List.length_map]; omega) rfl) (.cons (.le (by first | exact VLe.refl _ | exact VLe.mt | exact vle_q0 | exact VLe.int (by omega) | exact VLe.bool (by simp_all))) .nil), rfl⟩)
set_option maxRecDepth 4000 in
set_option maxHeartbeats 1600000 in
theorem ref34_Likelihood {h : HM} {B : Nat} {w : List Int} (g : h.Good B) (k : WordOK h w) (fw : Few h w) : FSpec P F.ref34_Likelihood [vHM h, .d (ints w)] (.tup [vQ (likF h w), .d (dI 0)]) := by
 have f := g.form
 have n0 := f.st0
 have n1 := f.st1
 have e3 := f.stop
 have k1 := k.1
 have fz := fwdSz f fw
 refine FSpec.intro fn.ref34_Likelihood (by rfl) (by rfl) (nb9 (by rfl)) fun E hE => ?_
 refine AW.sg hE rfl ?_
 first | refine bxA rfl rfl fun b2 => ?_ | refine bxD rfl rfl fun b2 => ?_
 refine al z.Rat rfl fun b4 => ?_
 refine asD rfl ?_
 refine OL.nil ?_
 refine AW.sg hE rfl ?_
 first | refine ldPA ag.Hidden rfl rfl (vs := [_,_,_,_,_,_,_,_,_,_,_]) rfl (nb9 rfl) ?_ | refine ldRA ag.Hidden rfl (vs := [_,_,_,_,_,_,_,_,_,_,_]) rfl (nb9 rfl) ?_
 first | refine mvD rfl ?_ | refine mvO rfl ?_ | refine mvM rfl ?_ | refine mvB rfl ?_
 refine clv rfl (.cons (VLe.refl _) (.cons (VLe.refl _) (.nil))) (ref34_Forward g k fw) ?_
 first | refine mvD rfl ?_ | refine mvT rfl ?_ | refine mvP rfl ?_ | refine mvR rfl ?_ | refine mvE rfl ?_ | refine mvF rfl ?_ | refine mvI rfl ?_ | refine mvA rfl ?_ | refine mvO rfl ?_ | refine mvB rfl ?_ | refine mvM rfl ?_ | refine mvJ rfl ?_
 refine ex rfl rfl ?_
 refine ex rfl rfl ?_
 first | refine asD rfl ?_ | refine asO rfl ?_ | refine asM rfl ?_ | refine asB rfl ?_
 refine asD rfl ?_
 refine OL.nil ?_
 refine AW.seq ?_
 refine AW.sg hE rfl ?_
 refine mvD rfl ?_
 refine c_neq rfl rfl (c := false) (by first | exact decide_eq_true (by omega) | exact decide_eq_false (by omega) | exact cne_f (by omega) | exact cne_t (by omega) | rfl) ?_
 refine OL.nil ?_
 refine AW.cond rfl (fun hno => absurd hno (by decide)) (fun _ => ?_)
 refine AW.skip ?_
 refine AW.seq ?_
 refine AW.sg hE rfl ?_
 first | refine mvD rfl ?_ | refine mvO rfl ?_ | refine mvM rfl ?_ | refine mvB rfl ?_
 first | refine lnL sl.ints rfl rfl ?_ | refine lnO sl.ints rfl rfl ?_ | refine lnM sl.ints rfl rfl ?_ | refine lnD sl.ints rfl rfl rfl ?_
 refine c_eql rfl rfl rfl ?_
 refine OL.nil ?_
 refine AW.cond rfl (fun h0 => ?_) (fun h0 => ?_)
 ·have h0 : w.length = 0 := by have := of_decide_eq_true h0; omega
  rw [show likF h w = h.empty from if_pos h0]
  refine AW.sg hE rfl ?_
  first | refine faP fd.Hidden_2 rfl rfl ?_ | refine faR fd.Hidden_2 rfl rfl ?_ | refine faE fd.Hidden_2 rfl rfl ?_
  first | refine ldPA ag.Rat rfl rfl (vs := [_,_,_]) rfl (nb9 rfl) ?_ | refine ldRA ag.Rat rfl (vs := [_,_,_]) rfl (nb9 rfl) ?_
  first | refine sto sz.Rat rfl rfl rfl rfl rfl (nb9 rfl) (cells2 := [_,_,_]) rfl ?_ | refine stE sz.Rat rfl (VC.d _).vd rfl rfl (by omega) rfl ?_
  refine asD rfl ?_
  refine OL.nil ?_
  exact AW.ret (RetQ.r ⟨_, .cellA rfl rfl ag.Rat (nb9 rfl) (.tmp rfl .nil), _, .cons (.ag (.cons (.le (by first | exact VLe.refl _ | exact VLe.mt | exact vle_q0 | exact VLe.int (by omega) | exact VLe.bool (by simp_all))) (.cons (.le (by first | exact VLe.refl _ | exact VLe.mt | exact vle_q0 | exact VLe.int (by omega) | exact VLe.bool (by simp_all))) (.cons (.le (by first | exact VLe.refl _ | exact VLe.mt | exact vle_q0 | exact VLe.int (by omega) | exact VLe.bool (by simp_all))) .nil)))) (.cons (.le (by first | exact VLe.refl _ | exact VLe.mt | exact vle_q0 | exact VLe.int (by omega) | exact VLe.bool (by simp_all))) .nil), rfl⟩)
 ·have h0 : w.length ≠ 0 := fun e => of_decide_eq_false h0 (by omega)
  rw [show likF h w = likN h (fwdF h w (w.length - 1)) h.st from if_neg h0]
  have hfl := fwdF_len h w (w.length - 1)
  refine AW.skip ?_
  refine AW.sg hE rfl ?_
  refine bd z.Rat pl.Rat (cs := [_,_,_]) rfl ?_
  refine al z.Rat rfl fun b8 => ?_
  first | refine sto sz.Rat rfl rfl rfl rfl rfl (nb9 rfl) (cells2 := [_,_,_]) rfl ?_ | refine stE sz.Rat rfl (VC.d _).vd rfl rfl (by omega) rfl ?_
  refine OL.nil ?_
  refine AW.seq ?_
  refine AW.sg hE rfl ?_
  refine asD rfl ?_
  refine OL.nil ?_
  refine AW.block ?_
  refine AW.boxW 8 (cellsQ 0) rfl vles_q ?_
  refine AW.whileK (α := Nat) [(1, _), (2, _), (4, _), (5, _), (6, _), (8, _)] [(2, _), (4, _)] (fun i => [(9, .d (dI i))]) (fun i => [(8, .box b8 T.Rat (cellsQ (likN h (fwdF h w (w.length - 1)) i)))]) (fun i => i ≤ h.st) (fun i => h.st - i) 0 (by repeat (first | exact Knows.nil | refine Knows.cons (by first | exact knD rfl | exact knA rfl | exact knP rfl | exact knO rfl | exact knM rfl | exact knE rfl | exact knR rfl | exact knF rfl | exact knT rfl | exact knI rfl | exact knB rfl | exact knJ) ?_)) (by repeat (first | exact Owns.nil | refine Owns.cons (by first | exact owB rfl | exact owR rfl | exact owL rfl | exact owT rfl) ?_)) ⟨Nat.zero_le _, .cons (by first | exact VLe.refl _ | exact VLe.int (by omega) | exact VLe.mt | exact vle_q0 | exact VLe.osl | exact VLe.ptr) .nil, .cons rfl .nil⟩ ?_
  intro i h1
  have h1 : i ≤ h.st := h1
  have zl := fz.lik (w.length - 1) i (by omega) h1
  refine AW.seq ?_
  refine AW.sg hE rfl ?_
  refine mvD rfl ?_
  first | refine faP fd.Hidden_1 rfl rfl ?_ | refine faR fd.Hidden_1 rfl rfl ?_ | refine faE fd.Hidden_1 rfl rfl ?_
  first | refine ldRC ce.int rfl ?_ | refine ldPC ce.int rfl rfl rfl ?_
  refine c_lss rfl rfl rfl ?_
  refine OL.nil ?_
  refine AW.cond rfl (fun h29 => ?_) (fun h29 => ?_)
  ·try simp only [dx9] at h29
   refine AW.skip ?_
   refine AW.seq ?_
   refine AW.block ?_
   have zi := fz.fwd (w.length - 1) (by omega) i
   have zt := fz.stop i
   have zm := fz.likM (w.length - 1) i (by omega)
   refine AW.dg 1 [0,1,2,3,4,5,6,7,8,9,10,11,12,13,14,15,16,17] order_free hE rfl (by kernel_rfl) (OI.of_OL (os := [_,_,_,_,_,_,_,_,_,_,_,_,_,_,_,_,_,_]) rfl ?_)
   first | refine ldPA ag.Rat rfl rfl (vs := [_,_,_]) rfl (nb9 rfl) ?_ | refine ldRA ag.Rat rfl (vs := [_,_,_]) rfl (nb9 rfl) ?_
   first | refine mvD rfl ?_ | refine mvO rfl ?_ | refine mvM rfl ?_ | refine mvB rfl ?_
   first | refine mvD rfl ?_ | refine mvO rfl ?_ | refine mvM rfl ?_ | refine mvB rfl ?_
   first | refine lnL sl.ints rfl rfl ?_ | refine lnO sl.ints rfl rfl ?_ | refine lnM sl.ints rfl rfl ?_ | refine lnD sl.ints rfl rfl rfl ?_
   refine bo rfl rfl (bin_sub (c := ((w.length - 1 : Nat) : Int)) (by omega) (wrap_i64 (by omega))) ?_
   refine ixLn sl.Ratss [] rfl rfl (by rw [List.length_map, List.length_range]; omega) rfl rfl ?_
   first | refine ldRC ce.Rats rfl ?_ | refine ldPC ce.Rats rfl rfl rfl ?_
   rw [map_getD_range (fwdF h w) [] (show w.length - 1 < w.length by omega)]
   refine mvD rfl ?_
   refine ixLn sl.Rats 0 rfl rfl (by omega) rfl rfl ?_
   first | refine ldPA ag.Rat rfl rfl (vs := [_,_,_]) rfl (nb9 rfl) ?_ | refine ldRA ag.Rat rfl (vs := [_,_,_]) rfl (nb9 rfl) ?_
   first | refine faP fd.Hidden_5 rfl rfl ?_ | refine faR fd.Hidden_5 rfl rfl ?_ | refine faE fd.Hidden_5 rfl rfl ?_
   first | refine ldRC ce.Rats rfl ?_ | refine ldPC ce.Rats rfl rfl rfl ?_
   refine mvD rfl ?_
   refine ixLn sl.Rats 0 rfl rfl (by omega) rfl rfl ?_
   first | refine ldPA ag.Rat rfl rfl (vs := [_,_,_]) rfl (nb9 rfl) ?_ | refine ldRA ag.Rat rfl (vs := [_,_,_]) rfl (nb9 rfl) ?_
   refine clv rfl (.cons (VLe.refl _) (.cons (VLe.refl _) (.nil))) (ref_MulQ (x := (fwdF h w (w.length - 1)).getD i 0) (y := h.stop.getD i 0) (by omega) (by omega)) ?_
   refine clv rfl (.cons (VLe.refl _) (.cons (VLe.refl _) (.nil))) (ref_AddQ (x := likN h (fwdF h w (w.length - 1)) i) (y := (fwdF h w (w.length - 1)).getD i 0 * h.stop.getD i 0) (by omega) (by omega)) ?_
   rw [show likN h (fwdF h w (w.length - 1)) i + (fwdF h w (w.length - 1)).getD i 0 * h.stop.getD i 0 = likN h (fwdF h w (w.length - 1)) (i + 1) from rfl]
   first | refine sto sz.Rat rfl rfl rfl rfl rfl (nb9 rfl) (cells2 := [_,_,_]) rfl ?_ | refine stE sz.Rat rfl (VC.d _).vd rfl rfl (by omega) rfl ?_
   refine OL.nil ?_
   refine AW.rg hE rfl ?_
   refine mvD rfl ?_
   refine add_i64 rfl rfl (by omega) ?_
   refine asD rfl ?_
   refine OL.nil ?_
   exact AW.again (x := i) (i + 1) (by first | omega | (simp only []; omega)) ⟨by omega, Knows.app .rq6 (.cons (by first | exact VLe.refl _ | exact VLe.int (by omega) | exact VLe.mt | exact vle_q0 | exact VLe.osl | exact VLe.ptr) .nil), Owns.app (.cons rfl (.cons rfl .nil)) (.cons rfl .nil)⟩
  ·try simp only [dx9] at h29
   refine AW.exit ?_
   refine AW.seq ?_
   obtain rfl : i = h.st := by omega
   refine AW.rg hE rfl ?_
   first | refine ldPA ag.Rat rfl rfl (vs := [_,_,_]) rfl (nb9 rfl) ?_ | refine ldRA ag.Rat rfl (vs := [_,_,_]) rfl (nb9 rfl) ?_
   first | refine sto sz.Rat rfl rfl rfl rfl rfl (nb9 rfl) (cells2 := [_,_,_]) rfl ?_ | refine stE sz.Rat rfl (VC.d _).vd rfl rfl (by omega) rfl ?_
   refine asD rfl ?_
   refine OL.nil ?_
   exact AW.ret (RetQ.r ⟨_, .cellA rfl rfl ag.Rat (nb9 rfl) (.tmp rfl .nil), _, .cons (.ag (.cons (.le (by first | exact VLe.refl _ | exact VLe.mt | exact vle_q0 | exact VLe.int (by omega) | exact VLe.bool (by simp_all))) (.cons (.le (by first | exact VLe.refl _ | exact VLe.mt | exact vle_q0 | exact VLe.int (by omega) | exact VLe.bool (by simp_all))) (.cons (.le (by first | exact VLe.refl _ | exact VLe.mt | exact vle_q0 | exact VLe.int (by omega) | exact VLe.bool (by simp_all))) .nil)))) (.cons (.le (by first | exact VLe.refl _ | exact VLe.mt | exact vle_q0 | exact VLe.int (by omega) | exact VLe.bool (by simp_all))) .nil), rfl⟩)
end Go.Proofs.YtonndaibggjmjaaGreat

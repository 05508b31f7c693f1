/-
  Walks of package forward, part 1: beginnings and ends of words (printed by mk2.py).
-/
import Derived.Test.YtonndaibggjmjaaGreatKFresh
import Derived.Test.YtonndaibggjmjaaGreatKAlg26
import Derived.Test.YtonndaibggjmjaaGreatKMod34
set_option linter.unusedVariables false
set_option linter.unusedSimpArgs false
namespace Go.Proofs.YtonndaibggjmjaaGreat
open Go Go.AL
theorem forward_refuseW {h : HM} {B : Nat} {w : List Int} (g : h.GoodW B) (k : WordOK h w) : FSpec P F.forward_refuse [vHM h, .d (ints w)] (.d (dI 0)) := by
 have s0 := g.form.sym0
 have s1 := g.form.sym1
 refine FSpec.intro fn.forward_refuse (by rfl) (by rfl) (nb9 (by rfl)) fun E hE => ?_
 refine AW.sg hE rfl ?_
 first | refine bxA rfl rfl fun b2 => ?_ | refine bxD rfl rfl fun b2 => ?_
 refine asD rfl ?_
 refine OL.nil ?_
 refine AW.seq ?_
 refine AW.sg hE rfl ?_
 first | refine ldPA ag.Hidden rfl rfl (vs := [_,_,_,_,_,_,_,_,_,_,_]) rfl (nb9 rfl) ?_ | refine ldRA ag.Hidden rfl (vs := [_,_,_,_,_,_,_,_,_,_,_]) rfl (nb9 rfl) ?_
 refine clv rfl (.cons (by first | exact VLe.refl _ | exact VLe.mt | exact vle_q0 | exact VLe.ptr) .nil) (hmm_Valid_okW (by assumption)) ?_
 refine asD rfl ?_
 refine OL.nil ?_
 refine AW.sg hE rfl ?_
 refine mvD rfl ?_
 refine c_neq rfl rfl (c := false) (by first | exact decide_eq_true (by omega) | exact decide_eq_false (by omega) | exact cne_f (by omega) | exact cne_t (by omega) | rfl) ?_
 refine OL.nil ?_
 refine AW.cond rfl (fun hno => absurd hno (by decide)) (fun _ => ?_)
 refine AW.skip ?_
 refine AW.seq ?_
 refine AW.sg hE rfl ?_
 first | refine ldPA ag.Hidden rfl rfl (vs := [_,_,_,_,_,_,_,_,_,_,_]) rfl (nb9 rfl) ?_ | refine ldRA ag.Hidden rfl (vs := [_,_,_,_,_,_,_,_,_,_,_]) rfl (nb9 rfl) ?_
 refine clv rfl (.cons (by first | exact VLe.refl _ | exact VLe.mt | exact vle_q0 | exact VLe.ptr) .nil) (hmm_Plain_okW (by assumption)) ?_
 refine nt rfl ?_
 refine OL.nil ?_
 refine AW.cond rfl (fun hno => absurd hno (by decide)) (fun _ => ?_)
 refine AW.skip ?_
 refine AW.seq ?_
 refine AW.sg hE rfl ?_
 first | refine mvD rfl ?_ | refine mvO rfl ?_ | refine mvM rfl ?_ | refine mvB rfl ?_
 first | refine faP fd.Hidden_0 rfl rfl ?_ | refine faR fd.Hidden_0 rfl rfl ?_ | refine faE fd.Hidden_0 rfl rfl ?_
 first | refine ldRC ce.int rfl ?_ | refine ldPC ce.int rfl rfl rfl ?_
 refine clv rfl (.cons (VLe.refl _) (.cons (VLe.refl _) (.nil))) (words_Valid k ⟨s0, s1⟩) ?_
 refine nt rfl ?_
 refine OL.nil ?_
 refine AW.cond rfl (fun hno => absurd hno (by decide)) (fun _ => ?_)
 refine AW.skip ?_
 refine AW.sg hE rfl ?_
 refine asD rfl ?_
 refine OL.nil ?_
 exact AW.ret (RetQ.r ⟨_, .tmp rfl .nil, .le (by first | exact VLe.refl _ | exact VLe.mt | exact vle_q0 | exact VLe.int (by omega) | exact VLe.bool (by simp_all))⟩)
theorem forward_refuse {h : HM} {B : Nat} {w : List Int} (g : h.Good B) (k : WordOK h w) : FSpec P F.forward_refuse [vHM h, .d (ints w)] (.d (dI 0)) := forward_refuseW g.w k
set_option maxRecDepth 4000 in
set_option maxHeartbeats 1600000 in
theorem fwd_forwardS {h : HM} {b B : Nat} {w : List Int} (f : HM.FormX b B h) (k : WordOK h w) (fz : FwdSz h w) : FSpecX P F.forward_forward [vHM h, .d (ints w)] w.length T.Rats T.Rat 3 (rowsD h w w.length) := by
 have n0 := f.st0
 have n1 := f.st1
 have s1 := f.sym1
 have e1 := f.ini
 have e2 := f.trans
 have e3 := f.stop
 have e4 := f.emit
 have k1 := k.1
 refine FSpecX.intro fn.forward_forward (by rfl) (by rfl) (nb9 (by rfl)) 4 (by rfl) fun E hE => ?_
 refine AW.sg hE rfl ?_
 first | refine bxA rfl rfl fun b2 => ?_ | refine bxD rfl rfl fun b2 => ?_
 refine asM rfl ?_
 refine OL.nil ?_
 refine AW.sg hE rfl ?_
 refine asM rfl ?_
 refine OL.nil ?_
 refine AW.seq ?_
 refine AW.sg hE rfl ?_
 first | refine mvD rfl ?_ | refine mvO rfl ?_ | refine mvM rfl ?_ | refine mvB rfl ?_
 first | refine lnL sl.ints rfl rfl ?_ | refine lnO sl.ints rfl rfl ?_ | refine lnM sl.ints rfl rfl ?_ | refine lnD sl.ints rfl rfl rfl ?_
 refine mvD rfl ?_
 refine OL.nil ?_
 refine AW.block ?_
 refine AW.own 5 78 T.Rats 1 rfl rfl ?_
 refine AW.pool0 2000 T.Rat 3 rfl ?_
 refine AW.whileK (α := Nat × Nat × Nat × List (Nat × List D)) [(2, _), (4, _), (13, _), (14, _)] [(2, _)] (fun (t, p, c, rs) => [(5, .osl 78 p t c), (15, .d (dI t))]) (fun (t, p, c, rs) => [(78, .row p c T.Rats 1 (rs.map hdP)), (2000, .pool T.Rat 3 rs)]) (fun (t, p, c, rs) => t ≤ w.length ∧ rs.map Prod.snd = rowsD h w t) (fun (t, p, c, rs) => w.length - t) (0, 0, 0, []) (by repeat (first | exact Knows.nil | refine Knows.cons (by first | exact knD rfl | exact knA rfl | exact knP rfl | exact knO rfl | exact knM rfl | exact knE rfl | exact knR rfl | exact knF rfl | exact knT rfl | exact knI rfl | exact knB rfl | exact knJ) ?_)) (.cons (by first | exact owB rfl | exact owR rfl | exact owL rfl | exact owT rfl) .nil) ⟨⟨Nat.zero_le _, rfl⟩, .cons (by first | exact VLe.refl _ | exact VLe.int (by omega) | exact VLe.mt | exact vle_q0 | exact VLe.osl | exact VLe.ptr) (.cons (by first | exact VLe.refl _ | exact VLe.int (by omega) | exact VLe.mt | exact vle_q0 | exact VLe.osl | exact VLe.ptr) .nil), .cons rfl (.cons rfl .nil)⟩ ?_
 rintro ⟨t, p, c, rs⟩ ⟨h1, hrs⟩
 have h1 : t ≤ w.length := h1
 have hrs : rs.map Prod.snd = rowsD h w t := hrs
 have hrl : rs.length = t := (snd_len hrs).trans (rowsD_len h w t)
 refine AW.sg hE rfl ?_
 refine c_lss rfl rfl rfl ?_
 refine OL.nil ?_
 refine AW.seq ?_
 refine AW.cond rfl (fun h16 => ?_) (fun h16 => ?_)
 ·try simp only [dx9] at h16
  refine AW.skip ?_
  refine AW.seq ?_
  refine AW.block ?_
  refine AW.seq ?_
  have hx := k.symX (t := t) (by omega)
  refine AW.rg hE rfl ?_
  refine mvD rfl ?_
  first | refine ixO sl.ints rfl rfl (by omega) (by omega) rfl ?_ | refine ixLn sl.ints 0 rfl rfl (by omega) rfl rfl ?_ | refine ixL sl.ints 0 rfl rfl (by omega) (by omega) rfl rfl ?_
  first | refine ldRC ce.int rfl ?_ | refine ldPC ce.int rfl rfl rfl ?_
  rw [hx.2]
  refine asD rfl ?_
  refine asD rfl ?_
  refine OL.nil ?_
  refine AW.sg hE rfl ?_
  first | refine faP fd.Hidden_1 rfl rfl ?_ | refine faR fd.Hidden_1 rfl rfl ?_ | refine faE fd.Hidden_1 rfl rfl ?_
  first | refine ldRC ce.int rfl ?_ | refine ldPC ce.int rfl rfl rfl ?_
  refine mkL dQ 0 sl.Rats z.Rat vcs_q0 rfl rfl (Nat.le_refl _) (by omega) (by omega) rfl fun b22 => ?_
  first | refine asD rfl ?_ | refine asO rfl ?_ | refine asM rfl ?_ | refine asB rfl ?_
  refine OL.nil ?_
  refine AW.seq ?_
  refine AW.sg hE rfl ?_
  first | refine mvD rfl ?_ | refine mvO rfl ?_ | refine mvM rfl ?_ | refine mvB rfl ?_
  first | refine lnL sl.Rats rfl rfl ?_ | refine lnO sl.Rats rfl rfl ?_ | refine lnM sl.Rats rfl rfl ?_ | refine lnD sl.Rats rfl rfl rfl ?_
  refine mvD rfl ?_
  refine OL.nil ?_
  refine AW.block ?_
  refine AW.whileK (α := Nat) [(2, _), (4, _), (5, _), (6, _), (7, _), (8, _), (13, _), (14, _), (15, _), (24, _)] [(2, _), (78, _), (2000, _)] (fun j => [(25, .d (dI j))]) (fun j => [(22, .row b22 h.st T.Rat 3 ((fillF 0 (fun j => (fwdF h w t).getD j 0) h.st j).map dQ))]) (fun j => j ≤ h.st) (fun j => h.st - j) 0 (by repeat (first | exact Knows.nil | refine Knows.cons (by first | exact knD rfl | exact knA rfl | exact knP rfl | exact knO rfl | exact knM rfl | exact knE rfl | exact knR rfl | exact knF rfl | exact knT rfl | exact knI rfl | exact knB rfl | exact knJ) ?_)) (by repeat (first | exact Owns.nil | refine Owns.cons (by first | exact owB rfl | exact owR rfl | exact owL rfl | exact owT rfl) ?_)) ⟨Nat.zero_le _, .cons (by first | exact VLe.refl _ | exact VLe.int (by omega) | exact VLe.mt | exact vle_q0 | exact VLe.osl | exact VLe.ptr) .nil, .cons (by rw [fillF_zero]; rfl) .nil⟩ ?_
  intro j h2
  have h2 : j ≤ h.st := h2
  have hfl := fillF_len 0 (fun j => (fwdF h w t).getD j 0) h.st j
  refine AW.sg hE rfl ?_
  refine c_lss rfl rfl rfl ?_
  refine OL.nil ?_
  refine AW.seq ?_
  refine AW.cond rfl (fun h26 => ?_) (fun h26 => ?_)
  ·try simp only [dx9] at h26
   refine AW.skip ?_
   refine AW.seq ?_
   refine AW.block ?_
   refine AW.sg hE rfl ?_
   refine mvD rfl ?_
   refine asD rfl ?_
   refine OL.nil ?_
   refine AW.seq ?_
   have hej := f.erow j (by omega)
   have zi := fz.ini j
   have ze : sz ((h.emit.getD j []).getD (symX w t) 0) ≤ 68719476736 := fz.em j (symX w t)
   refine AW.rg hE rfl ?_
   refine bd z.Rat pl.Rat (cs := [_,_,_]) rfl ?_
   refine al z.Rat rfl fun b10 => ?_
   first | refine sto sz.Rat rfl rfl rfl rfl rfl (nb9 rfl) (cells2 := [_,_,_]) rfl ?_ | refine stE sz.Rat rfl (VC.d _).vd rfl rfl (by omega) rfl ?_
   refine OL.nil ?_
   refine AW.seq ?_
   refine AW.sg hE rfl ?_
   refine mvD rfl ?_
   refine c_eql rfl rfl rfl ?_
   refine OL.nil ?_
   refine AW.cond rfl (fun ht0 => ?_) (fun ht0 => ?_)
   ·have ht0 : t = 0 := by have := of_decide_eq_true ht0; omega
    have hval : (fwdF h w t).getD j 0 = h.ini.getD j 0 * (h.emit.getD j []).getD (symX w t) 0 := by rw [ht0]; exact fwd_zero (by omega)
    refine AW.rg hE rfl ?_
    first | refine faP fd.Hidden_3 rfl rfl ?_ | refine faR fd.Hidden_3 rfl rfl ?_ | refine faE fd.Hidden_3 rfl rfl ?_
    first | refine ldRC ce.Rats rfl ?_ | refine ldPC ce.Rats rfl rfl rfl ?_
    refine mvD rfl ?_
    first | refine ixO sl.Rats rfl rfl (by omega) (by omega) rfl ?_ | refine ixLn sl.Rats 0 rfl rfl (by omega) rfl rfl ?_ | refine ixL sl.Rats 0 rfl rfl (by omega) (by omega) rfl rfl ?_
    first | refine ldPA ag.Rat rfl rfl (vs := [_,_,_]) rfl (nb9 rfl) ?_ | refine ldRA ag.Rat rfl (vs := [_,_,_]) rfl (nb9 rfl) ?_
    first | refine sto sz.Rat rfl rfl rfl rfl rfl (nb9 rfl) (cells2 := [_,_,_]) rfl ?_ | refine stE sz.Rat rfl (VC.d _).vd rfl rfl (by omega) rfl ?_
    refine OL.nil ?_
    first | (refine AW.back 2001 2000 (t - 1) rs rfl rfl rfl (by omega) (by rw [hpl]) (rs2 := rs) (set_same hbp).symm ?_; obtain rfl : i = h.st := (by omega); have zs := zpq h.st (Nat.le_refl _)) | skip
    refine AW.dg 1 [0,1,2,3,4,5,6,7,8,9,10,11,12,13,14] order_free hE rfl (by kernel_rfl) (OI.of_OL (os := [_,_,_,_,_,_,_,_,_,_,_,_,_,_,_]) rfl ?_)
    first | refine mvD rfl ?_ | refine mvO rfl ?_ | refine mvM rfl ?_ | refine mvB rfl ?_
    refine mvD rfl ?_
    first | refine ldPA ag.Rat rfl rfl (vs := [_,_,_]) rfl (nb9 rfl) ?_ | refine ldRA ag.Rat rfl (vs := [_,_,_]) rfl (nb9 rfl) ?_
    first | refine faP fd.Hidden_6 rfl rfl ?_ | refine faR fd.Hidden_6 rfl rfl ?_ | refine faE fd.Hidden_6 rfl rfl ?_
    first | refine ldRC ce.Ratss rfl ?_ | refine ldPC ce.Ratss rfl rfl rfl ?_
    refine mvD rfl ?_
    first | refine ixO sl.Ratss rfl rfl (by omega) (by omega) rfl ?_ | refine ixLn sl.Ratss [] rfl rfl (by omega) rfl rfl ?_ | refine ixL sl.Ratss [] rfl rfl (by omega) (by omega) rfl rfl ?_
    first | refine ldRC ce.Rats rfl ?_ | refine ldPC ce.Rats rfl rfl rfl ?_
    refine mvD rfl ?_
    refine bo rfl rfl (bin_sub (c := (symX w t : Int)) (by omega) (wrap_i64 (by omega))) ?_
    first | refine ixO sl.Rats rfl rfl (by omega) (by omega) rfl ?_ | refine ixLn sl.Rats 0 rfl rfl (by omega) rfl rfl ?_ | refine ixL sl.Rats 0 rfl rfl (by omega) (by omega) rfl rfl ?_
    first | refine ldPA ag.Rat rfl rfl (vs := [_,_,_]) rfl (nb9 rfl) ?_ | refine ldRA ag.Rat rfl (vs := [_,_,_]) rfl (nb9 rfl) ?_
    refine clv rfl (.cons (by first | exact VLe.refl _ | exact VLe.mt | exact vle_q0 | exact VLe.ptr) (.cons (by first | exact VLe.refl _ | exact VLe.mt | exact vle_q0 | exact VLe.ptr) .nil)) (rational_MulQ (by first | assumption | omega) (by first | assumption | omega)) ?_
    refine ixOn sl.Rats rfl rfl (by omega) ?_
    refine stE sz.Rat rfl vd_q rfl rfl (by rw [List.length_map]; omega) (es2 := (fillF 0 (fun j => (fwdF h w t).getD j 0) h.st (j + 1)).map dQ) (by rw [← fillF_set (show j < h.st by omega), List.map_set, hval]) ?_
    refine OL.nil ?_
    refine AW.rg hE rfl ?_
    refine add_i64 rfl rfl (by omega) ?_
    refine mvD rfl ?_
    refine OL.nil ?_
    exact AW.again (x := j) (j + 1) (by first | omega | (simp only []; omega)) ⟨by omega, Knows.app .rq10 (.cons (by first | exact VLe.refl _ | exact VLe.int (by omega) | exact VLe.mt | exact vle_q0 | exact VLe.osl | exact VLe.ptr) .nil), Owns.app (.cons rfl (.cons rfl (.cons rfl .nil))) (.cons rfl .nil)⟩
   ·have ht0 : 0 < t := by have := of_decide_eq_false ht0; omega
    have hval : (fwdF h w t).getD j 0 = preF h w (fwdF h w (t - 1)) (t - 1) j h.st * (h.emit.getD j []).getD (symX w t) 0 := fwd_pos ht0 (by omega)
    have zp := fz.fwd (t - 1) (by omega)
    obtain ⟨bp, hbp⟩ := snd_get hrs (rowsD_get (h := h) (w := w) (show t - 1 < t by omega))
    have hpl : ((fwdF h w (t - 1)).map dQ).length = h.st := by rw [List.length_map, fwdF_len]
    have hpl2 := fwdF_len h w (t - 1)
    have zpq := fun i => fz.pre (t - 1) j i (by omega)
    refine AW.seq ?_
    refine AW.takeN 2001 2000 (t - 1) h.st rfl rfl hbp hpl ?_
    have hel : (rs.map hdP)[t - 1]? = some (hdP (bp, ((fwdF h w (t - 1)).map dQ))) := by rw [List.getElem?_map, hbp]; rfl
    refine AW.rg hE rfl ?_
    first | refine mvD rfl ?_ | refine mvO rfl ?_ | refine mvM rfl ?_ | refine mvB rfl ?_
    refine mvD rfl ?_
    refine sub_i64 rfl rfl (by omega) ?_
    refine ixO sl.Ratss rfl rfl (by omega) (by omega) (i := t - 1) (by omega) ?_
    refine ldLe (.rowC (by decide) rfl rfl hel ce.Rats rfl) (vle_hdP 2001 hpl) ?_
    first | refine lnL sl.Rats rfl rfl ?_ | refine lnO sl.Rats rfl rfl ?_ | refine lnM sl.Rats rfl rfl ?_ | refine lnD sl.Rats rfl rfl rfl ?_
    refine mvD rfl ?_
    refine OL.nil ?_
    refine AW.block ?_
    refine AW.boxW 10 (cellsQ 0) rfl vles_q ?_
    refine AW.whileK (α := Nat) [(2, _), (4, _), (5, _), (6, _), (7, _), (8, _), (9, _), (10, _), (13, _), (14, _), (15, _), (24, _), (25, _), (40, _), (41, _)] [(2, _), (22, _), (78, _)] (fun i => [(42, .d (dI i))]) (fun i => [(10, .box b10 T.Rat (cellsQ (preF h w (fwdF h w (t - 1)) (t - 1) j i))), (2001, .row bp h.st T.Rat 3 ((fwdF h w (t - 1)).map dQ)), (2000, .pool T.Rat 3 (rs.set (t - 1) (bp, [])))]) (fun i => i ≤ h.st) (fun i => h.st - i) 0 (by repeat (first | exact Knows.nil | refine Knows.cons (by first | exact knD rfl | exact knA rfl | exact knP rfl | exact knO rfl | exact knM rfl | exact knE rfl | exact knR rfl | exact knF rfl | exact knT rfl | exact knI rfl | exact knB rfl | exact knJ) ?_)) (by repeat (first | exact Owns.nil | refine Owns.cons (by first | exact owB rfl | exact owR rfl | exact owL rfl | exact owT rfl) ?_)) ⟨Nat.zero_le _, .cons (by first | exact VLe.refl _ | exact VLe.int (by omega) | exact VLe.mt | exact vle_q0 | exact VLe.osl | exact VLe.ptr) .nil, .cons rfl (.cons rfl (.cons rfl .nil))⟩ ?_
    intro i h3
    have h3 : i ≤ h.st := h3
    have zs := zpq i (by omega)
    refine AW.sg hE rfl ?_
    refine c_lss rfl rfl rfl ?_
    refine OL.nil ?_
    refine AW.seq ?_
    refine AW.cond rfl (fun h43 => ?_) (fun h43 => ?_)
    ·try simp only [dx9] at h43
     refine AW.skip ?_
     refine AW.seq ?_
     refine AW.block ?_
     refine AW.sg hE rfl ?_
     refine mvD rfl ?_
     refine ixOn sl.Rats rfl rfl (by omega) ?_
     refine ldEAL ag.Rat 0 (by decide) rfl rfl (by omega) (vs := [_,_,_]) rfl (nb9 rfl) ?_
     refine al z.Rat rfl fun b12 => ?_
     refine asD rfl ?_
     first | refine sto sz.Rat rfl rfl rfl rfl rfl (nb9 rfl) (cells2 := [_,_,_]) rfl ?_ | refine stE sz.Rat rfl (VC.d _).vd rfl rfl (by omega) rfl ?_
     refine OL.nil ?_
     have trj := f.trow i (by omega)
     have zt : sz ((h.trans.getD i []).getD j 0) ≤ 68719476736 := fz.tr i j
     have zpi := zp i
     have zm : sz ((fwdF h w (t - 1)).getD i 0 * (h.trans.getD i []).getD j 0) ≤ 68719476736 := fz.preM (t - 1) i j (by omega)
     refine AW.dg 1 [0,1,2,3,4,5,6,7,8,9,10,11,12] order_free hE rfl (by kernel_rfl) (OI.of_OL (os := [_,_,_,_,_,_,_,_,_,_,_,_,_]) rfl ?_)
     first | refine ldPA ag.Rat rfl rfl (vs := [_,_,_]) rfl (nb9 rfl) ?_ | refine ldRA ag.Rat rfl (vs := [_,_,_]) rfl (nb9 rfl) ?_
     first | refine ldPA ag.Rat rfl rfl (vs := [_,_,_]) rfl (nb9 rfl) ?_ | refine ldRA ag.Rat rfl (vs := [_,_,_]) rfl (nb9 rfl) ?_
     first | refine faP fd.Hidden_4 rfl rfl ?_ | refine faR fd.Hidden_4 rfl rfl ?_ | refine faE fd.Hidden_4 rfl rfl ?_
     first | refine ldRC ce.Ratss rfl ?_ | refine ldPC ce.Ratss rfl rfl rfl ?_
     refine mvD rfl ?_
     first | refine ixO sl.Ratss rfl rfl (by omega) (by omega) rfl ?_ | refine ixLn sl.Ratss [] rfl rfl (by omega) rfl rfl ?_ | refine ixL sl.Ratss [] rfl rfl (by omega) (by omega) rfl rfl ?_
     first | refine ldRC ce.Rats rfl ?_ | refine ldPC ce.Rats rfl rfl rfl ?_
     refine mvD rfl ?_
     first | refine ixO sl.Rats rfl rfl (by omega) (by omega) rfl ?_ | refine ixLn sl.Rats 0 rfl rfl (by omega) rfl rfl ?_ | refine ixL sl.Rats 0 rfl rfl (by omega) (by omega) rfl rfl ?_
     first | refine ldPA ag.Rat rfl rfl (vs := [_,_,_]) rfl (nb9 rfl) ?_ | refine ldRA ag.Rat rfl (vs := [_,_,_]) rfl (nb9 rfl) ?_
     refine clv rfl (.cons (by first | exact VLe.refl _ | exact VLe.mt | exact vle_q0 | exact VLe.ptr) (.cons (by first | exact VLe.refl _ | exact VLe.mt | exact vle_q0 | exact VLe.ptr) .nil)) (rational_MulQ (by first | assumption | omega) (by first | assumption | omega)) ?_
     refine clv rfl (.cons (by first | exact VLe.refl _ | exact VLe.mt | exact vle_q0 | exact VLe.ptr) (.cons (by first | exact VLe.refl _ | exact VLe.mt | exact vle_q0 | exact VLe.ptr) .nil)) (rational_AddQ (by first | assumption | omega) (by first | assumption | omega)) ?_
     rw [show preF h w (fwdF h w (t - 1)) (t - 1) j i + (fwdF h w (t - 1)).getD i 0 * (h.trans.getD i []).getD j 0 = preF h w (fwdF h w (t - 1)) (t - 1) j (i + 1) from rfl]
     first | refine sto sz.Rat rfl rfl rfl rfl rfl (nb9 rfl) (cells2 := [_,_,_]) rfl ?_ | refine stE sz.Rat rfl (VC.d _).vd rfl rfl (by omega) rfl ?_
     refine OL.nil ?_
     refine AW.rg hE rfl ?_
     refine add_i64 rfl rfl (by omega) ?_
     refine mvD rfl ?_
     refine OL.nil ?_
     exact AW.again (x := i) (i + 1) (by first | omega | (simp only []; omega)) ⟨by omega, Knows.app .rq15 (.cons (by first | exact VLe.refl _ | exact VLe.int (by omega) | exact VLe.mt | exact vle_q0 | exact VLe.osl | exact VLe.ptr) .nil), Owns.app (.cons rfl (.cons rfl (.cons rfl .nil))) (.cons rfl (.cons rfl (.cons rfl .nil)))⟩
    ·try simp only [dx9] at h43
     refine AW.exit ?_
     first | (refine AW.back 2001 2000 (t - 1) rs rfl rfl rfl (by omega) (by rw [hpl]) (rs2 := rs) (set_same hbp).symm ?_; obtain rfl : i = h.st := (by omega); have zs := zpq h.st (Nat.le_refl _)) | skip
     refine AW.dg 1 [0,1,2,3,4,5,6,7,8,9,10,11,12,13,14] order_free hE rfl (by kernel_rfl) (OI.of_OL (os := [_,_,_,_,_,_,_,_,_,_,_,_,_,_,_]) rfl ?_)
     first | refine mvD rfl ?_ | refine mvO rfl ?_ | refine mvM rfl ?_ | refine mvB rfl ?_
     refine mvD rfl ?_
     first | refine ldPA ag.Rat rfl rfl (vs := [_,_,_]) rfl (nb9 rfl) ?_ | refine ldRA ag.Rat rfl (vs := [_,_,_]) rfl (nb9 rfl) ?_
     first | refine faP fd.Hidden_6 rfl rfl ?_ | refine faR fd.Hidden_6 rfl rfl ?_ | refine faE fd.Hidden_6 rfl rfl ?_
     first | refine ldRC ce.Ratss rfl ?_ | refine ldPC ce.Ratss rfl rfl rfl ?_
     refine mvD rfl ?_
     first | refine ixO sl.Ratss rfl rfl (by omega) (by omega) rfl ?_ | refine ixLn sl.Ratss [] rfl rfl (by omega) rfl rfl ?_ | refine ixL sl.Ratss [] rfl rfl (by omega) (by omega) rfl rfl ?_
     first | refine ldRC ce.Rats rfl ?_ | refine ldPC ce.Rats rfl rfl rfl ?_
     refine mvD rfl ?_
     refine bo rfl rfl (bin_sub (c := (symX w t : Int)) (by omega) (wrap_i64 (by omega))) ?_
     first | refine ixO sl.Rats rfl rfl (by omega) (by omega) rfl ?_ | refine ixLn sl.Rats 0 rfl rfl (by omega) rfl rfl ?_ | refine ixL sl.Rats 0 rfl rfl (by omega) (by omega) rfl rfl ?_
     first | refine ldPA ag.Rat rfl rfl (vs := [_,_,_]) rfl (nb9 rfl) ?_ | refine ldRA ag.Rat rfl (vs := [_,_,_]) rfl (nb9 rfl) ?_
     refine clv rfl (.cons (by first | exact VLe.refl _ | exact VLe.mt | exact vle_q0 | exact VLe.ptr) (.cons (by first | exact VLe.refl _ | exact VLe.mt | exact vle_q0 | exact VLe.ptr) .nil)) (rational_MulQ (by first | assumption | omega) (by first | assumption | omega)) ?_
     refine ixOn sl.Rats rfl rfl (by omega) ?_
     refine stE sz.Rat rfl vd_q rfl rfl (by rw [List.length_map]; omega) (es2 := (fillF 0 (fun j => (fwdF h w t).getD j 0) h.st (j + 1)).map dQ) (by rw [← fillF_set (show j < h.st by omega), List.map_set, hval]) ?_
     refine OL.nil ?_
     refine AW.rg hE rfl ?_
     refine add_i64 rfl rfl (by omega) ?_
     refine mvD rfl ?_
     refine OL.nil ?_
     exact AW.again (x := j) (j + 1) (by first | omega | (simp only []; omega)) ⟨by omega, Knows.app .rq10 (.cons (by first | exact VLe.refl _ | exact VLe.int (by omega) | exact VLe.mt | exact vle_q0 | exact VLe.osl | exact VLe.ptr) .nil), Owns.app (.cons rfl (.cons rfl (.cons rfl .nil))) (.cons rfl .nil)⟩
  ·try simp only [dx9] at h26
   refine AW.exit ?_
   obtain rfl : j = h.st := by omega
   refine AW.rg hE rfl ?_
   first | refine mvD rfl ?_ | refine mvO rfl ?_ | refine mvM rfl ?_ | refine mvB rfl ?_
   first | refine mvD rfl ?_ | refine mvO rfl ?_ | refine mvM rfl ?_ | refine mvB rfl ?_
   refine lt1 (y := hdC b22 h.st h.st) sl.Ratss (vd_head (by omega)) rfl (by decide) ?_
   refine apO sl.Ratss rfl rfl rfl (by rw [List.length_map, hrl]) (VC.d _) (by intro y hy; rw [List.mem_singleton.1 hy]; rfl) (by simp; omega) (by simp; omega) (.inr rfl) (ys := (rs ++ [(b22, ((fillF 0 (fun j => (fwdF h w t).getD j 0) h.st h.st).map dQ))]).map hdP) (by rw [List.map_append, List.map_singleton, hdP_eq (show ((fillF 0 (fun j => (fwdF h w t).getD j 0) h.st h.st).map dQ).length = h.st by rw [List.length_map, hfl])]) (n2 := t + 1) (by simp) fun p2 c2 => ?_
   first | refine asD rfl ?_ | refine asO rfl ?_ | refine asM rfl ?_ | refine asB rfl ?_
   refine OL.nil ?_
   refine AW.giveEnd 22 2000 rfl rfl (by rw [List.length_map, hfl]) ?_
   refine AW.rg hE rfl ?_
   refine add_i64 rfl rfl (by omega) ?_
   refine mvD rfl ?_
   refine OL.nil ?_
   exact AW.again (x := (t, p, c, rs)) (t + 1, p2, c2, rs ++ [(b22, ((fillF 0 (fun j => (fwdF h w t).getD j 0) h.st h.st).map dQ))]) (by first | omega | (simp only []; omega)) ⟨⟨by omega, by rw [List.map_append, hrs, rowsD_succ, fill_row (fwdF_len h w t)]; rfl⟩, Knows.app .rq4 (.cons (by first | exact VLe.refl _ | exact VLe.int (by omega) | exact VLe.mt | exact vle_q0 | exact VLe.osl | exact VLe.ptr) (.cons (by first | exact VLe.refl _ | exact VLe.int (by omega) | exact VLe.mt | exact vle_q0 | exact VLe.osl | exact VLe.ptr) .nil)), Owns.app (.cons rfl .nil) (.cons rfl (.cons rfl .nil))⟩
 ·try simp only [dx9] at h16
  refine AW.exit ?_
  refine AW.seq ?_
  obtain rfl : t = w.length := by omega
  refine AW.rg hE rfl ?_
  first | refine mvD rfl ?_ | refine mvO rfl ?_ | refine mvM rfl ?_ | refine mvB rfl ?_
  first | refine asD rfl ?_ | refine asO rfl ?_ | refine asM rfl ?_ | refine asB rfl ?_
  refine OL.nil ?_
  exact AW.ret ⟨.inr rfl, 78, 2000, p, c, rs, rfl, rfl, rfl, by decide, hrs⟩
theorem fwd_forwardD {h : HM} {b B : Nat} {w : List Int} (f : HM.FormX b B h) (k : WordOK h w) (fz : FwdSz h w) : FSpec P F.forward_forward [vHM h, .d (ints w)] (.d (dQss ((List.range w.length).map (fwdF h w)))) := by
 have h1 := (fwd_forwardS f k fz).data (rowsD_len h w w.length).symm
 have e : (rowsD h w w.length).map D.sl = ((List.range w.length).map (fwdF h w)).map dQs := by
  unfold rowsD
  rw [List.map_map, List.map_map]; rfl
 rw [e] at h1
 exact h1
end Go.Proofs.YtonndaibggjmjaaGreat

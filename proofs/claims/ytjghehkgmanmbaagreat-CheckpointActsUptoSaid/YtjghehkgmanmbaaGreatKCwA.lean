/-
  Walks of package checkpoint on any input (printed by mk2.py).
-/
import Derived.Test.YtjghehkgmanmbaaGreatKMod46
set_option linter.unusedVariables false
set_option linter.unusedSimpArgs false
namespace Go.Proofs.YtjghehkgmanmbaaGreat
open Go Go.AL
theorem vcs_mt_row : VCs [.mt] (dQs []).cells := .cons VC.mt .nil
theorem fresh_Rat {q : Rat} (hz : sz q ≤ 68719476736) : FSpec P F.fresh_Rat [vQ q] (vQ q) := by
 have s1 := sz_num q
 have s2 := sz_den q
 have l1 : (ofQ q).num.length ≤ 8796093022208 := by rw [show (ofQ q).num = lim q.num.natAbs from rfl]; omega
 have l2 : (ofQ q).den.length ≤ 8796093022208 := by by_cases e : q.den = 1 <;> simp [ofQ, e]; omega
 refine FSpec.intro fn.fresh_Rat (by rfl) (by rfl) (nb9 (by rfl)) fun E hE => (AW.sg hE rfl (bxA rfl rfl fun b1 => (al z.Rat rfl fun b2 => (OL.nil (AW.seq (AW.dg 1 [0,1,2,3,4,5,6,7,8,9] order_free hE rfl (by kernel_rfl) (OI.of_OL (os := [_,_,_,_,_,_,_,_,_,_]) rfl ?_)))))))
 refine faP fd.Rat_0 rfl rfl (ldPC ce.bool rfl rfl rfl (faP fd.Rat_1 rfl rfl (ldPC ce.u32s rfl rfl rfl (clv rfl (.cons (VLe.refl _) .nil) (clone_u32s l1) (faP fd.Rat_2 rfl rfl (ldPC ce.u32s rfl rfl rfl (clv rfl (.cons (VLe.refl _) .nil) (clone_u32s l2) ?_)))))))
 exact bd2 (cs := [_,_,_]) z.Rat pl.Rat (pvC (by exact evD rfl) (pvC (by exact evD rfl) (pvC (by exact evD rfl) (pvN)))) (by rfl) (sto sz.Rat rfl rfl rfl rfl rfl (nb9 rfl) (cells2 := [_,_,_]) rfl (OL.nil (AW.ret (RetQ.r ⟨_, .cellA rfl rfl ag.Rat (nb9 rfl) .nil, .ag (.cons (.le (VLe.refl _)) (.cons (.le (VLe.refl _)) (.cons (.le (VLe.refl _)) .nil)))⟩))))
theorem checkpoint_refuseR {h : RM} {w : List Int} (zz : h.Sz) (nw : w.length ≤ 1048576) : FSpec P F.checkpoint_refuse [vRM h, .d (ints w)] (.d (dI (wrdE h w))) := by
 refine FSpec.intro fn.checkpoint_refuse (by rfl) (by rfl) (nb9 (by rfl)) fun E hE => (AW.sg hE rfl (bxA rfl rfl fun b2 => (asD rfl (OL.nil (AW.seq (AW.sg hE rfl (ldPA ag.Hidden rfl rfl (vs := [_,_,_,_,_,_,_,_,_,_,_]) rfl (nb9 rfl) ?_)))))))
 refine clv rfl (.cons (VLe.refl _) (.nil)) (hmm_ValidR zz) (asD rfl (OL.nil (AW.sg hE rfl (mvD rfl (c_neq rfl rfl rfl (OL.nil (AW.cond rfl (fun c7 => ?_) (fun c7 => ?_))))))))
 ·have c7 : ¬ chkE h = 0 := by simpa using c7
  exact AW.sg hE rfl (mvD rfl (asD rfl (OL.nil (AW.ret (RetQ.r ⟨_, .tmp rfl .nil, .le (VLe.int ((chkP_e c7).trans (wrdE_e (fun e => c7 (by rw [chkP_e c7, e]))).symm))⟩)))))
 ·have c7 : chkE h = 0 := by simpa using c7
  refine AW.skip (AW.seq (AW.sg hE rfl (ldPA ag.Hidden rfl rfl (vs := [_,_,_,_,_,_,_,_,_,_,_]) rfl (nb9 rfl) (clv rfl (.cons (VLe.refl _) (.nil)) (hmm_PlainR zz) (nt rfl (OL.nil (AW.cond rfl (fun c11 => ?_) (fun c11 => ?_))))))))
  ·have c11 : ¬ chkP h = 0 := by simpa using c11
   exact AW.sg hE rfl (asD rfl (OL.nil (AW.ret (RetQ.r ⟨_, .tmp rfl .nil, .le (VLe.int ((chkP_4 c7 c11).trans (wrdE_e c11).symm))⟩))))
  ·have c11 : chkP h = 0 := by simpa using c11
   obtain ⟨g, hv⟩ := chkP_good zz c11
   have s0 := g.form.sym0
   have s1 := g.form.sym1
   refine AW.boxW 2 (cellsHM (hm h)) rfl (vles_of_eq (V.ag.inj hv)) (AW.skip (AW.seq (AW.sg hE rfl (mvD rfl (faP fd.Hidden_0 rfl rfl (ldPC ce.int rfl rfl rfl (clv rfl (.cons (VLe.refl _) (.cons (VLe.refl _) (.nil))) (words_ValidA (h := hm h) nw ⟨s0, s1⟩) ?_)))))))
   refine nt rfl (OL.nil (AW.cond rfl (fun a1 => ?_) (fun a1 => ?_)))
   ·have a1 : ¬ WordOK (hm h) w := wokB_ff (by simpa using a1)
    exact AW.sg hE rfl (asD rfl (OL.nil (AW.ret (RetQ.r ⟨_, .tmp rfl .nil, .le (VLe.int ((wrdE_1 c11 a1).symm))⟩))))
   ·have a1 : WordOK (hm h) w := wokB_tt (by simpa using a1)
    exact AW.skip (AW.sg hE rfl (asD rfl (OL.nil (AW.ret (RetQ.r ⟨_, .tmp rfl .nil, .le (VLe.int ((wrdE_0 c11 a1).symm))⟩)))))
theorem checkpoint_StoredA {n : Nat} {b : Int} (nn : n ≤ 1048576) : FSpec P F.checkpoint_Stored [.d (dI n), .d (dI b)] (.tup [.d (dI (stoR n b).1), .d (dI (stoR n b).2)]) := by
 refine FSpec.intro fn.checkpoint_Stored (by rfl) (by rfl) (nb9 (by rfl)) fun E hE => (AW.sg hE rfl (asD rfl (asD rfl (OL.nil (AW.seq (AW.sg hE rfl (mvD rfl ?_)))))))
 refine c_lss rfl rfl (c := false) (by exact decide_eq_false (by omega)) (mvD rfl (OL.yes rfl (mvD rfl (OL.yes rfl (c_gtr rfl rfl rfl (pkF rfl rfl (mvD rfl ?_)))))))
 refine OL.split 12 rfl (fun a1 => ?_) (fun a1 => ?_)
 ·have a1 : (256 : Int) < n := of_decide_eq_true a1
  have hs : ¬ StoOK n b := fun k => by have := k.1; have := k.2.1; have := k.2.2; omega
  refine OL.no rfl (by decide) (OL.no rfl (by decide) (pkT rfl rfl (mvD rfl (OL.no rfl (by decide) (OL.no rfl (by decide) (pkT rfl rfl (OL.nil ?_)))))))
  refine AW.cond rfl (fun _ => ?_) (fun hno => absurd hno (by decide))
  exact AW.sg hE rfl (asD rfl (asD rfl (OL.nil (AW.ret (RetQ.r ⟨_, .tmp rfl (.tmp rfl .nil), _, .cons (.le (VLe.int (by rw [stoR_1 hs]))) (.cons (.le (VLe.int (by rw [stoR_1 hs]))) .nil), rfl⟩)))))
 ·have a1 : n ≤ 256 := by have := of_decide_eq_false a1; omega
  refine OL.yes rfl (mvD rfl (OL.yes rfl (c_lss rfl rfl rfl (pkF rfl rfl (mvD rfl (OL.split 16 rfl (fun a2 => ?_) (fun a2 => ?_)))))))
  ·have a2 : b < 1 := of_decide_eq_true a2
   have hs : ¬ StoOK n b := fun k => by have := k.1; have := k.2.1; have := k.2.2; omega
   refine OL.no rfl (by decide) (OL.no rfl (by decide) (pkT rfl rfl (OL.nil (AW.cond rfl (fun _ => ?_) (fun hno => absurd hno (by decide))))))
   exact AW.sg hE rfl (asD rfl (asD rfl (OL.nil (AW.ret (RetQ.r ⟨_, .tmp rfl (.tmp rfl .nil), _, .cons (.le (VLe.int (by rw [stoR_1 hs]))) (.cons (.le (VLe.int (by rw [stoR_1 hs]))) .nil), rfl⟩)))))
  ·have a2 : 1 ≤ b := by have := of_decide_eq_false a2; omega
   refine OL.yes rfl (mvD rfl (OL.yes rfl (c_gtr rfl rfl rfl (pkF rfl rfl (OL.nil (AW.cond rfl (fun a3 => ?_) (fun a3 => ?_)))))))
   ·have a3 : (256 : Int) < b := of_decide_eq_true a3
    have hs : ¬ StoOK n b := fun k => by have := k.1; have := k.2.1; have := k.2.2; omega
    exact AW.sg hE rfl (asD rfl (asD rfl (OL.nil (AW.ret (RetQ.r ⟨_, .tmp rfl (.tmp rfl .nil), _, .cons (.le (VLe.int (by rw [stoR_1 hs]))) (.cons (.le (VLe.int (by rw [stoR_1 hs]))) .nil), rfl⟩)))))
   ·have a3 : b ≤ 256 := by have := of_decide_eq_false a3; omega
    have hs : StoOK n b := ⟨a1, a2, a3⟩
    obtain ⟨b, rfl⟩ : ∃ d : Nat, b = (d : Int) := ⟨b.toNat, by omega⟩
    have hq : numK n b ≤ 512 := Nat.le_trans (Nat.div_le_self ..) (by omega)
    rw [stoR_0 hs, Int.toNat_natCast]
    refine AW.skip (AW.sg hE rfl (mvD rfl (mvD rfl (add_i64 rfl rfl (by omega) (sub_i64 rfl rfl (by omega) (mvD rfl (bo rfl rfl (quoN (n + b - 1) b (by omega) (by omega) (by omega)) ?_)))))))
    rw [show (n + b - 1) / b = numK n b from rfl]
    exact mvD rfl (mvD rfl (mn rfl rfl rfl (add_i64 rfl rfl (by omega) (asD rfl (asD rfl (OL.nil (AW.ret (RetQ.r ⟨_, .tmp rfl (.tmp rfl .nil), _, .cons (.le (VLe.int (by omega))) (.cons (.le (VLe.refl _)) .nil), rfl⟩))))))))
theorem checkpoint_ahead {h : HM} {B C x : Nat} {fr : Int} {rest : List Rat} (f : HM.FormX 1048576 B h) (hf : -1 ≤ fr ∧ fr < h.st) (hx : x < h.sym) (hl : rest.length = h.st) (hz : Small C rest) (hC : 1 ≤ C ∧ C ≤ 1000000000) : FSpec P F.checkpoint_ahead [vHM h, .d (dI fr), .d (dI (x + 1 : Nat)), .d (dQs rest)] (.tup [vQ (aheadF h fr x rest h.st).1, .d (dI ((aheadF h fr x rest h.st).2 : Nat))]) := by
 have e1 := f.ini
 have e2 := f.trans
 have e3 := f.stop
 have e4 := f.emit
 have n0 := f.st0
 have n1 := f.st1
 have s1 := f.sym1
 refine FSpec.intro fn.checkpoint_ahead (by rfl) (by rfl) (nb9 (by rfl)) fun E hE => (AW.sg hE rfl (bxA rfl rfl fun b4 => (al z.Rat rfl fun b8 => (asD rfl (OL.nil (AW.sg hE rfl (al z.Rat rfl fun b10 => ?_)))))))
 refine OL.nil (AW.sg hE rfl (asD rfl (OL.nil (AW.seq (AW.sg hE rfl (mvD rfl (lnL sl.Rats rfl rfl ?_)))))))
 refine mvD rfl (OL.nil (AW.block (AW.boxW 10 (cellsQ 0) rfl vles_q ?_)))
 refine AW.whileK (α := Nat) [(1, _), (2, _), (4, _), (8, _), (9, _), (10, _), (15, _), (16, _)] [(4, _), (8, _)] (fun i => [(17, .d (dI i)), (11, .d (dI ((aheadF h fr x rest i).2 : Nat)))]) (fun i => [(10, .box b10 T.Rat (cellsQ (aheadF h fr x rest i).1))]) (fun i => i ≤ h.st) (fun i => h.st - i) 0 (.cons (knD rfl) (.cons (knD rfl) (.cons (knP rfl) (.cons (knP rfl) (.cons (knD rfl) (.cons (knP rfl) (.cons (knD rfl) (.cons (knD rfl) .nil)))))))) (.cons (owB rfl) (.cons (owB rfl) .nil)) ⟨Nat.zero_le _, .cons (VLe.refl _) (.cons (VLe.refl _) .nil), .cons rfl .nil⟩ ?_
 intro i h1
 have h1 : i ≤ h.st := h1
 have hbs := aheadF_szW f fr x hz hC.1 i
 refine AW.sg hE rfl (c_lss rfl rfl rfl (OL.nil (AW.seq (AW.cond rfl (fun h18 => ?_) (fun h18 => ?_)))))
 ·try simp only [dx9] at h18
  refine AW.skip (AW.seq (AW.block (AW.sg hE rfl (mvD rfl (ixLn sl.Rats 0 rfl rfl (by omega) rfl rfl (ldRA ag.Rat rfl (vs := [_,_,_]) rfl (nb9 rfl) (al z.Rat rfl fun b13 => ?_)))))))
  refine asD rfl (sto sz.Rat rfl rfl rfl rfl rfl (nb9 rfl) (cells2 := [_,_,_]) rfl (OL.nil (AW.seq ?_)))
  have hv := viaQ_szW f fr x hz hC.1 i
  have hzi := hz.get hC.1 i
  have er := f.erow i (by omega)
  refine AW.rg hE rfl (faP fd.Hidden_3 rfl rfl (ldPC ce.Rats rfl rfl rfl (mvD rfl (ixLn sl.Rats 0 rfl rfl (by omega) rfl rfl (ldRA ag.Rat rfl (vs := [_,_,_]) rfl (nb9 rfl) (al z.Rat rfl fun b14 => (sto sz.Rat rfl rfl rfl rfl rfl (nb9 rfl) (cells2 := [_,_,_]) rfl ?_)))))))
  refine OL.nil ?_
  refine AW.midK (α := Unit) [(1, _), (2, _), (4, _), (8, _), (9, _), (10, _), (11, _), (12, _), (13, _), (14, _), (15, _), (16, _), (17, _)] [(4, _), (8, _), (10, _), (13, _)] (fun _u => []) (fun _u => [(14, .box b14 T.Rat (cellsQ (stepQ h fr i)))]) (fun _u => True) (.cons (knD rfl) (.cons (knD rfl) (.cons (knP rfl) (.cons (knP rfl) (.cons (knD rfl) (.cons (knP rfl) (.cons (knD rfl) (.cons (knD rfl) (.cons (knP rfl) (.cons (knP rfl) (.cons (knD rfl) (.cons (knD rfl) (.cons (knD rfl) .nil))))))))))))) (.cons (owB rfl) (.cons (owB rfl) (.cons (owB rfl) (.cons (owB rfl) .nil)))) ?_ ?_
  ·refine AW.sg hE rfl (mvD rfl (c_geq rfl rfl rfl (OL.nil (AW.cond rfl (fun h28 => ?_) (fun h28 => ?_)))))
   ·try simp only [dx9] at h28
    have tr := f.trow fr.toNat (by omega)
    refine AW.rg hE rfl (faP fd.Hidden_4 rfl rfl (ldPC ce.Ratss rfl rfl rfl (mvD rfl (ixL sl.Ratss [] rfl rfl (by omega) (by omega) rfl rfl (ldRC ce.Rats rfl (mvD rfl (ixLn sl.Rats 0 rfl rfl (by omega) rfl rfl ?_)))))))
    refine ldRA ag.Rat rfl (vs := [_,_,_]) rfl (nb9 rfl) (sto sz.Rat rfl rfl rfl rfl rfl (nb9 rfl) (cells2 := [_,_,_]) rfl (OL.nil ?_))
    exact AW.reach () ⟨trivial, Knows.app (.cons (VLe.refl _) (.cons (VLe.refl _) (.cons (VLe.refl _) (.cons (VLe.refl _) (.cons (VLe.refl _) (.cons (VLe.refl _) (.cons (VLe.refl _) (.cons (VLe.refl _) (.cons (VLe.refl _) (.cons (VLe.refl _) (.cons (VLe.refl _) (.cons (VLe.refl _) (.cons (VLe.refl _) .nil))))))))))))) (.nil), Owns.app (.cons rfl (.cons rfl (.cons rfl (.cons rfl .nil)))) (.cons (by rw [show stepQ h fr i = (h.trans.getD fr.toNat []).getD i 0 from if_pos h28]; rfl) .nil)⟩
   ·try simp only [dx9] at h28
    refine AW.skip ?_
    exact AW.reach () ⟨trivial, Knows.app (.cons (VLe.refl _) (.cons (VLe.refl _) (.cons (VLe.refl _) (.cons (VLe.refl _) (.cons (VLe.refl _) (.cons (VLe.refl _) (.cons (VLe.refl _) (.cons (VLe.refl _) (.cons (VLe.refl _) (.cons (VLe.refl _) (.cons (VLe.refl _) (.cons (VLe.refl _) (.cons (VLe.refl _) .nil))))))))))))) (.nil), Owns.app (.cons rfl (.cons rfl (.cons rfl (.cons rfl .nil)))) (.cons (by rw [show stepQ h fr i = h.ini.getD i 0 from if_neg (by omega)]; rfl) .nil)⟩
  rintro ⟨⟩ hφ
  refine AW.seq (AW.dg 1 [0,1,2,3,4,5,6,7,8,9,10,11,12,13] order_free hE rfl (by kernel_rfl) (OI.of_OL (os := [_,_,_,_,_,_,_,_,_,_,_,_,_,_]) rfl ?_))
  refine ldPA ag.Rat rfl rfl (vs := [_,_,_]) rfl (nb9 rfl) (faP fd.Hidden_6 rfl rfl (ldPC ce.Ratss rfl rfl rfl (mvD rfl (ixLn sl.Ratss [] rfl rfl (by omega) rfl rfl (ldRC ce.Rats rfl (mvD rfl (bo rfl rfl (bin_sub (c := (x : Int)) (by omega) (wrap_i64 (by omega))) ?_)))))))
  refine ixLn sl.Rats 0 rfl rfl (by omega) rfl rfl (ldRA ag.Rat rfl (vs := [_,_,_]) rfl (nb9 rfl) (clv rfl (.cons (VLe.refl _) (.cons (VLe.refl _) .nil)) (rational_MulQ (by omega) (by omega)) (ldPA ag.Rat rfl rfl (vs := [_,_,_]) rfl (nb9 rfl) (clv rfl (.cons (VLe.refl _) (.cons (VLe.refl _) .nil)) (rational_MulQ (by omega) (by omega)) ?_))))
  rw [show stepQ h fr i * (h.emit.getD i []).getD x 0 * rest.getD i 0 = viaQ h fr x rest i from rfl]
  refine sto sz.Rat rfl rfl rfl rfl rfl (nb9 rfl) (cells2 := [_,_,_]) rfl (OL.nil (AW.sg hE rfl (ldPA ag.Rat rfl rfl (vs := [_,_,_]) rfl (nb9 rfl) (ldPA ag.Rat rfl rfl (vs := [_,_,_]) rfl (nb9 rfl) (clv rfl (.cons (VLe.refl _) (.cons (VLe.refl _) .nil)) (rational_CompareQ (by omega) (by omega)) (c_gtr rfl rfl rfl (OL.nil ?_)))))))
  refine AW.cond rfl (fun hc => ?_) (fun hc => ?_)
  ·have hc : (aheadF h fr x rest i).1 < viaQ h fr x rest i := cmpQ_gt.1 (of_decide_eq_true hc)
   have ha : aheadF h fr x rest (i + 1) = (viaQ h fr x rest i, i) := if_pos hc
   refine AW.rg hE rfl (ldPA ag.Rat rfl rfl (vs := [_,_,_]) rfl (nb9 rfl) (mvD rfl (sto sz.Rat rfl rfl rfl rfl rfl (nb9 rfl) (cells2 := [_,_,_]) rfl (asD rfl (OL.nil (AW.rg hE rfl (add_i64 rfl rfl (by omega) ?_)))))))
   refine mvD rfl (OL.nil ?_)
   exact AW.again (x := i) (i + 1) (by omega) ⟨by omega, Knows.app (.cons (VLe.refl _) (.cons (VLe.refl _) (.cons (VLe.refl _) (.cons (VLe.refl _) (.cons (VLe.refl _) (.cons (VLe.refl _) (.cons (VLe.refl _) (.cons (VLe.refl _) .nil)))))))) (.cons (VLe.refl _) (.cons (VLe.int (by rw [ha])) .nil)), Owns.app (.cons rfl (.cons rfl .nil)) (.cons (by rw [ha]; rfl) .nil)⟩
  ·have hc : ¬ (aheadF h fr x rest i).1 < viaQ h fr x rest i := fun e => of_decide_eq_false hc (cmpQ_gt.2 e)
   have ha : aheadF h fr x rest (i + 1) = (aheadF h fr x rest i) := if_neg hc
   refine AW.skip (AW.rg hE rfl (add_i64 rfl rfl (by omega) (mvD rfl (OL.nil ?_))))
   exact AW.again (x := i) (i + 1) (by omega) ⟨by omega, Knows.app (.cons (VLe.refl _) (.cons (VLe.refl _) (.cons (VLe.refl _) (.cons (VLe.refl _) (.cons (VLe.refl _) (.cons (VLe.refl _) (.cons (VLe.refl _) (.cons (VLe.refl _) .nil)))))))) (.cons (VLe.refl _) (.cons (VLe.int (by rw [ha])) .nil)), Owns.app (.cons rfl (.cons rfl .nil)) (.cons (by rw [ha]; rfl) .nil)⟩
 ·try simp only [dx9] at h18
  refine AW.exit (AW.seq ?_)
  obtain rfl : i = h.st := by omega
  exact AW.rg hE rfl (ldPA ag.Rat rfl rfl (vs := [_,_,_]) rfl (nb9 rfl) (mvD rfl (sto sz.Rat rfl rfl rfl rfl rfl (nb9 rfl) (cells2 := [_,_,_]) rfl (asD rfl (OL.nil (AW.ret (RetQ.r ⟨_, .cellA rfl rfl ag.Rat (nb9 rfl) (.tmp rfl .nil), _, .cons (.ag (.cons (.le (VLe.refl _)) (.cons (.le (VLe.refl _)) (.cons (.le (VLe.refl _)) .nil)))) (.cons (.le (VLe.refl _)) .nil), rfl⟩)))))))
theorem checkpoint_before {h : HM} {B C x : Nat} {rest : List Rat} (f : HM.FormX 1048576 B h) (hx : x < h.sym) (hl : rest.length = h.st) (hz : Small C rest) (hC : 1 ≤ C ∧ C ≤ 1000000000) : FSpec P F.checkpoint_before [vHM h, .d (dI (x + 1 : Nat)), .d (dQs rest)] (.d (dQs (beforeF h x rest))) := by
 have e1 := f.ini
 have e2 := f.trans
 have e3 := f.stop
 have e4 := f.emit
 have n0 := f.st0
 have n1 := f.st1
 refine FSpec.intro fn.checkpoint_before (by rfl) (by rfl) (nb9 (by rfl)) fun E hE => (AW.sg hE rfl (bxA rfl rfl fun b3 => (asM rfl (OL.nil (AW.sg hE rfl (faP fd.Hidden_1 rfl rfl (ldPC ce.int rfl rfl rfl ?_)))))))
 refine mkL dQ 0 sl.Rats z.Rat vcs_q0 rfl rfl (Nat.le_refl _) (by omega) (by omega) rfl fun b => (asO rfl (OL.nil (AW.seq (AW.sg hE rfl (mvO rfl (lnO sl.Rats rfl rfl (mvD rfl ?_)))))))
 refine OL.nil (AW.block ?_)
 refine AW.whileK (α := Nat) [(1, _), (2, _), (3, _), (6, _), (7, _), (13, _)] [(3, _)] (fun i => [(14, .d (dI i))]) (fun i => [(11, .row b h.st T.Rat 3 ((fillF 0 (fun j : Nat => (aheadF h (j : Int) x rest h.st).1) h.st i).map dQ))]) (fun i => i ≤ h.st) (fun i => h.st - i) 0 (.cons (knD rfl) (.cons (knD rfl) (.cons (knP rfl) (.cons (knM rfl) (.cons (knO rfl) (.cons (knD rfl) .nil)))))) (.cons (owB rfl) .nil) ⟨Nat.zero_le _, .cons (VLe.refl _) .nil, .cons (by rw [fillF_zero]; rfl) .nil⟩ ?_
 intro i h1
 have hfl := fillF_len 0 (fun j : Nat => (aheadF h (j : Int) x rest h.st).1) h.st i
 refine AW.sg hE rfl (c_lss rfl rfl rfl (OL.nil (AW.seq (AW.cond rfl (fun h15 => ?_) (fun h15 => ?_)))))
 ·try simp only [dx9] at h15
  refine AW.skip (AW.seq (AW.block (AW.sg hE rfl (mvD rfl (asD rfl (OL.nil (AW.rg hE rfl ?_)))))))
  refine mvO rfl (mvD rfl (ldPA ag.Hidden rfl rfl (vs := [_,_,_,_,_,_,_,_,_,_,_]) rfl (nb9 rfl) (mvD rfl (mvD rfl (mvD rfl (clv rfl (.cons (VLe.refl _) (.cons (VLe.refl _) (.cons (VLe.refl _) (.cons (VLe.refl _) .nil)))) (checkpoint_ahead f ⟨by omega, by omega⟩ hx hl hz hC) (mvT rfl ?_)))))))
  refine ex rfl rfl (ex rfl rfl (ixO sl.Rats rfl rfl (by omega) (by omega) rfl (stE sz.Rat rfl vd_q rfl rfl (by rw [List.length_map]; omega) (es2 := (fillF 0 (fun j : Nat => (aheadF h (j : Int) x rest h.st).1) h.st (i + 1)).map dQ) (by rw [← fillF_set (by omega), List.map_set]; rfl) (OL.nil (AW.rg hE rfl (add_i64 rfl rfl (by omega) (mvD rfl ?_)))))))
  exact OL.nil (AW.again (x := i) (i + 1) (by omega) ⟨by omega, Knows.app (.cons (VLe.refl _) (.cons (VLe.refl _) (.cons (VLe.refl _) (.cons (VLe.refl _) (.cons (VLe.refl _) (.cons (VLe.refl _) .nil)))))) (.cons (VLe.refl _) .nil), Owns.app (.cons rfl .nil) (.cons rfl .nil)⟩)
 ·try simp only [dx9] at h15
  refine AW.exit (AW.seq ?_)
  obtain rfl : i = h.st := by omega
  refine AW.freeze 11 rfl (AW.to [(7, .d (dQs (beforeF h x rest)))] [] (.cons (frz_osl (by rw [List.length_map]; omega) (by rw [fillF_all]; rfl)) .nil) .nil ?_)
  exact AW.rg hE rfl (mvD rfl (asD rfl (OL.nil (AW.ret (RetQ.r ⟨_, .tmp rfl .nil, .le (VLe.refl _)⟩)))))
end Go.Proofs.YtjghehkgmanmbaaGreat

/-
  Walks of package checkpoint on any input, part 3: the columns (printed by mk2.py).
-/
import Derived.Test.YtjghehkgmanmbaaGreatKCwB
import Derived.Test.YtjghehkgmanmbaaGreatKMod47
set_option linter.unusedVariables false
set_option linter.unusedSimpArgs false
namespace Go.Proofs.YtjghehkgmanmbaaGreat
open Go Go.AL
theorem checkpoint_shareR {r : Raw} (m : r.Med) : FSpec P F.checkpoint_share [vRaw r] (.d (dB (shareR r))) := by
 refine FSpec.intro fn.checkpoint_share (by rfl) (by rfl) (nb9 (by rfl)) fun E hE => (AW.sg hE rfl (bxA rfl rfl fun b1 => (asD rfl (OL.nil (AW.sg hE rfl (clv rfl (.cons (VLe.refl _) (.cons (VLe.refl _) .nil)) (rational_MakeQ (n := 1) (d := 1) (by decide) (by decide) (by decide)) ?_))))))
 rw [q11]
 refine mvT rfl (ex rfl rfl (ex rfl rfl (al z.Rat rfl fun b3 => (sto sz.Rat rfl rfl rfl rfl rfl (nb9 rfl) (cells2 := [_,_,_]) rfl (asD rfl (OL.nil (AW.sg hE rfl ?_)))))))
 refine ldPA ag.Rat rfl rfl (vs := [_,_,_]) rfl (nb9 rfl) (clv rfl (.cons (VLe.refl _) (.nil)) (rational_Valid m.ok) (mvD rfl (OL.split 11 rfl (fun g1 => ?_) (fun g1 => ?_))))
 ·have g1 : r.good = true := g1
  refine OL.yes rfl (ldPA ag.Rat rfl rfl (vs := [_,_,_]) rfl (nb9 rfl) (OL.yes rfl (clv rfl (.cons (VLe.refl _) (.nil)) (rational_Sign m.ok) (OL.yes rfl (c_geq rfl rfl rfl (pkT rfl rfl (mvD rfl ?_)))))))
  refine OL.split 16 rfl (fun g => ?_) (fun g => ?_)
  ·have g : 0 ≤ r.q := sgnQ_nonneg.1 (of_decide_eq_true g)
   refine OL.yes rfl (ldPA ag.Rat rfl rfl (vs := [_,_,_]) rfl (nb9 rfl) (OL.yes rfl (ldPA ag.Rat rfl rfl (vs := [_,_,_]) rfl (nb9 rfl) (OL.yes rfl (clv rfl (.cons (VLe.refl _) (.cons (VLe.refl _) (.nil))) (rational_CompareR1 m) (OL.yes rfl (c_leq rfl rfl rfl ?_)))))))
   exact pkT rfl rfl (asD rfl (OL.nil (AW.ret (RetQ.r ⟨_, .tmp rfl .nil, .le (VLe.bool (share_val g1 g))⟩))))
  ·have g : ¬ 0 ≤ r.q := fun e => of_decide_eq_false g (sgnQ_nonneg.2 e)
   exact OL.no rfl (by decide) (OL.no rfl (by decide) (OL.no rfl (by decide) (OL.no rfl (by decide) (pkF rfl rfl (asD rfl (OL.nil (AW.ret (RetQ.r ⟨_, .tmp rfl .nil, .le (VLe.bool (share_false (.inr g)))⟩))))))))
 ·have g1 : r.good = false := g1
  refine OL.no rfl (by decide) (OL.no rfl (by decide) (OL.no rfl (by decide) (pkF rfl rfl (mvD rfl (OL.no rfl (by decide) (OL.no rfl (by decide) (OL.no rfl (by decide) ?_)))))))
  exact OL.no rfl (by decide) (pkF rfl rfl (asD rfl (OL.nil (AW.ret (RetQ.r ⟨_, .tmp rfl .nil, .le (VLe.bool (share_false (.inl g1)))⟩)))))
set_option maxRecDepth 4000 in
set_option maxHeartbeats 1600000 in
theorem checkpoint_after {h : HM} {B C x : Nat} {c : List Rat} (f : HM.FormX 1048576 B h) (hx : x < h.sym) (hl : c.length = 0 ∨ c.length = h.st) (hz : Small C c) (hC : 1 ≤ C ∧ C ≤ 1000000000) : FSpec P F.checkpoint_after [vHM h, .d (dI (x + 1 : Nat)), .d (dQs c)] (.d (dQs (colX h x c))) := by
 have e1 := f.ini
 have e2 := f.trans
 have e3 := f.stop
 have e4 := f.emit
 have n0 := f.st0
 have n1 := f.st1
 have s1 := f.sym1
 have zn := fun j n => colN_szW f hz hC.1 j n
 refine FSpec.intro fn.checkpoint_after (by rfl) (by rfl) (nb9 (by rfl)) fun E hE => (AW.sg hE rfl (bxA rfl rfl fun b3 => (asM rfl (OL.nil (AW.sg hE rfl (faP fd.Hidden_1 rfl rfl (ldPC ce.int rfl rfl rfl ?_)))))))
 refine mkL dQ 0 sl.Rats z.Rat vcs_q0 rfl rfl (Nat.le_refl _) (by omega) (by omega) rfl fun b => (asO rfl (OL.nil (AW.seq (AW.sg hE rfl (mvO rfl (lnO sl.Rats rfl rfl (mvD rfl ?_)))))))
 refine OL.nil (AW.block ?_)
 refine AW.whileK (α := Nat) [(1, _), (2, _), (3, _), (6, _), (7, _), (17, _)] [(3, _)] (fun j => [(18, .d (dI j))]) (fun j => [(15, .row b h.st T.Rat 3 ((fillF 0 (fun j => colN h c j c.length * emQ h j x) h.st j).map dQ))]) (fun j => j ≤ h.st) (fun j => h.st - j) 0 (.cons (knD rfl) (.cons (knD rfl) (.cons (knP rfl) (.cons (knM rfl) (.cons (knO rfl) (.cons (knD rfl) .nil)))))) (.cons (owB rfl) .nil) ⟨Nat.zero_le _, .cons (VLe.refl _) .nil, .cons (by rw [fillF_zero]; rfl) .nil⟩ ?_
 intro j h1
 have h1 : j ≤ h.st := h1
 have hfl := fillF_len 0 (fun j => colN h c j c.length * emQ h j x) h.st j
 refine AW.sg hE rfl (c_lss rfl rfl rfl (OL.nil (AW.seq (AW.cond rfl (fun h19 => ?_) (fun h19 => ?_)))))
 ·try simp only [dx9] at h19
  refine AW.skip (AW.seq (AW.block (AW.seq ?_)))
  have hj : j < h.st := by omega
  refine AW.rg hE rfl (mvD rfl (asD rfl (OL.nil (AW.sg hE rfl (al z.Rat rfl fun b9 => (OL.nil ?_))))))
  refine AW.midK (α := Nat) [(1, _), (2, _), (3, _), (6, _), (7, _), (17, _), (18, _)] [(3, _), (15, _)] (fun b9 => [(8, .d (dI j)), (9, .ptr 9 b9 0)]) (fun b9 => [(9, .box b9 T.Rat (cellsQ (colN h c j 0)))]) (fun b9 => True) (.cons (knD rfl) (.cons (knD rfl) (.cons (knP rfl) (.cons (knM rfl) (.cons (knO rfl) (.cons (knD rfl) (.cons (knD rfl) .nil))))))) (.cons (owB rfl) (.cons (owR rfl) .nil)) ?_ ?_
  ·refine AW.sg hE rfl (mvD rfl (lnL sl.Rats rfl rfl (c_eql rfl rfl rfl (OL.nil (AW.cond rfl (fun h0 => ?_) (fun h0 => ?_))))))
   ·have h0 : c.length = 0 := by have := of_decide_eq_true h0; omega
    refine AW.rg hE rfl (faP fd.Hidden_3 rfl rfl (ldPC ce.Rats rfl rfl rfl (mvD rfl (ixLn sl.Rats 0 rfl rfl (by omega) rfl rfl (ldRA ag.Rat rfl (vs := [_,_,_]) rfl (nb9 rfl) (sto sz.Rat rfl rfl rfl rfl rfl (nb9 rfl) (cells2 := [_,_,_]) rfl (OL.nil ?_)))))))
    exact AW.reach b9 ⟨trivial, Knows.app (.cons (VLe.refl _) (.cons (VLe.refl _) (.cons (VLe.refl _) (.cons (VLe.refl _) (.cons (VLe.refl _) (.cons (VLe.refl _) (.cons (VLe.refl _) .nil))))))) (.cons (VLe.refl _) (.cons (VLe.refl _) .nil)), Owns.app (.cons rfl (.cons rfl .nil)) (.cons (by rw [colN, if_pos h0]; rfl) .nil)⟩
   ·have h0 : c.length ≠ 0 := fun e => of_decide_eq_false h0 (by omega)
    refine AW.boxW 9 (cellsQ 0) rfl vles_q (AW.skip ?_)
    exact AW.reach b9 ⟨trivial, Knows.app (.cons (VLe.refl _) (.cons (VLe.refl _) (.cons (VLe.refl _) (.cons (VLe.refl _) (.cons (VLe.refl _) (.cons (VLe.refl _) (.cons (VLe.refl _) .nil))))))) (.cons (VLe.refl _) (.cons (VLe.refl _) .nil)), Owns.app (.cons rfl (.cons rfl .nil)) (.cons (by rw [colN, if_neg h0]; rfl) .nil)⟩
  rintro b9 hφ
  have hj : j < h.st := by omega
  refine AW.seq (AW.sg hE rfl (mvD rfl (lnL sl.Rats rfl rfl (mvD rfl (OL.nil (AW.block ?_))))))
  refine AW.whileK (α := Nat) [(1, _), (2, _), (3, _), (6, _), (7, _), (8, _), (9, _), (17, _), (18, _), (29, _), (30, _)] [(3, _), (15, _)] (fun i => [(31, .d (dI i))]) (fun i => [(9, .box b9 T.Rat (cellsQ (colN h c j i)))]) (fun i => i ≤ c.length) (fun i => c.length - i) 0 (.cons (knD rfl) (.cons (knD rfl) (.cons (knP rfl) (.cons (knM rfl) (.cons (knO rfl) (.cons (knD rfl) (.cons (knP rfl) (.cons (knD rfl) (.cons (knD rfl) (.cons (knD rfl) (.cons (knD rfl) .nil))))))))))) (.cons (owB rfl) (.cons (owR rfl) .nil)) ⟨Nat.zero_le _, .cons (VLe.refl _) .nil, .cons rfl .nil⟩ ?_
  intro i h3
  have h3 : i ≤ c.length := h3
  have zp := zn j i
  have zs := hz.get hC.1 i
  have zt := tr_szV f i j
  have zc : sz (c.getD i 0 * trQ h i j) ≤ sz (c.getD i 0) + sz (trQ h i j) := sz_mul _ _
  refine AW.sg hE rfl (c_lss rfl rfl rfl (OL.nil (AW.seq (AW.cond rfl (fun h32 => ?_) (fun h32 => ?_)))))
  ·try simp only [dx9] at h32
   refine AW.skip ?_
   refine AW.midK (α := Unit) [(1, _), (2, _), (3, _), (6, _), (7, _), (8, _), (9, _), (17, _), (18, _), (29, _), (30, _)] [(3, _), (15, _)] (fun _u => [(31, .d (dI i))]) (fun _u => [(9, .box b9 T.Rat (cellsQ (colN h c j (i + 1))))]) (fun _u => True) (.cons (knD rfl) (.cons (knD rfl) (.cons (knP rfl) (.cons (knM rfl) (.cons (knO rfl) (.cons (knD rfl) (.cons (knP rfl) (.cons (knD rfl) (.cons (knD rfl) (.cons (knD rfl) (.cons (knD rfl) .nil))))))))))) (.cons (owB rfl) (.cons (owR rfl) .nil)) ?_ ?_
   ·refine AW.block (AW.seq ?_)
    have hi : i < h.st := by omega
    have ti := f.trow i hi
    refine AW.rg hE rfl (mvD rfl (ixLn sl.Rats 0 rfl rfl (by omega) rfl rfl (ldRA ag.Rat rfl (vs := [_,_,_]) rfl (nb9 rfl) (al z.Rat rfl fun b11 => (asD rfl (sto sz.Rat rfl rfl rfl rfl rfl (nb9 rfl) (cells2 := [_,_,_]) rfl (OL.nil ?_)))))))
    refine AW.seq (AW.dg 1 [0,1,2,3,4,5,6,7,8,9,10,11] order_free hE rfl (by kernel_rfl) (OI.of_OL (os := [_,_,_,_,_,_,_,_,_,_,_,_]) rfl ?_))
    refine ldPA ag.Rat rfl rfl (vs := [_,_,_]) rfl (nb9 rfl) (faP fd.Hidden_4 rfl rfl (ldPC ce.Ratss rfl rfl rfl (mvD rfl (ixLn sl.Ratss [] rfl rfl (by omega) rfl rfl (ldRC ce.Rats rfl (mvD rfl (ixLn sl.Rats 0 rfl rfl (by omega) rfl rfl ?_)))))))
    refine ldRA ag.Rat rfl (vs := [_,_,_]) rfl (nb9 rfl) (clv rfl (.cons (VLe.refl _) (.cons (VLe.refl _) (.nil))) (rational_MulQ (x := c.getD i 0) (y := trQ h i j) (by omega) (by omega)) (al z.Rat rfl fun b12 => (sto sz.Rat rfl rfl rfl rfl rfl (nb9 rfl) (cells2 := [_,_,_]) rfl (OL.nil (AW.sg hE rfl (ldPA ag.Rat rfl rfl (vs := [_,_,_]) rfl (nb9 rfl) (ldPA ag.Rat rfl rfl (vs := [_,_,_]) rfl (nb9 rfl) ?_)))))))
    refine clv rfl (.cons (VLe.refl _) (.cons (VLe.refl _) (.nil))) (rational_CompareQ (x := (c.getD i 0 * trQ h i j)) (y := (colN h c j i)) (by omega) (by omega)) (c_gtr rfl rfl rfl (OL.nil (AW.cond rfl (fun hg => ?_) (fun hg => ?_))))
    ·have hg : (colN h c j i) < (c.getD i 0 * trQ h i j) := cmpQ_gt.1 (of_decide_eq_true hg)
     have hcn : (colN h c j (i + 1)) = (c.getD i 0 * trQ h i j) := if_pos hg
     refine AW.rg hE rfl (ldPA ag.Rat rfl rfl (vs := [_,_,_]) rfl (nb9 rfl) (sto sz.Rat rfl rfl rfl rfl rfl (nb9 rfl) (cells2 := [_,_,_]) rfl (OL.nil ?_)))
     exact AW.reach () ⟨trivial, Knows.app (.cons (VLe.refl _) (.cons (VLe.refl _) (.cons (VLe.refl _) (.cons (VLe.refl _) (.cons (VLe.refl _) (.cons (VLe.refl _) (.cons (VLe.refl _) (.cons (VLe.refl _) (.cons (VLe.refl _) (.cons (VLe.refl _) (.cons (VLe.refl _) .nil))))))))))) (.cons (VLe.refl _) .nil), Owns.app (.cons rfl (.cons rfl .nil)) (.cons (by rw [hcn]; rfl) .nil)⟩
    ·have hg : ¬ (colN h c j i) < (c.getD i 0 * trQ h i j) := fun e => of_decide_eq_false hg (cmpQ_gt.2 e)
     have hcn : (colN h c j (i + 1)) = (colN h c j i) := if_neg hg
     refine AW.skip ?_
     exact AW.reach () ⟨trivial, Knows.app (.cons (VLe.refl _) (.cons (VLe.refl _) (.cons (VLe.refl _) (.cons (VLe.refl _) (.cons (VLe.refl _) (.cons (VLe.refl _) (.cons (VLe.refl _) (.cons (VLe.refl _) (.cons (VLe.refl _) (.cons (VLe.refl _) (.cons (VLe.refl _) .nil))))))))))) (.cons (VLe.refl _) .nil), Owns.app (.cons rfl (.cons rfl .nil)) (.cons (by rw [hcn]; rfl) .nil)⟩
   rintro ⟨⟩ hφ
   refine AW.rg hE rfl (add_i64 rfl rfl (by omega) (mvD rfl (OL.nil ?_)))
   exact AW.again (x := i) (i + 1) (by omega) ⟨by omega, Knows.app (.cons (VLe.refl _) (.cons (VLe.refl _) (.cons (VLe.refl _) (.cons (VLe.refl _) (.cons (VLe.refl _) (.cons (VLe.refl _) (.cons (VLe.refl _) (.cons (VLe.refl _) (.cons (VLe.refl _) (.cons (VLe.refl _) (.cons (VLe.refl _) .nil))))))))))) (.cons (VLe.refl _) .nil), Owns.app (.cons rfl (.cons rfl .nil)) (.cons rfl .nil)⟩
  ·try simp only [dx9] at h32
   refine AW.exit ?_
   obtain rfl : i = c.length := by omega
   have ej := f.erow j hj
   have zem := em_szV f j x
   have zpn := zn j c.length
   refine AW.dg 1 [0,1,2,3,4,5,6,7,8,9,10,11,12,13,14] order_free hE rfl (by kernel_rfl) (OI.of_OL (os := [_,_,_,_,_,_,_,_,_,_,_,_,_,_,_]) rfl ?_)
   refine mvO rfl (mvD rfl (ldPA ag.Rat rfl rfl (vs := [_,_,_]) rfl (nb9 rfl) (faP fd.Hidden_6 rfl rfl (ldPC ce.Ratss rfl rfl rfl (mvD rfl (ixLn sl.Ratss [] rfl rfl (by omega) rfl rfl (ldRC ce.Rats rfl ?_)))))))
   refine mvD rfl (bo rfl rfl (bin_sub (c := (x : Int)) (by omega) (wrap_i64 (by omega))) (ixLn sl.Rats 0 rfl rfl (by omega) rfl rfl (ldRA ag.Rat rfl (vs := [_,_,_]) rfl (nb9 rfl) (clv rfl (.cons (VLe.refl _) (.cons (VLe.refl _) (.nil))) (rational_MulQ (x := (colN h c j c.length)) (y := emQ h j x) (by omega) (by omega)) (ixOn sl.Rats rfl rfl hj (stE sz.Rat rfl vd_q rfl rfl (by rw [List.length_map]; omega) (es2 := (fillF 0 (fun j => colN h c j c.length * emQ h j x) h.st (j + 1)).map dQ) (by rw [← fillF_set (g := (fun j => colN h c j c.length * emQ h j x)) hj, List.map_set]) (OL.nil ?_)))))))
   exact AW.rg hE rfl (add_i64 rfl rfl (by omega) (mvD rfl (OL.nil (AW.again (x := j) (j + 1) (by omega) ⟨by omega, Knows.app (.cons (VLe.refl _) (.cons (VLe.refl _) (.cons (VLe.refl _) (.cons (VLe.refl _) (.cons (VLe.refl _) (.cons (VLe.refl _) .nil)))))) (.cons (VLe.refl _) .nil), Owns.app (.cons rfl .nil) (.cons rfl .nil)⟩))))
 ·try simp only [dx9] at h19
  refine AW.exit (AW.seq ?_)
  obtain rfl : j = h.st := by omega
  refine AW.freeze 15 rfl (AW.to [(7, .d (dQs (colX h x c)))] [] (.cons (frz_osl (by rw [List.length_map]; omega) (by rw [fillF_all]; rfl)) .nil) .nil ?_)
  exact AW.rg hE rfl (mvD rfl (asD rfl (OL.nil (AW.ret (RetQ.r ⟨_, .tmp rfl .nil, .le (VLe.refl _)⟩)))))
set_option maxRecDepth 6000 in
set_option maxHeartbeats 3200000 in
theorem checkpoint_ColumnsA {h : RM} {w : List Int} {fr to : Int} {c : List Raw} (zz : h.Sz) (nw : w.length ≤ 1048576) (mc : MedL c) (nc : c.length ≤ 1048576) : FSpec P F.checkpoint_Columns [vRM h, .d (ints w), .d (dI fr), .d (dI to), .d (dRs c)] (.tup [.d (dQss (colA h w fr to c).1), .d (dI (colA h w fr to c).2)]) := by
 refine FSpec.intro fn.checkpoint_Columns (by rfl) (by rfl) (nb9 (by rfl)) fun E hE => (AW.sg hE rfl (bxA rfl rfl fun b5 => (asM rfl (asD rfl (OL.nil (AW.seq (AW.sg hE rfl ?_)))))))
 refine ldPA ag.Hidden rfl rfl (vs := [_,_,_,_,_,_,_,_,_,_,_]) rfl (nb9 rfl) (mvD rfl (clv rfl (.cons (VLe.refl _) (.cons (VLe.refl _) (.nil))) (checkpoint_refuseR zz nw) (asD rfl (OL.nil (AW.sg hE rfl (mvD rfl (c_neq rfl rfl rfl ?_)))))))
 refine OL.nil (AW.cond rfl (fun cw9 => ?_) (fun cw9 => ?_))
 ·have cw9 : ¬ wrdE h w = 0 := by simpa using cw9
  have hdr := colA_e (fr := fr) (to := to) (c := c) cw9
  exact AW.sg hE rfl (mvD rfl (asM rfl (asD rfl (OL.nil (AW.ret (RetQ.r ⟨_, .tmp rfl (.tmp rfl .nil), _, .cons (.le (by rw [hdr]; exact VLe.mt)) (.cons (.le (VLe.int (by rw [hdr]))) .nil), rfl⟩))))))
 ·have cw9 : wrdE h w = 0 := by simpa using cw9
  obtain ⟨cp, k⟩ := wrdE_ok cw9
  obtain ⟨g, hv⟩ := chkP_good zz cp
  refine AW.skip (AW.seq (AW.sg hE rfl (mvD rfl (c_lss rfl rfl rfl (mvD rfl (OL.split 26 rfl (fun b1 => ?_) (fun b1 => ?_)))))))
  ·have b1 : fr < 0 := of_decide_eq_true b1
   have hdr := colA_1 cw9 (c := c) (to := to) (.inl b1)
   refine OL.no rfl (by decide) (OL.no rfl (by decide) (OL.no rfl (by decide) (pkT rfl rfl (mvD rfl (OL.no rfl (by decide) (OL.no rfl (by decide) (OL.no rfl (by decide) ?_)))))))
   refine OL.no rfl (by decide) (pkT rfl rfl (OL.nil (AW.cond rfl (fun _ => ?_) (fun hno => absurd hno (by decide)))))
   exact AW.sg hE rfl (asM rfl (asD rfl (OL.nil (AW.ret (RetQ.r ⟨_, .tmp rfl (.tmp rfl .nil), _, .cons (.le (by rw [hdr]; exact VLe.mt)) (.cons (.le (VLe.int (by rw [hdr]))) .nil), rfl⟩)))))
  ·have b1 : ¬ fr < 0 := of_decide_eq_false b1
   refine OL.yes rfl (mvD rfl (OL.yes rfl (mvD rfl (OL.yes rfl (c_gtr rfl rfl rfl (pkF rfl rfl (mvD rfl ?_)))))))
   refine OL.split 31 rfl (fun b2 => ?_) (fun b2 => ?_)
   ·have b2 : to < fr := of_decide_eq_true b2
    have hdr := colA_1 cw9 (c := c) (to := to) (.inr (.inl b2))
    refine OL.no rfl (by decide) (OL.no rfl (by decide) (OL.no rfl (by decide) (OL.no rfl (by decide) (pkT rfl rfl (OL.nil (AW.cond rfl (fun _ => ?_) (fun hno => absurd hno (by decide))))))))
    exact AW.sg hE rfl (asM rfl (asD rfl (OL.nil (AW.ret (RetQ.r ⟨_, .tmp rfl (.tmp rfl .nil), _, .cons (.le (by rw [hdr]; exact VLe.mt)) (.cons (.le (VLe.int (by rw [hdr]))) .nil), rfl⟩)))))
   ·have b2 : ¬ to < fr := of_decide_eq_false b2
    refine OL.yes rfl (mvD rfl (OL.yes rfl (mvD rfl (OL.yes rfl (lnL sl.ints rfl rfl (OL.yes rfl (c_geq rfl rfl rfl ?_)))))))
    refine pkF rfl rfl (OL.nil (AW.cond rfl (fun b3 => ?_) (fun b3 => ?_)))
    ·have b3 : (w.length : Int) ≤ to := of_decide_eq_true b3
     have hdr := colA_1 cw9 (c := c) (fr := fr) (.inr (.inr b3))
     exact AW.sg hE rfl (asM rfl (asD rfl (OL.nil (AW.ret (RetQ.r ⟨_, .tmp rfl (.tmp rfl .nil), _, .cons (.le (by rw [hdr]; exact VLe.mt)) (.cons (.le (VLe.int (by rw [hdr]))) .nil), rfl⟩)))))
    ·have b3 : ¬ (w.length : Int) ≤ to := of_decide_eq_false b3
     have hro : ¬ (fr < 0 ∨ to < fr ∨ (w.length : Int) ≤ to) := by omega
     refine AW.skip (AW.sg hE rfl (faP fd.Hidden_1 rfl rfl (ldPC ce.int rfl rfl rfl (asD rfl (OL.nil ?_)))))
     refine AW.midK (α := Unit) [(1, _), (2, _), (3, _), (4, _), (5, _), (10, _), (11, _)] [(5, _)] (fun _u => [(13, .d (dI (if fr = 0 then 0 else h.st)))]) (fun _u => []) (fun _u => True) (.cons (knD rfl) (.cons (knD rfl) (.cons (knD rfl) (.cons (knD rfl) (.cons (knP rfl) (.cons (knM rfl) (.cons (knD rfl) .nil))))))) (.cons (owB rfl) .nil) ?_ ?_
     ·refine AW.sg hE rfl (mvD rfl (c_eql rfl rfl rfl (OL.nil (AW.cond rfl (fun h0 => ?_) (fun h0 => ?_)))))
      ·have h0 : fr = 0 := of_decide_eq_true h0
       exact AW.rg hE rfl (asD rfl (OL.nil (AW.reach () ⟨trivial, Knows.app (.cons (VLe.refl _) (.cons (VLe.refl _) (.cons (VLe.refl _) (.cons (VLe.refl _) (.cons (VLe.refl _) (.cons (VLe.refl _) (.cons (VLe.refl _) .nil))))))) (.cons (VLe.int ((if_pos h0).symm)) .nil), Owns.app (.cons rfl .nil) (.nil)⟩)))
      ·have h0 : fr ≠ 0 := of_decide_eq_false h0
       exact AW.skip (AW.reach () ⟨trivial, Knows.app (.cons (VLe.refl _) (.cons (VLe.refl _) (.cons (VLe.refl _) (.cons (VLe.refl _) (.cons (VLe.refl _) (.cons (VLe.refl _) (.cons (VLe.refl _) .nil))))))) (.cons (VLe.int ((if_neg h0).symm)) .nil), Owns.app (.cons rfl .nil) (.nil)⟩)
     rintro ⟨⟩ hφ
     refine AW.seq (AW.sg hE rfl (mvD rfl (lnL sl.Rats rfl rfl (mvD rfl (c_neq rfl rfl rfl (OL.nil (AW.cond rfl (fun b4 => ?_) (fun b4 => ?_))))))))
     ·have b4 : ¬ ((c.length : Int) = if fr = 0 then 0 else h.st) := by simpa using b4
      have hdr := colA_4 cw9 hro (.inl b4)
      exact AW.sg hE rfl (asM rfl (asD rfl (OL.nil (AW.ret (RetQ.r ⟨_, .tmp rfl (.tmp rfl .nil), _, .cons (.le (by rw [hdr]; exact VLe.mt)) (.cons (.le (VLe.int (by rw [hdr]))) .nil), rfl⟩)))))
     ·have b4 : (c.length : Int) = if fr = 0 then 0 else h.st := by simpa using b4
      refine AW.skip (AW.seq (AW.sg hE rfl (mvD rfl (lnL sl.Rats rfl rfl (mvD rfl (OL.nil (AW.block ?_)))))))
      refine AW.whileK (α := Nat) [(1, _), (2, _), (3, _), (4, _), (5, _), (45, _), (46, _)] [(5, _)] (fun i => [(47, .d (dI i))]) (fun i => []) (fun i => i ≤ c.length ∧ ∀ j, j < i → shareR (c.getD j raw0) = true) (fun i => c.length - i) 0 (.cons (knD rfl) (.cons (knD rfl) (.cons (knD rfl) (.cons (knD rfl) (.cons (knP rfl) (.cons (knD rfl) (.cons (knD rfl) .nil))))))) (.cons (owB rfl) .nil) ⟨⟨Nat.zero_le _, fun j hj => absurd hj (Nat.not_lt_zero j)⟩, .cons (VLe.refl _) .nil, .nil⟩ ?_
      rintro i ⟨h3, h4⟩
      refine AW.sg hE rfl (c_lss rfl rfl rfl (OL.nil (AW.seq (AW.cond rfl (fun h48 => ?_) (fun h48 => ?_)))))
      ·try simp only [dx9] at h48
       refine AW.skip (AW.seq (AW.block (AW.sg hE rfl (ixLn sl.Rats raw0 rfl rfl (by omega) rfl rfl (ldRA ag.Rat rfl (vs := [_,_,_]) rfl (nb9 rfl) (al z.Rat rfl fun b15 => (sto sz.Rat rfl rfl rfl rfl rfl (nb9 rfl) (cells2 := [_,_,_]) rfl ?_)))))))
       refine OL.nil (AW.sg hE rfl (ldPA ag.Rat rfl rfl (vs := [_,_,_]) rfl (nb9 rfl) (clv rfl (.cons (VLe.refl _) (.nil)) (checkpoint_shareR (mc _ (getD_mem (show i < c.length by omega) raw0))) (nt rfl (OL.nil (AW.cond rfl (fun b5 => ?_) (fun b5 => ?_)))))))
       ·have b5 : shareR (c.getD i raw0) = false := by simpa using b5
        have hdr := colA_4 cw9 hro (c := c) (.inr fun s => by rw [s _ (getD_mem (show i < c.length by omega) raw0)] at b5; cases b5)
        exact AW.sg hE rfl (asM rfl (asD rfl (OL.nil (AW.ret (RetQ.r ⟨_, .tmp rfl (.tmp rfl .nil), _, .cons (.le (by rw [hdr]; exact VLe.mt)) (.cons (.le (VLe.int (by rw [hdr]))) .nil), rfl⟩)))))
       ·have b5 : shareR (c.getD i raw0) = true := by simpa using b5
        refine AW.skip (AW.rg hE rfl (add_i64 rfl rfl (by omega) (mvD rfl (OL.nil ?_))))
        exact AW.again (x := i) (i + 1) (by omega) ⟨⟨by omega, upto_stp h4 b5⟩, Knows.app (.cons (VLe.refl _) (.cons (VLe.refl _) (.cons (VLe.refl _) (.cons (VLe.refl _) (.cons (VLe.refl _) (.cons (VLe.refl _) (.cons (VLe.refl _) .nil))))))) (.cons (VLe.refl _) .nil), Owns.app (.cons rfl .nil) (.nil)⟩
      ·try simp only [dx9] at h48
       refine AW.exit (AW.seq (AW.boxW 5 (cellsHM (hm h)) rfl (vles_of_eq (V.ag.inj hv)) ?_))
       obtain ⟨fr, rfl⟩ : ∃ d : Nat, fr = (d : Int) := ⟨fr.toNat, by omega⟩
       obtain ⟨n, rfl⟩ : ∃ d : Nat, to = ((fr + d : Nat) : Int) := ⟨(to - fr).toNat, by omega⟩
       have hsc : SharesR c := fun r hr => by obtain ⟨j, hj, rfl⟩ := mem_ix raw0 hr; exact h4 j (by omega)
       rw [colA_0 cw9 hro b4 hsc, Int.toNat_natCast, show (((fr + n : Nat) : Int) - (fr : Int) + 1).toNat = n + 1 by omega]
       have hst9 := chkP_st cp
       have hcl : (c.map Raw.q).length = if fr = 0 then 0 else (hm h).st := by
         rw [List.length_map]
         by_cases e : fr = 0
         ·rw [if_pos e]; rw [if_pos (by omega)] at b4; omega
         ·rw [if_neg e]; rw [if_neg (by omega)] at b4; omega
       have hcq : dRs c = dQs (c.map Raw.q) := dRs_eq hsc mc
       have hcs : Small 1048576 (c.map Raw.q) := MedL.small mc
       generalize hm h = h at *
       have f := g.form
       have k1 := k.1
       have n1 := f.st1
       refine AW.rg hE rfl (asM rfl (OL.nil (AW.seq (AW.sg hE rfl (mvD rfl (asD rfl (OL.nil ?_)))))))
       refine AW.block (AW.own 16 71 T.Rats 1 rfl rfl ?_)
       refine AW.whileK (α := Nat × Nat × Nat) [(1, _), (3, _), (5, _)] [(5, _)] (fun (m, q, p) => [(4, .d (dQs (colG h w fr (c.map Raw.q) m))), (16, .osl 71 q m p), (17, .d (dI ((fr + m : Nat))))]) (fun (m, q, p) => [(71, .row q p T.Rats 1 ((colsG h w fr (c.map Raw.q) m).map dQs))]) (fun (m, q, p) => m ≤ n + 1) (fun (m, q, p) => n + 1 - m) (0, 0, 0) (.cons (knD rfl) (.cons (knD rfl) (.cons (knP rfl) .nil))) (.cons (owB rfl) .nil) ⟨Nat.zero_le _, .cons (vle_of_eq (congrArg V.d hcq)) (.cons (VLe.refl _) (.cons (VLe.refl _) .nil)), .cons rfl .nil⟩ ?_
       rintro ⟨m, q, p⟩ h5
       have h5 : m ≤ n + 1 := h5
       have hml := colsG_len h w fr (c.map Raw.q) m
       refine AW.seq (AW.sg hE rfl (mvD rfl (mvD rfl (c_leq rfl rfl rfl (OL.nil (AW.cond rfl (fun h58 => ?_) (fun h58 => ?_)))))))
       ·try simp only [dx9] at h58
        refine AW.skip (AW.seq (AW.block (AW.seq ?_)))
        have hx := k.symX (t := fr + m) (by omega)
        have hzm := colG_sz f w fr hcs m
        have hlm : (colG h w fr (c.map Raw.q) m).length = 0 ∨ (colG h w fr (c.map Raw.q) m).length = h.st := by
          cases m with
          | zero => show (c.map Raw.q).length = 0 ∨ (c.map Raw.q).length = h.st; rw [hcl]; split; exact .inl rfl; exact .inr rfl
          | succ m => exact .inr (colG_len h w fr _ m)
        refine AW.dg 1 [0,1,2,3,4,5,6,7] order_free hE rfl (by kernel_rfl) (OI.of_OL (os := [_,_,_,_,_,_,_,_]) rfl ?_)
        refine ldPA ag.Hidden rfl rfl (vs := [_,_,_,_,_,_,_,_,_,_,_]) rfl (nb9 rfl) (mvD rfl (mvD rfl (ixLn sl.ints 0 rfl rfl (by omega) rfl rfl (ldRC ce.int rfl ?_))))
        rw [hx.2]
        refine mvD rfl (clv rfl (.cons (VLe.refl _) (.cons (VLe.refl _) (.cons (VLe.refl _) (.nil)))) (checkpoint_after f hx.1 hlm hzm ⟨by omega, by omega⟩) ?_)
        rw [show colX h (symX w (fr + m)) (colG h w fr (c.map Raw.q) m) = colG h w fr (c.map Raw.q) (m + 1) from rfl]
        refine asD rfl (OL.nil (AW.rg hE rfl (mvO rfl (mvD rfl (lt1 (y := dQs (colG h w fr (c.map Raw.q) (m + 1))) sl.Ratss (VC.d _).vd rfl (by decide) ?_)))))
        refine apO sl.Ratss rfl rfl rfl (by rw [List.length_map, hml]) (VC.d _) (fun y hy => by rw [List.mem_singleton.1 hy]; rfl) (by simp only [List.length_singleton]; omega) (by simp only [List.length_singleton]; omega) (.inr rfl) (ys := (colsG h w fr (c.map Raw.q) (m + 1)).map dQs) (by rw [colsG_succ, List.map_append]; rfl) (n2 := m + 1) (by simp) fun q2 c2 => ?_
        refine asO rfl (OL.nil (AW.rg hE rfl (mvD rfl (add_i64 rfl rfl (by omega) (asD rfl (OL.nil ?_))))))
        exact AW.again (x := (m, q, p)) (m + 1, q2, c2) (by (simp only []; omega)) ⟨by omega, Knows.app (.cons (VLe.refl _) (.cons (VLe.refl _) (.cons (VLe.refl _) .nil))) (.cons (VLe.refl _) (.cons (VLe.refl _) (.cons (VLe.refl _) .nil))), Owns.app (.cons rfl .nil) (.cons rfl .nil)⟩
       ·try simp only [dx9] at h58
        refine AW.exit (AW.seq ?_)
        obtain rfl : m = n + 1 := by omega
        exact AW.rg hE rfl (mvO rfl (asO rfl (asD rfl (OL.nil (AW.ret (RetQ.r ⟨_, .tmp rfl (.tmp rfl .nil), _, .cons (RO.row rfl (by rw [List.length_map, hml]) rfl) (.cons (.le (VLe.refl _)) .nil), rfl⟩))))))
end Go.Proofs.YtjghehkgmanmbaaGreat

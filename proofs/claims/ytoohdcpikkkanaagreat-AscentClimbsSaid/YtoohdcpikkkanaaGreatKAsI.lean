/-
  Walks for chapter 39, part 9: the likelihood of data and its bounds (printed by mk2.py).
-/
import Derived.Test.YtoohdcpikkkanaaGreatKAsH
import Derived.Test.YtoohdcpikkkanaaGreatKFwdB
import Derived.Test.YtoohdcpikkkanaaGreatKMod39f
set_option linter.unusedVariables false
set_option linter.unusedSimpArgs false
namespace Go.Proofs.YtoohdcpikkkanaaGreat
open Go Go.AL
theorem ascent_LikelihoodW {h : HM} {B : Nat} {X : List (List Int)} (g : h.GoodW B) (k5 : DataOK h X) (fz : ∀ w, w ∈ X → FwdSz h w ∧ sz (likF h w) ≤ 68719476736) (lz : ∀ k, k ≤ X.length → sz (lkN h X k) ≤ 68719476736) : FSpec P F.ascent_Likelihood [vHM h, .d (dIss X)] (.tup [vQ (lkN h X X.length), .d (dI 0)]) := by
 have f := g.form
 have n0 := f.st0
 have n1 := f.st1
 have s1 := f.sym1
 have k1 := k5.len
 refine FSpec.intro fn.ascent_Likelihood (by rfl) (by rfl) (nb9 (by rfl)) fun E hE => (AW.sg hE rfl (bxA rfl rfl fun b2 => (al z.Rat rfl fun b4 => (asD rfl (OL.nil (AW.seq (AW.sg hE rfl ?_)))))))
 refine ldPA ag.Hidden rfl rfl (vs := [_,_,_,_,_,_,_,_,_,_,_]) rfl (nb9 rfl) (mvD rfl (clv rfl (.cons (VLe.refl _) (.cons (VLe.refl _) (.nil))) (ascent_refuseW g k5) (asD rfl (OL.nil (AW.sg hE rfl (mvD rfl (c_neq rfl rfl (c := false) (by exact cne_f (by omega)) ?_)))))))
 refine OL.nil (AW.cond rfl (fun hno => absurd hno (by decide)) (fun _ => ?_))
 refine AW.skip (AW.sg hE rfl (clv rfl (.cons (VLe.refl _) (.nil)) (ascent_whole (n := 1) (by omega)) ?_))
 rw [show ((1 : Nat) : Rat) = lkN h X 0 from rfl]
 refine al z.Rat rfl fun b7 => (sto sz.Rat rfl rfl rfl rfl rfl (nb9 rfl) (cells2 := [_,_,_]) rfl (OL.nil (AW.seq (AW.sg hE rfl (mvD rfl (lnL sl.intss rfl rfl (mvD rfl ?_)))))))
 refine OL.nil (AW.block ?_)
 refine AW.whileK (α := Nat) [(2, _), (4, _), (7, _), (20, _), (21, _)] [(2, _)] (fun k => [(22, .d (dI k))]) (fun k => [(4, .box b4 T.Rat [.d (dB false), .mt, .mt]), (7, .box b7 T.Rat (cellsQ (lkN h X k)))]) (fun k => k ≤ X.length) (fun k => X.length - k) 0 (.cons (knP rfl) (.cons (knP rfl) (.cons (knP rfl) (.cons (knD rfl) (.cons (knD rfl) .nil))))) (.cons (owB rfl) .nil) ⟨Nat.zero_le _, .cons (VLe.refl _) .nil, .cons rfl (.cons rfl .nil)⟩ ?_
 intro k h1
 have h1 : k ≤ X.length := h1
 refine AW.sg hE rfl (c_lss rfl rfl rfl (OL.nil (AW.seq (AW.cond rfl (fun h23 => ?_) (fun h23 => ?_)))))
 ·try simp only [dx9] at h23
  refine AW.skip (AW.seq (AW.block (AW.seq ?_)))
  have hk : k < X.length := by omega
  have kw := k5.get hk
  have z1 := lz k h1
  have z2 := fz _ (getD_mem hk [])
  refine AW.rg hE rfl (ixLn sl.intss [] rfl rfl (by omega) rfl rfl (ldRC ce.ints rfl (asD rfl (OL.nil (AW.sg hE rfl (ldPA ag.Hidden rfl rfl (vs := [_,_,_,_,_,_,_,_,_,_,_]) rfl (nb9 rfl) (mvD rfl ?_)))))))
  refine clv rfl (.cons (VLe.refl _) (.cons (VLe.refl _) (.nil))) (fwd_LikelihoodW g kw.1 z2.1) (mvT rfl (ex rfl rfl (ex rfl rfl (al z.Rat rfl fun b10 => (sto sz.Rat rfl rfl rfl rfl rfl (nb9 rfl) (cells2 := [_,_,_]) rfl (asD rfl (OL.nil ?_)))))))
  refine AW.seq (AW.sg hE rfl (mvD rfl (c_neq rfl rfl (c := false) (by exact cne_f (by omega)) (OL.nil (AW.cond rfl (fun hno => absurd hno (by decide)) (fun _ => ?_))))))
  refine AW.skip (AW.rg hE rfl (ldPA ag.Rat rfl rfl (vs := [_,_,_]) rfl (nb9 rfl) (ldPA ag.Rat rfl rfl (vs := [_,_,_]) rfl (nb9 rfl) (clv rfl (.cons (VLe.refl _) (.cons (VLe.refl _) (.nil))) (rational_MulQ (x := lkN h X k) (y := likF h (X.getD k [])) z1 z2.2) (sto sz.Rat rfl rfl rfl rfl rfl (nb9 rfl) (cells2 := [_,_,_]) rfl (OL.nil (AW.rg hE rfl ?_)))))))
  exact add_i64 rfl rfl (by omega) (mvD rfl (OL.nil (AW.again (x := k) (k + 1) (by omega) ⟨by omega, Knows.app (.cons (VLe.refl _) (.cons (VLe.refl _) (.cons (VLe.refl _) (.cons (VLe.refl _) (.cons (VLe.refl _) .nil))))) (.cons (VLe.refl _) .nil), Owns.app (.cons rfl .nil) (.cons rfl (.cons rfl .nil))⟩)))
 ·try simp only [dx9] at h23
  refine AW.exit (AW.seq ?_)
  obtain rfl : k = X.length := by omega
  exact AW.rg hE rfl (ldPA ag.Rat rfl rfl (vs := [_,_,_]) rfl (nb9 rfl) (sto sz.Rat rfl rfl rfl rfl rfl (nb9 rfl) (cells2 := [_,_,_]) rfl (asD rfl (OL.nil (AW.ret (RetQ.r ⟨_, .cellA rfl rfl ag.Rat (nb9 rfl) (.tmp rfl .nil), _, .cons (.ag (.cons (.le (VLe.refl _)) (.cons (.le (VLe.refl _)) (.cons (.le (VLe.refl _)) .nil)))) (.cons (.le (VLe.refl _)) .nil), rfl⟩))))))
theorem ascent_Likelihood {h : HM} {B : Nat} {X : List (List Int)} (g : h.Good B) (k5 : DataOK h X) : FSpec P F.ascent_Likelihood [vHM h, .d (dIss X)] (.tup [vQ (lkN h X X.length), .d (dI 0)]) := by
 have k1 := k5.len
 exact ascent_LikelihoodW g.w k5 (fun w hw => ⟨fwdSz g.form (k5.word w hw).2, Nat.le_trans (lik_sz g.form (k5.word w hw).2) (by decide)⟩) fun k hk => by have := lk_sz g.form k5 k hk; omega
set_option maxRecDepth 6000 in
set_option maxHeartbeats 3200000 in
theorem ascent_bound {h : HM} {B fc : Nat} {cap : V} {w : List Int} {r : Rat → Rat} (g : h.Good B) (k : WordOK h w) (fw : Few h w) (hr : Rnd r) (hf : ∀ q, sz q ≤ 68719476736 → FSpec P fc [vQ q, cap] (vQ (r q))) : FSpec P F.ascent_bound [vHM h, .d (ints w), .fn fc [cap]] (vQ (bndF r h w)) := by
 have f := g.form
 have n0 := f.st0
 have n1 := f.st1
 have s1 := f.sym1
 have k1 := k.1
 have fl := fw.len
 have fs := fw.st
 have zE := f.zE
 have bB := f.bB
 have e2 := f.trans
 have e3 := f.stop
 have e4 := f.emit
 refine FSpec.intro fn.ascent_bound (by rfl) (by rfl) (nb9 (by rfl)) fun E hE => (AW.sg hE rfl (bxA rfl rfl fun b3 => (al z.Rat rfl fun b6 => (OL.nil (AW.seq (AW.sg hE rfl (mvD rfl ?_)))))))
 refine lnL sl.ints rfl rfl (c_eql rfl rfl rfl (OL.nil (AW.cond rfl (fun h0 => ?_) (fun h0 => ?_))))
 ·have h0 : w.length = 0 := by have := of_decide_eq_true h0; omega
  rw [show bndF r h w = r h.empty from if_pos h0]
  exact AW.sg hE rfl (mvF rfl (faP fd.Hidden_2 rfl rfl (ldPA ag.Rat rfl rfl (vs := [_,_,_]) rfl (nb9 rfl) (clv rfl (.cons (VLe.refl _) (.cons (VLe.refl _) (.nil))) (hf h.empty (by omega)) (sto sz.Rat rfl rfl rfl rfl rfl (nb9 rfl) (cells2 := [_,_,_]) rfl (OL.nil (AW.ret (RetQ.r ⟨_, .cellA rfl rfl ag.Rat (nb9 rfl) .nil, .ag (.cons (.le (VLe.refl _)) (.cons (.le (VLe.refl _)) (.cons (.le (VLe.refl _)) .nil)))⟩))))))))
 ·have h0 : w.length ≠ 0 := fun e => of_decide_eq_false h0 (by omega)
  rw [show bndF r h w = r (likN h (bVec r h w w.length) h.st) from if_neg h0]
  refine AW.skip (AW.sg hE rfl (faP fd.Hidden_3 rfl rfl (ldPC ce.Rats rfl rfl rfl (asD rfl (OL.nil (AW.seq (AW.sg hE rfl ?_)))))))
  refine mvD rfl (lnL sl.ints rfl rfl (mvD rfl (OL.nil (AW.block ?_))))
  refine AW.whileK (α := Nat) [(2, _), (3, _), (6, _), (27, _), (28, _)] [(3, _), (6, _)] (fun t => [(7, .d (dQs (bVec r h w t))), (29, .d (dI t))]) (fun t => []) (fun t => t ≤ w.length) (fun t => w.length - t) 0 (.cons (knF rfl) (.cons (knP rfl) (.cons (knP rfl) (.cons (knD rfl) (.cons (knD rfl) .nil))))) (.cons (owB rfl) (.cons (owB rfl) .nil)) ⟨Nat.zero_le _, .cons (VLe.refl _) (.cons (VLe.refl _) .nil), .nil⟩ ?_
  intro t h1
  have h1 : t ≤ w.length := h1
  have hvl : (bVec r h w t).length = h.st := bVec_len f w t
  have zv := bVec_smallB f fw hr h1
  refine AW.sg hE rfl (c_lss rfl rfl rfl (OL.nil (AW.seq (AW.cond rfl (fun h30 => ?_) (fun h30 => ?_)))))
  ·try simp only [dx9] at h30
   refine AW.skip (AW.seq (AW.block (AW.seq ?_)))
   have hx := k.symX (t := t) (by omega)
   refine AW.rg hE rfl (mvD rfl (ixLn sl.ints 0 rfl rfl (by omega) rfl rfl (ldRC ce.int rfl ?_)))
   rw [hx.2]
   refine asD rfl (asD rfl (OL.nil (AW.sg hE rfl (faP fd.Hidden_1 rfl rfl (ldPC ce.int rfl rfl rfl (mkL dQ 0 sl.Rats z.Rat vcs_q0 (n := h.st) (cp := h.st) rfl rfl (Nat.le_refl _) (by omega) (by omega) rfl fun b36 => (asO rfl ?_)))))))
   refine OL.nil (AW.seq (AW.sg hE rfl (mvO rfl (lnO sl.Rats rfl rfl (mvD rfl (OL.nil (AW.block ?_)))))))
   refine AW.whileK (α := Nat) [(2, _), (3, _), (6, _), (7, _), (8, _), (9, _), (10, _), (27, _), (28, _), (29, _), (38, _)] [(3, _), (6, _)] (fun i => [(39, .d (dI i))]) (fun i => [(36, .row b36 h.st T.Rat 3 ((mixA (bVec r h w (t + 1)) 0 h.st i).map dQ))]) (fun i => i ≤ h.st) (fun i => h.st - i) 0 (.cons (knF rfl) (.cons (knP rfl) (.cons (knP rfl) (.cons (knD rfl) (.cons (knD rfl) (.cons (knD rfl) (.cons (knO rfl) (.cons (knD rfl) (.cons (knD rfl) (.cons (knD rfl) (.cons (knD rfl) .nil))))))))))) (.cons (owB rfl) (.cons (owB rfl) .nil)) ⟨Nat.zero_le _, .cons (VLe.refl _) .nil, .cons (by rw [mixA_zero]; rfl) .nil⟩ ?_
   intro i h2
   have h2 : i ≤ h.st := h2
   have hul := mixA_len (bVec r h w (t + 1)) 0 h.st i
   refine AW.sg hE rfl (c_lss rfl rfl rfl (OL.nil (AW.seq (AW.cond rfl (fun h40 => ?_) (fun h40 => ?_)))))
   ·try simp only [dx9] at h40
    refine AW.skip (AW.seq (AW.block (AW.seq ?_)))
    have hi : i < h.st := by omega
    have er := f.erow i hi
    have ze := em_sz f i (symX w t)
    have zi := zv.get (by decide) i
    have hnw : (bVec r h w (t + 1)).getD i 0 = r (mixU h (bVec r h w t) t i * emQ h i (symX w t)) := bNew_get hi
    have zu := mixU_sz f fs zv (by decide) t i
    refine AW.rg hE rfl (mvD rfl (asD rfl (OL.nil (AW.sg hE rfl (mvD rfl (mvD rfl (ixLn sl.Rats 0 rfl rfl (by omega) rfl rfl ?_)))))))
    refine ldRA ag.Rat rfl (vs := [_,_,_]) rfl (nb9 rfl) (al z.Rat rfl fun b12 => (sto sz.Rat rfl rfl rfl rfl rfl (nb9 rfl) (cells2 := [_,_,_]) rfl (OL.nil ?_)))
    refine AW.midK (α := Unit) [(2, _), (3, _), (6, _), (7, _), (8, _), (9, _), (10, _), (11, _), (12, _), (27, _), (28, _), (29, _), (38, _), (39, _)] [(3, _), (6, _), (36, _)] (fun _u => []) (fun _u => [(12, .box b12 T.Rat (cellsQ (mixU h (bVec r h w t) t i)))]) (fun _u => True) (.cons (knF rfl) (.cons (knP rfl) (.cons (knP rfl) (.cons (knD rfl) (.cons (knD rfl) (.cons (knD rfl) (.cons (knO rfl) (.cons (knD rfl) (.cons (knP rfl) (.cons (knD rfl) (.cons (knD rfl) (.cons (knD rfl) (.cons (knD rfl) (.cons (knD rfl) .nil)))))))))))))) (.cons (owB rfl) (.cons (owB rfl) (.cons (owR rfl) .nil))) ?_ ?_
    ·refine AW.sg hE rfl (mvD rfl (c_gtr rfl rfl rfl (OL.nil (AW.cond rfl (fun ht => ?_) (fun ht => ?_)))))
     ·have ht : t ≠ 0 := by have := of_decide_eq_true ht; omega
      refine AW.sg hE rfl (bd z.Rat pl.Rat (cs := [_,_,_]) rfl (sto sz.Rat rfl rfl rfl rfl rfl (nb9 rfl) (cells2 := [_,_,_]) rfl (OL.nil (AW.sg hE rfl (mvD rfl (lnL sl.Rats rfl rfl (mvD rfl ?_)))))))
      refine OL.nil (AW.block (AW.boxW 12 (cellsQ 0) rfl vles_q ?_))
      refine AW.whileK (α := Nat) [(2, _), (3, _), (6, _), (7, _), (8, _), (9, _), (10, _), (11, _), (12, _), (27, _), (28, _), (29, _), (38, _), (39, _), (49, _), (50, _)] [(3, _), (6, _), (36, _)] (fun j => [(51, .d (dI j))]) (fun j => [(12, .box b12 T.Rat (cellsQ (sumN (fun j => (bVec r h w t).getD j 0 * trQ h j i) j)))]) (fun j => j ≤ h.st) (fun j => h.st - j) 0 (.cons (knF rfl) (.cons (knP rfl) (.cons (knP rfl) (.cons (knD rfl) (.cons (knD rfl) (.cons (knD rfl) (.cons (knO rfl) (.cons (knD rfl) (.cons (knP rfl) (.cons (knD rfl) (.cons (knD rfl) (.cons (knD rfl) (.cons (knD rfl) (.cons (knD rfl) (.cons (knD rfl) (.cons (knD rfl) .nil)))))))))))))))) (.cons (owB rfl) (.cons (owB rfl) (.cons (owR rfl) .nil))) ⟨Nat.zero_le _, .cons (VLe.refl _) .nil, .cons rfl .nil⟩ ?_
      intro j h3
      have h3 : j ≤ h.st := h3
      have zs := colsum_sz (n := j) f zv (by decide) (by omega) i
      refine AW.sg hE rfl (c_lss rfl rfl rfl (OL.nil (AW.seq (AW.cond rfl (fun h52 => ?_) (fun h52 => ?_)))))
      ·try simp only [dx9] at h52
       refine AW.skip (AW.seq (AW.block (AW.seq ?_)))
       have trj := f.trow j (by omega)
       have zt := tr_sz f j i
       have zj := zv.get (by decide) j
       have zm := sz_mul ((bVec r h w t).getD j 0) (trQ h j i)
       refine AW.rg hE rfl (mvD rfl (ixLn sl.Rats 0 rfl rfl (by omega) rfl rfl (ldRA ag.Rat rfl (vs := [_,_,_]) rfl (nb9 rfl) (al z.Rat rfl fun b14 => (asD rfl (sto sz.Rat rfl rfl rfl rfl rfl (nb9 rfl) (cells2 := [_,_,_]) rfl (OL.nil ?_)))))))
       refine AW.dg 1 [0,1,2,3,4,5,6,7,8,9,10,11,12] order_free hE rfl (by kernel_rfl) (OI.of_OL (os := [_,_,_,_,_,_,_,_,_,_,_,_,_]) rfl ?_)
       refine ldPA ag.Rat rfl rfl (vs := [_,_,_]) rfl (nb9 rfl) (ldPA ag.Rat rfl rfl (vs := [_,_,_]) rfl (nb9 rfl) (faP fd.Hidden_4 rfl rfl (ldPC ce.Ratss rfl rfl rfl (mvD rfl (ixLn sl.Ratss [] rfl rfl (by omega) rfl rfl (ldRC ce.Rats rfl (mvD rfl ?_)))))))
       refine ixLn sl.Rats 0 rfl rfl (by omega) rfl rfl (ldRA ag.Rat rfl (vs := [_,_,_]) rfl (nb9 rfl) (clv rfl (.cons (VLe.refl _) (.cons (VLe.refl _) (.nil))) (rational_MulQ (x := (bVec r h w t).getD j 0) (y := trQ h j i) (by omega) (by omega)) (clv rfl (.cons (VLe.refl _) (.cons (VLe.refl _) (.nil))) (rational_AddQ (x := (sumN (fun j => (bVec r h w t).getD j 0 * trQ h j i) j)) (y := (bVec r h w t).getD j 0 * trQ h j i) (by omega) (by omega)) ?_)))
       rw [show (sumN (fun j => (bVec r h w t).getD j 0 * trQ h j i) j) + (bVec r h w t).getD j 0 * trQ h j i = (sumN (fun j => (bVec r h w t).getD j 0 * trQ h j i) (j + 1)) from rfl]
       refine sto sz.Rat rfl rfl rfl rfl rfl (nb9 rfl) (cells2 := [_,_,_]) rfl (OL.nil (AW.rg hE rfl (add_i64 rfl rfl (by omega) (mvD rfl (OL.nil ?_)))))
       exact AW.again (x := j) (j + 1) (by omega) ⟨by omega, Knows.app (.cons (VLe.refl _) (.cons (VLe.refl _) (.cons (VLe.refl _) (.cons (VLe.refl _) (.cons (VLe.refl _) (.cons (VLe.refl _) (.cons (VLe.refl _) (.cons (VLe.refl _) (.cons (VLe.refl _) (.cons (VLe.refl _) (.cons (VLe.refl _) (.cons (VLe.refl _) (.cons (VLe.refl _) (.cons (VLe.refl _) (.cons (VLe.refl _) (.cons (VLe.refl _) .nil)))))))))))))))) (.cons (VLe.refl _) .nil), Owns.app (.cons rfl (.cons rfl (.cons rfl .nil))) (.cons rfl .nil)⟩
      ·try simp only [dx9] at h52
       refine AW.exit ?_
       obtain rfl : j = h.st := by omega
       exact AW.reach () ⟨trivial, Knows.app (.cons (VLe.refl _) (.cons (VLe.refl _) (.cons (VLe.refl _) (.cons (VLe.refl _) (.cons (VLe.refl _) (.cons (VLe.refl _) (.cons (VLe.refl _) (.cons (VLe.refl _) (.cons (VLe.refl _) (.cons (VLe.refl _) (.cons (VLe.refl _) (.cons (VLe.refl _) (.cons (VLe.refl _) (.cons (VLe.refl _) .nil)))))))))))))) (.nil), Owns.app (.cons rfl (.cons rfl (.cons rfl .nil))) (.cons (by rw [show mixU h (bVec r h w t) t i = (sumN (fun j => (bVec r h w t).getD j 0 * trQ h j i) h.st) from if_neg ht]; rfl) .nil)⟩
     ·have ht : t = 0 := by have := of_decide_eq_false ht; omega
      refine AW.skip ?_
      exact AW.reach () ⟨trivial, Knows.app (.cons (VLe.refl _) (.cons (VLe.refl _) (.cons (VLe.refl _) (.cons (VLe.refl _) (.cons (VLe.refl _) (.cons (VLe.refl _) (.cons (VLe.refl _) (.cons (VLe.refl _) (.cons (VLe.refl _) (.cons (VLe.refl _) (.cons (VLe.refl _) (.cons (VLe.refl _) (.cons (VLe.refl _) (.cons (VLe.refl _) .nil)))))))))))))) (.nil), Owns.app (.cons rfl (.cons rfl (.cons rfl .nil))) (.cons (by rw [show mixU h (bVec r h w t) t i = (bVec r h w t).getD i 0 from if_pos ht]; rfl) .nil)⟩
    rintro ⟨⟩ hφ
    have zmm := sz_mul (mixU h (bVec r h w t) t i) (emQ h i (symX w t))
    refine AW.dg 1 [0,1,2,3,4,5,6,7,8,9,10,11,12,13,14,15,16] order_free hE rfl (by kernel_rfl) (OI.of_OL (os := [_,_,_,_,_,_,_,_,_,_,_,_,_,_,_,_,_]) rfl ?_)
    refine mvO rfl (mvD rfl (mvF rfl (ldPA ag.Rat rfl rfl (vs := [_,_,_]) rfl (nb9 rfl) (faP fd.Hidden_6 rfl rfl (ldPC ce.Ratss rfl rfl rfl (mvD rfl (ixLn sl.Ratss [] rfl rfl (by omega) rfl rfl ?_)))))))
    refine ldRC ce.Rats rfl (mvD rfl (bo rfl rfl (bin_sub (c := (symX w t : Int)) (by omega) (wrap_i64 (by omega))) (ixLn sl.Rats 0 rfl rfl (by omega) rfl rfl (ldRA ag.Rat rfl (vs := [_,_,_]) rfl (nb9 rfl) (clv rfl (.cons (VLe.refl _) (.cons (VLe.refl _) (.nil))) (rational_MulQ (x := mixU h (bVec r h w t) t i) (y := emQ h i (symX w t)) (by omega) (by omega)) (clv rfl (.cons (VLe.refl _) (.cons (VLe.refl _) (.nil))) (hf (mixU h (bVec r h w t) t i * emQ h i (symX w t)) (by omega)) (ixOn sl.Rats rfl rfl (by omega) ?_)))))))
    refine stE sz.Rat rfl vd_q rfl rfl (by rw [List.length_map]; omega) (es2 := (mixA (bVec r h w (t + 1)) 0 h.st (i + 1)).map dQ) (by rw [← mixA_set hi hnw]; exact List.map_set.symm) (OL.nil (AW.rg hE rfl (add_i64 rfl rfl (by omega) (mvD rfl (OL.nil ?_)))))
    exact AW.again (x := i) (i + 1) (by omega) ⟨by omega, Knows.app (.cons (VLe.refl _) (.cons (VLe.refl _) (.cons (VLe.refl _) (.cons (VLe.refl _) (.cons (VLe.refl _) (.cons (VLe.refl _) (.cons (VLe.refl _) (.cons (VLe.refl _) (.cons (VLe.refl _) (.cons (VLe.refl _) (.cons (VLe.refl _) .nil))))))))))) (.cons (VLe.refl _) .nil), Owns.app (.cons rfl (.cons rfl .nil)) (.cons rfl .nil)⟩
   ·try simp only [dx9] at h40
    refine AW.exit ?_
    obtain rfl : i = h.st := by omega
    refine AW.freeze 36 rfl ?_
    refine AW.to [(2, .fn fc [cap]), (3, .ptr 3 b3 0), (6, .ptr 6 b6 0), (10, .d (dQs (bVec r h w (t + 1)))), (27, .d (ints w)), (28, .d (dI w.length)), (29, .d (dI t))] [(3, .box b3 T.Hidden (cellsHM h)), (6, .box b6 T.Rat [.d (dB false), .mt, .mt])] (.cons (VLe.refl _) (.cons (VLe.refl _) (.cons (VLe.refl _) (.cons (frz_osl (by rw [List.length_map, mixA_len]) (by rw [mixA_all (bVec_len f w (t + 1)) (Nat.le_refl _)])) (.cons (VLe.refl _) (.cons (VLe.refl _) (.cons (VLe.refl _) .nil))))))) (.cons rfl (.cons rfl .nil)) ?_
    refine AW.rg hE rfl (mvD rfl (asD rfl (OL.nil (AW.rg hE rfl (add_i64 rfl rfl (by omega) (mvD rfl (OL.nil ?_)))))))
    exact AW.again (x := t) (t + 1) (by omega) ⟨by omega, Knows.app (.cons (VLe.refl _) (.cons (VLe.refl _) (.cons (VLe.refl _) (.cons (VLe.refl _) (.cons (VLe.refl _) .nil))))) (.cons (VLe.refl _) (.cons (VLe.refl _) .nil)), Owns.app (.cons rfl (.cons rfl .nil)) (.nil)⟩
  ·try simp only [dx9] at h30
   refine AW.exit (AW.seq ?_)
   obtain rfl : t = w.length := by omega
   refine AW.rg hE rfl (bd z.Rat pl.Rat (cs := [_,_,_]) rfl (al z.Rat rfl fun b15 => (sto sz.Rat rfl rfl rfl rfl rfl (nb9 rfl) (cells2 := [_,_,_]) rfl (OL.nil (AW.seq (AW.sg hE rfl (mvD rfl ?_)))))))
   refine lnL sl.Rats rfl rfl (mvD rfl (OL.nil (AW.block (AW.boxW 15 (cellsQ 0) rfl vles_q ?_))))
   refine AW.whileK (α := Nat) [(2, _), (3, _), (6, _), (15, _), (89, _), (90, _)] [(3, _), (6, _)] (fun i => [(91, .d (dI i))]) (fun i => [(15, .box b15 T.Rat (cellsQ (likN h (bVec r h w w.length) i)))]) (fun i => i ≤ h.st) (fun i => h.st - i) 0 (.cons (knF rfl) (.cons (knP rfl) (.cons (knP rfl) (.cons (knP rfl) (.cons (knD rfl) (.cons (knD rfl) .nil)))))) (.cons (owB rfl) (.cons (owB rfl) .nil)) ⟨Nat.zero_le _, .cons (VLe.refl _) .nil, .cons rfl .nil⟩ ?_
   intro i h2
   have h2 : i ≤ h.st := h2
   have zl := likN_szB (n := i) f zv (by omega)
   refine AW.sg hE rfl (c_lss rfl rfl rfl (OL.nil (AW.seq (AW.cond rfl (fun h92 => ?_) (fun h92 => ?_)))))
   ·try simp only [dx9] at h92
    refine AW.skip (AW.seq (AW.block (AW.seq ?_)))
    have zi := zv.get (by decide) i
    have zt := stop_sz f i
    have zm := sz_mul ((bVec r h w w.length).getD i 0) (h.stop.getD i 0)
    refine AW.rg hE rfl (mvD rfl (ixLn sl.Rats 0 rfl rfl (by omega) rfl rfl (ldRA ag.Rat rfl (vs := [_,_,_]) rfl (nb9 rfl) (al z.Rat rfl fun b17 => (asD rfl (sto sz.Rat rfl rfl rfl rfl rfl (nb9 rfl) (cells2 := [_,_,_]) rfl (OL.nil ?_)))))))
    refine AW.dg 1 [0,1,2,3,4,5,6,7,8,9] order_free hE rfl (by kernel_rfl) (OI.of_OL (os := [_,_,_,_,_,_,_,_,_,_]) rfl ?_)
    refine ldPA ag.Rat rfl rfl (vs := [_,_,_]) rfl (nb9 rfl) (ldPA ag.Rat rfl rfl (vs := [_,_,_]) rfl (nb9 rfl) (faP fd.Hidden_5 rfl rfl (ldPC ce.Rats rfl rfl rfl (mvD rfl (ixLn sl.Rats 0 rfl rfl (by omega) rfl rfl (ldRA ag.Rat rfl (vs := [_,_,_]) rfl (nb9 rfl) (clv rfl (.cons (VLe.refl _) (.cons (VLe.refl _) (.nil))) (rational_MulQ (x := (bVec r h w w.length).getD i 0) (y := h.stop.getD i 0) (by omega) (by omega)) ?_)))))))
    refine clv rfl (.cons (VLe.refl _) (.cons (VLe.refl _) (.nil))) (rational_AddQ (x := likN h (bVec r h w w.length) i) (y := (bVec r h w w.length).getD i 0 * h.stop.getD i 0) (by omega) (by omega)) ?_
    rw [show likN h (bVec r h w w.length) i + (bVec r h w w.length).getD i 0 * h.stop.getD i 0 = likN h (bVec r h w w.length) (i + 1) from rfl]
    refine sto sz.Rat rfl rfl rfl rfl rfl (nb9 rfl) (cells2 := [_,_,_]) rfl (OL.nil (AW.rg hE rfl (add_i64 rfl rfl (by omega) (mvD rfl (OL.nil ?_)))))
    exact AW.again (x := i) (i + 1) (by omega) ⟨by omega, Knows.app (.cons (VLe.refl _) (.cons (VLe.refl _) (.cons (VLe.refl _) (.cons (VLe.refl _) (.cons (VLe.refl _) (.cons (VLe.refl _) .nil)))))) (.cons (VLe.refl _) .nil), Owns.app (.cons rfl (.cons rfl .nil)) (.cons rfl .nil)⟩
   ·try simp only [dx9] at h92
    refine AW.exit (AW.seq ?_)
    obtain rfl : i = h.st := by omega
    exact AW.rg hE rfl (mvF rfl (ldPA ag.Rat rfl rfl (vs := [_,_,_]) rfl (nb9 rfl) (clv rfl (.cons (VLe.refl _) (.cons (VLe.refl _) (.nil))) (hf (likN h (bVec r h w w.length) h.st) (by omega)) (sto sz.Rat rfl rfl rfl rfl rfl (nb9 rfl) (cells2 := [_,_,_]) rfl (OL.nil (AW.ret (RetQ.r ⟨_, .cellA rfl rfl ag.Rat (nb9 rfl) .nil, .ag (.cons (.le (VLe.refl _)) (.cons (.le (VLe.refl _)) (.cons (.le (VLe.refl _)) .nil)))⟩)))))))
theorem enclose_1 {q : Rat} {K : Nat} (hq : sz q ≤ 68719476736) (hK : K ≤ 256) : FSpec P F.ascent_Enclose_1 [vQ q, .ref [dI K]] (vQ (downQ q K)) := by
 refine FSpec.intro fn.ascent_Enclose_1 (by rfl) (by rfl) (nb9 (by rfl)) fun E hE => (AW.sg hE rfl (bxA rfl rfl fun b2 => (al z.Rat rfl fun b3 => (OL.nil (AW.sg hE rfl (ldPA ag.Rat rfl rfl (vs := [_,_,_]) rfl (nb9 rfl) (ldRC ce.int rfl ?_)))))))
 exact clv rfl (.cons (VLe.refl _) (.cons (VLe.refl _) (.nil))) (rational_DownQ (q := q) (k := K) hq hK) (sto sz.Rat rfl rfl rfl rfl rfl (nb9 rfl) (cells2 := [_,_,_]) rfl (OL.nil (AW.ret (RetQ.r ⟨_, .cellA rfl rfl ag.Rat (nb9 rfl) .nil, .ag (.cons (.le (VLe.refl _)) (.cons (.le (VLe.refl _)) (.cons (.le (VLe.refl _)) .nil)))⟩))))
theorem enclose_2 {q : Rat} {K : Nat} (hq : sz q ≤ 68719476736) (hK : K ≤ 256) : FSpec P F.ascent_Enclose_2 [vQ q, .ref [dI K]] (vQ (upQ q K)) := by
 refine FSpec.intro fn.ascent_Enclose_2 (by rfl) (by rfl) (nb9 (by rfl)) fun E hE => (AW.sg hE rfl (bxA rfl rfl fun b2 => (al z.Rat rfl fun b3 => (OL.nil (AW.sg hE rfl (ldPA ag.Rat rfl rfl (vs := [_,_,_]) rfl (nb9 rfl) (ldRC ce.int rfl ?_)))))))
 exact clv rfl (.cons (VLe.refl _) (.cons (VLe.refl _) (.nil))) (rational_UpQ (q := q) (k := K) hq hK) (sto sz.Rat rfl rfl rfl rfl rfl (nb9 rfl) (cells2 := [_,_,_]) rfl (OL.nil (AW.ret (RetQ.r ⟨_, .cellA rfl rfl ag.Rat (nb9 rfl) .nil, .ag (.cons (.le (VLe.refl _)) (.cons (.le (VLe.refl _)) (.cons (.le (VLe.refl _)) .nil)))⟩))))
set_option maxRecDepth 6000 in
set_option maxHeartbeats 3200000 in
theorem ascent_Enclose {h : HM} {B K : Nat} {X : List (List Int)} (g : h.Good B) (k5 : DataOK h X) (hK : 8 ≤ K ∧ K ≤ 256) : FSpec P F.ascent_Enclose [vHM h, .d (dIss X), .d (dI K)] (.tup [.ag [.d (dB (ofQ (clsN (downQ · K) h X X.length)).neg), .d (u32s (ofQ (clsN (downQ · K) h X X.length)).num), .d (u32s (ofQ (clsN (downQ · K) h X X.length)).den), .d (dB (ofQ (clsN (upQ · K) h X X.length)).neg), .d (u32s (ofQ (clsN (upQ · K) h X X.length)).num), .d (u32s (ofQ (clsN (upQ · K) h X X.length)).den)], .d (dI 0)]) := by
 have f := g.form
 have n0 := f.st0
 have n1 := f.st1
 have s1 := f.sym1
 have k1 := k5.len
 have hfd : ∀ q, sz q ≤ 68719476736 → FSpec P F.ascent_Enclose_1 [vQ q, .ref [dI K]] (vQ (downQ q K)) := fun q hq => enclose_1 hq hK.2
 have hfu : ∀ q, sz q ≤ 68719476736 → FSpec P F.ascent_Enclose_2 [vQ q, .ref [dI K]] (vQ (upQ q K)) := fun q hq => enclose_2 hq hK.2
 have rd := rnd_dn hK.2
 have ru := rnd_up hK.2
 refine FSpec.intro fn.ascent_Enclose (by rfl) (by rfl) (nb9 (by rfl)) fun E hE => (AW.sg hE rfl (bxA rfl rfl fun b3 => (bxD rfl rfl fun b5 => (al z.Interval rfl fun b6 => (asD rfl (OL.nil (AW.seq ?_)))))))
 refine AW.sg hE rfl (ldPA ag.Hidden rfl rfl (vs := [_,_,_,_,_,_,_,_,_,_,_]) rfl (nb9 rfl) (mvD rfl (clv rfl (.cons (VLe.refl _) (.cons (VLe.refl _) (.nil))) (ascent_refuse g k5) (asD rfl (OL.nil (AW.sg hE rfl (mvD rfl ?_)))))))
 refine c_neq rfl rfl (c := false) (by exact cne_f (by omega)) (OL.nil (AW.cond rfl (fun hno => absurd hno (by decide)) (fun _ => ?_)))
 refine AW.skip (AW.seq (AW.sg hE rfl (ldPC ce.int rfl rfl rfl (c_lss rfl rfl (c := false) (by exact decide_eq_false (by omega)) (mvD rfl (OL.yes rfl (ldPC ce.int rfl rfl rfl ?_)))))))
 refine OL.yes rfl (c_gtr rfl rfl (c := false) (by exact decide_eq_false (by omega)) (pkF rfl rfl (OL.nil (AW.cond rfl (fun hno => absurd hno (by decide)) (fun _ => ?_)))))
 refine AW.skip (AW.seq (AW.freezeBox 5 [dI K] rfl (VCs.map_d [dI K]) ?_))
 refine AW.to [(1, .d (dIss X)), (3, .ptr 3 b3 0), (5, .ref [dI K]), (6, .ptr 6 b6 0), (7, .d (dI 0))] [(3, .box b3 T.Hidden (cellsHM h)), (6, .box b6 T.Interval [.d (dB false), .mt, .mt, .d (dB false), .mt, .mt])] (.cons (VLe.refl _) (.cons (VLe.refl _) (.cons (vle_of_eq (show V.frb 5 b5 [dI K] (.ptr 5 b5 0) = .ref [dI K] from frb_self)) (.cons (VLe.refl _) (.cons (VLe.refl _) .nil))))) (.cons rfl (.cons rfl .nil)) ?_
 refine AW.rg hE rfl (mkF (vs := [_]) rfl (asF rfl (OL.nil (AW.sg hE rfl (mkF (vs := [_]) rfl (asF rfl (OL.nil ?_)))))))
 refine AW.sg hE rfl (clv rfl (.cons (VLe.refl _) (.nil)) (ascent_whole (n := 1) (by omega)) ?_)
 rw [show ((1 : Nat) : Rat) = (clsN (downQ · K) h X 0) from rfl]
 refine clv rfl (.cons (VLe.refl _) (.nil)) (ascent_whole (n := 1) (by omega)) ?_
 rw [show ((1 : Nat) : Rat) = (clsN (upQ · K) h X 0) from rfl]
 refine bd z.Interval pl.Interval (cs := [_,_,_,_,_,_]) rfl (al z.Interval rfl fun b11 => (sto sz.Interval rfl rfl rfl rfl rfl (nb9 rfl) (cells2 := [_,_,_,_,_,_]) rfl (OL.nil (AW.seq (AW.sg hE rfl (mvD rfl (lnL sl.intss rfl rfl ?_)))))))
 refine mvD rfl (OL.nil (AW.block ?_))
 refine AW.whileK (α := Nat) [(3, _), (6, _), (7, _), (9, _), (10, _), (11, _), (33, _), (34, _)] [(3, _), (6, _)] (fun k => [(35, .d (dI k))]) (fun k => [(11, .box b11 T.Interval [.d (dB (ofQ (clsN (downQ · K) h X k)).neg), .d (u32s (ofQ (clsN (downQ · K) h X k)).num), .d (u32s (ofQ (clsN (downQ · K) h X k)).den), .d (dB (ofQ (clsN (upQ · K) h X k)).neg), .d (u32s (ofQ (clsN (upQ · K) h X k)).num), .d (u32s (ofQ (clsN (upQ · K) h X k)).den)])]) (fun k => k ≤ X.length) (fun k => X.length - k) 0 (.cons (knP rfl) (.cons (knP rfl) (.cons (knD rfl) (.cons (knF rfl) (.cons (knF rfl) (.cons (knP rfl) (.cons (knD rfl) (.cons (knD rfl) .nil)))))))) (.cons (owB rfl) (.cons (owB rfl) .nil)) ⟨Nat.zero_le _, .cons (VLe.refl _) .nil, .cons rfl .nil⟩ ?_
 intro k h1
 have h1 : k ≤ X.length := h1
 refine AW.sg hE rfl (c_lss rfl rfl rfl (OL.nil (AW.seq (AW.cond rfl (fun h36 => ?_) (fun h36 => ?_)))))
 ·try simp only [dx9] at h36
  refine AW.skip (AW.seq (AW.block (AW.seq ?_)))
  have hk : k < X.length := by omega
  have kw := k5.get hk
  have z1 := enc_sz f k5 rd k h1
  have z2 := enc_sz f k5 ru k h1
  have y1 := bnd_sz f kw.2 rd
  have y2 := bnd_sz f kw.2 ru
  have m1 := sz_mul (clsN (downQ · K) h X k) (bndF (downQ · K) h (X.getD k []))
  have m2 := sz_mul (clsN (upQ · K) h X k) (bndF (upQ · K) h (X.getD k []))
  refine AW.rg hE rfl (ixLn sl.intss [] rfl rfl (by omega) rfl rfl (ldRC ce.ints rfl (asD rfl (OL.nil (AW.dg 1 [0,1,2,3,4,5,6,7,8,9,10,11,12,13,14,15,16,17,18,19,20,21] order_free hE rfl (by kernel_rfl) (OI.of_OL (os := [_,_,_,_,_,_,_,_,_,_,_,_,_,_,_,_,_,_,_,_,_,_]) rfl ?_))))))
  refine mvF rfl (faP fd.Interval_0 rfl rfl (ldPA ag.Rat rfl rfl (vs := [_,_,_]) rfl (nb9 rfl) (ldPA ag.Hidden rfl rfl (vs := [_,_,_,_,_,_,_,_,_,_,_]) rfl (nb9 rfl) (mvD rfl (mvF rfl (clv rfl (.cons (VLe.refl _) (.cons (VLe.refl _) (.cons (VLe.refl _) (.nil)))) (ascent_bound g kw.1 kw.2 rd hfd) (clv rfl (.cons (VLe.refl _) (.cons (VLe.refl _) (.nil))) (rational_MulQ (x := (clsN (downQ · K) h X k)) (y := bndF (downQ · K) h (X.getD k [])) (by omega) (by omega)) ?_)))))))
  refine clv rfl (.cons (VLe.refl _) (.cons (VLe.refl _) (.nil))) (hfd ((clsN (downQ · K) h X k) * bndF (downQ · K) h (X.getD k [])) (by omega)) (mvF rfl (faP fd.Interval_1 rfl rfl (ldPA ag.Rat rfl rfl (vs := [_,_,_]) rfl (nb9 rfl) (ldPA ag.Hidden rfl rfl (vs := [_,_,_,_,_,_,_,_,_,_,_]) rfl (nb9 rfl) (mvD rfl (mvF rfl (clv rfl (.cons (VLe.refl _) (.cons (VLe.refl _) (.cons (VLe.refl _) (.nil)))) (ascent_bound g kw.1 kw.2 ru hfu) ?_)))))))
  refine clv rfl (.cons (VLe.refl _) (.cons (VLe.refl _) (.nil))) (rational_MulQ (x := (clsN (upQ · K) h X k)) (y := bndF (upQ · K) h (X.getD k [])) (by omega) (by omega)) (clv rfl (.cons (VLe.refl _) (.cons (VLe.refl _) (.nil))) (hfu ((clsN (upQ · K) h X k) * bndF (upQ · K) h (X.getD k [])) (by omega)) (faP fd.Interval_0 rfl rfl (sto sz.Rat rfl rfl rfl rfl rfl (nb9 rfl) (cells2 := [_,_,_,_,_,_]) rfl (faP fd.Interval_1 rfl rfl (sto sz.Rat rfl rfl rfl rfl rfl (nb9 rfl) (cells2 := [_,_,_,_,_,_]) rfl (OL.nil (AW.rg hE rfl ?_)))))))
  refine add_i64 rfl rfl (by omega) (mvD rfl (OL.nil ?_))
  exact AW.again (x := k) (k + 1) (by omega) ⟨by omega, Knows.app (.cons (VLe.refl _) (.cons (VLe.refl _) (.cons (VLe.refl _) (.cons (VLe.refl _) (.cons (VLe.refl _) (.cons (VLe.refl _) (.cons (VLe.refl _) (.cons (VLe.refl _) .nil)))))))) (.cons (VLe.refl _) .nil), Owns.app (.cons rfl (.cons rfl .nil)) (.cons rfl .nil)⟩
 ·try simp only [dx9] at h36
  refine AW.exit (AW.seq ?_)
  obtain rfl : k = X.length := by omega
  refine AW.rg hE rfl (ldPA ag.Interval rfl rfl (vs := [_,_,_,_,_,_]) rfl (nb9 rfl) (sto sz.Interval rfl rfl rfl rfl rfl (nb9 rfl) (cells2 := [_,_,_,_,_,_]) rfl (asD rfl (OL.nil ?_))))
  exact AW.ret (RetQ.r ⟨_, .cellA rfl rfl ag.Interval (nb9 rfl) (.tmp rfl .nil), _, .cons (.ag (.cons (.le (VLe.refl _)) (.cons (.le (VLe.refl _)) (.cons (.le (VLe.refl _)) (.cons (.le (VLe.refl _)) (.cons (.le (VLe.refl _)) (.cons (.le (VLe.refl _)) .nil))))))) (.cons (.le (VLe.refl _)) .nil), rfl⟩)
end Go.Proofs.YtoohdcpikkkanaaGreat

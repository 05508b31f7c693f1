/-
  Walks of the specification of chapter 36 on any input, part 2: the columns (printed by mk2.py).
-/
import Derived.Test.YtjghehkgmanmbaaGreatKCwD
set_option linter.unusedVariables false
set_option linter.unusedSimpArgs false
namespace Go.Proofs.YtjghehkgmanmbaaGreat
open Go Go.AL
theorem colX_take {h : HM} {x : Nat} {c : List Rat} {j : Nat} (hj : j < h.st) : (colX h x c).take (j + 1) = (colX h x c).take j ++ [colN h c j c.length * emQ h j x] := by
 rw [take_succ_getD (by simp [colX]; exact hj) 0]
 unfold colX
 rw [map_getD_range _ _ hj]
set_option maxRecDepth 6000 in
set_option maxHeartbeats 3200000 in
theorem ref36_ColumnsA {h : RM} {w : List Int} {fr to : Int} {c : List Raw} (zz : h.Sz) (nw : w.length ≤ 1048576) (mc : MedL c) (nc : c.length ≤ 1048576) : FSpec P F.ref36_Columns [vRM h, .d (ints w), .d (dI fr), .d (dI to), .d (dRs c)] (.tup [.d (dQss (colA h w fr to c).1), .d (dI (colA h w fr to c).2)]) := by
 refine FSpec.intro fn.ref36_Columns (by rfl) (by rfl) (nb9 (by rfl)) fun E hE => (AW.sg hE rfl (bxA rfl rfl fun b5 => (asM rfl (asD rfl (OL.nil (AW.seq (AW.sg hE rfl ?_)))))))
 refine ldPA ag.Hidden rfl rfl (vs := [_,_,_,_,_,_,_,_,_,_,_]) rfl (nb9 rfl) (mvD rfl (clv rfl (.cons (VLe.refl _) (.cons (VLe.refl _) (.nil))) (ref34_CheckR zz nw) (asD rfl (OL.nil (AW.sg hE rfl (mvD rfl (c_neq rfl rfl rfl ?_)))))))
 refine OL.nil (AW.cond rfl (fun cw9 => ?_) (fun cw9 => ?_))
 ·have cw9 : ¬ wrdE h w = 0 := by simpa using cw9
  have hdr := colA_e (fr := fr) (to := to) (c := c) cw9
  exact AW.sg hE rfl (mvD rfl (asM rfl (asD rfl (OL.nil (AW.ret (RetQ.r ⟨_, .tmp rfl (.tmp rfl .nil), _, .cons (.le (by rw [hdr]; exact VLe.mt)) (.cons (.le (VLe.int (by rw [hdr]))) .nil), rfl⟩))))))
 ·have cw9 : wrdE h w = 0 := by simpa using cw9
  obtain ⟨cp, k⟩ := wrdE_ok cw9
  obtain ⟨g, hv⟩ := chkP_good zz cp
  refine AW.skip (AW.seq (AW.sg hE rfl (mvD rfl (c_lss rfl rfl rfl (mvD rfl (OL.split 29 rfl (fun b1 => ?_) (fun b1 => ?_)))))))
  ·have b1 : fr < 0 := of_decide_eq_true b1
   have hdr := colA_1 cw9 (c := c) (to := to) (.inl b1)
   refine OL.no rfl (by decide) (OL.no rfl (by decide) (OL.no rfl (by decide) (pkT rfl rfl (mvD rfl (OL.no rfl (by decide) (OL.no rfl (by decide) (OL.no rfl (by decide) ?_)))))))
   refine OL.no rfl (by decide) (pkT rfl rfl (OL.nil (AW.cond rfl (fun _ => ?_) (fun hno => absurd hno (by decide)))))
   exact AW.sg hE rfl (asM rfl (asD rfl (OL.nil (AW.ret (RetQ.r ⟨_, .tmp rfl (.tmp rfl .nil), _, .cons (.le (by rw [hdr]; exact VLe.mt)) (.cons (.le (VLe.int (by rw [hdr]))) .nil), rfl⟩)))))
  ·have b1 : ¬ fr < 0 := of_decide_eq_false b1
   refine OL.yes rfl (mvD rfl (OL.yes rfl (mvD rfl (OL.yes rfl (c_gtr rfl rfl rfl (pkF rfl rfl (mvD rfl ?_)))))))
   refine OL.split 34 rfl (fun b2 => ?_) (fun b2 => ?_)
   ·have b2 : to < fr := of_decide_eq_true b2
    have hdr := colA_1 cw9 (c := c) (to := to) (.inr (.inl b2))
    refine OL.no rfl (by decide) (OL.no rfl (by decide) (OL.no rfl (by decide) (OL.no rfl (by decide) (pkT rfl rfl (OL.nil (AW.cond rfl (fun _ => ?_) (fun hno => absurd hno (by decide))))))))
    exact AW.sg hE rfl (asM rfl (asD rfl (OL.nil (AW.ret (RetQ.r ⟨_, .tmp rfl (.tmp rfl .nil), _, .cons (.le (by rw [hdr]; exact VLe.mt)) (.cons (.le (VLe.int (by rw [hdr]))) .nil), rfl⟩)))))
   ·have b2 : ¬ to < fr := of_decide_eq_false b2
    refine OL.yes rfl (mvD rfl (OL.yes rfl (mvD rfl (OL.yes rfl (lnL sl.ints rfl rfl (OL.yes rfl (c_geq rfl rfl rfl ?_)))))))
    refine pkF rfl rfl (OL.nil (AW.cond rfl (fun b3 => ?_) (fun b3 => ?_)))
    ·have b3 : (w.length : Int) ≤ to := of_decide_eq_true b3
     have hdr := colA_1 cw9 (c := c) (fr := fr) (.inr (.inr b3))
     exact AW.sg hE rfl (asM rfl (asD rfl (OL.nil (AW.ret (RetQ.r ⟨_, .tmp rfl (.tmp rfl .nil), _, .cons (.le (by rw [hdr]; exact VLe.mt)) (.cons (.le (VLe.int (by rw [hdr]))) .nil), rfl⟩)))))
    ·have b3 : ¬ (w.length : Int) ≤ to := of_decide_eq_false b3
     have hro : ¬ (fr < 0 ∨ to < fr ∨ (w.length : Int) ≤ to) := by omega
     refine AW.skip (AW.seq ?_)
     refine AW.midK (α := Unit) [(1, _), (2, _), (3, _), (4, _), (5, _), (10, _), (11, _)] [(5, _)] (fun _u => [(57, .d (dB (!decide ((c.length : Int) = if fr = 0 then 0 else h.st))))]) (fun _u => []) (fun _u => True) (.cons (knD rfl) (.cons (knD rfl) (.cons (knD rfl) (.cons (knD rfl) (.cons (knP rfl) (.cons (knM rfl) (.cons (knD rfl) .nil))))))) (.cons (owB rfl) .nil) ?_ ?_
     ·by_cases h0 : fr = 0
      ·have h09 := h0
       refine AW.rg hE rfl (mvD rfl (c_eql rfl rfl (c := true) (decide_eq_true h0) (mvD rfl (OL.yes rfl (mvD rfl (OL.yes rfl (lnL sl.Rats rfl rfl ?_)))))))
       refine OL.yes rfl (c_gtr rfl rfl rfl (pkT rfl rfl (mvD rfl (OL.split 47 rfl (fun b7 => ?_) (fun b7 => ?_)))))
       ·have b7 : (0 : Int) < c.length := of_decide_eq_true b7
        refine OL.no rfl (by decide) (OL.no rfl (by decide) (OL.no rfl (by decide) (OL.no rfl (by decide) (OL.no rfl (by decide) (OL.no rfl (by decide) (OL.no rfl (by decide) (OL.no rfl (by decide) ?_)))))))
        refine OL.no rfl (by decide) (pkT rfl rfl (OL.nil ?_))
        exact AW.reach () ⟨trivial, Knows.app (.cons (VLe.refl _) (.cons (VLe.refl _) (.cons (VLe.refl _) (.cons (VLe.refl _) (.cons (VLe.refl _) (.cons (VLe.refl _) (.cons (VLe.refl _) .nil))))))) (.cons (VLe.bool (by rw [if_pos h0, decide_eq_false (by omega)]; rfl)) .nil), Owns.app (.cons rfl .nil) (.nil)⟩
       ·have b7 : ¬ (0 : Int) < c.length := of_decide_eq_false b7
        refine OL.yes rfl (mvD rfl (OL.yes rfl (c_gtr rfl rfl (c := false) (decide_eq_false (by omega)) (OL.yes rfl (mvD rfl (OL.no rfl (by decide) (OL.no rfl (by decide) ?_)))))))
        refine OL.no rfl (by decide) (OL.no rfl (by decide) (OL.no rfl (by decide) (OL.yes rfl (pkF rfl rfl (pkF rfl rfl (OL.nil ?_))))))
        exact AW.reach () ⟨trivial, Knows.app (.cons (VLe.refl _) (.cons (VLe.refl _) (.cons (VLe.refl _) (.cons (VLe.refl _) (.cons (VLe.refl _) (.cons (VLe.refl _) (.cons (VLe.refl _) .nil))))))) (.cons (VLe.bool (by rw [if_pos h0, decide_eq_true (by omega)]; rfl)) .nil), Owns.app (.cons rfl .nil) (.nil)⟩
      ·have h09 := h0
       refine AW.rg hE rfl (mvD rfl (c_eql rfl rfl (c := false) (decide_eq_false h0) (mvD rfl (OL.no rfl (by decide) (OL.no rfl (by decide) (OL.no rfl (by decide) (pkF rfl rfl ?_)))))))
       refine mvD rfl (OL.yes rfl (mvD rfl (OL.yes rfl (c_gtr rfl rfl (c := true) (decide_eq_true (by omega)) (OL.yes rfl (mvD rfl (OL.yes rfl ?_)))))))
       refine mvD rfl (OL.yes rfl (lnL sl.Rats rfl rfl (OL.yes rfl (faP fd.Hidden_1 rfl rfl (OL.yes rfl (ldPC ce.int rfl rfl rfl (OL.yes rfl ?_)))))))
       refine c_neq rfl rfl rfl (OL.yes rfl (pkT rfl rfl (pkF rfl rfl (OL.nil ?_))))
       exact AW.reach () ⟨trivial, Knows.app (.cons (VLe.refl _) (.cons (VLe.refl _) (.cons (VLe.refl _) (.cons (VLe.refl _) (.cons (VLe.refl _) (.cons (VLe.refl _) (.cons (VLe.refl _) .nil))))))) (.cons (VLe.bool (by rw [if_neg h0])) .nil), Owns.app (.cons rfl .nil) (.nil)⟩
     rintro ⟨⟩ -
     refine AW.cond rfl (fun b4 => ?_) (fun b4 => ?_)
     ·have b4 : ¬ ((c.length : Int) = if fr = 0 then 0 else h.st) := by simpa using b4
      have hdr := colA_4 cw9 hro (.inl b4)
      exact AW.sg hE rfl (asM rfl (asD rfl (OL.nil (AW.ret (RetQ.r ⟨_, .tmp rfl (.tmp rfl .nil), _, .cons (.le (by rw [hdr]; exact VLe.mt)) (.cons (.le (VLe.int (by rw [hdr]))) .nil), rfl⟩)))))
     ·have b4 : ((c.length : Int) = if fr = 0 then 0 else h.st) := by simpa using b4
      refine AW.skip (AW.seq (AW.sg hE rfl (asD rfl (OL.nil (AW.block ?_)))))
      refine AW.whileK (α := Nat) [(1, _), (2, _), (3, _), (4, _), (5, _)] [(5, _)] (fun i => [(13, .d (dI i))]) (fun i => []) (fun i => i ≤ c.length ∧ ∀ j, j < i → shareR (c.getD j raw0) = true) (fun i => c.length - i) 0 (.cons (knD rfl) (.cons (knD rfl) (.cons (knD rfl) (.cons (knD rfl) (.cons (knP rfl) .nil))))) (.cons (owB rfl) .nil) ⟨⟨Nat.zero_le _, fun j hj => absurd hj (Nat.not_lt_zero j)⟩, .cons (VLe.refl _) .nil, .nil⟩ ?_
      rintro i ⟨h3, h4⟩
      refine AW.seq (AW.sg hE rfl (mvD rfl (mvD rfl (lnL sl.Rats rfl rfl (c_lss rfl rfl rfl (OL.nil (AW.cond rfl (fun h61 => ?_) (fun h61 => ?_))))))))
      ·try simp only [dx9] at h61
       refine AW.skip (AW.seq (AW.block (AW.sg hE rfl (mvD rfl (mvD rfl (ixLn sl.Rats raw0 rfl rfl (by omega) rfl rfl (ldRA ag.Rat rfl (vs := [_,_,_]) rfl (nb9 rfl) ?_)))))))
       refine clv rfl (.cons (VLe.refl _) (.nil)) (ref33_ChanceR (mc _ (getD_mem (show i < c.length by omega) raw0))) (nt rfl (OL.nil (AW.cond rfl (fun b5 => ?_) (fun b5 => ?_))))
       ·have b5 : shareR (c.getD i raw0) = false := by simpa using b5
        have hdr := colA_4 cw9 hro (c := c) (.inr fun s => by rw [s _ (getD_mem (show i < c.length by omega) raw0)] at b5; cases b5)
        exact AW.sg hE rfl (asM rfl (asD rfl (OL.nil (AW.ret (RetQ.r ⟨_, .tmp rfl (.tmp rfl .nil), _, .cons (.le (by rw [hdr]; exact VLe.mt)) (.cons (.le (VLe.int (by rw [hdr]))) .nil), rfl⟩)))))
       ·have b5 : shareR (c.getD i raw0) = true := by simpa using b5
        exact AW.skip (AW.rg hE rfl (mvD rfl (add_i64 rfl rfl (by omega) (asD rfl (OL.nil (AW.again (x := i) (i + 1) (by omega) ⟨⟨by omega, upto_stp h4 b5⟩, Knows.app (.cons (VLe.refl _) (.cons (VLe.refl _) (.cons (VLe.refl _) (.cons (VLe.refl _) (.cons (VLe.refl _) .nil))))) (.cons (VLe.refl _) .nil), Owns.app (.cons rfl .nil) (.nil)⟩))))))
      ·try simp only [dx9] at h61
       refine AW.exit (AW.seq (AW.boxW 5 (cellsHM (hm h)) rfl (vles_of_eq (V.ag.inj hv)) ?_))
       obtain ⟨fr, rfl⟩ : ∃ d : Nat, fr = (d : Int) := ⟨fr.toNat, by omega⟩
       obtain ⟨n, rfl⟩ : ∃ d : Nat, to = ((fr + d : Nat) : Int) := ⟨(to - fr).toNat, by omega⟩
       have hsc : SharesR c := fun r hr => by obtain ⟨j, hj, rfl⟩ := mem_ix raw0 hr; exact h4 j (by omega)
       rw [colA_0 cw9 hro b4 hsc, Int.toNat_natCast, show (((fr + n : Nat) : Int) - (fr : Int) + 1).toNat = n + 1 by omega]
       have hst9 := chkP_st cp
       have hcl : (c.map Raw.q).length = if fr = 0 then 0 else (hm h).st := by
         rw [List.length_map]
         by_cases e : fr = 0
         ·rw [if_pos e]; rw [if_pos (by omega)] at b4; omega
         ·rw [if_neg e]; rw [if_neg (by omega)] at b4; omega
       have hcq : dRs c = dQs (c.map Raw.q) := dRs_eq hsc mc
       have hcs : Small 1048576 (c.map Raw.q) := MedL.small mc
       generalize hm h = h at *
       have f := g.form
       have k1 := k.1
       have n1 := f.st1
       have e1 := f.ini
       have e2 := f.trans
       have e4 := f.emit
       have s1 := f.sym1
       refine AW.rg hE rfl (asM rfl (OL.nil (AW.seq (AW.sg hE rfl (mvD rfl (asD rfl (OL.nil ?_)))))))
       refine AW.block (AW.own 14 134 T.Rats 1 rfl rfl ?_)
       refine AW.whileK (α := Nat × Nat × Nat) [(1, _), (3, _), (5, _)] [(5, _)] (fun (m, q, p) => [(4, .d (dQs (colG h w fr (c.map Raw.q) m))), (14, .osl 134 q m p), (15, .d (dI ((fr + m : Nat))))]) (fun (m, q, p) => [(134, .row q p T.Rats 1 ((colsG h w fr (c.map Raw.q) m).map dQs))]) (fun (m, q, p) => m ≤ n + 1) (fun (m, q, p) => n + 1 - m) (0, 0, 0) (.cons (knD rfl) (.cons (knD rfl) (.cons (knP rfl) .nil))) (.cons (owB rfl) .nil) ⟨Nat.zero_le _, .cons (vle_of_eq (congrArg V.d hcq)) (.cons (VLe.refl _) (.cons (VLe.refl _) .nil)), .cons rfl .nil⟩ ?_
       rintro ⟨m, q, p⟩ h5
       have h5 : m ≤ n + 1 := h5
       have hml := colsG_len h w fr (c.map Raw.q) m
       have hzm := colG_sz f w fr hcs m
       have hlm : (colG h w fr (c.map Raw.q) m).length = if fr + m = 0 then 0 else h.st := by
         cases m with
         | zero => exact hcl
         | succ m => rw [colG_len, if_neg (by omega)]
       refine AW.seq (AW.sg hE rfl (mvD rfl (mvD rfl (c_leq rfl rfl rfl (OL.nil (AW.cond rfl (fun h73 => ?_) (fun h73 => ?_)))))))
       ·try simp only [dx9] at h73
        refine AW.skip (AW.seq (AW.block (AW.seq ?_)))
        have hx := k.symX (t := fr + m) (by omega)
        refine AW.rg hE rfl (asM rfl (OL.nil (AW.seq (AW.sg hE rfl (asD rfl (OL.nil (AW.block ?_)))))))
        refine AW.own 16 130 T.Rat 3 rfl rfl ?_
        refine AW.whileK (α := Nat × Nat × Nat) [(1, _), (3, _), (4, _), (5, _), (14, _), (15, _)] [(5, _), (134, _)] (fun (j, q3, p3) => [(16, .osl 130 q3 j p3), (17, .d (dI j))]) (fun (j, q3, p3) => [(130, .row q3 p3 T.Rat 3 (((colX h (symX w (fr + m)) (colG h w fr (c.map Raw.q) m)).take j).map dQ))]) (fun (j, q3, p3) => j ≤ h.st) (fun (j, q3, p3) => h.st - j) (0, 0, 0) (.cons (knD rfl) (.cons (knD rfl) (.cons (knD rfl) (.cons (knP rfl) (.cons (knO rfl) (.cons (knD rfl) .nil)))))) (.cons (owB rfl) (.cons (owR rfl) .nil)) ⟨Nat.zero_le _, .cons (VLe.refl _) (.cons (VLe.refl _) .nil), .cons rfl .nil⟩ ?_
        rintro ⟨j, q3, p3⟩ h6
        have h6 : j ≤ h.st := h6
        have htk : ((colX h (symX w (fr + m)) (colG h w fr (c.map Raw.q) m)).take j).length = j := by rw [List.length_take]; simp [colX]; omega
        refine AW.seq (AW.sg hE rfl (mvD rfl (faP fd.Hidden_1 rfl rfl (ldPC ce.int rfl rfl rfl (c_lss rfl rfl rfl (OL.nil (AW.cond rfl (fun h79 => ?_) (fun h79 => ?_))))))))
        ·try simp only [dx9] at h79
         refine AW.skip (AW.seq (AW.block (AW.sg hE rfl (bd z.Rat pl.Rat (cs := [_,_,_]) rfl (al z.Rat rfl fun b18 => (sto sz.Rat rfl rfl rfl rfl rfl (nb9 rfl) (cells2 := [_,_,_]) rfl (OL.nil ?_)))))))
         refine AW.midK (α := Unit) [(1, _), (3, _), (4, _), (5, _), (14, _), (15, _), (16, _), (17, _), (18, _)] [(5, _), (130, _), (134, _)] (fun _u => []) (fun _u => [(18, .box b18 T.Rat (cellsQ (colN h (colG h w fr (c.map Raw.q) m) j (colG h w fr (c.map Raw.q) m).length)))]) (fun _u => True) (.cons (knD rfl) (.cons (knD rfl) (.cons (knD rfl) (.cons (knP rfl) (.cons (knO rfl) (.cons (knD rfl) (.cons (knO rfl) (.cons (knD rfl) (.cons (knP rfl) .nil))))))))) (.cons (owB rfl) (.cons (owR rfl) (.cons (owR rfl) .nil))) ?_ ?_
         ·refine AW.seq ?_
          have hj : j < h.st := by omega
          have zn := fun i => colN_szW f hzm (by omega) j i
          refine AW.boxW 18 (cellsQ 0) rfl vles_q (AW.rg hE rfl (mvD rfl (c_eql rfl rfl rfl (OL.nil (AW.cond rfl (fun h7 => ?_) (fun h7 => ?_))))))
          ·have h7 : fr + m = 0 := by have := of_decide_eq_true h7; omega
           rw [if_pos h7] at hlm
           refine AW.rg hE rfl (faP fd.Hidden_3 rfl rfl (ldPC ce.Rats rfl rfl rfl (mvD rfl (ixLn sl.Rats 0 rfl rfl (by omega) rfl rfl (ldRA ag.Rat rfl (vs := [_,_,_]) rfl (nb9 rfl) (sto sz.Rat rfl rfl rfl rfl rfl (nb9 rfl) (cells2 := [_,_,_]) rfl (OL.nil ?_)))))))
           exact AW.reach () ⟨trivial, Knows.app (.cons (VLe.refl _) (.cons (VLe.refl _) (.cons (VLe.refl _) (.cons (VLe.refl _) (.cons (VLe.refl _) (.cons (VLe.refl _) (.cons (VLe.refl _) (.cons (VLe.refl _) (.cons (VLe.refl _) .nil))))))))) (.nil), Owns.app (.cons rfl (.cons rfl (.cons rfl .nil))) (.cons (by rw [hlm, colN, if_pos hlm]; rfl) .nil)⟩
          ·have h7 : fr + m ≠ 0 := fun e => of_decide_eq_false h7 (by omega)
           rw [if_neg h7] at hlm
           refine AW.sg hE rfl (asD rfl (OL.nil (AW.block ?_)))
           refine AW.whileK (α := Nat) [(1, _), (3, _), (4, _), (5, _), (14, _), (15, _), (16, _), (17, _), (18, _)] [(5, _), (130, _), (134, _)] (fun i => [(19, .d (dI i))]) (fun i => [(18, .box b18 T.Rat (cellsQ (colN h (colG h w fr (c.map Raw.q) m) j i)))]) (fun i => i ≤ h.st) (fun i => h.st - i) 0 (.cons (knD rfl) (.cons (knD rfl) (.cons (knD rfl) (.cons (knP rfl) (.cons (knO rfl) (.cons (knD rfl) (.cons (knO rfl) (.cons (knD rfl) (.cons (knP rfl) .nil))))))))) (.cons (owB rfl) (.cons (owR rfl) (.cons (owR rfl) .nil))) ⟨Nat.zero_le _, .cons (VLe.refl _) .nil, .cons (by rw [colN, if_neg (by omega)] <;> rfl) .nil⟩ ?_
           intro i h8
           have h8 : i ≤ h.st := h8
           have zi := zn i
           refine AW.seq (AW.sg hE rfl (mvD rfl (faP fd.Hidden_1 rfl rfl (ldPC ce.int rfl rfl rfl (c_lss rfl rfl rfl (OL.nil (AW.cond rfl (fun h93 => ?_) (fun h93 => ?_))))))))
           ·try simp only [dx9] at h93
            refine AW.skip (AW.seq (AW.block (AW.seq ?_)))
            have hi : i < h.st := by omega
            have ti := f.trow i hi
            have zc := hzm.get (by omega) i
            have zt := tr_szV f i j
            have zm := sz_mul ((colG h w fr (c.map Raw.q) m).getD i 0) (trQ h i j)
            refine AW.dg 1 [0,1,2,3,4,5,6,7,8,9,10,11,12,13,14] order_free hE rfl (by kernel_rfl) (OI.of_OL (os := [_,_,_,_,_,_,_,_,_,_,_,_,_,_,_]) rfl ?_)
            refine mvD rfl (mvD rfl (ixLn sl.Rats 0 rfl rfl (by omega) rfl rfl (ldRA ag.Rat rfl (vs := [_,_,_]) rfl (nb9 rfl) (faP fd.Hidden_4 rfl rfl (ldPC ce.Ratss rfl rfl rfl (mvD rfl (ixLn sl.Ratss [] rfl rfl (by omega) rfl rfl ?_)))))))
            refine ldRC ce.Rats rfl (mvD rfl (ixLn sl.Rats 0 rfl rfl (by omega) rfl rfl (ldRA ag.Rat rfl (vs := [_,_,_]) rfl (nb9 rfl) (clv rfl (.cons (VLe.refl _) (.cons (VLe.refl _) (.nil))) (ref_MulQ (x := (colG h w fr (c.map Raw.q) m).getD i 0) (y := trQ h i j) (by omega) (by omega)) (al z.Rat rfl fun b20 => (sto sz.Rat rfl rfl rfl rfl rfl (nb9 rfl) (cells2 := [_,_,_]) rfl (OL.nil ?_)))))))
            refine AW.sg hE rfl (ldPA ag.Rat rfl rfl (vs := [_,_,_]) rfl (nb9 rfl) (ldPA ag.Rat rfl rfl (vs := [_,_,_]) rfl (nb9 rfl) (clv rfl (.cons (VLe.refl _) (.cons (VLe.refl _) (.nil))) (ref_CompareQ (x := (colG h w fr (c.map Raw.q) m).getD i 0 * trQ h i j) (y := (colN h (colG h w fr (c.map Raw.q) m) j i)) (by omega) (by omega)) (c_gtr rfl rfl rfl (OL.nil (AW.cond rfl (fun hg => ?_) (fun hg => ?_)))))))
            ·have hg : (colN h (colG h w fr (c.map Raw.q) m) j i) < (colG h w fr (c.map Raw.q) m).getD i 0 * trQ h i j := cmpQ_gt.1 (of_decide_eq_true hg)
             have hcn : (colN h (colG h w fr (c.map Raw.q) m) j (i + 1)) = (colG h w fr (c.map Raw.q) m).getD i 0 * trQ h i j := if_pos hg
             refine AW.rg hE rfl (ldPA ag.Rat rfl rfl (vs := [_,_,_]) rfl (nb9 rfl) (sto sz.Rat rfl rfl rfl rfl rfl (nb9 rfl) (cells2 := [_,_,_]) rfl (OL.nil (AW.rg hE rfl (mvD rfl (add_i64 rfl rfl (by omega) (asD rfl ?_)))))))
             refine OL.nil ?_
             exact AW.again (x := i) (i + 1) (by omega) ⟨by omega, Knows.app (.cons (VLe.refl _) (.cons (VLe.refl _) (.cons (VLe.refl _) (.cons (VLe.refl _) (.cons (VLe.refl _) (.cons (VLe.refl _) (.cons (VLe.refl _) (.cons (VLe.refl _) (.cons (VLe.refl _) .nil))))))))) (.cons (VLe.refl _) .nil), Owns.app (.cons rfl (.cons rfl (.cons rfl .nil))) (.cons (by rw [hcn] <;> rfl) .nil)⟩
            ·have hg : ¬ (colN h (colG h w fr (c.map Raw.q) m) j i) < (colG h w fr (c.map Raw.q) m).getD i 0 * trQ h i j := fun e => of_decide_eq_false hg (cmpQ_gt.2 e)
             have hcn : (colN h (colG h w fr (c.map Raw.q) m) j (i + 1)) = (colN h (colG h w fr (c.map Raw.q) m) j i) := if_neg hg
             refine AW.skip (AW.rg hE rfl (mvD rfl (add_i64 rfl rfl (by omega) (asD rfl (OL.nil ?_)))))
             exact AW.again (x := i) (i + 1) (by omega) ⟨by omega, Knows.app (.cons (VLe.refl _) (.cons (VLe.refl _) (.cons (VLe.refl _) (.cons (VLe.refl _) (.cons (VLe.refl _) (.cons (VLe.refl _) (.cons (VLe.refl _) (.cons (VLe.refl _) (.cons (VLe.refl _) .nil))))))))) (.cons (VLe.refl _) .nil), Owns.app (.cons rfl (.cons rfl (.cons rfl .nil))) (.cons (by rw [hcn] <;> rfl) .nil)⟩
           ·try simp only [dx9] at h93
            refine AW.exit ?_
            have hi9 : i = h.st := by omega
            exact AW.reach () ⟨trivial, Knows.app (.cons (VLe.refl _) (.cons (VLe.refl _) (.cons (VLe.refl _) (.cons (VLe.refl _) (.cons (VLe.refl _) (.cons (VLe.refl _) (.cons (VLe.refl _) (.cons (VLe.refl _) (.cons (VLe.refl _) .nil))))))))) (.nil), Owns.app (.cons rfl (.cons rfl (.cons rfl .nil))) (.cons (by rw [hlm, ← hi9] <;> rfl) .nil)⟩
         rintro ⟨⟩ -
         have hj : j < h.st := by omega
         have zn := fun i => colN_szW f hzm (by omega) j i
         have ej := f.erow j hj
         have zem := em_szV f j (symX w (fr + m))
         have zpn := zn (colG h w fr (c.map Raw.q) m).length
         refine AW.dg 2 [0,1,2,3,4,5,6,7,8,9,10,11,12,13,14,15,16,17] order_free hE rfl (by kernel_rfl) (OI.of_OL (os := [_,_,_,_,_,_,_,_,_,_,_,_,_,_,_,_,_,_]) rfl ?_)
         refine mvO rfl (ldPA ag.Rat rfl rfl (vs := [_,_,_]) rfl (nb9 rfl) (faP fd.Hidden_6 rfl rfl (ldPC ce.Ratss rfl rfl rfl (mvD rfl (ixLn sl.Ratss [] rfl rfl (by omega) rfl rfl (ldRC ce.Rats rfl (mvD rfl ?_)))))))
         refine mvD rfl (ixLn sl.ints 0 rfl rfl (by omega) rfl rfl (ldRC ce.int rfl ?_))
         rw [hx.2]
         refine bo rfl rfl (bin_sub (c := ((symX w (fr + m)) : Int)) (by omega) (wrap_i64 (by omega))) (ixLn sl.Rats 0 rfl rfl (by omega) rfl rfl (ldRA ag.Rat rfl (vs := [_,_,_]) rfl (nb9 rfl) (clv rfl (.cons (VLe.refl _) (.cons (VLe.refl _) (.nil))) (ref_MulQ (x := (colN h (colG h w fr (c.map Raw.q) m) j (colG h w fr (c.map Raw.q) m).length)) (y := emQ h j (symX w (fr + m))) (by omega) (by omega)) (lt1 (y := dQ _) sl.Rats vd_q rfl (by decide) ?_))))
         refine apO sl.Rats rfl rfl rfl (by rw [List.length_map, htk]) (VC.d _) (fun y hy => by rw [List.mem_singleton.1 hy]; rfl) (by simp only [List.length_singleton]; omega) (by simp only [List.length_singleton]; omega) (.inr rfl) (ys := ((colX h (symX w (fr + m)) (colG h w fr (c.map Raw.q) m)).take (j + 1)).map dQ) (by rw [colX_take hj, List.map_append]; rfl) (n2 := j + 1) (by simp) fun q4 c4 => ?_
         refine asO rfl (OL.nil (AW.rg hE rfl (mvD rfl (add_i64 rfl rfl (by omega) (asD rfl (OL.nil ?_))))))
         exact AW.again (x := (j, q3, p3)) (j + 1, q4, c4) (by (simp only []; omega)) ⟨by omega, Knows.app (.cons (VLe.refl _) (.cons (VLe.refl _) (.cons (VLe.refl _) (.cons (VLe.refl _) (.cons (VLe.refl _) (.cons (VLe.refl _) .nil)))))) (.cons (VLe.refl _) (.cons (VLe.refl _) .nil)), Owns.app (.cons rfl (.cons rfl .nil)) (.cons rfl .nil)⟩
        ·try simp only [dx9] at h79
         refine AW.exit (AW.seq ?_)
         have hje : j = h.st := by omega
         refine AW.freeze 130 rfl (AW.to [(1, .d (ints w)), (3, .d (dI ((fr + n : Nat)))), (5, .ptr 5 b5 0), (14, .osl 134 q m p), (15, .d (dI ((fr + m : Nat)))), (16, .d (dQs (colX h (symX w (fr + m)) (colG h w fr (c.map Raw.q) m))))] [(5, .box b5 T.Hidden (cellsHM h)), (134, .row q p T.Rats 1 ((colsG h w fr (c.map Raw.q) m).map dQs))] (.cons (VLe.refl _) (.cons (VLe.refl _) (.cons (VLe.refl _) (.cons (VLe.refl _) (.cons (VLe.refl _) (.cons (frz_osl (by rw [List.length_map, htk]) (by rw [hje, List.take_of_length_le (by simp [colX])])) .nil)))))) (.cons rfl (.cons rfl .nil)) ?_)
         refine AW.rg hE rfl (mvO rfl (mvD rfl (lt1 (y := dQs (colG h w fr (c.map Raw.q) (m + 1))) sl.Ratss (VC.d _).vd rfl (by decide) ?_)))
         refine apO sl.Ratss rfl rfl rfl (by rw [List.length_map, hml]) (VC.d _) (fun y hy => by rw [List.mem_singleton.1 hy]; rfl) (by simp only [List.length_singleton]; omega) (by simp only [List.length_singleton]; omega) (.inr rfl) (ys := (colsG h w fr (c.map Raw.q) (m + 1)).map dQs) (by rw [colsG_succ, List.map_append]; rfl) (n2 := m + 1) (by simp) fun q2 c2 => ?_
         refine asO rfl (OL.nil (AW.rg hE rfl (mvD rfl (asD rfl (OL.nil (AW.rg hE rfl (mvD rfl ?_)))))))
         refine add_i64 rfl rfl (by omega) (asD rfl (OL.nil ?_))
         exact AW.again (x := (m, q, p)) (m + 1, q2, c2) (by (simp only []; omega)) ⟨by omega, Knows.app (.cons (VLe.refl _) (.cons (VLe.refl _) (.cons (VLe.refl _) .nil))) (.cons (VLe.refl _) (.cons (VLe.refl _) (.cons (VLe.refl _) .nil))), Owns.app (.cons rfl .nil) (.cons rfl .nil)⟩
       ·try simp only [dx9] at h73
        refine AW.exit (AW.seq ?_)
        obtain rfl : m = n + 1 := by omega
        exact AW.rg hE rfl (mvO rfl (asO rfl (asD rfl (OL.nil (AW.ret (RetQ.r ⟨_, .tmp rfl (.tmp rfl .nil), _, .cons (RO.row rfl (by rw [List.length_map, hml]) rfl) (.cons (.le (VLe.refl _)) .nil), rfl⟩))))))
end Go.Proofs.YtjghehkgmanmbaaGreat

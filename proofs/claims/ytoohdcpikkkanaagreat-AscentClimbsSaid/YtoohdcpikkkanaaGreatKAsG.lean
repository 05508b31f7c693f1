/-
  Walks for chapter 39, part 7: the model with the expected frequencies (printed by mk2.py).
-/
import Derived.Test.YtoohdcpikkkanaaGreatKAsF
import Derived.Test.YtoohdcpikkkanaaGreatKMod39d
set_option linter.unusedVariables false
set_option linter.unusedSimpArgs false
namespace Go.Proofs.YtoohdcpikkkanaaGreat
open Go Go.AL
theorem stL_len9 (h : HM) (X : List (List Int)) : (stL h X).length = h.st := accL_len ..
theorem enL_len9 (h : HM) (X : List (List Int)) : (enL h X).length = h.st := accL_len ..
theorem mvL_len9 (h : HM) (X : List (List Int)) (i : Nat) : (mvL h X i).length = h.st := accL_len ..
theorem shL_len9 (h : HM) (X : List (List Int)) (i : Nat) : (shL h X i).length = h.sym := accL_len ..
theorem sumv9 (h : HM) (X : List (List Int)) (i : Nat) : sumQ (mvL h X i ++ [(enL h X).getD i 0]) = vTot h X i := rfl
theorem sumu9 (h : HM) (X : List (List Int)) (i : Nat) : sumQ (poolN h X i h.st) = uTot h X i := rfl
theorem ascent_expected9 {h : HM} {B : Nat} {X : List (List Int)} (g : h.Good B) (k5 : DataOK h X) (hall : AllL h X) : FSpec P F.ascent_expected [vHM h, .d (dIss X)] (.tup [.ag [.d (dQs (stL h X)), .d (dQss ((List.range h.st).map (mvL h X))), .d (dQs (enL h X)), .d (dQss ((List.range h.st).map (shL h X)))], .d (dI (emN X)), .d (dI 0)]) := by
 have h := ascent_expected g k5
 rw [exp9, if_pos hall] at h
 exact h
attribute [local irreducible] stL enL mvL shL poolN vTot uTot emN
set_option maxRecDepth 8000 in
set_option maxHeartbeats 6400000 in
theorem ascent_Reestimate {h : HM} {B : Nat} {X : List (List Int)} (g : h.Good B) (k5 : DataOK h X) (hall : AllL h X) (hs : h.sym ≤ 12) : FSpec P F.ascent_Reestimate [vHM h, .d (dIss X)] (.tup [vHM (reHM h X), .d (dI 0)]) := by
 have f := g.form
 have n0 := f.st0
 have n1 := f.st1
 have s0 := f.sym0
 have hb1 := f.b1
 have hbB := f.bB
 have k1 := k5.len
 have k4 := k5.few
 have e2 := fun (_ : Unit) => f.trans
 have e3 := fun (_ : Unit) => f.stop
 have e4 := fun (_ : Unit) => f.emit
 have e5 := fun (_ : Unit) => f.ties
 have e6 := fun (_ : Unit) => f.sill
 have hE := emN_le X
 have zl : Unit → sz ((X.length : Nat) : Rat) ≤ 68719476736 := fun _ => by have := sz_nat (n := X.length) (by omega); omega
 have ze : Unit → sz ((emN X : Nat) : Rat) ≤ 68719476736 := fun _ => by have := sz_nat (n := emN X) (by omega); omega
 have hl0 : (X.length : Rat) ≠ 0 := Rat.ne_of_gt (grid_pos k1.1)
 have hsl := fun (_ : Unit) => stL_len9 h X
 have hel := fun (_ : Unit) => enL_len9 h X
 have g2 : Unit → (reHM h X).trans.length = h.st := fun _ => by show ((List.range h.st).map _).length = _; simp
 have g3 : Unit → (reHM h X).stop.length = h.st := fun _ => by show ((List.range h.st).map _).length = _; simp
 have g4 : Unit → (reHM h X).emit.length = h.st := fun _ => by show ((List.range h.st).map _).length = _; simp
 have hmvl : Unit → ((List.range h.st).map (mvL h X)).length = h.st := fun _ => by simp
 have hshl : Unit → ((List.range h.st).map (shL h X)).length = h.st := fun _ => by simp
 refine FSpec.intro fn.ascent_Reestimate (by rfl) (by rfl) (nb9 (by rfl)) fun E hE => (AW.sg hE rfl (bxA rfl rfl fun b2 => (al z.Hidden rfl fun b4 => (asD rfl (OL.nil (AW.seq (AW.sg hE rfl ?_)))))))
 refine ldPA ag.Hidden rfl rfl (vs := [_,_,_,_,_,_,_,_,_,_,_]) rfl (nb9 rfl) (mvD rfl (clv rfl (.cons (VLe.refl _) (.cons (VLe.refl _) (.nil))) (ascent_refuse g k5) (asD rfl (OL.nil (AW.sg hE rfl (mvD rfl (c_neq rfl rfl (c := false) (by exact cne_f (by omega)) ?_)))))))
 refine OL.nil (AW.cond rfl (fun hno => absurd hno (by decide)) (fun _ => ?_))
 refine AW.skip (AW.sg hE rfl (ldPA ag.Hidden rfl rfl (vs := [_,_,_,_,_,_,_,_,_,_,_]) rfl (nb9 rfl) (mvD rfl (clv rfl (.cons (VLe.refl _) (.cons (VLe.refl _) (.nil))) (ascent_expected9 g k5 hall) (mvT rfl (ex rfl rfl (ex rfl rfl ?_)))))))
 refine ex rfl rfl (al z.Counts rfl fun b7 => (sto sz.Counts rfl rfl rfl rfl rfl (nb9 rfl) (cells2 := [_,_,_,_]) rfl (asD rfl (asD rfl (OL.nil (AW.seq (AW.sg hE rfl ?_)))))))
 refine mvD rfl (c_neq rfl rfl (c := false) (by exact cne_f (by omega)) (OL.nil (AW.cond rfl (fun hno => absurd hno (by decide)) (fun _ => ?_))))
 refine AW.skip (AW.sg hE rfl (mvD rfl (lnL sl.intss rfl rfl (clv rfl (.cons (VLe.refl _) (.nil)) (ascent_whole (n := X.length) (by omega)) (al z.Rat rfl fun b10 => (sto sz.Rat rfl rfl rfl rfl rfl (nb9 rfl) (cells2 := [_,_,_]) rfl (OL.nil ?_)))))))
 refine AW.seq (AW.dg 1 [0,1,2,3,4,5,6,7,8,9,10,11,12,13,14,15,16,17,18,19,20] order_free hE rfl (by kernel_rfl) (OI.of_OL (os := [_,_,_,_,_,_,_,_,_,_,_,_,_,_,_,_,_,_,_,_,_]) rfl ?_))
 refine faP fd.Hidden_0 rfl rfl (ldPC ce.int rfl rfl rfl (faP fd.Hidden_1 rfl rfl (ldPC ce.int rfl rfl rfl (mvD rfl (clv rfl (.cons (VLe.refl _) (.nil)) (ascent_whole (n := emN X) (by omega)) (ldPA ag.Rat rfl rfl (vs := [_,_,_]) rfl (nb9 rfl) (clv rfl (.cons (VLe.refl _) (.cons (VLe.refl _) (.nil))) (ascent_over (x := (emN X : Rat)) (y := (X.length : Rat)) (ze ()) (zl ()) hl0) ?_)))))))
 refine faP fd.Counts_0 rfl rfl (ldPC ce.Rats rfl rfl rfl (ldPA ag.Rat rfl rfl (vs := [_,_,_]) rfl (nb9 rfl) (clv rfl (.cons (VLe.refl _) (.cons (VLe.refl _) (.nil))) (ascent_divided (st_small f k5 hall) ⟨by decide, by decide⟩ (by (have := hsl (); omega)) (zl ()) hl0) (faP fd.Hidden_7 rfl rfl (ldPC ce.bools rfl rfl rfl (clv rfl (.cons (VLe.refl _) (.nil)) (clone_bools (by (have := e6 (); omega))) (faP fd.Hidden_8 rfl rfl ?_)))))))
 refine ldPC ce.ints rfl rfl rfl (clv rfl (.cons (VLe.refl _) (.nil)) (clone_ints (by (have := e5 (); omega))) (bd2 (cs := [_,_,_,_,_,_,_,_,_,_,_]) z.Hidden pl.Hidden (pvC (by exact evD rfl) (pvC (by exact evD rfl) (pvC (by exact evA rfl) (pvC (by exact evD rfl) (pvC (by exact evD rfl) (pvC (by exact evD rfl) (pvN))))))) (by rfl) (al z.Hidden rfl fun b11 => (sto sz.Hidden rfl rfl rfl rfl rfl (nb9 rfl) (cells2 := [_,_,_,_,_,_,_,_,_,_,_]) rfl (OL.nil (AW.seq (AW.sg hE rfl ?_)))))))
 refine faP fd.Hidden_1 rfl rfl (ldPC ce.int rfl rfl rfl (mvD rfl (OL.nil ?_)))
 refine AW.boxW 11 [.d (dI h.sym), .d (dI h.st), .d (dB (ofQ (reHM h X).empty).neg), .d (u32s (ofQ (reHM h X).empty).num), .d (u32s (ofQ (reHM h X).empty).den), .d (dQs (reHM h X).ini), .osl 153 0 0 0, .osl 158 0 0 0, .osl 163 0 0 0, .d (bools h.silent), .d (ints h.ties)] rfl (.cons (VLe.refl _) (.cons (VLe.refl _) (.cons (VLe.refl _) (.cons (VLe.refl _) (.cons (VLe.refl _) (.cons (VLe.refl _) (.cons VLe.mtO (.cons VLe.mtO (.cons VLe.mtO (.cons (VLe.refl _) (.cons (VLe.refl _) .nil))))))))))) ?_
 refine AW.row0 153 T.Rats 1 rfl (AW.row0 158 T.Rat 3 rfl (AW.row0 163 T.Rats 1 rfl ?_))
 generalize hG : reHM h X = G at g2 g3 g4 ⊢
 refine AW.block ?_
 refine AW.whileK (α := Nat × Nat × Nat × Nat × Nat × Nat × Nat) [(2, _), (4, _), (5, _), (7, _), (11, _), (61, _)] [(2, _), (4, _), (7, _)] (fun (i, p1, c1, p2, c2, p3, c3) => [(62, .d (dI i))]) (fun (i, p1, c1, p2, c2, p3, c3) => [(11, .box b11 T.Hidden [.d (dI h.sym), .d (dI h.st), .d (dB (ofQ G.empty).neg), .d (u32s (ofQ G.empty).num), .d (u32s (ofQ G.empty).den), .d (dQs G.ini), .osl 153 p1 i c1, .osl 158 p2 i c2, .osl 163 p3 i c3, .d (bools h.silent), .d (ints h.ties)]), (153, .row p1 c1 T.Rats 1 ((G.trans.take i).map dQs)), (158, .row p2 c2 T.Rat 3 ((G.stop.take i).map dQ)), (163, .row p3 c3 T.Rats 1 ((G.emit.take i).map dQs))]) (fun (i, p1, c1, p2, c2, p3, c3) => i ≤ h.st) (fun (i, p1, c1, p2, c2, p3, c3) => h.st - i) (0, 0, 0, 0, 0, 0, 0) (.cons (knP rfl) (.cons (knP rfl) (.cons (knD rfl) (.cons (knP rfl) (.cons (knP rfl) (.cons (knD rfl) .nil)))))) (.cons (owB rfl) (.cons (owB rfl) (.cons (owB rfl) .nil))) ⟨Nat.zero_le _, .cons (VLe.refl _) .nil, .cons rfl (.cons rfl (.cons rfl (.cons rfl .nil)))⟩ ?_
 rintro ⟨i, p1, c1, p2, c2, p3, c3⟩ h1
 have h1 : i ≤ h.st := h1
 refine AW.sg hE rfl (c_lss rfl rfl rfl (OL.nil (AW.seq (AW.cond rfl (fun h63 => ?_) (fun h63 => ?_)))))
 ·try simp only [dx9] at h63
  refine AW.skip (AW.seq (AW.block (AW.seq ?_)))
  have hi : i < h.st := by omega
  have tr := fun (_ : Unit) => f.trow i hi
  have er := fun (_ : Unit) => f.erow i hi
  have x1 := re_trans (X := X) hi
  have x2 := re_stop (X := X) hi
  have x3 := re_emit (X := X) hi
  rw [hG] at x1 x2 x3
  have hmi : ((List.range h.st).map (mvL h X)).getD i [] = mvL h X i := map_get9 _ _ hi
  have hml := fun (_ : Unit) => mvL_len9 h X i
  have zv : Unit → sz (vTot h X i) ≤ 68719476736 := fun _ => Nat.le_trans (v_sz f k5 hall i) (by decide)
  have zu : Unit → sz (uTot h X i) ≤ 68719476736 := fun _ => Nat.le_trans (u_sz f k5 hall hs i) (by decide)
  have zen : Unit → sz ((enL h X).getD i 0) ≤ 68719476736 := fun _ => Nat.le_trans ((en_small f k5 hall).get (by decide) i) (by decide)
  have zst : Unit → sz (h.stop.getD i 0) ≤ B := fun _ => f.zS.get hb1 i
  refine AW.rg hE rfl (mvD rfl (asD rfl (OL.nil (AW.seq (AW.dg 1 [0,1,2,3,4,5,6,7,8,9,10,11,12,13,14] order_free hE rfl (by kernel_rfl) (OI.of_OL (os := [_,_,_,_,_,_,_,_,_,_,_,_,_,_,_]) rfl ?_))))))
  refine faP fd.Hidden_4 rfl rfl (ldPC ce.Ratss rfl rfl rfl (mvD rfl (ixLn sl.Ratss [] rfl rfl (by (have := e2 (); omega)) rfl rfl (ldRC ce.Rats rfl (clv rfl (.cons (VLe.refl _) (.nil)) (fresh_Rats (f.zT i) ⟨hb1, by omega⟩ (by (have := tr (); omega))) (faP fd.Hidden_5 rfl rfl (ldPC ce.Rats rfl rfl rfl ?_)))))))
  refine mvD rfl (ixLn sl.Rats 0 rfl rfl (by (have := e3 (); omega)) rfl rfl (ldRA ag.Rat rfl (vs := [_,_,_]) rfl (nb9 rfl) (clv rfl (.cons (VLe.refl _) (.nil)) (fresh_Rat (q := h.stop.getD i 0) (Nat.le_trans (zst ()) (by omega))) (al z.Rat rfl fun b14 => (asD rfl (sto sz.Rat rfl rfl rfl rfl rfl (nb9 rfl) (cells2 := [_,_,_]) rfl (OL.nil ?_)))))))
  refine AW.midK (α := Unit) [(2, _), (4, _), (5, _), (7, _), (11, _), (12, _), (14, _), (61, _), (62, _)] [(2, _), (4, _), (7, _), (11, _), (153, _), (158, _), (163, _)] (fun _u => [(13, .d (dQs (G.trans.getD i [])))]) (fun _u => [(14, .box b14 T.Rat (cellsQ (G.stop.getD i 0)))]) (fun _u => True) (.cons (knP rfl) (.cons (knP rfl) (.cons (knD rfl) (.cons (knP rfl) (.cons (knP rfl) (.cons (knD rfl) (.cons (knP rfl) (.cons (knD rfl) (.cons (knD rfl) .nil))))))))) (.cons (owB rfl) (.cons (owB rfl) (.cons (owB rfl) (.cons (owB rfl) (.cons (owR rfl) (.cons (owR rfl) (.cons (owR rfl) .nil))))))) ?_ ?_
  ·refine AW.seq (AW.dg 168 [0,1,2,3,4,6,7,8,9,10,11,5,12,13,14,15] order_free hE rfl (by kernel_rfl) (OI.of_OL (os := [_,_,_,_,_,_,_,_,_,_,_,_,_,_,_,_]) rfl ?_))
   refine faP fd.Counts_1 rfl rfl (ldPC ce.Ratss rfl rfl rfl (mvD rfl (ixLn sl.Ratss [] rfl rfl (by (have := hmvl (); omega)) rfl rfl (ldRC ce.Rats rfl ?_))))
   rw [hmi]
   refine faP fd.Counts_2 rfl rfl (ldPC ce.Rats rfl rfl rfl (mvD rfl (ixLn sl.Rats 0 rfl rfl (by (have := hel (); omega)) rfl rfl (ldRA ag.Rat rfl (vs := [_,_,_]) rfl (nb9 rfl) (lt1 (y := dQ _) sl.Rats vd_q rfl (by decide) (clRd rfl (.cons (VLe.refl _) .nil) (clone_RatsR (l := mvL h X i) (by (have := hml (); omega)) (fun e => by have hml := hml (); rw [e] at hml; simp at hml; omega)) rfl rfl fun b82 c82 => ?_))))))
   refine apOD sl.Rats rfl rfl rfl rfl (VC.d _) (by simp [D.cells]) (by have := hml (); simp only [List.length_map, List.length_singleton]; omega) (by have := hml (); simp only [List.length_map, List.length_singleton]; omega) (.inl rfl) (ys := (mvL h X i ++ [(enL h X).getD i 0]).map dQ) (by rw [List.map_append]; rfl) ?_
   refine clv rfl (.cons (VLe.refl _) (.nil)) (ascent_sum (row_small9 f k5 hall i) ⟨by decide, by decide⟩ (row_big9 (hml ()) k4) (by rw [List.length_append, hml ()]; simp only [List.length_singleton]; omega)) ?_
   rw [sumv9 h X i]
   refine al z.Rat rfl fun b15 => (sto sz.Rat rfl rfl rfl rfl rfl (nb9 rfl) (cells2 := [_,_,_]) rfl (OL.nil (AW.sg hE rfl (ldPA ag.Rat rfl rfl (vs := [_,_,_]) rfl (nb9 rfl) (clv rfl (.cons (VLe.refl _) (.nil)) (rational_SignQ (x := (vTot h X i)) (zv ())) (c_gtr rfl rfl rfl (OL.nil ?_)))))))
   refine AW.cond rfl (fun hv => ?_) (fun hv => ?_)
   ·have hv : 0 < (vTot h X i) := sgn9.1 (of_decide_eq_true hv)
    rw [if_pos hv] at x1 x2
    have hv0 : (vTot h X i) ≠ 0 := Rat.ne_of_gt hv
    refine AW.dg 1 [0,1,2,3,4,5,6,7,8,9,10,11,12,13,14,15] order_free hE rfl (by kernel_rfl) (OI.of_OL (os := [_,_,_,_,_,_,_,_,_,_,_,_,_,_,_,_]) rfl ?_)
    refine faP fd.Counts_1 rfl rfl (ldPC ce.Ratss rfl rfl rfl (mvD rfl (ixLn sl.Ratss [] rfl rfl (by (have := hmvl (); omega)) rfl rfl (ldRC ce.Rats rfl ?_))))
    rw [hmi]
    refine ldPA ag.Rat rfl rfl (vs := [_,_,_]) rfl (nb9 rfl) (clv rfl (.cons (VLe.refl _) (.cons (VLe.refl _) (.nil))) (ascent_divided (l := mvL h X i) (y := (vTot h X i)) (mv_small f k5 hall i) ⟨by decide, by decide⟩ (by (have := hml (); omega)) (zv ()) hv0) (faP fd.Counts_2 rfl rfl (ldPC ce.Rats rfl rfl rfl (mvD rfl (ixLn sl.Rats 0 rfl rfl (by (have := hel (); omega)) rfl rfl (ldRA ag.Rat rfl (vs := [_,_,_]) rfl (nb9 rfl) (ldPA ag.Rat rfl rfl (vs := [_,_,_]) rfl (nb9 rfl) ?_)))))))
    refine clv rfl (.cons (VLe.refl _) (.cons (VLe.refl _) (.nil))) (ascent_over (x := (enL h X).getD i 0) (y := (vTot h X i)) (zen ()) (zv ()) hv0) (asD rfl (sto sz.Rat rfl rfl rfl rfl rfl (nb9 rfl) (cells2 := [_,_,_]) rfl (OL.nil ?_)))
    exact AW.reach () ⟨trivial, Knows.app (.cons (VLe.refl _) (.cons (VLe.refl _) (.cons (VLe.refl _) (.cons (VLe.refl _) (.cons (VLe.refl _) (.cons (VLe.refl _) (.cons (VLe.refl _) (.cons (VLe.refl _) (.cons (VLe.refl _) .nil))))))))) (.cons (vle_of_eq (by rw [x1]; rfl)) .nil), Owns.app (.cons rfl (.cons rfl (.cons rfl (.cons rfl (.cons rfl (.cons rfl (.cons rfl .nil))))))) (.cons (by rw [x2]; rfl) .nil)⟩
   ·have hv : ¬ 0 < (vTot h X i) := fun e => of_decide_eq_false hv (sgn9.2 e)
    rw [if_neg hv] at x1 x2
    refine AW.skip ?_
    exact AW.reach () ⟨trivial, Knows.app (.cons (VLe.refl _) (.cons (VLe.refl _) (.cons (VLe.refl _) (.cons (VLe.refl _) (.cons (VLe.refl _) (.cons (VLe.refl _) (.cons (VLe.refl _) (.cons (VLe.refl _) (.cons (VLe.refl _) .nil))))))))) (.cons (vle_of_eq (by rw [x1]; rfl)) .nil), Owns.app (.cons rfl (.cons rfl (.cons rfl (.cons rfl (.cons rfl (.cons rfl (.cons rfl .nil))))))) (.cons (by rw [x2]; rfl) .nil)⟩
  rintro ⟨⟩ hφ
  refine AW.sg hE rfl (faP fd.Hidden_0 rfl rfl (ldPC ce.int rfl rfl rfl (mkL dQ 0 sl.Rats z.Rat vcs_q0 (n := h.sym) (cp := h.sym) rfl rfl (Nat.le_refl _) (by omega) (by omega) rfl fun b110 => (asO rfl (OL.nil (AW.seq (AW.sg hE rfl ?_)))))))
  refine faP fd.Hidden_1 rfl rfl (ldPC ce.int rfl rfl rfl (mvD rfl (OL.nil (AW.block ?_))))
  refine AW.whileK (α := Nat) [(2, _), (4, _), (5, _), (7, _), (11, _), (12, _), (13, _), (14, _), (16, _), (61, _), (62, _), (112, _)] [(2, _), (4, _), (7, _), (11, _), (14, _), (153, _), (158, _), (163, _)] (fun j => [(113, .d (dI j))]) (fun j => [(110, .row b110 h.sym T.Rat 3 ((poolN h X i j).map dQ))]) (fun j => j ≤ h.st) (fun j => h.st - j) 0 (.cons (knP rfl) (.cons (knP rfl) (.cons (knD rfl) (.cons (knP rfl) (.cons (knP rfl) (.cons (knD rfl) (.cons (knD rfl) (.cons (knP rfl) (.cons (knO rfl) (.cons (knD rfl) (.cons (knD rfl) (.cons (knD rfl) .nil)))))))))))) (.cons (owB rfl) (.cons (owB rfl) (.cons (owB rfl) (.cons (owB rfl) (.cons (owB rfl) (.cons (owR rfl) (.cons (owR rfl) (.cons (owR rfl) .nil)))))))) ⟨Nat.zero_le _, .cons (VLe.refl _) .nil, .cons (by rw [poolN_zero]; rfl) .nil⟩ ?_
  intro j h2
  have h2 : j ≤ h.st := h2
  refine AW.sg hE rfl (c_lss rfl rfl rfl (OL.nil (AW.seq (AW.cond rfl (fun h114 => ?_) (fun h114 => ?_)))))
  ·try simp only [dx9] at h114
   refine AW.skip ?_
   refine AW.midK (α := Unit) [(2, _), (4, _), (5, _), (7, _), (11, _), (12, _), (13, _), (14, _), (16, _), (61, _), (62, _), (112, _), (113, _)] [(2, _), (4, _), (7, _), (11, _), (14, _), (153, _), (158, _), (163, _)] (fun _u => []) (fun _u => [(110, .row b110 h.sym T.Rat 3 ((poolN h X i (j + 1)).map dQ))]) (fun _u => True) (.cons (knP rfl) (.cons (knP rfl) (.cons (knD rfl) (.cons (knP rfl) (.cons (knP rfl) (.cons (knD rfl) (.cons (knD rfl) (.cons (knP rfl) (.cons (knO rfl) (.cons (knD rfl) (.cons (knD rfl) (.cons (knD rfl) (.cons (knD rfl) .nil))))))))))))) (.cons (owB rfl) (.cons (owB rfl) (.cons (owB rfl) (.cons (owB rfl) (.cons (owB rfl) (.cons (owR rfl) (.cons (owR rfl) (.cons (owR rfl) .nil)))))))) ?_ ?_
   ·refine AW.block (AW.seq ?_)
    have hj : j < h.st := by omega
    have hmj : ((List.range h.st).map (shL h X)).getD j [] = shL h X j := map_get9 _ _ hj
    refine AW.rg hE rfl (mvD rfl (asD rfl (OL.nil (AW.seq (AW.dg 1 [0,1,2,3,4,5,6,7,8,9,10] order_free hE rfl (by kernel_rfl) (OI.of_OL (os := [_,_,_,_,_,_,_,_,_,_,_]) rfl ?_))))))
    refine faP fd.Hidden_8 rfl rfl (ldPC ce.ints rfl rfl rfl (mvD rfl (ixLn sl.ints 0 rfl rfl (by (have := e5 (); omega)) rfl rfl (ldRC ce.int rfl (faP fd.Hidden_8 rfl rfl (ldPC ce.ints rfl rfl rfl (mvD rfl ?_)))))))
    refine ixLn sl.ints 0 rfl rfl (by (have := e5 (); omega)) rfl rfl (ldRC ce.int rfl (c_eql rfl rfl rfl (OL.nil (AW.cond rfl (fun ht => ?_) (fun ht => ?_)))))
    ·have ht : h.ties.getD j 0 = h.ties.getD i 0 := of_decide_eq_true ht
     have had := ascent_add (b := b110) (n := h.sym) (a := poolN h X i j) (l := shL h X j) (C1 := 3200000029) (C2 := CX) (poolN_len ..) (Nat.le_of_eq (shL_len9 ..)) (by omega) (pool_small f k5 hall i j (by omega)) (sh_small f k5 hall j) ⟨by decide, by decide⟩ ⟨by decide, by decide⟩
     rw [← poolN_add ht] at had
     refine AW.rg hE rfl (mvO rfl (faP fd.Counts_3 rfl rfl (ldPC ce.Ratss rfl rfl rfl (mvD rfl (ixLn sl.Ratss [] rfl rfl (by (have := hshl (); omega)) rfl rfl (ldRC ce.Rats rfl ?_))))))
     rw [hmj]
     refine OL.callM (v := .tup []) (.mk (args' := [.osl 1000 b110 h.sym h.sym, .d (dQs (shL h X j))]) rfl (.cons vle_osl (.cons (VLe.refl _) .nil)) (mem1_keep (id := 110) (blk := .row b110 h.sym T.Rat 3 ((poolN h X i j).map dQ)) rfl) mem1_sub (FSpecM.ren1 had (.cons vle_osl (.cons (VLe.refl _) .nil)))) ?_
     refine OL.nil ?_
     exact AW.reach () ⟨trivial, Knows.app (.cons (VLe.refl _) (.cons (VLe.refl _) (.cons (VLe.refl _) (.cons (VLe.refl _) (.cons (VLe.refl _) (.cons (VLe.refl _) (.cons (VLe.refl _) (.cons (VLe.refl _) (.cons (VLe.refl _) (.cons (VLe.refl _) (.cons (VLe.refl _) (.cons (VLe.refl _) (.cons (VLe.refl _) .nil))))))))))))) (.nil), Owns.app (.cons rfl (.cons rfl (.cons rfl (.cons rfl (.cons rfl (.cons rfl (.cons rfl (.cons rfl .nil)))))))) (.cons rfl .nil)⟩
    ·have ht : h.ties.getD j 0 ≠ h.ties.getD i 0 := of_decide_eq_false ht
     refine AW.skip ?_
     exact AW.reach () ⟨trivial, Knows.app (.cons (VLe.refl _) (.cons (VLe.refl _) (.cons (VLe.refl _) (.cons (VLe.refl _) (.cons (VLe.refl _) (.cons (VLe.refl _) (.cons (VLe.refl _) (.cons (VLe.refl _) (.cons (VLe.refl _) (.cons (VLe.refl _) (.cons (VLe.refl _) (.cons (VLe.refl _) (.cons (VLe.refl _) .nil))))))))))))) (.nil), Owns.app (.cons rfl (.cons rfl (.cons rfl (.cons rfl (.cons rfl (.cons rfl (.cons rfl (.cons rfl .nil)))))))) (.cons (by rw [poolN_same ht]; rfl) .nil)⟩
   rintro ⟨⟩ hφ
   refine AW.rg hE rfl (add_i64 rfl rfl (by omega) (mvD rfl (OL.nil ?_)))
   exact AW.again (x := j) (j + 1) (by omega) ⟨by omega, Knows.app (.cons (VLe.refl _) (.cons (VLe.refl _) (.cons (VLe.refl _) (.cons (VLe.refl _) (.cons (VLe.refl _) (.cons (VLe.refl _) (.cons (VLe.refl _) (.cons (VLe.refl _) (.cons (VLe.refl _) (.cons (VLe.refl _) (.cons (VLe.refl _) (.cons (VLe.refl _) .nil)))))))))))) (.cons (VLe.refl _) .nil), Owns.app (.cons rfl (.cons rfl (.cons rfl (.cons rfl (.cons rfl (.cons rfl (.cons rfl (.cons rfl .nil)))))))) (.cons rfl .nil)⟩
  ·try simp only [dx9] at h114
   refine AW.exit (AW.seq ?_)
   obtain rfl : j = h.st := by omega
   refine AW.freeze 110 rfl ?_
   refine AW.to [(2, .ptr 2 b2 0), (4, .ptr 4 b4 0), (5, .d (dI 0)), (7, .ptr 7 b7 0), (11, .ptr 11 b11 0), (12, .d (dI i)), (13, .d (dQs (G.trans.getD i []))), (14, .ptr 14 b14 0), (16, .d (dQs (poolN h X i h.st))), (61, .d (dI h.st)), (62, .d (dI i))] [(2, .box b2 T.Hidden (cellsHM h)), (4, .box b4 T.Hidden [.d (dI 0), .d (dI 0), .d (dB false), .mt, .mt, .mt, .mt, .mt, .mt, .mt, .mt]), (7, .box b7 T.Counts [.d (dQs (stL h X)), .d (dQss ((List.range h.st).map (mvL h X))), .d (dQs (enL h X)), .d (dQss ((List.range h.st).map (shL h X)))]), (14, .box b14 T.Rat (cellsQ (G.stop.getD i 0))), (11, .box b11 T.Hidden [.d (dI h.sym), .d (dI h.st), .d (dB (ofQ G.empty).neg), .d (u32s (ofQ G.empty).num), .d (u32s (ofQ G.empty).den), .d (dQs G.ini), .osl 153 p1 i c1, .osl 158 p2 i c2, .osl 163 p3 i c3, .d (bools h.silent), .d (ints h.ties)]), (153, .row p1 c1 T.Rats 1 ((G.trans.take i).map dQs)), (158, .row p2 c2 T.Rat 3 ((G.stop.take i).map dQ)), (163, .row p3 c3 T.Rats 1 ((G.emit.take i).map dQs))] (.cons (VLe.refl _) (.cons (VLe.refl _) (.cons (VLe.refl _) (.cons (VLe.refl _) (.cons (VLe.refl _) (.cons (VLe.refl _) (.cons (VLe.refl _) (.cons (VLe.refl _) (.cons (frz_osl (by rw [List.length_map, poolN_len]) rfl) (.cons (VLe.refl _) (.cons (VLe.refl _) .nil))))))))))) (.cons rfl (.cons rfl (.cons rfl (.cons rfl (.cons rfl (.cons rfl (.cons rfl (.cons rfl (.nil))))))))) ?_
   refine AW.rg hE rfl (faP fd.Hidden_6 rfl rfl (ldPC ce.Ratss rfl rfl rfl (mvD rfl (ixLn sl.Ratss [] rfl rfl (by (have := e4 (); omega)) rfl rfl (ldRC ce.Rats rfl (clv rfl (.cons (VLe.refl _) (.nil)) (fresh_Rats (f.zM i) ⟨hb1, by omega⟩ (by (have := er (); omega))) (asD rfl ?_)))))))
   refine OL.nil ?_
   refine AW.midK (α := Unit) [(2, _), (4, _), (5, _), (7, _), (11, _), (13, _), (14, _), (61, _), (62, _)] [(2, _), (4, _), (7, _), (11, _), (14, _), (153, _), (158, _), (163, _)] (fun _u => [(18, .d (dQs (G.emit.getD i [])))]) (fun _u => []) (fun _u => True) (.cons (knP rfl) (.cons (knP rfl) (.cons (knD rfl) (.cons (knP rfl) (.cons (knP rfl) (.cons (knD rfl) (.cons (knP rfl) (.cons (knD rfl) (.cons (knD rfl) .nil))))))))) (.cons (owB rfl) (.cons (owB rfl) (.cons (owB rfl) (.cons (owB rfl) (.cons (owB rfl) (.cons (owR rfl) (.cons (owR rfl) (.cons (owR rfl) .nil)))))))) ?_ ?_
   ·refine AW.sg hE rfl (mvD rfl (clv rfl (.cons (VLe.refl _) (.nil)) (ascent_sum (pool_small f k5 hall i h.st k4) ⟨by decide, by decide⟩ (pool_big9 hs) (by rw [poolN_len]; omega)) ?_))
    rw [sumu9 h X i]
    refine al z.Rat rfl fun b19 => (sto sz.Rat rfl rfl rfl rfl rfl (nb9 rfl) (cells2 := [_,_,_]) rfl (OL.nil (AW.sg hE rfl (ldPA ag.Rat rfl rfl (vs := [_,_,_]) rfl (nb9 rfl) (clv rfl (.cons (VLe.refl _) (.nil)) (rational_SignQ (x := (uTot h X i)) (zu ())) (c_gtr rfl rfl rfl (OL.nil ?_)))))))
    refine AW.cond rfl (fun hu => ?_) (fun hu => ?_)
    ·have hu : 0 < (uTot h X i) := sgn9.1 (of_decide_eq_true hu)
     rw [if_pos hu] at x3
     have hu0 : (uTot h X i) ≠ 0 := Rat.ne_of_gt hu
     refine AW.rg hE rfl (mvD rfl (ldPA ag.Rat rfl rfl (vs := [_,_,_]) rfl (nb9 rfl) (clv rfl (.cons (VLe.refl _) (.cons (VLe.refl _) (.nil))) (ascent_divided (l := (poolN h X i h.st)) (y := (uTot h X i)) (pool_small f k5 hall i h.st k4) ⟨by decide, by decide⟩ (by rw [poolN_len]; omega) (zu ()) hu0) (asD rfl (OL.nil ?_)))))
     exact AW.reach () ⟨trivial, Knows.app (.cons (VLe.refl _) (.cons (VLe.refl _) (.cons (VLe.refl _) (.cons (VLe.refl _) (.cons (VLe.refl _) (.cons (VLe.refl _) (.cons (VLe.refl _) (.cons (VLe.refl _) (.cons (VLe.refl _) .nil))))))))) (.cons (vle_of_eq (by rw [x3]; rfl)) .nil), Owns.app (.cons rfl (.cons rfl (.cons rfl (.cons rfl (.cons rfl (.cons rfl (.cons rfl (.cons rfl .nil)))))))) (.nil)⟩
    ·have hu : ¬ 0 < (uTot h X i) := fun e => of_decide_eq_false hu (sgn9.2 e)
     rw [if_neg hu] at x3
     refine AW.skip ?_
     exact AW.reach () ⟨trivial, Knows.app (.cons (VLe.refl _) (.cons (VLe.refl _) (.cons (VLe.refl _) (.cons (VLe.refl _) (.cons (VLe.refl _) (.cons (VLe.refl _) (.cons (VLe.refl _) (.cons (VLe.refl _) (.cons (VLe.refl _) .nil))))))))) (.cons (vle_of_eq (by rw [x3]; rfl)) .nil), Owns.app (.cons rfl (.cons rfl (.cons rfl (.cons rfl (.cons rfl (.cons rfl (.cons rfl (.cons rfl .nil)))))))) (.nil)⟩
   rintro ⟨⟩ hφ
   refine AW.dg 2 [0,1,2,3,5,6,7,8,10,11,12,13,4,15,9,14,16,17,18,19,20] order_free hE rfl (by kernel_rfl) (OI.of_OL (os := [_,_,_,_,_,_,_,_,_,_,_,_,_,_,_,_,_,_,_,_,_]) rfl ?_)
   refine faP fd.Hidden_4 rfl rfl (ldPC ce.Ratss rfl rfl rfl (mvD rfl (lt1 sl.Ratss (VC.d _).vd rfl (by decide) (faP fd.Hidden_5 rfl rfl (ldPC ce.Rats rfl rfl rfl (ldPA ag.Rat rfl rfl (vs := [_,_,_]) rfl (nb9 rfl) (lt1 (y := dQ _) sl.Rats vd_q rfl (by decide) ?_)))))))
   refine faP fd.Hidden_6 rfl rfl (ldPC ce.Ratss rfl rfl rfl (mvD rfl (lt1 sl.Ratss (VC.d _).vd rfl (by decide) ?_)))
   refine apO sl.Ratss rfl rfl rfl (by simp only [List.length_map, List.length_take]; have := g2 (); have := g3 (); have := g4 (); omega) (VC.d _) (by simp [D.cells]) (by simp; try (have := g2 (); have := g3 (); have := g4 (); omega)) (by simp; try (have := g2 (); have := g3 (); have := g4 (); omega)) (.inr rfl) (ys := ((G.trans.take (i + 1)).map dQs)) (by rw [take_succ_getD (show i < G.trans.length by have := g2 (); have := g3 (); have := g4 (); omega) [], List.map_append]; rfl) (n2 := i + 1) (by simp) fun q1 d1 => ?_
   refine faP fd.Hidden_4 rfl rfl ?_
   refine apO sl.Rats rfl rfl rfl (by simp only [List.length_map, List.length_take]; have := g2 (); have := g3 (); have := g4 (); omega) (VC.d _) (by simp [D.cells]) (by simp; try (have := g2 (); have := g3 (); have := g4 (); omega)) (by simp; try (have := g2 (); have := g3 (); have := g4 (); omega)) (.inr rfl) (ys := ((G.stop.take (i + 1)).map dQ)) (by rw [take_succ_getD (show i < G.stop.length by have := g2 (); have := g3 (); have := g4 (); omega) 0, List.map_append]; rfl) (n2 := i + 1) (by simp) fun q2 d2 => ?_
   refine apO sl.Ratss rfl rfl rfl (by simp only [List.length_map, List.length_take]; have := g2 (); have := g3 (); have := g4 (); omega) (VC.d _) (by simp [D.cells]) (by simp; try (have := g2 (); have := g3 (); have := g4 (); omega)) (by simp; try (have := g2 (); have := g3 (); have := g4 (); omega)) (.inr rfl) (ys := ((G.emit.take (i + 1)).map dQs)) (by rw [take_succ_getD (show i < G.emit.length by have := g2 (); have := g3 (); have := g4 (); omega) [], List.map_append]; rfl) (n2 := i + 1) (by simp) fun q3 d3 => ?_
   refine sto sz.Ratss rfl rfl rfl rfl rfl (nb9 rfl) (cells2 := [_,_,_,_,_,_,_,_,_,_,_]) rfl (faP fd.Hidden_5 rfl rfl (sto sz.Rats rfl rfl rfl rfl rfl (nb9 rfl) (cells2 := [_,_,_,_,_,_,_,_,_,_,_]) rfl (faP fd.Hidden_6 rfl rfl (sto sz.Ratss rfl rfl rfl rfl rfl (nb9 rfl) (cells2 := [_,_,_,_,_,_,_,_,_,_,_]) rfl (OL.nil (AW.rg hE rfl (add_i64 rfl rfl (by omega) ?_)))))))
   refine mvD rfl (OL.nil ?_)
   exact AW.again (x := (i, p1, c1, p2, c2, p3, c3)) (i + 1, q1, d1, q2, d2, q3, d3) (by (simp only []; omega)) ⟨by omega, Knows.app (.cons (VLe.refl _) (.cons (VLe.refl _) (.cons (VLe.refl _) (.cons (VLe.refl _) (.cons (VLe.refl _) (.cons (VLe.refl _) .nil)))))) (.cons (VLe.refl _) .nil), Owns.app (.cons rfl (.cons rfl (.cons rfl .nil))) (.cons rfl (.cons rfl (.cons rfl (.cons rfl .nil))))⟩
 ·try simp only [dx9] at h63
  refine AW.exit (AW.seq ?_)
  obtain rfl : i = h.st := by omega
  subst hG
  refine AW.rg hE rfl (ldPA ag.Hidden rfl rfl (vs := [_,_,_,_,_,_,_,_,_,_,_]) rfl (nb9 rfl) (sto sz.Hidden rfl rfl rfl rfl rfl (nb9 rfl) (cells2 := [_,_,_,_,_,_,_,_,_,_,_]) rfl (asD rfl (OL.nil ?_))))
  exact AW.ret (RetQ.r ⟨_, .cellA rfl rfl ag.Hidden (nb9 rfl) (.tmp rfl .nil), _, .cons (.ag (.cons (.le (VLe.refl _)) (.cons (.le (VLe.refl _)) (.cons (.le (VLe.refl _)) (.cons (.le (VLe.refl _)) (.cons (.le (VLe.refl _)) (.cons (.le (VLe.refl _)) (.cons (RO.row rfl (by rw [List.length_map, List.length_take]; have := g2 (); have := g3 (); have := g4 (); omega) (by rw [show (reHM h X).trans.take h.st = (reHM h X).trans from List.take_of_length_le (by have := g2 (); have := g3 (); have := g4 (); omega)])) (.cons (RO.row rfl (by rw [List.length_map, List.length_take]; have := g2 (); have := g3 (); have := g4 (); omega) (by rw [show (reHM h X).stop.take h.st = (reHM h X).stop from List.take_of_length_le (by have := g2 (); have := g3 (); have := g4 (); omega)])) (.cons (RO.row rfl (by rw [List.length_map, List.length_take]; have := g2 (); have := g3 (); have := g4 (); omega) (by rw [show (reHM h X).emit.take h.st = (reHM h X).emit from List.take_of_length_le (by have := g2 (); have := g3 (); have := g4 (); omega)])) (.cons (.le (VLe.refl _)) (.cons (.le (VLe.refl _)) .nil)))))))))))) (.cons (.le (VLe.refl _)) .nil), rfl⟩)
end Go.Proofs.YtoohdcpikkkanaaGreat

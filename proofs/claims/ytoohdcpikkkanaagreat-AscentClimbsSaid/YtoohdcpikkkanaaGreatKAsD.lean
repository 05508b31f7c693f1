/-
  Walks for chapter 39, part 4: copies; a model is rounded to a grid (printed by mk2.py).
-/
import Derived.Test.YtoohdcpikkkanaaGreatKAsC
import Derived.Test.YtoohdcpikkkanaaGreatKMod39b
set_option linter.unusedVariables false
set_option linter.unusedSimpArgs false
namespace Go.Proofs.YtoohdcpikkkanaaGreat
open Go Go.AL
theorem dB_len {l : List Bool} : ∀ y, y ∈ l.map dB → y.cells.length = 1 := fun y hy => by obtain ⟨a, _, rfl⟩ := List.mem_map.1 hy; rfl
theorem clone_ints {l : List Int} (nL : l.length ≤ 1099511627776) : FSpec P F.slices_Clone_ints_int [.d (ints l)] (.d (ints l)) := by
 refine FSpec.intro fn.slices_Clone_ints_int (by rfl) (by rfl) (nb9 (by rfl)) fun E hE => (AW.sg hE rfl (asM rfl (OL.nil (AW.seq (AW.sg hE rfl (mvD rfl (isNil sl.ints.u rfl (fun y hy => by rw [dI_len y hy]; exact Nat.one_pos) rfl fun b hb => ?_)))))))
 refine OL.nil (AW.cond rfl (fun h => ?_) (fun h => ?_))
 ·have hL : l = [] := by have := hb h; simpa using this
  exact AW.sg hE rfl (asM rfl (OL.nil (AW.ret (RetQ.r ⟨_, .tmp rfl .nil, .le (hL ▸ VLe.mt)⟩))))
 ·have _h := h
  exact AW.skip (AW.sg hE rfl (lt0 sl.ints (mvD rfl (apMD sl.ints rfl rfl (VC.d _) dI_len (by simp; omega) (by simp; omega) (asD rfl (OL.nil (AW.ret (RetQ.r ⟨_, .tmp rfl .nil, .le (VLe.refl _)⟩))))))))
theorem clone_bools {l : List Bool} (nL : l.length ≤ 1099511627776) : FSpec P F.slices_Clone_bools_bool [.d (bools l)] (.d (bools l)) := by
 refine FSpec.intro fn.slices_Clone_bools_bool (by rfl) (by rfl) (nb9 (by rfl)) fun E hE => (AW.sg hE rfl (asM rfl (OL.nil (AW.seq (AW.sg hE rfl (mvD rfl (isNil sl.bools.u rfl (fun y hy => by rw [dB_len y hy]; exact Nat.one_pos) rfl fun b hb => ?_)))))))
 refine OL.nil (AW.cond rfl (fun h => ?_) (fun h => ?_))
 ·have hL : l = [] := by have := hb h; simpa using this
  exact AW.sg hE rfl (asM rfl (OL.nil (AW.ret (RetQ.r ⟨_, .tmp rfl .nil, .le (hL ▸ VLe.mt)⟩))))
 ·have _h := h
  exact AW.skip (AW.sg hE rfl (lt0 sl.bools (mvD rfl (apMD sl.bools rfl rfl (VC.d _) dB_len (by simp; omega) (by simp; omega) (asD rfl (OL.nil (AW.ret (RetQ.r ⟨_, .tmp rfl .nil, .le (VLe.refl _)⟩))))))))
theorem clone_RatsR {l : List Rat} (nL : l.length ≤ 1099511627776) (h0 : l ≠ []) : FSpecR P F.slices_Clone_Rats_Rat [.d (dQs l)] (l.map dQ).length T.Rat 3 (l.map dQ) := by
 refine FSpecR.intro fn.slices_Clone_Rats_Rat (by rfl) (by rfl) (nb9 (by rfl)) 2 rfl fun E hE => (AW.sg hE rfl (asM rfl (OL.nil (AW.seq (AW.sg hE rfl (mvD rfl (isNil sl.Rats.u rfl (fun y hy => by rw [dQ_len y hy]; decide) rfl fun b hb => ?_)))))))
 refine OL.nil (AW.cond rfl (fun hno => absurd hno (fun e => h0 (by have := hb e; simpa using this))) (fun _ => ?_))
 exact AW.skip (AW.sg hE rfl (lt0 sl.Rats (mvD rfl (apM sl.Rats rfl rfl (VC.d _) dQ_len (by simp; omega) (by simp; omega) rfl fun b7 c7 => (asO rfl (OL.nil (AW.ret ⟨.inr rfl, 7, b7, c7, _, rfl, rfl, Nat.le_refl _, List.take_length⟩)))))))
set_option maxRecDepth 6000 in
set_option maxHeartbeats 3200000 in
theorem ascent_RoundW {h : HM} {B g : Nat} (k : h.GoodW B) (hg : 1 ≤ g ∧ g ≤ 1048576) (hs : h.sym ≤ 12) (ht : h.st ≤ 11) : FSpec P F.ascent_Round [vHM h, .d (dI g)] (.tup [vHM (roundHM h g), .d (dI 0)]) := by
 have f := k.form
 have n0 := f.st0
 have n1 := f.st1
 have s0 := f.sym0
 have hb1 := f.b1
 have hbB := f.bB
 have e1 := f.ini
 have e2 := f.trans
 have e3 := f.stop
 have e4 := f.emit
 have e5 := f.ties
 have e6 := f.sill
 have rg := round_good k hg
 have hlf : (roundF (h.empty :: h.ini) g).length = h.st + 1 := by rw [roundF_len, first_len f]
 have g2 : (roundHM h g).trans.length = h.st := rg.form.trans
 have g3 : (roundHM h g).stop.length = h.st := rg.form.stop
 have g4 : (roundHM h g).emit.length = h.st := rg.form.emit
 refine FSpec.intro fn.ascent_Round (by rfl) (by rfl) (nb9 (by rfl)) fun E hE => (AW.sg hE rfl (bxA rfl rfl fun b2 => (al z.Hidden rfl fun b4 => (asD rfl (OL.nil (AW.seq (AW.sg hE rfl ?_)))))))
 refine ldPA ag.Hidden rfl rfl (vs := [_,_,_,_,_,_,_,_,_,_,_]) rfl (nb9 rfl) (clv rfl (.cons (VLe.refl _) (.nil)) (hmm_Valid_okW k) (asD rfl (OL.nil (AW.sg hE rfl (mvD rfl (c_neq rfl rfl (c := false) (by exact cne_f (by omega)) (OL.nil ?_)))))))
 refine AW.cond rfl (fun hno => absurd hno (by decide)) (fun _ => ?_)
 refine AW.skip (AW.seq (AW.sg hE rfl (ldPA ag.Hidden rfl rfl (vs := [_,_,_,_,_,_,_,_,_,_,_]) rfl (nb9 rfl) (clv rfl (.cons (VLe.refl _) (.nil)) (hmm_Plain_okW k) (nt rfl (OL.nil (AW.cond rfl (fun hno => absurd hno (by decide)) (fun _ => ?_))))))))
 refine AW.skip (AW.seq (AW.sg hE rfl (mvD rfl (c_lss rfl rfl (c := false) (by exact decide_eq_false (by omega)) (mvD rfl (OL.yes rfl (mvD rfl ?_)))))))
 refine OL.yes rfl (c_gtr rfl rfl (c := false) (by exact decide_eq_false (by omega)) (pkF rfl rfl (OL.nil (AW.cond rfl (fun hno => absurd hno (by decide)) (fun _ => ?_)))))
 refine AW.skip (AW.sg hE rfl (faP fd.Hidden_2 rfl rfl (ldPA ag.Rat rfl rfl (vs := [_,_,_]) rfl (nb9 rfl) (lt1O (y := dQ h.empty) sl.Rats vd_q rfl (by decide) rfl fun b30 => (faP fd.Hidden_3 rfl rfl (ldPC ce.Rats rfl rfl rfl (apOD sl.Rats rfl rfl rfl rfl (VC.d _) dQ_len (by simp; omega) (by simp; omega) (.inl rfl) (ys := (h.empty :: h.ini).map dQ) rfl ?_)))))))
 refine mvD rfl (clv rfl (.cons (VLe.refl _) (.cons (VLe.refl _) (.nil))) (ascent_rounded (C := B) (first_small f) ⟨hb1, by omega⟩ (first_shares k) (first_sum k) ⟨by rw [first_len f]; omega, by rw [first_len f]; omega⟩ hg) (asD rfl (OL.nil (AW.seq (AW.dg 1 [0,1,2,3,4,5,6,7,8,9,10,11,12,13,14,15,16,17] order_free hE rfl (by kernel_rfl) (OI.of_OL (os := [_,_,_,_,_,_,_,_,_,_,_,_,_,_,_,_,_,_]) rfl ?_))))))
 refine faP fd.Hidden_0 rfl rfl (ldPC ce.int rfl rfl rfl (faP fd.Hidden_1 rfl rfl (ldPC ce.int rfl rfl rfl (mvD rfl (ixLe 0 sl.Rats 0 rfl rfl rfl (by omega) rfl rfl (ldRA ag.Rat rfl (vs := [_,_,_]) rfl (nb9 rfl) (mvD rfl ?_)))))))
 refine slFrom sl.Rats rfl rfl (fun _ => rfl) (by omega) (l2 := (roundHM h g).ini) rfl (faP fd.Hidden_7 rfl rfl (ldPC ce.bools rfl rfl rfl (clv rfl (.cons (VLe.refl _) (.nil)) (clone_bools (by omega)) (faP fd.Hidden_8 rfl rfl (ldPC ce.ints rfl rfl rfl (clv rfl (.cons (VLe.refl _) (.nil)) (clone_ints (by omega)) (bd2 (cs := [_,_,_,_,_,_,_,_,_,_,_]) z.Hidden pl.Hidden (pvC (by exact evD rfl) (pvC (by exact evD rfl) (pvC (by exact evA rfl) (pvC (by exact evD rfl) (pvC (by exact evD rfl) (pvC (by exact evD rfl) (pvN))))))) (by rfl) ?_)))))))
 refine al z.Hidden rfl fun b8 => (sto sz.Hidden rfl rfl rfl rfl rfl (nb9 rfl) (cells2 := [_,_,_,_,_,_,_,_,_,_,_]) rfl (OL.nil (AW.seq (AW.sg hE rfl (faP fd.Hidden_1 rfl rfl (ldPC ce.int rfl rfl rfl (mvD rfl ?_)))))))
 refine OL.nil ?_
 refine AW.boxW 8 [.d (dI h.sym), .d (dI h.st), .d (dB (ofQ (roundHM h g).empty).neg), .d (u32s (ofQ (roundHM h g).empty).num), .d (u32s (ofQ (roundHM h g).empty).den), .d (dQs (roundHM h g).ini), .osl 81 0 0 0, .osl 90 0 0 0, .osl 101 0 0 0, .d (bools h.silent), .d (ints h.ties)] rfl (.cons (VLe.refl _) (.cons (VLe.refl _) (.cons (VLe.refl _) (.cons (VLe.refl _) (.cons (VLe.refl _) (.cons (VLe.refl _) (.cons VLe.mtO (.cons VLe.mtO (.cons VLe.mtO (.cons (VLe.refl _) (.cons (VLe.refl _) .nil))))))))))) ?_
 refine AW.row0 81 T.Rats 1 rfl (AW.row0 90 T.Rat 3 rfl (AW.row0 101 T.Rats 1 rfl (AW.block ?_)))
 refine AW.whileK (α := Nat × Nat × Nat × Nat × Nat × Nat × Nat) [(1, _), (2, _), (4, _), (5, _), (8, _), (53, _)] [(2, _), (4, _)] (fun (i, p1, c1, p2, c2, p3, c3) => [(54, .d (dI i))]) (fun (i, p1, c1, p2, c2, p3, c3) => [(8, .box b8 T.Hidden [.d (dI h.sym), .d (dI h.st), .d (dB (ofQ (roundHM h g).empty).neg), .d (u32s (ofQ (roundHM h g).empty).num), .d (u32s (ofQ (roundHM h g).empty).den), .d (dQs (roundHM h g).ini), .osl 81 p1 i c1, .osl 90 p2 i c2, .osl 101 p3 i c3, .d (bools h.silent), .d (ints h.ties)]), (81, .row p1 c1 T.Rats 1 (((roundHM h g).trans.take i).map dQs)), (90, .row p2 c2 T.Rat 3 (((roundHM h g).stop.take i).map dQ)), (101, .row p3 c3 T.Rats 1 (((roundHM h g).emit.take i).map dQs))]) (fun (i, p1, c1, p2, c2, p3, c3) => i ≤ h.st) (fun (i, p1, c1, p2, c2, p3, c3) => h.st - i) (0, 0, 0, 0, 0, 0, 0) (.cons (knD rfl) (.cons (knP rfl) (.cons (knP rfl) (.cons (knD rfl) (.cons (knP rfl) (.cons (knD rfl) .nil)))))) (.cons (owB rfl) (.cons (owB rfl) .nil)) ⟨Nat.zero_le _, .cons (VLe.refl _) .nil, .cons rfl (.cons rfl (.cons rfl (.cons rfl .nil)))⟩ ?_
 rintro ⟨i, p1, c1, p2, c2, p3, c3⟩ h1
 have h1 : i ≤ h.st := h1
 refine AW.sg hE rfl (c_lss rfl rfl rfl (OL.nil (AW.seq (AW.cond rfl (fun h55 => ?_) (fun h55 => ?_)))))
 ·try simp only [dx9] at h55
  refine AW.skip (AW.seq (AW.block (AW.seq ?_)))
  have hi : i < h.st := by omega
  have tr := f.trow i hi
  have er := f.erow i hi
  have hlt : (roundF (rowTS h i) g).length = h.st + 1 := (roundF_len (rowTS h i) g).trans (rowTS_len f hi)
  have x1 := roundHM_trans (h := h) (g := g) hi
  have x2 := roundHM_stop (h := h) (g := g) hi
  have x3 := roundHM_emit (h := h) (g := g) hi
  refine AW.rg hE rfl (mvD rfl (asD rfl (OL.nil (AW.seq (AW.dg 128 [0,1,2,3,4,6,7,8,9,10,11,13,5,12,14,15] order_free hE rfl (by kernel_rfl) (OI.of_OL (os := [_,_,_,_,_,_,_,_,_,_,_,_,_,_,_,_]) rfl ?_))))))
  refine faP fd.Hidden_4 rfl rfl (ldPC ce.Ratss rfl rfl rfl (mvD rfl (ixLn sl.Ratss [] rfl rfl (by omega) rfl rfl (ldRC ce.Rats rfl (faP fd.Hidden_5 rfl rfl (ldPC ce.Rats rfl rfl rfl (mvD rfl ?_)))))))
  refine ixLn sl.Rats 0 rfl rfl (by omega) rfl rfl (ldRA ag.Rat rfl (vs := [_,_,_]) rfl (nb9 rfl) (lt1 (y := dQ _) sl.Rats vd_q rfl (by decide) (mvD rfl (clRd rfl (.cons (VLe.refl _) .nil) (clone_RatsR (l := h.trans.getD i []) (by omega) (fun e => by rw [e] at tr; simp at tr; omega)) rfl rfl fun b62 c62 => ?_))))
  refine apOD sl.Rats rfl rfl rfl rfl (VC.d _) (by simp [D.cells]) (by simp only [List.length_map, List.length_singleton]; omega) (by simp only [List.length_map, List.length_singleton]; omega) (.inl rfl) (ys := (rowTS h i).map dQ) (by rw [rowTS, List.map_append]; rfl) ?_
  refine clv rfl (.cons (VLe.refl _) (.cons (VLe.refl _) (.nil))) (ascent_rounded (C := B) (rowTS_small f i) ⟨hb1, by omega⟩ (rowTS_shares k i) (k.sT i hi) ⟨by rw [rowTS_len f hi]; omega, by rw [rowTS_len f hi]; omega⟩ hg) (asD rfl (OL.nil (AW.dg 2 [0,1,2,3,4,5,6,7,8,10,11,12,13,14,15,16,17,19,20,21,22,23,24,25,26,9,30,18,27,28,29,31,32,33,34,35] order_free hE rfl (by kernel_rfl) (OI.of_OL (os := [_,_,_,_,_,_,_,_,_,_,_,_,_,_,_,_,_,_,_,_,_,_,_,_,_,_,_,_,_,_,_,_,_,_,_,_]) rfl ?_))))
  refine faP fd.Hidden_4 rfl rfl (ldPC ce.Ratss rfl rfl rfl (mvD rfl (faP fd.Hidden_1 rfl rfl (ldPC ce.int rfl rfl rfl (faP fd.Hidden_1 rfl rfl (ldPC ce.int rfl rfl rfl (slCap sl.Rats rfl rfl rfl (fun _ => rfl) (by omega) (l2 := (roundHM h g).trans.getD i []) x1.symm ?_)))))))
  refine lt1 sl.Ratss (VC.d _).vd rfl (by decide) (faP fd.Hidden_5 rfl rfl (ldPC ce.Rats rfl rfl rfl (mvD rfl (faP fd.Hidden_1 rfl rfl (ldPC ce.int rfl rfl rfl (ixLn sl.Rats 0 rfl rfl (by omega) rfl rfl ?_))))))
  rw [← x2]
  refine ldRA ag.Rat rfl (vs := [_,_,_]) rfl (nb9 rfl) (lt1 (y := dQ _) sl.Rats vd_q rfl (by decide) (faP fd.Hidden_6 rfl rfl (ldPC ce.Ratss rfl rfl rfl (faP fd.Hidden_6 rfl rfl (ldPC ce.Ratss rfl rfl rfl (mvD rfl (ixLn sl.Ratss [] rfl rfl (by omega) rfl rfl ?_)))))))
  refine ldRC ce.Rats rfl (mvD rfl ?_)
  refine apO sl.Ratss rfl rfl rfl (by simp only [List.length_map, List.length_take]; omega) (VC.d _) (by simp [D.cells]) (by simp; omega) (by simp; omega) (.inr rfl) (ys := (((roundHM h g).trans.take (i + 1)).map dQs)) (by rw [take_succ_getD (show i < (roundHM h g).trans.length by omega) [], List.map_append]; rfl) (n2 := i + 1) (by simp) fun q1 d1 => ?_
  refine faP fd.Hidden_4 rfl rfl ?_
  refine apO sl.Rats rfl rfl rfl (by simp only [List.length_map, List.length_take]; omega) (VC.d _) (by simp [D.cells]) (by simp; omega) (by simp; omega) (.inr rfl) (ys := (((roundHM h g).stop.take (i + 1)).map dQ)) (by rw [take_succ_getD (show i < (roundHM h g).stop.length by omega) 0, List.map_append]; rfl) (n2 := i + 1) (by simp) fun q2 d2 => ?_
  refine clv rfl (.cons (VLe.refl _) (.cons (VLe.refl _) (.nil))) (ascent_rounded (C := B) (f.zM i) ⟨hb1, by omega⟩ (k.pM i) (k.sM i hi) ⟨by omega, by omega⟩ hg) ?_
  rw [← x3]
  refine lt1 sl.Ratss (VC.d _).vd rfl (by decide) ?_
  refine apO sl.Ratss rfl rfl rfl (by simp only [List.length_map, List.length_take]; omega) (VC.d _) (by simp [D.cells]) (by simp; omega) (by simp; omega) (.inr rfl) (ys := (((roundHM h g).emit.take (i + 1)).map dQs)) (by rw [take_succ_getD (show i < (roundHM h g).emit.length by omega) [], List.map_append]; rfl) (n2 := i + 1) (by simp) fun q3 d3 => ?_
  refine sto sz.Ratss rfl rfl rfl rfl rfl (nb9 rfl) (cells2 := [_,_,_,_,_,_,_,_,_,_,_]) rfl (faP fd.Hidden_5 rfl rfl (sto sz.Rats rfl rfl rfl rfl rfl (nb9 rfl) (cells2 := [_,_,_,_,_,_,_,_,_,_,_]) rfl (faP fd.Hidden_6 rfl rfl (sto sz.Ratss rfl rfl rfl rfl rfl (nb9 rfl) (cells2 := [_,_,_,_,_,_,_,_,_,_,_]) rfl (OL.nil (AW.rg hE rfl (add_i64 rfl rfl (by omega) ?_)))))))
  refine mvD rfl (OL.nil ?_)
  exact AW.again (x := (i, p1, c1, p2, c2, p3, c3)) (i + 1, q1, d1, q2, d2, q3, d3) (by (simp only []; omega)) ⟨by omega, Knows.app (.cons (VLe.refl _) (.cons (VLe.refl _) (.cons (VLe.refl _) (.cons (VLe.refl _) (.cons (VLe.refl _) (.cons (VLe.refl _) .nil)))))) (.cons (VLe.refl _) .nil), Owns.app (.cons rfl (.cons rfl .nil)) (.cons rfl (.cons rfl (.cons rfl (.cons rfl .nil))))⟩
 ·try simp only [dx9] at h55
  refine AW.exit (AW.seq ?_)
  obtain rfl : i = h.st := by omega
  refine AW.rg hE rfl (ldPA ag.Hidden rfl rfl (vs := [_,_,_,_,_,_,_,_,_,_,_]) rfl (nb9 rfl) (sto sz.Hidden rfl rfl rfl rfl rfl (nb9 rfl) (cells2 := [_,_,_,_,_,_,_,_,_,_,_]) rfl (asD rfl (OL.nil ?_))))
  exact AW.ret (RetQ.r ⟨_, .cellA rfl rfl ag.Hidden (nb9 rfl) (.tmp rfl .nil), _, .cons (.ag (.cons (.le (VLe.refl _)) (.cons (.le (VLe.refl _)) (.cons (.le (VLe.refl _)) (.cons (.le (VLe.refl _)) (.cons (.le (VLe.refl _)) (.cons (.le (VLe.refl _)) (.cons (RO.row rfl (by rw [List.length_map, List.length_take]; omega) (by rw [show (roundHM h g).trans.take h.st = (roundHM h g).trans from List.take_of_length_le (by omega)])) (.cons (RO.row rfl (by rw [List.length_map, List.length_take]; omega) (by rw [show (roundHM h g).stop.take h.st = (roundHM h g).stop from List.take_of_length_le (by omega)])) (.cons (RO.row rfl (by rw [List.length_map, List.length_take]; omega) (by rw [show (roundHM h g).emit.take h.st = (roundHM h g).emit from List.take_of_length_le (by omega)])) (.cons (.le (VLe.refl _)) (.cons (.le (VLe.refl _)) .nil)))))))))))) (.cons (.le (VLe.refl _)) .nil), rfl⟩)
theorem ascent_Round {h : HM} {B g : Nat} (k : h.Good B) (hg : 1 ≤ g ∧ g ≤ 1048576) (hs : h.sym ≤ 12) (ht : h.st ≤ 11) : FSpec P F.ascent_Round [vHM h, .d (dI g)] (.tup [vHM (roundHM h g), .d (dI 0)]) := ascent_RoundW k.w hg hs ht
end Go.Proofs.YtoohdcpikkkanaaGreat

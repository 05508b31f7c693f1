/-
  Walks of the specification of chapter 35: the ways to each state, the whole (printed by mk2.py).
-/
import Derived.Test.YtcebciggodhmcaaGreatKOnL
set_option linter.unusedVariables false
set_option linter.unusedSimpArgs false
namespace Go.Proofs.YtcebciggodhmcaaGreat
open Go Go.AL
set_option maxRecDepth 8000 in
set_option maxHeartbeats 6400000 in
theorem ref35_Ways {h : HM} {B : Nat} {w : List Int} (g : h.Good B) (kw : WordOK h w) (hw0 : w.length ≠ 0) : FSpec P F.ref35_Ways [vHM h, .d (ints w), .d nilD, .d (dI 1)] (.d (colW h w w.length)) := by
  have f := g.form
  have n0 := f.st0
  have n1 := f.st1
  have s1 := f.sym1
  have e1 := f.ini
  have e2 := f.trans
  have e4 := f.emit
  have k1 := kw.1
  refine FSpec.intro fn.ref35_Ways (by rfl) (by rfl) (Nat.le_of_ble_eq_true (by rfl)) fun E hE => ?_
  refine AW.seq ?_
  refine AW.region (by rw [hE]; rfl) ?_
  refine bxA rfl rfl fun b4 => ?_
  refine asM rfl ?_
  refine OL.nil ?_
  refine AW.seq ?_
  refine AW.region (by rw [hE]; rfl) ?_
  refine asM rfl ?_
  refine OL.nil ?_
  refine AW.seq ?_
  refine AW.seq ?_
  refine AW.region (by rw [hE]; rfl) ?_
  refine asD rfl ?_
  refine OL.nil ?_
  refine AW.block ?_
  refine AW.whileK (α := Nat) [(1, _), (2, _), (3, _), (4, _), (8, _)] [(4, _)] (fun t => [(9, .d (nowW h w t)), (10, .d (dI t))]) (fun t => []) (fun t => t ≤ w.length) (fun t => w.length - t) 0 (by repeat (first | exact Knows.nil | refine Knows.cons (by first | exact knD rfl | exact knA rfl | exact knP rfl | exact knO rfl | exact knM rfl | exact knE rfl | exact knR rfl | exact knF rfl | exact knT rfl | exact knJ) ?_)) (.cons (by first | exact owB rfl | exact owR rfl | exact owL rfl | exact owT rfl) .nil) ⟨Nat.zero_le _, .cons (VLe.mt) (.cons (by first | exact VLe.refl _ | exact VLe.int (by omega) | exact VLe.mt | exact vle_q0 | exact VLe.osl | exact VLe.ptr) .nil), .nil⟩ ?_
  intro t h1
  have h1 : t ≤ w.length := h1
  refine AW.seq ?_
  refine AW.seq ?_
  refine AW.region (by rw [hE]; rfl) ?_
  refine mvD rfl ?_
  refine mvD rfl ?_
  refine lnL sl.ints rfl rfl ?_
  refine c_lss rfl rfl rfl ?_
  refine OL.nil ?_
  refine AW.cond rfl (fun h20 => ?_) (fun h20 => ?_)
  · first | (simp only [decide_eq_true_eq, decide_eq_false_iff_not, Bool.not_eq_true', Bool.not_eq_false', Bool.not_not, Bool.and_eq_true, Bool.and_eq_false_iff, Bool.or_eq_true, Bool.or_eq_false_iff] at h20) | skip
    refine AW.skip ?_
    refine AW.seq ?_
    refine AW.block ?_
    refine AW.seq ?_
    refine AW.regionS (by rw [hE]; rfl) ?_
    refine SL.ofOL (faP fd.Hidden_1 (b := b4) (o := 0) (id := 4) rfl rfl (OL.nil ?_))
    refine SL.ofOL (ldPC ce.int rfl rfl (v := .d (dI h.st)) rfl (OL.nil ?_))
    refine SL.ofSO rfl (SO.makeNil (show 25 < E.n by rw [hE]; exact Nat.le_of_ble_eq_true rfl) rfl rfl sl.Wayss raw.Ways (Nat.le_refl _) (by omega) (by omega) fun b25 => ?_)
    refine SL.ofOL (asO rfl (OL.nil ?_))
    refine SL.nil ?_
    refine AW.seq ?_
    refine AW.seq ?_
    refine AW.region (by rw [hE]; rfl) ?_
    refine asD rfl ?_
    refine OL.nil ?_
    refine AW.block ?_
    refine AW.whileK (α := Nat) [(1, _), (2, _), (3, _), (4, _), (8, _), (9, _), (10, _), (11, _)] [(4, _)] (fun j => [(12, .d (dI j))]) (fun j => [(25, .row b25 h.st T.Ways 1 ((rowW h w t j)))]) (fun j => j ≤ h.st) (fun j => h.st - j) 0 (by repeat (first | exact Knows.nil | refine Knows.cons (by first | exact knD rfl | exact knA rfl | exact knP rfl | exact knO rfl | exact knM rfl | exact knE rfl | exact knR rfl | exact knF rfl | exact knT rfl | exact knJ) ?_)) (.cons (by first | exact owB rfl | exact owR rfl | exact owL rfl | exact owT rfl) .nil) ⟨Nat.zero_le _, .cons (by first | exact VLe.refl _ | exact VLe.int (by omega) | exact VLe.mt | exact vle_q0 | exact VLe.osl | exact VLe.ptr) .nil, .cons (by rw [rowW, fillF_zero]; rfl) .nil⟩ ?_
    intro j h2
    have h2 : j ≤ h.st := h2
    have hrl := rowW_len h w t j
    refine AW.seq ?_
    refine AW.seq ?_
    refine AW.region (by rw [hE]; rfl) ?_
    refine mvD rfl ?_
    refine faP fd.Hidden_1 rfl rfl ?_
    refine ldPC ce.int rfl rfl rfl ?_
    refine c_lss rfl rfl rfl ?_
    refine OL.nil ?_
    refine AW.cond rfl (fun h29 => ?_) (fun h29 => ?_)
    · first | (simp only [decide_eq_true_eq, decide_eq_false_iff_not, Bool.not_eq_true', Bool.not_eq_false', Bool.not_not, Bool.and_eq_true, Bool.and_eq_false_iff, Bool.or_eq_true, Bool.or_eq_false_iff] at h29) | skip
      refine AW.skip ?_
      have hj : j < h.st := by omega
      refine AW.midK (α := Nat × Nat) [(1, _), (2, _), (3, _), (4, _), (8, _), (9, _), (10, _), (11, _)] [(4, _)] (fun (b5, c5) => [(12, .d (dI j))]) (fun (b5, c5) => [(25, .row b25 h.st T.Ways 1 ((rowW h w t j).set j (hdW (wayF h w (t + 1) j) b5 c5))), (1001, bkW (wayF h w (t + 1) j) b5 c5)]) (fun (b5, c5) => True) (by repeat (first | exact Knows.nil | refine Knows.cons (by first | exact knD rfl | exact knA rfl | exact knP rfl | exact knO rfl | exact knM rfl | exact knE rfl | exact knR rfl | exact knF rfl | exact knT rfl | exact knJ) ?_)) (.cons (by first | exact owB rfl | exact owR rfl | exact owL rfl | exact owT rfl) .nil) ?_ ?_
      · refine AW.block ?_
        refine AW.seq ?_
        refine AW.seq ?_
        refine AW.regionS (by rw [hE]; rfl) ?_
        refine SL.ofOL (mvD rfl (OL.nil ?_))
        refine SL.ofSO rfl (SO.neqNil (show 33 < E.n by rw [hE]; exact Nat.le_of_ble_eq_true rfl) sl.intss.u rfl ?_)
        refine SL.ofOL (mvD rfl (OL.nil ?_))
        refine SL.ofOL (OL.no rfl (by decide) (OL.nil ?_))
        refine SL.ofOL (OL.no rfl (by decide) (OL.nil ?_))
        refine SL.ofOL (OL.no rfl (by decide) (OL.nil ?_))
        refine SL.ofOL (OL.no rfl (by decide) (OL.nil ?_))
        refine SL.ofOL (OL.no rfl (by decide) (OL.nil ?_))
        refine SL.ofOL (OL.no rfl (by decide) (OL.nil ?_))
        refine SL.ofOL (OL.no rfl (by decide) (OL.nil ?_))
        refine SL.ofOL (pkF rfl rfl (OL.nil ?_))
        refine SL.nil ?_
        refine AW.cond rfl (fun hno => absurd hno (by decide)) (fun _ => ?_)
        refine AW.skip ?_
        refine AW.seq ?_
        have hx := kw.symX (t := t) (by omega)
        have ej := f.erow j hj
        have zem := em_sz f j (symX w t)
        refine AW.region_draw 1 [0, 1, 2, 3, 4, 5, 6, 7, 8, 9, 10, 11, 12, 13] order_free (by rw [hE]; rfl) (by kernel_rfl) (OI.of_OL (os := [_, _, _, _, _, _, _, _, _, _, _, _, _, _]) rfl ?_)
        refine faP fd.Hidden_6 rfl rfl ?_
        refine ldPC ce.Ratss rfl rfl rfl ?_
        refine mvD rfl ?_
        refine ixLn sl.Ratss [] rfl rfl (by omega) rfl rfl ?_
        refine ldRC ce.Rats rfl ?_
        refine mvD rfl ?_
        refine mvD rfl ?_
        refine ixLn sl.ints 0 rfl rfl (by omega) rfl rfl ?_
        refine ldRC ce.int rfl ?_
        rw [hx.2]
        refine bo rfl rfl (bin_sub (c := ((symX w t) : Int)) (by omega) (wrap_i64 (by omega))) ?_
        refine ixLn sl.Rats 0 rfl rfl (by omega) rfl rfl ?_
        refine ldRA ag.Rat rfl (vs := [_, _, _]) rfl (Nat.le_of_ble_eq_true rfl) ?_
        refine al z.Rat rfl fun b13 => ?_
        refine sto sz.Rat rfl rfl rfl rfl rfl (Nat.le_of_ble_eq_true rfl) (cells2 := [_, _, _]) rfl ?_
        refine OL.nil ?_
        refine AW.seq ?_
        refine AW.seq ?_
        refine AW.region (by rw [hE]; rfl) ?_
        refine mvD rfl ?_
        refine c_eql rfl rfl rfl ?_
        refine OL.nil ?_
        refine AW.cond rfl (fun ht => ?_) (fun ht => ?_)
        · obtain rfl : t = 0 := by have := of_decide_eq_true ht; omega
          refine AW.seq ?_
          have hq0 : 0 ≤ (h.ini.getD j 0 * emQ h j (symX w 0)) := Rat.mul_nonneg (ini_nonneg g j) (em_nonneg g j _)
          have zi := ini_sz f j
          have zq : sz (h.ini.getD j 0 * emQ h j (symX w 0)) ≤ sz (h.ini.getD j 0) + sz (emQ h j (symX w 0)) := sz_mul _ _
          by_cases hq : (h.ini.getD j 0 * emQ h j (symX w 0)) = 0
          · have hw1 : wayF h w (0 + 1) j = (0, []) := by rw [wayF_first, hq, putW_zero Rat.le_refl]
            refine AW.region_planS (val12 h (emQ h j (symX w 0)) (h.ini.getD j 0 * emQ h j (symX w 0)) b4 b25 j fun _ => .d nilD) (fun _ _ => none) own12 15 order_free (by rw [hE]; rfl) (by rfl) (by kernel_rfl) (by kernel_rfl) ?_ ?_
            · refine cases15 ?_ ?_ ?_ ?_ ?_ ?_ ?_ ?_ ?_ ?_ ?_ ?_ ?_ ?_ ?_
              · exact fun β L c9 => ⟨_, rfl, .inl (OG.of_OL (mvO ((pS_old rfl).trans rfl) ⟨β, pS_put (d := 57) (i := 0) rfl (fun t ht => own12_inj ht) (lt_size 16 c9.size rfl (by decide)) rfl⟩))⟩
              · exact fun β L c9 => ⟨_, rfl, .inl (OG.of_OL (mvD (y := dI j) ((pS_old rfl).trans rfl) ⟨β, pS_put (d := 58) (i := 1) rfl (fun t ht => own12_inj ht) (lt_size 16 c9.size rfl (by decide)) rfl⟩))⟩
              · exact fun β L c9 => ⟨_, rfl, .inl (OG.of_OL (mvD (y := dI j) ((pS_old rfl).trans rfl) ⟨β, pS_put (d := 59) (i := 2) rfl (fun t ht => own12_inj ht) (lt_size 16 c9.size rfl (by decide)) rfl⟩))⟩
              · exact fun β L c9 => ⟨_, rfl, .inl (OG.of_OL (lt1 (y := dI j) sl.ints (vd_to (pS_new rfl (c9.dep 2 (by kernel_rfl))) (VC.d _).vd) rfl (by decide) ⟨β, pS_put (d := 60) (i := 3) rfl (fun t ht => own12_inj ht) (lt_size 16 c9.size rfl (by decide)) rfl⟩))⟩
              · exact fun β L c9 => ⟨_, rfl, .inl (OG.of_OL (faP fd.Hidden_3 (b := b4) (o := 0) (id := 4) ((pS_old rfl).trans rfl) rfl ⟨β, pS_put (d := 61) (i := 4) rfl (fun t ht => own12_inj ht) (lt_size 16 c9.size rfl (by decide)) rfl⟩))⟩
              · exact fun β L c9 => ⟨_, rfl, .inl (OG.of_OL (ldPC ce.Rats (pS_new rfl (c9.dep 4 (by kernel_rfl))) (((pS_Mold rfl).trans rfl : _ = some (.box b4 T.Hidden (cellsHM h)))) (v := .d (dQs h.ini)) rfl ⟨β, pS_put (d := 62) (i := 5) rfl (fun t ht => own12_inj ht) (lt_size 16 c9.size rfl (by decide)) rfl⟩))⟩
              · exact fun β L c9 => ⟨_, rfl, .inl (OG.of_OL (mvD (y := dI j) ((pS_old rfl).trans rfl) ⟨β, pS_put (d := 63) (i := 6) rfl (fun t ht => own12_inj ht) (lt_size 16 c9.size rfl (by decide)) rfl⟩))⟩
              · exact fun β L c9 => ⟨_, rfl, .inl (OG.of_OL (ixLn sl.Rats 0 (l := h.ini) (f := dQ) (i := j) (pS_new rfl (c9.dep 5 (by kernel_rfl))) (pS_new rfl (c9.dep 6 (by kernel_rfl))) (by omega) (cs := (dQ (h.ini.getD j 0)).cells) rfl rfl ⟨β, pS_put (d := 64) (i := 7) rfl (fun t ht => own12_inj ht) (lt_size 16 c9.size rfl (by decide)) rfl⟩))⟩
              · exact fun β L c9 => ⟨_, rfl, .inl (OG.of_OL (ldRA ag.Rat (pS_new rfl (c9.dep 7 (by kernel_rfl))) (vs := cellsQ (h.ini.getD j 0)) rfl (Nat.le_of_ble_eq_true rfl) ⟨β, pS_put (d := 65) (i := 8) rfl (fun t ht => own12_inj ht) (lt_size 16 c9.size rfl (by decide)) rfl⟩))⟩
              · exact fun β L c9 => ⟨_, rfl, .inl (OG.of_OL (ldPA ag.Rat ((pS_old rfl).trans rfl) (((pS_Mold rfl).trans rfl : _ = some (.box b13 T.Rat (cellsQ (emQ h j (symX w 0)))))) (vs := cellsQ (emQ h j (symX w 0))) rfl (Nat.le_of_ble_eq_true rfl) ⟨β, pS_put (d := 66) (i := 9) rfl (fun t ht => own12_inj ht) (lt_size 16 c9.size rfl (by decide)) rfl⟩))⟩
              · exact fun β L c9 => ⟨_, rfl, .inl (OG.of_OL (clv rfl (.cons (vle_of_eq (pS_new rfl (c9.dep 8 (by kernel_rfl)))) (.cons (vle_of_eq (pS_new rfl (c9.dep 9 (by kernel_rfl)))) .nil)) (ref_MulQ (x := h.ini.getD j 0) (y := (emQ h j (symX w 0))) (by omega) (by omega)) ⟨β, pS_put (d := 67) (i := 10) rfl (fun t ht => own12_inj ht) (lt_size 16 c9.size rfl (by decide)) rfl⟩))⟩
              · exact fun β L c9 => ⟨_, rfl, .inl (OG.of_OL (bd2 (cs := [_, _, _, _]) z.Way pl.Way (pvC (pS_new rfl (c9.dep 3 (by kernel_rfl))) (pvC (pS_new rfl (c9.dep 10 (by kernel_rfl))) pvN)) (by rfl) ⟨β, pS_put (d := 68) (i := 11) rfl (fun t ht => own12_inj ht) (lt_size 16 c9.size rfl (by decide)) rfl⟩))⟩
              · exact fun β L c9 => ⟨_, rfl, .inl (OG.of_OL (mvD (y := dI 1) ((pS_old rfl).trans rfl) ⟨β, pS_put (d := 69) (i := 12) rfl (fun t ht => own12_inj ht) (lt_size 16 c9.size rfl (by decide)) rfl⟩))⟩
              · exact fun β L c9 => ⟨_, rfl, SG.of_SO (SO.callN (args2 := [.d (.sc (.slice none 0 0)), vWay ((h.ini.getD j 0 * emQ h j (symX w 0)), [(j : Int)]), .d (dI 1)]) (res := .d nilD) (show 70 < E.n by rw [hE]; exact Nat.le_of_ble_eq_true rfl) rfl (fun F a hev => simVs_cons (.d (.sc rfl) rfl) (simVs_cons (sim_of (hev (.tmp 68)) (pS_new rfl (c9.dep 11 (by kernel_rfl)))) (simVs_cons (sim_of (hev (.tmp 69)) (pS_new rfl (c9.dep 12 (by kernel_rfl)))) simVs_nil))) (put_zero (v := .slice none 0 0) (w := ((h.ini.getD j 0 * emQ h j (symX w 0)), [(j : Int)])) (k := 1) hq) ⟨β, pS_put (d := 70) (i := 13) rfl (fun t ht => own12_inj ht) (lt_size 16 c9.size rfl (by decide)) rfl⟩)⟩
              · exact fun β L c9 => ⟨_, rfl, .inl (OG.of_OL (ixOn sl.Wayss (pS_new rfl (c9.dep 0 (by kernel_rfl))) (pS_new rfl (c9.dep 1 (by kernel_rfl))) hj ⟨β, pS_put (d := 71) (i := 14) rfl (fun t ht => own12_inj ht) (lt_size 16 c9.size rfl (by decide)) rfl⟩))⟩
            refine fun β L c9 => ⟨_, rfl, .inl (OG.of_OL (stE sz.Ways (pS_new rfl (c9.dep 14 (by kernel_rfl))) (vd_to (pS_new rfl (c9.dep 13 (by kernel_rfl))) (VC.d _).vd) ((pS_Mold rfl).trans rfl) rfl (by omega) (es2 := (rowW h w 0 j).set j (hdW (wayF h w (0 + 1) j) 0 0) ) (by rw [hw1]; exact congrArg _ (if_neg (by decide)).symm) ?_))⟩
            refine OL.nil ?_
            refine AW.to [(1, _), (2, _), (3, _), (4, _), (8, _), (9, _), (10, _), (11, _), (12, .d (dI j))] [(4, .box b4 T.Hidden (cellsHM h)), (25, .row b25 h.st T.Ways 1 ((rowW h w 0 j).set j (hdW (wayF h w (0 + 1) j) 0 0)))] (.cons (vle_of_eq (rhoS ((pS_old rfl).trans rfl))) (.cons (vle_of_eq (rhoS ((pS_old rfl).trans rfl))) (.cons (vle_of_eq (rhoS ((pS_old rfl).trans rfl))) (.cons (vle_of_eq (rhoS ((pS_old rfl).trans rfl))) (.cons (vle_of_eq (rhoS ((pS_old rfl).trans rfl))) (.cons (vle_of_eq (rhoS ((pS_old rfl).trans rfl))) (.cons (vle_of_eq (rhoS ((pS_old rfl).trans rfl))) (.cons (vle_of_eq (rhoS ((pS_old rfl).trans rfl))) (.cons (vle_of_eq (rhoS ((pS_old rfl).trans rfl))) (.nil)))))))))) (.cons (upneS (show (4:Nat) ≠ 25 by decide) ((pS_Mold rfl).trans rfl)) (.cons upsmS (.nil))) ?_
            refine AW.dead 1001 rfl ?_
            refine AW.exit ?_
            exact AW.reach (0, 0) ⟨trivial, Knows.app (.cons (VLe.refl _) (.cons (VLe.refl _) (.cons (VLe.refl _) (.cons (VLe.refl _) (.cons (VLe.refl _) (.cons (VLe.refl _) (.cons (VLe.refl _) (.cons (VLe.refl _) (.nil))))))))) (.cons (VLe.refl _) .nil), Owns.app (.cons rfl .nil) (.cons rfl (.cons (by rw [hw1]; exact congrArg some (if_neg (by decide)).symm) .nil))⟩
          · have hp : 0 < (h.ini.getD j 0 * emQ h j (symX w 0)) := (rat_pos hq0).resolve_right fun e => hq e.symm
            have hw1 : wayF h w (0 + 1) j = ((h.ini.getD j 0 * emQ h j (symX w 0)), [(j : Int)]) := by rw [wayF_first, putW_first hp]
            refine AW.region_planM (val12 h (emQ h j (symX w 0)) (h.ini.getD j 0 * emQ h j (symX w 0)) b4 b25 j fun x => .osl 1001 x.1 1 x.2) own12 (mfC 13 70 1001 fun x => .row x.1 x.2 T.Way 4 [dWay ((h.ini.getD j 0 * emQ h j (symX w 0)), [(j : Int)])]) 15 (fun β L hL => mfC_none (hL 13)) order_free (by rw [hE]; rfl) (by rfl) (by kernel_rfl) (by kernel_rfl) ?_ ?_
            · refine cases15 ?_ ?_ ?_ ?_ ?_ ?_ ?_ ?_ ?_ ?_ ?_ ?_ ?_ ?_ ?_
              · exact fun β L c9 => ⟨_, rfl, .inl (OG.of_OL (mvO ((pG_old rfl).trans rfl) ⟨β, pG_put (d := 57) (i := 0) rfl (fun t ht => own12_inj ht) (lt_size 16 c9.size rfl (by decide)) (mfC_same (lt_size 16 c9.size rfl (by decide)) (by decide))⟩))⟩
              · exact fun β L c9 => ⟨_, rfl, .inl (OG.of_OL (mvD (y := dI j) ((pG_old rfl).trans rfl) ⟨β, pG_put (d := 58) (i := 1) rfl (fun t ht => own12_inj ht) (lt_size 16 c9.size rfl (by decide)) (mfC_same (lt_size 16 c9.size rfl (by decide)) (by decide))⟩))⟩
              · exact fun β L c9 => ⟨_, rfl, .inl (OG.of_OL (mvD (y := dI j) ((pG_old rfl).trans rfl) ⟨β, pG_put (d := 59) (i := 2) rfl (fun t ht => own12_inj ht) (lt_size 16 c9.size rfl (by decide)) (mfC_same (lt_size 16 c9.size rfl (by decide)) (by decide))⟩))⟩
              · exact fun β L c9 => ⟨_, rfl, .inl (OG.of_OL (lt1 (y := dI j) sl.ints (vd_to (pG_new rfl (c9.dep 2 (by kernel_rfl))) (VC.d _).vd) rfl (by decide) ⟨β, pG_put (d := 60) (i := 3) rfl (fun t ht => own12_inj ht) (lt_size 16 c9.size rfl (by decide)) (mfC_same (lt_size 16 c9.size rfl (by decide)) (by decide))⟩))⟩
              · exact fun β L c9 => ⟨_, rfl, .inl (OG.of_OL (faP fd.Hidden_3 (b := b4) (o := 0) (id := 4) ((pG_old rfl).trans rfl) rfl ⟨β, pG_put (d := 61) (i := 4) rfl (fun t ht => own12_inj ht) (lt_size 16 c9.size rfl (by decide)) (mfC_same (lt_size 16 c9.size rfl (by decide)) (by decide))⟩))⟩
              · exact fun β L c9 => ⟨_, rfl, .inl (OG.of_OL (ldPC ce.Rats (pG_new rfl (c9.dep 4 (by kernel_rfl))) (pG_M (mfC_get (t := 4) (e := 1001) (b := .box b4 T.Hidden (cellsHM h)) (by decide) rfl)) (v := .d (dQs h.ini)) rfl ⟨β, pG_put (d := 62) (i := 5) rfl (fun t ht => own12_inj ht) (lt_size 16 c9.size rfl (by decide)) (mfC_same (lt_size 16 c9.size rfl (by decide)) (by decide))⟩))⟩
              · exact fun β L c9 => ⟨_, rfl, .inl (OG.of_OL (mvD (y := dI j) ((pG_old rfl).trans rfl) ⟨β, pG_put (d := 63) (i := 6) rfl (fun t ht => own12_inj ht) (lt_size 16 c9.size rfl (by decide)) (mfC_same (lt_size 16 c9.size rfl (by decide)) (by decide))⟩))⟩
              · exact fun β L c9 => ⟨_, rfl, .inl (OG.of_OL (ixLn sl.Rats 0 (l := h.ini) (f := dQ) (i := j) (pG_new rfl (c9.dep 5 (by kernel_rfl))) (pG_new rfl (c9.dep 6 (by kernel_rfl))) (by omega) (cs := (dQ (h.ini.getD j 0)).cells) rfl rfl ⟨β, pG_put (d := 64) (i := 7) rfl (fun t ht => own12_inj ht) (lt_size 16 c9.size rfl (by decide)) (mfC_same (lt_size 16 c9.size rfl (by decide)) (by decide))⟩))⟩
              · exact fun β L c9 => ⟨_, rfl, .inl (OG.of_OL (ldRA ag.Rat (pG_new rfl (c9.dep 7 (by kernel_rfl))) (vs := cellsQ (h.ini.getD j 0)) rfl (Nat.le_of_ble_eq_true rfl) ⟨β, pG_put (d := 65) (i := 8) rfl (fun t ht => own12_inj ht) (lt_size 16 c9.size rfl (by decide)) (mfC_same (lt_size 16 c9.size rfl (by decide)) (by decide))⟩))⟩
              · exact fun β L c9 => ⟨_, rfl, .inl (OG.of_OL (ldPA ag.Rat ((pG_old rfl).trans rfl) (pG_M (mfC_get (t := 13) (e := 1001) (b := .box b13 T.Rat (cellsQ (emQ h j (symX w 0)))) (by decide) rfl)) (vs := cellsQ (emQ h j (symX w 0))) rfl (Nat.le_of_ble_eq_true rfl) ⟨β, pG_put (d := 66) (i := 9) rfl (fun t ht => own12_inj ht) (lt_size 16 c9.size rfl (by decide)) (mfC_same (lt_size 16 c9.size rfl (by decide)) (by decide))⟩))⟩
              · exact fun β L c9 => ⟨_, rfl, .inl (OG.of_OL (clv rfl (.cons (vle_of_eq (pG_new rfl (c9.dep 8 (by kernel_rfl)))) (.cons (vle_of_eq (pG_new rfl (c9.dep 9 (by kernel_rfl)))) .nil)) (ref_MulQ (x := h.ini.getD j 0) (y := (emQ h j (symX w 0))) (by omega) (by omega)) ⟨β, pG_put (d := 67) (i := 10) rfl (fun t ht => own12_inj ht) (lt_size 16 c9.size rfl (by decide)) (mfC_same (lt_size 16 c9.size rfl (by decide)) (by decide))⟩))⟩
              · exact fun β L c9 => ⟨_, rfl, .inl (OG.of_OL (bd2 (cs := [_, _, _, _]) z.Way pl.Way (pvC (pG_new rfl (c9.dep 3 (by kernel_rfl))) (pvC (pG_new rfl (c9.dep 10 (by kernel_rfl))) pvN)) (by rfl) ⟨β, pG_put (d := 68) (i := 11) rfl (fun t ht => own12_inj ht) (lt_size 16 c9.size rfl (by decide)) (mfC_same (lt_size 16 c9.size rfl (by decide)) (by decide))⟩))⟩
              · exact fun β L c9 => ⟨_, rfl, .inl (OG.of_OL (mvD (y := dI 1) ((pG_old rfl).trans rfl) ⟨β, pG_put (d := 69) (i := 12) rfl (fun t ht => own12_inj ht) (lt_size 16 c9.size rfl (by decide)) (mfC_same (lt_size 16 c9.size rfl (by decide)) (by decide))⟩))⟩
              · exact fun β L c9 => ⟨_, rfl, SG.of_SO (SO.callRAt (id := 1001) (show 70 < E.n by rw [hE]; exact Nat.le_of_ble_eq_true rfl) rfl (.cons (VLe.refl _) (.cons (vle_of_eq (pG_new rfl (c9.dep 11 (by kernel_rfl)))) (.cons (vle_of_eq (pG_new rfl (c9.dep 12 (by kernel_rfl)))) .nil))) (put_new (w := ((h.ini.getD j 0 * emQ h j (symX w 0)), [(j : Int)])) (show sz (h.ini.getD j 0 * emQ h j (symX w 0)) ≤ 68719476736 by omega) hq) fun b8 c8 => ⟨upd β 70 (b8, c8), pG_set (d := 70) (i := 13) (x := (b8, c8)) rfl (fun t ht => own12_inj ht) (lt_size 16 c9.size rfl (by decide)) rfl (mfC_set (lt_size 16 c9.size rfl (by decide)) c9.no) (fun t j ho hl => by unfold own12 at ho; split at ho <;> cases ho <;> first | rfl | (rw [c9.no] at hl; cases hl))⟩)⟩
              · exact fun β L c9 => ⟨_, rfl, .inl (OG.of_OL (ixOn sl.Wayss (pG_new rfl (c9.dep 0 (by kernel_rfl))) (pG_new rfl (c9.dep 1 (by kernel_rfl))) hj ⟨β, pG_put (d := 71) (i := 14) rfl (fun t ht => own12_inj ht) (lt_size 16 c9.size rfl (by decide)) (mfC_same (lt_size 16 c9.size rfl (by decide)) (by decide))⟩))⟩
            refine fun β L c9 => ⟨_, rfl, SG.of_SO (SO.stHead (id := 1001) (es := [dWay ((h.ini.getD j 0 * emQ h j (symX w 0)), [(j : Int)])]) (pG_new rfl (c9.dep 14 (by kernel_rfl))) (pG_new rfl (c9.dep 13 (by kernel_rfl))) (pG_M (mfC_new (c9.dep 13 (by kernel_rfl)))) (pG_M (mfC_get (t := 25) (e := 1001) (b := .row b25 h.st T.Ways 1 (rowW h w 0 j)) (by decide) rfl)) sz.Ways (by omega) (show 0 < 1 by decide) fun hc => ?_)⟩
            refine AW.to [(1, _), (2, _), (3, _), (4, _), (8, _), (9, _), (10, _), (11, _), (12, .d (dI j))] [(4, .box b4 T.Hidden (cellsHM h)), (25, .row b25 h.st T.Ways 1 ((rowW h w 0 j).set j (hdC (β 70).1 1 (β 70).2))), (1001, .row (β 70).1 (β 70).2 T.Way 4 [dWay ((h.ini.getD j 0 * emQ h j (symX w 0)), [(j : Int)])])] (.cons (vle_of_eq (rhoS ((pG_old rfl).trans rfl))) (.cons (vle_of_eq (rhoS ((pG_old rfl).trans rfl))) (.cons (vle_of_eq (rhoS ((pG_old rfl).trans rfl))) (.cons (vle_of_eq (rhoS ((pG_old rfl).trans rfl))) (.cons (vle_of_eq (rhoS ((pG_old rfl).trans rfl))) (.cons (vle_of_eq (rhoS ((pG_old rfl).trans rfl))) (.cons (vle_of_eq (rhoS ((pG_old rfl).trans rfl))) (.cons (vle_of_eq (rhoS ((pG_old rfl).trans rfl))) (.cons (vle_of_eq (rhoS ((pG_old rfl).trans rfl))) (.nil)))))))))) (.cons (upneS (show (4:Nat) ≠ 25 by decide) (pG_M (mfC_get (t := 4) (e := 1001) (by decide) rfl))) (.cons upsmS (.cons (upneS (show (1001:Nat) ≠ 25 by decide) (pG_M (mfC_new (c9.dep 13 (by kernel_rfl))))) (.nil)))) ?_
            refine AW.exit ?_
            exact AW.reach ((β 70).1, (β 70).2) ⟨trivial, Knows.app (.cons (VLe.refl _) (.cons (VLe.refl _) (.cons (VLe.refl _) (.cons (VLe.refl _) (.cons (VLe.refl _) (.cons (VLe.refl _) (.cons (VLe.refl _) (.cons (VLe.refl _) (.nil))))))))) (.cons (VLe.refl _) .nil), Owns.app (.cons rfl .nil) (.cons (by rw [hw1]; exact congrArg (fun z => some (Blk.row b25 h.st T.Ways 1 ((rowW h w 0 j).set j z))) (if_pos hp).symm) (.cons (by rw [hw1]; exact congrArg some (if_pos hp).symm) .nil))⟩
        · have ht0 : t ≠ 0 := fun e => of_decide_eq_false ht (by omega)
          rw [show nowW h w t = colW h w t from if_neg ht0]
          refine AW.skip ?_
          refine AW.seq ?_
          refine AW.region (by rw [hE]; rfl) ?_
          refine asD rfl ?_
          refine OL.nil ?_
          refine AW.block ?_
          refine AW.dead 1001 rfl ?_
          refine AW.whileK (α := Nat × Nat × Nat) [(1, _), (2, _), (3, _), (4, _), (8, _), (9, _), (10, _), (11, _), (12, _), (13, _)] [(4, _), (13, _)] (fun (i, b, c) => [(14, .d (dI i))]) (fun (i, b, c) => [(25, .row b25 h.st T.Ways 1 ((rowW h w t j).set j (hdW (wayN h (wayF h w t) (symX w t) j i) b c))), (1001, bkW (wayN h (wayF h w t) (symX w t) j i) b c)]) (fun (i, b, c) => i ≤ h.st ∧ (0 < (wayN h (wayF h w t) (symX w t) j i).1 → 1 ≤ c)) (fun (i, b, c) => h.st - i) (0, 0, 0) (by repeat (first | exact Knows.nil | refine Knows.cons (by first | exact knD rfl | exact knA rfl | exact knP rfl | exact knO rfl | exact knM rfl | exact knE rfl | exact knR rfl | exact knF rfl | exact knT rfl | exact knJ) ?_)) (by repeat (first | exact Owns.nil | refine Owns.cons (by first | exact owB rfl | exact owR rfl | exact owL rfl | exact owT rfl) ?_)) ⟨⟨Nat.zero_le _, fun e => absurd e (by show ¬ (0 : Rat) < 0; decide)⟩, .cons (by first | exact VLe.refl _ | exact VLe.int (by omega) | exact VLe.mt | exact vle_q0 | exact VLe.osl | exact VLe.ptr) .nil, .cons (by rw [show hdW (wayN h (wayF h w t) (symX w t) j 0) 0 0 = nilD from if_neg (by show ¬ (0 : Rat) < 0; decide), rowW_nil hj]; rfl) (.cons (by rw [bkW, if_neg (by show ¬ (0 : Rat) < 0; decide)]; rfl) .nil)⟩ ?_
          rintro ⟨i, b, c⟩ ⟨h4, hc4⟩
          have h4 : i ≤ h.st := h4
          have hc4 : 0 < (wayN h (wayF h w t) (symX w t) j i).1 → 1 ≤ c := hc4
          have zv := wayF_sz f w t i
          refine AW.seq ?_
          refine AW.seq ?_
          refine AW.region (by rw [hE]; rfl) ?_
          refine mvD rfl ?_
          refine faP fd.Hidden_1 rfl rfl ?_
          refine ldPC ce.int rfl rfl rfl ?_
          refine c_lss rfl rfl rfl ?_
          refine OL.nil ?_
          refine AW.cond rfl (fun h75 => ?_) (fun h75 => ?_)
          · have h75 : i < h.st := by have := of_decide_eq_true h75; omega
            have zt := tr_sz f i j
            have ti := f.trow i (by omega)
            refine AW.skip ?_
            refine AW.seq ?_
            refine AW.block ?_
            refine AW.seq ?_
            refine AW.region (by rw [hE]; rfl) ?_
            refine asD rfl ?_
            refine OL.nil ?_
            refine AW.block ?_
            refine AW.whileK (α := Nat × Nat × Nat) [(1, _), (2, _), (3, _), (4, _), (8, _), (9, _), (10, _), (11, _), (12, _), (13, _), (14, _)] [(4, _), (13, _)] (fun (m_, b3, c3) => [(15, .d (dI m_))]) (fun (m_, b3, c3) => [(25, .row b25 h.st T.Ways 1 ((rowW h w t j).set j (hdW (if m_ = 0 then (wayN h (wayF h w t) (symX w t) j i) else (wayN h (wayF h w t) (symX w t) j (i + 1))) b3 c3))), (1001, bkW (if m_ = 0 then (wayN h (wayF h w t) (symX w t) j i) else (wayN h (wayF h w t) (symX w t) j (i + 1))) b3 c3)]) (fun (m_, b3, c3) => m_ ≤ 1 ∧ (0 < (if m_ = 0 then (wayN h (wayF h w t) (symX w t) j i) else (wayN h (wayF h w t) (symX w t) j (i + 1))).1 → 1 ≤ c3)) (fun (m_, b3, c3) => 1 - m_) (0, b, c) (by repeat (first | exact Knows.nil | refine Knows.cons (by first | exact knD rfl | exact knA rfl | exact knP rfl | exact knO rfl | exact knM rfl | exact knE rfl | exact knR rfl | exact knF rfl | exact knT rfl | exact knJ) ?_)) (by repeat (first | exact Owns.nil | refine Owns.cons (by first | exact owB rfl | exact owR rfl | exact owL rfl | exact owT rfl) ?_)) ⟨⟨Nat.zero_le _, hc4⟩, .cons (by first | exact VLe.refl _ | exact VLe.int (by omega) | exact VLe.mt | exact vle_q0 | exact VLe.osl | exact VLe.ptr) .nil, .cons rfl (.cons rfl .nil)⟩ ?_
            rintro ⟨m_, b3, c3⟩ ⟨h6, h6c⟩
            have h6 : m_ ≤ 1 := h6
            have h6c : 0 < (if m_ = 0 then (wayN h (wayF h w t) (symX w t) j i) else (wayN h (wayF h w t) (symX w t) j (i + 1))).1 → 1 ≤ c3 := h6c
            refine AW.seq ?_
            refine AW.seq ?_
            refine AW.region (by rw [hE]; rfl) ?_
            refine mvD rfl ?_
            refine mvD rfl ?_
            refine mvD rfl ?_
            refine ixDn sl.Wayss rfl rfl (el := dWl (wayF h w t i)) (col_el (by omega)) rfl rfl ?_
            refine ldRC ce.Ways rfl ?_
            refine lnD sl.Ways rfl rfl (n := if 0 < (wayF h w t i).1 then 1 else 0) (by split <;> rfl) ?_
            refine c_lss rfl rfl rfl ?_
            refine OL.nil ?_
            refine AW.cond rfl (fun h84 => ?_) (fun h84 => ?_)
            · have h84 : (m_ : Int) < ((if 0 < (wayF h w t i).1 then 1 else 0 : Nat) : Int) := of_decide_eq_true h84
              have hv : 0 < (wayF h w t i).1 := Decidable.byContradiction fun e => by rw [if_neg e] at h84; omega
              rw [if_pos hv] at h84
              obtain rfl : m_ = 0 := by omega
              have hc1 : 0 < (wayN h (wayF h w t) (symX w t) j i).1 → 1 ≤ c3 := h6c
              refine AW.skip ?_
              refine AW.midK (α := Nat × Nat) [(1, _), (2, _), (3, _), (4, _), (8, _), (9, _), (10, _), (11, _), (12, _), (13, _), (14, _)] [(4, _), (13, _)] (fun (b2, c2) => [(15, .d (dI (0 : Nat)))]) (fun (b2, c2) => [(25, .row b25 h.st T.Ways 1 ((rowW h w t j).set j (hdW (wayN h (wayF h w t) (symX w t) j (i + 1)) b2 c2))), (1001, bkW (wayN h (wayF h w t) (symX w t) j (i + 1)) b2 c2)]) (fun (b2, c2) => (0 < (wayN h (wayF h w t) (symX w t) j (i + 1)).1 → 1 ≤ c2)) (by repeat (first | exact Knows.nil | refine Knows.cons (by first | exact knD rfl | exact knA rfl | exact knP rfl | exact knO rfl | exact knM rfl | exact knE rfl | exact knR rfl | exact knF rfl | exact knT rfl | exact knJ) ?_)) (by repeat (first | exact Owns.nil | refine Owns.cons (by first | exact owB rfl | exact owR rfl | exact owL rfl | exact owT rfl) ?_)) ?_ ?_
              · refine AW.block ?_
                refine AW.seq ?_
                have zp1 : sz ((wayF h w t i).1 * trQ h i j) ≤ sz (wayF h w t i).1 + sz (trQ h i j) := sz_mul _ _
                have zp2 : sz ((wayF h w t i).1 * trQ h i j * emQ h j (symX w t)) ≤ sz ((wayF h w t i).1 * trQ h i j) + sz (emQ h j (symX w t)) := sz_mul _ _
                refine AW.region_draw 1 [0, 1, 2, 3, 4, 5, 6, 7, 8, 9, 10, 11, 12, 13, 14, 15, 16, 17, 18, 19, 20] order_free (by rw [hE]; rfl) (by kernel_rfl) (OI.of_OL (os := [_, _, _, _, _, _, _, _, _, _, _, _, _, _, _, _, _, _, _, _, _]) rfl ?_)
                refine mvD rfl ?_
                refine mvD rfl ?_
                refine ixDn sl.Wayss rfl rfl (el := dWl (wayF h w t i)) (col_el (by omega)) rfl rfl ?_
                refine ldRC ce.Ways rfl ?_
                refine mvD rfl ?_
                refine ixDn (n := 0) sl.Ways rfl rfl (el := dWay (wayF h w t i)) (by rw [if_pos hv]; rfl) rfl rfl ?_
                refine faR fd.Way_1 rfl rfl ?_
                refine ldRA ag.Rat rfl (vs := cellsQ (wayF h w t i).1) rfl (Nat.le_of_ble_eq_true rfl) ?_
                refine faP fd.Hidden_4 rfl rfl ?_
                refine ldPC ce.Ratss rfl rfl rfl ?_
                refine mvD rfl ?_
                refine ixLn sl.Ratss [] rfl rfl (by omega) rfl rfl ?_
                refine ldRC ce.Rats rfl ?_
                refine mvD rfl ?_
                refine ixLn sl.Rats 0 rfl rfl (by omega) rfl rfl ?_
                refine ldRA ag.Rat rfl (vs := [_, _, _]) rfl (Nat.le_of_ble_eq_true rfl) ?_
                refine clv rfl (.cons (VLe.refl _) (.cons (VLe.refl _) (.nil))) (ref_MulQ (x := (wayF h w t i).1) (y := trQ h i j) (by omega) (by omega)) ?_
                refine ldPA ag.Rat rfl rfl (vs := [_, _, _]) rfl (Nat.le_of_ble_eq_true rfl) ?_
                refine clv rfl (.cons (VLe.refl _) (.cons (VLe.refl _) (.nil))) (ref_MulQ (x := (wayF h w t i).1 * trQ h i j) (y := emQ h j (symX w t)) (by omega) (by omega)) ?_
                refine al z.Rat rfl fun b16 => ?_
                refine sto sz.Rat rfl rfl rfl rfl rfl (Nat.le_of_ble_eq_true rfl) (cells2 := [_, _, _]) rfl ?_
                refine OL.nil ?_
                have hvl := wayF_len g w t i hv
                have hcl := wayN_len g (wayF_nonneg g w t) (wayF_len g w t) (symX w t) j i
                have hcn := wayN_nonneg g (wayF_nonneg g w t) (symX w t) j i
                have hxn : 0 ≤ ((wayF h w t i).1 * trQ h i j * emQ h j (symX w t)) := Rat.mul_nonneg (Rat.mul_nonneg (wayF_nonneg g w t i) (tr_nonneg g i j)) (em_nonneg g j _)
                have zcu := wayN_sz f (v := wayF h w t) (C := 1 + 2048 * t) (wayF_sz f w t) (symX w t) j i
                have hel : ((rowW h w t j).set j (hdW (wayN h (wayF h w t) (symX w t) j i) b3 c3))[j]? = some (hdW (wayN h (wayF h w t) (symX w t) j i) b3 c3) := List.getElem?_set_self (by omega)
                have hnx0 : (wayN h (wayF h w t) (symX w t) j (i + 1)) = putW ((wayF h w t i).1 * trQ h i j * emQ h j (symX w t)) ((wayF h w t i).2 ++ [(j : Int)]) (wayN h (wayF h w t) (symX w t) j i) := rfl
                by_cases hx0 : ((wayF h w t i).1 * trQ h i j * emQ h j (symX w t)) = 0
                · obtain ⟨vv, hvv⟩ := hdW_sc (wayN h (wayF h w t) (symX w t) j i) b3 c3
                  have hnx : (wayN h (wayF h w t) (symX w t) j (i + 1)) = (wayN h (wayF h w t) (symX w t) j i) := by rw [hnx0, hx0, putW_zero hcn]
                  refine AW.region_planM (val20 (colW h w t) (wayF h w t i) h.st i j b25 (hdW (wayN h (wayF h w t) (symX w t) j i) b3 c3) ((wayF h w t i).1 * trQ h i j * emQ h j (symX w t)) (fun _ => .d (hdW (wayN h (wayF h w t) (symX w t) j i) b3 c3))) own20 (mfP (wayF h w t i).2 none) 24 (fun β L hL => mfP_none rfl hL) order_free (by rw [hE]; rfl) (by rfl) (by kernel_rfl) (by kernel_rfl) ?_ ?_
                  · refine cases24 ?_ ?_ ?_ ?_ ?_ ?_ ?_ ?_ ?_ ?_ ?_ ?_ ?_ ?_ ?_ ?_ ?_ ?_ ?_ ?_ ?_ ?_ ?_ ?_
                    · exact fun β L c9 => ⟨_, rfl, .inl (OG.of_OL (mvO ((pG_old rfl).trans rfl) ⟨β, pG_put (d := 106) (i := 0) rfl (fun t ht => own20_inj ht) (lt_size 25 c9.size rfl (by decide)) (mfP_same (lt_size 25 c9.size rfl (by decide)) (by decide) (by decide) (by decide))⟩))⟩
                    · exact fun β L c9 => ⟨_, rfl, .inl (OG.of_OL (mvD (y := dI j) ((pG_old rfl).trans rfl) ⟨β, pG_put (d := 107) (i := 1) rfl (fun t ht => own20_inj ht) (lt_size 25 c9.size rfl (by decide)) (mfP_same (lt_size 25 c9.size rfl (by decide)) (by decide) (by decide) (by decide))⟩))⟩
                    · exact fun β L c9 => ⟨_, rfl, .inl (OG.of_OL (mvO ((pG_old rfl).trans rfl) ⟨β, pG_put (d := 108) (i := 2) rfl (fun t ht => own20_inj ht) (lt_size 25 c9.size rfl (by decide)) (mfP_same (lt_size 25 c9.size rfl (by decide)) (by decide) (by decide) (by decide))⟩))⟩
                    · exact fun β L c9 => ⟨_, rfl, .inl (OG.of_OL (mvD (y := dI j) ((pG_old rfl).trans rfl) ⟨β, pG_put (d := 109) (i := 3) rfl (fun t ht => own20_inj ht) (lt_size 25 c9.size rfl (by decide)) (mfP_same (lt_size 25 c9.size rfl (by decide)) (by decide) (by decide) (by decide))⟩))⟩
                    · exact fun β L c9 => ⟨_, rfl, .inl (OG.of_OL (ixOn sl.Wayss (pG_new rfl (c9.dep 2 (by kernel_rfl))) (pG_new rfl (c9.dep 3 (by kernel_rfl))) hj ⟨β, pG_put (d := 110) (i := 4) rfl (fun t ht => own20_inj ht) (lt_size 25 c9.size rfl (by decide)) (mfP_same (lt_size 25 c9.size rfl (by decide)) (by decide) (by decide) (by decide))⟩))⟩
                    · exact fun β L c9 => ⟨_, rfl, .inl (OG.of_OL (ldEC ce.Ways (by decide) (pG_new rfl (c9.dep 4 (by kernel_rfl))) (pG_M (mfP_get (t := 25) (b := .row b25 h.st T.Ways 1 ((rowW h w t j).set j (hdW (wayN h (wayF h w t) (symX w t) j i) b3 c3))) (by decide) (by decide) rfl)) (el := (hdW (wayN h (wayF h w t) (symX w t) j i) b3 c3)) hel (d := (hdW (wayN h (wayF h w t) (symX w t) j i) b3 c3)) (by rw [hdW_cells]; rfl) ⟨β, pG_put (d := 111) (i := 5) rfl (fun t ht => own20_inj ht) (lt_size 25 c9.size rfl (by decide)) (mfP_same (lt_size 25 c9.size rfl (by decide)) (by decide) (by decide) (by decide))⟩))⟩
                    · exact fun β L c9 => ⟨_, rfl, .inl (OG.of_OL (lt0 sl.ints ⟨β, pG_put (d := 112) (i := 6) rfl (fun t ht => own20_inj ht) (lt_size 25 c9.size rfl (by decide)) (mfP_same (lt_size 25 c9.size rfl (by decide)) (by decide) (by decide) (by decide))⟩))⟩
                    · exact fun β L c9 => ⟨_, rfl, .inl (OG.of_OL (mvD (y := colW h w t) ((pG_old rfl).trans rfl) ⟨β, pG_put (d := 113) (i := 7) rfl (fun t ht => own20_inj ht) (lt_size 25 c9.size rfl (by decide)) (mfP_same (lt_size 25 c9.size rfl (by decide)) (by decide) (by decide) (by decide))⟩))⟩
                    · exact fun β L c9 => ⟨_, rfl, .inl (OG.of_OL (mvD (y := dI i) ((pG_old rfl).trans rfl) ⟨β, pG_put (d := 114) (i := 8) rfl (fun t ht => own20_inj ht) (lt_size 25 c9.size rfl (by decide)) (mfP_same (lt_size 25 c9.size rfl (by decide)) (by decide) (by decide) (by decide))⟩))⟩
                    · exact fun β L c9 => ⟨_, rfl, .inl (OG.of_OL (ixDn sl.Wayss (pG_new rfl (c9.dep 7 (by kernel_rfl))) (pG_new rfl (c9.dep 8 (by kernel_rfl))) (el := dWl (wayF h w t i)) (col_el (by omega)) rfl rfl ⟨β, pG_put (d := 115) (i := 9) rfl (fun t ht => own20_inj ht) (lt_size 25 c9.size rfl (by decide)) (mfP_same (lt_size 25 c9.size rfl (by decide)) (by decide) (by decide) (by decide))⟩))⟩
                    · exact fun β L c9 => ⟨_, rfl, .inl (OG.of_OL (ldRC ce.Ways (pG_new rfl (c9.dep 9 (by kernel_rfl))) ⟨β, pG_put (d := 116) (i := 10) rfl (fun t ht => own20_inj ht) (lt_size 25 c9.size rfl (by decide)) (mfP_same (lt_size 25 c9.size rfl (by decide)) (by decide) (by decide) (by decide))⟩))⟩
                    · exact fun β L c9 => ⟨_, rfl, .inl (OG.of_OL (mvD (y := dI (0 : Nat)) ((pG_old rfl).trans rfl) ⟨β, pG_put (d := 117) (i := 11) rfl (fun t ht => own20_inj ht) (lt_size 25 c9.size rfl (by decide)) (mfP_same (lt_size 25 c9.size rfl (by decide)) (by decide) (by decide) (by decide))⟩))⟩
                    · exact fun β L c9 => ⟨_, rfl, .inl (OG.of_OL (ixDn (n := 0) sl.Ways (pG_new rfl (c9.dep 10 (by kernel_rfl))) (pG_new rfl (c9.dep 11 (by kernel_rfl))) (el := dWay (wayF h w t i)) (by rw [if_pos hv]; rfl) rfl rfl ⟨β, pG_put (d := 118) (i := 12) rfl (fun t ht => own20_inj ht) (lt_size 25 c9.size rfl (by decide)) (mfP_same (lt_size 25 c9.size rfl (by decide)) (by decide) (by decide) (by decide))⟩))⟩
                    · exact fun β L c9 => ⟨_, rfl, .inl (OG.of_OL (faR fd.Way_0 (pG_new rfl (c9.dep 12 (by kernel_rfl))) rfl ⟨β, pG_put (d := 119) (i := 13) rfl (fun t ht => own20_inj ht) (lt_size 25 c9.size rfl (by decide)) (mfP_same (lt_size 25 c9.size rfl (by decide)) (by decide) (by decide) (by decide))⟩))⟩
                    · exact fun β L c9 => ⟨_, rfl, .inl (OG.of_OL (ldRC ce.ints (pG_new rfl (c9.dep 13 (by kernel_rfl))) ⟨β, pG_put (d := 120) (i := 14) rfl (fun t ht => own20_inj ht) (lt_size 25 c9.size rfl (by decide)) (mfP_same (lt_size 25 c9.size rfl (by decide)) (by decide) (by decide) (by decide))⟩))⟩
                    · exact fun β L c9 => ⟨_, rfl, .inl (OG.of_OL (apM sl.ints rfl (pG_new rfl (c9.dep 6 (by kernel_rfl))) (xs := (wayF h w t i).2.map dI) (vc_to (pG_new rfl (c9.dep 14 (by kernel_rfl))) (VC.d _)) dI_len (by rw [List.length_map]; omega) (by rw [List.length_map]; omega) (pG_M (mfP_121 (come_later c9 (by kernel_rfl)) c9.no)) fun b8 c8 => ⟨upd β 121 (b8, c8), pG_set (d := 121) (i := 15) (x := (b8, c8)) rfl (fun t ht => own20_inj ht) (lt_size 25 c9.size rfl (by decide)) rfl (mfP_15 (lt_size 25 c9.size rfl (by decide)) (come_later c9 (by kernel_rfl))) (fun t j ho hl => by unfold own20 at ho; split at ho <;> cases ho <;> first | rfl | (rw [c9.no] at hl; cases hl))⟩))⟩
                    · exact fun β L c9 => ⟨_, rfl, .inl (OG.of_OL (mvD (y := dI j) ((pG_old rfl).trans rfl) ⟨β, pG_put (d := 122) (i := 16) rfl (fun t ht => own20_inj ht) (lt_size 25 c9.size rfl (by decide)) (mfP_same (lt_size 25 c9.size rfl (by decide)) (by decide) (by decide) (by decide))⟩))⟩
                    · exact fun β L c9 => ⟨_, rfl, .inl (OG.of_OL (lt1 (y := dI j) sl.ints (vd_to (pG_new rfl (c9.dep 16 (by kernel_rfl))) (VC.d _).vd) rfl (by decide) ⟨β, pG_put (d := 123) (i := 17) rfl (fun t ht => own20_inj ht) (lt_size 25 c9.size rfl (by decide)) (mfP_same (lt_size 25 c9.size rfl (by decide)) (by decide) (by decide) (by decide))⟩))⟩
                    · exact fun β L c9 => ⟨_, rfl, .inl (OG.of_OL (apOD sl.ints rfl (pG_new rfl (c9.dep 15 (by kernel_rfl))) (pG_M (mfP_row c9.no (c9.dep 15 (by kernel_rfl)))) rfl (xs := [dI j]) (vc_to (pG_new rfl (c9.dep 17 (by kernel_rfl))) (VC.d _)) (fun y hy => by rw [List.mem_singleton.1 hy]; rfl) (by simp only [List.length_map, List.length_singleton]; omega) (by simp only [List.length_map, List.length_singleton]; omega) (.inl (pG_M ((mfP_early (by decide) (come_later c9 (by kernel_rfl))).trans rfl))) (ys := ((wayF h w t i).2 ++ [(j : Int)]).map dI) (by rw [List.map_append]; rfl) ⟨upd β 124 (0, 0), pG_set (d := 124) (i := 18) (x := (0, 0)) rfl (fun t ht => own20_inj ht) (lt_size 25 c9.size rfl (by decide)) rfl (mfP_18 (lt_size 25 c9.size rfl (by decide)) rfl (come_later c9 (by kernel_rfl))) (fun t j ho hl => by unfold own20 at ho; split at ho <;> cases ho <;> first | rfl | (rw [c9.no] at hl; cases hl))⟩))⟩
                    · exact fun β L c9 => ⟨_, rfl, .inl (OG.of_OL (ldPA ag.Rat ((pG_old rfl).trans rfl) (pG_M (mfP_get (t := 16) (b := .box b16 T.Rat (cellsQ ((wayF h w t i).1 * trQ h i j * emQ h j (symX w t)))) (by decide) (by decide) rfl)) (vs := cellsQ ((wayF h w t i).1 * trQ h i j * emQ h j (symX w t))) rfl (Nat.le_of_ble_eq_true rfl) ⟨β, pG_put (d := 125) (i := 19) rfl (fun t ht => own20_inj ht) (lt_size 25 c9.size rfl (by decide)) (mfP_same (lt_size 25 c9.size rfl (by decide)) (by decide) (by decide) (by decide))⟩))⟩
                    · exact fun β L c9 => ⟨_, rfl, .inl (OG.of_OL (bd2 (cs := [_, _, _, _]) z.Way pl.Way (pvC (pG_new rfl (c9.dep 18 (by kernel_rfl))) (pvC (pG_new rfl (c9.dep 19 (by kernel_rfl))) pvN)) (by rfl) ⟨β, pG_put (d := 126) (i := 20) rfl (fun t ht => own20_inj ht) (lt_size 25 c9.size rfl (by decide)) (mfP_same (lt_size 25 c9.size rfl (by decide)) (by decide) (by decide) (by decide))⟩))⟩
                    · exact fun β L c9 => ⟨_, rfl, .inl (OG.of_OL (mvD (y := dI 1) ((pG_old rfl).trans rfl) ⟨β, pG_put (d := 127) (i := 21) rfl (fun t ht => own20_inj ht) (lt_size 25 c9.size rfl (by decide)) (mfP_same (lt_size 25 c9.size rfl (by decide)) (by decide) (by decide) (by decide))⟩))⟩
                    · exact fun β L c9 => ⟨_, rfl, .inl (OG.of_OL (clv rfl (.cons (vle_at (d := (hdW (wayN h (wayF h w t) (symX w t) j i) b3 c3)) (pG_new rfl (c9.dep 5 (by kernel_rfl))) hvv) (.cons (vle_of_eq (pG_new rfl (c9.dep 20 (by kernel_rfl)))) (.cons (vle_of_eq (pG_new rfl (c9.dep 21 (by kernel_rfl)))) .nil))) (put_zero (v := vv) (w := (((wayF h w t i).1 * trQ h i j * emQ h j (symX w t)), ((wayF h w t i).2 ++ [(j : Int)]))) (k := 1) hx0) (by rw [← hvv]; exact ⟨β, pG_put (d := 128) (i := 22) rfl (fun t ht => own20_inj ht) (lt_size 25 c9.size rfl (by decide)) (mfP_22n (lt_size 25 c9.size rfl (by decide)))⟩)))⟩
                    · exact fun β L c9 => ⟨_, rfl, .inl (OG.of_OL (ixOn sl.Wayss (pG_new rfl (c9.dep 0 (by kernel_rfl))) (pG_new rfl (c9.dep 1 (by kernel_rfl))) hj ⟨β, pG_put (d := 129) (i := 23) rfl (fun t ht => own20_inj ht) (lt_size 25 c9.size rfl (by decide)) (mfP_same (lt_size 25 c9.size rfl (by decide)) (by decide) (by decide) (by decide))⟩))⟩
                  refine fun β L c9 => ⟨_, rfl, .inl (OG.of_OL (stE sz.Ways (pG_new rfl (c9.dep 23 (by kernel_rfl))) (vd_to (pG_new rfl (c9.dep 22 (by kernel_rfl))) (VC.d _).vd) (pG_M (mfP_get (t := 25) (b := .row b25 h.st T.Ways 1 ((rowW h w t j).set j (hdW (wayN h (wayF h w t) (symX w t) j i) b3 c3))) (by decide) (by decide) rfl)) (by rw [hdW_cells]; rfl) (by rw [List.length_set]; omega) (es2 := ((rowW h w t j).set j (hdW (wayN h (wayF h w t) (symX w t) j i) b3 c3))) (by rw [List.set_set]) ?_))⟩
                  refine OL.nil ?_
                  exact AW.reach (b3, c3) ⟨fun e => hc1 (by rw [hnx] at e; exact e), Knows.app (.cons (vle_of_eq (rhoS ((pG_old rfl).trans rfl))) (.cons (vle_of_eq (rhoS ((pG_old rfl).trans rfl))) (.cons (vle_of_eq (rhoS ((pG_old rfl).trans rfl))) (.cons (vle_of_eq (rhoS ((pG_old rfl).trans rfl))) (.cons (vle_of_eq (rhoS ((pG_old rfl).trans rfl))) (.cons (vle_of_eq (rhoS ((pG_old rfl).trans rfl))) (.cons (vle_of_eq (rhoS ((pG_old rfl).trans rfl))) (.cons (vle_of_eq (rhoS ((pG_old rfl).trans rfl))) (.cons (vle_of_eq (rhoS ((pG_old rfl).trans rfl))) (.cons (vle_of_eq (rhoS ((pG_old rfl).trans rfl))) (.cons (vle_of_eq (rhoS ((pG_old rfl).trans rfl))) (.nil)))))))))))) (.cons (vle_of_eq (rhoS ((pG_old rfl).trans rfl))) .nil), Owns.app (.cons (upneS (show (4:Nat) ≠ 25 by decide) (pG_M (mfP_get (t := 4) (by decide) (by decide) rfl))) (.cons (upneS (show (13:Nat) ≠ 25 by decide) (pG_M (mfP_get (t := 13) (by decide) (by decide) rfl))) (.nil))) (.cons (by rw [hnx]; exact upsmS) (.cons (by rw [hnx]; exact (upneS (show (1001:Nat) ≠ 25 by decide) (pG_M ((mfP_id (by decide)).trans rfl)))) .nil))⟩
                · have hxp : 0 < ((wayF h w t i).1 * trQ h i j * emQ h j (symX w t)) := (rat_pos hxn).resolve_right fun e => hx0 e.symm
                  by_cases hc0 : 0 < (wayN h (wayF h w t) (symX w t) j i).1
                  · have hhd : (hdW (wayN h (wayF h w t) (symX w t) j i) b3 c3) = hdC b3 1 c3 := if_pos hc0
                    have hnx : (wayN h (wayF h w t) (symX w t) j (i + 1)) = if befW (((wayF h w t i).1 * trQ h i j * emQ h j (symX w t)), ((wayF h w t i).2 ++ [(j : Int)])) (wayN h (wayF h w t) (symX w t) j i) = true then (((wayF h w t i).1 * trQ h i j * emQ h j (symX w t)), ((wayF h w t i).2 ++ [(j : Int)])) else (wayN h (wayF h w t) (symX w t) j i) := by rw [hnx0, put_bef hc0 hxp (by rw [List.length_append, hvl, hcl hc0]; rfl)]
                    have hpn : 0 < (wayN h (wayF h w t) (symX w t) j (i + 1)).1 := by rw [hnx]; split; exact hxp; exact hc0
                    refine AW.region_planM (val20 (colW h w t) (wayF h w t i) h.st i j b25 (hdW (wayN h (wayF h w t) (symX w t) j i) b3 c3) ((wayF h w t i).1 * trQ h i j * emQ h j (symX w t)) (fun x => .osl 1001 x.1 1 x.2)) own20 (mfP (wayF h w t i).2 (some fun x => .row x.1 x.2 T.Way 4 [dWay (wayN h (wayF h w t) (symX w t) j (i + 1))])) 24 (fun β L hL => mfP_none rfl hL) order_free (by rw [hE]; rfl) (by rfl) (by kernel_rfl) (by kernel_rfl) ?_ ?_
                    · refine cases24 ?_ ?_ ?_ ?_ ?_ ?_ ?_ ?_ ?_ ?_ ?_ ?_ ?_ ?_ ?_ ?_ ?_ ?_ ?_ ?_ ?_ ?_ ?_ ?_
                      · exact fun β L c9 => ⟨_, rfl, .inl (OG.of_OL (mvO ((pG_old rfl).trans rfl) ⟨β, pG_put (d := 106) (i := 0) rfl (fun t ht => own20_inj ht) (lt_size 25 c9.size rfl (by decide)) (mfP_same (lt_size 25 c9.size rfl (by decide)) (by decide) (by decide) (by decide))⟩))⟩
                      · exact fun β L c9 => ⟨_, rfl, .inl (OG.of_OL (mvD (y := dI j) ((pG_old rfl).trans rfl) ⟨β, pG_put (d := 107) (i := 1) rfl (fun t ht => own20_inj ht) (lt_size 25 c9.size rfl (by decide)) (mfP_same (lt_size 25 c9.size rfl (by decide)) (by decide) (by decide) (by decide))⟩))⟩
                      · exact fun β L c9 => ⟨_, rfl, .inl (OG.of_OL (mvO ((pG_old rfl).trans rfl) ⟨β, pG_put (d := 108) (i := 2) rfl (fun t ht => own20_inj ht) (lt_size 25 c9.size rfl (by decide)) (mfP_same (lt_size 25 c9.size rfl (by decide)) (by decide) (by decide) (by decide))⟩))⟩
                      · exact fun β L c9 => ⟨_, rfl, .inl (OG.of_OL (mvD (y := dI j) ((pG_old rfl).trans rfl) ⟨β, pG_put (d := 109) (i := 3) rfl (fun t ht => own20_inj ht) (lt_size 25 c9.size rfl (by decide)) (mfP_same (lt_size 25 c9.size rfl (by decide)) (by decide) (by decide) (by decide))⟩))⟩
                      · exact fun β L c9 => ⟨_, rfl, .inl (OG.of_OL (ixOn sl.Wayss (pG_new rfl (c9.dep 2 (by kernel_rfl))) (pG_new rfl (c9.dep 3 (by kernel_rfl))) hj ⟨β, pG_put (d := 110) (i := 4) rfl (fun t ht => own20_inj ht) (lt_size 25 c9.size rfl (by decide)) (mfP_same (lt_size 25 c9.size rfl (by decide)) (by decide) (by decide) (by decide))⟩))⟩
                      · exact fun β L c9 => ⟨_, rfl, .inl (OG.of_OL (ldEC ce.Ways (by decide) (pG_new rfl (c9.dep 4 (by kernel_rfl))) (pG_M (mfP_get (t := 25) (b := .row b25 h.st T.Ways 1 ((rowW h w t j).set j (hdW (wayN h (wayF h w t) (symX w t) j i) b3 c3))) (by decide) (by decide) rfl)) (el := (hdW (wayN h (wayF h w t) (symX w t) j i) b3 c3)) hel (d := (hdW (wayN h (wayF h w t) (symX w t) j i) b3 c3)) (by rw [hdW_cells]; rfl) ⟨β, pG_put (d := 111) (i := 5) rfl (fun t ht => own20_inj ht) (lt_size 25 c9.size rfl (by decide)) (mfP_same (lt_size 25 c9.size rfl (by decide)) (by decide) (by decide) (by decide))⟩))⟩
                      · exact fun β L c9 => ⟨_, rfl, .inl (OG.of_OL (lt0 sl.ints ⟨β, pG_put (d := 112) (i := 6) rfl (fun t ht => own20_inj ht) (lt_size 25 c9.size rfl (by decide)) (mfP_same (lt_size 25 c9.size rfl (by decide)) (by decide) (by decide) (by decide))⟩))⟩
                      · exact fun β L c9 => ⟨_, rfl, .inl (OG.of_OL (mvD (y := colW h w t) ((pG_old rfl).trans rfl) ⟨β, pG_put (d := 113) (i := 7) rfl (fun t ht => own20_inj ht) (lt_size 25 c9.size rfl (by decide)) (mfP_same (lt_size 25 c9.size rfl (by decide)) (by decide) (by decide) (by decide))⟩))⟩
                      · exact fun β L c9 => ⟨_, rfl, .inl (OG.of_OL (mvD (y := dI i) ((pG_old rfl).trans rfl) ⟨β, pG_put (d := 114) (i := 8) rfl (fun t ht => own20_inj ht) (lt_size 25 c9.size rfl (by decide)) (mfP_same (lt_size 25 c9.size rfl (by decide)) (by decide) (by decide) (by decide))⟩))⟩
                      · exact fun β L c9 => ⟨_, rfl, .inl (OG.of_OL (ixDn sl.Wayss (pG_new rfl (c9.dep 7 (by kernel_rfl))) (pG_new rfl (c9.dep 8 (by kernel_rfl))) (el := dWl (wayF h w t i)) (col_el (by omega)) rfl rfl ⟨β, pG_put (d := 115) (i := 9) rfl (fun t ht => own20_inj ht) (lt_size 25 c9.size rfl (by decide)) (mfP_same (lt_size 25 c9.size rfl (by decide)) (by decide) (by decide) (by decide))⟩))⟩
                      · exact fun β L c9 => ⟨_, rfl, .inl (OG.of_OL (ldRC ce.Ways (pG_new rfl (c9.dep 9 (by kernel_rfl))) ⟨β, pG_put (d := 116) (i := 10) rfl (fun t ht => own20_inj ht) (lt_size 25 c9.size rfl (by decide)) (mfP_same (lt_size 25 c9.size rfl (by decide)) (by decide) (by decide) (by decide))⟩))⟩
                      · exact fun β L c9 => ⟨_, rfl, .inl (OG.of_OL (mvD (y := dI (0 : Nat)) ((pG_old rfl).trans rfl) ⟨β, pG_put (d := 117) (i := 11) rfl (fun t ht => own20_inj ht) (lt_size 25 c9.size rfl (by decide)) (mfP_same (lt_size 25 c9.size rfl (by decide)) (by decide) (by decide) (by decide))⟩))⟩
                      · exact fun β L c9 => ⟨_, rfl, .inl (OG.of_OL (ixDn (n := 0) sl.Ways (pG_new rfl (c9.dep 10 (by kernel_rfl))) (pG_new rfl (c9.dep 11 (by kernel_rfl))) (el := dWay (wayF h w t i)) (by rw [if_pos hv]; rfl) rfl rfl ⟨β, pG_put (d := 118) (i := 12) rfl (fun t ht => own20_inj ht) (lt_size 25 c9.size rfl (by decide)) (mfP_same (lt_size 25 c9.size rfl (by decide)) (by decide) (by decide) (by decide))⟩))⟩
                      · exact fun β L c9 => ⟨_, rfl, .inl (OG.of_OL (faR fd.Way_0 (pG_new rfl (c9.dep 12 (by kernel_rfl))) rfl ⟨β, pG_put (d := 119) (i := 13) rfl (fun t ht => own20_inj ht) (lt_size 25 c9.size rfl (by decide)) (mfP_same (lt_size 25 c9.size rfl (by decide)) (by decide) (by decide) (by decide))⟩))⟩
                      · exact fun β L c9 => ⟨_, rfl, .inl (OG.of_OL (ldRC ce.ints (pG_new rfl (c9.dep 13 (by kernel_rfl))) ⟨β, pG_put (d := 120) (i := 14) rfl (fun t ht => own20_inj ht) (lt_size 25 c9.size rfl (by decide)) (mfP_same (lt_size 25 c9.size rfl (by decide)) (by decide) (by decide) (by decide))⟩))⟩
                      · exact fun β L c9 => ⟨_, rfl, .inl (OG.of_OL (apM sl.ints rfl (pG_new rfl (c9.dep 6 (by kernel_rfl))) (xs := (wayF h w t i).2.map dI) (vc_to (pG_new rfl (c9.dep 14 (by kernel_rfl))) (VC.d _)) dI_len (by rw [List.length_map]; omega) (by rw [List.length_map]; omega) (pG_M (mfP_121 (come_later c9 (by kernel_rfl)) c9.no)) fun b8 c8 => ⟨upd β 121 (b8, c8), pG_set (d := 121) (i := 15) (x := (b8, c8)) rfl (fun t ht => own20_inj ht) (lt_size 25 c9.size rfl (by decide)) rfl (mfP_15 (lt_size 25 c9.size rfl (by decide)) (come_later c9 (by kernel_rfl))) (fun t j ho hl => by unfold own20 at ho; split at ho <;> cases ho <;> first | rfl | (rw [c9.no] at hl; cases hl))⟩))⟩
                      · exact fun β L c9 => ⟨_, rfl, .inl (OG.of_OL (mvD (y := dI j) ((pG_old rfl).trans rfl) ⟨β, pG_put (d := 122) (i := 16) rfl (fun t ht => own20_inj ht) (lt_size 25 c9.size rfl (by decide)) (mfP_same (lt_size 25 c9.size rfl (by decide)) (by decide) (by decide) (by decide))⟩))⟩
                      · exact fun β L c9 => ⟨_, rfl, .inl (OG.of_OL (lt1 (y := dI j) sl.ints (vd_to (pG_new rfl (c9.dep 16 (by kernel_rfl))) (VC.d _).vd) rfl (by decide) ⟨β, pG_put (d := 123) (i := 17) rfl (fun t ht => own20_inj ht) (lt_size 25 c9.size rfl (by decide)) (mfP_same (lt_size 25 c9.size rfl (by decide)) (by decide) (by decide) (by decide))⟩))⟩
                      · exact fun β L c9 => ⟨_, rfl, .inl (OG.of_OL (apOD sl.ints rfl (pG_new rfl (c9.dep 15 (by kernel_rfl))) (pG_M (mfP_row c9.no (c9.dep 15 (by kernel_rfl)))) rfl (xs := [dI j]) (vc_to (pG_new rfl (c9.dep 17 (by kernel_rfl))) (VC.d _)) (fun y hy => by rw [List.mem_singleton.1 hy]; rfl) (by simp only [List.length_map, List.length_singleton]; omega) (by simp only [List.length_map, List.length_singleton]; omega) (.inl (pG_M ((mfP_early (by decide) (come_later c9 (by kernel_rfl))).trans rfl))) (ys := ((wayF h w t i).2 ++ [(j : Int)]).map dI) (by rw [List.map_append]; rfl) ⟨upd β 124 (0, 0), pG_set (d := 124) (i := 18) (x := (0, 0)) rfl (fun t ht => own20_inj ht) (lt_size 25 c9.size rfl (by decide)) rfl (mfP_18 (lt_size 25 c9.size rfl (by decide)) rfl (come_later c9 (by kernel_rfl))) (fun t j ho hl => by unfold own20 at ho; split at ho <;> cases ho <;> first | rfl | (rw [c9.no] at hl; cases hl))⟩))⟩
                      · exact fun β L c9 => ⟨_, rfl, .inl (OG.of_OL (ldPA ag.Rat ((pG_old rfl).trans rfl) (pG_M (mfP_get (t := 16) (b := .box b16 T.Rat (cellsQ ((wayF h w t i).1 * trQ h i j * emQ h j (symX w t)))) (by decide) (by decide) rfl)) (vs := cellsQ ((wayF h w t i).1 * trQ h i j * emQ h j (symX w t))) rfl (Nat.le_of_ble_eq_true rfl) ⟨β, pG_put (d := 125) (i := 19) rfl (fun t ht => own20_inj ht) (lt_size 25 c9.size rfl (by decide)) (mfP_same (lt_size 25 c9.size rfl (by decide)) (by decide) (by decide) (by decide))⟩))⟩
                      · exact fun β L c9 => ⟨_, rfl, .inl (OG.of_OL (bd2 (cs := [_, _, _, _]) z.Way pl.Way (pvC (pG_new rfl (c9.dep 18 (by kernel_rfl))) (pvC (pG_new rfl (c9.dep 19 (by kernel_rfl))) pvN)) (by rfl) ⟨β, pG_put (d := 126) (i := 20) rfl (fun t ht => own20_inj ht) (lt_size 25 c9.size rfl (by decide)) (mfP_same (lt_size 25 c9.size rfl (by decide)) (by decide) (by decide) (by decide))⟩))⟩
                      · exact fun β L c9 => ⟨_, rfl, .inl (OG.of_OL (mvD (y := dI 1) ((pG_old rfl).trans rfl) ⟨β, pG_put (d := 127) (i := 21) rfl (fun t ht => own20_inj ht) (lt_size 25 c9.size rfl (by decide)) (mfP_same (lt_size 25 c9.size rfl (by decide)) (by decide) (by decide) (by decide))⟩))⟩
                      · exact fun β L c9 => ⟨_, rfl, SG.of_SO (SO.callO (id := 1001) (b := b3) (n := 1) (c := c3) (es := [dWay (wayN h (wayF h w t) (symX w t) j i)]) (argsF := fun l => [l, vWay (((wayF h w t i).1 * trQ h i j * emQ h j (symX w t)), ((wayF h w t i).2 ++ [(j : Int)])), .d (dI 1)]) (show 128 < E.n by rw [hE]; exact Nat.le_of_ble_eq_true rfl) rfl (pG_M ((mfP_early (by decide) c9.no).trans (congrArg some (if_pos hc0)))) (.cons (VLe.trans (vle_at (d := (hdW (wayN h (wayF h w t) (symX w t) j i) b3 c3)) (pG_new rfl (c9.dep 5 (by kernel_rfl))) hhd) (vle_head 0 (hc1 hc0))) (.cons (vle_of_eq (pG_new rfl (c9.dep 20 (by kernel_rfl)))) (.cons (vle_of_eq (pG_new rfl (c9.dep 21 (by kernel_rfl)))) .nil))) (by rw [hnx]; exact put_more (w := (((wayF h w t i).1 * trQ h i j * emQ h j (symX w t)), ((wayF h w t i).2 ++ [(j : Int)]))) (a := wayN h (wayF h w t) (symX w t) j i) (show sz ((wayF h w t i).1 * trQ h i j * emQ h j (symX w t)) ≤ 68719476736 by omega) (show sz _ ≤ 68719476736 by omega) (show ((wayF h w t i).2 ++ [(j : Int)]).length ≤ 1099511627776 by rw [List.length_append]; simp only [List.length_singleton]; omega) hx0) fun b8 c8 => ⟨upd β 128 (b8, c8), pG_set (d := 128) (i := 22) (x := (b8, c8)) rfl (fun t ht => own20_inj ht) (lt_size 25 c9.size rfl (by decide)) rfl (mfP_22 (lt_size 25 c9.size rfl (by decide)) c9.no) (fun t j ho hl => by unfold own20 at ho; split at ho <;> cases ho <;> first | rfl | (rw [c9.no] at hl; cases hl))⟩)⟩
                      · exact fun β L c9 => ⟨_, rfl, .inl (OG.of_OL (ixOn sl.Wayss (pG_new rfl (c9.dep 0 (by kernel_rfl))) (pG_new rfl (c9.dep 1 (by kernel_rfl))) hj ⟨β, pG_put (d := 129) (i := 23) rfl (fun t ht => own20_inj ht) (lt_size 25 c9.size rfl (by decide)) (mfP_same (lt_size 25 c9.size rfl (by decide)) (by decide) (by decide) (by decide))⟩))⟩
                    refine fun β L c9 => ⟨_, rfl, SG.of_SO (SO.stHead (id := 1001) (es := [dWay (wayN h (wayF h w t) (symX w t) j (i + 1))]) (pG_new rfl (c9.dep 23 (by kernel_rfl))) (pG_new rfl (c9.dep 22 (by kernel_rfl))) (pG_M (mfP_new (c9.dep 22 (by kernel_rfl)))) (pG_M (mfP_get (t := 25) (b := .row b25 h.st T.Ways 1 ((rowW h w t j).set j (hdW (wayN h (wayF h w t) (symX w t) j i) b3 c3))) (by decide) (by decide) rfl)) sz.Ways (by rw [List.length_set]; omega) (show 0 < 1 by decide) fun hc => ?_)⟩
                    exact AW.reach ((β 128).1, (β 128).2) ⟨fun _ => hc, Knows.app (.cons (vle_of_eq (rhoS ((pG_old rfl).trans rfl))) (.cons (vle_of_eq (rhoS ((pG_old rfl).trans rfl))) (.cons (vle_of_eq (rhoS ((pG_old rfl).trans rfl))) (.cons (vle_of_eq (rhoS ((pG_old rfl).trans rfl))) (.cons (vle_of_eq (rhoS ((pG_old rfl).trans rfl))) (.cons (vle_of_eq (rhoS ((pG_old rfl).trans rfl))) (.cons (vle_of_eq (rhoS ((pG_old rfl).trans rfl))) (.cons (vle_of_eq (rhoS ((pG_old rfl).trans rfl))) (.cons (vle_of_eq (rhoS ((pG_old rfl).trans rfl))) (.cons (vle_of_eq (rhoS ((pG_old rfl).trans rfl))) (.cons (vle_of_eq (rhoS ((pG_old rfl).trans rfl))) (.nil)))))))))))) (.cons (vle_of_eq (rhoS ((pG_old rfl).trans rfl))) .nil), Owns.app (.cons (upneS (show (4:Nat) ≠ 25 by decide) (pG_M (mfP_get (t := 4) (by decide) (by decide) rfl))) (.cons (upneS (show (13:Nat) ≠ 25 by decide) (pG_M (mfP_get (t := 13) (by decide) (by decide) rfl))) (.nil))) (.cons (upsmS.trans (by rw [List.set_set, hdW, if_pos hpn])) (.cons ((upneS (show (1001:Nat) ≠ 25 by decide) (pG_M (mfP_new (c9.dep 22 (by kernel_rfl))))).trans (by rw [bkW, if_pos hpn])) .nil))⟩
                  · have hhd : (hdW (wayN h (wayF h w t) (symX w t) j i) b3 c3) = nilD := if_neg hc0
                    have hc00 : (wayN h (wayF h w t) (symX w t) j i).1 = 0 := Rat.le_antisymm (Rat.not_lt.1 hc0) hcn
                    have hnx : (wayN h (wayF h w t) (symX w t) j (i + 1)) = (((wayF h w t i).1 * trQ h i j * emQ h j (symX w t)), ((wayF h w t i).2 ++ [(j : Int)])) := by rw [hnx0]; exact if_pos (.inl (by rw [hc00]; exact hxp))
                    have hpn : 0 < (wayN h (wayF h w t) (symX w t) j (i + 1)).1 := by rw [hnx]; exact hxp
                    refine AW.region_planM (val20 (colW h w t) (wayF h w t i) h.st i j b25 (hdW (wayN h (wayF h w t) (symX w t) j i) b3 c3) ((wayF h w t i).1 * trQ h i j * emQ h j (symX w t)) (fun x => .osl 1001 x.1 1 x.2)) own20 (mfP (wayF h w t i).2 (some fun x => .row x.1 x.2 T.Way 4 [dWay (wayN h (wayF h w t) (symX w t) j (i + 1))])) 24 (fun β L hL => mfP_none rfl hL) order_free (by rw [hE]; rfl) (by rfl) (by kernel_rfl) (by kernel_rfl) ?_ ?_
                    · refine cases24 ?_ ?_ ?_ ?_ ?_ ?_ ?_ ?_ ?_ ?_ ?_ ?_ ?_ ?_ ?_ ?_ ?_ ?_ ?_ ?_ ?_ ?_ ?_ ?_
                      · exact fun β L c9 => ⟨_, rfl, .inl (OG.of_OL (mvO ((pG_old rfl).trans rfl) ⟨β, pG_put (d := 106) (i := 0) rfl (fun t ht => own20_inj ht) (lt_size 25 c9.size rfl (by decide)) (mfP_same (lt_size 25 c9.size rfl (by decide)) (by decide) (by decide) (by decide))⟩))⟩
                      · exact fun β L c9 => ⟨_, rfl, .inl (OG.of_OL (mvD (y := dI j) ((pG_old rfl).trans rfl) ⟨β, pG_put (d := 107) (i := 1) rfl (fun t ht => own20_inj ht) (lt_size 25 c9.size rfl (by decide)) (mfP_same (lt_size 25 c9.size rfl (by decide)) (by decide) (by decide) (by decide))⟩))⟩
                      · exact fun β L c9 => ⟨_, rfl, .inl (OG.of_OL (mvO ((pG_old rfl).trans rfl) ⟨β, pG_put (d := 108) (i := 2) rfl (fun t ht => own20_inj ht) (lt_size 25 c9.size rfl (by decide)) (mfP_same (lt_size 25 c9.size rfl (by decide)) (by decide) (by decide) (by decide))⟩))⟩
                      · exact fun β L c9 => ⟨_, rfl, .inl (OG.of_OL (mvD (y := dI j) ((pG_old rfl).trans rfl) ⟨β, pG_put (d := 109) (i := 3) rfl (fun t ht => own20_inj ht) (lt_size 25 c9.size rfl (by decide)) (mfP_same (lt_size 25 c9.size rfl (by decide)) (by decide) (by decide) (by decide))⟩))⟩
                      · exact fun β L c9 => ⟨_, rfl, .inl (OG.of_OL (ixOn sl.Wayss (pG_new rfl (c9.dep 2 (by kernel_rfl))) (pG_new rfl (c9.dep 3 (by kernel_rfl))) hj ⟨β, pG_put (d := 110) (i := 4) rfl (fun t ht => own20_inj ht) (lt_size 25 c9.size rfl (by decide)) (mfP_same (lt_size 25 c9.size rfl (by decide)) (by decide) (by decide) (by decide))⟩))⟩
                      · exact fun β L c9 => ⟨_, rfl, .inl (OG.of_OL (ldEC ce.Ways (by decide) (pG_new rfl (c9.dep 4 (by kernel_rfl))) (pG_M (mfP_get (t := 25) (b := .row b25 h.st T.Ways 1 ((rowW h w t j).set j (hdW (wayN h (wayF h w t) (symX w t) j i) b3 c3))) (by decide) (by decide) rfl)) (el := (hdW (wayN h (wayF h w t) (symX w t) j i) b3 c3)) hel (d := (hdW (wayN h (wayF h w t) (symX w t) j i) b3 c3)) (by rw [hdW_cells]; rfl) ⟨β, pG_put (d := 111) (i := 5) rfl (fun t ht => own20_inj ht) (lt_size 25 c9.size rfl (by decide)) (mfP_same (lt_size 25 c9.size rfl (by decide)) (by decide) (by decide) (by decide))⟩))⟩
                      · exact fun β L c9 => ⟨_, rfl, .inl (OG.of_OL (lt0 sl.ints ⟨β, pG_put (d := 112) (i := 6) rfl (fun t ht => own20_inj ht) (lt_size 25 c9.size rfl (by decide)) (mfP_same (lt_size 25 c9.size rfl (by decide)) (by decide) (by decide) (by decide))⟩))⟩
                      · exact fun β L c9 => ⟨_, rfl, .inl (OG.of_OL (mvD (y := colW h w t) ((pG_old rfl).trans rfl) ⟨β, pG_put (d := 113) (i := 7) rfl (fun t ht => own20_inj ht) (lt_size 25 c9.size rfl (by decide)) (mfP_same (lt_size 25 c9.size rfl (by decide)) (by decide) (by decide) (by decide))⟩))⟩
                      · exact fun β L c9 => ⟨_, rfl, .inl (OG.of_OL (mvD (y := dI i) ((pG_old rfl).trans rfl) ⟨β, pG_put (d := 114) (i := 8) rfl (fun t ht => own20_inj ht) (lt_size 25 c9.size rfl (by decide)) (mfP_same (lt_size 25 c9.size rfl (by decide)) (by decide) (by decide) (by decide))⟩))⟩
                      · exact fun β L c9 => ⟨_, rfl, .inl (OG.of_OL (ixDn sl.Wayss (pG_new rfl (c9.dep 7 (by kernel_rfl))) (pG_new rfl (c9.dep 8 (by kernel_rfl))) (el := dWl (wayF h w t i)) (col_el (by omega)) rfl rfl ⟨β, pG_put (d := 115) (i := 9) rfl (fun t ht => own20_inj ht) (lt_size 25 c9.size rfl (by decide)) (mfP_same (lt_size 25 c9.size rfl (by decide)) (by decide) (by decide) (by decide))⟩))⟩
                      · exact fun β L c9 => ⟨_, rfl, .inl (OG.of_OL (ldRC ce.Ways (pG_new rfl (c9.dep 9 (by kernel_rfl))) ⟨β, pG_put (d := 116) (i := 10) rfl (fun t ht => own20_inj ht) (lt_size 25 c9.size rfl (by decide)) (mfP_same (lt_size 25 c9.size rfl (by decide)) (by decide) (by decide) (by decide))⟩))⟩
                      · exact fun β L c9 => ⟨_, rfl, .inl (OG.of_OL (mvD (y := dI (0 : Nat)) ((pG_old rfl).trans rfl) ⟨β, pG_put (d := 117) (i := 11) rfl (fun t ht => own20_inj ht) (lt_size 25 c9.size rfl (by decide)) (mfP_same (lt_size 25 c9.size rfl (by decide)) (by decide) (by decide) (by decide))⟩))⟩
                      · exact fun β L c9 => ⟨_, rfl, .inl (OG.of_OL (ixDn (n := 0) sl.Ways (pG_new rfl (c9.dep 10 (by kernel_rfl))) (pG_new rfl (c9.dep 11 (by kernel_rfl))) (el := dWay (wayF h w t i)) (by rw [if_pos hv]; rfl) rfl rfl ⟨β, pG_put (d := 118) (i := 12) rfl (fun t ht => own20_inj ht) (lt_size 25 c9.size rfl (by decide)) (mfP_same (lt_size 25 c9.size rfl (by decide)) (by decide) (by decide) (by decide))⟩))⟩
                      · exact fun β L c9 => ⟨_, rfl, .inl (OG.of_OL (faR fd.Way_0 (pG_new rfl (c9.dep 12 (by kernel_rfl))) rfl ⟨β, pG_put (d := 119) (i := 13) rfl (fun t ht => own20_inj ht) (lt_size 25 c9.size rfl (by decide)) (mfP_same (lt_size 25 c9.size rfl (by decide)) (by decide) (by decide) (by decide))⟩))⟩
                      · exact fun β L c9 => ⟨_, rfl, .inl (OG.of_OL (ldRC ce.ints (pG_new rfl (c9.dep 13 (by kernel_rfl))) ⟨β, pG_put (d := 120) (i := 14) rfl (fun t ht => own20_inj ht) (lt_size 25 c9.size rfl (by decide)) (mfP_same (lt_size 25 c9.size rfl (by decide)) (by decide) (by decide) (by decide))⟩))⟩
                      · exact fun β L c9 => ⟨_, rfl, .inl (OG.of_OL (apM sl.ints rfl (pG_new rfl (c9.dep 6 (by kernel_rfl))) (xs := (wayF h w t i).2.map dI) (vc_to (pG_new rfl (c9.dep 14 (by kernel_rfl))) (VC.d _)) dI_len (by rw [List.length_map]; omega) (by rw [List.length_map]; omega) (pG_M (mfP_121 (come_later c9 (by kernel_rfl)) c9.no)) fun b8 c8 => ⟨upd β 121 (b8, c8), pG_set (d := 121) (i := 15) (x := (b8, c8)) rfl (fun t ht => own20_inj ht) (lt_size 25 c9.size rfl (by decide)) rfl (mfP_15 (lt_size 25 c9.size rfl (by decide)) (come_later c9 (by kernel_rfl))) (fun t j ho hl => by unfold own20 at ho; split at ho <;> cases ho <;> first | rfl | (rw [c9.no] at hl; cases hl))⟩))⟩
                      · exact fun β L c9 => ⟨_, rfl, .inl (OG.of_OL (mvD (y := dI j) ((pG_old rfl).trans rfl) ⟨β, pG_put (d := 122) (i := 16) rfl (fun t ht => own20_inj ht) (lt_size 25 c9.size rfl (by decide)) (mfP_same (lt_size 25 c9.size rfl (by decide)) (by decide) (by decide) (by decide))⟩))⟩
                      · exact fun β L c9 => ⟨_, rfl, .inl (OG.of_OL (lt1 (y := dI j) sl.ints (vd_to (pG_new rfl (c9.dep 16 (by kernel_rfl))) (VC.d _).vd) rfl (by decide) ⟨β, pG_put (d := 123) (i := 17) rfl (fun t ht => own20_inj ht) (lt_size 25 c9.size rfl (by decide)) (mfP_same (lt_size 25 c9.size rfl (by decide)) (by decide) (by decide) (by decide))⟩))⟩
                      · exact fun β L c9 => ⟨_, rfl, .inl (OG.of_OL (apOD sl.ints rfl (pG_new rfl (c9.dep 15 (by kernel_rfl))) (pG_M (mfP_row c9.no (c9.dep 15 (by kernel_rfl)))) rfl (xs := [dI j]) (vc_to (pG_new rfl (c9.dep 17 (by kernel_rfl))) (VC.d _)) (fun y hy => by rw [List.mem_singleton.1 hy]; rfl) (by simp only [List.length_map, List.length_singleton]; omega) (by simp only [List.length_map, List.length_singleton]; omega) (.inl (pG_M ((mfP_early (by decide) (come_later c9 (by kernel_rfl))).trans rfl))) (ys := ((wayF h w t i).2 ++ [(j : Int)]).map dI) (by rw [List.map_append]; rfl) ⟨upd β 124 (0, 0), pG_set (d := 124) (i := 18) (x := (0, 0)) rfl (fun t ht => own20_inj ht) (lt_size 25 c9.size rfl (by decide)) rfl (mfP_18 (lt_size 25 c9.size rfl (by decide)) rfl (come_later c9 (by kernel_rfl))) (fun t j ho hl => by unfold own20 at ho; split at ho <;> cases ho <;> first | rfl | (rw [c9.no] at hl; cases hl))⟩))⟩
                      · exact fun β L c9 => ⟨_, rfl, .inl (OG.of_OL (ldPA ag.Rat ((pG_old rfl).trans rfl) (pG_M (mfP_get (t := 16) (b := .box b16 T.Rat (cellsQ ((wayF h w t i).1 * trQ h i j * emQ h j (symX w t)))) (by decide) (by decide) rfl)) (vs := cellsQ ((wayF h w t i).1 * trQ h i j * emQ h j (symX w t))) rfl (Nat.le_of_ble_eq_true rfl) ⟨β, pG_put (d := 125) (i := 19) rfl (fun t ht => own20_inj ht) (lt_size 25 c9.size rfl (by decide)) (mfP_same (lt_size 25 c9.size rfl (by decide)) (by decide) (by decide) (by decide))⟩))⟩
                      · exact fun β L c9 => ⟨_, rfl, .inl (OG.of_OL (bd2 (cs := [_, _, _, _]) z.Way pl.Way (pvC (pG_new rfl (c9.dep 18 (by kernel_rfl))) (pvC (pG_new rfl (c9.dep 19 (by kernel_rfl))) pvN)) (by rfl) ⟨β, pG_put (d := 126) (i := 20) rfl (fun t ht => own20_inj ht) (lt_size 25 c9.size rfl (by decide)) (mfP_same (lt_size 25 c9.size rfl (by decide)) (by decide) (by decide) (by decide))⟩))⟩
                      · exact fun β L c9 => ⟨_, rfl, .inl (OG.of_OL (mvD (y := dI 1) ((pG_old rfl).trans rfl) ⟨β, pG_put (d := 127) (i := 21) rfl (fun t ht => own20_inj ht) (lt_size 25 c9.size rfl (by decide)) (mfP_same (lt_size 25 c9.size rfl (by decide)) (by decide) (by decide) (by decide))⟩))⟩
                      · exact fun β L c9 => ⟨_, rfl, SG.of_SO (SO.callRAt (id := 1001) (show 128 < E.n by rw [hE]; exact Nat.le_of_ble_eq_true rfl) rfl (.cons (VLe.trans (vle_at (d := (hdW (wayN h (wayF h w t) (symX w t) j i) b3 c3)) (pG_new rfl (c9.dep 5 (by kernel_rfl))) hhd) vle_nil) (.cons (vle_of_eq (pG_new rfl (c9.dep 20 (by kernel_rfl)))) (.cons (vle_of_eq (pG_new rfl (c9.dep 21 (by kernel_rfl)))) .nil))) (by rw [hnx]; exact put_new (w := (((wayF h w t i).1 * trQ h i j * emQ h j (symX w t)), ((wayF h w t i).2 ++ [(j : Int)]))) (show sz ((wayF h w t i).1 * trQ h i j * emQ h j (symX w t)) ≤ 68719476736 by omega) hx0) fun b8 c8 => ⟨upd β 128 (b8, c8), pG_set (d := 128) (i := 22) (x := (b8, c8)) rfl (fun t ht => own20_inj ht) (lt_size 25 c9.size rfl (by decide)) rfl (mfP_22 (lt_size 25 c9.size rfl (by decide)) c9.no) (fun t j ho hl => by unfold own20 at ho; split at ho <;> cases ho <;> first | rfl | (rw [c9.no] at hl; cases hl))⟩)⟩
                      · exact fun β L c9 => ⟨_, rfl, .inl (OG.of_OL (ixOn sl.Wayss (pG_new rfl (c9.dep 0 (by kernel_rfl))) (pG_new rfl (c9.dep 1 (by kernel_rfl))) hj ⟨β, pG_put (d := 129) (i := 23) rfl (fun t ht => own20_inj ht) (lt_size 25 c9.size rfl (by decide)) (mfP_same (lt_size 25 c9.size rfl (by decide)) (by decide) (by decide) (by decide))⟩))⟩
                    refine fun β L c9 => ⟨_, rfl, SG.of_SO (SO.stHead (id := 1001) (es := [dWay (wayN h (wayF h w t) (symX w t) j (i + 1))]) (pG_new rfl (c9.dep 23 (by kernel_rfl))) (pG_new rfl (c9.dep 22 (by kernel_rfl))) (pG_M (mfP_new (c9.dep 22 (by kernel_rfl)))) (pG_M (mfP_get (t := 25) (b := .row b25 h.st T.Ways 1 ((rowW h w t j).set j (hdW (wayN h (wayF h w t) (symX w t) j i) b3 c3))) (by decide) (by decide) rfl)) sz.Ways (by rw [List.length_set]; omega) (show 0 < 1 by decide) fun hc => ?_)⟩
                    exact AW.reach ((β 128).1, (β 128).2) ⟨fun _ => hc, Knows.app (.cons (vle_of_eq (rhoS ((pG_old rfl).trans rfl))) (.cons (vle_of_eq (rhoS ((pG_old rfl).trans rfl))) (.cons (vle_of_eq (rhoS ((pG_old rfl).trans rfl))) (.cons (vle_of_eq (rhoS ((pG_old rfl).trans rfl))) (.cons (vle_of_eq (rhoS ((pG_old rfl).trans rfl))) (.cons (vle_of_eq (rhoS ((pG_old rfl).trans rfl))) (.cons (vle_of_eq (rhoS ((pG_old rfl).trans rfl))) (.cons (vle_of_eq (rhoS ((pG_old rfl).trans rfl))) (.cons (vle_of_eq (rhoS ((pG_old rfl).trans rfl))) (.cons (vle_of_eq (rhoS ((pG_old rfl).trans rfl))) (.cons (vle_of_eq (rhoS ((pG_old rfl).trans rfl))) (.nil)))))))))))) (.cons (vle_of_eq (rhoS ((pG_old rfl).trans rfl))) .nil), Owns.app (.cons (upneS (show (4:Nat) ≠ 25 by decide) (pG_M (mfP_get (t := 4) (by decide) (by decide) rfl))) (.cons (upneS (show (13:Nat) ≠ 25 by decide) (pG_M (mfP_get (t := 13) (by decide) (by decide) rfl))) (.nil))) (.cons (upsmS.trans (by rw [List.set_set, hdW, if_pos hpn])) (.cons ((upneS (show (1001:Nat) ≠ 25 by decide) (pG_M (mfP_new (c9.dep 22 (by kernel_rfl))))).trans (by rw [bkW, if_pos hpn])) .nil))⟩
              rintro ⟨b2, c2⟩ hc2
              refine AW.region (by rw [hE]; rfl) ?_
              refine mvD rfl ?_
              refine add_i64 rfl rfl (by omega) ?_
              refine asD rfl ?_
              refine OL.nil ?_
              exact AW.again (x := (0, b3, c3)) (1, b2, c2) (by first | omega | (simp only []; omega)) ⟨⟨by omega, hc2⟩, Knows.app (.cons (VLe.refl _) (.cons (VLe.refl _) (.cons (VLe.refl _) (.cons (VLe.refl _) (.cons (VLe.refl _) (.cons (VLe.refl _) (.cons (VLe.refl _) (.cons (VLe.refl _) (.cons (VLe.refl _) (.cons (VLe.refl _) (.cons (VLe.refl _) .nil))))))))))) (.cons (by first | exact VLe.refl _ | exact VLe.int (by omega) | exact VLe.mt | exact vle_q0 | exact VLe.osl | exact VLe.ptr) .nil), Owns.app (.cons rfl (.cons rfl .nil)) (.cons rfl (.cons rfl .nil))⟩
            · have h84 : ¬ (m_ : Int) < ((if 0 < (wayF h w t i).1 then 1 else 0 : Nat) : Int) := of_decide_eq_false h84
              have hcu : (if m_ = 0 then (wayN h (wayF h w t) (symX w t) j i) else (wayN h (wayF h w t) (symX w t) j (i + 1))) = (wayN h (wayF h w t) (symX w t) j (i + 1)) := by
                by_cases hv : 0 < (wayF h w t i).1
                · rw [if_pos hv] at h84
                  exact if_neg (by omega)
                · split
                  · exact (way_skip g (wayF_nonneg g w t) hv).symm
                  · rfl
              refine AW.exit ?_
              refine AW.region (by rw [hE]; rfl) ?_
              refine mvD rfl ?_
              refine add_i64 rfl rfl (by omega) ?_
              refine asD rfl ?_
              refine OL.nil ?_
              exact AW.again (x := (i, b, c)) (i + 1, b3, c3) (by first | omega | (simp only []; omega)) ⟨⟨by omega, fun e => h6c (by rw [hcu]; exact e)⟩, Knows.app (.cons (VLe.refl _) (.cons (VLe.refl _) (.cons (VLe.refl _) (.cons (VLe.refl _) (.cons (VLe.refl _) (.cons (VLe.refl _) (.cons (VLe.refl _) (.cons (VLe.refl _) (.cons (VLe.refl _) (.cons (VLe.refl _) .nil)))))))))) (.cons (by first | exact VLe.refl _ | exact VLe.int (by omega) | exact VLe.mt | exact vle_q0 | exact VLe.osl | exact VLe.ptr) .nil), Owns.app (.cons rfl (.cons rfl .nil)) (.cons (congrArg (fun z => some (Blk.row b25 h.st T.Ways 1 ((rowW h w t j).set j (hdW z b3 c3)))) hcu) (.cons (congrArg (fun z => some (bkW z b3 c3)) hcu) .nil))⟩
          · obtain rfl : i = h.st := by have := of_decide_eq_false h75; omega
            have hnv : (wayF h w (t + 1) j) = (wayN h (wayF h w t) (symX w t) j h.st) := by rw [wayF, if_neg ht0]
            refine AW.exit ?_
            exact AW.reach (b, c) ⟨trivial, Knows.app (.cons (VLe.refl _) (.cons (VLe.refl _) (.cons (VLe.refl _) (.cons (VLe.refl _) (.cons (VLe.refl _) (.cons (VLe.refl _) (.cons (VLe.refl _) (.cons (VLe.refl _) .nil)))))))) (.cons (by first | exact VLe.refl _ | exact VLe.int (by omega) | exact VLe.mt | exact vle_q0 | exact VLe.osl | exact VLe.ptr) .nil), Owns.app (.cons rfl .nil) (.cons (congrArg (fun z => some (Blk.row b25 h.st T.Ways 1 ((rowW h w t j).set j (hdW z b c)))) hnv.symm) (.cons (congrArg (fun z => some (bkW z b c)) hnv.symm) .nil))⟩
      rintro ⟨b5, c5⟩ hφ
      refine AW.closeW (wayF h w (t + 1) j) 1001 25 j (ks := [(1, .d (ints w)), (2, .d nilD), (3, .d (dI 1)), (4, .ptr 4 b4 0), (8, .mt), (9, .d (nowW h w t)), (10, .d (dI t)), (11, .osl 25 b25 h.st h.st), (12, .d (dI j))]) (bs := [(4, .box b4 T.Hidden (cellsHM h))]) rfl rfl (List.getElem?_set_self (by omega)) (by decide) rfl (.cons (VLe.refl _) (.cons (VLe.refl _) (.cons (VLe.refl _) (.cons (VLe.refl _) (.cons (VLe.refl _) (.cons (VLe.refl _) (.cons (VLe.refl _) (.cons (VLe.refl _) (.cons (VLe.refl _) (.nil)))))))))) (.cons rfl .nil) (.cons (VLe.refl _) (.cons (VLe.refl _) (.cons (VLe.refl _) (.cons (VLe.refl _) (.cons (VLe.refl _) (.cons (VLe.refl _) (.cons (VLe.refl _) (.cons (VLe.refl _) (.cons (VLe.refl _) (.nil)))))))))) (.cons rfl .nil) ?_
      rw [List.set_set, rowW_next hj]
      refine AW.region (by rw [hE]; rfl) ?_
      refine mvD rfl ?_
      refine add_i64 rfl rfl (by omega) ?_
      refine asD rfl ?_
      refine OL.nil ?_
      exact AW.again (x := j) (j + 1) (by first | omega | (simp only []; omega)) ⟨by omega, Knows.app (.cons (VLe.refl _) (.cons (VLe.refl _) (.cons (VLe.refl _) (.cons (VLe.refl _) (.cons (VLe.refl _) (.cons (VLe.refl _) (.cons (VLe.refl _) (.cons (VLe.refl _) .nil)))))))) (.cons (by first | exact VLe.refl _ | exact VLe.int (by omega) | exact VLe.mt | exact vle_q0 | exact VLe.osl | exact VLe.ptr) .nil), Owns.app (.cons rfl .nil) (.cons rfl .nil)⟩
    · first | (simp only [decide_eq_true_eq, decide_eq_false_iff_not, Bool.not_eq_true', Bool.not_eq_false', Bool.not_not, Bool.and_eq_true, Bool.and_eq_false_iff, Bool.or_eq_true, Bool.or_eq_false_iff] at h29) | skip
      refine AW.exit ?_
      obtain rfl : j = h.st := by omega
      refine AW.freeze 25 rfl (AW.to [(1, .d (ints w)), (2, .d nilD), (3, .d (dI 1)), (4, .ptr 4 b4 0), (8, .mt), (10, .d (dI t)), (11, .d (colW h w (t + 1)))] [(4, .box b4 T.Hidden (cellsHM h))] (.cons (VLe.refl _) (.cons (VLe.refl _) (.cons (VLe.refl _) (.cons (VLe.refl _) (.cons (VLe.refl _) (.cons (VLe.refl _) (.cons (frz_osl (rowW_len h w t h.st).symm (by rw [rowW, fillF_all])) (.nil)))))))) (.cons rfl .nil) ?_)
      refine AW.region (by rw [hE]; rfl) ?_
      refine mvD rfl ?_
      refine asD rfl ?_
      refine OL.nil ?_
      refine AW.region (by rw [hE]; rfl) ?_
      refine mvD rfl ?_
      refine add_i64 rfl rfl (by omega) ?_
      refine asD rfl ?_
      refine OL.nil ?_
      exact AW.again (x := t) (t + 1) (by first | omega | (simp only []; omega)) ⟨by omega, Knows.app (.cons (VLe.refl _) (.cons (VLe.refl _) (.cons (VLe.refl _) (.cons (VLe.refl _) (.cons (VLe.refl _) .nil))))) (.cons (vle_of_eq (congrArg V.d (if_neg (Nat.succ_ne_zero t)).symm)) (.cons (by first | exact VLe.refl _ | exact VLe.int (by omega) | exact VLe.mt | exact vle_q0 | exact VLe.osl | exact VLe.ptr) .nil)), Owns.app (.cons rfl .nil) (.nil)⟩
  · first | (simp only [decide_eq_true_eq, decide_eq_false_iff_not, Bool.not_eq_true', Bool.not_eq_false', Bool.not_not, Bool.and_eq_true, Bool.and_eq_false_iff, Bool.or_eq_true, Bool.or_eq_false_iff] at h20) | skip
    refine AW.exit ?_
    refine AW.seq ?_
    obtain rfl : t = w.length := by omega
    rw [show nowW h w w.length = colW h w w.length from if_neg hw0]
    refine AW.region (by rw [hE]; rfl) ?_
    refine mvD rfl ?_
    refine asD rfl ?_
    refine OL.nil ?_
    exact AW.ret (RetQ.r ⟨_, .tmp rfl .nil, .le (by first | exact VLe.refl _ | exact VLe.mt | exact vle_q0 | exact VLe.int (by omega) | exact VLe.bool (by simp_all))⟩)
end Go.Proofs.YtcebciggodhmcaaGreat

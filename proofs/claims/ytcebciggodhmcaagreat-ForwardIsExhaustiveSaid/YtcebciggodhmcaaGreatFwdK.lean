/-
  Walks of package forward: the sanity check (printed by mk2.py).
-/
import Derived.Test.YtcebciggodhmcaaGreatFwdC
import Derived.Test.YtcebciggodhmcaaGreatWord
import Derived.Test.YtcebciggodhmcaaGreatMod34c
set_option linter.unusedVariables false
set_option linter.unusedSimpArgs false
namespace Go.Proofs.YtcebciggodhmcaaGreat
open Go Go.AL

theorem law34_knownQ {q o p : Rat} {h : HM} (hh : h = ⟨2, 1, 0, [o], [[q]], [q], [[q, q]], [false], [0]⟩) (g : h.Good 1) (k : WordOK h [1, 2]) (fw : Few h [1, 2]) (hp : likF h [1, 2] = p) (zp : sz p ≤ 68719476736) (zo : sz o ≤ 68719476736) (hx : FSpec P F.ref01_Make [.d (dI 1), .d (dI 16)] (.tup [vQ p, .d (dI 0)])) (hm : exM h [1, 2] = [[o]]) (he : postE h [1, 2] = 0) (hq : FSpec P F.ref01_Make [.d (dI 1), .d (dI 2)] (.tup [vQ q, .d (dI 0)])) (ho : FSpec P F.ref33_Whole [.d (dI 1)] (vQ o)) : FSpec P F.law34_known [] (.d (dB true)) := by
  refine FSpec.intro fn.law34_known (by rfl) (by rfl) (Nat.le_of_ble_eq_true (by rfl)) fun E hE => ?_
  refine AW.seq ?_
  refine AW.region (by rw [hE]; rfl) ?_
  refine asD rfl ?_
  refine OL.nil ?_
  refine AW.seq ?_
  refine AW.region (by rw [hE]; rfl) ?_
  refine clv rfl (.cons (VLe.refl _) (.cons (VLe.refl _) (.nil))) (hq) ?_
  first | refine mvD rfl ?_ | refine mvT rfl ?_ | refine mvP rfl ?_ | refine mvR rfl ?_ | refine mvE rfl ?_ | refine mvF rfl ?_ | refine mvA rfl ?_ | refine mvO rfl ?_ | refine mvM rfl ?_ | refine mvJ rfl ?_
  refine ex rfl rfl ?_
  refine ex rfl rfl ?_
  refine al z.Rat rfl fun b1 => ?_
  first | refine sto sz.Rat rfl rfl rfl rfl rfl (Nat.le_of_ble_eq_true rfl) (cells2 := [_, _, _]) rfl ?_ | refine stE sz.Rat rfl (VC.d _).vd rfl rfl (by omega) rfl ?_
  refine asD rfl ?_
  refine OL.nil ?_
  refine AW.seq ?_
  refine AW.region_draw 1 [0, 1, 2, 3, 4, 5, 6, 7, 8, 9, 10, 11, 12, 13, 14, 15] order_free (by rw [hE]; rfl) (by kernel_rfl) (OI.of_OL (os := [_, _, _, _, _, _, _, _, _, _, _, _, _, _, _, _]) rfl ?_)
  refine clv rfl (.cons (VLe.refl _) (.nil)) (ho) ?_
  refine lt1 (y := dQ o) sl.Rats vd_q rfl (by decide) ?_
  first | refine ldPA ag.Rat rfl rfl (vs := [_, _, _]) rfl (Nat.le_of_ble_eq_true rfl) ?_ | refine ldRA ag.Rat rfl (vs := [_, _, _]) rfl (Nat.le_of_ble_eq_true rfl) ?_
  refine lt1 (y := dQ q) sl.Rats vd_q rfl (by decide) ?_
  refine lt1 (y := dQs [q]) sl.Ratss (VC.d _).vd rfl (by decide) ?_
  first | refine ldPA ag.Rat rfl rfl (vs := [_, _, _]) rfl (Nat.le_of_ble_eq_true rfl) ?_ | refine ldRA ag.Rat rfl (vs := [_, _, _]) rfl (Nat.le_of_ble_eq_true rfl) ?_
  refine lt1 (y := dQ q) sl.Rats vd_q rfl (by decide) ?_
  first | refine ldPA ag.Rat rfl rfl (vs := [_, _, _]) rfl (Nat.le_of_ble_eq_true rfl) ?_ | refine ldRA ag.Rat rfl (vs := [_, _, _]) rfl (Nat.le_of_ble_eq_true rfl) ?_
  first | refine ldPA ag.Rat rfl rfl (vs := [_, _, _]) rfl (Nat.le_of_ble_eq_true rfl) ?_ | refine ldRA ag.Rat rfl (vs := [_, _, _]) rfl (Nat.le_of_ble_eq_true rfl) ?_
  refine lt2 (y := dQ q) (y2 := dQ q) sl.Rats vd_q vd_q ⟨rfl, rfl⟩ (by decide) ?_
  refine lt1 (y := dQs [q, q]) sl.Ratss (VC.d _).vd rfl (by decide) ?_
  refine lt1 sl.bools (VC.d _).vd rfl (by decide) ?_
  refine lt1 sl.ints (VC.d _).vd rfl (by decide) ?_
  refine bd2 (cs := [_, _, _, _, _, _, _, _, _, _, _]) z.Hidden pl.Hidden (pvC (by first | exact evD rfl | exact evA rfl | exact evM rfl | exact evO rfl | exact evP rfl) (pvC (by first | exact evD rfl | exact evA rfl | exact evM rfl | exact evO rfl | exact evP rfl) (pvC (by first | exact evD rfl | exact evA rfl | exact evM rfl | exact evO rfl | exact evP rfl) (pvC (by first | exact evD rfl | exact evA rfl | exact evM rfl | exact evO rfl | exact evP rfl) (pvC (by first | exact evD rfl | exact evA rfl | exact evM rfl | exact evO rfl | exact evP rfl) (pvC (by first | exact evD rfl | exact evA rfl | exact evM rfl | exact evO rfl | exact evP rfl) (pvC (by first | exact evD rfl | exact evA rfl | exact evM rfl | exact evO rfl | exact evP rfl) (pvC (by first | exact evD rfl | exact evA rfl | exact evM rfl | exact evO rfl | exact evP rfl) (pvN))))))))) (by rfl) ?_
  refine al z.Hidden rfl fun b3 => ?_
  first | refine sto sz.Hidden rfl rfl rfl rfl rfl (Nat.le_of_ble_eq_true rfl) (cells2 := [_, _, _, _, _, _, _, _, _, _, _]) rfl ?_ | refine stE sz.Hidden rfl (VC.d _).vd rfl rfl (by omega) rfl ?_
  refine OL.nil ?_
  refine AW.seq ?_
  refine AW.boxW 3 (cellsHM h) rfl (by rw [hh]; exact .cons (VLe.refl _) (.cons (VLe.refl _) (.cons (vle_of_eq (by show _ = V.d (dB (ofQ 0).neg); rw [ofQ_zero])) (.cons (by show VLe _ (.d (u32s (ofQ 0).num)); rw [ofQ_zero]; exact VLe.mt) (.cons (by show VLe _ (.d (u32s (ofQ 0).den)); rw [ofQ_zero]; exact VLe.mt) (.cons (VLe.refl _) (.cons (VLe.refl _) (.cons (VLe.refl _) (.cons (VLe.refl _) (.cons (VLe.refl _) (.cons (VLe.refl _) .nil))))))))))) ?_
  refine AW.region (by rw [hE]; rfl) ?_
  first | refine ldPA ag.Hidden rfl rfl (vs := [_, _, _, _, _, _, _, _, _, _, _]) rfl (Nat.le_of_ble_eq_true rfl) ?_ | refine ldRA ag.Hidden rfl (vs := [_, _, _, _, _, _, _, _, _, _, _]) rfl (Nat.le_of_ble_eq_true rfl) ?_
  refine lt2 sl.ints (VC.d _).vd (VC.d _).vd ⟨rfl, rfl⟩ (by decide) ?_
  refine clv rfl (.cons (VLe.refl _) (.cons (VLe.refl _) (.nil))) (fwd_Likelihood g k fw) ?_
  rw [hp]
  first | refine mvD rfl ?_ | refine mvT rfl ?_ | refine mvP rfl ?_ | refine mvR rfl ?_ | refine mvE rfl ?_ | refine mvF rfl ?_ | refine mvA rfl ?_ | refine mvO rfl ?_ | refine mvM rfl ?_ | refine mvJ rfl ?_
  refine ex rfl rfl ?_
  refine ex rfl rfl ?_
  refine al z.Rat rfl fun b4 => ?_
  first | refine sto sz.Rat rfl rfl rfl rfl rfl (Nat.le_of_ble_eq_true rfl) (cells2 := [_, _, _]) rfl ?_ | refine stE sz.Rat rfl (VC.d _).vd rfl rfl (by omega) rfl ?_
  refine asD rfl ?_
  refine OL.nil ?_
  refine AW.seq ?_
  refine AW.region (by rw [hE]; rfl) ?_
  refine clv rfl (.cons (VLe.refl _) (.cons (VLe.refl _) (.nil))) (hx) ?_
  first | refine mvD rfl ?_ | refine mvT rfl ?_ | refine mvP rfl ?_ | refine mvR rfl ?_ | refine mvE rfl ?_ | refine mvF rfl ?_ | refine mvA rfl ?_ | refine mvO rfl ?_ | refine mvM rfl ?_ | refine mvJ rfl ?_
  refine ex rfl rfl ?_
  refine ex rfl rfl ?_
  refine al z.Rat rfl fun b6 => ?_
  first | refine sto sz.Rat rfl rfl rfl rfl rfl (Nat.le_of_ble_eq_true rfl) (cells2 := [_, _, _]) rfl ?_ | refine stE sz.Rat rfl (VC.d _).vd rfl rfl (by omega) rfl ?_
  refine asD rfl ?_
  refine OL.nil ?_
  refine AW.seq ?_
  refine AW.region (by rw [hE]; rfl) ?_
  first | refine ldPA ag.Hidden rfl rfl (vs := [_, _, _, _, _, _, _, _, _, _, _]) rfl (Nat.le_of_ble_eq_true rfl) ?_ | refine ldRA ag.Hidden rfl (vs := [_, _, _, _, _, _, _, _, _, _, _]) rfl (Nat.le_of_ble_eq_true rfl) ?_
  refine lt2 sl.ints (VC.d _).vd (VC.d _).vd ⟨rfl, rfl⟩ (by decide) ?_
  refine clv rfl (.cons (VLe.refl _) (.cons (VLe.refl _) (.nil))) (fwd_Expected g k fw) ?_
  rw [hm, he]
  first | refine mvD rfl ?_ | refine mvT rfl ?_ | refine mvP rfl ?_ | refine mvR rfl ?_ | refine mvE rfl ?_ | refine mvF rfl ?_ | refine mvA rfl ?_ | refine mvO rfl ?_ | refine mvM rfl ?_ | refine mvJ rfl ?_
  refine ex rfl rfl ?_
  refine ex rfl rfl ?_
  refine al z.Counts rfl fun b8 => ?_
  first | refine sto sz.Counts rfl rfl rfl rfl rfl (Nat.le_of_ble_eq_true rfl) (cells2 := [_, _, _, _]) rfl ?_ | refine stE sz.Counts rfl (VC.d _).vd rfl rfl (by omega) rfl ?_
  refine asD rfl ?_
  refine OL.nil ?_
  refine AW.seq ?_
  refine AW.region_draw 1 [0, 1, 2, 3, 4, 5, 6, 7, 8, 9, 10, 11, 12, 13, 14, 15, 16, 17, 18, 19, 20, 21, 22, 23, 24, 25, 26, 27, 28, 29] order_free (by rw [hE]; rfl) (by kernel_rfl) (OI.of_OL (os := [_, _, _, _, _, _, _, _, _, _, _, _, _, _, _, _, _, _, _, _, _, _, _, _, _, _, _, _, _, _]) rfl ?_)
  refine mvD rfl ?_
  refine c_eql rfl rfl (c := true) (by first | exact decide_eq_true (by omega) | exact decide_eq_false (by omega) | exact cne_f (by omega) | exact cne_t (by omega) | rfl) ?_
  refine mvD rfl ?_
  refine OL.yes rfl ?_
  refine mvD rfl ?_
  refine OL.yes rfl ?_
  refine c_eql rfl rfl (c := true) (by first | exact decide_eq_true (by omega) | exact decide_eq_false (by omega) | exact cne_f (by omega) | exact cne_t (by omega) | rfl) ?_
  refine pkT rfl rfl ?_
  refine mvD rfl ?_
  refine OL.yes rfl ?_
  first | refine ldPA ag.Rat rfl rfl (vs := [_, _, _]) rfl (Nat.le_of_ble_eq_true rfl) ?_ | refine ldRA ag.Rat rfl (vs := [_, _, _]) rfl (Nat.le_of_ble_eq_true rfl) ?_
  refine OL.yes rfl ?_
  first | refine ldPA ag.Rat rfl rfl (vs := [_, _, _]) rfl (Nat.le_of_ble_eq_true rfl) ?_ | refine ldRA ag.Rat rfl (vs := [_, _, _]) rfl (Nat.le_of_ble_eq_true rfl) ?_
  refine OL.yes rfl ?_
  refine clv rfl (.cons (VLe.refl _) (.cons (VLe.refl _) (.nil))) (ref_CompareQ (x := p) (y := p) (by omega) (by omega)) ?_
  rw [show cmpQ (p) (p) = 0 from cmpQ_eq.2 rfl]
  refine OL.yes rfl ?_
  refine c_eql rfl rfl (c := true) (by first | exact decide_eq_true (by omega) | exact decide_eq_false (by omega) | exact cne_f (by omega) | exact cne_t (by omega) | rfl) ?_
  refine pkT rfl rfl ?_
  refine mvD rfl ?_
  refine OL.yes rfl ?_
  first | refine faP fd.Counts_1 rfl rfl ?_ | refine faR fd.Counts_1 rfl rfl ?_ | refine faE fd.Counts_1 rfl rfl ?_
  refine OL.yes rfl ?_
  first | refine ldRC ce.Ratss rfl ?_ | refine ldPC ce.Ratss rfl rfl rfl ?_
  refine OL.yes rfl ?_
  first | refine lnL sl.Ratss rfl rfl ?_ | refine lnO sl.Ratss rfl rfl ?_ | refine lnM sl.Ratss rfl rfl ?_ | refine lnD sl.Ratss rfl rfl rfl ?_
  refine OL.yes rfl ?_
  refine c_eql rfl rfl (c := true) (by first | exact decide_eq_true (by omega) | exact decide_eq_false (by omega) | exact cne_f (by omega) | exact cne_t (by omega) | rfl) ?_
  refine pkT rfl rfl ?_
  refine mvD rfl ?_
  refine OL.yes rfl ?_
  first | refine faP fd.Counts_1 rfl rfl ?_ | refine faR fd.Counts_1 rfl rfl ?_ | refine faE fd.Counts_1 rfl rfl ?_
  refine OL.yes rfl ?_
  first | refine ldRC ce.Ratss rfl ?_ | refine ldPC ce.Ratss rfl rfl rfl ?_
  refine OL.yes rfl ?_
  refine ixLe 0 sl.Ratss [] rfl rfl (by decide) (Nat.le_refl 1) rfl rfl ?_
  refine OL.yes rfl ?_
  first | refine ldRC ce.Rats rfl ?_ | refine ldPC ce.Rats rfl rfl rfl ?_
  refine OL.yes rfl ?_
  refine ixLe 0 sl.Rats 0 rfl rfl (by decide) (Nat.le_refl 1) rfl rfl ?_
  refine OL.yes rfl ?_
  first | refine ldPA ag.Rat rfl rfl (vs := [_, _, _]) rfl (Nat.le_of_ble_eq_true rfl) ?_ | refine ldRA ag.Rat rfl (vs := [_, _, _]) rfl (Nat.le_of_ble_eq_true rfl) ?_
  refine OL.yes rfl ?_
  refine clv rfl (.cons (VLe.refl _) (.nil)) (ho) ?_
  refine OL.yes rfl ?_
  refine clv rfl (.cons (VLe.refl _) (.cons (VLe.refl _) (.nil))) (ref_CompareQ (x := o) (y := o) (by omega) (by omega)) ?_
  rw [show cmpQ (o) (o) = 0 from cmpQ_eq.2 rfl]
  refine OL.yes rfl ?_
  refine c_eql rfl rfl (c := true) (by first | exact decide_eq_true (by omega) | exact decide_eq_false (by omega) | exact cne_f (by omega) | exact cne_t (by omega) | rfl) ?_
  refine pkT rfl rfl ?_
  refine asD rfl ?_
  refine OL.nil ?_
  exact AW.ret (RetQ.r ⟨_, .tmp rfl .nil, .le (by first | exact VLe.refl _ | exact VLe.mt | exact vle_q0 | exact VLe.int (by omega) | exact VLe.bool (by simp_all))⟩)
theorem q16 : ((1 : Int) : Rat) / ((16 : Int) : Rat) = 1 / 16 := rfl
theorem law34_known : FSpec P F.law34_known [] (.d (dB true)) := by
  have h16 := ref_Make (n := 1) (d := 16) (by decide) (by decide) (by decide)
  rw [q16] at h16
  have z16 : sz (1 / 16) ≤ 1 := by rw [← q16]; exact div_sz (by decide) (by decide) (by decide)
  exact law34_knownQ rfl coin_good coin_word coin_few coin_lik (Nat.le_trans z16 (by decide)) (by rw [sz_one]; decide) h16 coin_exM coin_post ref_half ref33_Whole1
end Go.Proofs.YtcebciggodhmcaaGreat

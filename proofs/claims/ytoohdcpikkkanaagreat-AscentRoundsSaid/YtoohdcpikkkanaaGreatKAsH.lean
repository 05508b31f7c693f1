/-
  Walks for chapter 39, part 8: the statement on rounding (printed by mk2.py).
-/
import Derived.Test.YtoohdcpikkkanaaGreatKAsG
import Derived.Test.YtoohdcpikkkanaaGreatKMade
import Derived.Test.YtoohdcpikkkanaaGreatKMod39e
set_option linter.unusedVariables false
set_option linter.unusedSimpArgs false
namespace Go.Proofs.YtoohdcpikkkanaaGreat
open Go Go.AL
theorem vd_q0B9 : VD (.ag [.d (dB false), .mt, .mt]) (dQ 0) := VD.ag vcs_q0
theorem ref_AbsQ {q : Rat} (hq : sz q ≤ 68719476736) : FSpec P F.ref01_Abs [vQ q] (vQ (absQ q)) := by
  refine FSpec.intro fn.ref01_Abs (by rfl) (by rfl) (Nat.le_of_ble_eq_true (by rfl)) fun E hE => ?_
  refine AW.seq ?_
  refine AW.region (by rw [hE]; rfl) ?_
  refine bxA rfl rfl fun b1 => ?_
  refine al z.Rat rfl fun b2 => ?_
  refine OL.nil ?_
  refine AW.seq ?_
  refine AW.region (by rw [hE]; rfl) ?_
  refine ldPA ag.Rat rfl rfl (vs := [_, _, _]) rfl (Nat.le_of_ble_eq_true rfl) ?_
  refine clv rfl (.cons (VLe.refl _) (.nil)) (ref_Take (r := ofQ q) (ofQ_ok (by omega))) ?_
  rw [q_ofQ]
  refine sto sz.Rat rfl rfl rfl rfl rfl (Nat.le_of_ble_eq_true rfl) (cells2 := [_, _, _]) rfl ?_
  refine OL.nil ?_
  refine AW.seq ?_
  refine AW.region (by rw [hE]; rfl) ?_
  refine faP fd.Rat_0 rfl rfl ?_
  refine sto sz.bool rfl rfl rfl rfl rfl (Nat.le_of_ble_eq_true rfl) (cells2 := [_, _, _]) rfl ?_
  refine OL.nil ?_
  refine AW.seq ?_
  refine AW.region (by rw [hE]; rfl) ?_
  refine ldPA ag.Rat rfl rfl (vs := [_, _, _]) rfl (Nat.le_of_ble_eq_true rfl) ?_
  refine sto sz.Rat rfl rfl rfl rfl rfl (Nat.le_of_ble_eq_true rfl) (cells2 := [_, _, _]) rfl ?_
  refine OL.nil ?_
  exact AW.ret (RetQ.r ⟨_, .cellA rfl rfl ag.Rat (Nat.le_of_ble_eq_true rfl) .nil, .ag (.cons (.le (vle_of_eq (by rw [ofQ_abs]))) (.cons (.le (vle_of_eq (by rw [ofQ_abs]))) (.cons (.le (vle_of_eq (by rw [ofQ_abs]))) .nil)))⟩)
theorem ref33_Whole {n : Int} (hn : -9223372036854775808 ≤ n ∧ n ≤ 9223372036854775807) : FSpec P F.ref33_Whole [.d (dI n)] (vQ (n : Rat)) := by
  refine FSpec.intro fn.ref33_Whole (by rfl) (by rfl) (Nat.le_of_ble_eq_true (by rfl)) fun E hE => ?_
  refine AW.seq ?_
  refine AW.region (by rw [hE]; rfl) ?_
  refine al z.Rat rfl fun b2 => ?_
  refine OL.nil ?_
  refine AW.seq ?_
  refine AW.region (by rw [hE]; rfl) ?_
  refine mvD rfl ?_
  refine clv rfl (.cons (VLe.refl _) (.cons (VLe.refl _) .nil)) (ref_Make hn (by decide) (by decide)) ?_
  rw [show (n : Rat) / ((1 : Int) : Rat) = (n : Rat) by rw [show ((1 : Int) : Rat) = 1 from rfl]; grind]
  refine mvT rfl ?_
  refine ex rfl rfl ?_
  refine ex rfl rfl ?_
  refine al z.Rat rfl fun b3 => ?_
  refine sto sz.Rat rfl rfl rfl rfl rfl (Nat.le_of_ble_eq_true rfl) (cells2 := [_, _, _]) rfl ?_
  refine asD rfl ?_
  refine OL.nil ?_
  refine AW.seq ?_
  refine AW.region (by rw [hE]; rfl) ?_
  refine ldPA ag.Rat rfl rfl (vs := [_, _, _]) rfl (Nat.le_of_ble_eq_true rfl) ?_
  refine sto sz.Rat rfl rfl rfl rfl rfl (Nat.le_of_ble_eq_true rfl) (cells2 := [_, _, _]) rfl ?_
  refine OL.nil ?_
  exact AW.ret (RetQ.r ⟨_, .cellA rfl rfl ag.Rat (Nat.le_of_ble_eq_true rfl) .nil, .ag (.cons (.le (by first | exact VLe.refl _ | exact VLe.mt | exact vle_q0 | exact VLe.int (by omega) | exact VLe.bool (by simp_all))) (.cons (.le (by first | exact VLe.refl _ | exact VLe.mt | exact vle_q0 | exact VLe.int (by omega) | exact VLe.bool (by simp_all))) (.cons (.le (by first | exact VLe.refl _ | exact VLe.mt | exact vle_q0 | exact VLe.int (by omega) | exact VLe.bool (by simp_all))) .nil)))⟩)
theorem ref33_Whole1 : FSpec P F.ref33_Whole [.d (dI 1)] (vQ 1) := by
  have h := ref33_Whole (n := 1) (by decide)
  rw [show ((1 : Int) : Rat) = 1 from rfl] at h; exact h
theorem q12 : ((1 : Int) : Rat) / ((2 : Int) : Rat) = 1 / 2 := rfl
theorem ref_half : FSpec P F.ref01_Make [.d (dI 1), .d (dI 2)] (.tup [vQ (1 / 2), .d (dI 0)]) := by
  have h := ref_Make (n := 1) (d := 2) (by decide) (by decide) (by decide)
  rw [q12] at h; exact h
theorem law39_near {x y : Rat} {g : Nat} (hg : 1 ≤ g ∧ g ≤ 1048576) (zx : sz x ≤ 1024) (zy : sz y ≤ 1024) (hn : Near g x y) : FSpec P F.law39_near [vQ x, vQ y, .d (dI g)] (.d (dB true)) := by
  have zs := sz_sub x y
  have za := sz_abs (x - y)
  have zg : sz (1 / (g : Rat)) ≤ 1 := by
      have := div_sz (x := 1) (s := (g : Int)) (by omega) (by omega) (by omega)
      rw [Rat.intCast_natCast] at this; exact this
  have hgc : ((1 : Int) : Rat) / ((g : Int) : Rat) = 1 / (g : Rat) := by rw [Rat.intCast_natCast]; rfl
  refine FSpec.intro fn.law39_near (by rfl) (by rfl) (Nat.le_of_ble_eq_true (by rfl)) fun E hE => ?_
  refine AW.seq ?_
  refine AW.region (by rw [hE]; rfl) ?_
  refine bxA rfl rfl fun b3 => ?_
  refine bxA rfl rfl fun b4 => ?_
  refine asD rfl ?_
  refine OL.nil ?_
  refine AW.seq ?_
  refine AW.region (by rw [hE]; rfl) ?_
  refine mvD rfl ?_
  refine clv rfl (.cons (VLe.refl _) (.cons (VLe.refl _) (.nil))) (ref_Make (n := 1) (d := (g : Int)) (by omega) (by omega) (by omega)) ?_
  rw [hgc]
  refine mvT rfl ?_
  refine ex rfl rfl ?_
  refine ex rfl rfl ?_
  refine al z.Rat rfl fun b7 => ?_
  refine sto sz.Rat rfl rfl rfl rfl rfl (Nat.le_of_ble_eq_true rfl) (cells2 := [_, _, _]) rfl ?_
  refine asD rfl ?_
  refine OL.nil ?_
  refine AW.seq ?_
  refine AW.region_draw 1 [0, 1, 2, 3, 4, 5, 6, 7, 8, 9, 10, 11, 12, 13, 14, 15, 16, 17] order_free (by rw [hE]; rfl) (by kernel_rfl) (OI.of_OL (os := [_, _, _, _, _, _, _, _, _, _, _, _, _, _, _, _, _, _]) rfl ?_)
  refine ldPA ag.Rat rfl rfl (vs := [_, _, _]) rfl (Nat.le_of_ble_eq_true rfl) ?_
  refine ldPA ag.Rat rfl rfl (vs := [_, _, _]) rfl (Nat.le_of_ble_eq_true rfl) ?_
  refine clv rfl (.cons (VLe.refl _) (.cons (VLe.refl _) (.nil))) (ref_SubQ (x := x) (y := y) (by omega) (by omega)) ?_
  refine clv rfl (.cons (VLe.refl _) (.nil)) (ref_AbsQ (q := x - y) (by omega)) ?_
  refine ldPA ag.Rat rfl rfl (vs := [_, _, _]) rfl (Nat.le_of_ble_eq_true rfl) ?_
  refine clv rfl (.cons (VLe.refl _) (.cons (VLe.refl _) (.nil))) (ref_CompareQ (x := absQ (x - y)) (y := 1 / (g : Rat)) (by omega) (by omega)) ?_
  refine c_lss rfl rfl (c := true) (decide_eq_true (cmpQ_neg.2 hn.1)) ?_
  refine mvD rfl ?_
  refine OL.yes rfl ?_
  refine ldPA ag.Rat rfl rfl (vs := [_, _, _]) rfl (Nat.le_of_ble_eq_true rfl) ?_
  refine OL.yes rfl ?_
  refine clv rfl (.cons (VLe.refl _) (.nil)) (ref_SignQ (x := x) (by omega)) ?_
  refine OL.yes rfl ?_
  refine c_neq rfl rfl rfl ?_
  refine OL.split 24 rfl (fun h10 => ?_) (fun h10 => ?_)
  · have _h := h10
    refine OL.yes rfl ?_
    refine mvD rfl ?_
    refine OL.no rfl (by decide) ?_
    refine OL.no rfl (by decide) ?_
    refine OL.no rfl (by decide) ?_
    refine OL.yes rfl ?_
    refine pkT rfl rfl ?_
    refine pkT rfl rfl ?_
    refine asD rfl ?_
    refine OL.nil ?_
    exact AW.ret (RetQ.r ⟨_, .tmp rfl .nil, .le (by first | exact VLe.refl _ | exact VLe.mt | exact vle_q0 | exact VLe.int (by omega) | exact VLe.bool (by simp_all))⟩)
  · have h10 : x = 0 := sgnQ_eq.1 (by simpa using h10)
    refine OL.yes rfl ?_
    refine mvD rfl ?_
    refine OL.yes rfl ?_
    refine ldPA ag.Rat rfl rfl (vs := [_, _, _]) rfl (Nat.le_of_ble_eq_true rfl) ?_
    refine OL.yes rfl ?_
    refine clv rfl (.cons (VLe.refl _) (.nil)) (ref_SignQ (x := y) (by omega)) ?_
    refine OL.yes rfl ?_
    refine c_eql rfl rfl (c := true) (decide_eq_true (sgnQ_eq.2 (hn.2 h10))) ?_
    refine OL.yes rfl ?_
    refine pkF rfl rfl ?_
    refine pkT rfl rfl ?_
    refine asD rfl ?_
    refine OL.nil ?_
    exact AW.ret (RetQ.r ⟨_, .tmp rfl .nil, .le (by first | exact VLe.refl _ | exact VLe.mt | exact vle_q0 | exact VLe.int (by omega) | exact VLe.bool (by simp_all))⟩)
theorem law39_nearAll {a b : List Rat} {g : Nat} (hg : 1 ≤ g ∧ g ≤ 1048576) (na : a.length ≤ 1099511627776) (za : Small 1024 a) (zb : Small 1024 b) (hn : NearL g a b) : FSpec P F.law39_nearAll [.d (dQs a), .d (dQs b), .d (dI g)] (.d (dB true)) := by
  have hl := hn.1
  refine FSpec.intro fn.law39_nearAll (by rfl) (by rfl) (Nat.le_of_ble_eq_true (by rfl)) fun E hE => ?_
  refine AW.seq ?_
  refine AW.region (by rw [hE]; rfl) ?_
  refine asD rfl ?_
  refine OL.nil ?_
  refine AW.seq ?_
  refine AW.seq ?_
  refine AW.region (by rw [hE]; rfl) ?_
  refine mvD rfl ?_
  refine lnL sl.Rats rfl rfl ?_
  refine mvD rfl ?_
  refine lnL sl.Rats rfl rfl ?_
  refine c_neq rfl rfl (c := false) (by first | exact decide_eq_true (by omega) | exact decide_eq_false (by omega) | exact cne_f (by omega) | exact cne_t (by omega) | rfl) ?_
  refine OL.nil ?_
  refine AW.cond rfl (fun hno => absurd hno (by decide)) (fun _ => ?_)
  refine AW.skip ?_
  refine AW.seq ?_
  refine AW.seq ?_
  refine AW.region (by rw [hE]; rfl) ?_
  refine asD rfl ?_
  refine OL.nil ?_
  refine AW.block ?_
  refine AW.whileK (α := Nat) [(0, _), (1, _), (2, _)] [] (fun i => [(7, .d (dI i))]) (fun i => []) (fun i => i ≤ a.length) (fun i => a.length - i) 0 (by repeat (first | exact Knows.nil | refine Knows.cons (by first | exact knD rfl | exact knA rfl | exact knP rfl | exact knO rfl | exact knM rfl | exact knE rfl | exact knR rfl | exact knF rfl | exact knT rfl | exact knJ) ?_)) .nil ⟨Nat.zero_le _, .cons (by first | exact VLe.refl _ | exact VLe.int (by omega) | exact VLe.mt | exact vle_q0 | exact VLe.osl | exact VLe.ptr) .nil, .nil⟩ ?_
  intro i h1
  have h1 : i ≤ a.length := h1
  refine AW.seq ?_
  refine AW.seq ?_
  refine AW.region (by rw [hE]; rfl) ?_
  refine mvD rfl ?_
  refine mvD rfl ?_
  refine lnL sl.Rats rfl rfl ?_
  refine c_lss rfl rfl rfl ?_
  refine OL.nil ?_
  refine AW.cond rfl (fun h16 => ?_) (fun h16 => ?_)
  · first | (simp only [decide_eq_true_eq, decide_eq_false_iff_not, Bool.not_eq_true', Bool.not_eq_false', Bool.not_not, Bool.and_eq_true, Bool.and_eq_false_iff, Bool.or_eq_true, Bool.or_eq_false_iff] at h16) | skip
    refine AW.skip ?_
    refine AW.seq ?_
    refine AW.block ?_
    refine AW.seq ?_
    refine AW.region_draw 1 [0, 1, 2, 3, 4, 5, 6, 7, 8, 9, 10] order_free (by rw [hE]; rfl) (by kernel_rfl) (OI.of_OL (os := [_, _, _, _, _, _, _, _, _, _, _]) rfl ?_)
    refine mvD rfl ?_
    refine mvD rfl ?_
    refine ixLn sl.Rats 0 rfl rfl (by omega) rfl rfl ?_
    refine ldRA ag.Rat rfl (vs := [_, _, _]) rfl (Nat.le_of_ble_eq_true rfl) ?_
    refine mvD rfl ?_
    refine mvD rfl ?_
    refine ixLn sl.Rats 0 rfl rfl (by omega) rfl rfl ?_
    refine ldRA ag.Rat rfl (vs := [_, _, _]) rfl (Nat.le_of_ble_eq_true rfl) ?_
    refine mvD rfl ?_
    refine clv rfl (.cons (VLe.refl _) (.cons (VLe.refl _) (.cons (VLe.refl _) (.nil)))) (law39_near hg (za.get (by decide) i) (zb.get (by decide) i) (hn.2 i (by omega))) ?_
    refine nt rfl ?_
    refine OL.nil ?_
    refine AW.cond rfl (fun hno => absurd hno (by decide)) (fun _ => ?_)
    refine AW.skip ?_
    refine AW.region (by rw [hE]; rfl) ?_
    refine mvD rfl ?_
    refine add_i64 rfl rfl (by omega) ?_
    refine asD rfl ?_
    refine OL.nil ?_
    exact AW.again (x := i) (i + 1) (by first | omega | (simp only []; omega)) ⟨by omega, Knows.app (.cons (VLe.refl _) (.cons (VLe.refl _) (.cons (VLe.refl _) .nil))) (.cons (by first | exact VLe.refl _ | exact VLe.int (by omega) | exact VLe.mt | exact vle_q0 | exact VLe.osl | exact VLe.ptr) .nil), .nil⟩
  · first | (simp only [decide_eq_true_eq, decide_eq_false_iff_not, Bool.not_eq_true', Bool.not_eq_false', Bool.not_not, Bool.and_eq_true, Bool.and_eq_false_iff, Bool.or_eq_true, Bool.or_eq_false_iff] at h16) | skip
    refine AW.exit ?_
    refine AW.seq ?_
    refine AW.region (by rw [hE]; rfl) ?_
    refine asD rfl ?_
    refine OL.nil ?_
    exact AW.ret (RetQ.r ⟨_, .tmp rfl .nil, .le (by first | exact VLe.refl _ | exact VLe.mt | exact vle_q0 | exact VLe.int (by omega) | exact VLe.bool (by simp_all))⟩)
theorem law39_coinQ {x y o : Rat} (hx : FSpec P F.ref01_Make [.d (dI 1), .d (dI 3)] (.tup [vQ x, .d (dI 0)])) (hy : FSpec P F.ref01_Make [.d (dI 2), .d (dI 3)] (.tup [vQ y, .d (dI 0)])) (ho : FSpec P F.ref33_Whole [.d (dI 1)] (vQ o)) : FSpec P F.law39_coin [] (vHM ⟨2, 1, 0, [o], [[0]], [o], [[x, y]], [false], [0]⟩) := by
  refine FSpec.intro fn.law39_coin (by rfl) (by rfl) (Nat.le_of_ble_eq_true (by rfl)) fun E hE => ?_
  refine AW.seq ?_
  refine AW.region (by rw [hE]; rfl) ?_
  refine al z.Hidden rfl fun b0 => ?_
  refine OL.nil ?_
  refine AW.seq ?_
  refine AW.region (by rw [hE]; rfl) ?_
  refine clv rfl (.cons (VLe.refl _) (.cons (VLe.refl _) (.nil))) (hx) ?_
  refine mvT rfl ?_
  refine ex rfl rfl ?_
  refine ex rfl rfl ?_
  refine al z.Rat rfl fun b1 => ?_
  refine sto sz.Rat rfl rfl rfl rfl rfl (Nat.le_of_ble_eq_true rfl) (cells2 := [_, _, _]) rfl ?_
  refine asD rfl ?_
  refine OL.nil ?_
  refine AW.seq ?_
  refine AW.region (by rw [hE]; rfl) ?_
  refine clv rfl (.cons (VLe.refl _) (.cons (VLe.refl _) (.nil))) (hy) ?_
  refine mvT rfl ?_
  refine ex rfl rfl ?_
  refine ex rfl rfl ?_
  refine al z.Rat rfl fun b3 => ?_
  refine sto sz.Rat rfl rfl rfl rfl rfl (Nat.le_of_ble_eq_true rfl) (cells2 := [_, _, _]) rfl ?_
  refine asD rfl ?_
  refine OL.nil ?_
  refine AW.seq ?_
  refine AW.region (by rw [hE]; rfl) ?_
  refine clv rfl (.cons (VLe.refl _) (.nil)) (ho) ?_
  refine al z.Rat rfl fun b5 => ?_
  refine sto sz.Rat rfl rfl rfl rfl rfl (Nat.le_of_ble_eq_true rfl) (cells2 := [_, _, _]) rfl ?_
  refine OL.nil ?_
  refine AW.seq ?_
  refine AW.region (by rw [hE]; rfl) ?_
  refine ldPA ag.Rat rfl rfl (vs := [_, _, _]) rfl (Nat.le_of_ble_eq_true rfl) ?_
  refine lt1 (y := dQ o) sl.Rats vd_q rfl (by decide) ?_
  refine bd z.Rat pl.Rat (cs := [_, _, _]) rfl ?_
  refine lt1 (y := dQ 0) sl.Rats vd_q0B9 rfl (by decide) ?_
  refine lt1 (y := dQs [0]) sl.Ratss (VC.d _).vd rfl (by decide) ?_
  refine ldPA ag.Rat rfl rfl (vs := [_, _, _]) rfl (Nat.le_of_ble_eq_true rfl) ?_
  refine lt1 (y := dQ o) sl.Rats vd_q rfl (by decide) ?_
  refine ldPA ag.Rat rfl rfl (vs := [_, _, _]) rfl (Nat.le_of_ble_eq_true rfl) ?_
  refine ldPA ag.Rat rfl rfl (vs := [_, _, _]) rfl (Nat.le_of_ble_eq_true rfl) ?_
  refine lt2 (y := dQ x) (y2 := dQ y) sl.Rats vd_q vd_q ⟨rfl, rfl⟩ (by decide) ?_
  refine lt1 (y := dQs [x, y]) sl.Ratss (VC.d _).vd rfl (by decide) ?_
  refine lt1 sl.bools (VC.d _).vd rfl (by decide) ?_
  refine lt1 sl.ints (VC.d _).vd rfl (by decide) ?_
  refine bd2 (cs := [_, _, _, _, _, _, _, _, _, _, _]) z.Hidden pl.Hidden (pvC (by first | exact evD rfl | exact evA rfl | exact evM rfl | exact evO rfl | exact evP rfl) (pvC (by first | exact evD rfl | exact evA rfl | exact evM rfl | exact evO rfl | exact evP rfl) (pvC (by first | exact evD rfl | exact evA rfl | exact evM rfl | exact evO rfl | exact evP rfl) (pvC (by first | exact evD rfl | exact evA rfl | exact evM rfl | exact evO rfl | exact evP rfl) (pvC (by first | exact evD rfl | exact evA rfl | exact evM rfl | exact evO rfl | exact evP rfl) (pvC (by first | exact evD rfl | exact evA rfl | exact evM rfl | exact evO rfl | exact evP rfl) (pvC (by first | exact evD rfl | exact evA rfl | exact evM rfl | exact evO rfl | exact evP rfl) (pvC (by first | exact evD rfl | exact evA rfl | exact evM rfl | exact evO rfl | exact evP rfl) (pvN))))))))) (by rfl) ?_
  refine sto sz.Hidden rfl rfl rfl rfl rfl (Nat.le_of_ble_eq_true rfl) (cells2 := [_, _, _, _, _, _, _, _, _, _, _]) rfl ?_
  refine OL.nil ?_
  exact AW.ret (RetQ.r ⟨_, .cellA rfl rfl ag.Hidden (Nat.le_of_ble_eq_true rfl) .nil, .ag (.cons (.le (by first | exact VLe.refl _ | exact VLe.mt | exact vle_q0 | exact VLe.int (by omega) | exact VLe.bool (by simp_all))) (.cons (.le (by first | exact VLe.refl _ | exact VLe.mt | exact vle_q0 | exact VLe.int (by omega) | exact VLe.bool (by simp_all))) (.cons (.le (vle_of_eq (by show _ = V.d (dB (ofQ 0).neg); rw [ofQ_zero]))) (.cons (.le (by show VLe _ (.d (u32s (ofQ 0).num)); rw [ofQ_zero]; exact VLe.mt)) (.cons (.le (by show VLe _ (.d (u32s (ofQ 0).den)); rw [ofQ_zero]; exact VLe.mt)) (.cons (.le (by first | exact VLe.refl _ | exact VLe.mt | exact vle_q0 | exact VLe.int (by omega) | exact VLe.bool (by simp_all))) (.cons (.le (by first | exact VLe.refl _ | exact VLe.mt | exact vle_q0 | exact VLe.int (by omega) | exact VLe.bool (by simp_all))) (.cons (.le (by first | exact VLe.refl _ | exact VLe.mt | exact vle_q0 | exact VLe.int (by omega) | exact VLe.bool (by simp_all))) (.cons (.le (by first | exact VLe.refl _ | exact VLe.mt | exact vle_q0 | exact VLe.int (by omega) | exact VLe.bool (by simp_all))) (.cons (.le (by first | exact VLe.refl _ | exact VLe.mt | exact vle_q0 | exact VLe.int (by omega) | exact VLe.bool (by simp_all))) (.cons (.le (by first | exact VLe.refl _ | exact VLe.mt | exact vle_q0 | exact VLe.int (by omega) | exact VLe.bool (by simp_all))) .nil)))))))))))⟩)
theorem q13 : ((1 : Int) : Rat) / ((3 : Int) : Rat) = 1 / 3 := rfl
theorem q23 : ((2 : Int) : Rat) / ((3 : Int) : Rat) = 2 / 3 := rfl
theorem q34 : ((3 : Int) : Rat) / ((4 : Int) : Rat) = 3 / 4 := rfl
theorem law39_coin : FSpec P F.law39_coin [] (vHM coin9) := by
  have h1 := ref_Make (n := 1) (d := 3) (by decide) (by decide) (by decide)
  rw [q13] at h1
  have h2 := ref_Make (n := 2) (d := 3) (by decide) (by decide) (by decide)
  rw [q23] at h2
  exact law39_coinQ h1 h2 ref33_Whole1
theorem law39_knownQ {h R S : HM} {p p2 q q2 : Rat} (hc : FSpec P F.law39_coin [] (vHM h)) (hre : FSpec P F.ascent_Reestimate [vHM h, .d (dIss [[1], [1], [1], [2]])] (.tup [vHM R, .d (dI 0)])) (hR : R.emit = [[p, p2]]) (hro : FSpec P F.ascent_Round [vHM h, .d (dI 2)] (.tup [vHM S, .d (dI 0)])) (hS : S.emit = [[q, q2]]) (h34 : FSpec P F.ref01_Make [.d (dI 3), .d (dI 4)] (.tup [vQ p, .d (dI 0)])) (h12 : FSpec P F.ref01_Make [.d (dI 1), .d (dI 2)] (.tup [vQ q, .d (dI 0)])) (zp : sz p ≤ 68719476736) (zq : sz q ≤ 68719476736) : FSpec P F.law39_known [] (.d (dB true)) := by
  obtain ⟨_, _, _, _, _, _, Re, _, _⟩ := R
  obtain rfl : Re = [[p, p2]] := hR
  obtain ⟨_, _, _, _, _, _, Se, _, _⟩ := S
  obtain rfl : Se = [[q, q2]] := hS
  refine FSpec.intro fn.law39_known (by rfl) (by rfl) (Nat.le_of_ble_eq_true (by rfl)) fun E hE => ?_
  refine AW.seq ?_
  refine AW.region (by rw [hE]; rfl) ?_
  refine asD rfl ?_
  refine OL.nil ?_
  refine AW.seq ?_
  refine AW.region (by rw [hE]; rfl) ?_
  refine clv rfl .nil hc ?_
  refine lt1 sl.ints (VC.d _).vd rfl (by decide) ?_
  refine lt1 sl.ints (VC.d _).vd rfl (by decide) ?_
  refine lt1 sl.ints (VC.d _).vd rfl (by decide) ?_
  refine lt1 sl.ints (VC.d _).vd rfl (by decide) ?_
  refine ltN (ys := [ints [1], ints [1], ints [1], ints [2]]) sl.intss rfl (pdC (VC.d _).vd (pdC (VC.d _).vd (pdC (VC.d _).vd (pdC (VC.d _).vd pdN)))) rfl (by decide) (by decide) (by simp [D.cells]) ?_
  refine clv rfl (.cons (VLe.refl _) (.cons (VLe.refl _) (.nil))) (hre) ?_
  refine mvT rfl ?_
  refine ex rfl rfl ?_
  refine ex rfl rfl ?_
  refine al z.Hidden rfl fun b1 => ?_
  refine sto sz.Hidden rfl rfl rfl rfl rfl (Nat.le_of_ble_eq_true rfl) (cells2 := [_, _, _, _, _, _, _, _, _, _, _]) rfl ?_
  refine asD rfl ?_
  refine OL.nil ?_
  refine AW.seq ?_
  refine AW.region (by rw [hE]; rfl) ?_
  refine clv rfl (.cons (VLe.refl _) (.cons (VLe.refl _) (.nil))) (h34) ?_
  refine mvT rfl ?_
  refine ex rfl rfl ?_
  refine ex rfl rfl ?_
  refine al z.Rat rfl fun b3 => ?_
  refine sto sz.Rat rfl rfl rfl rfl rfl (Nat.le_of_ble_eq_true rfl) (cells2 := [_, _, _]) rfl ?_
  refine asD rfl ?_
  refine OL.nil ?_
  refine AW.seq ?_
  refine AW.region (by rw [hE]; rfl) ?_
  refine clv rfl .nil hc ?_
  refine clv rfl (.cons (VLe.refl _) (.cons (VLe.refl _) (.nil))) (hro) ?_
  refine mvT rfl ?_
  refine ex rfl rfl ?_
  refine ex rfl rfl ?_
  refine al z.Hidden rfl fun b5 => ?_
  refine sto sz.Hidden rfl rfl rfl rfl rfl (Nat.le_of_ble_eq_true rfl) (cells2 := [_, _, _, _, _, _, _, _, _, _, _]) rfl ?_
  refine asD rfl ?_
  refine OL.nil ?_
  refine AW.seq ?_
  refine AW.region (by rw [hE]; rfl) ?_
  refine clv rfl (.cons (VLe.refl _) (.cons (VLe.refl _) (.nil))) (h12) ?_
  refine mvT rfl ?_
  refine ex rfl rfl ?_
  refine ex rfl rfl ?_
  refine al z.Rat rfl fun b7 => ?_
  refine sto sz.Rat rfl rfl rfl rfl rfl (Nat.le_of_ble_eq_true rfl) (cells2 := [_, _, _]) rfl ?_
  refine asD rfl ?_
  refine OL.nil ?_
  refine AW.seq ?_
  refine AW.region_draw 1 [0, 1, 2, 3, 4, 5, 6, 7, 8, 9, 10, 11, 12, 13, 14, 15, 16, 17, 18, 19, 20, 21, 22, 23, 24, 25, 26, 27, 28, 29, 30, 31, 32, 33, 34, 35, 36, 37, 38, 39, 40, 41, 42] order_free (by rw [hE]; rfl) (by kernel_rfl) (OI.of_OL (os := [_, _, _, _, _, _, _, _, _, _, _, _, _, _, _, _, _, _, _, _, _, _, _, _, _, _, _, _, _, _, _, _, _, _, _, _, _, _, _, _, _, _, _]) rfl ?_)
  refine mvD rfl ?_
  refine c_eql rfl rfl (c := true) (by first | exact decide_eq_true (by omega) | exact decide_eq_false (by omega) | exact cne_f (by omega) | exact cne_t (by omega) | rfl) ?_
  refine mvD rfl ?_
  refine OL.yes rfl ?_
  refine mvD rfl ?_
  refine OL.yes rfl ?_
  refine c_eql rfl rfl (c := true) (by first | exact decide_eq_true (by omega) | exact decide_eq_false (by omega) | exact cne_f (by omega) | exact cne_t (by omega) | rfl) ?_
  refine pkT rfl rfl ?_
  refine mvD rfl ?_
  refine OL.yes rfl ?_
  refine faP fd.Hidden_6 rfl rfl ?_
  refine OL.yes rfl ?_
  refine ldPC ce.Ratss rfl rfl rfl ?_
  refine OL.yes rfl ?_
  refine lnL sl.Ratss rfl rfl ?_
  refine OL.yes rfl ?_
  refine c_eql rfl rfl (c := true) (by first | exact decide_eq_true (by omega) | exact decide_eq_false (by omega) | exact cne_f (by omega) | exact cne_t (by omega) | rfl) ?_
  refine pkT rfl rfl ?_
  refine mvD rfl ?_
  refine OL.yes rfl ?_
  refine faP fd.Hidden_6 rfl rfl ?_
  refine OL.yes rfl ?_
  refine ldPC ce.Ratss rfl rfl rfl ?_
  refine OL.yes rfl ?_
  refine ixLe 0 sl.Ratss [] rfl rfl (by decide) (Nat.le_refl 1) rfl rfl ?_
  refine OL.yes rfl ?_
  refine ldRC ce.Rats rfl ?_
  refine OL.yes rfl ?_
  refine lnL sl.Rats rfl rfl ?_
  refine OL.yes rfl ?_
  refine c_eql rfl rfl (c := true) (by first | exact decide_eq_true (by omega) | exact decide_eq_false (by omega) | exact cne_f (by omega) | exact cne_t (by omega) | rfl) ?_
  refine pkT rfl rfl ?_
  refine mvD rfl ?_
  refine OL.yes rfl ?_
  refine faP fd.Hidden_6 rfl rfl ?_
  refine OL.yes rfl ?_
  refine ldPC ce.Ratss rfl rfl rfl ?_
  refine OL.yes rfl ?_
  refine ixLe 0 sl.Ratss [] rfl rfl (by decide) (Nat.le_refl 1) rfl rfl ?_
  refine OL.yes rfl ?_
  refine ldRC ce.Rats rfl ?_
  refine OL.yes rfl ?_
  refine ixLe 0 sl.Rats 0 rfl rfl (by decide) (Nat.le_succ 1) rfl rfl ?_
  refine OL.yes rfl ?_
  refine ldRA ag.Rat rfl (vs := [_, _, _]) rfl (Nat.le_of_ble_eq_true rfl) ?_
  refine OL.yes rfl ?_
  refine ldPA ag.Rat rfl rfl (vs := [_, _, _]) rfl (Nat.le_of_ble_eq_true rfl) ?_
  refine OL.yes rfl ?_
  refine clv rfl (.cons (VLe.refl _) (.cons (VLe.refl _) (.nil))) (ref_CompareQ (x := p) (y := p) (by omega) (by omega)) ?_
  rw [show cmpQ (p) (p) = 0 from cmpQ_eq.2 rfl]
  refine OL.yes rfl ?_
  refine c_eql rfl rfl (c := true) (by first | exact decide_eq_true (by omega) | exact decide_eq_false (by omega) | exact cne_f (by omega) | exact cne_t (by omega) | rfl) ?_
  refine pkT rfl rfl ?_
  refine mvD rfl ?_
  refine OL.yes rfl ?_
  refine faP fd.Hidden_6 rfl rfl ?_
  refine OL.yes rfl ?_
  refine ldPC ce.Ratss rfl rfl rfl ?_
  refine OL.yes rfl ?_
  refine ixLe 0 sl.Ratss [] rfl rfl (by decide) (Nat.le_refl 1) rfl rfl ?_
  refine OL.yes rfl ?_
  refine ldRC ce.Rats rfl ?_
  refine OL.yes rfl ?_
  refine ixLe 0 sl.Rats 0 rfl rfl (by decide) (Nat.le_succ 1) rfl rfl ?_
  refine OL.yes rfl ?_
  refine ldRA ag.Rat rfl (vs := [_, _, _]) rfl (Nat.le_of_ble_eq_true rfl) ?_
  refine OL.yes rfl ?_
  refine ldPA ag.Rat rfl rfl (vs := [_, _, _]) rfl (Nat.le_of_ble_eq_true rfl) ?_
  refine OL.yes rfl ?_
  refine clv rfl (.cons (VLe.refl _) (.cons (VLe.refl _) (.nil))) (ref_CompareQ (x := q) (y := q) (by omega) (by omega)) ?_
  rw [show cmpQ (q) (q) = 0 from cmpQ_eq.2 rfl]
  refine OL.yes rfl ?_
  refine c_eql rfl rfl (c := true) (by first | exact decide_eq_true (by omega) | exact decide_eq_false (by omega) | exact cne_f (by omega) | exact cne_t (by omega) | rfl) ?_
  refine pkT rfl rfl ?_
  refine asD rfl ?_
  refine OL.nil ?_
  exact AW.ret (RetQ.r ⟨_, .tmp rfl .nil, .le (by first | exact VLe.refl _ | exact VLe.mt | exact vle_q0 | exact VLe.int (by omega) | exact VLe.bool (by simp_all))⟩)
theorem law39_known : FSpec P F.law39_known [] (.d (dB true)) := by
  have h34 := ref_Make (n := 3) (d := 4) (by decide) (by decide) (by decide)
  rw [q34] at h34
  have z34 : sz (3 / 4) ≤ 1 := by rw [← q34]; exact div_sz (by decide) (by decide) (by decide)
  exact law39_knownQ law39_coin (ascent_Reestimate coin9_good coin9_data coin9_all (by decide)) coin9_re (ascent_Round (g := 2) coin9_good (by decide) (by decide) (by decide)) coin9_round h34 ref_half (Nat.le_trans z34 (by decide)) (by rw [sz_12]; decide)
set_option maxRecDepth 6000 in
set_option maxHeartbeats 3200000 in
theorem law_AscentRounds {L : List Int} {cs cy gr : Int} (nL : L.length ≤ 9223372036854775807) : FSpec P F.law39_AscentRounds [.ag [.d (dI cs), .d (dI cy), .d (ints L)], .d (dI gr)] (.d (dB true)) := by
  obtain ⟨h, hh⟩ : ∃ h, h = chainHM L cs cy 4 := ⟨_, rfl⟩
  have hg : h.Good 1 := by rw [hh]; exact chainHM_good L cs cy (by decide)
  have hst : (h.st : Int) ≤ 4 := by rw [hh]; exact chainHM_st L cs cy (by decide)
  have hsy : h.sym ≤ 12 := by rw [hh]; exact chain_sym9 ..
  have f := hg.form
  have wg := within_range (v := gr) (m := 50) (by omega)
  obtain ⟨g, eg⟩ : ∃ g : Nat, 1 + within gr 50 = (g : Int) := ⟨(1 + within gr 50).toNat, by omega⟩
  have hgr : 1 ≤ g ∧ g ≤ 1048576 := by omega
  obtain ⟨R, hR⟩ : ∃ R, R = roundHM h g := ⟨_, rfl⟩
  have gR : R.Good 1 := by rw [hR]; exact round_good hg hgr
  have fR := gR.form
  have eS : R.st = h.st := by rw [hR]; rfl
  have nE : Near g h.empty R.empty := by rw [hR]; exact near_empty hg hgr.1
  have nI : NearL g h.ini R.ini := by rw [hR]; exact near_ini hg hgr.1
  have nS : NearL g h.stop R.stop := by rw [hR]; exact near_stop hg hgr.1
  have nT : ∀ i, i < h.st → NearL g (h.trans.getD i []) (R.trans.getD i []) := fun i hi => by rw [hR]; exact near_trans hg hgr.1 hi
  have nM : ∀ i, i < h.st → NearL g (h.emit.getD i []) (R.emit.getD i []) := fun i hi => by rw [hR]; exact near_emit hg hgr.1 hi
  have sm : ∀ {l : List Rat}, Small 1 l → Small 1024 l := fun z q hq => Nat.le_trans (z q hq) (by decide)
  have l1 : R.trans.length = h.st := by rw [fR.trans, eS]
  have l2 : R.emit.length = h.st := by rw [fR.emit, eS]
  have l3 : R.ini.length = h.st := by rw [fR.ini, eS]
  have l4 : R.stop.length = h.st := by rw [fR.stop, eS]
  have n1 := f.st1
  have n0 := f.st0
  have s1 := f.sym1
  have e1 := f.ini
  have e2 := f.trans
  have e3 := f.stop
  have e4 := f.emit
  refine FSpec.intro fn.law39_AscentRounds (by rfl) (by rfl) (Nat.le_of_ble_eq_true (by rfl)) fun E hE => ?_
  refine AW.seq ?_
  refine AW.region (by rw [hE]; rfl) ?_
  refine bxA rfl rfl fun b2 => ?_
  refine asD rfl ?_
  refine OL.nil ?_
  refine AW.seq ?_
  refine AW.region (by rw [hE]; rfl) ?_
  refine ldPA ag.Chain rfl rfl (vs := [_, _, _]) rfl (Nat.le_of_ble_eq_true rfl) ?_
  refine clv rfl (.cons (VLe.refl _) (.cons (VLe.refl _) (.nil))) (chain_Hidden (by decide) nL) ?_
  rw [← hh]
  refine al z.Hidden rfl fun b5 => ?_
  refine sto sz.Hidden rfl rfl rfl rfl rfl (Nat.le_of_ble_eq_true rfl) (cells2 := [_, _, _, _, _, _, _, _, _, _, _]) rfl ?_
  refine OL.nil ?_
  refine AW.seq ?_
  refine AW.region (by rw [hE]; rfl) ?_
  refine mvD rfl ?_
  refine clv rfl (.cons (VLe.refl _) (.cons (VLe.refl _) (.nil))) (world_Within (v := gr) (m := 50) (by decide)) ?_
  refine add_i64 rfl rfl (by omega) ?_
  rw [eg]
  refine asD rfl ?_
  refine OL.nil ?_
  refine AW.seq ?_
  refine AW.region (by rw [hE]; rfl) ?_
  refine ldPA ag.Hidden rfl rfl (vs := [_, _, _, _, _, _, _, _, _, _, _]) rfl (Nat.le_of_ble_eq_true rfl) ?_
  refine mvD rfl ?_
  refine clv rfl (.cons (VLe.refl _) (.cons (VLe.refl _) (.nil))) (ascent_Round hg hgr hsy (by omega)) ?_
  rw [← hR]
  refine mvT rfl ?_
  refine ex rfl rfl ?_
  refine ex rfl rfl ?_
  refine al z.Hidden rfl fun b6 => ?_
  refine sto sz.Hidden rfl rfl rfl rfl rfl (Nat.le_of_ble_eq_true rfl) (cells2 := [_, _, _, _, _, _, _, _, _, _, _]) rfl ?_
  refine asD rfl ?_
  refine OL.nil ?_
  refine AW.seq ?_
  refine AW.seq ?_
  refine AW.region (by rw [hE]; rfl) ?_
  refine mvD rfl ?_
  refine c_neq rfl rfl (c := false) (by first | exact decide_eq_true (by omega) | exact decide_eq_false (by omega) | exact cne_f (by omega) | exact cne_t (by omega) | rfl) ?_
  refine mvD rfl ?_
  refine OL.yes rfl ?_
  refine ldPA ag.Hidden rfl rfl (vs := [_, _, _, _, _, _, _, _, _, _, _]) rfl (Nat.le_of_ble_eq_true rfl) ?_
  refine OL.yes rfl ?_
  refine clv rfl (.cons (VLe.refl _) (.nil)) (hmm_Valid_ok gR) ?_
  refine OL.yes rfl ?_
  refine c_neq rfl rfl (c := false) (by first | exact decide_eq_true (by omega) | exact decide_eq_false (by omega) | exact cne_f (by omega) | exact cne_t (by omega) | rfl) ?_
  refine pkF rfl rfl ?_
  refine mvD rfl ?_
  refine OL.yes rfl ?_
  refine faP fd.Hidden_4 rfl rfl ?_
  refine OL.yes rfl ?_
  refine ldPC ce.Ratss rfl rfl rfl ?_
  refine OL.yes rfl ?_
  refine lnL sl.Ratss rfl rfl ?_
  refine OL.yes rfl ?_
  refine faP fd.Hidden_1 rfl rfl ?_
  refine OL.yes rfl ?_
  refine ldPC ce.int rfl rfl rfl ?_
  refine OL.yes rfl ?_
  refine c_neq rfl rfl (c := false) (by first | exact decide_eq_true (by omega) | exact decide_eq_false (by omega) | exact cne_f (by omega) | exact cne_t (by omega) | rfl) ?_
  refine pkF rfl rfl ?_
  refine mvD rfl ?_
  refine OL.yes rfl ?_
  refine faP fd.Hidden_6 rfl rfl ?_
  refine OL.yes rfl ?_
  refine ldPC ce.Ratss rfl rfl rfl ?_
  refine OL.yes rfl ?_
  refine lnL sl.Ratss rfl rfl ?_
  refine OL.yes rfl ?_
  refine faP fd.Hidden_1 rfl rfl ?_
  refine OL.yes rfl ?_
  refine ldPC ce.int rfl rfl rfl ?_
  refine OL.yes rfl ?_
  refine c_neq rfl rfl (c := false) (by first | exact decide_eq_true (by omega) | exact decide_eq_false (by omega) | exact cne_f (by omega) | exact cne_t (by omega) | rfl) ?_
  refine pkF rfl rfl ?_
  refine mvD rfl ?_
  refine OL.yes rfl ?_
  refine faP fd.Hidden_3 rfl rfl ?_
  refine OL.yes rfl ?_
  refine ldPC ce.Rats rfl rfl rfl ?_
  refine OL.yes rfl ?_
  refine lnL sl.Rats rfl rfl ?_
  refine OL.yes rfl ?_
  refine faP fd.Hidden_1 rfl rfl ?_
  refine OL.yes rfl ?_
  refine ldPC ce.int rfl rfl rfl ?_
  refine OL.yes rfl ?_
  refine c_neq rfl rfl (c := false) (by first | exact decide_eq_true (by omega) | exact decide_eq_false (by omega) | exact cne_f (by omega) | exact cne_t (by omega) | rfl) ?_
  refine pkF rfl rfl ?_
  refine mvD rfl ?_
  refine OL.yes rfl ?_
  refine faP fd.Hidden_5 rfl rfl ?_
  refine OL.yes rfl ?_
  refine ldPC ce.Rats rfl rfl rfl ?_
  refine OL.yes rfl ?_
  refine lnL sl.Rats rfl rfl ?_
  refine OL.yes rfl ?_
  refine faP fd.Hidden_1 rfl rfl ?_
  refine OL.yes rfl ?_
  refine ldPC ce.int rfl rfl rfl ?_
  refine OL.yes rfl ?_
  refine c_neq rfl rfl (c := false) (by first | exact decide_eq_true (by omega) | exact decide_eq_false (by omega) | exact cne_f (by omega) | exact cne_t (by omega) | rfl) ?_
  refine pkF rfl rfl ?_
  refine OL.nil ?_
  refine AW.cond rfl (fun hno => absurd hno (by decide)) (fun _ => ?_)
  refine AW.skip ?_
  refine AW.seq ?_
  refine AW.seq ?_
  refine AW.region (by rw [hE]; rfl) ?_
  refine faP fd.Hidden_2 rfl rfl ?_
  refine ldPA ag.Rat rfl rfl (vs := [_, _, _]) rfl (Nat.le_of_ble_eq_true rfl) ?_
  refine faP fd.Hidden_2 rfl rfl ?_
  refine ldPA ag.Rat rfl rfl (vs := [_, _, _]) rfl (Nat.le_of_ble_eq_true rfl) ?_
  refine mvD rfl ?_
  refine clv rfl (.cons (VLe.refl _) (.cons (VLe.refl _) (.cons (VLe.refl _) (.nil)))) (law39_near hgr (Nat.le_trans f.zE (by decide)) (Nat.le_trans fR.zE (by decide)) nE) ?_
  refine nt rfl ?_
  refine mvD rfl ?_
  refine OL.yes rfl ?_
  refine faP fd.Hidden_3 rfl rfl ?_
  refine OL.yes rfl ?_
  refine ldPC ce.Rats rfl rfl rfl ?_
  refine OL.yes rfl ?_
  refine faP fd.Hidden_3 rfl rfl ?_
  refine OL.yes rfl ?_
  refine ldPC ce.Rats rfl rfl rfl ?_
  refine OL.yes rfl ?_
  refine mvD rfl ?_
  refine OL.yes rfl ?_
  refine clv rfl (.cons (VLe.refl _) (.cons (VLe.refl _) (.cons (VLe.refl _) (.nil)))) (law39_nearAll hgr (by omega) (sm f.zI) (sm fR.zI) nI) ?_
  refine OL.yes rfl ?_
  refine nt rfl ?_
  refine pkF rfl rfl ?_
  refine mvD rfl ?_
  refine OL.yes rfl ?_
  refine faP fd.Hidden_5 rfl rfl ?_
  refine OL.yes rfl ?_
  refine ldPC ce.Rats rfl rfl rfl ?_
  refine OL.yes rfl ?_
  refine faP fd.Hidden_5 rfl rfl ?_
  refine OL.yes rfl ?_
  refine ldPC ce.Rats rfl rfl rfl ?_
  refine OL.yes rfl ?_
  refine mvD rfl ?_
  refine OL.yes rfl ?_
  refine clv rfl (.cons (VLe.refl _) (.cons (VLe.refl _) (.cons (VLe.refl _) (.nil)))) (law39_nearAll hgr (by omega) (sm f.zS) (sm fR.zS) nS) ?_
  refine OL.yes rfl ?_
  refine nt rfl ?_
  refine pkF rfl rfl ?_
  refine OL.nil ?_
  refine AW.cond rfl (fun hno => absurd hno (by decide)) (fun _ => ?_)
  refine AW.skip ?_
  refine AW.seq ?_
  refine AW.seq ?_
  refine AW.region (by rw [hE]; rfl) ?_
  refine asD rfl ?_
  refine OL.nil ?_
  refine AW.block ?_
  refine AW.whileK (α := Nat) [(1, _), (5, _), (6, _)] [(5, _), (6, _)] (fun i => [(8, .d (dI i))]) (fun i => []) (fun i => i ≤ h.st) (fun i => h.st - i) 0 (by repeat (first | exact Knows.nil | refine Knows.cons (by first | exact knD rfl | exact knA rfl | exact knP rfl | exact knO rfl | exact knM rfl | exact knE rfl | exact knR rfl | exact knF rfl | exact knT rfl | exact knJ) ?_)) (by repeat (first | exact Owns.nil | refine Owns.cons (by first | exact owB rfl | exact owR rfl | exact owL rfl | exact owT rfl) ?_)) ⟨Nat.zero_le _, .cons (by first | exact VLe.refl _ | exact VLe.int (by omega) | exact VLe.mt | exact vle_q0 | exact VLe.osl | exact VLe.ptr) .nil, .nil⟩ ?_
  intro i h1
  have h1 : i ≤ h.st := h1
  refine AW.seq ?_
  refine AW.seq ?_
  refine AW.region (by rw [hE]; rfl) ?_
  refine mvD rfl ?_
  refine faP fd.Hidden_1 rfl rfl ?_
  refine ldPC ce.int rfl rfl rfl ?_
  refine c_lss rfl rfl rfl ?_
  refine OL.nil ?_
  refine AW.cond rfl (fun h87 => ?_) (fun h87 => ?_)
  · first | (simp only [decide_eq_true_eq, decide_eq_false_iff_not, Bool.not_eq_true', Bool.not_eq_false', Bool.not_not, Bool.and_eq_true, Bool.and_eq_false_iff, Bool.or_eq_true, Bool.or_eq_false_iff] at h87) | skip
    refine AW.skip ?_
    refine AW.seq ?_
    refine AW.block ?_
    refine AW.seq ?_
    have hi : i < h.st := by omega
    have tr := f.trow i hi
    have er := f.erow i hi
    refine AW.region_draw 1 [0, 1, 2, 3, 4, 5, 6, 7, 8, 9, 10, 11, 12, 13, 14, 15, 16, 17, 18, 19, 20, 21, 22, 23, 24, 25, 26, 27] order_free (by rw [hE]; rfl) (by kernel_rfl) (OI.of_OL (os := [_, _, _, _, _, _, _, _, _, _, _, _, _, _, _, _, _, _, _, _, _, _, _, _, _, _, _, _]) rfl ?_)
    refine faP fd.Hidden_4 rfl rfl ?_
    refine ldPC ce.Ratss rfl rfl rfl ?_
    refine mvD rfl ?_
    refine ixLn sl.Ratss [] rfl rfl (by omega) rfl rfl ?_
    refine ldRC ce.Rats rfl ?_
    refine faP fd.Hidden_4 rfl rfl ?_
    refine ldPC ce.Ratss rfl rfl rfl ?_
    refine mvD rfl ?_
    refine ixLn sl.Ratss [] rfl rfl (by omega) rfl rfl ?_
    refine ldRC ce.Rats rfl ?_
    refine mvD rfl ?_
    refine clv rfl (.cons (VLe.refl _) (.cons (VLe.refl _) (.cons (VLe.refl _) (.nil)))) (law39_nearAll hgr (by omega) (sm (f.zT i)) (sm (fR.zT i)) (nT i hi)) ?_
    refine nt rfl ?_
    refine mvD rfl ?_
    refine OL.yes rfl ?_
    refine faP fd.Hidden_6 rfl rfl ?_
    refine OL.yes rfl ?_
    refine ldPC ce.Ratss rfl rfl rfl ?_
    refine OL.yes rfl ?_
    refine mvD rfl ?_
    refine OL.yes rfl ?_
    refine ixLn sl.Ratss [] rfl rfl (by omega) rfl rfl ?_
    refine OL.yes rfl ?_
    refine ldRC ce.Rats rfl ?_
    refine OL.yes rfl ?_
    refine faP fd.Hidden_6 rfl rfl ?_
    refine OL.yes rfl ?_
    refine ldPC ce.Ratss rfl rfl rfl ?_
    refine OL.yes rfl ?_
    refine mvD rfl ?_
    refine OL.yes rfl ?_
    refine ixLn sl.Ratss [] rfl rfl (by omega) rfl rfl ?_
    refine OL.yes rfl ?_
    refine ldRC ce.Rats rfl ?_
    refine OL.yes rfl ?_
    refine mvD rfl ?_
    refine OL.yes rfl ?_
    refine clv rfl (.cons (VLe.refl _) (.cons (VLe.refl _) (.cons (VLe.refl _) (.nil)))) (law39_nearAll hgr (by omega) (sm (f.zM i)) (sm (fR.zM i)) (nM i hi)) ?_
    refine OL.yes rfl ?_
    refine nt rfl ?_
    refine pkF rfl rfl ?_
    refine OL.nil ?_
    refine AW.cond rfl (fun hno => absurd hno (by decide)) (fun _ => ?_)
    refine AW.skip ?_
    refine AW.region (by rw [hE]; rfl) ?_
    refine mvD rfl ?_
    refine add_i64 rfl rfl (by omega) ?_
    refine asD rfl ?_
    refine OL.nil ?_
    exact AW.again (x := i) (i + 1) (by first | omega | (simp only []; omega)) ⟨by omega, Knows.app (.cons (VLe.refl _) (.cons (VLe.refl _) (.cons (VLe.refl _) .nil))) (.cons (by first | exact VLe.refl _ | exact VLe.int (by omega) | exact VLe.mt | exact vle_q0 | exact VLe.osl | exact VLe.ptr) .nil), Owns.app (.cons rfl (.cons rfl .nil)) (.nil)⟩
  · first | (simp only [decide_eq_true_eq, decide_eq_false_iff_not, Bool.not_eq_true', Bool.not_eq_false', Bool.not_not, Bool.and_eq_true, Bool.and_eq_false_iff, Bool.or_eq_true, Bool.or_eq_false_iff] at h87) | skip
    refine AW.exit ?_
    refine AW.seq ?_
    refine AW.region (by rw [hE]; rfl) ?_
    refine clv rfl .nil law39_known ?_
    refine asD rfl ?_
    refine OL.nil ?_
    exact AW.ret (RetQ.r ⟨_, .tmp rfl .nil, .le (by first | exact VLe.refl _ | exact VLe.mt | exact vle_q0 | exact VLe.int (by omega) | exact VLe.bool (by simp_all))⟩)
end Go.Proofs.YtoohdcpikkkanaaGreat

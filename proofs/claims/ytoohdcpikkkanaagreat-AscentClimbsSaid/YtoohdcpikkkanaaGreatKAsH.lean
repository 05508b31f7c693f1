/-
  Walks for chapter 39, part 8: the statement on rounding (printed by mk2.py).
-/
import Derived.Test.YtoohdcpikkkanaaGreatKMod39d
import Derived.Test.YtoohdcpikkkanaaGreatKMod39b
import Derived.Test.YtoohdcpikkkanaaGreatKAsG
import Derived.Test.YtoohdcpikkkanaaGreatKMade
set_option linter.unusedVariables false
set_option linter.unusedSimpArgs false
namespace Go.AL
open Go Go.BigFrame
def coin9 : HM := ⟨2, 1, 0, [1], [[0]], [1], [[1 / 3, 2 / 3]], [false], [0]⟩
def X9 : List (List Int) := [[1], [1], [1], [2]]
theorem sz_12 : sz (1 / 2) = 1 := by decide +kernel
theorem sz_13 : sz (1 / 3) = 1 := by decide +kernel
theorem sz_23 : sz (2 / 3) = 1 := by decide +kernel
theorem coin9_good : coin9.Good 1 := by
 have s1 : Small 1 [1] := Small.one (by rw [sz_one]; decide)
 have s0 : Small 1 [0] := Small.one (by rw [sz_zero]; decide)
 have hs2 : Small 1 [1 / 3, 2 / 3] := Small.cons (by rw [sz_13]; decide) (Small.one (by rw [sz_23]; decide))
 have p1 : Shares [1] := fun q hq => by rw [List.mem_singleton.1 hq]; decide +kernel
 have p0 : Shares [0] := fun q hq => by rw [List.mem_singleton.1 hq]; decide +kernel
 have sh2 : Shares [1 / 3, 2 / 3] := fun q hq => by
  rcases List.mem_cons.1 hq with rfl | hq
  ·decide +kernel
  ·rw [List.mem_singleton.1 hq]; decide +kernel
 have i0 : ∀ i, i < coin9.st → i = 0 := fun i hi => by have : i < 1 := hi; omega
 have row : ∀ (x : List Rat) (i : Nat), i ≠ 0 → [x].getD i [] = [] := fun x i hi => getD_ge (by simp; omega)
 refine ⟨⟨by decide, by decide, by decide, by decide, rfl, rfl, fun i hi => by rw [i0 i hi]; rfl, rfl, rfl, fun i hi => by rw [i0 i hi]; rfl, rfl, rfl, fun i hi => by rw [i0 i hi]; decide, by decide, by decide, by rw [show coin9.empty = 0 from rfl, sz_zero]; decide, s1, s1, fun i => ?_, fun i => ?_⟩,
  by decide +kernel, p1, p1, fun i => ?_, fun i => ?_, by decide +kernel, fun i hi => by rw [i0 i hi]; decide +kernel, fun i hi => by rw [i0 i hi]; decide +kernel, fun i j hi hj _ => by have := i0 i hi; omega⟩
 ·by_cases hi : i = 0
  ·subst hi; exact s0
  ·show Small 1 ([[0]].getD i []); rw [row _ i hi]; exact Small.nil
 ·by_cases hi : i = 0
  ·subst hi; exact hs2
  ·show Small 1 ([[1 / 3, 2 / 3]].getD i []); rw [row _ i hi]; exact Small.nil
 ·by_cases hi : i = 0
  ·subst hi; exact p0
  ·show Shares ([[0]].getD i []); rw [row _ i hi]; intro q hq; simp at hq
 ·by_cases hi : i = 0
  ·subst hi; exact sh2
  ·show Shares ([[1 / 3, 2 / 3]].getD i []); rw [row _ i hi]; intro q hq; simp at hq
theorem coin9_data : DataOK coin9 X9 := ⟨by decide, fun w hw => by
 rcases List.mem_cons.1 hw with rfl | hw
 ·exact ⟨⟨by decide, by decide⟩, ⟨by decide, by decide⟩⟩
 ·rcases List.mem_cons.1 hw with rfl | hw
  ·exact ⟨⟨by decide, by decide⟩, ⟨by decide, by decide⟩⟩
  ·rcases List.mem_cons.1 hw with rfl | hw
   ·exact ⟨⟨by decide, by decide⟩, ⟨by decide, by decide⟩⟩
   ·rw [List.mem_singleton.1 hw]; exact ⟨⟨by decide, by decide⟩, ⟨by decide, by decide⟩⟩⟩
theorem coin9_all : AllL coin9 X9 := fun w hw => by
 rcases List.mem_cons.1 hw with rfl | hw
 ·decide +kernel
 ·rcases List.mem_cons.1 hw with rfl | hw
  ·decide +kernel
  ·rcases List.mem_cons.1 hw with rfl | hw
   ·decide +kernel
   ·rw [List.mem_singleton.1 hw]; decide +kernel
theorem coin9_re : (reHM coin9 X9).emit = [[3 / 4, 1 / 4]] := by decide +kernel
theorem coin9_round : (roundHM coin9 2).emit = [[1 / 2, 1 / 2]] := by decide +kernel
end Go.AL

set_option linter.unusedVariables false
set_option linter.unusedSimpArgs false
namespace Go.Proofs.YtoohdcpikkkanaaGreat
open Go Go.AL
theorem vd_q0B9 : VD (.ag [.d (dB false), .mt, .mt]) (dQ 0) := VD.ag vcs_q0
theorem ref33_Whole {n : Int} (hn : -9223372036854775808 ≤ n ∧ n ≤ 9223372036854775807) : FSpec P F.ref33_Whole [.d (dI n)] (vQ (n : Rat)) := by
 refine FSpec.intro fn.ref33_Whole (by rfl) (by rfl) (nb9 (by rfl)) fun E hE => (AW.sg hE rfl (al z.Rat rfl fun b2 => (OL.nil (AW.sg hE rfl (mvD rfl (clv rfl (.cons (VLe.refl _) (.cons (VLe.refl _) .nil)) (ref_Make hn (by decide) (by decide)) ?_))))))
 rw [show (n : Rat) / ((1 : Int) : Rat) = (n : Rat) by rw [show ((1 : Int) : Rat) = 1 from rfl]; grind]
 refine mvT rfl (ex rfl rfl (ex rfl rfl (al z.Rat rfl fun b3 => (sto sz.Rat rfl rfl rfl rfl rfl (nb9 rfl) (cells2 := [_,_,_]) rfl (asD rfl (OL.nil (AW.sg hE rfl ?_)))))))
 exact ldPA ag.Rat rfl rfl (vs := [_,_,_]) rfl (nb9 rfl) (sto sz.Rat rfl rfl rfl rfl rfl (nb9 rfl) (cells2 := [_,_,_]) rfl (OL.nil (AW.ret (RetQ.r ⟨_, .cellA rfl rfl ag.Rat (nb9 rfl) .nil, .ag (.cons (.le (VLe.refl _)) (.cons (.le (VLe.refl _)) (.cons (.le (VLe.refl _)) .nil)))⟩))))
theorem ref33_Whole1 : FSpec P F.ref33_Whole [.d (dI 1)] (vQ 1) := by
 have h := ref33_Whole (n := 1) (by decide)
 rw [show ((1 : Int) : Rat) = 1 from rfl] at h; exact h
theorem q12 : ((1 : Int) : Rat) / ((2 : Int) : Rat) = 1 / 2 := rfl
theorem ref_half : FSpec P F.ref01_Make [.d (dI 1), .d (dI 2)] (.tup [vQ (1 / 2), .d (dI 0)]) := by
 have h := ref_Make (n := 1) (d := 2) (by decide) (by decide) (by decide)
 rw [q12] at h; exact h
theorem law39_coinQ {x y o : Rat} (hx : FSpec P F.ref01_Make [.d (dI 1), .d (dI 3)] (.tup [vQ x, .d (dI 0)])) (hy : FSpec P F.ref01_Make [.d (dI 2), .d (dI 3)] (.tup [vQ y, .d (dI 0)])) (ho : FSpec P F.ref33_Whole [.d (dI 1)] (vQ o)) : FSpec P F.law39_coin [] (vHM ⟨2, 1, 0, [o], [[0]], [o], [[x, y]], [false], [0]⟩) := by
 refine FSpec.intro fn.law39_coin (by rfl) (by rfl) (nb9 (by rfl)) fun E hE => (AW.sg hE rfl (al z.Hidden rfl fun b0 => (OL.nil (AW.sg hE rfl (clv rfl (.cons (VLe.refl _) (.cons (VLe.refl _) (.nil))) (hx) (mvT rfl (ex rfl rfl ?_)))))))
 refine ex rfl rfl (al z.Rat rfl fun b1 => (sto sz.Rat rfl rfl rfl rfl rfl (nb9 rfl) (cells2 := [_,_,_]) rfl (asD rfl (OL.nil (AW.sg hE rfl (clv rfl (.cons (VLe.refl _) (.cons (VLe.refl _) (.nil))) (hy) (mvT rfl ?_)))))))
 refine ex rfl rfl (ex rfl rfl (al z.Rat rfl fun b3 => (sto sz.Rat rfl rfl rfl rfl rfl (nb9 rfl) (cells2 := [_,_,_]) rfl (asD rfl (OL.nil (AW.sg hE rfl (clv rfl (.cons (VLe.refl _) (.nil)) (ho) ?_)))))))
 refine al z.Rat rfl fun b5 => (sto sz.Rat rfl rfl rfl rfl rfl (nb9 rfl) (cells2 := [_,_,_]) rfl (OL.nil (AW.sg hE rfl (ldPA ag.Rat rfl rfl (vs := [_,_,_]) rfl (nb9 rfl) (lt1 (y := dQ o) sl.Rats vd_q rfl (by decide) (bd z.Rat pl.Rat (cs := [_,_,_]) rfl (lt1 (y := dQ 0) sl.Rats vd_q0B9 rfl (by decide) ?_)))))))
 refine lt1 (y := dQs [0]) sl.Ratss (VC.d _).vd rfl (by decide) (ldPA ag.Rat rfl rfl (vs := [_,_,_]) rfl (nb9 rfl) (lt1 (y := dQ o) sl.Rats vd_q rfl (by decide) (ldPA ag.Rat rfl rfl (vs := [_,_,_]) rfl (nb9 rfl) (ldPA ag.Rat rfl rfl (vs := [_,_,_]) rfl (nb9 rfl) (lt2 (y := dQ x) (y2 := dQ y) sl.Rats vd_q vd_q ⟨rfl, rfl⟩ (by decide) (lt1 (y := dQs [x, y]) sl.Ratss (VC.d _).vd rfl (by decide) (lt1 sl.bools (VC.d _).vd rfl (by decide) ?_)))))))
 refine lt1 sl.ints (VC.d _).vd rfl (by decide) ?_
 refine bd2 (cs := [_,_,_,_,_,_,_,_,_,_,_]) z.Hidden pl.Hidden (pvC (by exact evD rfl) (pvC (by exact evD rfl) (pvC (by exact evD rfl) (pvC (by exact evD rfl) (pvC (by exact evD rfl) (pvC (by exact evD rfl) (pvC (by exact evD rfl) (pvC (by exact evD rfl) (pvN))))))))) (by rfl) ?_
 refine sto sz.Hidden rfl rfl rfl rfl rfl (nb9 rfl) (cells2 := [_,_,_,_,_,_,_,_,_,_,_]) rfl (OL.nil ?_)
 exact AW.ret (RetQ.r ⟨_, .cellA rfl rfl ag.Hidden (nb9 rfl) .nil, .ag (.cons (.le (VLe.refl _)) (.cons (.le (VLe.refl _)) (.cons (.le (vle_of_eq (by show _ = V.d (dB (ofQ 0).neg); rw [ofQ_zero]))) (.cons (.le (by show VLe _ (.d (u32s (ofQ 0).num)); rw [ofQ_zero]; exact VLe.mt)) (.cons (.le (by show VLe _ (.d (u32s (ofQ 0).den)); rw [ofQ_zero]; exact VLe.mt)) (.cons (.le (VLe.refl _)) (.cons (.le (VLe.refl _)) (.cons (.le (VLe.refl _)) (.cons (.le (VLe.refl _)) (.cons (.le (VLe.refl _)) (.cons (.le (VLe.refl _)) .nil)))))))))))⟩)
theorem q13 : ((1 : Int) : Rat) / ((3 : Int) : Rat) = 1 / 3 := rfl
theorem q23 : ((2 : Int) : Rat) / ((3 : Int) : Rat) = 2 / 3 := rfl
theorem q34 : ((3 : Int) : Rat) / ((4 : Int) : Rat) = 3 / 4 := rfl
theorem law39_coin : FSpec P F.law39_coin [] (vHM coin9) := by
 have h1 := ref_Make (n := 1) (d := 3) (by decide) (by decide) (by decide)
 rw [q13] at h1
 have h2 := ref_Make (n := 2) (d := 3) (by decide) (by decide) (by decide)
 rw [q23] at h2
 exact law39_coinQ h1 h2 ref33_Whole1
theorem law39_knownQ {h R S : HM} {p p2 q q2 : Rat} (hc : FSpec P F.law39_coin [] (vHM h)) (hre : FSpec P F.ascent_Reestimate [vHM h, .d (dIss [[1], [1], [1], [2]])] (.tup [vHM R, .d (dI 0)])) (hR : R.emit = [[p, p2]]) (hro : FSpec P F.ascent_Round [vHM h, .d (dI 2)] (.tup [vHM S, .d (dI 0)])) (hS : S.emit = [[q, q2]]) (h34 : FSpec P F.ref01_Make [.d (dI 3), .d (dI 4)] (.tup [vQ p, .d (dI 0)])) (h12 : FSpec P F.ref01_Make [.d (dI 1), .d (dI 2)] (.tup [vQ q, .d (dI 0)])) (zp : sz p ≤ 68719476736) (zq : sz q ≤ 68719476736) : FSpec P F.law39_known [] (.d (dB true)) := by
 obtain ⟨_, _, _, _, _, _, Re, _, _⟩ := R
 obtain rfl : Re = [[p, p2]] := hR
 obtain ⟨_, _, _, _, _, _, Se, _, _⟩ := S
 obtain rfl : Se = [[q, q2]] := hS
 refine FSpec.intro fn.law39_known (by rfl) (by rfl) (nb9 (by rfl)) fun E hE => ?_
 refine AW.sg hE rfl ?_
 refine asD rfl ?_
 refine OL.nil ?_
 refine AW.sg hE rfl ?_
 refine clv rfl .nil hc ?_
 refine lt1 sl.ints (VC.d _).vd rfl (by decide) ?_
 refine lt1 sl.ints (VC.d _).vd rfl (by decide) (lt1 sl.ints (VC.d _).vd rfl (by decide) (lt1 sl.ints (VC.d _).vd rfl (by decide) (ltN (ys := [ints [1], ints [1], ints [1], ints [2]]) sl.intss rfl (pdC (VC.d _).vd (pdC (VC.d _).vd (pdC (VC.d _).vd (pdC (VC.d _).vd pdN)))) rfl (by decide) (by decide) (by simp [D.cells]) (clv rfl (.cons (VLe.refl _) (.cons (VLe.refl _) (.nil))) (hre) (mvT rfl (ex rfl rfl (ex rfl rfl ?_)))))))
 refine al z.Hidden rfl fun b1 => (sto sz.Hidden rfl rfl rfl rfl rfl (nb9 rfl) (cells2 := [_,_,_,_,_,_,_,_,_,_,_]) rfl (asD rfl (OL.nil (AW.sg hE rfl (clv rfl (.cons (VLe.refl _) (.cons (VLe.refl _) (.nil))) (h34) (mvT rfl (ex rfl rfl ?_)))))))
 refine ex rfl rfl (al z.Rat rfl fun b3 => (sto sz.Rat rfl rfl rfl rfl rfl (nb9 rfl) (cells2 := [_,_,_]) rfl (asD rfl (OL.nil (AW.sg hE rfl (clv rfl .nil hc (clv rfl (.cons (VLe.refl _) (.cons (VLe.refl _) (.nil))) (hro) ?_)))))))
 refine mvT rfl (ex rfl rfl (ex rfl rfl (al z.Hidden rfl fun b5 => (sto sz.Hidden rfl rfl rfl rfl rfl (nb9 rfl) (cells2 := [_,_,_,_,_,_,_,_,_,_,_]) rfl (asD rfl (OL.nil (AW.sg hE rfl ?_)))))))
 refine clv rfl (.cons (VLe.refl _) (.cons (VLe.refl _) (.nil))) (h12) (mvT rfl (ex rfl rfl (ex rfl rfl (al z.Rat rfl fun b7 => (sto sz.Rat rfl rfl rfl rfl rfl (nb9 rfl) (cells2 := [_,_,_]) rfl (asD rfl (OL.nil ?_)))))))
 refine AW.seq ?_
 refine AW.dg 1 [0,1,2,3,4,5,6,7,8,9,10,11,12,13,14,15,16,17,18,19,20,21,22,23,24,25,26,27,28,29,30,31,32,33,34,35,36,37,38,39,40,41,42] order_free hE rfl (by kernel_rfl) (OI.of_OL (os := [_,_,_,_,_,_,_,_,_,_,_,_,_,_,_,_,_,_,_,_,_,_,_,_,_,_,_,_,_,_,_,_,_,_,_,_,_,_,_,_,_,_,_]) rfl ?_)
 refine mvD rfl (c_eql rfl rfl (c := true) (by exact decide_eq_true (by omega)) (mvD rfl (OL.yes rfl (mvD rfl (OL.yes rfl (c_eql rfl rfl (c := true) (by exact decide_eq_true (by omega)) (pkT rfl rfl ?_)))))))
 refine mvD rfl (OL.yes rfl (faP fd.Hidden_6 rfl rfl (OL.yes rfl (ldPC ce.Ratss rfl rfl rfl (OL.yes rfl (lnL sl.Ratss rfl rfl (OL.yes rfl ?_)))))))
 refine c_eql rfl rfl (c := true) (by rfl) (pkT rfl rfl (mvD rfl (OL.yes rfl (faP fd.Hidden_6 rfl rfl (OL.yes rfl (ldPC ce.Ratss rfl rfl rfl (OL.yes rfl ?_)))))))
 refine ixLe 0 sl.Ratss [] rfl rfl (by decide) (Nat.le_refl 1) rfl rfl (OL.yes rfl (ldRC ce.Rats rfl (OL.yes rfl (lnL sl.Rats rfl rfl (OL.yes rfl (c_eql rfl rfl (c := true) (by rfl) (pkT rfl rfl ?_)))))))
 refine mvD rfl (OL.yes rfl (faP fd.Hidden_6 rfl rfl (OL.yes rfl (ldPC ce.Ratss rfl rfl rfl (OL.yes rfl (ixLe 0 sl.Ratss [] rfl rfl (by decide) (Nat.le_refl 1) rfl rfl (OL.yes rfl ?_)))))))
 refine ldRC ce.Rats rfl (OL.yes rfl (ixLe 0 sl.Rats 0 rfl rfl (by decide) (Nat.le_succ 1) rfl rfl (OL.yes rfl (ldRA ag.Rat rfl (vs := [_,_,_]) rfl (nb9 rfl) (OL.yes rfl (ldPA ag.Rat rfl rfl (vs := [_,_,_]) rfl (nb9 rfl) (OL.yes rfl ?_)))))))
 refine clv rfl (.cons (VLe.refl _) (.cons (VLe.refl _) (.nil))) (ref_CompareQ (x := p) (y := p) (by omega) (by omega)) ?_
 rw [show cmpQ (p) (p) = 0 from cmpQ_eq.2 rfl]
 refine OL.yes rfl (c_eql rfl rfl (c := true) (by exact decide_eq_true (by omega)) (pkT rfl rfl (mvD rfl (OL.yes rfl (faP fd.Hidden_6 rfl rfl (OL.yes rfl (ldPC ce.Ratss rfl rfl rfl ?_)))))))
 refine OL.yes rfl (ixLe 0 sl.Ratss [] rfl rfl (by decide) (Nat.le_refl 1) rfl rfl (OL.yes rfl (ldRC ce.Rats rfl (OL.yes rfl (ixLe 0 sl.Rats 0 rfl rfl (by decide) (Nat.le_succ 1) rfl rfl (OL.yes rfl (ldRA ag.Rat rfl (vs := [_,_,_]) rfl (nb9 rfl) ?_)))))))
 refine OL.yes rfl (ldPA ag.Rat rfl rfl (vs := [_,_,_]) rfl (nb9 rfl) (OL.yes rfl (clv rfl (.cons (VLe.refl _) (.cons (VLe.refl _) (.nil))) (ref_CompareQ (x := q) (y := q) (by omega) (by omega)) ?_)))
 rw [show cmpQ (q) (q) = 0 from cmpQ_eq.2 rfl]
 exact OL.yes rfl (c_eql rfl rfl (c := true) (by exact decide_eq_true (by omega)) (pkT rfl rfl (asD rfl (OL.nil (AW.ret (RetQ.r ⟨_, .tmp rfl .nil, .le (VLe.refl _)⟩))))))
theorem law39_known : FSpec P F.law39_known [] (.d (dB true)) := by
 have h34 := ref_Make (n := 3) (d := 4) (by decide) (by decide) (by decide)
 rw [q34] at h34
 have z34 : sz (3 / 4) ≤ 1 := by rw [← q34]; exact div_sz (by decide) (by decide) (by decide)
 exact law39_knownQ law39_coin (ascent_Reestimate coin9_good coin9_data coin9_all (by decide)) coin9_re (ascent_Round (g := 2) coin9_good (by decide) (by decide) (by decide)) coin9_round h34 ref_half (Nat.le_trans z34 (by decide)) (by rw [sz_12]; decide)
end Go.Proofs.YtoohdcpikkkanaaGreat

/-
  Walks of the specification of drawings, for any model (printed by mk2.py).
-/
import Derived.Test.YtjghehkgmanmbaaGreatKSaB
set_option linter.unusedVariables false
set_option linter.unusedSimpArgs false
namespace Go.Proofs.YtjghehkgmanmbaaGreat
open Go Go.AL
theorem ref_Mul {x y : Raw} (hx : x.Ok) (hy : y.Ok) : FSpec P F.ref01_Mul [vRaw x, vRaw y] (vQ (x.q * y.q)) := by
 have a1 := q_sz hx hx.ln hx.ld (by decide)
 have a2 := q_sz hy hy.ln hy.ld (by decide)
 have sn1 := sz_num x.q
 have sn2 := sz_num y.q
 have sd1 := sz_den x.q
 have sd2 := sz_den y.q
 have sdd := len_mul x.q.den y.q.den
 have dd0 := Nat.mul_ne_zero x.q.den_nz y.q.den_nz
 have snn := len_mul x.q.num.natAbs y.q.num.natAbs
 have hp := fr_mul (s := decide (x.q.num < 0)) (t := decide (y.q.num < 0)) (a := x.q.num.natAbs) (b := y.q.num.natAbs) (d1 := x.q.den) (d2 := y.q.den)
 rw [fr_ofQ, fr_ofQ] at hp
 refine FSpec.intro fn.ref01_Mul (by rfl) (by rfl) (nb9 (by rfl)) fun E hE => ?_
 refine AW.sg hE rfl ?_
 first | refine bxA rfl rfl fun b2 => ?_ | refine bxD rfl rfl fun b2 => ?_
 first | refine bxA rfl rfl fun b3 => ?_ | refine bxD rfl rfl fun b3 => ?_
 refine al z.Rat rfl fun b4 => ?_
 refine OL.nil ?_
 refine AW.seq ?_
 refine AW.dg 1 [0,1,2,3,4,5] order_free hE rfl (by kernel_rfl) (OI.of_OL (os := [_,_,_,_,_,_]) rfl ?_)
 first | refine ldPA ag.Rat rfl rfl (vs := [_,_,_]) rfl (nb9 rfl) ?_ | refine ldRA ag.Rat rfl (vs := [_,_,_]) rfl (nb9 rfl) ?_
 refine clv rfl (.cons (by first | exact VLe.refl _ | exact VLe.mt | exact vle_q0 | exact VLe.ptr) .nil) (ref_Take (by assumption)) ?_
 first | refine ldPA ag.Rat rfl rfl (vs := [_,_,_]) rfl (nb9 rfl) ?_ | refine ldRA ag.Rat rfl (vs := [_,_,_]) rfl (nb9 rfl) ?_
 refine clv rfl (.cons (by first | exact VLe.refl _ | exact VLe.mt | exact vle_q0 | exact VLe.ptr) .nil) (ref_Take (by assumption)) ?_
 first | refine sto sz.Rat rfl rfl rfl rfl rfl (nb9 rfl) (cells2 := [_,_,_]) rfl ?_ | refine stE sz.Rat rfl (VC.d _).vd rfl rfl (by omega) rfl ?_
 first | refine sto sz.Rat rfl rfl rfl rfl rfl (nb9 rfl) (cells2 := [_,_,_]) rfl ?_ | refine stE sz.Rat rfl (VC.d _).vd rfl rfl (by omega) rfl ?_
 refine OL.nil ?_
 refine AW.seq ?_
 refine AW.dg 1 [0,1,2,3,4,5,6,7,8,9,10,11,12,13,14,15,16] order_free hE rfl (by kernel_rfl) (OI.of_OL (os := [_,_,_,_,_,_,_,_,_,_,_,_,_,_,_,_,_]) rfl ?_)
 first | refine faP fd.Rat_0 rfl rfl ?_ | refine faR fd.Rat_0 rfl rfl ?_ | refine faE fd.Rat_0 rfl rfl ?_
 first | refine ldRC ce.bool rfl ?_ | refine ldPC ce.bool rfl rfl rfl ?_
 first | refine faP fd.Rat_0 rfl rfl ?_ | refine faR fd.Rat_0 rfl rfl ?_ | refine faE fd.Rat_0 rfl rfl ?_
 first | refine ldRC ce.bool rfl ?_ | refine ldPC ce.bool rfl rfl rfl ?_
 refine neb bt.bool rfl rfl ?_
 first | refine faP fd.Rat_1 rfl rfl ?_ | refine faR fd.Rat_1 rfl rfl ?_ | refine faE fd.Rat_1 rfl rfl ?_
 first | refine ldRC ce.u32s rfl ?_ | refine ldPC ce.u32s rfl rfl rfl ?_
 first | refine faP fd.Rat_1 rfl rfl ?_ | refine faR fd.Rat_1 rfl rfl ?_ | refine faE fd.Rat_1 rfl rfl ?_
 first | refine ldRC ce.u32s rfl ?_ | refine ldPC ce.u32s rfl rfl rfl ?_
 refine clv rfl (.cons (VLe.refl _) (.cons (VLe.refl _) .nil)) (ref_timesN (a := x.q.num.natAbs) (b := y.q.num.natAbs) (by omega) (by omega)) ?_
 first | refine ldPA ag.Rat rfl rfl (vs := [_,_,_]) rfl (nb9 rfl) ?_ | refine ldRA ag.Rat rfl (vs := [_,_,_]) rfl (nb9 rfl) ?_
 refine clv rfl (.cons (by first | exact VLe.refl _ | exact VLe.mt | exact vle_q0 | exact VLe.ptr) .nil) (ref_den) ?_
 first | refine ldPA ag.Rat rfl rfl (vs := [_,_,_]) rfl (nb9 rfl) ?_ | refine ldRA ag.Rat rfl (vs := [_,_,_]) rfl (nb9 rfl) ?_
 refine clv rfl (.cons (by first | exact VLe.refl _ | exact VLe.mt | exact vle_q0 | exact VLe.ptr) .nil) (ref_den) ?_
 refine clv rfl (.cons (VLe.refl _) (.cons (VLe.refl _) .nil)) (ref_timesN (a := x.q.den) (b := y.q.den) (by omega) (by omega)) ?_
 refine clv rfl (.cons (VLe.refl _) (.cons (VLe.refl _) (.cons (VLe.refl _) .nil))) (ref_over (s := (decide (x.q.num < 0) != decide (y.q.num < 0))) (by omega) (by omega) dd0) ?_
 rw [← hp]
 first | refine sto sz.Rat rfl rfl rfl rfl rfl (nb9 rfl) (cells2 := [_,_,_]) rfl ?_ | refine stE sz.Rat rfl (VC.d _).vd rfl rfl (by omega) rfl ?_
 refine OL.nil ?_
 exact AW.ret (RetQ.r ⟨_, .cellA rfl rfl ag.Rat (nb9 rfl) .nil, .ag (.cons (.le (by first | exact VLe.refl _ | exact VLe.mt | exact vle_q0 | exact VLe.int (by omega) | exact VLe.bool (by simp_all))) (.cons (.le (by first | exact VLe.refl _ | exact VLe.mt | exact vle_q0 | exact VLe.int (by omega) | exact VLe.bool (by simp_all))) (.cons (.le (by first | exact VLe.refl _ | exact VLe.mt | exact vle_q0 | exact VLe.int (by omega) | exact VLe.bool (by simp_all))) .nil)))⟩)
theorem ref_MulQ {x y : Rat} (hx : sz x ≤ 68719476736) (hy : sz y ≤ 68719476736) : FSpec P F.ref01_Mul [vQ x, vQ y] (vQ (x * y)) := by
 have h := ref_Mul (x := ofQ x) (y := ofQ y) (ofQ_ok (by omega)) (ofQ_ok (by omega))
 rw [q_ofQ, q_ofQ] at h; exact h
end Go.Proofs.YtjghehkgmanmbaaGreat

/-
  Walks of package semiring, over the rational numbers, part 2 (printed by mk2.py).
-/
import Derived.Test.YtippcclgnabpdaaGreatDoorKWkA
set_option linter.unusedVariables false
set_option linter.unusedSimpArgs false
namespace Go.Proofs.YtippcclgnabpdaaGreatDoor
open Go Go.AL
abbrev vAlg : V := .ag [.fn F.semiring_rationals_1 [], .fn F.semiring_rationals_2 [], .fn F.semiring_rationals_3 [], .fn F.semiring_rationals_4 [], .fn F.semiring_rationals_5 [], .fn F.semiring_quotient [], .fn F.semiring_never [], .fn F.semiring_rationals_6 [], .fn F.semiring_readNumber []]
theorem rationals  : FSpec P F.semiring_rationals [] (vAlg) := by
 refine FSpec.intro fn.semiring_rationals (by rfl) (by rfl) (nb9 (by rfl)) fun E hE => (AW.sg hE rfl (al z.algebra rfl fun b0 => (OL.nil (AW.sg hE rfl ?_))))
 refine bd2 (cs := [_,_,_,_,_,_,_,_,_]) z.algebra pl.algebra (pvC (by exact evF rfl) (pvC (by exact evF rfl) (pvC (by exact evF rfl) (pvC (by exact evF rfl) (pvC (by exact evF rfl) (pvC (by exact evF rfl) (pvC (by exact evF rfl) (pvC (by exact evF rfl) (pvC (by exact evF rfl) (pvN)))))))))) (by rfl) ?_
 refine sto sz.algebra rfl rfl rfl rfl rfl (nb9 rfl) (cells2 := [_,_,_,_,_,_,_,_,_]) rfl (OL.nil ?_)
 exact AW.ret (RetQ.r ⟨_, .cellA rfl rfl ag.algebra (nb9 rfl) .nil, .ag (.cons (.le (VLe.refl _)) (.cons (.le (VLe.refl _)) (.cons (.le (VLe.refl _)) (.cons (.le (VLe.refl _)) (.cons (.le (VLe.refl _)) (.cons (.le (VLe.refl _)) (.cons (.le (VLe.refl _)) (.cons (.le (VLe.refl _)) (.cons (.le (VLe.refl _)) .nil)))))))))⟩)
theorem kindR  : FSpec P F.semiring_kind [.d (dI 1)] (vAlg) := by
 refine FSpec.intro fn.semiring_kind (by rfl) (by rfl) (nb9 (by rfl)) fun E hE => (AW.sg hE rfl (al z.algebra rfl fun b2 => (OL.nil (AW.seq (AW.sg hE rfl (mvD rfl (OL.nil ?_)))))))
 refine AW.block (AW.sg hE rfl (c_eql rfl rfl (c := true) (by exact decide_eq_true (by omega)) (asD rfl (OL.nil (AW.cond rfl (fun _ => ?_) (fun hno => absurd hno (by decide)))))))
 refine AW.sg hE rfl (clv rfl (.nil) (rationals) (sto sz.algebra rfl rfl rfl rfl rfl (nb9 rfl) (cells2 := [_,_,_,_,_,_,_,_,_]) rfl (OL.nil ?_)))
 exact AW.ret (RetQ.r ⟨_, .cellA rfl rfl ag.algebra (nb9 rfl) .nil, .ag (.cons (.le (VLe.refl _)) (.cons (.le (VLe.refl _)) (.cons (.le (VLe.refl _)) (.cons (.le (VLe.refl _)) (.cons (.le (VLe.refl _)) (.cons (.le (VLe.refl _)) (.cons (.le (VLe.refl _)) (.cons (.le (VLe.refl _)) (.cons (.le (VLe.refl _)) .nil)))))))))⟩)
theorem single1  : FSpec P F.semiring_single [.d (dI 1)] (.d (dB true)) := by
 refine FSpec.intro fn.semiring_single (by rfl) (by rfl) (nb9 (by rfl)) fun E hE => (AW.sg hE rfl (asD rfl (OL.nil (AW.sg hE rfl (mvD rfl (c_geq rfl rfl (c := true) (by exact decide_eq_true (by omega)) (mvD rfl ?_)))))))
 exact OL.yes rfl (mvD rfl (OL.yes rfl (c_leq rfl rfl (c := true) (by exact decide_eq_true (by omega)) (pkT rfl rfl (asD rfl (OL.nil (AW.ret (RetQ.r ⟨_, .tmp rfl .nil, .le (VLe.refl _)⟩))))))))
theorem validR  : FSpec P F.semiring_Valid [vRing] (.d (dB true)) := by
 refine FSpec.intro fn.semiring_Valid (by rfl) (by rfl) (nb9 (by rfl)) fun E hE => (AW.sg hE rfl (bxA rfl rfl fun b1 => (asD rfl (OL.nil (AW.seq (AW.sg hE rfl (faP fd.Ring_0 rfl rfl ?_)))))))
 refine ldPC ce.int rfl rfl rfl (c_neq rfl rfl (c := true) (by exact cne_t (by omega)) (OL.nil (AW.cond rfl (fun _ => ?_) (fun hno => absurd hno (by decide)))))
 refine AW.sg hE rfl (faP fd.Ring_0 rfl rfl (ldPC ce.int rfl rfl rfl (clv rfl .rq1 (single1) (mvD rfl (OL.yes rfl (faP fd.Ring_1 rfl rfl (OL.yes rfl ?_)))))))
 refine ldPC ce.ints rfl rfl rfl (OL.yes rfl (lnD sl.ints rfl rfl rfl (OL.yes rfl (c_eql rfl rfl (c := true) (decide_eq_true rfl) (pkT rfl rfl (asD rfl (OL.nil ?_)))))))
 exact AW.ret (RetQ.r ⟨_, .tmp rfl .nil, .le (VLe.refl _)⟩)
theorem checkQ {q : Rat} (hz : sz q ≤ 68719476736) : FSpec P F.semiring_rationals_1 [vW q] (.d (dB true)) := by
 refine FSpec.intro fn.semiring_rationals_1 (by rfl) (by rfl) (nb9 (by rfl)) fun E hE => (AW.sg hE rfl (bxA rfl rfl fun b1 => (asD rfl (OL.nil (AW.sg hE rfl (faP fd.Weight_0 rfl rfl (ldPA ag.Rat rfl rfl (vs := [_,_,_]) rfl (nb9 rfl) ?_)))))))
 refine clv rfl .rq1 (rational_ValidQ (by omega)) (mvD rfl (OL.yes rfl (ldPA ag.Weight rfl rfl (vs := [_,_,_,_,_,_,_,_]) rfl (nb9 rfl) (OL.yes rfl (faP fd.Weight_0 rfl rfl (OL.yes rfl (ldPA ag.Rat rfl rfl (vs := [_,_,_]) rfl (nb9 rfl) ?_)))))))
 exact OL.yes rfl (bd z.Weight pl.Weight (cs := [_,_,_,_,_,_,_,_]) rfl (OL.yes rfl (clv rfl (.cons (VLe.refl _) (.cons (vle_wq) .nil)) (equalW hz hz) (pkT rfl rfl (asD rfl (OL.nil (AW.ret (RetQ.r ⟨_, .tmp rfl .nil, .le (VLe.bool (decide_eq_true rfl))⟩))))))))
theorem zeroQ  : FSpec P F.semiring_rationals_2 [] (vW 0) := by
 refine FSpec.intro fn.semiring_rationals_2 (by rfl) (by rfl) (nb9 (by rfl)) fun E hE => (AW.sg hE rfl (al z.Weight rfl fun b0 => (OL.nil (AW.sg hE rfl (bd z.Weight pl.Weight (cs := [_,_,_,_,_,_,_,_]) rfl (sto sz.Weight rfl rfl rfl rfl rfl (nb9 rfl) (cells2 := [_,_,_,_,_,_,_,_]) rfl (OL.nil ?_)))))))
 exact AW.ret (RetQ.r ⟨_, .cellA rfl rfl ag.Weight (nb9 rfl) .nil, .le vle_w0⟩)
theorem plusQ {p q : Rat} (hp : sz p ≤ 68719476736) (hq : sz q ≤ 68719476736) : FSpec P F.semiring_rationals_4 [vW p, vW q] (vW (p + q)) := by
 refine FSpec.intro fn.semiring_rationals_4 (by rfl) (by rfl) (nb9 (by rfl)) fun E hE => (AW.sg hE rfl (bxA rfl rfl fun b2 => (bxA rfl rfl fun b3 => (al z.Weight rfl fun b4 => (OL.nil (AW.sg hE rfl (faP fd.Weight_0 rfl rfl ?_)))))))
 exact ldPA ag.Rat rfl rfl (vs := [_,_,_]) rfl (nb9 rfl) (faP fd.Weight_0 rfl rfl (ldPA ag.Rat rfl rfl (vs := [_,_,_]) rfl (nb9 rfl) (clv rfl .rq2 (rational_AddQ (by assumption) (by assumption)) (bd z.Weight pl.Weight (cs := [_,_,_,_,_,_,_,_]) rfl (sto sz.Weight rfl rfl rfl rfl rfl (nb9 rfl) (cells2 := [_,_,_,_,_,_,_,_]) rfl (OL.nil (AW.ret (RetQ.r ⟨_, .cellA rfl rfl ag.Weight (nb9 rfl) .nil, .le vle_wq⟩))))))))
theorem timesQ {p q : Rat} (hp : sz p ≤ 68719476736) (hq : sz q ≤ 68719476736) : FSpec P F.semiring_rationals_5 [vW p, vW q] (vW (p * q)) := by
 refine FSpec.intro fn.semiring_rationals_5 (by rfl) (by rfl) (nb9 (by rfl)) fun E hE => (AW.sg hE rfl (bxA rfl rfl fun b2 => (bxA rfl rfl fun b3 => (al z.Weight rfl fun b4 => (OL.nil (AW.sg hE rfl (faP fd.Weight_0 rfl rfl ?_)))))))
 exact ldPA ag.Rat rfl rfl (vs := [_,_,_]) rfl (nb9 rfl) (faP fd.Weight_0 rfl rfl (ldPA ag.Rat rfl rfl (vs := [_,_,_]) rfl (nb9 rfl) (clv rfl .rq2 (rational_MulQ (by assumption) (by assumption)) (bd z.Weight pl.Weight (cs := [_,_,_,_,_,_,_,_]) rfl (sto sz.Weight rfl rfl rfl rfl rfl (nb9 rfl) (cells2 := [_,_,_,_,_,_,_,_]) rfl (OL.nil (AW.ret (RetQ.r ⟨_, .cellA rfl rfl ag.Weight (nb9 rfl) .nil, .le vle_wq⟩))))))))
theorem checkR {q : Rat} (hz : sz q ≤ 68719476736) : FSpec P F.semiring_Check [vRing, vW q] (.d (dB true)) := by
 refine FSpec.intro fn.semiring_Check (by rfl) (by rfl) (nb9 (by rfl)) fun E hE => (AW.sg hE rfl (bxA rfl rfl fun b2 => (bxA rfl rfl fun b3 => (asD rfl (OL.nil (AW.seq (AW.sg hE rfl ?_)))))))
 refine ldPA ag.Ring rfl rfl (vs := [_,_]) rfl (nb9 rfl) (clv rfl .rq1 (validR) (nt rfl (OL.nil (AW.cond rfl (fun hno => absurd hno (by decide)) (fun _ => ?_)))))
 refine AW.skip (AW.seq (AW.sg hE rfl (faP fd.Ring_0 rfl rfl (ldPC ce.int rfl rfl rfl (c_neq rfl rfl (c := true) (by exact cne_t (by omega)) (OL.nil (AW.cond rfl (fun _ => ?_) (fun hno => absurd hno (by decide)))))))))
 refine AW.seq (AW.dg 1 [0,1,2,3,4,5,6] order_free hE rfl (by kernel_rfl) (OI.of_OL (os := [_,_,_,_,_,_,_]) rfl ?_))
 refine faP fd.Ring_0 rfl rfl (ldPC ce.int rfl rfl rfl (clv rfl .rq1 (kindR) (fdC fc.algebra_0 rfl rfl (ldPA ag.Weight rfl rfl (vs := [_,_,_,_,_,_,_,_]) rfl (nb9 rfl) (clv rfl (.cons (VLe.refl _) (.nil)) (checkQ hz) (asD rfl (OL.nil ?_)))))))
 exact AW.ret (RetQ.r ⟨_, .tmp rfl .nil, .le (VLe.refl _)⟩)
theorem ZeroR  : FSpec P F.semiring_Zero [vRing] (vW 0) := by
 refine FSpec.intro fn.semiring_Zero (by rfl) (by rfl) (nb9 (by rfl)) fun E hE => (AW.sg hE rfl (bxA rfl rfl fun b1 => (al z.Weight rfl fun b2 => (OL.nil (AW.seq (AW.block (AW.sg hE rfl ?_)))))))
 refine ldPA ag.Ring rfl rfl (vs := [_,_]) rfl (nb9 rfl) (clv rfl .rq1 (validR) (nt rfl (asD rfl (OL.nil (AW.cond rfl (fun hno => absurd hno (by decide)) (fun _ => ?_))))))
 refine AW.sg hE rfl (faP fd.Ring_0 rfl rfl (ldPC ce.int rfl rfl rfl (c_neq rfl rfl (c := true) (by exact cne_t (by omega)) (asD rfl (OL.nil (AW.cond rfl (fun _ => ?_) (fun hno => absurd hno (by decide))))))))
 refine AW.sg hE rfl (faP fd.Ring_0 rfl rfl (ldPC ce.int rfl rfl rfl (clv rfl .rq1 (kindR) (fdC fc.algebra_1 rfl rfl (clv rfl (.nil) (zeroQ) (sto sz.Weight rfl rfl rfl rfl rfl (nb9 rfl) (cells2 := [_,_,_,_,_,_,_,_]) rfl (OL.nil ?_)))))))
 exact AW.ret (RetQ.r ⟨_, .cellA rfl rfl ag.Weight (nb9 rfl) .nil, .ag (.cons (.le (VLe.refl _)) (.cons (.le (VLe.refl _)) (.cons (.le (VLe.refl _)) (.cons (.le (VLe.refl _)) (.cons (.le (VLe.refl _)) (.cons (.le (VLe.refl _)) (.cons (.le (VLe.refl _)) (.cons (.le (VLe.refl _)) .nil))))))))⟩)
theorem valueR {q : Rat} (hz : sz q ≤ 68719476736) : FSpec P F.semiring_value [vRing, vW q] (vW q) := by
 refine FSpec.intro fn.semiring_value (by rfl) (by rfl) (nb9 (by rfl)) fun E hE => (AW.sg hE rfl (bxA rfl rfl fun b2 => (bxA rfl rfl fun b3 => (al z.Weight rfl fun b4 => (OL.nil (AW.seq (AW.sg hE rfl ?_)))))))
 refine ldPA ag.Ring rfl rfl (vs := [_,_]) rfl (nb9 rfl) (ldPA ag.Weight rfl rfl (vs := [_,_,_,_,_,_,_,_]) rfl (nb9 rfl) (clv rfl .rq2 (checkR hz) (OL.nil (AW.cond rfl (fun _ => ?_) (fun hno => absurd hno (by decide))))))
 refine AW.sg hE rfl (ldPA ag.Weight rfl rfl (vs := [_,_,_,_,_,_,_,_]) rfl (nb9 rfl) (sto sz.Weight rfl rfl rfl rfl rfl (nb9 rfl) (cells2 := [_,_,_,_,_,_,_,_]) rfl (OL.nil ?_)))
 exact AW.ret (RetQ.r ⟨_, .cellA rfl rfl ag.Weight (nb9 rfl) .nil, .ag (.cons (.le (VLe.refl _)) (.cons (.le (VLe.refl _)) (.cons (.le (VLe.refl _)) (.cons (.le (VLe.refl _)) (.cons (.le (VLe.refl _)) (.cons (.le (VLe.refl _)) (.cons (.le (VLe.refl _)) (.cons (.le (VLe.refl _)) .nil))))))))⟩)
theorem PlusR {p q : Rat} (hp : sz p ≤ 68719476736) (hq : sz q ≤ 68719476736) : FSpec P F.semiring_Plus [vRing, vW p, vW q] (vW (p + q)) := by
 refine FSpec.intro fn.semiring_Plus (by rfl) (by rfl) (nb9 (by rfl)) fun E hE => (AW.sg hE rfl (bxA rfl rfl fun b3 => (bxA rfl rfl fun b4 => (bxA rfl rfl fun b5 => (al z.Weight rfl fun b6 => (OL.nil (AW.seq ?_)))))))
 refine AW.sg hE rfl (ldPA ag.Ring rfl rfl (vs := [_,_]) rfl (nb9 rfl) (clv rfl .rq1 (validR) (nt rfl (OL.nil (AW.cond rfl (fun hno => absurd hno (by decide)) (fun _ => ?_))))))
 refine AW.skip (AW.seq (AW.dg 1 [0,1,2,3,4,5,6,7] order_free hE rfl (by kernel_rfl) (OI.of_OL (os := [_,_,_,_,_,_,_,_]) rfl ?_)))
 refine ldPA ag.Ring rfl rfl (vs := [_,_]) rfl (nb9 rfl) (ldPA ag.Weight rfl rfl (vs := [_,_,_,_,_,_,_,_]) rfl (nb9 rfl) (clv rfl .rq2 (valueR (by assumption)) (ldPA ag.Ring rfl rfl (vs := [_,_]) rfl (nb9 rfl) (ldPA ag.Weight rfl rfl (vs := [_,_,_,_,_,_,_,_]) rfl (nb9 rfl) (clv rfl .rq2 (valueR (by assumption)) (sto sz.Weight rfl rfl rfl rfl rfl (nb9 rfl) (cells2 := [_,_,_,_,_,_,_,_]) rfl (sto sz.Weight rfl rfl rfl rfl rfl (nb9 rfl) (cells2 := [_,_,_,_,_,_,_,_]) rfl ?_)))))))
 refine OL.nil (AW.seq (AW.sg hE rfl (faP fd.Ring_0 rfl rfl (ldPC ce.int rfl rfl rfl (c_neq rfl rfl (c := true) (by exact cne_t (by omega)) (OL.nil (AW.cond rfl (fun _ => ?_) (fun hno => absurd hno (by decide)))))))))
 refine AW.seq (AW.dg 1 [0,1,2,3,4,5,6,7] order_free hE rfl (by kernel_rfl) (OI.of_OL (os := [_,_,_,_,_,_,_,_]) rfl ?_))
 refine faP fd.Ring_0 rfl rfl (ldPC ce.int rfl rfl rfl (clv rfl .rq1 (kindR) (fdC fc.algebra_3 rfl rfl (ldPA ag.Weight rfl rfl (vs := [_,_,_,_,_,_,_,_]) rfl (nb9 rfl) (ldPA ag.Weight rfl rfl (vs := [_,_,_,_,_,_,_,_]) rfl (nb9 rfl) (clv rfl (.cons (VLe.refl _) (.cons (VLe.refl _) (.nil))) (plusQ hp hq) (sto sz.Weight rfl rfl rfl rfl rfl (nb9 rfl) (cells2 := [_,_,_,_,_,_,_,_]) rfl ?_)))))))
 refine OL.nil ?_
 exact AW.ret (RetQ.r ⟨_, .cellA rfl rfl ag.Weight (nb9 rfl) .nil, .ag (.cons (.le (VLe.refl _)) (.cons (.le (VLe.refl _)) (.cons (.le (VLe.refl _)) (.cons (.le (VLe.refl _)) (.cons (.le (VLe.refl _)) (.cons (.le (VLe.refl _)) (.cons (.le (VLe.refl _)) (.cons (.le (VLe.refl _)) .nil))))))))⟩)
theorem TimesR {p q : Rat} (hp : sz p ≤ 68719476736) (hq : sz q ≤ 68719476736) : FSpec P F.semiring_Times [vRing, vW p, vW q] (vW (p * q)) := by
 refine FSpec.intro fn.semiring_Times (by rfl) (by rfl) (nb9 (by rfl)) fun E hE => (AW.sg hE rfl (bxA rfl rfl fun b3 => (bxA rfl rfl fun b4 => (bxA rfl rfl fun b5 => (al z.Weight rfl fun b6 => (OL.nil (AW.seq ?_)))))))
 refine AW.sg hE rfl (ldPA ag.Ring rfl rfl (vs := [_,_]) rfl (nb9 rfl) (clv rfl .rq1 (validR) (nt rfl (OL.nil (AW.cond rfl (fun hno => absurd hno (by decide)) (fun _ => ?_))))))
 refine AW.skip (AW.seq (AW.dg 1 [0,1,2,3,4,5,6,7] order_free hE rfl (by kernel_rfl) (OI.of_OL (os := [_,_,_,_,_,_,_,_]) rfl ?_)))
 refine ldPA ag.Ring rfl rfl (vs := [_,_]) rfl (nb9 rfl) (ldPA ag.Weight rfl rfl (vs := [_,_,_,_,_,_,_,_]) rfl (nb9 rfl) (clv rfl .rq2 (valueR (by assumption)) (ldPA ag.Ring rfl rfl (vs := [_,_]) rfl (nb9 rfl) (ldPA ag.Weight rfl rfl (vs := [_,_,_,_,_,_,_,_]) rfl (nb9 rfl) (clv rfl .rq2 (valueR (by assumption)) (sto sz.Weight rfl rfl rfl rfl rfl (nb9 rfl) (cells2 := [_,_,_,_,_,_,_,_]) rfl (sto sz.Weight rfl rfl rfl rfl rfl (nb9 rfl) (cells2 := [_,_,_,_,_,_,_,_]) rfl ?_)))))))
 refine OL.nil (AW.seq (AW.sg hE rfl (faP fd.Ring_0 rfl rfl (ldPC ce.int rfl rfl rfl (c_neq rfl rfl (c := true) (by exact cne_t (by omega)) (OL.nil (AW.cond rfl (fun _ => ?_) (fun hno => absurd hno (by decide)))))))))
 refine AW.seq (AW.dg 1 [0,1,2,3,4,5,6,7] order_free hE rfl (by kernel_rfl) (OI.of_OL (os := [_,_,_,_,_,_,_,_]) rfl ?_))
 refine faP fd.Ring_0 rfl rfl (ldPC ce.int rfl rfl rfl (clv rfl .rq1 (kindR) (fdC fc.algebra_4 rfl rfl (ldPA ag.Weight rfl rfl (vs := [_,_,_,_,_,_,_,_]) rfl (nb9 rfl) (ldPA ag.Weight rfl rfl (vs := [_,_,_,_,_,_,_,_]) rfl (nb9 rfl) (clv rfl (.cons (VLe.refl _) (.cons (VLe.refl _) (.nil))) (timesQ hp hq) (sto sz.Weight rfl rfl rfl rfl rfl (nb9 rfl) (cells2 := [_,_,_,_,_,_,_,_]) rfl ?_)))))))
 refine OL.nil ?_
 exact AW.ret (RetQ.r ⟨_, .cellA rfl rfl ag.Weight (nb9 rfl) .nil, .ag (.cons (.le (VLe.refl _)) (.cons (.le (VLe.refl _)) (.cons (.le (VLe.refl _)) (.cons (.le (VLe.refl _)) (.cons (.le (VLe.refl _)) (.cons (.le (VLe.refl _)) (.cons (.le (VLe.refl _)) (.cons (.le (VLe.refl _)) .nil))))))))⟩)
theorem IsZeroR {q : Rat} (hz : sz q ≤ 68719476736) : FSpec P F.automaton_IsZero [vRing, vW q] (.d (dB (decide (q = 0)))) := by
 have h0K := z0K
 refine FSpec.intro fn.automaton_IsZero (by rfl) (by rfl) (nb9 (by rfl)) fun E hE => (AW.sg hE rfl (bxA rfl rfl fun b2 => (bxA rfl rfl fun b3 => (asD rfl (OL.nil (AW.seq (AW.dg 1 [0,1,2,3,4] order_free hE rfl (by kernel_rfl) (OI.of_OL (os := [_,_,_,_,_]) rfl ?_))))))))
 exact ldPA ag.Weight rfl rfl (vs := [_,_,_,_,_,_,_,_]) rfl (nb9 rfl) (ldPA ag.Ring rfl rfl (vs := [_,_]) rfl (nb9 rfl) (clv rfl .rq1 (ZeroR) (clv rfl .rq2 (equalW hz h0K) (asD rfl (OL.nil (AW.ret (RetQ.r ⟨_, .tmp rfl .nil, .le (VLe.refl _)⟩)))))))
end Go.Proofs.YtippcclgnabpdaaGreatDoor

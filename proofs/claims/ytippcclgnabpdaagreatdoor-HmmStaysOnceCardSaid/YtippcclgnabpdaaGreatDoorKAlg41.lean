/-
  AL, part 41: a call that hands back one new block inside of what it answers.
-/
import Derived.Test.YtippcclgnabpdaaGreatDoorKWkA
import Derived.Test.YtippcclgnabpdaaGreatDoorKAlg37
set_option linter.unusedVariables false
set_option linter.unusedSimpArgs false
namespace Go.Proofs.YtippcclgnabpdaaGreatDoor
open Go Go.AL
abbrev vAlg : V := .ag [.fn F.semiring_rationals_1 [], .fn F.semiring_rationals_2 [], .fn F.semiring_rationals_3 [], .fn F.semiring_rationals_4 [], .fn F.semiring_rationals_5 [], .fn F.semiring_quotient [], .fn F.semiring_never [], .fn F.semiring_rationals_6 [], .fn F.semiring_readNumber []]
theorem rationals  : FSpec P F.semiring_rationals [] (vAlg) := by
 refine FSpec.intro fn.semiring_rationals (by rfl) (by rfl) (nb9 (by rfl)) fun E hE => (AW.sg hE rfl (al z.algebra rfl fun b0 => (OL.nil (AW.sg hE rfl ?_))))
 refine bd2 (cs := [_,_,_,_,_,_,_,_,_]) z.algebra pl.algebra (pvC (by exact evF rfl) (pvC (by exact evF rfl) (pvC (by exact evF rfl) (pvC (by exact evF rfl) (pvC (by exact evF rfl) (pvC (by exact evF rfl) (pvC (by exact evF rfl) (pvC (by exact evF rfl) (pvC (by exact evF rfl) (pvN)))))))))) (by rfl) ?_
 refine sto sz.algebra rfl rfl rfl rfl rfl (nb9 rfl) (cells2 := [_,_,_,_,_,_,_,_,_]) rfl (OL.nil ?_)
 exact AW.ret (RetQ.r ⟨_, .cellA rfl rfl ag.algebra (nb9 rfl) .nil, .ag (.cons (.le (VLe.refl _)) (.cons (.le (VLe.refl _)) (.cons (.le (VLe.refl _)) (.cons (.le (VLe.refl _)) (.cons (.le (VLe.refl _)) (.cons (.le (VLe.refl _)) (.cons (.le (VLe.refl _)) (.cons (.le (VLe.refl _)) (.cons (.le (VLe.refl _)) .nil)))))))))⟩)
theorem kindR  : FSpec P F.semiring_kind [.d (dI 1)] (vAlg) := by
 refine FSpec.intro fn.semiring_kind (by rfl) (by rfl) (nb9 (by rfl)) fun E hE => (AW.sg hE rfl (al z.algebra rfl fun b2 => (OL.nil (AW.seq (AW.sg hE rfl (mvD rfl (OL.nil ?_)))))))
 refine AW.block (AW.sg hE rfl (c_eql rfl rfl (c := true) (by exact decide_eq_true (by omega)) (asD rfl (OL.nil (AW.cond rfl (fun _ => ?_) (fun hno => absurd hno (by decide)))))))
 refine AW.sg hE rfl (clv rfl (.nil) (rationals) (sto sz.algebra rfl rfl rfl rfl rfl (nb9 rfl) (cells2 := [_,_,_,_,_,_,_,_,_]) rfl (OL.nil ?_)))
 exact AW.ret (RetQ.r ⟨_, .cellA rfl rfl ag.algebra (nb9 rfl) .nil, .ag (.cons (.le (VLe.refl _)) (.cons (.le (VLe.refl _)) (.cons (.le (VLe.refl _)) (.cons (.le (VLe.refl _)) (.cons (.le (VLe.refl _)) (.cons (.le (VLe.refl _)) (.cons (.le (VLe.refl _)) (.cons (.le (VLe.refl _)) (.cons (.le (VLe.refl _)) .nil)))))))))⟩)
theorem single1  : FSpec P F.semiring_single [.d (dI 1)] (.d (dB true)) := by
 refine FSpec.intro fn.semiring_single (by rfl) (by rfl) (nb9 (by rfl)) fun E hE => (AW.sg hE rfl (asD rfl (OL.nil (AW.sg hE rfl (mvD rfl (c_geq rfl rfl (c := true) (by exact decide_eq_true (by omega)) (mvD rfl ?_)))))))
 exact OL.yes rfl (mvD rfl (OL.yes rfl (c_leq rfl rfl (c := true) (by exact decide_eq_true (by omega)) (pkT rfl rfl (asD rfl (OL.nil (AW.ret (RetQ.r ⟨_, .tmp rfl .nil, .le (VLe.refl _)⟩))))))))
theorem validR  : FSpec P F.semiring_Valid [vRing] (.d (dB true)) := by
 refine FSpec.intro fn.semiring_Valid (by rfl) (by rfl) (nb9 (by rfl)) fun E hE => (AW.sg hE rfl (bxA rfl rfl fun b1 => (asD rfl (OL.nil (AW.seq (AW.sg hE rfl (faP fd.Ring_0 rfl rfl ?_)))))))
 refine ldPC ce.int rfl rfl rfl (c_neq rfl rfl (c := true) (by exact cne_t (by omega)) (OL.nil (AW.cond rfl (fun _ => ?_) (fun hno => absurd hno (by decide)))))
 refine AW.sg hE rfl (faP fd.Ring_0 rfl rfl (ldPC ce.int rfl rfl rfl (clv rfl .rq1 (single1) (mvD rfl (OL.yes rfl (faP fd.Ring_1 rfl rfl (OL.yes rfl ?_)))))))
 refine ldPC ce.ints rfl rfl rfl (OL.yes rfl (lnD sl.ints rfl rfl rfl (OL.yes rfl (c_eql rfl rfl (c := true) (decide_eq_true rfl) (pkT rfl rfl (asD rfl (OL.nil ?_)))))))
 exact AW.ret (RetQ.r ⟨_, .tmp rfl .nil, .le (VLe.refl _)⟩)
theorem checkQ {q : Rat} (hz : sz q ≤ 68719476736) : FSpec P F.semiring_rationals_1 [vW q] (.d (dB true)) := by
 refine FSpec.intro fn.semiring_rationals_1 (by rfl) (by rfl) (nb9 (by rfl)) fun E hE => (AW.sg hE rfl (bxA rfl rfl fun b1 => (asD rfl (OL.nil (AW.sg hE rfl (faP fd.Weight_0 rfl rfl (ldPA ag.Rat rfl rfl (vs := [_,_,_]) rfl (nb9 rfl) ?_)))))))
 refine clv rfl .rq1 (rational_ValidQ (by omega)) (mvD rfl (OL.yes rfl (ldPA ag.Weight rfl rfl (vs := [_,_,_,_,_,_,_,_]) rfl (nb9 rfl) (OL.yes rfl (faP fd.Weight_0 rfl rfl (OL.yes rfl (ldPA ag.Rat rfl rfl (vs := [_,_,_]) rfl (nb9 rfl) ?_)))))))
 exact OL.yes rfl (bd z.Weight pl.Weight (cs := [_,_,_,_,_,_,_,_]) rfl (OL.yes rfl (clv rfl (.cons (VLe.refl _) (.cons (vle_wq) .nil)) (equalW hz hz) (pkT rfl rfl (asD rfl (OL.nil (AW.ret (RetQ.r ⟨_, .tmp rfl .nil, .le (VLe.bool (decide_eq_true rfl))⟩))))))))
theorem zeroQ  : FSpec P F.semiring_rationals_2 [] (vW 0) := by
 refine FSpec.intro fn.semiring_rationals_2 (by rfl) (by rfl) (nb9 (by rfl)) fun E hE => (AW.sg hE rfl (al z.Weight rfl fun b0 => (OL.nil (AW.sg hE rfl (bd z.Weight pl.Weight (cs := [_,_,_,_,_,_,_,_]) rfl (sto sz.Weight rfl rfl rfl rfl rfl (nb9 rfl) (cells2 := [_,_,_,_,_,_,_,_]) rfl (OL.nil ?_)))))))
 exact AW.ret (RetQ.r ⟨_, .cellA rfl rfl ag.Weight (nb9 rfl) .nil, .le vle_w0⟩)
theorem plusQ {p q : Rat} (hp : sz p ≤ 68719476736) (hq : sz q ≤ 68719476736) : FSpec P F.semiring_rationals_4 [vW p, vW q] (vW (p + q)) := by
 refine FSpec.intro fn.semiring_rationals_4 (by rfl) (by rfl) (nb9 (by rfl)) fun E hE => (AW.sg hE rfl (bxA rfl rfl fun b2 => (bxA rfl rfl fun b3 => (al z.Weight rfl fun b4 => (OL.nil (AW.sg hE rfl (faP fd.Weight_0 rfl rfl ?_)))))))
 exact ldPA ag.Rat rfl rfl (vs := [_,_,_]) rfl (nb9 rfl) (faP fd.Weight_0 rfl rfl (ldPA ag.Rat rfl rfl (vs := [_,_,_]) rfl (nb9 rfl) (clv rfl .rq2 (rational_AddQ (by assumption) (by assumption)) (bd z.Weight pl.Weight (cs := [_,_,_,_,_,_,_,_]) rfl (sto sz.Weight rfl rfl rfl rfl rfl (nb9 rfl) (cells2 := [_,_,_,_,_,_,_,_]) rfl (OL.nil (AW.ret (RetQ.r ⟨_, .cellA rfl rfl ag.Weight (nb9 rfl) .nil, .le vle_wq⟩))))))))
theorem timesQ {p q : Rat} (hp : sz p ≤ 68719476736) (hq : sz q ≤ 68719476736) : FSpec P F.semiring_rationals_5 [vW p, vW q] (vW (p * q)) := by
 refine FSpec.intro fn.semiring_rationals_5 (by rfl) (by rfl) (nb9 (by rfl)) fun E hE => (AW.sg hE rfl (bxA rfl rfl fun b2 => (bxA rfl rfl fun b3 => (al z.Weight rfl fun b4 => (OL.nil (AW.sg hE rfl (faP fd.Weight_0 rfl rfl ?_)))))))
 exact ldPA ag.Rat rfl rfl (vs := [_,_,_]) rfl (nb9 rfl) (faP fd.Weight_0 rfl rfl (ldPA ag.Rat rfl rfl (vs := [_,_,_]) rfl (nb9 rfl) (clv rfl .rq2 (rational_MulQ (by assumption) (by assumption)) (bd z.Weight pl.Weight (cs := [_,_,_,_,_,_,_,_]) rfl (sto sz.Weight rfl rfl rfl rfl rfl (nb9 rfl) (cells2 := [_,_,_,_,_,_,_,_]) rfl (OL.nil (AW.ret (RetQ.r ⟨_, .cellA rfl rfl ag.Weight (nb9 rfl) .nil, .le vle_wq⟩))))))))
theorem checkR {q : Rat} (hz : sz q ≤ 68719476736) : FSpec P F.semiring_Check [vRing, vW q] (.d (dB true)) := by
 refine FSpec.intro fn.semiring_Check (by rfl) (by rfl) (nb9 (by rfl)) fun E hE => (AW.sg hE rfl (bxA rfl rfl fun b2 => (bxA rfl rfl fun b3 => (asD rfl (OL.nil (AW.seq (AW.sg hE rfl ?_)))))))
 refine ldPA ag.Ring rfl rfl (vs := [_,_]) rfl (nb9 rfl) (clv rfl .rq1 (validR) (nt rfl (OL.nil (AW.cond rfl (fun hno => absurd hno (by decide)) (fun _ => ?_)))))
 refine AW.skip (AW.seq (AW.sg hE rfl (faP fd.Ring_0 rfl rfl (ldPC ce.int rfl rfl rfl (c_neq rfl rfl (c := true) (by exact cne_t (by omega)) (OL.nil (AW.cond rfl (fun _ => ?_) (fun hno => absurd hno (by decide)))))))))
 refine AW.seq (AW.dg 1 [0,1,2,3,4,5,6] order_free hE rfl (by kernel_rfl) (OI.of_OL (os := [_,_,_,_,_,_,_]) rfl ?_))
 refine faP fd.Ring_0 rfl rfl (ldPC ce.int rfl rfl rfl (clv rfl .rq1 (kindR) (fdC fc.algebra_0 rfl rfl (ldPA ag.Weight rfl rfl (vs := [_,_,_,_,_,_,_,_]) rfl (nb9 rfl) (clv rfl (.cons (VLe.refl _) (.nil)) (checkQ hz) (asD rfl (OL.nil ?_)))))))
 exact AW.ret (RetQ.r ⟨_, .tmp rfl .nil, .le (VLe.refl _)⟩)
theorem ZeroR  : FSpec P F.semiring_Zero [vRing] (vW 0) := by
 refine FSpec.intro fn.semiring_Zero (by rfl) (by rfl) (nb9 (by rfl)) fun E hE => (AW.sg hE rfl (bxA rfl rfl fun b1 => (al z.Weight rfl fun b2 => (OL.nil (AW.seq (AW.block (AW.sg hE rfl ?_)))))))
 refine ldPA ag.Ring rfl rfl (vs := [_,_]) rfl (nb9 rfl) (clv rfl .rq1 (validR) (nt rfl (asD rfl (OL.nil (AW.cond rfl (fun hno => absurd hno (by decide)) (fun _ => ?_))))))
 refine AW.sg hE rfl (faP fd.Ring_0 rfl rfl (ldPC ce.int rfl rfl rfl (c_neq rfl rfl (c := true) (by exact cne_t (by omega)) (asD rfl (OL.nil (AW.cond rfl (fun _ => ?_) (fun hno => absurd hno (by decide))))))))
 refine AW.sg hE rfl (faP fd.Ring_0 rfl rfl (ldPC ce.int rfl rfl rfl (clv rfl .rq1 (kindR) (fdC fc.algebra_1 rfl rfl (clv rfl (.nil) (zeroQ) (sto sz.Weight rfl rfl rfl rfl rfl (nb9 rfl) (cells2 := [_,_,_,_,_,_,_,_]) rfl (OL.nil ?_)))))))
 exact AW.ret (RetQ.r ⟨_, .cellA rfl rfl ag.Weight (nb9 rfl) .nil, .ag (.cons (.le (VLe.refl _)) (.cons (.le (VLe.refl _)) (.cons (.le (VLe.refl _)) (.cons (.le (VLe.refl _)) (.cons (.le (VLe.refl _)) (.cons (.le (VLe.refl _)) (.cons (.le (VLe.refl _)) (.cons (.le (VLe.refl _)) .nil))))))))⟩)
theorem valueR {q : Rat} (hz : sz q ≤ 68719476736) : FSpec P F.semiring_value [vRing, vW q] (vW q) := by
 refine FSpec.intro fn.semiring_value (by rfl) (by rfl) (nb9 (by rfl)) fun E hE => (AW.sg hE rfl (bxA rfl rfl fun b2 => (bxA rfl rfl fun b3 => (al z.Weight rfl fun b4 => (OL.nil (AW.seq (AW.sg hE rfl ?_)))))))
 refine ldPA ag.Ring rfl rfl (vs := [_,_]) rfl (nb9 rfl) (ldPA ag.Weight rfl rfl (vs := [_,_,_,_,_,_,_,_]) rfl (nb9 rfl) (clv rfl .rq2 (checkR hz) (OL.nil (AW.cond rfl (fun _ => ?_) (fun hno => absurd hno (by decide))))))
 refine AW.sg hE rfl (ldPA ag.Weight rfl rfl (vs := [_,_,_,_,_,_,_,_]) rfl (nb9 rfl) (sto sz.Weight rfl rfl rfl rfl rfl (nb9 rfl) (cells2 := [_,_,_,_,_,_,_,_]) rfl (OL.nil ?_)))
 exact AW.ret (RetQ.r ⟨_, .cellA rfl rfl ag.Weight (nb9 rfl) .nil, .ag (.cons (.le (VLe.refl _)) (.cons (.le (VLe.refl _)) (.cons (.le (VLe.refl _)) (.cons (.le (VLe.refl _)) (.cons (.le (VLe.refl _)) (.cons (.le (VLe.refl _)) (.cons (.le (VLe.refl _)) (.cons (.le (VLe.refl _)) .nil))))))))⟩)
theorem PlusR {p q : Rat} (hp : sz p ≤ 68719476736) (hq : sz q ≤ 68719476736) : FSpec P F.semiring_Plus [vRing, vW p, vW q] (vW (p + q)) := by
 refine FSpec.intro fn.semiring_Plus (by rfl) (by rfl) (nb9 (by rfl)) fun E hE => (AW.sg hE rfl (bxA rfl rfl fun b3 => (bxA rfl rfl fun b4 => (bxA rfl rfl fun b5 => (al z.Weight rfl fun b6 => (OL.nil (AW.seq ?_)))))))
 refine AW.sg hE rfl (ldPA ag.Ring rfl rfl (vs := [_,_]) rfl (nb9 rfl) (clv rfl .rq1 (validR) (nt rfl (OL.nil (AW.cond rfl (fun hno => absurd hno (by decide)) (fun _ => ?_))))))
 refine AW.skip (AW.seq (AW.dg 1 [0,1,2,3,4,5,6,7] order_free hE rfl (by kernel_rfl) (OI.of_OL (os := [_,_,_,_,_,_,_,_]) rfl ?_)))
 refine ldPA ag.Ring rfl rfl (vs := [_,_]) rfl (nb9 rfl) (ldPA ag.Weight rfl rfl (vs := [_,_,_,_,_,_,_,_]) rfl (nb9 rfl) (clv rfl .rq2 (valueR (by assumption)) (ldPA ag.Ring rfl rfl (vs := [_,_]) rfl (nb9 rfl) (ldPA ag.Weight rfl rfl (vs := [_,_,_,_,_,_,_,_]) rfl (nb9 rfl) (clv rfl .rq2 (valueR (by assumption)) (sto sz.Weight rfl rfl rfl rfl rfl (nb9 rfl) (cells2 := [_,_,_,_,_,_,_,_]) rfl (sto sz.Weight rfl rfl rfl rfl rfl (nb9 rfl) (cells2 := [_,_,_,_,_,_,_,_]) rfl ?_)))))))
 refine OL.nil (AW.seq (AW.sg hE rfl (faP fd.Ring_0 rfl rfl (ldPC ce.int rfl rfl rfl (c_neq rfl rfl (c := true) (by exact cne_t (by omega)) (OL.nil (AW.cond rfl (fun _ => ?_) (fun hno => absurd hno (by decide)))))))))
 refine AW.seq (AW.dg 1 [0,1,2,3,4,5,6,7] order_free hE rfl (by kernel_rfl) (OI.of_OL (os := [_,_,_,_,_,_,_,_]) rfl ?_))
 refine faP fd.Ring_0 rfl rfl (ldPC ce.int rfl rfl rfl (clv rfl .rq1 (kindR) (fdC fc.algebra_3 rfl rfl (ldPA ag.Weight rfl rfl (vs := [_,_,_,_,_,_,_,_]) rfl (nb9 rfl) (ldPA ag.Weight rfl rfl (vs := [_,_,_,_,_,_,_,_]) rfl (nb9 rfl) (clv rfl (.cons (VLe.refl _) (.cons (VLe.refl _) (.nil))) (plusQ hp hq) (sto sz.Weight rfl rfl rfl rfl rfl (nb9 rfl) (cells2 := [_,_,_,_,_,_,_,_]) rfl ?_)))))))
 refine OL.nil ?_
 exact AW.ret (RetQ.r ⟨_, .cellA rfl rfl ag.Weight (nb9 rfl) .nil, .ag (.cons (.le (VLe.refl _)) (.cons (.le (VLe.refl _)) (.cons (.le (VLe.refl _)) (.cons (.le (VLe.refl _)) (.cons (.le (VLe.refl _)) (.cons (.le (VLe.refl _)) (.cons (.le (VLe.refl _)) (.cons (.le (VLe.refl _)) .nil))))))))⟩)
theorem TimesR {p q : Rat} (hp : sz p ≤ 68719476736) (hq : sz q ≤ 68719476736) : FSpec P F.semiring_Times [vRing, vW p, vW q] (vW (p * q)) := by
 refine FSpec.intro fn.semiring_Times (by rfl) (by rfl) (nb9 (by rfl)) fun E hE => (AW.sg hE rfl (bxA rfl rfl fun b3 => (bxA rfl rfl fun b4 => (bxA rfl rfl fun b5 => (al z.Weight rfl fun b6 => (OL.nil (AW.seq ?_)))))))
 refine AW.sg hE rfl (ldPA ag.Ring rfl rfl (vs := [_,_]) rfl (nb9 rfl) (clv rfl .rq1 (validR) (nt rfl (OL.nil (AW.cond rfl (fun hno => absurd hno (by decide)) (fun _ => ?_))))))
 refine AW.skip (AW.seq (AW.dg 1 [0,1,2,3,4,5,6,7] order_free hE rfl (by kernel_rfl) (OI.of_OL (os := [_,_,_,_,_,_,_,_]) rfl ?_)))
 refine ldPA ag.Ring rfl rfl (vs := [_,_]) rfl (nb9 rfl) (ldPA ag.Weight rfl rfl (vs := [_,_,_,_,_,_,_,_]) rfl (nb9 rfl) (clv rfl .rq2 (valueR (by assumption)) (ldPA ag.Ring rfl rfl (vs := [_,_]) rfl (nb9 rfl) (ldPA ag.Weight rfl rfl (vs := [_,_,_,_,_,_,_,_]) rfl (nb9 rfl) (clv rfl .rq2 (valueR (by assumption)) (sto sz.Weight rfl rfl rfl rfl rfl (nb9 rfl) (cells2 := [_,_,_,_,_,_,_,_]) rfl (sto sz.Weight rfl rfl rfl rfl rfl (nb9 rfl) (cells2 := [_,_,_,_,_,_,_,_]) rfl ?_)))))))
 refine OL.nil (AW.seq (AW.sg hE rfl (faP fd.Ring_0 rfl rfl (ldPC ce.int rfl rfl rfl (c_neq rfl rfl (c := true) (by exact cne_t (by omega)) (OL.nil (AW.cond rfl (fun _ => ?_) (fun hno => absurd hno (by decide)))))))))
 refine AW.seq (AW.dg 1 [0,1,2,3,4,5,6,7] order_free hE rfl (by kernel_rfl) (OI.of_OL (os := [_,_,_,_,_,_,_,_]) rfl ?_))
 refine faP fd.Ring_0 rfl rfl (ldPC ce.int rfl rfl rfl (clv rfl .rq1 (kindR) (fdC fc.algebra_4 rfl rfl (ldPA ag.Weight rfl rfl (vs := [_,_,_,_,_,_,_,_]) rfl (nb9 rfl) (ldPA ag.Weight rfl rfl (vs := [_,_,_,_,_,_,_,_]) rfl (nb9 rfl) (clv rfl (.cons (VLe.refl _) (.cons (VLe.refl _) (.nil))) (timesQ hp hq) (sto sz.Weight rfl rfl rfl rfl rfl (nb9 rfl) (cells2 := [_,_,_,_,_,_,_,_]) rfl ?_)))))))
 refine OL.nil ?_
 exact AW.ret (RetQ.r ⟨_, .cellA rfl rfl ag.Weight (nb9 rfl) .nil, .ag (.cons (.le (VLe.refl _)) (.cons (.le (VLe.refl _)) (.cons (.le (VLe.refl _)) (.cons (.le (VLe.refl _)) (.cons (.le (VLe.refl _)) (.cons (.le (VLe.refl _)) (.cons (.le (VLe.refl _)) (.cons (.le (VLe.refl _)) .nil))))))))⟩)
theorem IsZeroR {q : Rat} (hz : sz q ≤ 68719476736) : FSpec P F.automaton_IsZero [vRing, vW q] (.d (dB (decide (q = 0)))) := by
 have h0K := z0K
 refine FSpec.intro fn.automaton_IsZero (by rfl) (by rfl) (nb9 (by rfl)) fun E hE => (AW.sg hE rfl (bxA rfl rfl fun b2 => (bxA rfl rfl fun b3 => (asD rfl (OL.nil (AW.seq (AW.dg 1 [0,1,2,3,4] order_free hE rfl (by kernel_rfl) (OI.of_OL (os := [_,_,_,_,_]) rfl ?_))))))))
 exact ldPA ag.Weight rfl rfl (vs := [_,_,_,_,_,_,_,_]) rfl (nb9 rfl) (ldPA ag.Ring rfl rfl (vs := [_,_]) rfl (nb9 rfl) (clv rfl .rq1 (ZeroR) (clv rfl .rq2 (equalW hz h0K) (asD rfl (OL.nil (AW.ret (RetQ.r ⟨_, .tmp rfl .nil, .le (VLe.refl _)⟩)))))))
end Go.Proofs.YtippcclgnabpdaaGreatDoor

set_option linter.unusedVariables false
set_option linter.unusedSimpArgs false
namespace Go.AL
open Go Go.BigFrame
section
variable {P : Program} {E : Env} {K : S → Prop} {s : S} {pos : String} {after : Array Edge} {ty : Nat}
theorem upd_again {M : Mem} {id : Nat} {blk : Blk} (h : M id = some blk) : upd M id (some blk) = M := by
 funext k
 unfold upd
 split
 ·rename_i e; rw [e]; exact h.symm
 ·rfl
theorem After.none {F : Hp} {M : Mem} {w : World} (h : Sim F M w) : After F M w F M w := ⟨Grow.refl _ _, Hp.le.refl F, h, fun k a b => absurd a b, fun _ k => .inr k⟩
theorem builtin_clear {ats : Array TypeId} {ty : TypeId} {cs : Array Bool} {args : Array Value} : builtin .clear ats ty cs args = (do pure (.value (← Builtin.clear_ ats ty args))) := rfl
theorem clear_exec {a : Act} {w w' : World} {o : Oper} {x : Operand} {t : Nat} {v : Value} (ho : o.op = .call { callee := .builtin .clear, args := #[x], argTypes := #[t] }) {R : Value → World → Prop}
  (hr : (Builtin.clear_ #[t] o.type #[a.eval x]).run P w = .ok v w') (h : R v w') : Good P ((execOp a.eval o).run P w) R := by
 unfold execOp; rw [ho]
 simp only [resolve, Sem.run_bind, Sem.run_pure, Result.andThen_ok, invoke, builtin_clear]
 have e1 : (#[x].map a.eval) = #[a.eval x] := by simp
 rw [e1, hr]
 exact h
theorem SO.clearB {dst : Option Nat} {t e sz by_ id b o n c cb : Nat} {x : Operand} {es : List D} {z : D} {zs : List V} (hd : Below' E.n dst) (hT : SliceT P t e sz by_) (hz : ZeroT P e zs) (hc : VCs zs z.cells) (hx : s.ev x = .osb id b sz o n c) (hM : s.M id = some (.row b cb e sz es)) (hn : o + n = es.length)
  (h : K ((⟨s.ρ, upd s.M id (some (.row b cb e sz (es.take o ++ List.replicate n z)))⟩ : S).put dst (.tup []))) :
  SO P E ⟨dst, .call { callee := .builtin .clear, args := #[x], argTypes := #[t] }, ty, pos, after, none⟩ K s := fun F a w hr => by
 have hx' := hr.eval x
 rw [hx] at hx'
 generalize hax : a.eval x = ax at hx'
 obtain ⟨g0, g1, g2⟩ := hr.sim.own id _ hM
 obtain ⟨i, zv, hi, hzv, h1, h2, h3⟩ := hT.parts
 obtain ⟨i', zv', hi', hzv', z1, z2, z3⟩ := hz.parts
 rw [hi] at hi'; cases hi'
 rw [hzv] at hzv'; cases hzv'
 have hzl : zs.length = sz := by rw [← h2, z3]
 have hdl : z.cells.length = sz := by rw [← hc.length, hzl]
 cases hx' with
 | @osb ao _ _ _ _ _ _ ha hnc =>
  rcases Nat.eq_zero_or_pos n with h0 | h0
  ·subst h0
   have e1 : es.take o ++ List.replicate 0 z = es := by rw [List.replicate_zero, List.append_nil, List.take_of_length_le (by omega)]
   rw [e1, upd_again hM] at h
   refine clear_exec (o := ⟨dst, .call { callee := .builtin .clear, args := #[x], argTypes := #[t] }, ty, pos, after, none⟩) (v := .tuple #[]) (w' := w) rfl ?_ ⟨F, _, hr.after_put (After.none hr.sim) hd (.tup (us := []) rfl fun i c u h => by simp at h), h⟩
   rw [hax]
   cases ao <;> simp [Builtin.clear_, run_underlying hT.u]
  ·rw [ha (by omega)] at hax
   obtain ⟨cs, hh, hcl, c1, c2⟩ := g2 (by omega)
   have hfit : o * sz + n * sz ≤ cs.length := by rw [hcl, ← Nat.add_mul, hn]; exact Nat.mul_le_mul_right _ g0
   have hget : ∀ (j : Nat) (u : Value), (Builtin.zeroCells zv.cells n).toList[j]? = some u → j < n * sz ∧ zv.cells.toList[j % sz]? = some u := fun j u hu => by
    have hj : j < n * sz := by have := (List.getElem?_eq_some_iff.1 hu).1; simpa [Builtin.zeroCells, h1] using this
    refine ⟨hj, ?_⟩
    simp only [Builtin.zeroCells, Array.toList_map, Array.toList_range, h1, List.getElem?_map, List.getElem?_range hj, Option.map_some, Option.some.injEq] at hu
    have hlt : j % sz < zv.cells.size := by rw [h1]; exact Nat.mod_lt _ hT.pos
    rw [getElem!_pos zv.cells (j % sz) hlt] at hu
    rw [← hu]
    simp [hlt]
   have hzlen : (Builtin.zeroCells zv.cells n).toList.length = n * sz := by simp [Builtin.zeroCells, h1]
   have hone : ∀ v, v ∈ (Builtin.zeroCells zv.cells n).toList → v.oneCell' = true := fun u hu => by
    obtain ⟨j, hj⟩ := List.mem_iff_getElem?.1 hu
    exact hT.one hi hzv u (List.mem_of_getElem? (hget j u hj).2)
   have hst := run_storeCells_at P b (o * sz) e (Builtin.zeroCells zv.cells n).toList 0 cs.toArray w hh (by rw [hzlen]; simp; omega) hone
   rw [Nat.add_zero, hzlen] at hst
   have hs : ∀ y, y ∈ es.take o ++ List.replicate n z → y.cells.length = sz := fun y hy => by
    rcases List.mem_append.1 hy with hy | hy
    ·exact g1 y (List.mem_of_mem_take hy)
    ·rw [(List.mem_replicate.1 hy).2]; exact hdl
   have hto : (es.take o).length = o := by rw [List.length_take]; omega
   have hlen : (es.take o ++ List.replicate n z).length = es.length := by rw [List.length_append, hto, List.length_replicate]; exact hn
   have hA : After F s.M w F (upd s.M id (some (.row b cb e sz (es.take o ++ List.replicate n z)))) (w.setRow b (cs.take (o * sz) ++ (Builtin.zeroCells zv.cells n).toList ++ cs.drop (o * sz + n * sz)).toArray) := by
    refine After.set_block hr.sim hM ⟨by omega, rfl⟩ (fun k hk => hk.2) hh fun w' hw' => ⟨by rw [hlen]; exact g0, hs, fun _ => ⟨_, hw', ?_, fun v hv => ?_, fun j d u hjd hju => ?_⟩⟩
    ·rw [List.length_append, List.length_append, List.length_take, List.length_drop, hzlen]; omega
    ·rcases List.mem_append.1 hv with hv | hv
     ·rcases List.mem_append.1 hv with hv | hv
      ·exact c1 v (List.mem_of_mem_take hv)
      ·exact hone v hv
     ·exact c1 v (List.mem_of_mem_drop hv)
    ·rw [List.flatMap_append] at hjd
     have hfo : ((es.take o).flatMap D.cells).length = o * sz := by rw [flat_length fun y hy => g1 y (List.mem_of_mem_take hy), hto]
     rcases Nat.lt_or_ge j (o * sz) with hj | hj
     ·rw [List.getElem?_append_left (by rw [hfo]; exact hj)] at hjd
      rw [List.append_assoc, List.getElem?_append_left (by rw [List.length_take]; omega), List.getElem?_take_of_lt hj] at hju
      refine c2 j d u ?_ hju
      obtain ⟨r, hr2⟩ := flat_take (es := es) o
      rw [hr2, List.getElem?_append_left (by rw [hfo]; exact hj)]
      exact hjd
     ·rw [List.getElem?_append_right (by rw [hfo]; exact hj), hfo] at hjd
      have hsr : ∀ y, y ∈ List.replicate n z → y.cells.length = sz := fun y hy => by rw [(List.mem_replicate.1 hy).2]; exact hdl
      have hjn : j - o * sz < n * sz := by
       have := (List.getElem?_eq_some_iff.1 hjd).1
       rwa [flat_length hsr, List.length_replicate] at this
      rw [List.append_assoc, List.getElem?_append_right (by rw [List.length_take]; omega), List.length_take, Nat.min_eq_left (by omega), List.getElem?_append_left (by rw [hzlen]; exact hjn)] at hju
      obtain ⟨_, hzu⟩ := hget _ u hju
      have hq : (j - o * sz) / sz < n := Nat.div_lt_of_lt_mul (by rw [Nat.mul_comm sz n]; exact hjn)
      have hmod : (j - o * sz) % sz < sz := Nat.mod_lt _ hT.pos
      have hg := flat_get hsr (i := (j - o * sz) / sz) (e := z) (by rw [List.getElem?_replicate, if_pos hq]) ((j - o * sz) % sz) hmod
      rw [Nat.mul_comm, Nat.div_add_mod] at hg
      rw [hg] at hjd
      obtain ⟨x', hx2, hvc⟩ := hc.get _ _ hjd
      rw [← z1, List.getElem?_map, hzu] at hx2
      simp only [Option.map_some, Option.some.injEq] at hx2
      rw [← hx2] at hvc
      exact (hvc F u (absV_sim F u)).1
   refine clear_exec (o := ⟨dst, .call { callee := .builtin .clear, args := #[x], argTypes := #[t] }, ty, pos, after, none⟩) (v := .tuple #[]) rfl ?_ ⟨F, _, hr.after_put hA hd (.tup (us := []) rfl fun i c u h => by simp at h), h⟩
   rw [hax]
   have e2 : (zeroValue e).run P w = .ok zv w := by simp [zeroValue, typeInfo, hi, hzv]
   obtain ⟨m, rfl⟩ : ∃ m, n = m + 1 := ⟨n - 1, by omega⟩
   simp [Builtin.clear_, run_underlying hT.u, e2, hst]
end
end Go.AL

set_option linter.unusedVariables false
set_option linter.unusedSimpArgs false
set_option linter.unusedVariables false
set_option linter.unusedSimpArgs false
namespace Go.AL
open Go Go.BigFrame
section
variable {P : Program} {E : Env} {K : S → Prop} {s : S} {ty : Nat} {pos : String} {after : Array Edge}
theorem RO.all {M Mk : Mem} {id b n c e sz : Nat} {es : List D} {d : D} (hM : M id = some (.row b c e sz es)) (hk : Mk id = Option.none) (hn : n = es.length) (hd : d = .sl es) : RO M Mk (.osl id b n c) (.d d) := by
 subst hn hd
 have h := RO.osl (M := M) (Mk := Mk) hM hk (Nat.le_refl es.length)
 rwa [List.take_length] at h
end
end Go.AL

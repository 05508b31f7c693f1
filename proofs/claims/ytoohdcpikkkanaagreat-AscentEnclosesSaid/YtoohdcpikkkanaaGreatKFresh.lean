/-
  Walk of fresh.Rat (printed by mk2.py).
-/
import Derived.Test.YtoohdcpikkkanaaGreatKCkA
set_option linter.unusedVariables false
set_option linter.unusedSimpArgs false
namespace Go.Proofs.YtoohdcpikkkanaaGreat
open Go Go.AL
theorem fresh_Rat {q : Rat} (hz : sz q ≤ 68719476736) : FSpec P F.fresh_Rat [vQ q] (vQ q) := by
  have s1 := sz_num q
  have s2 := sz_den q
  have l1 : (ofQ q).num.length ≤ 8796093022208 := by rw [show (ofQ q).num = lim q.num.natAbs from rfl]; omega
  have l2 : (ofQ q).den.length ≤ 8796093022208 := by by_cases e : q.den = 1 <;> simp [ofQ, e]; omega
  refine FSpec.intro fn.fresh_Rat (by rfl) (by rfl) (Nat.le_of_ble_eq_true (by rfl)) fun E hE => ?_
  refine AW.seq ?_
  refine AW.region (by rw [hE]; rfl) ?_
  refine bxA rfl rfl fun b1 => ?_
  refine al z.Rat rfl fun b2 => ?_
  refine OL.nil ?_
  refine AW.seq ?_
  refine AW.region_draw 1 [0, 1, 2, 3, 4, 5, 6, 7, 8, 9] order_free (by rw [hE]; rfl) (by kernel_rfl) (OI.of_OL (os := [_, _, _, _, _, _, _, _, _, _]) rfl ?_)
  refine faP fd.Rat_0 rfl rfl ?_
  refine ldPC ce.bool rfl rfl rfl ?_
  refine faP fd.Rat_1 rfl rfl ?_
  refine ldPC ce.u32s rfl rfl rfl ?_
  refine clv rfl (.cons (VLe.refl _) .nil) (clone_u32s l1) ?_
  refine faP fd.Rat_2 rfl rfl ?_
  refine ldPC ce.u32s rfl rfl rfl ?_
  refine clv rfl (.cons (VLe.refl _) .nil) (clone_u32s l2) ?_
  refine bd2 (cs := [_, _, _]) z.Rat pl.Rat (pvC (by first | exact evD rfl | exact evA rfl | exact evM rfl | exact evO rfl | exact evP rfl) (pvC (by first | exact evD rfl | exact evA rfl | exact evM rfl | exact evO rfl | exact evP rfl) (pvC (by first | exact evD rfl | exact evA rfl | exact evM rfl | exact evO rfl | exact evP rfl) (pvN)))) (by rfl) ?_
  refine sto sz.Rat rfl rfl rfl rfl rfl (Nat.le_of_ble_eq_true rfl) (cells2 := [_, _, _]) rfl ?_
  refine OL.nil ?_
  exact AW.ret (RetQ.r ⟨_, .cellA rfl rfl ag.Rat (Nat.le_of_ble_eq_true rfl) .nil, .ag (.cons (.le (by first | exact VLe.refl _ | exact VLe.mt | exact vle_q0 | exact VLe.int (by omega) | exact VLe.bool (by simp_all))) (.cons (.le (by first | exact VLe.refl _ | exact VLe.mt | exact vle_q0 | exact VLe.int (by omega) | exact VLe.bool (by simp_all))) (.cons (.le (by first | exact VLe.refl _ | exact VLe.mt | exact vle_q0 | exact VLe.int (by omega) | exact VLe.bool (by simp_all))) .nil)))⟩)
end Go.Proofs.YtoohdcpikkkanaaGreat

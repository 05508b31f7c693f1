/-
  Walks of package rational, part 1: limbs (printed by mk.py).
-/
import Derived.Test.YtippcclgnabpdaaGreatDoorKHdr
import Derived.Test.YtippcclgnabpdaaGreatDoorKNuma
set_option linter.unusedVariables false
set_option linter.unusedSimpArgs false
namespace Go.Proofs.YtippcclgnabpdaaGreatDoor
open Go Go.AL
theorem limbs_at {L : List Nat} {i : Int} (hL : Lim L) (hi : 0 ≤ i) : FSpec P F.rational_limbs_at [.d (u32s L), .d (dI i)] (.d (dU (L.getD i.toNat 0))) := by
 refine FSpec.intro fn.rational_limbs_at (by rfl) (by rfl) (nb9 (by rfl)) fun E hE => (AW.sg hE rfl (asD rfl (OL.nil (AW.seq (AW.sg hE rfl (mvD rfl (mvD rfl ?_)))))))
 refine lnL sl.limbs rfl rfl (c_lss rfl rfl rfl (OL.nil (AW.cond rfl (fun h => ?_) (fun h => ?_))))
 ·have h := of_decide_eq_true h
  refine AW.sg hE rfl (mvD rfl (mvD rfl (ixL sl.limbs 0 rfl rfl (by omega) (by omega) rfl rfl (ldRC ce.u32 rfl (cv it.u32 it.u64 rfl (wrap_u64 ⟨by omega, by have := hL.getD i.toNat; omega⟩) (asD rfl (OL.nil ?_)))))))
  exact AW.ret (RetQ.r ⟨_, .tmp rfl .nil, .le (VLe.refl _)⟩)
 ·have h := of_decide_eq_false h
  exact AW.skip (AW.sg hE rfl (asD rfl (OL.nil (AW.ret (RetQ.r ⟨_, .tmp rfl .nil, .le (VLe.int (by rw [List.getD_eq_getElem?_getD, List.getElem?_eq_none (by omega)]; rfl))⟩)))))
theorem limbs_atn {L : List Nat} {i : Nat} (hL : Lim L) : FSpec P F.rational_limbs_at [.d (u32s L), .d (dI i)] (.d (dU (L.getD i 0))) := limbs_at hL (Int.natCast_nonneg i)
theorem limbs_clean {L : List Nat} (hL : Lim L) (hn : L.length ≤ 8796093022208) : FSpec P F.rational_limbs_clean [.d (u32s L)] (.d (u32s (lim (val L)))) := by
 refine FSpec.intro fn.rational_limbs_clean (by rfl) (by rfl) (nb9 (by rfl)) fun E hE => (AW.sg hE rfl (asM rfl (OL.nil (AW.seq (AW.block (AW.while (α := List Nat) (fun A => [(0, .d (u32s A))]) (fun A => []) (fun A => Lim A ∧ val A = val L ∧ A.length ≤ L.length) (fun A => A.length) L ⟨⟨hL, rfl, Nat.le_refl _⟩, .rq1, .nil⟩ ?_))))))
 rintro A ⟨hA, hv, hl⟩
 refine AW.seq (AW.sg hE rfl (mvD rfl (lnL sl.limbs rfl rfl (c_gtr rfl rfl rfl (OL.split 5 rfl (fun h0 => ?_) (fun h0 => ?_))))))
 ·have h0 := of_decide_eq_true h0
  refine mvD rfl (OL.yes rfl (mvD rfl (OL.yes rfl (mvD rfl (OL.yes rfl (lnL sl.limbs rfl rfl (OL.yes rfl ?_)))))))
  refine sub_i64 rfl rfl (by omega) (OL.yes rfl (ixL sl.limbs 0 rfl rfl (by omega) (by omega) rfl rfl (OL.yes rfl (ldRC ce.u32 rfl (OL.yes rfl (c_eql rfl rfl rfl (OL.split 13 rfl (fun h => ?_) (fun h => ?_))))))))
  ·have h := of_decide_eq_true h
   refine pkT rfl rfl (OL.nil (AW.cond rfl (fun _ => ?_) (fun hno => absurd hno (by decide))))
   refine AW.skip (AW.block (AW.rg hE rfl (mvD rfl (mvD rfl (lnL sl.limbs rfl rfl (sub_i64 rfl rfl (by omega) (slTo sl.limbs rfl rfl (fun _ => rfl) (by omega) (l2 := A.dropLast) (by rw [List.dropLast_eq_take]; congr 1; omega) ?_)))))))
   exact asD rfl (OL.nil (AW.again (x := A) A.dropLast (by rw [List.length_dropLast]; omega) ⟨⟨hA.dropLast, by rw [← hv, val_dropLast (by omega) (by rw [toNat_pred] at h; omega)], by rw [List.length_dropLast]; omega⟩, .rq1, .nil⟩))
  ·have h := of_decide_eq_false h
   refine pkT rfl rfl (OL.nil (AW.cond rfl (fun hno => absurd hno (by decide)) (fun _ => ?_)))
   exact AW.exit (AW.sg hE rfl (mvD rfl (asD rfl (OL.nil (AW.ret (RetQ.r ⟨_, .tmp rfl .nil, .le (vle_of_eq (by rw [← hv, lim_val hA (last_ne (by omega) (by rw [toNat_pred] at h; omega))]; rfl))⟩))))))
 ·have h0 := of_decide_eq_false h0
  refine mvD rfl (OL.nd rfl (OL.nd rfl (OL.nd rfl (OL.nd rfl (OL.nd rfl (OL.nd rfl (OL.nd rfl ?_)))))))
  refine pkF rfl rfl (OL.nil (AW.cond rfl (fun hno => absurd hno (by decide)) (fun _ => ?_)))
  exact AW.exit (AW.sg hE rfl (mvD rfl (asD rfl (OL.nil (AW.ret (RetQ.r ⟨_, .tmp rfl .nil, .le (vle_of_eq (by rw [← hv, nil_of (L := A) (by omega), val_nil, lim_zero]; rfl))⟩))))))
theorem limbs_cmp {A C : List Nat} (hA : Lim A) (hC : Lim C) (nA : A.length ≤ 8796093022208) (nC : C.length ≤ 8796093022208) : FSpec P F.rational_limbs_cmp [.d (u32s A), .d (u32s C)] (.d (dI (cmpN (val A) (val C)))) := by
 refine FSpec.intro fn.rational_limbs_cmp (by rfl) (by rfl) (nb9 (by rfl)) fun E hE => (AW.sg hE rfl (asD rfl (OL.nil (AW.seq (AW.sg hE rfl (mvD rfl (lnL sl.limbs rfl rfl ?_)))))))
 refine mvD rfl (lnL sl.limbs rfl rfl (mx rfl rfl (c := ((max A.length C.length : Nat) : Int)) (by omega) (sub_i64 rfl rfl (by omega) (asD rfl (OL.nil (AW.block ?_))))))
 refine AW.while (α := Nat) (fun n => [(0, .d (u32s A)), (1, .d (u32s C)), (5, .d (dI ((n : Int) - 1)))]) (fun n => []) (fun n => n ≤ max A.length C.length ∧ ∀ j, n ≤ j → A.getD j 0 = C.getD j 0) (fun n => n) (max A.length C.length) ⟨⟨Nat.le_refl _, fun j hj => by rw [getD_out (by omega), getD_out (by omega)]⟩, .rq3, .nil⟩ ?_
 rintro n ⟨hn, hh⟩
 refine AW.seq (AW.sg hE rfl (mvD rfl (c_geq rfl rfl rfl (OL.nil (AW.cond rfl (fun h => ?_) (fun h => ?_))))))
 ·have h := of_decide_eq_true h
  refine AW.skip (AW.seq (AW.block (AW.seq ?_)))
  have e1 : ((n : Int) - 1).toNat = n - 1 := by omega
  have hx := hA.getD (n - 1)
  have hy := hC.getD (n - 1)
  refine AW.rg hE rfl (mvD rfl (mvD rfl (cl (limbs_at hA (by omega)) rfl (VLes.refl _) ?_)))
  rw [e1]
  refine mvD rfl (mvD rfl (cl (limbs_at hC (by omega)) rfl (VLes.refl _) ?_))
  rw [e1]
  refine asD rfl (asD rfl (OL.nil (AW.sg hE rfl (mvD rfl (mvD rfl (c_neq rfl rfl rfl (OL.nil ?_)))))))
  refine AW.cond rfl (fun hne => ?_) (fun hne => ?_)
  ·have hne := nd_t hne
   refine AW.sg hE rfl (mvD rfl (mvD rfl (subm_u64 rfl rfl rfl (shr63 rfl rfl rfl (cv it.u64 it.int rfl (wrap_i64 (by omega)) (mul_i64 rfl rfl (by omega) (sub_i64 rfl rfl (by omega) ?_)))))))
   exact asD rfl (OL.nil (AW.ret (RetQ.r ⟨_, .tmp rfl .nil, .le (VLe.int (by rw [cmp_at hA hC (i := n - 1) (fun j hj => hh j (by omega)) (by omega)]; split <;> omega))⟩)))
  ·have hne : A.getD (n - 1) 0 = C.getD (n - 1) 0 := by have := nd_f hne; omega
   exact AW.skip (AW.rg hE rfl (mvD rfl (sub_i64 rfl rfl (by omega) (asD rfl (OL.nil (AW.again (x := n) (n - 1) (by omega) ⟨⟨by omega, fun j hj => by rcases Nat.lt_or_ge j n with hj2 | hj2; (have : j = n - 1 := by omega); rw [this]; exact hne; exact hh j hj2⟩, .cons (VLe.refl _) (.cons (VLe.refl _) (.cons (VLe.int (by omega)) .nil)), .nil⟩))))))
 ·have h := of_decide_eq_false h
  exact AW.exit (AW.sg hE rfl (asD rfl (OL.nil (AW.ret (RetQ.r ⟨_, .tmp rfl .nil, .le (VLe.int (by rw [val_eq_of hA hC fun j => hh j (by omega)]; simp [cmpN]))⟩)))))
theorem limbs_plus {A C : List Nat} (hA : Lim A) (hC : Lim C) (nA : A.length ≤ 4398046511104) (nC : C.length ≤ 4398046511104) : FSpec P F.rational_limbs_plus [.d (u32s A), .d (u32s C)] (.d (u32s (lim (val A + val C)))) := by
 refine FSpec.intro fn.rational_limbs_plus (by rfl) (by rfl) (nb9 (by rfl)) fun E hE => (AW.sg hE rfl (asM rfl (OL.nil (AW.sg hE rfl (asM rfl (OL.nil (AW.sg hE rfl ?_)))))))
 refine asD rfl (OL.nil (AW.seq (AW.sg hE rfl (asD rfl (OL.nil (AW.own 5 34 T.u32 1 rfl rfl (AW.block ?_)))))))
 refine AW.while (α := Nat × List Nat × Nat × Nat × Nat) (fun (i, out, sum, b, c) => [(0, .d (u32s A)), (1, .d (u32s C)), (5, .osl 34 b out.length c), (6, .d (dU sum)), (7, .d (dI i))]) (fun (i, out, sum, b, c) => [(34, .row b c T.u32 1 (out.map d32))]) (fun (i, out, sum, b, c) => out.length = i ∧ Lim out ∧ val out + Bp i * sum = val (A.take i) + val (C.take i) ∧ sum ≤ 1 ∧ i ≤ max A.length C.length + 1 ∧ (i = max A.length C.length + 1 → sum = 0)) (fun (i, out, sum, b, c) => max A.length C.length + 1 - i) (0, [], 0, 0, 0) ⟨⟨rfl, Lim.nil, rfl, by omega, by omega, by omega⟩, .rq5, .cons rfl .nil⟩ ?_
 rintro ⟨i, out, sum, b, c⟩ ⟨h1, hO, h2, h3, h4, h5⟩
 refine AW.seq ?_
 refine AW.mid (α := Unit) (fun _u => [(0, .d (u32s A)), (1, .d (u32s C)), (5, .osl 34 b out.length c), (6, .d (dU sum)), (7, .d (dI i)), (18, .d (dB (decide (i < max A.length C.length ∨ 0 < sum))))]) (fun _u => [(34, .row b c T.u32 1 (out.map d32))]) (fun _u => True) ?_ ?_
 ·refine AW.rg hE rfl (mvD rfl (mvD rfl (lnL sl.limbs rfl rfl (mvD rfl (lnL sl.limbs rfl rfl (mx rfl rfl (c := ((max A.length C.length : Nat) : Int)) (by omega) (c_lss rfl rfl rfl ?_)))))))
  refine OL.split 14 rfl (fun hi => ?_) (fun hi => ?_)
  ·have hi := of_decide_eq_true hi
   exact mvD rfl (OL.nd rfl (OL.nd rfl (pkT rfl rfl (OL.nil (AW.reach () ⟨trivial, .cons (VLe.refl _) (.cons (VLe.refl _) (.cons (VLe.refl _) (.cons (VLe.refl _) (.cons (VLe.refl _) (.cons (VLe.bool (by simp; omega)) .nil))))), .cons rfl .nil⟩)))))
  ·have hi := of_decide_eq_false hi
   exact mvD rfl (OL.yes rfl (mvD rfl (OL.yes rfl (c_gtr rfl rfl rfl (pkF rfl rfl (OL.nil (AW.reach () ⟨trivial, .cons (VLe.refl _) (.cons (VLe.refl _) (.cons (VLe.refl _) (.cons (VLe.refl _) (.cons (VLe.refl _) (.cons (VLe.bool (by simp; omega)) .nil))))), .cons rfl .nil⟩)))))))
 rintro ⟨⟩ -
 refine AW.cond rfl (fun h => ?_) (fun h => ?_)
 ·have h := of_decide_eq_true h
  refine AW.skip (AW.seq (AW.block (AW.seq ?_)))
  have hx := hA.getD i
  have hy := hC.getD i
  refine AW.rg hE rfl (mvD rfl (mvD rfl (mvD rfl (cl (limbs_atn hA) rfl (VLes.refl _) (mvD rfl (mvD rfl (cl (limbs_atn hC) rfl (VLes.refl _) ?_)))))))
  refine add_u64 rfl rfl (by omega) (add_u64 rfl rfl (by omega) (asD rfl (OL.nil (AW.sg hE rfl (mvO rfl (mvD rfl (cv it.u64 it.u32 rfl (c := (((sum + (A.getD i 0 + C.getD i 0)) % 4294967296 : Nat) : Int)) (by rw [wrap_u32_mod]; omega) ?_)))))))
  refine lt1 sl.limbs (VC.d _).vd rfl (by decide) ?_
  refine apO sl.limbs rfl rfl rfl (by simp) (VC.d _) (by simp [D.cells]) (by simp; omega) (by simp; omega) (.inr rfl) (ys := (out ++ [(sum + (A.getD i 0 + C.getD i 0)) % 4294967296]).map d32) (by simp) (n2 := (out ++ [(sum + (A.getD i 0 + C.getD i 0)) % 4294967296]).length) (by simp) fun b2 c2 => ?_
  refine asO rfl (OL.nil (AW.rg hE rfl (mvD rfl (shr32 rfl rfl rfl (asD rfl (OL.nil (AW.rg hE rfl ?_)))))))
  refine mvD rfl (add_i64 rfl rfl (by omega) (asD rfl (OL.nil ?_)))
  exact AW.again (x := (i, out, sum, b, c)) (i + 1, out ++ [(sum + (A.getD i 0 + C.getD i 0)) % 4294967296], (sum + (A.getD i 0 + C.getD i 0)) / 4294967296, b2, c2) (by (simp only []; omega)) ⟨⟨by simp [h1], hO.append (.cons (Nat.mod_lt _ (by decide)) .nil), by rw [val_snoc, h1, take_succ_val hA, take_succ_val hC]; exact plus_step h2, by omega, by omega, fun e => by rw [getD_out (A := A) (by omega), getD_out (A := C) (by omega)]; omega⟩, .rq5, .cons rfl .nil⟩
 ·have h := of_decide_eq_false h
  refine AW.exit (AW.seq ?_)
  have hv : val out = val A + val C := by
   have := h2
   rw [take_all (A := A) (by omega), take_all (A := C) (by omega), show sum = 0 by omega] at this
   simpa using this
  refine AW.freeze 34 rfl (AW.to [(5, .d (u32s out))] [] (.cons (frz_osl (by simp) rfl) .nil) .nil ?_)
  exact AW.rg hE rfl (mvD rfl (cl (limbs_clean hO (by omega)) rfl (VLes.refl _) (asD rfl (OL.nil (AW.ret (RetQ.r ⟨_, .tmp rfl .nil, .le (vle_of_eq (by rw [← hv]; rfl))⟩))))))
theorem limbs_minus {A C : List Nat} (hA : Lim A) (hC : Lim C) (nA : A.length ≤ 8796093022208) (hle : val C ≤ val A) : FSpec P F.rational_limbs_minus [.d (u32s A), .d (u32s C)] (.d (u32s (lim (val A - val C)))) := by
 refine FSpec.intro fn.rational_limbs_minus (by rfl) (by rfl) (nb9 (by rfl)) fun E hE => (AW.sg hE rfl (asM rfl (OL.nil (AW.sg hE rfl (mvD rfl (lnL sl.limbs rfl rfl (mkL d32 0 sl.limbs z.u32 (.cons (VC.d _) .nil) rfl rfl (Nat.le_refl _) (by omega) (by omega) rfl fun b11 => ?_)))))))
 refine asO rfl (OL.nil (AW.sg hE rfl (asD rfl (OL.nil (AW.seq (AW.sg hE rfl (mvD rfl ?_)))))))
 refine lnL sl.limbs rfl rfl (mvD rfl (OL.nil (AW.block ?_)))
 refine AW.while (α := Nat × List Nat × Nat) (fun (i, out, less) => [(0, .d (u32s A)), (1, .d (u32s C)), (5, .osl 11 b11 A.length A.length), (6, .d (dU less)), (13, .d (dI A.length)), (14, .d (dI i))]) (fun (i, out, less) => [(11, .row b11 A.length T.u32 1 (out.map d32))]) (fun (i, out, less) => out.length = A.length ∧ Lim out ∧ val (A.take i) + less * Bp i = val (out.take i) + val (C.take i) ∧ less ≤ 1 ∧ i ≤ A.length) (fun (i, out, less) => A.length - i) (0, List.replicate A.length 0, 0) ⟨⟨by simp, Lim.zeros _, by simp [val_nil], by omega, by omega⟩, .rq6, .cons rfl .nil⟩ ?_
 rintro ⟨i, out, less⟩ ⟨h1, hO, h2, h3, h4⟩
 refine AW.sg hE rfl (c_lss rfl rfl rfl (OL.nil (AW.seq (AW.cond rfl (fun h => ?_) (fun h => ?_)))))
 ·have h := of_decide_eq_true h
  refine AW.skip (AW.seq (AW.block (AW.sg hE rfl (mvD rfl (asD rfl (OL.nil (AW.seq ?_)))))))
  have hx := hA.getD i
  have hy := hC.getD i
  refine AW.rg hE rfl (mvD rfl (mvD rfl (cl (limbs_atn hA) rfl (VLes.refl _) (mvD rfl (mvD rfl (cl (limbs_atn hC) rfl (VLes.refl _) (subm_u64 rfl rfl rfl ?_)))))))
  refine mvD rfl (subm_u64 rfl rfl rfl (asD rfl (OL.nil (AW.rg hE rfl (mvO rfl (mvD rfl (mvD rfl ?_)))))))
  refine cv it.u64 it.u32 rfl (c := (((A.getD i 0 + 4294967296 - C.getD i 0 - less) % 4294967296 : Nat) : Int)) (by rw [wrap_u32_mod]; omega) (mvD rfl (shr63 rfl rfl rfl (ixOn sl.limbs rfl rfl (by omega) (stE sz.u32 rfl (VC.d _).vd rfl rfl (by simp; omega) (es2 := (out.set i ((A.getD i 0 + 4294967296 - C.getD i 0 - less) % 4294967296)).map d32) (by rw [List.map_set]) (asD rfl (OL.nil (AW.rg hE rfl ?_)))))))
  refine add_i64 rfl rfl (by omega) (mvD rfl (OL.nil ?_))
  exact AW.again (x := (i, out, less)) (i + 1, out.set i ((A.getD i 0 + 4294967296 - C.getD i 0 - less) % 4294967296), if A.getD i 0 < C.getD i 0 + less then 1 else 0) (by (simp only []; omega)) ⟨⟨by simp [h1], hO.set _ (Nat.mod_lt _ (by decide)), by rw [take_succ_val hA, take_succ_val hC, take_succ_val (hO.set _ (Nat.mod_lt _ (by decide))), List.take_set_of_le (Nat.le_refl _), getD_set_self (by omega)]; exact minus_step h2 hx hy h3, by split <;> omega, by omega⟩, .cons (VLe.refl _) (.cons (VLe.refl _) (.cons (VLe.refl _) (.cons (VLe.int (by split <;> omega)) .rq2))), .cons rfl .nil⟩
 ·have h := of_decide_eq_false h
  refine AW.exit (AW.seq ?_)
  have hv : val out = val A - val C := minus_end hA hO h1 hle (by rw [show i = A.length by omega] at h2; exact h2) h3 hC
  refine AW.freeze 11 rfl (AW.to [(5, .d (u32s out))] [] (.cons (frz_osl (by simp [h1]) rfl) .nil) .nil ?_)
  exact AW.rg hE rfl (mvD rfl (cl (limbs_clean hO (by omega)) rfl (VLes.refl _) (asD rfl (OL.nil (AW.ret (RetQ.r ⟨_, .tmp rfl .nil, .le (vle_of_eq (by rw [← hv]; rfl))⟩))))))
end Go.Proofs.YtippcclgnabpdaaGreatDoor

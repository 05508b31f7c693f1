/-
  Walks of package rational, part 2: products, single limbs, shifts, the number of bits (printed by mk.py).
-/
import Derived.Test.YtippcclgnabpdaaGreatDoorKLimbsA
import Derived.Test.YtippcclgnabpdaaGreatDoorKNuma
set_option linter.unusedVariables false
set_option linter.unusedSimpArgs false
namespace Go.Proofs.YtippcclgnabpdaaGreatDoor
open Go Go.AL
theorem limbs_times {A C : List Nat} (hA : Lim A) (hC : Lim C) (nA : A.length ≤ 4398046511104) (nC : C.length ≤ 4398046511104) : FSpec P F.rational_limbs_times [.d (u32s A), .d (u32s C)] (.d (u32s (lim (val A * val C)))) := by
 refine FSpec.intro fn.rational_limbs_times (by rfl) (by rfl) (nb9 (by rfl)) fun E hE => (AW.sg hE rfl (asM rfl (OL.nil (AW.sg hE rfl (mvD rfl (lnL sl.limbs rfl rfl (mvD rfl ?_)))))))
 refine lnL sl.limbs rfl rfl (bo rfl rfl (bin_add (c := ((A.length + C.length : Nat) : Int)) (by omega) (wrap_i64 (by omega))) (mkL d32 0 sl.limbs z.u32 (.cons (VC.d _) .nil) rfl rfl (Nat.le_refl _) (by omega) (by omega) rfl fun b => (asO rfl (OL.nil (AW.seq (AW.sg hE rfl (mvD rfl ?_)))))))
 refine lnL sl.limbs rfl rfl (mvD rfl (OL.nil (AW.block ?_)))
 refine AW.while (α := Nat × List Nat) (fun (i, out) => [(0, .d (u32s A)), (1, .d (u32s C)), (5, .osl 14 b (A.length + C.length) (A.length + C.length)), (16, .d (dI A.length)), (17, .d (dI i))]) (fun (i, out) => [(14, .row b (A.length + C.length) T.u32 1 (out.map d32))]) (fun (i, out) => out.length = A.length + C.length ∧ Lim out ∧ val out = val (A.take i) * val C ∧ i ≤ A.length) (fun (i, out) => A.length - i) (0, List.replicate (A.length + C.length) 0) ⟨⟨by simp, Lim.zeros _, by simp [val_nil, val_zeros], by omega⟩, .rq5, .cons rfl .nil⟩ ?_
 rintro ⟨i, out0⟩ ⟨h1, hO0, h2, h3⟩
 refine AW.sg hE rfl (c_lss rfl rfl rfl (OL.nil (AW.seq (AW.cond rfl (fun h => ?_) (fun h => ?_)))))
 ·have h := of_decide_eq_true h
  refine AW.skip (AW.seq (AW.block (AW.sg hE rfl (mvD rfl (asD rfl (OL.nil (AW.sg hE rfl ?_)))))))
  refine asD rfl (OL.nil (AW.sg hE rfl (asD rfl (OL.nil (AW.block ?_)))))
  refine AW.while (α := Nat × List Nat × Nat) (fun (j, out, sum) => [(0, .d (u32s A)), (1, .d (u32s C)), (5, .osl 14 b (A.length + C.length) (A.length + C.length)), (6, .d (dI i)), (7, .d (dU sum)), (8, .d (dI j)), (16, .d (dI A.length)), (17, .d (dI i))]) (fun (j, out, sum) => [(14, .row b (A.length + C.length) T.u32 1 (out.map d32))]) (fun (j, out, sum) => out.length = A.length + C.length ∧ Lim out ∧ val out + sum * Bp (i + j) = val (A.take i) * val C + A.getD i 0 * Bp i * val (C.take j) ∧ sum ≤ 4294967295 ∧ j ≤ C.length + 1 ∧ (j = C.length + 1 → sum = 0)) (fun (j, out, sum) => C.length + 1 - j) (0, out0, 0) ⟨⟨h1, hO0, by simp [val_nil, h2], by omega, by omega, by omega⟩, .rq8, .cons rfl .nil⟩ ?_
  rintro ⟨j, out, sum⟩ ⟨g1, hO, g2, g3, g4, g5⟩
  refine AW.seq ?_
  refine AW.mid (α := Unit) (fun _u => [(0, .d (u32s A)), (1, .d (u32s C)), (5, .osl 14 b (A.length + C.length) (A.length + C.length)), (6, .d (dI i)), (7, .d (dU sum)), (8, .d (dI j)), (16, .d (dI A.length)), (17, .d (dI i)), (27, .d (dB (decide (j < C.length ∨ 0 < sum))))]) (fun _u => [(14, .row b (A.length + C.length) T.u32 1 (out.map d32))]) (fun _u => True) ?_ ?_
  ·refine AW.rg hE rfl (mvD rfl (mvD rfl (lnL sl.limbs rfl rfl (c_lss rfl rfl rfl (OL.split 23 rfl (fun hj => ?_) (fun hj => ?_))))))
   ·have hj := of_decide_eq_true hj
    exact mvD rfl (OL.nd rfl (OL.nd rfl (pkT rfl rfl (OL.nil (AW.reach () ⟨trivial, .cons (VLe.refl _) (.cons (VLe.refl _) (.cons (VLe.refl _) (.cons (VLe.refl _) (.cons (VLe.refl _) (.cons (VLe.refl _) (.cons (VLe.refl _) (.cons (VLe.refl _) (.cons (VLe.bool (by simp; omega)) .nil)))))))), .cons rfl .nil⟩)))))
   ·have hj := of_decide_eq_false hj
    exact mvD rfl (OL.yes rfl (mvD rfl (OL.yes rfl (c_gtr rfl rfl rfl (pkF rfl rfl (OL.nil (AW.reach () ⟨trivial, .cons (VLe.refl _) (.cons (VLe.refl _) (.cons (VLe.refl _) (.cons (VLe.refl _) (.cons (VLe.refl _) (.cons (VLe.refl _) (.cons (VLe.refl _) (.cons (VLe.refl _) (.cons (VLe.bool (by simp; omega)) .nil)))))))), .cons rfl .nil⟩)))))))
  rintro ⟨⟩ -
  refine AW.cond rfl (fun hc => ?_) (fun hc => ?_)
  ·have hc := of_decide_eq_true hc
   refine AW.skip (AW.seq (AW.block (AW.seq ?_)))
   have ha := hA.getD i
   have hc2 := hC.getD j
   have ho := hO.getD (i + j)
   have hp : A.getD i 0 * C.getD j 0 ≤ 4294967295 * 4294967295 := Nat.mul_le_mul (by omega) (by omega)
   have st1 : val (out.set (i + j) ((sum + (out.getD (i + j) 0 + A.getD i 0 * C.getD j 0)) % 4294967296)) + (sum + (out.getD (i + j) 0 + A.getD i 0 * C.getD j 0)) / 4294967296 * Bp (i + (j + 1)) = val (A.take i) * val C + A.getD i 0 * Bp i * val (C.take (j + 1)) := by
    rw [take_succ_val hC]; exact times_step (by omega) g2 rfl
   refine AW.dg 1 [0,1,2,3,4,5,6,7,8,9,10,11,12,13,14,15,16,17] order_free hE rfl (by kernel_rfl) (OI.of_OL (os := [_,_,_,_,_,_,_,_,_,_,_,_,_,_,_,_,_,_]) rfl ?_)
   refine mvD rfl (mvO rfl (mvD rfl (mvD rfl (add_i64 rfl rfl (by omega) (ixO sl.limbs rfl rfl (by omega) (by omega) (i := i + j) (by omega) (ldEL ce.u32 0 (by decide) rfl rfl (by omega) rfl (cv it.u32 it.u64 rfl (wrap_u64 (by omega)) ?_)))))))
   refine mvD rfl (mvD rfl (cl (limbs_atn hA) rfl (VLes.refl _) (mvD rfl (mvD rfl (cl (limbs_atn hC) rfl (VLes.refl _) (mul_u64 rfl rfl (by omega) (add_u64 rfl rfl (by omega) ?_)))))))
   refine add_u64 rfl rfl (by omega) (asD rfl (OL.nil (AW.sg hE rfl (mvO rfl (mvD rfl (mvD rfl (add_i64 rfl rfl (by omega) ?_)))))))
   refine mvD rfl (cv it.u64 it.u32 rfl (c := (((sum + (out.getD (i + j) 0 + A.getD i 0 * C.getD j 0)) % 4294967296 : Nat) : Int)) (by rw [wrap_u32_mod]; omega) (ixO sl.limbs rfl rfl (by omega) (by omega) (i := i + j) (by omega) (stE sz.u32 rfl (VC.d _).vd rfl rfl (by simp; omega) (es2 := (out.set (i + j) ((sum + (out.getD (i + j) 0 + A.getD i 0 * C.getD j 0)) % 4294967296)).map d32) (by rw [List.map_set]) (OL.nil (AW.rg hE rfl (mvD rfl (shr32 rfl rfl rfl ?_)))))))
   refine asD rfl (OL.nil (AW.rg hE rfl (mvD rfl (add_i64 rfl rfl (by omega) (asD rfl (OL.nil ?_))))))
   exact AW.again (x := (j, out, sum)) (j + 1, out.set (i + j) ((sum + (out.getD (i + j) 0 + A.getD i 0 * C.getD j 0)) % 4294967296), (sum + (out.getD (i + j) 0 + A.getD i 0 * C.getD j 0)) / 4294967296) (by (simp only []; omega)) ⟨⟨by simp [g1], hO.set _ (Nat.mod_lt _ (by decide)), st1, by omega, by omega, fun e => times_top hA hC (j := j + 1) (by omega) st1 e.symm⟩, .rq8, .cons rfl .nil⟩
  ·have hc := of_decide_eq_false hc
   refine AW.exit (AW.rg hE rfl (add_i64 rfl rfl (by omega) (mvD rfl (OL.nil ?_))))
   exact AW.again (x := (i, out0)) (i + 1, out) (by (simp only []; omega)) ⟨⟨g1, hO, outer_step hA (j := j) (by omega) (by rw [show sum = 0 by omega] at g2; exact g2), by omega⟩, .rq5, .cons rfl .nil⟩
 ·have h := of_decide_eq_false h
  refine AW.exit (AW.seq ?_)
  have hv : val out0 = val A * val C := by rw [h2, take_all (by omega)]
  refine AW.freeze 14 rfl (AW.to [(5, .d (u32s out0))] [] (.cons (frz_osl (by simp [h1]) rfl) .nil) .nil ?_)
  exact AW.rg hE rfl (mvD rfl (cl (limbs_clean hO0 (by omega)) rfl (VLes.refl _) (asD rfl (OL.nil (AW.ret (RetQ.r ⟨_, .tmp rfl .nil, .le (vle_of_eq (by rw [← hv]; rfl))⟩))))))
theorem limbs_small {A : List Nat} {d : Nat} (hA : Lim A) (nA : A.length ≤ 8796093022208) (h0 : 0 < d) (hd : d < 4294967296) : FSpec P F.rational_limbs_small [.d (u32s A), .d (d32 d)] (.tup [.d (u32s (lim (val A / d))), .d (d32 (val A % d))]) := by
 refine FSpec.intro fn.rational_limbs_small (by rfl) (by rfl) (nb9 (by rfl)) fun E hE => (AW.sg hE rfl (asM rfl (asD rfl (OL.nil (AW.sg hE rfl (mvD rfl (lnL sl.limbs rfl rfl ?_)))))))
 refine mkL d32 0 sl.limbs z.u32 (.cons (VC.d _) .nil) rfl rfl (Nat.le_refl _) (by omega) (by omega) rfl fun b => (asO rfl (asD rfl (OL.nil (AW.seq (AW.sg hE rfl (mvD rfl (lnL sl.limbs rfl rfl ?_)))))))
 refine sub_i64 rfl rfl (by omega) (asD rfl (OL.nil (AW.block ?_)))
 refine AW.while (α := Nat × List Nat × Nat) (fun (n, out, r) => [(0, .d (u32s A)), (1, .d (d32 d)), (6, .osl 11 b A.length A.length), (7, .d (dU r)), (8, .d (dI ((n : Int) - 1)))]) (fun (n, out, r) => [(11, .row b A.length T.u32 1 (out.map d32))]) (fun (n, out, r) => out.length = A.length ∧ Lim out ∧ val A / Bp n = val (out.drop n) * d + r ∧ r < d ∧ n ≤ A.length) (fun (n, out, r) => n) (A.length, List.replicate A.length 0, 0) ⟨⟨by simp, Lim.zeros _, by rw [Nat.div_eq_of_lt (val_lt hA), List.drop_eq_nil_of_le (by simp), val_nil]; omega, h0, Nat.le_refl _⟩, .rq5, .cons rfl .nil⟩ ?_
 rintro ⟨n, out, r⟩ ⟨h1, hO, h2, h3, h4⟩
 refine AW.seq (AW.sg hE rfl (mvD rfl (c_geq rfl rfl rfl (OL.nil (AW.cond rfl (fun h => ?_) (fun h => ?_))))))
 ·have h := of_decide_eq_true h
  refine AW.skip (AW.seq (AW.block (AW.seq ?_)))
  have ha := hA.getD (n - 1)
  have e1 : ((n : Int) - 1).toNat = n - 1 := by omega
  have hq : (r * 4294967296 + A.getD (n - 1) 0) / d < 4294967296 := Nat.div_lt_of_lt_mul (by have := Nat.mul_le_mul_right 4294967296 (show r + 1 ≤ d from h3); omega)
  refine AW.rg hE rfl (mvD rfl (shl32 rfl rfl rfl (by omega) (mvD rfl (mvD rfl (ixL sl.limbs 0 rfl rfl (by omega) (by omega) rfl rfl ?_)))))
  rw [e1]
  refine ldRC ce.u32 rfl (cv it.u32 it.u64 rfl (wrap_u64 (by omega)) (orA (a := r * 4294967296) (b := A.getD (n - 1) 0) 32 r rfl rfl rfl (by omega) (by omega) (asD rfl (OL.nil (AW.sg hE rfl (mvO rfl (mvD rfl ?_)))))))
  refine mvD rfl (mvD rfl (cv it.u32 it.u64 rfl (wrap_u64 (by omega)) (bo rfl rfl (c := .int .u64 (((r * 4294967296 + A.getD (n - 1) 0) / d : Nat) : Int)) (quo_nat (by omega) (by omega)) (cv it.u64 it.u32 rfl (c := (((r * 4294967296 + A.getD (n - 1) 0) / d : Nat) : Int)) (wrap_u32 ⟨Int.natCast_nonneg _, by generalize (r * 4294967296 + A.getD (n - 1) 0) / d = q at hq ⊢; omega⟩) (ixO sl.limbs rfl rfl (by omega) (by omega) (i := n - 1) (by omega) (stE sz.u32 rfl (VC.d _).vd rfl rfl (by simp; omega) (es2 := (out.set (n - 1) ((r * 4294967296 + A.getD (n - 1) 0) / d)).map d32) (by rw [List.map_set]) (OL.nil ?_)))))))
  refine AW.rg hE rfl (mvD rfl (mvD rfl (cv it.u32 it.u64 rfl (wrap_u64 (by omega)) (bo rfl rfl (c := .int .u64 (((r * 4294967296 + A.getD (n - 1) 0) % d : Nat) : Int)) (rem_nat (by omega)) (asD rfl (OL.nil (AW.rg hE rfl ?_)))))))
  refine mvD rfl (sub_i64 rfl rfl (by omega) (asD rfl (OL.nil ?_)))
  exact AW.again (x := (n, out, r)) (n - 1, out.set (n - 1) ((r * 4294967296 + A.getD (n - 1) 0) / d), (r * 4294967296 + A.getD (n - 1) 0) % d) (by (simp only []; omega)) ⟨⟨by simp [h1], hO.set _ hq, by rw [drop_set_pred (by omega) (by omega)]; exact small_step h0 hA (by omega) h2, Nat.mod_lt _ h0, by omega⟩, .cons (VLe.refl _) (.cons (VLe.refl _) (.cons (VLe.refl _) (.cons (VLe.refl _) (.cons (VLe.int (by omega)) .nil)))), .cons rfl .nil⟩
 ·have h := of_decide_eq_false h
  refine AW.exit (AW.seq ?_)
  have hv : val A = val out * d + r := by have := h2; rw [show n = 0 by omega] at this; simpa [Bp_zero] using this
  have hu := (Nat.div_mod_unique (a := val A) (c := r) (d := val out) h0).2 ⟨by rw [Nat.mul_comm d]; omega, h3⟩
  have hv1 : val out = val A / d := hu.1.symm
  have hv2 : r = val A % d := hu.2.symm
  refine AW.freeze 11 rfl (AW.to [(6, .d (u32s out)), (7, .d (dU r))] [] (.cons (frz_osl (by simp [h1]) rfl) .rq1) .nil ?_)
  refine AW.rg hE rfl (mvD rfl (cl (limbs_clean hO (by omega)) rfl (VLes.refl _) (mvD rfl (cv it.u64 it.u32 rfl (c := ((r : Nat) : Int)) (by rw [wrap_u32_mod]; omega) (asD rfl (asD rfl (OL.nil ?_)))))))
  exact AW.ret (RetQ.r ⟨_, .tmp rfl (.tmp rfl .nil), _, .cons (.le (VLe.refl _)) (.cons (.le (VLe.refl _)) .nil), by rw [← hv1, ← hv2]; rfl⟩)
theorem bits_len {x : Nat} (hx : x < 4294967296) : FSpec P F.math_bits_Len32 [.d (d32 x)] (.d (dI (blen x))) := by
 refine FSpec.intro fn.math_bits_Len32 (by rfl) (by rfl) (nb9 (by rfl)) fun E hE => (AW.sg hE rfl (asD rfl (OL.nil (AW.mid (α := Nat × Nat) (fun (y, s) => [(0, .d (d32 y)), (2, .d (dI s))]) (fun (y, s) => []) (fun (y, s) => y < 65536 ∧ blen y + s = blen x ∧ s ≤ 16) ?_ ?_))))
 ·refine AW.sg hE rfl (mvD rfl (c_geq rfl rfl rfl (OL.nil (AW.cond rfl (fun h => ?_) (fun h => ?_)))))
  ·have h := of_decide_eq_true h
   refine AW.sg hE rfl (mvD rfl (shrV rfl rfl ⟨by decide, by decide⟩ (c := ((x / 65536 : Nat) : Int)) (by show (x : Int) / 65536 = _; omega) (asD rfl (OL.nil (AW.rg hE rfl (asD rfl (OL.nil ?_)))))))
   exact AW.reach (x / 65536, 16) ⟨⟨by omega, blen_shift (k := 16) (by omega), by omega⟩, .rq2, .nil⟩
  ·have h := of_decide_eq_false h
   exact AW.skip (AW.reach (x, 0) ⟨⟨by omega, rfl, by omega⟩, .rq2, .nil⟩)
 rintro ⟨y, s⟩ ⟨h1, h2, h2s⟩
 refine AW.mid (α := Nat × Nat) (fun (z, t) => [(0, .d (d32 z)), (2, .d (dI t))]) (fun (z, t) => []) (fun (z, t) => z < 256 ∧ blen z + t = blen x ∧ t ≤ 24) ?_ ?_
 ·refine AW.sg hE rfl (mvD rfl (c_geq rfl rfl rfl (OL.nil (AW.cond rfl (fun h8 => ?_) (fun h8 => ?_)))))
  ·have h8 := of_decide_eq_true h8
   refine AW.sg hE rfl (mvD rfl (shrV rfl rfl ⟨by decide, by decide⟩ (c := ((y / 256 : Nat) : Int)) (by show (y : Int) / 256 = _; omega) (asD rfl (OL.nil (AW.rg hE rfl (mvD rfl (add_i64 rfl rfl (by omega) ?_)))))))
   exact asD rfl (OL.nil (AW.reach (y / 256, s + 8) ⟨⟨by omega, by have := blen_shift (x := y) (k := 8) (by omega); rw [show y / 256 = y / 2 ^ 8 from rfl]; omega, by omega⟩, .rq2, .nil⟩))
  ·have h8 := of_decide_eq_false h8
   exact AW.skip (AW.reach (y, s) ⟨⟨by omega, h2, by omega⟩, .rq2, .nil⟩)
 rintro ⟨z, t⟩ ⟨h3, h4, h4t⟩
 refine AW.seq ?_
 have hz := blen_mono (x := z) (k := 8) (by omega)
 refine AW.rg hE rfl (mvD rfl (mvD rfl (cv it.u32 it.u8 rfl (c := (z : Int)) (wrap_u8 (by omega)) (sAt st.str rfl rfl (q := blen z) (tbl (by kernel_rfl) h3) (cv it.u8 it.int rfl (wrap_i64 (by omega)) (add_i64 rfl rfl (by omega) (asD rfl ?_)))))))
 exact OL.nil (AW.ret (RetQ.r ⟨_, .tmp rfl .nil, .le (VLe.int (by omega))⟩))
theorem bits_lead {x : Nat} (hx : x < 4294967296) : FSpec P F.math_bits_LeadingZeros32 [.d (d32 x)] (.d (dI (32 - (blen x : Int)))) := by
 refine FSpec.intro fn.math_bits_LeadingZeros32 (by rfl) (by rfl) (nb9 (by rfl)) fun E hE => (AW.sg hE rfl (asD rfl (OL.nil (AW.seq ?_))))
 have h0 := blen_mono (x := x) (k := 32) (by omega)
 exact AW.rg hE rfl (mvD rfl (cl (bits_len hx) rfl (VLes.refl _) (sub_i64 rfl rfl (by omega) (asD rfl (OL.nil (AW.ret (RetQ.r ⟨_, .tmp rfl .nil, .le (VLe.refl _)⟩)))))))
end Go.Proofs.YtippcclgnabpdaaGreatDoor

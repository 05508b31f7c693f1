/-
  Walks of the reference's numbers, part 2: division (printed by mk2.py).
-/
import Derived.Test.YtjghehkgmanmbaaGreatKRefA
import Derived.Test.YtjghehkgmanmbaaGreatKAlgd
set_option linter.unusedVariables false
set_option linter.unusedSimpArgs false
namespace Go.Proofs.YtjghehkgmanmbaaGreat
open Go Go.AL
theorem ref_plusN {a b : Nat} (na : (lim a).length ≤ 4398046511104) (nb : (lim b).length ≤ 4398046511104) : FSpec P F.ref01_plus [.d (u32s (lim a)), .d (u32s (lim b))] (.d (u32s (lim (a + b)))) := by
 have h := ref_plus (lim_Lim a) (lim_Lim b) na nb
 rw [val_lim, val_lim] at h; exact h
theorem ref_minusN {a b : Nat} (na : (lim a).length ≤ 8796093022208) (hle : b ≤ a) : FSpec P F.ref01_minus [.d (u32s (lim a)), .d (u32s (lim b))] (.d (u32s (lim (a - b)))) := by
 have h := ref_minus (lim_Lim a) (lim_Lim b) na (by rw [val_lim, val_lim]; exact hle)
 rw [val_lim, val_lim] at h; exact h
theorem ref_timesN {a b : Nat} (na : (lim a).length ≤ 4398046511104) (nb : (lim b).length ≤ 4398046511104) : FSpec P F.ref01_times [.d (u32s (lim a)), .d (u32s (lim b))] (.d (u32s (lim (a * b)))) := by
 have h := ref_times (lim_Lim a) (lim_Lim b) na nb
 rw [val_lim, val_lim] at h; exact h
theorem Int.natCast_pow_two (m : Nat) : ((2 ^ m : Nat) : Int) = 2 ^ m := by rw [Int.natCast_pow]; rfl
theorem pow_lim2 (m : Nat) : 2 ^ (m % 32) < 4294967296 := Nat.pow_lt_pow_right (m := m % 32) (n := 32) (by decide) (Nat.mod_lt _ (by decide))
theorem pow_lim (m : Nat) : ((2 ^ (m % 32) : Nat) : Int) ≤ 4294967295 := by have := pow_lim2 m; omega
theorem ref_divide {a b : Nat} (hb : b ≠ 0) (na : (lim a).length ≤ 1099511627776) (nb : (lim b).length ≤ 1099511627776) : FSpec P F.ref01_divide [.d (u32s (lim a)), .d (u32s (lim b))] (.tup [.d (u32s (lim (a / b))), .d (u32s (lim (a % b)))]) := by
 refine FSpec.intro fn.ref01_divide (by rfl) (by rfl) (nb9 (by rfl)) fun E hE => ?_
 refine AW.sg hE rfl ?_
 refine asM rfl ?_
 refine asM rfl ?_
 refine OL.nil ?_
 refine AW.sg hE rfl ?_
 first | refine mvD rfl ?_ | refine mvO rfl ?_ | refine mvM rfl ?_
 first | refine lnL sl.u32s rfl rfl ?_ | refine lnO sl.u32s rfl rfl ?_ | refine lnM sl.u32s rfl rfl ?_ | refine lnD sl.u32s rfl rfl rfl ?_
 refine mkL d32 0 sl.u32s z.u32 (.cons (VC.d _) .nil) rfl rfl (Nat.le_refl _) (by omega) (by omega) rfl fun b11 => ?_
 first | refine asD rfl ?_ | refine asO rfl ?_ | refine asM rfl ?_
 refine OL.nil ?_
 refine AW.sg hE rfl ?_
 refine asM rfl ?_
 refine OL.nil ?_
 refine AW.seq ?_
 refine AW.sg hE rfl ?_
 first | refine mvD rfl ?_ | refine mvO rfl ?_ | refine mvM rfl ?_
 first | refine lnL sl.u32s rfl rfl ?_ | refine lnO sl.u32s rfl rfl ?_ | refine lnM sl.u32s rfl rfl ?_ | refine lnD sl.u32s rfl rfl rfl ?_
 refine mul_i64 rfl rfl (by omega) ?_
 refine sub_i64 rfl rfl (by omega) ?_
 refine asD rfl ?_
 refine OL.nil ?_
 refine AW.block ?_
 refine AW.whileK (α := Nat × List Nat × Nat × Nat) [(0, _), (1, _), (4, _), (5, _)] [] (fun (n, q, r, Q) => [(6, .osl 11 b11 (lim a).length (lim a).length), (7, .d (u32s (lim r))), (8, .d (dI ((n : Int) - 1)))]) (fun (n, q, r, Q) => [(11, .row b11 (lim a).length T.u32 1 (q.map d32))]) (fun (n, q, r, Q) => q.length = (lim a).length ∧ Lim q ∧ val q = Q * 2 ^ n ∧ a / 2 ^ n = Q * b + r ∧ r < b ∧ n ≤ 32 * (lim a).length) (fun (n, q, r, Q) => n) (32 * (lim a).length, List.replicate (lim a).length 0, 0, 0) (by repeat (first | exact Knows.nil | refine Knows.cons (by first | exact knD rfl | exact knA rfl | exact knP rfl | exact knO rfl | exact knM rfl | exact knE rfl | exact knR rfl | exact knF rfl | exact knT rfl | exact knJ) ?_)) .nil ⟨⟨by simp, Lim.zeros _, by rw [val_zeros, Nat.zero_mul], by rw [div_start, Nat.zero_mul], by omega, Nat.le_refl _⟩, .cons (by first | exact VLe.refl _ | exact VLe.int (by omega) | exact VLe.mt | exact vle_q0 | exact VLe.osl | exact VLe.ptr) (.cons (by rw [lim_zero]; exact VLe.mt) (.cons (by first | exact VLe.refl _ | exact VLe.int (by omega) | exact VLe.mt | exact vle_q0 | exact VLe.osl | exact VLe.ptr) .nil)), .cons rfl .nil⟩ ?_
 rintro ⟨n, q, r, Q⟩ ⟨h1, hq, h2, h3, h4, h5⟩
 refine AW.seq ?_
 refine AW.sg hE rfl ?_
 refine mvD rfl ?_
 refine c_geq rfl rfl rfl ?_
 refine OL.nil ?_
 refine AW.cond rfl (fun h => ?_) (fun h => ?_)
 ·have h := of_decide_eq_true h
  obtain ⟨m, rfl⟩ : ∃ m, n = m + 1 := ⟨n - 1, by omega⟩
  have hmi : ((m + 1 : Nat) : Int) - 1 = (m : Int) := by omega
  have hrl := len_le (Nat.le_of_lt h4)
  have ht : a / 2 ^ m % 2 < 2 := Nat.mod_lt _ (by decide)
  have hds := div_step (i := m) (Nat.pos_of_ne_zero hb) h3 h4
  have hr2 := len_le (show r + r + a / 2 ^ m % 2 ≤ b + b by omega)
  have hr3 := len_le (show r + r ≤ b + b by omega)
  have hbb := len_add b b
  refine AW.skip ?_
  refine AW.seq ?_
  refine AW.block ?_
  refine AW.sg hE rfl ?_
  first | refine mvD rfl ?_ | refine mvO rfl ?_ | refine mvM rfl ?_
  first | refine mvD rfl ?_ | refine mvO rfl ?_ | refine mvM rfl ?_
  refine clv rfl (.cons (by first | exact VLe.refl _ | exact VLe.mt | exact vle_q0 | exact VLe.ptr) (.cons (by first | exact VLe.refl _ | exact VLe.mt | exact vle_q0 | exact VLe.ptr) .nil)) (ref_plusN (by first | assumption | omega) (by first | assumption | omega)) ?_
  first | refine asD rfl ?_ | refine asO rfl ?_ | refine asM rfl ?_
  refine OL.nil ?_
  refine AW.midK (α := Unit) [(0, _), (1, _), (4, _), (5, _), (6, _), (8, _)] [(11, _)] (fun _u => [(7, .d (u32s (lim (r + r + a / 2 ^ m % 2))))]) (fun _u => []) (fun _u => True) (by repeat (first | exact Knows.nil | refine Knows.cons (by first | exact knD rfl | exact knA rfl | exact knP rfl | exact knO rfl | exact knM rfl | exact knE rfl | exact knR rfl | exact knF rfl | exact knT rfl | exact knJ) ?_)) (.cons (by first | exact owB rfl | exact owR rfl | exact owL rfl | exact owT rfl) .nil) ?_ ?_
  ·refine AW.sg hE rfl ?_
   first | refine mvD rfl ?_ | refine mvO rfl ?_ | refine mvM rfl ?_
   refine mvD rfl ?_
   refine bo rfl rfl (quoN m 32 hmi (by omega) (by decide)) ?_
   first | refine ixO sl.u32s rfl rfl (by omega) (by omega) rfl ?_ | refine ixLn sl.u32s 0 rfl rfl (by omega) rfl rfl ?_ | refine ixL sl.u32s 0 rfl rfl (by omega) (by omega) rfl rfl ?_
   first | refine ldRC ce.u32 rfl ?_ | refine ldPC ce.u32 rfl rfl rfl ?_
   refine mvD rfl ?_
   refine bo rfl rfl (remN m 32 hmi (by decide)) ?_
   refine cv it.int it.uint rfl (wrap_u64 (by omega)) ?_
   refine shrV rfl rfl ⟨Int.natCast_nonneg _, by rw [Int.toNat_natCast]; have : m % 32 < 32 := Nat.mod_lt _ (by decide); exact Nat.le_of_lt this⟩ (by rw [Int.toNat_natCast, div_pow_cast]) ?_
   refine bo rfl rfl (and1_u32 (Nat.lt_of_le_of_lt (Nat.div_le_self ..) ((lim_Lim a).getD _))) ?_
   rw [bit_eq (lim_Lim a), val_lim]
   refine c_eql rfl rfl rfl ?_
   refine OL.nil ?_
   refine AW.cond rfl (fun h33 => ?_) (fun h33 => ?_)
   ·try simp only [dx9] at h33
    refine AW.rg hE rfl ?_
    first | refine mvD rfl ?_ | refine mvO rfl ?_ | refine mvM rfl ?_
    refine lt1 sl.u32s (VC.d _).vd rfl (by decide) ?_
    refine cl (ref_plusN (b := 1) (by omega) (by have := len_small (g := 1) (by decide); omega)) rfl (.cons (VLe.refl _) (.cons (vle_of_eq (by rw [lim_small (n := 1) (by decide) (by decide)]; rfl)) .nil)) ?_
    first | refine asD rfl ?_ | refine asO rfl ?_ | refine asM rfl ?_
    refine OL.nil ?_
    exact AW.reach () ⟨trivial, Knows.app (.cons (VLe.refl _) (.cons (VLe.refl _) (.cons (VLe.refl _) (.cons (VLe.refl _) (.cons (VLe.refl _) (.cons (VLe.refl _) .nil)))))) (.cons (vle_of_eq (by rw [show a / 2 ^ m % 2 = 1 by omega]; rfl)) .nil), Owns.app (.cons rfl .nil) (.nil)⟩
   ·try simp only [dx9] at h33
    refine AW.skip ?_
    exact AW.reach () ⟨trivial, Knows.app (.cons (VLe.refl _) (.cons (VLe.refl _) (.cons (VLe.refl _) (.cons (VLe.refl _) (.cons (VLe.refl _) (.cons (VLe.refl _) .nil)))))) (.cons (vle_of_eq (by rw [show a / 2 ^ m % 2 = 0 by omega]; rfl)) .nil), Owns.app (.cons rfl .nil) (.nil)⟩
  rintro ⟨⟩ hφ
  refine AW.sg hE rfl ?_
  first | refine mvD rfl ?_ | refine mvO rfl ?_ | refine mvM rfl ?_
  first | refine mvD rfl ?_ | refine mvO rfl ?_ | refine mvM rfl ?_
  refine cl (ref_compare (by omega) (by omega)) rfl (VLes.refl _) ?_
  refine c_geq rfl rfl rfl ?_
  refine OL.nil ?_
  refine AW.cond rfl (fun h40 => ?_) (fun h40 => ?_)
  ·have h40 : b ≤ r + r + a / 2 ^ m % 2 := cmp_nneg (by have := of_decide_eq_true h40; omega)
   have hsb := set_bit (i := m) (by omega) hq h2
   refine AW.sg hE rfl ?_
   first | refine mvD rfl ?_ | refine mvO rfl ?_ | refine mvM rfl ?_
   first | refine mvD rfl ?_ | refine mvO rfl ?_ | refine mvM rfl ?_
   refine clv rfl (.cons (by first | exact VLe.refl _ | exact VLe.mt | exact vle_q0 | exact VLe.ptr) (.cons (by first | exact VLe.refl _ | exact VLe.mt | exact vle_q0 | exact VLe.ptr) .nil)) (ref_minusN (by first | assumption | omega) (by first | assumption | omega)) ?_
   first | refine asD rfl ?_ | refine asO rfl ?_ | refine asM rfl ?_
   refine OL.nil ?_
   refine AW.rg hE rfl ?_
   first | refine mvD rfl ?_ | refine mvO rfl ?_ | refine mvM rfl ?_
   refine mvD rfl ?_
   refine bo rfl rfl (quoN m 32 hmi (by omega) (by decide)) ?_
   refine ixOn sl.u32s rfl rfl (by omega) ?_
   refine ldEL ce.u32 0 (by decide) rfl rfl (by omega) rfl ?_
   refine mvD rfl ?_
   refine bo rfl rfl (remN m 32 hmi (by decide)) ?_
   refine cv it.int it.uint rfl (wrap_u64 (by omega)) ?_
   refine shlV rfl rfl ⟨Int.natCast_nonneg _, by rw [Int.toNat_natCast]; have : m % 32 < 32 := Nat.mod_lt _ (by decide); exact Nat.le_of_lt this⟩ (c := ((2 ^ (m % 32) : Nat) : Int)) (by rw [Int.toNat_natCast, Int.one_mul, ← Int.natCast_pow_two, wrap_u32 ⟨Int.natCast_nonneg _, pow_lim m⟩]) ?_
   refine bo rfl rfl (or_u32 (hq.getD _) (pow_lim2 m)) ?_
   refine ixOn sl.u32s rfl rfl (by omega) ?_
   refine stE sz.u32 rfl (VC.d _).vd rfl rfl (by simp; omega) (es2 := (q.set (m / 32) (q.getD (m / 32) 0 ||| 2 ^ (m % 32))).map d32) (by rw [List.map_set]) ?_
   refine OL.nil ?_
   refine AW.rg hE rfl ?_
   refine mvD rfl ?_
   refine sub_i64 rfl rfl (by omega) ?_
   refine asD rfl ?_
   refine OL.nil ?_
   exact AW.again (x := (m + 1, q, r, Q)) (m, q.set (m / 32) (q.getD (m / 32) 0 ||| 2 ^ (m % 32)), r + r + a / 2 ^ m % 2 - b, 2 * Q + 1) (by first | omega | (simp only []; omega)) ⟨⟨by simp [h1], hsb.2, hsb.1, (hds.2 h40).1, (hds.2 h40).2, by omega⟩, Knows.app (.cons (VLe.refl _) (.cons (VLe.refl _) (.cons (VLe.refl _) (.cons (VLe.refl _) .nil)))) (.cons (by first | exact VLe.refl _ | exact VLe.int (by omega) | exact VLe.mt | exact vle_q0 | exact VLe.osl | exact VLe.ptr) (.cons (by first | exact VLe.refl _ | exact VLe.int (by omega) | exact VLe.mt | exact vle_q0 | exact VLe.osl | exact VLe.ptr) (.cons (by first | exact VLe.refl _ | exact VLe.int (by omega) | exact VLe.mt | exact vle_q0 | exact VLe.osl | exact VLe.ptr) .nil))), .cons rfl .nil⟩
  ·have h40 : r + r + a / 2 ^ m % 2 < b := by have := of_decide_eq_false h40; rcases Nat.lt_or_ge (r + r + a / 2 ^ m % 2) b with h | h; exact h; exact absurd (cmp_ge h) this
   refine AW.skip ?_
   refine AW.rg hE rfl ?_
   refine mvD rfl ?_
   refine sub_i64 rfl rfl (by omega) ?_
   refine asD rfl ?_
   refine OL.nil ?_
   exact AW.again (x := (m + 1, q, r, Q)) (m, q, r + r + a / 2 ^ m % 2, 2 * Q) (by first | omega | (simp only []; omega)) ⟨⟨h1, hq, by rw [h2, Nat.pow_succ, Nat.mul_comm 2 Q, Nat.mul_assoc, Nat.mul_comm 2], hds.1 h40, h40, by omega⟩, Knows.app (.cons (VLe.refl _) (.cons (VLe.refl _) (.cons (VLe.refl _) (.cons (VLe.refl _) .nil)))) (.cons (by first | exact VLe.refl _ | exact VLe.int (by omega) | exact VLe.mt | exact vle_q0 | exact VLe.osl | exact VLe.ptr) (.cons (by first | exact VLe.refl _ | exact VLe.int (by omega) | exact VLe.mt | exact vle_q0 | exact VLe.osl | exact VLe.ptr) (.cons (by first | exact VLe.refl _ | exact VLe.int (by omega) | exact VLe.mt | exact vle_q0 | exact VLe.osl | exact VLe.ptr) .nil))), .cons rfl .nil⟩
 ·have h := of_decide_eq_false h
  refine AW.exit ?_
  refine AW.seq ?_
  obtain rfl : n = 0 := by omega
  obtain ⟨e1, e2⟩ := div_fin h3 h4
  subst e1
  subst e2
  have hv : val q = a / b := by rw [h2, Nat.pow_zero, Nat.mul_one]
  refine AW.freeze 11 rfl (AW.to [(6, .d (u32s q)), (7, .d (u32s (lim (a % b))))] [] (.cons (frz_osl (by simp [h1]) rfl) (.cons (VLe.refl _) .nil)) .nil ?_)
  refine AW.rg hE rfl ?_
  first | refine mvD rfl ?_ | refine mvO rfl ?_ | refine mvM rfl ?_
  refine cl (ref_trim hq (by omega)) rfl (VLes.refl _) ?_
  rw [hv]
  first | refine mvD rfl ?_ | refine mvO rfl ?_ | refine mvM rfl ?_
  first | refine asD rfl ?_ | refine asO rfl ?_ | refine asM rfl ?_
  first | refine asD rfl ?_ | refine asO rfl ?_ | refine asM rfl ?_
  refine OL.nil ?_
  exact AW.ret (RetQ.r ⟨_, .tmp rfl (.tmp rfl .nil), _, .cons (.le (by first | exact VLe.refl _ | exact VLe.mt | exact vle_q0 | exact VLe.int (by omega) | exact VLe.bool (by simp_all))) (.cons (.le (by first | exact VLe.refl _ | exact VLe.mt | exact vle_q0 | exact VLe.int (by omega) | exact VLe.bool (by simp_all))) .nil), rfl⟩)
theorem ref_divisor {a b : Nat} (na : (lim a).length ≤ 1099511627776) (nb : (lim b).length ≤ 1099511627776) : FSpec P F.ref01_divisor [.d (u32s (lim a)), .d (u32s (lim b))] (.d (u32s (lim (Nat.gcd a b)))) := by
 refine FSpec.intro fn.ref01_divisor (by rfl) (by rfl) (nb9 (by rfl)) fun E hE => ?_
 refine AW.sg hE rfl ?_
 refine asM rfl ?_
 refine OL.nil ?_
 refine AW.seq ?_
 refine AW.block ?_
 refine AW.whileK (α := Nat × Nat) [(4, _)] [] (fun (x, y) => [(0, .d (u32s (lim x))), (1, .d (u32s (lim y)))]) (fun (x, y) => []) (fun (x, y) => Nat.gcd x y = Nat.gcd a b ∧ (lim x).length ≤ 1099511627776 ∧ (lim y).length ≤ 1099511627776) (fun (x, y) => y) (a, b) (.cons (by first | exact knD rfl | exact knA rfl | exact knP rfl | exact knO rfl | exact knM rfl | exact knE rfl | exact knR rfl | exact knF rfl | exact knT rfl | exact knJ) .nil) .nil ⟨⟨rfl, na, nb⟩, .cons (by first | exact VLe.refl _ | exact VLe.int (by omega) | exact VLe.mt | exact vle_q0 | exact VLe.osl | exact VLe.ptr) (.cons (by first | exact VLe.refl _ | exact VLe.int (by omega) | exact VLe.mt | exact vle_q0 | exact VLe.osl | exact VLe.ptr) .nil), .nil⟩ ?_
 rintro ⟨x, y⟩ ⟨h1, h2, h3⟩
 refine AW.seq ?_
 refine AW.sg hE rfl ?_
 first | refine mvD rfl ?_ | refine mvO rfl ?_ | refine mvM rfl ?_
 first | refine lnL sl.u32s rfl rfl ?_ | refine lnO sl.u32s rfl rfl ?_ | refine lnM sl.u32s rfl rfl ?_ | refine lnD sl.u32s rfl rfl rfl ?_
 refine c_gtr rfl rfl rfl ?_
 refine OL.nil ?_
 refine AW.cond rfl (fun h => ?_) (fun h => ?_)
 ·have hy : y ≠ 0 := fun e => by have := of_decide_eq_true h; rw [e, lim_zero] at this; exact absurd this (by decide)
  have hml : (lim (x % y)).length ≤ 1099511627776 := Nat.le_trans (len_le (Nat.mod_le x y)) h2
  refine AW.skip ?_
  refine AW.block ?_
  refine AW.sg hE rfl ?_
  first | refine mvD rfl ?_ | refine mvO rfl ?_ | refine mvM rfl ?_
  first | refine mvD rfl ?_ | refine mvO rfl ?_ | refine mvM rfl ?_
  refine clv rfl (.cons (by first | exact VLe.refl _ | exact VLe.mt | exact vle_q0 | exact VLe.ptr) (.cons (by first | exact VLe.refl _ | exact VLe.mt | exact vle_q0 | exact VLe.ptr) .nil)) (ref_divide (by first | assumption | omega) (by first | assumption | omega) (by first | assumption | omega)) ?_
  first | refine mvD rfl ?_ | refine mvT rfl ?_ | refine mvP rfl ?_ | refine mvR rfl ?_ | refine mvE rfl ?_ | refine mvF rfl ?_ | refine mvA rfl ?_ | refine mvO rfl ?_ | refine mvM rfl ?_ | refine mvJ rfl ?_
  refine ex rfl rfl ?_
  refine ex rfl rfl ?_
  first | refine asD rfl ?_ | refine asO rfl ?_ | refine asM rfl ?_
  first | refine asD rfl ?_ | refine asO rfl ?_ | refine asM rfl ?_
  refine OL.nil ?_
  refine AW.rg hE rfl ?_
  first | refine mvD rfl ?_ | refine mvO rfl ?_ | refine mvM rfl ?_
  first | refine mvD rfl ?_ | refine mvO rfl ?_ | refine mvM rfl ?_
  first | refine asD rfl ?_ | refine asO rfl ?_ | refine asM rfl ?_
  first | refine asD rfl ?_ | refine asO rfl ?_ | refine asM rfl ?_
  refine OL.nil ?_
  exact AW.again (x := (x, y)) (y, x % y) (by exact Nat.mod_lt _ (Nat.pos_of_ne_zero hy)) ⟨⟨by rw [← h1, Nat.gcd_comm y, ← Nat.gcd_rec, Nat.gcd_comm], h3, hml⟩, Knows.app (.cons (VLe.refl _) .nil) (.cons (by first | exact VLe.refl _ | exact VLe.int (by omega) | exact VLe.mt | exact vle_q0 | exact VLe.osl | exact VLe.ptr) (.cons (by first | exact VLe.refl _ | exact VLe.int (by omega) | exact VLe.mt | exact vle_q0 | exact VLe.osl | exact VLe.ptr) .nil)), .nil⟩
 ·have hy : y = 0 := by have := of_decide_eq_false h; exact lim_length_zero.1 (by omega)
  refine AW.exit ?_
  refine AW.sg hE rfl ?_
  first | refine mvD rfl ?_ | refine mvO rfl ?_ | refine mvM rfl ?_
  first | refine asD rfl ?_ | refine asO rfl ?_ | refine asM rfl ?_
  refine OL.nil ?_
  exact AW.ret (RetQ.r ⟨_, .tmp rfl .nil, .le (vle_of_eq (by rw [← h1, hy, Nat.gcd_zero_right]; rfl))⟩)
theorem ref_oneL {L : List Nat} (hL : Lim L) : FSpec P F.ref01_one [.d (u32s L)] (.d (dB (decide (L = [1])))) := by
 refine FSpec.intro fn.ref01_one (by rfl) (by rfl) (nb9 (by rfl)) fun E hE => ?_
 refine AW.sg hE rfl ?_
 refine asD rfl ?_
 refine OL.nil ?_
 refine AW.sg hE rfl ?_
 first | refine mvD rfl ?_ | refine mvO rfl ?_ | refine mvM rfl ?_
 first | refine lnL sl.u32s rfl rfl ?_ | refine lnO sl.u32s rfl rfl ?_ | refine lnM sl.u32s rfl rfl ?_ | refine lnD sl.u32s rfl rfl rfl ?_
 refine c_eql rfl rfl rfl ?_
 refine mvD rfl ?_
 refine OL.split 6 rfl (fun g6 => ?_) (fun g6 => ?_)
 ·try simp only [dx9] at g6
  refine OL.yes rfl ?_
  first | refine mvD rfl ?_ | refine mvO rfl ?_ | refine mvM rfl ?_
  refine OL.yes rfl ?_
  first | refine ixO sl.u32s rfl rfl (by omega) (by omega) rfl ?_ | refine ixLe 0 sl.u32s 0 rfl rfl rfl (by omega) rfl rfl ?_
  refine OL.yes rfl ?_
  first | refine ldRC ce.u32 rfl ?_ | refine ldPC ce.u32 rfl rfl rfl ?_
  refine OL.yes rfl ?_
  refine c_eql rfl rfl rfl ?_
  refine pkT rfl rfl ?_
  refine asD rfl ?_
  refine OL.nil ?_
  exact AW.ret (RetQ.r ⟨_, .tmp rfl .nil, .le (VLe.bool (by have e := one_val hL; exact decide_eq_decide.2 ⟨fun h => e.2 ⟨by omega, by omega⟩, fun h => by have := (e.1 h).2; omega⟩))⟩)
 ·try simp only [dx9] at g6
  refine OL.no rfl (by decide) ?_
  refine OL.no rfl (by decide) ?_
  refine OL.no rfl (by decide) ?_
  refine OL.no rfl (by decide) ?_
  refine pkF rfl rfl ?_
  refine asD rfl ?_
  refine OL.nil ?_
  exact AW.ret (RetQ.r ⟨_, .tmp rfl .nil, .le (VLe.bool (by have e := one_val hL; exact (decide_eq_false fun h => by have := (e.1 h).1; omega).symm))⟩)
theorem ref_one {n : Nat} : FSpec P F.ref01_one [.d (u32s (lim n))] (.d (dB (decide (n = 1)))) := by
 have h := ref_oneL (lim_Lim n)
 rw [show decide (lim n = [1]) = decide (n = 1) from decide_eq_decide.2 lim_eq_one] at h; exact h
end Go.Proofs.YtjghehkgmanmbaaGreat

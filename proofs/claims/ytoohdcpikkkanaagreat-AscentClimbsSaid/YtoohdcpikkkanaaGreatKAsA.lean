/-
  Walks for chapter 39, part 1: Neg, Down, Up, Whole; comparisons; sorting by insertion (printed by mk2.py).
-/
import Derived.Test.YtoohdcpikkkanaaGreatKFwdC
import Derived.Test.YtoohdcpikkkanaaGreatKMod39
set_option linter.unusedVariables false
set_option linter.unusedSimpArgs false
namespace Go.Proofs.YtoohdcpikkkanaaGreat
open Go Go.AL
theorem rational_NegQ {q : Rat} (hz : sz q ≤ 68719476745) : FSpec P F.rational_Neg [vQ q] (vQ (-q)) := by
 have sn := sz_num q
 have sd := sz_den q
 refine FSpec.intro fn.rational_Neg (by rfl) (by rfl) (nb9 (by rfl)) fun E hE => (AW.sg hE rfl (bxA rfl rfl fun b1 => (al z.Rat rfl fun b2 => (OL.nil (AW.sg hE rfl (ldPA ag.Rat rfl rfl (vs := [_,_,_]) rfl (nb9 rfl) (clv rfl (.cons (VLe.refl _) (.nil)) (rational_of (ofQ_ok (q := q) (by omega))) ?_)))))))
 rw [q_ofQ]
 refine clv rfl (.cons (VLe.refl _) (.nil)) (fraction_negative) (clv rfl (.cons (VLe.refl _) (.nil)) (fraction_rat (s := !decide (q.num < 0)) (n := q.num.natAbs) (d := q.den) (by omega) (by omega) q.den_nz) ?_)
 rw [← fr_neg, fr_ofQ]
 exact sto sz.Rat rfl rfl rfl rfl rfl (nb9 rfl) (cells2 := [_,_,_]) rfl (OL.nil (AW.ret (RetQ.r ⟨_, .cellA rfl rfl ag.Rat (nb9 rfl) .nil, .ag (.cons (.le (VLe.refl _)) (.cons (.le (VLe.refl _)) (.cons (.le (VLe.refl _)) .nil)))⟩)))
theorem rational_DownQ {q : Rat} {k : Nat} (hz : sz q ≤ 68719476736) (hk : k ≤ 256) : FSpec P F.rational_Down [vQ q, .d (dI k)] (vQ (downQ q k)) := by
 have sn := sz_num q
 have sd := sz_den q
 have hs := len_shl (a := q.num.natAbs) (S := k) (m := 8) (by omega)
 have hdv := len_le (Nat.div_le_self (q.num.natAbs * 2 ^ k) q.den)
 have hone := len_small (g := 1) (by decide)
 have htw := two_len hk
 have hdn := dnN_len q hk
 refine FSpec.intro fn.rational_Down (by rfl) (by rfl) (nb9 (by rfl)) fun E hE => (AW.sg hE rfl (bxA rfl rfl fun b2 => (al z.Rat rfl fun b4 => (OL.nil (AW.seq (AW.sg hE rfl (mvD rfl ?_)))))))
 refine c_lss rfl rfl (c := false) (by exact decide_eq_false (by omega)) (mvD rfl (OL.yes rfl (mvD rfl (OL.yes rfl (c_gtr rfl rfl (c := false) (by exact decide_eq_false (by omega)) (pkF rfl rfl (OL.nil ?_)))))))
 refine AW.cond rfl (fun hno => absurd hno (by decide)) (fun _ => ?_)
 refine AW.skip (AW.sg hE rfl (ldPA ag.Rat rfl rfl (vs := [_,_,_]) rfl (nb9 rfl) (clv rfl (.cons (VLe.refl _) (.nil)) (rational_of (ofQ_ok (q := q) (by omega))) ?_)))
 rw [q_ofQ]
 refine al z.fraction rfl fun b5 => (sto sz.fraction rfl rfl rfl rfl rfl (nb9 rfl) (cells2 := [_,_,_]) rfl (OL.nil (AW.seq (AW.dg 1 [0,1,2,3,4,5,6,7,8,9,10,11] order_free hE rfl (by kernel_rfl) (OI.of_OL (os := [_,_,_,_,_,_,_,_,_,_,_,_]) rfl ?_)))))
 refine faP fd.fraction_1 rfl rfl (ldPC ce.limbs rfl rfl rfl (mvD rfl (clv rfl (.cons (VLe.refl _) (.cons (VLe.refl _) (.nil))) (limbs_left (lim_Lim _) (by omega) (by omega)) ?_)))
 rw [val_lim]
 refine faP fd.fraction_2 rfl rfl (ldPC ce.limbs rfl rfl rfl (clv rfl (.cons (VLe.refl _) (.cons (VLe.refl _) (.nil))) (limbs_over (lim_Lim _) (by omega) (by omega) q.den_nz) ?_))
 rw [val_lim]
 refine mvT rfl (ex rfl rfl (ex rfl rfl (asD rfl (asD rfl (OL.nil (AW.midK (α := Unit) [(1, _), (4, _), (5, _)] [(4, _), (5, _)] (fun _u => [(6, .d (u32s (lim (dnN q k))))]) (fun _u => []) (fun _u => True) (.cons (knD rfl) (.cons (knP rfl) (.cons (knP rfl) .nil))) (.cons (owB rfl) (.cons (owB rfl) .nil)) ?_ ?_))))))
 ·refine AW.sg hE rfl (faP fd.fraction_0 rfl rfl (ldPC ce.bool rfl rfl rfl (mvD rfl (OL.split 29 rfl (fun hn => ?_) (fun hn => ?_)))))
  ·have hn : q.num < 0 := of_decide_eq_true hn
   refine OL.yes rfl (mvD rfl (OL.yes rfl (lnL sl.limbs rfl rfl (OL.yes rfl (c_gtr rfl rfl rfl (pkT rfl rfl (OL.nil ?_)))))))
   refine AW.cond rfl (fun hr => ?_) (fun hr => ?_)
   ·have hr : 0 < q.num.natAbs * 2 ^ k % q.den := Nat.pos_of_ne_zero fun e => by rw [e, lim_zero] at hr; simp at hr
    have hdq : dnN q k = q.num.natAbs * 2 ^ k / q.den + 1 := by unfold dnN; rw [if_pos ⟨hn, hr⟩]
    refine AW.rg hE rfl (mvD rfl (clv rfl (.nil) (rational_one) (clv rfl (.cons (VLe.refl _) (.cons (VLe.refl _) (.nil))) (limbs_plus (lim_Lim _) (lim_Lim _) (by omega) (by omega)) ?_)))
    rw [val_lim, val_lim]
    exact asD rfl (OL.nil (AW.reach () ⟨trivial, Knows.app (.cons (VLe.refl _) (.cons (VLe.refl _) (.cons (VLe.refl _) .nil))) (.cons (vle_of_eq (by rw [hdq]; rfl)) .nil), Owns.app (.cons rfl (.cons rfl .nil)) (.nil)⟩))
   ·have hr : ¬ 0 < q.num.natAbs * 2 ^ k % q.den := fun e => by have := of_decide_eq_false hr; have := lim_length_zero (n := q.num.natAbs * 2 ^ k % q.den); omega
    have hdq : dnN q k = q.num.natAbs * 2 ^ k / q.den := by unfold dnN; rw [if_neg fun e => hr e.2]; rfl
    exact AW.skip (AW.reach () ⟨trivial, Knows.app (.cons (VLe.refl _) (.cons (VLe.refl _) (.cons (VLe.refl _) .nil))) (.cons (vle_of_eq (by rw [hdq]; rfl)) .nil), Owns.app (.cons rfl (.cons rfl .nil)) (.nil)⟩)
  ·have hn : ¬ q.num < 0 := of_decide_eq_false hn
   have hdq : dnN q k = q.num.natAbs * 2 ^ k / q.den := by unfold dnN; rw [if_neg fun e => hn e.1]; rfl
   refine OL.no rfl (by decide) (OL.no rfl (by decide) (OL.no rfl (by decide) (pkF rfl rfl (OL.nil (AW.cond rfl (fun hno => absurd hno (by decide)) (fun _ => ?_))))))
   exact AW.skip (AW.reach () ⟨trivial, Knows.app (.cons (VLe.refl _) (.cons (VLe.refl _) (.cons (VLe.refl _) .nil))) (.cons (vle_of_eq (by rw [hdq]; rfl)) .nil), Owns.app (.cons rfl (.cons rfl .nil)) (.nil)⟩)
 rintro ⟨⟩ hφ
 refine AW.seq (AW.dg 1 [0,1,2,3,4,5,6,7,8] order_free hE rfl (by kernel_rfl) (OI.of_OL (os := [_,_,_,_,_,_,_,_,_]) rfl ?_))
 refine faP fd.fraction_0 rfl rfl (ldPC ce.bool rfl rfl rfl (mvD rfl (clv rfl (.nil) (rational_one) (mvD rfl (clv rfl (.cons (VLe.refl _) (.cons (VLe.refl _) (.nil))) (limbs_left (lim_Lim _) (by omega) (by omega)) ?_)))))
 rw [val_lim, Nat.one_mul]
 exact bd2 (cs := [_,_,_]) z.fraction pl.fraction (pvC (by exact evD rfl) (pvC (by exact evD rfl) (pvC (by exact evD rfl) (pvN)))) (by rfl) (clv rfl (.cons (VLe.refl _) (.nil)) (fraction_rat (s := decide (q.num < 0)) (n := dnN q k) (d := 2 ^ k) (by omega) (by omega) (two_ne k)) (sto sz.Rat rfl rfl rfl rfl rfl (nb9 rfl) (cells2 := [_,_,_]) rfl (OL.nil (AW.ret (RetQ.r ⟨_, .cellA rfl rfl ag.Rat (nb9 rfl) .nil, .ag (.cons (.le (VLe.refl _)) (.cons (.le (VLe.refl _)) (.cons (.le (VLe.refl _)) .nil)))⟩)))))
theorem rational_UpQ {q : Rat} {k : Nat} (hz : sz q ≤ 68719476736) (hk : k ≤ 256) : FSpec P F.rational_Up [vQ q, .d (dI k)] (vQ (upQ q k)) := by
 have h1 := sz_neg q
 have h2 := down_sz (-q) hk
 refine FSpec.intro fn.rational_Up (by rfl) (by rfl) (nb9 (by rfl)) fun E hE => (AW.sg hE rfl (bxA rfl rfl fun b2 => (al z.Rat rfl fun b4 => (OL.nil (AW.sg hE rfl (ldPA ag.Rat rfl rfl (vs := [_,_,_]) rfl (nb9 rfl) (clv rfl (.cons (VLe.refl _) (.nil)) (rational_NegQ (q := q) (by omega)) ?_)))))))
 exact mvD rfl (clv rfl (.cons (VLe.refl _) (.cons (VLe.refl _) (.nil))) (rational_DownQ (q := -q) (k := k) (by omega) hk) (clv rfl (.cons (VLe.refl _) (.nil)) (rational_NegQ (q := downQ (-q) k) (by omega)) (sto sz.Rat rfl rfl rfl rfl rfl (nb9 rfl) (cells2 := [_,_,_]) rfl (OL.nil (AW.ret (RetQ.r ⟨_, .cellA rfl rfl ag.Rat (nb9 rfl) .nil, .ag (.cons (.le (VLe.refl _)) (.cons (.le (VLe.refl _)) (.cons (.le (VLe.refl _)) .nil)))⟩))))))
theorem rational_WholeN {n : Nat} (hn : n < 4294967296) : FSpec P F.rational_Whole [vQ (n : Rat)] (.tup [.d (dI n), .d (dB true)]) := by
 obtain ⟨q, hq⟩ : ∃ q : Rat, q = (n : Rat) := ⟨_, rfl⟩
 rw [← hq]
 have hqn : q.num = (n : Int) := by rw [hq]; rfl
 have hqd : q.den = 1 := by rw [hq]; rfl
 have hl := len_small hn
 have hone := len_small (g := 1) (by decide)
 have hqa : q.num.natAbs = n := by omega
 have hz : sz q ≤ 1 := by unfold sz; rw [hqa, hqd]; exact Nat.max_le.2 ⟨hl, hone⟩
 have a0 : (lim n).getD 0 0 = n := by
  rw [getD_eq (lim_Lim n), val_lim]; show n / 1 % 4294967296 = n; omega
 have a1 : (lim n).getD 1 0 = 0 := getD_out (by omega)
 refine FSpec.intro fn.rational_Whole (by rfl) (by rfl) (nb9 (by rfl)) fun E hE => (AW.sg hE rfl (bxA rfl rfl fun b1 => (asD rfl (asD rfl (OL.nil (AW.sg hE rfl (ldPA ag.Rat rfl rfl (vs := [_,_,_]) rfl (nb9 rfl) ?_)))))))
 refine clv rfl (.cons (VLe.refl _) (.nil)) (rational_of (ofQ_ok (q := q) (by omega))) ?_
 rw [q_ofQ]
 rw [show qFr q = vFr false n 1 by unfold qFr; rw [hqa, hqd, decide_eq_false (by omega)]]
 refine al z.fraction rfl fun b4 => (sto sz.fraction rfl rfl rfl rfl rfl (nb9 rfl) (cells2 := [_,_,_]) rfl (OL.nil (AW.seq (AW.dg 1 [0,1,2,3,4,5,6,7,8] order_free hE rfl (by kernel_rfl) (OI.of_OL (os := [_,_,_,_,_,_,_,_,_]) rfl ?_)))))
 refine faP fd.fraction_1 rfl rfl (ldPC ce.limbs rfl rfl rfl (clv rfl (.cons (VLe.refl _) (.cons (VLe.refl _) (.nil))) (limbs_at (i := 1) (lim_Lim n) (by decide)) ?_))
 rw [show (1 : Int).toNat = 1 from rfl, a1]
 refine shl32 rfl rfl rfl (by decide) (faP fd.fraction_1 rfl rfl (ldPC ce.limbs rfl rfl rfl (clv rfl (.cons (VLe.refl _) (.cons (VLe.refl _) (.nil))) (limbs_at (i := 0) (lim_Lim n) (by decide)) ?_)))
 rw [show (0 : Int).toNat = 0 from rfl, a0]
 refine orA (a := 0) (b := n) 32 0 rfl rfl rfl (by omega) (by omega) ?_
 rw [Nat.zero_add]
 refine asD rfl (OL.nil (AW.seq (AW.seq (AW.dg 1 [0,1,2,3,4,5,6,7,8,9,10] order_free hE rfl (by kernel_rfl) (OI.of_OL (os := [_,_,_,_,_,_,_,_,_,_,_]) rfl ?_)))))
 refine faP fd.fraction_1 rfl rfl (ldPC ce.limbs rfl rfl rfl (lnL sl.limbs rfl rfl (c_gtr rfl rfl (c := false) (by exact decide_eq_false (by omega)) (mvD rfl (OL.yes rfl (faP fd.fraction_2 rfl rfl (OL.yes rfl ?_)))))))
 refine ldPC ce.limbs rfl rfl rfl (OL.yes rfl (clv rfl (.nil) (rational_one) (OL.yes rfl (clv rfl (.cons (VLe.refl _) (.cons (VLe.refl _) (.nil))) (limbs_cmp (lim_Lim 1) (lim_Lim 1) (by omega) (by omega)) ?_))))
 rw [val_lim]
 refine OL.yes rfl (c_neq rfl rfl (c := false) (by rfl) (pkF rfl rfl (OL.nil (AW.cond rfl (fun hno => absurd hno (by decide)) (fun _ => ?_)))))
 refine AW.skip (AW.seq (AW.sg hE rfl (faP fd.fraction_0 rfl rfl (ldPC ce.bool rfl rfl rfl (OL.nil (AW.cond rfl (fun hno => absurd hno (by decide)) (fun _ => ?_)))))))
 refine AW.skip (AW.seq (AW.sg hE rfl (mvD rfl (cv it.u64 it.int rfl (wrap_i64 (by omega)) (asD rfl (OL.nil (AW.sg hE rfl ?_)))))))
 refine mvD rfl (c_neq rfl rfl rfl (mvD rfl (OL.split 35 rfl (fun g35 => ?_) (fun g35 => ?_))))
 ·try simp only [dx9] at g35
  refine OL.yes rfl (mvD rfl (OL.yes rfl (c_lss rfl rfl (c := false) (by exact decide_eq_false (by omega)) (OL.yes rfl (faP fd.fraction_0 rfl rfl (OL.yes rfl (ldPC ce.bool rfl rfl rfl ?_)))))))
  refine OL.yes rfl (neb bt.bool rfl rfl (pkT rfl rfl (OL.nil (AW.cond rfl (fun hno => absurd hno (by decide)) (fun _ => ?_)))))
  exact AW.skip (AW.sg hE rfl (mvD rfl (asD rfl (asD rfl (OL.nil (AW.ret (RetQ.r ⟨_, .tmp rfl (.tmp rfl .nil), _, .cons (.le (VLe.int (by omega))) (.cons (.le (VLe.refl _)) .nil), rfl⟩)))))))
 ·try simp only [dx9] at g35
  refine OL.no rfl (by decide) (OL.no rfl (by decide) (OL.no rfl (by decide) (OL.no rfl (by decide) (OL.no rfl (by decide) (pkF rfl rfl (OL.nil (AW.cond rfl (fun hno => absurd hno (by decide)) (fun _ => ?_))))))))
  exact AW.skip (AW.sg hE rfl (mvD rfl (asD rfl (asD rfl (OL.nil (AW.ret (RetQ.r ⟨_, .tmp rfl (.tmp rfl .nil), _, .cons (.le (VLe.int (by omega))) (.cons (.le (VLe.refl _)) .nil), rfl⟩)))))))
theorem cmp_isNaN {n : Int} : FSpec P F.cmp_isNaN_int [.d (dI n)] (.d (dB false)) := by
 refine FSpec.intro fn.cmp_isNaN_int (by rfl) (by rfl) (nb9 (by rfl)) fun E hE => (AW.sg hE rfl (asD rfl (OL.nil (AW.sg hE rfl (mvD rfl (mvD rfl (c_neq rfl rfl rfl ?_)))))))
 exact asD rfl (OL.nil (AW.ret (RetQ.r ⟨_, .tmp rfl .nil, .le (VLe.bool (by simp))⟩)))
theorem cmp_Compare {a b : Int} : FSpec P F.cmp_Compare_int [.d (dI a), .d (dI b)] (.d (dI (sgnI (a - b)))) := by
 refine FSpec.intro fn.cmp_Compare_int (by rfl) (by rfl) (nb9 (by rfl)) fun E hE => (AW.sg hE rfl (asD rfl (OL.nil (AW.sg hE rfl (mvD rfl (clv rfl (.cons (VLe.refl _) (.nil)) (cmp_isNaN) (asD rfl ?_)))))))
 refine OL.nil (AW.sg hE rfl (mvD rfl (clv rfl (.cons (VLe.refl _) (.nil)) (cmp_isNaN) (asD rfl (OL.nil (AW.seq (AW.sg hE rfl ?_)))))))
 refine mvD rfl (OL.nil (AW.cond rfl (fun hno => absurd hno (by decide)) (fun _ => ?_)))
 refine AW.skip (AW.seq (AW.sg hE rfl (mvD rfl (OL.nil (AW.cond rfl (fun hno => absurd hno (by decide)) (fun _ => ?_))))))
 refine AW.skip (AW.seq (AW.sg hE rfl (mvD rfl (mvD rfl (c_lss rfl rfl rfl (OL.nil (AW.cond rfl (fun h1 => ?_) (fun h1 => ?_))))))))
 ·try simp only [dx9] at h1
  exact AW.sg hE rfl (asD rfl (OL.nil (AW.ret (RetQ.r ⟨_, .tmp rfl .nil, .le (VLe.int (by unfold sgnI; rw [if_pos (by omega)]))⟩))))
 ·try simp only [dx9] at h1
  refine AW.skip (AW.seq (AW.sg hE rfl (mvD rfl (mvD rfl (c_gtr rfl rfl rfl (OL.nil (AW.cond rfl (fun h2 => ?_) (fun h2 => ?_))))))))
  ·try simp only [dx9] at h2
   exact AW.sg hE rfl (asD rfl (OL.nil (AW.ret (RetQ.r ⟨_, .tmp rfl .nil, .le (VLe.int (by unfold sgnI; rw [if_neg (by omega), if_pos (by omega)]))⟩))))
  ·try simp only [dx9] at h2
   exact AW.skip (AW.sg hE rfl (asD rfl (OL.nil (AW.ret (RetQ.r ⟨_, .tmp rfl .nil, .le (VLe.int (by unfold sgnI; rw [if_neg (by omega), if_neg (by omega)]))⟩)))))
theorem cmp_Or {a b : Int} : FSpec P F.cmp_Or_int [.d (ints [a, b])] (.d (dI (if a = 0 then b else a))) := by
 refine FSpec.intro fn.cmp_Or_int (by rfl) (by rfl) (nb9 (by rfl)) fun E hE => (AW.sg hE rfl (asD rfl (OL.nil (AW.sg hE rfl (asD rfl (OL.nil (AW.seq ?_)))))))
 refine AW.sg hE rfl (mvD rfl (lnL sl.ints rfl rfl (mvD rfl (OL.nil (AW.block ?_)))))
 refine AW.whileK (α := Nat) [(3, _), (6, _), (7, _)] [] (fun i => [(8, .d (dI i))]) (fun i => []) (fun i => i ≤ 2 ∧ (1 ≤ i → a = 0) ∧ (2 ≤ i → b = 0)) (fun i => 2 - i) 0 (.cons (knD rfl) (.cons (knD rfl) (.cons (knD rfl) .nil))) .nil ⟨⟨by omega, by omega, by omega⟩, .cons (VLe.refl _) .nil, .nil⟩ ?_
 rintro i ⟨h1, h2, h3⟩
 have hl : ([a, b] : List Int).length = 2 := rfl
 refine AW.sg hE rfl (c_lss rfl rfl rfl (OL.nil (AW.seq (AW.cond rfl (fun h9 => ?_) (fun h9 => ?_)))))
 ·try simp only [dx9] at h9
  refine AW.skip (AW.seq (AW.block (AW.sg hE rfl (ixLn (l := [a, b]) sl.ints 0 rfl rfl (by omega) rfl rfl (ldRC ce.int rfl (asD rfl (OL.nil ?_)))))))
  refine AW.sg hE rfl (mvD rfl (mvD rfl (c_neq rfl rfl rfl (OL.nil (AW.cond rfl (fun hz => ?_) (fun hz => ?_))))))
  ·have hz : ([a, b] : List Int).getD i 0 ≠ 0 := by simpa using hz
   exact AW.sg hE rfl (mvD rfl (asD rfl (OL.nil (AW.ret (RetQ.r ⟨_, .tmp rfl .nil, .le (VLe.int (by rcases Nat.lt_or_ge i 1 with e | e; (obtain rfl : i = 0 := (by omega)); (rw [if_neg (show ¬ a = 0 from hz)]; rfl); (obtain rfl : i = 1 := (by omega)); rw [if_pos (h2 (by omega))]; rfl))⟩)))))
  ·have hz : ([a, b] : List Int).getD i 0 = 0 := by simpa using hz
   refine AW.skip (AW.rg hE rfl (add_i64 rfl rfl (by omega) (mvD rfl (OL.nil ?_))))
   exact AW.again (x := i) (i + 1) (by omega) ⟨⟨by omega, fun _ => by rcases Nat.lt_or_ge i 1 with e | e; (obtain rfl : i = 0 := (by omega)); exact hz; exact h2 e, fun _ => by obtain rfl : i = 1 := (by omega); exact hz⟩, Knows.app (.cons (VLe.refl _) (.cons (VLe.refl _) (.cons (VLe.refl _) .nil))) (.cons (VLe.refl _) .nil), .nil⟩
 ·try simp only [dx9] at h9
  exact AW.exit (AW.sg hE rfl (mvD rfl (asD rfl (OL.nil (AW.ret (RetQ.r ⟨_, .tmp rfl .nil, .le (VLe.int (by rw [if_pos (h2 (by omega)), h3 (by omega)]))⟩))))))
end Go.Proofs.YtoohdcpikkkanaaGreat

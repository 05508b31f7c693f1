/-
  Walks for chapter 39, part 14: equal models (printed by mk2.py).
-/
import Derived.Test.YtoohdcpikkkanaaGreatKAsM
set_option linter.unusedVariables false
set_option linter.unusedSimpArgs false
namespace Go.Proofs.YtoohdcpikkkanaaGreat
open Go Go.AL
theorem ofQ_inj9 {x y : Rat} : x = y ↔ ((ofQ x).neg = (ofQ y).neg ∧ (ofQ x).num = (ofQ y).num) ∧ (ofQ x).den = (ofQ y).den := by
 constructor
 ·rintro rfl; exact ⟨⟨rfl, rfl⟩, rfl⟩
 ·rintro ⟨⟨h1, h2⟩, h3⟩
  have e : ofQ x = ofQ y := by
   cases hx : ofQ x; cases hy : ofQ y
   rw [hx, hy] at h1 h2 h3
   simp only at h1 h2 h3
   rw [h1, h2, h3]
  rw [← q_ofQ x, ← q_ofQ y, e]
theorem equal_u32s {l m : List Nat} (nl : l.length ≤ 1099511627776) : FSpec P F.slices_Equal_uint32s_uint32 [.d (u32s l), .d (u32s m)] (.d (dB (decide (l = m)))) := by
 refine FSpec.intro fn.slices_Equal_uint32s_uint32 (by rfl) (by rfl) (nb9 (by rfl)) fun E hE => (AW.sg hE rfl (asD rfl (OL.nil (AW.seq (AW.sg hE rfl (mvD rfl (lnL sl.u32s rfl rfl ?_)))))))
 refine mvD rfl (lnL sl.u32s rfl rfl (c_neq rfl rfl rfl (OL.nil (AW.cond rfl (fun h10 => ?_) (fun h10 => ?_)))))
 ·have hl : l.length ≠ m.length := by simp at h10; omega
  exact AW.sg hE rfl (asD rfl (OL.nil (AW.ret (RetQ.r ⟨_, .tmp rfl .nil, .le (VLe.bool ((decide_eq_false fun e => hl (by rw [e])).symm))⟩))))
 ·have hl : l.length = m.length := by simp at h10; omega
  refine AW.skip (AW.seq (AW.sg hE rfl (mvD rfl (lnL sl.u32s rfl rfl (mvD rfl (OL.nil (AW.block ?_)))))))
  refine AW.whileK (α := Nat) [(0, _), (1, _), (12, _)] [] (fun i => [(13, .d (dI i))]) (fun i => []) (fun i => i ≤ l.length ∧ ∀ j, j < i → l.getD j 0 = m.getD j 0) (fun i => l.length - i) 0 (.cons (knD rfl) (.cons (knD rfl) (.cons (knD rfl) .nil))) .nil ⟨⟨Nat.zero_le _, fun j hj => by omega⟩, .cons (VLe.refl _) .nil, .nil⟩ ?_
  rintro i ⟨h1, h2⟩
  have h1 : i ≤ l.length := h1
  refine AW.sg hE rfl (c_lss rfl rfl rfl (OL.nil (AW.seq (AW.cond rfl (fun h14 => ?_) (fun h14 => ?_)))))
  ·try simp only [dx9] at h14
   refine AW.skip (AW.seq (AW.block (AW.sg hE rfl (mvD rfl (asD rfl (OL.nil (AW.seq ?_)))))))
   refine AW.dg 1 [0,1,2,3,4,5,6,7,8] order_free hE rfl (by kernel_rfl) (OI.of_OL (os := [_,_,_,_,_,_,_,_,_]) rfl ?_)
   refine mvD rfl (mvD rfl (ixLn sl.u32s 0 rfl rfl (by omega) rfl rfl (ldRC ce.u32 rfl (mvD rfl (mvD rfl (ixLn sl.u32s 0 rfl rfl (by omega) rfl rfl (ldRC ce.u32 rfl ?_)))))))
   refine c_neq rfl rfl rfl (OL.nil (AW.cond rfl (fun hc => ?_) (fun hc => ?_)))
   ·have hc : l.getD i 0 ≠ m.getD i 0 := fun e => by rw [e] at hc; simp at hc
    exact AW.sg hE rfl (asD rfl (OL.nil (AW.ret (RetQ.r ⟨_, .tmp rfl .nil, .le (VLe.bool ((decide_eq_false fun e => hc (by rw [e])).symm))⟩))))
   ·have hc : l.getD i 0 = m.getD i 0 := by have h9 : ((l.getD i 0 : Nat) : Int) = (m.getD i 0 : Nat) := (by simpa using hc); exact Int.ofNat.inj h9
    refine AW.skip (AW.rg hE rfl (add_i64 rfl rfl (by omega) (mvD rfl (OL.nil ?_))))
    exact AW.again (x := i) (i + 1) (by omega) ⟨⟨by omega, fun j hj => by rcases Nat.lt_or_ge j i with h | h; exact h2 j h; obtain rfl : j = i := (by omega); exact hc⟩, Knows.app (.cons (VLe.refl _) (.cons (VLe.refl _) (.cons (VLe.refl _) .nil))) (.cons (VLe.refl _) .nil), .nil⟩
  ·try simp only [dx9] at h14
   exact AW.exit (AW.sg hE rfl (asD rfl (OL.nil (AW.ret (RetQ.r ⟨_, .tmp rfl .nil, .le (VLe.bool ((decide_eq_true (list_eq_getD hl 0 fun j hj => h2 j (by omega))).symm))⟩)))))
theorem equal_ints {l m : List Int} (nl : l.length ≤ 1099511627776) : FSpec P F.slices_Equal_ints_int [.d (ints l), .d (ints m)] (.d (dB (decide (l = m)))) := by
 refine FSpec.intro fn.slices_Equal_ints_int (by rfl) (by rfl) (nb9 (by rfl)) fun E hE => (AW.sg hE rfl (asD rfl (OL.nil (AW.seq (AW.sg hE rfl (mvD rfl (lnL sl.ints rfl rfl ?_)))))))
 refine mvD rfl (lnL sl.ints rfl rfl (c_neq rfl rfl rfl (OL.nil (AW.cond rfl (fun h10 => ?_) (fun h10 => ?_)))))
 ·have hl : l.length ≠ m.length := by simp at h10; omega
  exact AW.sg hE rfl (asD rfl (OL.nil (AW.ret (RetQ.r ⟨_, .tmp rfl .nil, .le (VLe.bool ((decide_eq_false fun e => hl (by rw [e])).symm))⟩))))
 ·have hl : l.length = m.length := by simp at h10; omega
  refine AW.skip (AW.seq (AW.sg hE rfl (mvD rfl (lnL sl.ints rfl rfl (mvD rfl (OL.nil (AW.block ?_)))))))
  refine AW.whileK (α := Nat) [(0, _), (1, _), (12, _)] [] (fun i => [(13, .d (dI i))]) (fun i => []) (fun i => i ≤ l.length ∧ ∀ j, j < i → l.getD j 0 = m.getD j 0) (fun i => l.length - i) 0 (.cons (knD rfl) (.cons (knD rfl) (.cons (knD rfl) .nil))) .nil ⟨⟨Nat.zero_le _, fun j hj => by omega⟩, .cons (VLe.refl _) .nil, .nil⟩ ?_
  rintro i ⟨h1, h2⟩
  have h1 : i ≤ l.length := h1
  refine AW.sg hE rfl (c_lss rfl rfl rfl (OL.nil (AW.seq (AW.cond rfl (fun h14 => ?_) (fun h14 => ?_)))))
  ·try simp only [dx9] at h14
   refine AW.skip (AW.seq (AW.block (AW.sg hE rfl (mvD rfl (asD rfl (OL.nil (AW.seq ?_)))))))
   refine AW.dg 1 [0,1,2,3,4,5,6,7,8] order_free hE rfl (by kernel_rfl) (OI.of_OL (os := [_,_,_,_,_,_,_,_,_]) rfl ?_)
   refine mvD rfl (mvD rfl (ixLn sl.ints 0 rfl rfl (by omega) rfl rfl (ldRC ce.int rfl (mvD rfl (mvD rfl (ixLn sl.ints 0 rfl rfl (by omega) rfl rfl (ldRC ce.int rfl ?_)))))))
   refine c_neq rfl rfl rfl (OL.nil (AW.cond rfl (fun hc => ?_) (fun hc => ?_)))
   ·have hc : l.getD i 0 ≠ m.getD i 0 := fun e => by rw [e] at hc; simp at hc
    exact AW.sg hE rfl (asD rfl (OL.nil (AW.ret (RetQ.r ⟨_, .tmp rfl .nil, .le (VLe.bool ((decide_eq_false fun e => hc (by rw [e])).symm))⟩))))
   ·have hc : l.getD i 0 = m.getD i 0 := by simpa using hc
    refine AW.skip (AW.rg hE rfl (add_i64 rfl rfl (by omega) (mvD rfl (OL.nil ?_))))
    exact AW.again (x := i) (i + 1) (by omega) ⟨⟨by omega, fun j hj => by rcases Nat.lt_or_ge j i with h | h; exact h2 j h; obtain rfl : j = i := (by omega); exact hc⟩, Knows.app (.cons (VLe.refl _) (.cons (VLe.refl _) (.cons (VLe.refl _) .nil))) (.cons (VLe.refl _) .nil), .nil⟩
  ·try simp only [dx9] at h14
   exact AW.exit (AW.sg hE rfl (asD rfl (OL.nil (AW.ret (RetQ.r ⟨_, .tmp rfl .nil, .le (VLe.bool ((decide_eq_true (list_eq_getD hl 0 fun j hj => h2 j (by omega))).symm))⟩)))))
theorem equal_bools {l m : List Bool} (nl : l.length ≤ 1099511627776) : FSpec P F.slices_Equal_bools_bool [.d (bools l), .d (bools m)] (.d (dB (decide (l = m)))) := by
 refine FSpec.intro fn.slices_Equal_bools_bool (by rfl) (by rfl) (nb9 (by rfl)) fun E hE => (AW.sg hE rfl (asD rfl (OL.nil (AW.seq (AW.sg hE rfl (mvD rfl (lnL sl.bools rfl rfl ?_)))))))
 refine mvD rfl (lnL sl.bools rfl rfl (c_neq rfl rfl rfl (OL.nil (AW.cond rfl (fun h10 => ?_) (fun h10 => ?_)))))
 ·have hl : l.length ≠ m.length := by simp at h10; omega
  exact AW.sg hE rfl (asD rfl (OL.nil (AW.ret (RetQ.r ⟨_, .tmp rfl .nil, .le (VLe.bool ((decide_eq_false fun e => hl (by rw [e])).symm))⟩))))
 ·have hl : l.length = m.length := by simp at h10; omega
  refine AW.skip (AW.seq (AW.sg hE rfl (mvD rfl (lnL sl.bools rfl rfl (mvD rfl (OL.nil (AW.block ?_)))))))
  refine AW.whileK (α := Nat) [(0, _), (1, _), (12, _)] [] (fun i => [(13, .d (dI i))]) (fun i => []) (fun i => i ≤ l.length ∧ ∀ j, j < i → l.getD j false = m.getD j false) (fun i => l.length - i) 0 (.cons (knD rfl) (.cons (knD rfl) (.cons (knD rfl) .nil))) .nil ⟨⟨Nat.zero_le _, fun j hj => by omega⟩, .cons (VLe.refl _) .nil, .nil⟩ ?_
  rintro i ⟨h1, h2⟩
  have h1 : i ≤ l.length := h1
  refine AW.sg hE rfl (c_lss rfl rfl rfl (OL.nil (AW.seq (AW.cond rfl (fun h14 => ?_) (fun h14 => ?_)))))
  ·try simp only [dx9] at h14
   refine AW.skip (AW.seq (AW.block (AW.sg hE rfl (mvD rfl (asD rfl (OL.nil (AW.seq ?_)))))))
   refine AW.dg 1 [0,1,2,3,4,5,6,7,8] order_free hE rfl (by kernel_rfl) (OI.of_OL (os := [_,_,_,_,_,_,_,_,_]) rfl ?_)
   refine mvD rfl (mvD rfl (ixLn sl.bools false rfl rfl (by omega) rfl rfl (ldRC ce.bool rfl (mvD rfl (mvD rfl (ixLn sl.bools false rfl rfl (by omega) rfl rfl (ldRC ce.bool rfl ?_)))))))
   refine neb bt.bool rfl rfl (OL.nil (AW.cond rfl (fun hc => ?_) (fun hc => ?_)))
   ·have hc : l.getD i false ≠ m.getD i false := fun e => by rw [e] at hc; simp at hc
    exact AW.sg hE rfl (asD rfl (OL.nil (AW.ret (RetQ.r ⟨_, .tmp rfl .nil, .le (VLe.bool ((decide_eq_false fun e => hc (by rw [e])).symm))⟩))))
   ·have hc : l.getD i false = m.getD i false := by simpa using hc
    refine AW.skip (AW.rg hE rfl (add_i64 rfl rfl (by omega) (mvD rfl (OL.nil ?_))))
    exact AW.again (x := i) (i + 1) (by omega) ⟨⟨by omega, fun j hj => by rcases Nat.lt_or_ge j i with h | h; exact h2 j h; obtain rfl : j = i := (by omega); exact hc⟩, Knows.app (.cons (VLe.refl _) (.cons (VLe.refl _) (.cons (VLe.refl _) .nil))) (.cons (VLe.refl _) .nil), .nil⟩
  ·try simp only [dx9] at h14
   exact AW.exit (AW.sg hE rfl (asD rfl (OL.nil (AW.ret (RetQ.r ⟨_, .tmp rfl .nil, .le (VLe.bool ((decide_eq_true (list_eq_getD hl false fun j hj => h2 j (by omega))).symm))⟩)))))
theorem ref01_same {l : List Nat} (nl : l.length ≤ 1099511627776) : FSpec P F.ref01_same [.d (u32s l), .d (u32s l)] (.d (dB true)) := by
 refine FSpec.intro fn.ref01_same (by rfl) (by rfl) (nb9 (by rfl)) fun E hE => (AW.sg hE rfl (asD rfl (OL.nil (AW.seq (AW.sg hE rfl (mvD rfl (lnL sl.u32s rfl rfl ?_)))))))
 refine mvD rfl (lnL sl.u32s rfl rfl (c_neq rfl rfl rfl (OL.nil (AW.cond rfl (fun hno => absurd hno (by simp)) (fun _ => ?_)))))
 refine AW.skip (AW.seq (AW.sg hE rfl (asD rfl (OL.nil (AW.block (AW.whileK (α := Nat) [(0, _), (1, _)] [] (fun i => [(5, .d (dI i))]) (fun i => []) (fun i => i ≤ l.length) (fun i => l.length - i) 0 (.cons (knD rfl) (.cons (knD rfl) .nil)) .nil ⟨Nat.zero_le _, .cons (VLe.refl _) .nil, .nil⟩ ?_))))))
 intro i h1
 have h1 : i ≤ l.length := h1
 refine AW.seq (AW.sg hE rfl (mvD rfl (mvD rfl (lnL sl.u32s rfl rfl (c_lss rfl rfl rfl (OL.nil (AW.cond rfl (fun h14 => ?_) (fun h14 => ?_))))))))
 ·try simp only [dx9] at h14
  refine AW.skip (AW.seq (AW.block (AW.seq (AW.dg 1 [0,1,2,3,4,5,6,7,8] order_free hE rfl (by kernel_rfl) (OI.of_OL (os := [_,_,_,_,_,_,_,_,_]) rfl ?_)))))
  refine mvD rfl (mvD rfl (ixLn sl.u32s 0 rfl rfl (by omega) rfl rfl (ldRC ce.u32 rfl (mvD rfl (mvD rfl (ixLn sl.u32s 0 rfl rfl (by omega) rfl rfl (ldRC ce.u32 rfl ?_)))))))
  refine c_neq rfl rfl (c := false) (cne_f rfl) (OL.nil (AW.cond rfl (fun hno => absurd hno (by decide)) (fun _ => ?_)))
  exact AW.skip (AW.rg hE rfl (mvD rfl (add_i64 rfl rfl (by omega) (asD rfl (OL.nil (AW.again (x := i) (i + 1) (by omega) ⟨by omega, Knows.app (.cons (VLe.refl _) (.cons (VLe.refl _) .nil)) (.cons (VLe.refl _) .nil), .nil⟩))))))
 ·try simp only [dx9] at h14
  exact AW.exit (AW.sg hE rfl (asD rfl (OL.nil (AW.ret (RetQ.r ⟨_, .tmp rfl .nil, .le (VLe.refl _)⟩)))))
theorem ref_SameQ {x : Rat} (hz : sz x ≤ 68719476736) : FSpec P F.ref01_Same [vQ x, vQ x] (.d (dB true)) := by
 have s1 := sz_num x
 have s2 := sz_den x
 have l1 : (ofQ x).num.length ≤ 1099511627776 := by rw [show (ofQ x).num = lim x.num.natAbs from rfl]; omega
 have l2 : (ofQ x).den.length ≤ 1099511627776 := Nat.le_trans (ofQ_den_len x) (by omega)
 refine FSpec.intro fn.ref01_Same (by rfl) (by rfl) (nb9 (by rfl)) fun E hE => (AW.sg hE rfl (bxA rfl rfl fun b2 => (bxA rfl rfl fun b3 => (asD rfl (OL.nil (AW.sg hE rfl (faP fd.Rat_0 rfl rfl ?_)))))))
 refine ldPC ce.bool rfl rfl rfl (faP fd.Rat_0 rfl rfl (ldPC ce.bool rfl rfl rfl (eqb bt.bool rfl rfl ?_)))
 rw [show ((ofQ x).neg == (ofQ x).neg) = true from beq_self_eq_true _]
 refine mvD rfl (OL.yes rfl (faP fd.Rat_1 rfl rfl (OL.yes rfl (ldPC ce.u32s rfl rfl rfl (OL.yes rfl (faP fd.Rat_1 rfl rfl (OL.yes rfl ?_)))))))
 refine ldPC ce.u32s rfl rfl rfl (OL.yes rfl (clv rfl (.cons (VLe.refl _) (.cons (VLe.refl _) (.nil))) (ref01_same l1) (pkT rfl rfl (mvD rfl (OL.yes rfl (faP fd.Rat_2 rfl rfl (OL.yes rfl ?_)))))))
 refine ldPC ce.u32s rfl rfl rfl (OL.yes rfl (faP fd.Rat_2 rfl rfl (OL.yes rfl (ldPC ce.u32s rfl rfl rfl (OL.yes rfl (clv rfl (.cons (VLe.refl _) (.cons (VLe.refl _) (.nil))) (ref01_same l2) (pkT rfl rfl ?_)))))))
 exact asD rfl (OL.nil (AW.ret (RetQ.r ⟨_, .tmp rfl .nil, .le (VLe.refl _)⟩)))
theorem ref33_fields {l : List Rat} (hz : Small 68719476736 l) (nl : l.length ≤ 1099511627776) : FSpec P F.ref33_fields [.d (dQs l), .d (dQs l)] (.d (dB true)) := by
 refine FSpec.intro fn.ref33_fields (by rfl) (by rfl) (nb9 (by rfl)) fun E hE => (AW.sg hE rfl (asD rfl (OL.nil (AW.seq (AW.sg hE rfl (mvD rfl (lnL sl.Rats rfl rfl ?_)))))))
 refine mvD rfl (lnL sl.Rats rfl rfl (c_neq rfl rfl (c := false) (cne_f rfl) (OL.nil (AW.cond rfl (fun hno => absurd hno (by decide)) (fun _ => ?_)))))
 refine AW.skip (AW.seq (AW.sg hE rfl (asD rfl (OL.nil (AW.block (AW.whileK (α := Nat) [(0, _), (1, _)] [] (fun i => [(5, .d (dI i))]) (fun i => []) (fun i => i ≤ l.length) (fun i => l.length - i) 0 (.cons (knD rfl) (.cons (knD rfl) .nil)) .nil ⟨Nat.zero_le _, .cons (VLe.refl _) .nil, .nil⟩ ?_))))))
 intro i h1
 have h1 : i ≤ l.length := h1
 refine AW.seq (AW.sg hE rfl (mvD rfl (mvD rfl (lnL sl.Rats rfl rfl (c_lss rfl rfl rfl (OL.nil (AW.cond rfl (fun h14 => ?_) (fun h14 => ?_))))))))
 ·try simp only [dx9] at h14
  refine AW.skip (AW.seq (AW.block (AW.seq (AW.dg 1 [0,1,2,3,4,5,6,7,8,9] order_free hE rfl (by kernel_rfl) (OI.of_OL (os := [_,_,_,_,_,_,_,_,_,_]) rfl ?_)))))
  refine mvD rfl (mvD rfl (ixLn sl.Rats 0 rfl rfl (by omega) rfl rfl (ldRA ag.Rat rfl (vs := [_,_,_]) rfl (nb9 rfl) (mvD rfl (mvD rfl (ixLn sl.Rats 0 rfl rfl (by omega) rfl rfl (ldRA ag.Rat rfl (vs := [_,_,_]) rfl (nb9 rfl) ?_)))))))
  refine clv rfl (.cons (VLe.refl _) (.cons (VLe.refl _) (.nil))) (ref_SameQ (x := l.getD i 0) (hz.get (by decide) i)) (nt rfl (OL.nil (AW.cond rfl (fun hno => absurd hno (by decide)) (fun _ => ?_))))
  exact AW.skip (AW.rg hE rfl (mvD rfl (add_i64 rfl rfl (by omega) (asD rfl (OL.nil (AW.again (x := i) (i + 1) (by omega) ⟨by omega, Knows.app (.cons (VLe.refl _) (.cons (VLe.refl _) .nil)) (.cons (VLe.refl _) .nil), .nil⟩))))))
 ·try simp only [dx9] at h14
  exact AW.exit (AW.sg hE rfl (asD rfl (OL.nil (AW.ret (RetQ.r ⟨_, .tmp rfl .nil, .le (VLe.refl _)⟩)))))
set_option maxRecDepth 6000 in
set_option maxHeartbeats 3200000 in
theorem ref33_Same {h : HM} {B : Nat} (f : h.Form B) : FSpec P F.ref33_Same [vHM h, vHM h] (.d (dB true)) := by
 have n1 := f.st1
 have s1 := f.sym1
 have e1 := f.ini
 have e2 := f.trans
 have e3 := f.stop
 have e4 := f.emit
 have e5 := f.ties
 have e6 := f.sill
 have zE := f.zE
 have bB := f.bB
 have zz : ∀ {l : List Rat}, Small B l → Small 68719476736 l := fun z => z.mono (by omega)
 refine FSpec.intro fn.ref33_Same (by rfl) (by rfl) (nb9 (by rfl)) fun E hE => (AW.sg hE rfl (bxA rfl rfl fun b2 => (bxA rfl rfl fun b3 => (asD rfl (OL.nil (AW.seq (AW.sg hE rfl ?_)))))))
 refine faP fd.Hidden_0 rfl rfl (ldPC ce.int rfl rfl rfl (faP fd.Hidden_0 rfl rfl (ldPC ce.int rfl rfl rfl (c_neq rfl rfl (c := false) (cne_f rfl) (mvD rfl (OL.yes rfl (faP fd.Hidden_1 rfl rfl ?_)))))))
 refine OL.yes rfl (ldPC ce.int rfl rfl rfl (OL.yes rfl (faP fd.Hidden_1 rfl rfl (OL.yes rfl (ldPC ce.int rfl rfl rfl (OL.yes rfl (c_neq rfl rfl (c := false) (cne_f rfl) ?_)))))))
 refine pkF rfl rfl (mvD rfl (OL.yes rfl (faP fd.Hidden_2 rfl rfl (OL.yes rfl (ldPA ag.Rat rfl rfl (vs := [_,_,_]) rfl (nb9 rfl) (OL.yes rfl (faP fd.Hidden_2 rfl rfl ?_)))))))
 refine OL.yes rfl (ldPA ag.Rat rfl rfl (vs := [_,_,_]) rfl (nb9 rfl) (OL.yes rfl (clv rfl (.cons (VLe.refl _) (.cons (VLe.refl _) (.nil))) (ref_SameQ (x := h.empty) (by omega)) (OL.yes rfl (nt rfl (pkF rfl rfl (mvD rfl ?_)))))))
 refine OL.yes rfl (faP fd.Hidden_3 rfl rfl (OL.yes rfl (ldPC ce.Rats rfl rfl rfl (OL.yes rfl (faP fd.Hidden_3 rfl rfl (OL.yes rfl (ldPC ce.Rats rfl rfl rfl ?_)))))))
 refine OL.yes rfl (clv rfl (.cons (VLe.refl _) (.cons (VLe.refl _) (.nil))) (ref33_fields (zz f.zI) (by omega)) (OL.yes rfl (nt rfl (pkF rfl rfl (mvD rfl (OL.yes rfl (faP fd.Hidden_5 rfl rfl ?_)))))))
 refine OL.yes rfl (ldPC ce.Rats rfl rfl rfl (OL.yes rfl (faP fd.Hidden_5 rfl rfl (OL.yes rfl (ldPC ce.Rats rfl rfl rfl (OL.yes rfl (clv rfl (.cons (VLe.refl _) (.cons (VLe.refl _) (.nil))) (ref33_fields (zz f.zS) (by omega)) ?_)))))))
 refine OL.yes rfl (nt rfl (pkF rfl rfl (mvD rfl (OL.yes rfl (faP fd.Hidden_4 rfl rfl (OL.yes rfl (ldPC ce.Ratss rfl rfl rfl ?_)))))))
 refine OL.yes rfl (lnL sl.Ratss rfl rfl (OL.yes rfl (faP fd.Hidden_4 rfl rfl (OL.yes rfl (ldPC ce.Ratss rfl rfl rfl (OL.yes rfl (lnL sl.Ratss rfl rfl ?_)))))))
 refine OL.yes rfl (c_neq rfl rfl (c := false) (cne_f rfl) (pkF rfl rfl (mvD rfl (OL.yes rfl (faP fd.Hidden_6 rfl rfl (OL.yes rfl (ldPC ce.Ratss rfl rfl rfl ?_)))))))
 refine OL.yes rfl (lnL sl.Ratss rfl rfl (OL.yes rfl (faP fd.Hidden_6 rfl rfl (OL.yes rfl (ldPC ce.Ratss rfl rfl rfl (OL.yes rfl (lnL sl.Ratss rfl rfl ?_)))))))
 refine OL.yes rfl (c_neq rfl rfl (c := false) (cne_f rfl) (pkF rfl rfl (mvD rfl (OL.yes rfl (faP fd.Hidden_7 rfl rfl (OL.yes rfl (ldPC ce.bools rfl rfl rfl ?_)))))))
 refine OL.yes rfl (lnL sl.bools rfl rfl (OL.yes rfl (faP fd.Hidden_7 rfl rfl (OL.yes rfl (ldPC ce.bools rfl rfl rfl (OL.yes rfl (lnL sl.bools rfl rfl ?_)))))))
 refine OL.yes rfl (c_neq rfl rfl (c := false) (cne_f rfl) (pkF rfl rfl (mvD rfl (OL.yes rfl (faP fd.Hidden_8 rfl rfl (OL.yes rfl (ldPC ce.ints rfl rfl rfl ?_)))))))
 refine OL.yes rfl (lnL sl.ints rfl rfl (OL.yes rfl (faP fd.Hidden_8 rfl rfl (OL.yes rfl (ldPC ce.ints rfl rfl rfl (OL.yes rfl (lnL sl.ints rfl rfl ?_)))))))
 refine OL.yes rfl (c_neq rfl rfl (c := false) (cne_f rfl) (pkF rfl rfl (OL.nil (AW.cond rfl (fun hno => absurd hno (by decide)) (fun _ => ?_)))))
 refine AW.skip (AW.seq (AW.sg hE rfl (asD rfl (OL.nil (AW.block ?_)))))
 refine AW.whileK (α := Nat) [(2, _), (3, _)] [(2, _), (3, _)] (fun i => [(5, .d (dI i))]) (fun i => []) (fun i => i ≤ h.trans.length) (fun i => h.trans.length - i) 0 (.cons (knP rfl) (.cons (knP rfl) .nil)) (.cons (owB rfl) (.cons (owB rfl) .nil)) ⟨Nat.zero_le _, .cons (VLe.refl _) .nil, .nil⟩ ?_
 intro i h1
 have h1 : i ≤ h.trans.length := h1
 refine AW.seq (AW.sg hE rfl (mvD rfl (faP fd.Hidden_4 rfl rfl (ldPC ce.Ratss rfl rfl rfl (lnL sl.Ratss rfl rfl (c_lss rfl rfl rfl (OL.nil ?_)))))))
 refine AW.cond rfl (fun h85 => ?_) (fun h85 => ?_)
 ·try simp only [dx9] at h85
  refine AW.skip (AW.seq (AW.block (AW.seq ?_)))
  have ti := f.trow i (by omega)
  refine AW.dg 1 [0,1,2,3,4,5,6,7,8,9,10,11] order_free hE rfl (by kernel_rfl) (OI.of_OL (os := [_,_,_,_,_,_,_,_,_,_,_,_]) rfl ?_)
  refine faP fd.Hidden_4 rfl rfl (ldPC ce.Ratss rfl rfl rfl (mvD rfl (ixLn sl.Ratss [] rfl rfl (by omega) rfl rfl (ldRC ce.Rats rfl (faP fd.Hidden_4 rfl rfl (ldPC ce.Ratss rfl rfl rfl (mvD rfl ?_)))))))
  refine ixLn sl.Ratss [] rfl rfl (by omega) rfl rfl (ldRC ce.Rats rfl (clv rfl (.cons (VLe.refl _) (.cons (VLe.refl _) (.nil))) (ref33_fields (zz (f.zT i)) (by omega)) (nt rfl (OL.nil (AW.cond rfl (fun hno => absurd hno (by decide)) (fun _ => ?_))))))
  exact AW.skip (AW.rg hE rfl (mvD rfl (add_i64 rfl rfl (by omega) (asD rfl (OL.nil (AW.again (x := i) (i + 1) (by omega) ⟨by omega, Knows.app (.cons (VLe.refl _) (.cons (VLe.refl _) .nil)) (.cons (VLe.refl _) .nil), Owns.app (.cons rfl (.cons rfl .nil)) (.nil)⟩))))))
 ·try simp only [dx9] at h85
  refine AW.exit (AW.seq (AW.sg hE rfl (asD rfl (OL.nil (AW.block ?_)))))
  refine AW.whileK (α := Nat) [(2, _), (3, _)] [(2, _), (3, _)] (fun i => [(6, .d (dI i))]) (fun i => []) (fun i => i ≤ h.emit.length) (fun i => h.emit.length - i) 0 (.cons (knP rfl) (.cons (knP rfl) .nil)) (.cons (owB rfl) (.cons (owB rfl) .nil)) ⟨Nat.zero_le _, .cons (VLe.refl _) .nil, .nil⟩ ?_
  intro i h1
  have h1 : i ≤ h.emit.length := h1
  refine AW.seq (AW.sg hE rfl (mvD rfl (faP fd.Hidden_6 rfl rfl (ldPC ce.Ratss rfl rfl rfl (lnL sl.Ratss rfl rfl (c_lss rfl rfl rfl (OL.nil ?_)))))))
  refine AW.cond rfl (fun h104 => ?_) (fun h104 => ?_)
  ·try simp only [dx9] at h104
   refine AW.skip (AW.seq (AW.block (AW.seq ?_)))
   have ei := f.erow i (by omega)
   refine AW.dg 1 [0,1,2,3,4,5,6,7,8,9,10,11] order_free hE rfl (by kernel_rfl) (OI.of_OL (os := [_,_,_,_,_,_,_,_,_,_,_,_]) rfl ?_)
   refine faP fd.Hidden_6 rfl rfl (ldPC ce.Ratss rfl rfl rfl (mvD rfl (ixLn sl.Ratss [] rfl rfl (by omega) rfl rfl (ldRC ce.Rats rfl (faP fd.Hidden_6 rfl rfl (ldPC ce.Ratss rfl rfl rfl (mvD rfl ?_)))))))
   refine ixLn sl.Ratss [] rfl rfl (by omega) rfl rfl (ldRC ce.Rats rfl (clv rfl (.cons (VLe.refl _) (.cons (VLe.refl _) (.nil))) (ref33_fields (zz (f.zM i)) (by omega)) (nt rfl (OL.nil (AW.cond rfl (fun hno => absurd hno (by decide)) (fun _ => ?_))))))
   exact AW.skip (AW.rg hE rfl (mvD rfl (add_i64 rfl rfl (by omega) (asD rfl (OL.nil (AW.again (x := i) (i + 1) (by omega) ⟨by omega, Knows.app (.cons (VLe.refl _) (.cons (VLe.refl _) .nil)) (.cons (VLe.refl _) .nil), Owns.app (.cons rfl (.cons rfl .nil)) (.nil)⟩))))))
  ·try simp only [dx9] at h104
   refine AW.exit (AW.seq (AW.sg hE rfl (asD rfl (OL.nil (AW.block ?_)))))
   refine AW.whileK (α := Nat) [(2, _), (3, _)] [(2, _), (3, _)] (fun i => [(7, .d (dI i))]) (fun i => []) (fun i => i ≤ h.silent.length) (fun i => h.silent.length - i) 0 (.cons (knP rfl) (.cons (knP rfl) .nil)) (.cons (owB rfl) (.cons (owB rfl) .nil)) ⟨Nat.zero_le _, .cons (VLe.refl _) .nil, .nil⟩ ?_
   intro i h1
   have h1 : i ≤ h.silent.length := h1
   refine AW.seq (AW.sg hE rfl (mvD rfl (faP fd.Hidden_7 rfl rfl (ldPC ce.bools rfl rfl rfl (lnL sl.bools rfl rfl (c_lss rfl rfl rfl (OL.nil ?_)))))))
   refine AW.cond rfl (fun h123 => ?_) (fun h123 => ?_)
   ·try simp only [dx9] at h123
    refine AW.skip (AW.seq (AW.block (AW.seq (AW.dg 1 [0,1,2,3,4,5,6,7,8,9,10] order_free hE rfl (by kernel_rfl) (OI.of_OL (os := [_,_,_,_,_,_,_,_,_,_,_]) rfl ?_)))))
    refine faP fd.Hidden_7 rfl rfl (ldPC ce.bools rfl rfl rfl (mvD rfl (ixLn sl.bools false rfl rfl (by omega) rfl rfl (ldRC ce.bool rfl (faP fd.Hidden_7 rfl rfl (ldPC ce.bools rfl rfl rfl (mvD rfl ?_)))))))
    refine ixLn sl.bools false rfl rfl (by omega) rfl rfl (ldRC ce.bool rfl (neb bt.bool rfl rfl ?_))
    rw [show (!(h.silent.getD i false == h.silent.getD i false)) = false by rw [beq_self_eq_true]; rfl]
    refine OL.nil (AW.cond rfl (fun hno => absurd hno (by decide)) (fun _ => ?_))
    exact AW.skip (AW.rg hE rfl (mvD rfl (add_i64 rfl rfl (by omega) (asD rfl (OL.nil (AW.again (x := i) (i + 1) (by omega) ⟨by omega, Knows.app (.cons (VLe.refl _) (.cons (VLe.refl _) .nil)) (.cons (VLe.refl _) .nil), Owns.app (.cons rfl (.cons rfl .nil)) (.nil)⟩))))))
   ·try simp only [dx9] at h123
    refine AW.exit (AW.seq (AW.sg hE rfl (asD rfl (OL.nil (AW.block ?_)))))
    refine AW.whileK (α := Nat) [(2, _), (3, _)] [(2, _), (3, _)] (fun i => [(8, .d (dI i))]) (fun i => []) (fun i => i ≤ h.ties.length) (fun i => h.ties.length - i) 0 (.cons (knP rfl) (.cons (knP rfl) .nil)) (.cons (owB rfl) (.cons (owB rfl) .nil)) ⟨Nat.zero_le _, .cons (VLe.refl _) .nil, .nil⟩ ?_
    intro i h1
    have h1 : i ≤ h.ties.length := h1
    refine AW.seq (AW.sg hE rfl (mvD rfl (faP fd.Hidden_8 rfl rfl (ldPC ce.ints rfl rfl rfl (lnL sl.ints rfl rfl (c_lss rfl rfl rfl (OL.nil ?_)))))))
    refine AW.cond rfl (fun h141 => ?_) (fun h141 => ?_)
    ·try simp only [dx9] at h141
     refine AW.skip (AW.seq (AW.block (AW.seq (AW.dg 1 [0,1,2,3,4,5,6,7,8,9,10] order_free hE rfl (by kernel_rfl) (OI.of_OL (os := [_,_,_,_,_,_,_,_,_,_,_]) rfl ?_)))))
     refine faP fd.Hidden_8 rfl rfl (ldPC ce.ints rfl rfl rfl (mvD rfl (ixLn sl.ints 0 rfl rfl (by omega) rfl rfl (ldRC ce.int rfl (faP fd.Hidden_8 rfl rfl (ldPC ce.ints rfl rfl rfl (mvD rfl ?_)))))))
     refine ixLn sl.ints 0 rfl rfl (by omega) rfl rfl (ldRC ce.int rfl (c_neq rfl rfl (c := false) (cne_f rfl) (OL.nil (AW.cond rfl (fun hno => absurd hno (by decide)) (fun _ => ?_)))))
     exact AW.skip (AW.rg hE rfl (mvD rfl (add_i64 rfl rfl (by omega) (asD rfl (OL.nil (AW.again (x := i) (i + 1) (by omega) ⟨by omega, Knows.app (.cons (VLe.refl _) (.cons (VLe.refl _) .nil)) (.cons (VLe.refl _) .nil), Owns.app (.cons rfl (.cons rfl .nil)) (.nil)⟩))))))
    ·try simp only [dx9] at h141
     exact AW.exit (AW.sg hE rfl (asD rfl (OL.nil (AW.ret (RetQ.r ⟨_, .tmp rfl .nil, .le (VLe.refl _)⟩)))))
theorem hmm_sameQ {x y : Rat} (hz : sz x ≤ 68719476736) : FSpec P F.hmm_same [vQ x, vQ y] (.d (dB (decide (x = y)))) := by
 have s1 := sz_num x
 have s2 := sz_den x
 have l1 : (ofQ x).num.length ≤ 1099511627776 := by rw [show (ofQ x).num = lim x.num.natAbs from rfl]; omega
 have l2 : (ofQ x).den.length ≤ 1099511627776 := Nat.le_trans (ofQ_den_len x) (by omega)
 refine FSpec.intro fn.hmm_same (by rfl) (by rfl) (nb9 (by rfl)) fun E hE => (AW.sg hE rfl (bxA rfl rfl fun b2 => (bxA rfl rfl fun b3 => (asD rfl (OL.nil (AW.sg hE rfl (faP fd.Rat_0 rfl rfl ?_)))))))
 refine ldPC ce.bool rfl rfl rfl (faP fd.Rat_0 rfl rfl (ldPC ce.bool rfl rfl rfl (eqb bt.bool rfl rfl (mvD rfl (OL.split 10 rfl (fun g10 => ?_) (fun g10 => ?_))))))
 ·try simp only [dx9] at g10
  refine OL.yes rfl (faP fd.Rat_1 rfl rfl (OL.yes rfl (ldPC ce.u32s rfl rfl rfl (OL.yes rfl (faP fd.Rat_1 rfl rfl (OL.yes rfl (ldPC ce.u32s rfl rfl rfl ?_)))))))
  refine OL.yes rfl (clv rfl (.cons (VLe.refl _) (.cons (VLe.refl _) (.nil))) (equal_u32s l1) (pkT rfl rfl (mvD rfl (OL.split 17 rfl (fun g17 => ?_) (fun g17 => ?_)))))
  ·try simp only [dx9] at g17
   refine OL.yes rfl (faP fd.Rat_2 rfl rfl (OL.yes rfl (ldPC ce.u32s rfl rfl rfl (OL.yes rfl (faP fd.Rat_2 rfl rfl (OL.yes rfl (ldPC ce.u32s rfl rfl rfl ?_)))))))
   exact OL.yes rfl (clv rfl (.cons (VLe.refl _) (.cons (VLe.refl _) (.nil))) (equal_u32s l2) (pkT rfl rfl (asD rfl (OL.nil (AW.ret (RetQ.r ⟨_, .tmp rfl .nil, .le (VLe.bool (by rw [decide_eq_decide, ofQ_inj9]; simp_all))⟩))))))
  ·try simp only [dx9] at g17
   refine OL.no rfl (by decide) (OL.no rfl (by decide) (OL.no rfl (by decide) (OL.no rfl (by decide) (OL.no rfl (by decide) (pkF rfl rfl (asD rfl (OL.nil ?_)))))))
   exact AW.ret (RetQ.r ⟨_, .tmp rfl .nil, .le (VLe.bool (by rw [eq_comm, decide_eq_false_iff_not, ofQ_inj9]; simp_all))⟩)
 ·try simp only [dx9] at g10
  refine OL.no rfl (by decide) (OL.no rfl (by decide) (OL.no rfl (by decide) (OL.no rfl (by decide) (OL.no rfl (by decide) (pkF rfl rfl (mvD rfl (OL.no rfl (by decide) ?_)))))))
  exact OL.no rfl (by decide) (OL.no rfl (by decide) (OL.no rfl (by decide) (OL.no rfl (by decide) (pkF rfl rfl (asD rfl (OL.nil (AW.ret (RetQ.r ⟨_, .tmp rfl .nil, .le (VLe.bool (by rw [eq_comm, decide_eq_false_iff_not, ofQ_inj9]; simp_all))⟩))))))))
theorem eqf_Rats {l m : List Rat} {f : Nat} (hf : ∀ x y, x ∈ l → y ∈ m → FSpec P f [vQ x, vQ y] (.d (dB (decide (x = y))))) (nl : l.length ≤ 1099511627776) : FSpec P F.slices_EqualFunc_Rats_Rats_Rat_Rat [.d (dQs l), .d (dQs m), .fn f []] (.d (dB (decide (l = m)))) := by
 refine FSpec.intro fn.slices_EqualFunc_Rats_Rats_Rat_Rat (by rfl) (by rfl) (nb9 (by rfl)) fun E hE => (AW.sg hE rfl (asD rfl (OL.nil (AW.seq (AW.sg hE rfl (mvD rfl (lnL sl.Rats rfl rfl ?_)))))))
 refine mvD rfl (lnL sl.Rats rfl rfl (c_neq rfl rfl rfl (OL.nil (AW.cond rfl (fun h10 => ?_) (fun h10 => ?_)))))
 ·have hl : l.length ≠ m.length := by simp at h10; omega
  exact AW.sg hE rfl (asD rfl (OL.nil (AW.ret (RetQ.r ⟨_, .tmp rfl .nil, .le (VLe.bool ((decide_eq_false fun e => hl (by rw [e])).symm))⟩))))
 ·have hl : l.length = m.length := by simp at h10; omega
  refine AW.skip (AW.seq (AW.sg hE rfl (mvD rfl (lnL sl.Rats rfl rfl (mvD rfl (OL.nil (AW.block ?_)))))))
  refine AW.whileK (α := Nat) [(1, _), (2, _), (15, _), (16, _)] [] (fun i => [(17, .d (dI i))]) (fun i => []) (fun i => i ≤ l.length ∧ ∀ j, j < i → l.getD j 0 = m.getD j 0) (fun i => l.length - i) 0 (.cons (knD rfl) (.cons (knF rfl) (.cons (knD rfl) (.cons (knD rfl) .nil)))) .nil ⟨⟨Nat.zero_le _, fun j hj => by omega⟩, .cons (VLe.refl _) .nil, .nil⟩ ?_
  rintro i ⟨h1, h2⟩
  have h1 : i ≤ l.length := h1
  refine AW.sg hE rfl (c_lss rfl rfl rfl (OL.nil (AW.seq (AW.cond rfl (fun h18 => ?_) (fun h18 => ?_)))))
  ·try simp only [dx9] at h18
   refine AW.skip (AW.seq (AW.block (AW.sg hE rfl (mvD rfl (ixLn sl.Rats 0 rfl rfl (by omega) rfl rfl (ldRA ag.Rat rfl (vs := [_,_,_]) rfl (nb9 rfl) (al z.Rat rfl fun b8 => ?_)))))))
   refine asD rfl (sto sz.Rat rfl rfl rfl rfl rfl (nb9 rfl) (cells2 := [_,_,_]) rfl (OL.nil (AW.sg hE rfl (mvD rfl (mvD rfl (ixLn sl.Rats 0 rfl rfl (by omega) rfl rfl (ldRA ag.Rat rfl (vs := [_,_,_]) rfl (nb9 rfl) ?_)))))))
   refine al z.Rat rfl fun b9 => (sto sz.Rat rfl rfl rfl rfl rfl (nb9 rfl) (cells2 := [_,_,_]) rfl (OL.nil (AW.sg hE rfl (mvF rfl (ldPA ag.Rat rfl rfl (vs := [_,_,_]) rfl (nb9 rfl) (ldPA ag.Rat rfl rfl (vs := [_,_,_]) rfl (nb9 rfl) (clv rfl (.cons (VLe.refl _) (.cons (VLe.refl _) (.nil))) (hf (l.getD i 0) (m.getD i 0) (getD_mem (by omega) _) (getD_mem (by omega) _)) ?_)))))))
   refine nt rfl (OL.nil (AW.cond rfl (fun hc => ?_) (fun hc => ?_)))
   ·have hc : l.getD i 0 ≠ m.getD i 0 := fun e => by rw [decide_eq_true e] at hc; cases hc
    exact AW.sg hE rfl (asD rfl (OL.nil (AW.ret (RetQ.r ⟨_, .tmp rfl .nil, .le (VLe.bool ((decide_eq_false fun e => hc (by rw [e])).symm))⟩))))
   ·have hc : l.getD i 0 = m.getD i 0 := by simpa using hc
    refine AW.skip (AW.rg hE rfl (add_i64 rfl rfl (by omega) (mvD rfl (OL.nil ?_))))
    exact AW.again (x := i) (i + 1) (by omega) ⟨⟨by omega, fun j hj => by rcases Nat.lt_or_ge j i with h | h; exact h2 j h; obtain rfl : j = i := (by omega); exact hc⟩, Knows.app (.cons (VLe.refl _) (.cons (VLe.refl _) (.cons (VLe.refl _) (.cons (VLe.refl _) .nil)))) (.cons (VLe.refl _) .nil), .nil⟩
  ·try simp only [dx9] at h18
   exact AW.exit (AW.sg hE rfl (asD rfl (OL.nil (AW.ret (RetQ.r ⟨_, .tmp rfl .nil, .le (VLe.bool ((decide_eq_true (list_eq_getD hl 0 fun j hj => h2 j (by omega))).symm))⟩)))))
theorem hmm_Same_1 {l m : List Rat} (hz : Small 68719476736 l) (nl : l.length ≤ 1099511627776) : FSpec P F.hmm_Same_1 [.d (dQs l), .d (dQs m)] (.d (dB (decide (l = m)))) := by
 refine FSpec.intro fn.hmm_Same_1 (by rfl) (by rfl) (nb9 (by rfl)) fun E hE => (AW.sg hE rfl (asD rfl (OL.nil (AW.sg hE rfl (mvD rfl (mvD rfl (clv rfl (.cons (VLe.refl _) (.cons (VLe.refl _) (.cons (VLe.refl _) (.nil)))) (eqf_Rats (f := F.hmm_same) (fun x y hx _ => hmm_sameQ (hz x hx)) nl) ?_)))))))
 exact asD rfl (OL.nil (AW.ret (RetQ.r ⟨_, .tmp rfl .nil, .le (VLe.refl _)⟩)))
theorem eqf_Ratss {l m : List (List Rat)} {f : Nat} (hf : ∀ x y, x ∈ l → y ∈ m → FSpec P f [.d (dQs x), .d (dQs y)] (.d (dB (decide (x = y))))) (nl : l.length ≤ 1099511627776) : FSpec P F.slices_EqualFunc_Ratss_Ratss_Rats_Rats [.d (dQss l), .d (dQss m), .fn f []] (.d (dB (decide (l = m)))) := by
 refine FSpec.intro fn.slices_EqualFunc_Ratss_Ratss_Rats_Rats (by rfl) (by rfl) (nb9 (by rfl)) fun E hE => (AW.sg hE rfl (asD rfl (OL.nil (AW.seq (AW.sg hE rfl (mvD rfl (lnL sl.Ratss rfl rfl ?_)))))))
 refine mvD rfl (lnL sl.Ratss rfl rfl (c_neq rfl rfl rfl (OL.nil (AW.cond rfl (fun h10 => ?_) (fun h10 => ?_)))))
 ·have hl : l.length ≠ m.length := by simp at h10; omega
  exact AW.sg hE rfl (asD rfl (OL.nil (AW.ret (RetQ.r ⟨_, .tmp rfl .nil, .le (VLe.bool ((decide_eq_false fun e => hl (by rw [e])).symm))⟩))))
 ·have hl : l.length = m.length := by simp at h10; omega
  refine AW.skip (AW.seq (AW.sg hE rfl (mvD rfl (lnL sl.Ratss rfl rfl (mvD rfl (OL.nil (AW.block ?_)))))))
  refine AW.whileK (α := Nat) [(1, _), (2, _), (15, _), (16, _)] [] (fun i => [(17, .d (dI i))]) (fun i => []) (fun i => i ≤ l.length ∧ ∀ j, j < i → l.getD j [] = m.getD j []) (fun i => l.length - i) 0 (.cons (knD rfl) (.cons (knF rfl) (.cons (knD rfl) (.cons (knD rfl) .nil)))) .nil ⟨⟨Nat.zero_le _, fun j hj => by omega⟩, .cons (VLe.refl _) .nil, .nil⟩ ?_
  rintro i ⟨h1, h2⟩
  have h1 : i ≤ l.length := h1
  refine AW.sg hE rfl (c_lss rfl rfl rfl (OL.nil (AW.seq (AW.cond rfl (fun h18 => ?_) (fun h18 => ?_)))))
  ·try simp only [dx9] at h18
   refine AW.skip (AW.seq (AW.block (AW.sg hE rfl (mvD rfl (ixLn sl.Ratss [] rfl rfl (by omega) rfl rfl (ldRC ce.Rats rfl (asD rfl ?_)))))))
   refine asD rfl (OL.nil (AW.sg hE rfl (mvD rfl (mvD rfl (ixLn sl.Ratss [] rfl rfl (by omega) rfl rfl (ldRC ce.Rats rfl (asD rfl ?_)))))))
   refine OL.nil (AW.sg hE rfl (mvF rfl (mvD rfl (mvD rfl (clv rfl (.cons (VLe.refl _) (.cons (VLe.refl _) (.nil))) (hf (l.getD i []) (m.getD i []) (getD_mem (by omega) _) (getD_mem (by omega) _)) (nt rfl (OL.nil ?_)))))))
   refine AW.cond rfl (fun hc => ?_) (fun hc => ?_)
   ·have hc : l.getD i [] ≠ m.getD i [] := fun e => by rw [decide_eq_true e] at hc; cases hc
    exact AW.sg hE rfl (asD rfl (OL.nil (AW.ret (RetQ.r ⟨_, .tmp rfl .nil, .le (VLe.bool ((decide_eq_false fun e => hc (by rw [e])).symm))⟩))))
   ·have hc : l.getD i [] = m.getD i [] := by simpa using hc
    refine AW.skip (AW.rg hE rfl (add_i64 rfl rfl (by omega) (mvD rfl (OL.nil ?_))))
    exact AW.again (x := i) (i + 1) (by omega) ⟨⟨by omega, fun j hj => by rcases Nat.lt_or_ge j i with h | h; exact h2 j h; obtain rfl : j = i := (by omega); exact hc⟩, Knows.app (.cons (VLe.refl _) (.cons (VLe.refl _) (.cons (VLe.refl _) (.cons (VLe.refl _) .nil)))) (.cons (VLe.refl _) .nil), .nil⟩
  ·try simp only [dx9] at h18
   exact AW.exit (AW.sg hE rfl (asD rfl (OL.nil (AW.ret (RetQ.r ⟨_, .tmp rfl .nil, .le (VLe.bool ((decide_eq_true (list_eq_getD hl [] fun j hj => h2 j (by omega))).symm))⟩)))))
set_option maxRecDepth 6000 in
set_option maxHeartbeats 3200000 in
theorem hmm_Same {a b : HM} {B : Nat} (f : a.Form B) (q1 : a.sym = b.sym) (q2 : a.st = b.st) (q3 : a.silent = b.silent) (q4 : a.ties = b.ties) : FSpec P F.hmm_Same [vHM a, vHM b] (.d (dB (sameHM a b))) := by
 have n1 := f.st1
 have s1 := f.sym1
 have e1 := f.ini
 have e2 := f.trans
 have e3 := f.stop
 have e4 := f.emit
 have e5 := f.ties
 have e6 := f.sill
 have zE := f.zE
 have bB := f.bB
 have zz : ∀ {l : List Rat}, Small B l → Small 68719476736 l := fun z => z.mono (by omega)
 have zT : ∀ x, x ∈ a.trans → Small 68719476736 x ∧ x.length ≤ 1099511627776 := fun x hx => by
  obtain ⟨i, hi, rfl⟩ := mem_getD hx []
  exact ⟨zz (f.zT i), by rw [f.trow i (by omega)]; omega⟩
 have zM : ∀ x, x ∈ a.emit → Small 68719476736 x ∧ x.length ≤ 1099511627776 := fun x hx => by
  obtain ⟨i, hi, rfl⟩ := mem_getD hx []
  exact ⟨zz (f.zM i), by rw [f.erow i (by omega)]; omega⟩
 refine FSpec.intro fn.hmm_Same (by rfl) (by rfl) (nb9 (by rfl)) fun E hE => (AW.sg hE rfl (bxA rfl rfl fun b2 => (bxA rfl rfl fun b3 => (asD rfl (OL.nil (AW.sg hE rfl (asF rfl ?_)))))))
 refine OL.nil (AW.sg hE rfl (faP fd.Hidden_0 rfl rfl (ldPC ce.int rfl rfl rfl (faP fd.Hidden_0 rfl rfl (ldPC ce.int rfl rfl rfl (c_eql rfl rfl (c := true) (by exact decide_eq_true (by omega)) (mvD rfl ?_)))))))
 refine OL.yes rfl (faP fd.Hidden_1 rfl rfl (OL.yes rfl (ldPC ce.int rfl rfl rfl (OL.yes rfl (faP fd.Hidden_1 rfl rfl (OL.yes rfl (ldPC ce.int rfl rfl rfl ?_)))))))
 refine OL.yes rfl (c_eql rfl rfl (c := true) (by exact decide_eq_true (by omega)) (pkT rfl rfl (mvD rfl (OL.yes rfl (faP fd.Hidden_2 rfl rfl (OL.yes rfl (ldPA ag.Rat rfl rfl (vs := [_,_,_]) rfl (nb9 rfl) ?_)))))))
 refine OL.yes rfl (faP fd.Hidden_2 rfl rfl (OL.yes rfl (ldPA ag.Rat rfl rfl (vs := [_,_,_]) rfl (nb9 rfl) (OL.yes rfl (clv rfl (.cons (VLe.refl _) (.cons (VLe.refl _) (.nil))) (hmm_sameQ (x := a.empty) (y := b.empty) (by omega)) (pkT rfl rfl (mvD rfl ?_)))))))
 refine OL.split 25 rfl (fun g25 => ?_) (fun g25 => ?_)
 ·try simp only [dx9] at g25
  refine OL.yes rfl (mvF rfl (OL.yes rfl (faP fd.Hidden_3 rfl rfl (OL.yes rfl (ldPC ce.Rats rfl rfl rfl (OL.yes rfl (faP fd.Hidden_3 rfl rfl ?_)))))))
  refine OL.yes rfl (ldPC ce.Rats rfl rfl rfl (OL.yes rfl (clv rfl (.cons (VLe.refl _) (.cons (VLe.refl _) (.nil))) (hmm_Same_1 (l := a.ini) (m := b.ini) (zz f.zI) (by omega)) (pkT rfl rfl (mvD rfl (OL.split 33 rfl (fun g33 => ?_) (fun g33 => ?_)))))))
  ·try simp only [dx9] at g33
   refine OL.yes rfl (faP fd.Hidden_4 rfl rfl (OL.yes rfl (ldPC ce.Ratss rfl rfl rfl (OL.yes rfl (faP fd.Hidden_4 rfl rfl (OL.yes rfl (ldPC ce.Ratss rfl rfl rfl ?_)))))))
   refine OL.yes rfl (mvF rfl (OL.yes rfl (clv rfl (.cons (VLe.refl _) (.cons (VLe.refl _) (.cons (VLe.refl _) (.nil)))) (eqf_Ratss (f := F.hmm_Same_1) (fun x y hx _ => hmm_Same_1 (zT x hx).1 (zT x hx).2) (by omega)) (pkT rfl rfl (mvD rfl (OL.split 41 rfl (fun g41 => ?_) (fun g41 => ?_)))))))
   ·try simp only [dx9] at g41
    refine OL.yes rfl (mvF rfl (OL.yes rfl (faP fd.Hidden_5 rfl rfl (OL.yes rfl (ldPC ce.Rats rfl rfl rfl (OL.yes rfl (faP fd.Hidden_5 rfl rfl ?_)))))))
    refine OL.yes rfl (ldPC ce.Rats rfl rfl rfl (OL.yes rfl (clv rfl (.cons (VLe.refl _) (.cons (VLe.refl _) (.nil))) (hmm_Same_1 (l := a.stop) (m := b.stop) (zz f.zS) (by omega)) (pkT rfl rfl (mvD rfl (OL.split 49 rfl (fun g49 => ?_) (fun g49 => ?_)))))))
    ·try simp only [dx9] at g49
     refine OL.yes rfl (faP fd.Hidden_6 rfl rfl (OL.yes rfl (ldPC ce.Ratss rfl rfl rfl (OL.yes rfl (faP fd.Hidden_6 rfl rfl (OL.yes rfl (ldPC ce.Ratss rfl rfl rfl ?_)))))))
     refine OL.yes rfl (mvF rfl (OL.yes rfl (clv rfl (.cons (VLe.refl _) (.cons (VLe.refl _) (.cons (VLe.refl _) (.nil)))) (eqf_Ratss (f := F.hmm_Same_1) (fun x y hx _ => hmm_Same_1 (zM x hx).1 (zM x hx).2) (by omega)) (pkT rfl rfl (mvD rfl (OL.split 57 rfl (fun g57 => ?_) (fun g57 => ?_)))))))
     ·try simp only [dx9] at g57
      refine OL.yes rfl (faP fd.Hidden_7 rfl rfl (OL.yes rfl (ldPC ce.bools rfl rfl rfl (OL.yes rfl (faP fd.Hidden_7 rfl rfl (OL.yes rfl (ldPC ce.bools rfl rfl rfl ?_)))))))
      refine OL.yes rfl (clv rfl (.cons (VLe.refl _) (.cons (VLe.refl _) (.nil))) (equal_bools (l := a.silent) (m := b.silent) (by omega)) ?_)
      rw [decide_eq_true q3]
      refine pkT rfl rfl (mvD rfl (OL.yes rfl (faP fd.Hidden_8 rfl rfl (OL.yes rfl (ldPC ce.ints rfl rfl rfl (OL.yes rfl (faP fd.Hidden_8 rfl rfl ?_)))))))
      refine OL.yes rfl (ldPC ce.ints rfl rfl rfl (OL.yes rfl (clv rfl (.cons (VLe.refl _) (.cons (VLe.refl _) (.nil))) (equal_ints (l := a.ties) (m := b.ties) (by omega)) ?_)))
      rw [decide_eq_true q4]
      exact pkT rfl rfl (asD rfl (OL.nil (AW.ret (RetQ.r ⟨_, .tmp rfl .nil, .le (VLe.bool (by unfold sameHM; simp_all))⟩))))
     ·try simp only [dx9] at g57
      refine OL.no rfl (by decide) (OL.no rfl (by decide) (OL.no rfl (by decide) (OL.no rfl (by decide) (OL.no rfl (by decide) (pkF rfl rfl (mvD rfl (OL.no rfl (by decide) ?_)))))))
      exact OL.no rfl (by decide) (OL.no rfl (by decide) (OL.no rfl (by decide) (OL.no rfl (by decide) (pkF rfl rfl (asD rfl (OL.nil (AW.ret (RetQ.r ⟨_, .tmp rfl .nil, .le (VLe.bool (by unfold sameHM; simp_all))⟩))))))))
    ·try simp only [dx9] at g49
     refine OL.no rfl (by decide) (OL.no rfl (by decide) (OL.no rfl (by decide) (OL.no rfl (by decide) (OL.no rfl (by decide) (OL.no rfl (by decide) (pkF rfl rfl (mvD rfl ?_)))))))
     refine OL.no rfl (by decide) (OL.no rfl (by decide) (OL.no rfl (by decide) (OL.no rfl (by decide) (OL.no rfl (by decide) (pkF rfl rfl (mvD rfl (OL.no rfl (by decide) ?_)))))))
     exact OL.no rfl (by decide) (OL.no rfl (by decide) (OL.no rfl (by decide) (OL.no rfl (by decide) (pkF rfl rfl (asD rfl (OL.nil (AW.ret (RetQ.r ⟨_, .tmp rfl .nil, .le (VLe.bool (by unfold sameHM; simp_all))⟩))))))))
   ·try simp only [dx9] at g41
    refine OL.no rfl (by decide) (OL.no rfl (by decide) (OL.no rfl (by decide) (OL.no rfl (by decide) (OL.no rfl (by decide) (OL.no rfl (by decide) (pkF rfl rfl (mvD rfl ?_)))))))
    refine OL.no rfl (by decide) (OL.no rfl (by decide) (OL.no rfl (by decide) (OL.no rfl (by decide) (OL.no rfl (by decide) (OL.no rfl (by decide) (pkF rfl rfl (mvD rfl ?_)))))))
    refine OL.no rfl (by decide) (OL.no rfl (by decide) (OL.no rfl (by decide) (OL.no rfl (by decide) (OL.no rfl (by decide) (pkF rfl rfl (mvD rfl (OL.no rfl (by decide) ?_)))))))
    exact OL.no rfl (by decide) (OL.no rfl (by decide) (OL.no rfl (by decide) (OL.no rfl (by decide) (pkF rfl rfl (asD rfl (OL.nil (AW.ret (RetQ.r ⟨_, .tmp rfl .nil, .le (VLe.bool (by unfold sameHM; simp_all))⟩))))))))
  ·try simp only [dx9] at g33
   refine OL.no rfl (by decide) (OL.no rfl (by decide) (OL.no rfl (by decide) (OL.no rfl (by decide) (OL.no rfl (by decide) (OL.no rfl (by decide) (pkF rfl rfl (mvD rfl ?_)))))))
   refine OL.no rfl (by decide) (OL.no rfl (by decide) (OL.no rfl (by decide) (OL.no rfl (by decide) (OL.no rfl (by decide) (OL.no rfl (by decide) (pkF rfl rfl (mvD rfl ?_)))))))
   refine OL.no rfl (by decide) (OL.no rfl (by decide) (OL.no rfl (by decide) (OL.no rfl (by decide) (OL.no rfl (by decide) (OL.no rfl (by decide) (pkF rfl rfl (mvD rfl ?_)))))))
   refine OL.no rfl (by decide) (OL.no rfl (by decide) (OL.no rfl (by decide) (OL.no rfl (by decide) (OL.no rfl (by decide) (pkF rfl rfl (mvD rfl (OL.no rfl (by decide) ?_)))))))
   exact OL.no rfl (by decide) (OL.no rfl (by decide) (OL.no rfl (by decide) (OL.no rfl (by decide) (pkF rfl rfl (asD rfl (OL.nil (AW.ret (RetQ.r ⟨_, .tmp rfl .nil, .le (VLe.bool (by unfold sameHM; simp_all))⟩))))))))
 ·try simp only [dx9] at g25
  refine OL.no rfl (by decide) (OL.no rfl (by decide) (OL.no rfl (by decide) (OL.no rfl (by decide) (OL.no rfl (by decide) (OL.no rfl (by decide) (pkF rfl rfl (mvD rfl ?_)))))))
  refine OL.no rfl (by decide) (OL.no rfl (by decide) (OL.no rfl (by decide) (OL.no rfl (by decide) (OL.no rfl (by decide) (OL.no rfl (by decide) (pkF rfl rfl (mvD rfl ?_)))))))
  refine OL.no rfl (by decide) (OL.no rfl (by decide) (OL.no rfl (by decide) (OL.no rfl (by decide) (OL.no rfl (by decide) (OL.no rfl (by decide) (pkF rfl rfl (mvD rfl ?_)))))))
  refine OL.no rfl (by decide) (OL.no rfl (by decide) (OL.no rfl (by decide) (OL.no rfl (by decide) (OL.no rfl (by decide) (OL.no rfl (by decide) (pkF rfl rfl (mvD rfl ?_)))))))
  refine OL.no rfl (by decide) (OL.no rfl (by decide) (OL.no rfl (by decide) (OL.no rfl (by decide) (OL.no rfl (by decide) (pkF rfl rfl (mvD rfl (OL.no rfl (by decide) ?_)))))))
  exact OL.no rfl (by decide) (OL.no rfl (by decide) (OL.no rfl (by decide) (OL.no rfl (by decide) (pkF rfl rfl (asD rfl (OL.nil (AW.ret (RetQ.r ⟨_, .tmp rfl .nil, .le (VLe.bool (by unfold sameHM; simp_all))⟩))))))))
end Go.Proofs.YtoohdcpikkkanaaGreat

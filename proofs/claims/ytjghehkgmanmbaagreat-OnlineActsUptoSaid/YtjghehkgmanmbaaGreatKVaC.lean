/-
  Walks of the specification's checks on any model (printed by mk2.py).
-/
import Derived.Test.YtjghehkgmanmbaaGreatKVaB
import Derived.Test.YtjghehkgmanmbaaGreatKNum13
set_option linter.unusedVariables false
set_option linter.unusedSimpArgs false
namespace Go.Proofs.YtjghehkgmanmbaaGreat
open Go Go.AL
theorem ref_CompareR1 {r : Raw} (m : r.Med) : FSpec P F.ref01_Compare [vRaw r, vQ 1] (.d (dI (cmpQ r.q 1))) := by
 have h := ref_Compare (x := r) (y := ofQ 1) m.sm (ofQ_sm z1K)
 rw [q_ofQ] at h; exact h
theorem sumQ_app_one (l : List Rat) (x : Rat) : sumQ (l ++ [x]) = x + sumQ l := by
 unfold sumQ
 rw [List.foldl_append]
 exact Rat.add_comm ..
theorem ref33_Whole {n : Int} (hn : -9223372036854775808 ≤ n ∧ n ≤ 9223372036854775807) : FSpec P F.ref33_Whole [.d (dI n)] (vQ (n : Rat)) := by
 refine FSpec.intro fn.ref33_Whole (by rfl) (by rfl) (nb9 (by rfl)) fun E hE => (AW.sg hE rfl (al z.Rat rfl fun b2 => (OL.nil (AW.sg hE rfl (mvD rfl (clv rfl .rq2 (ref_Make hn (by decide) (by decide)) ?_))))))
 rw [show (n : Rat) / ((1 : Int) : Rat) = (n : Rat) by rw [show ((1 : Int) : Rat) = 1 from rfl]; grind]
 refine mvT rfl (ex rfl rfl (ex rfl rfl (al z.Rat rfl fun b3 => (sto sz.Rat rfl rfl rfl rfl rfl (nb9 rfl) (cells2 := [_,_,_]) rfl (asD rfl (OL.nil (AW.sg hE rfl ?_)))))))
 exact ldPA ag.Rat rfl rfl (vs := [_,_,_]) rfl (nb9 rfl) (sto sz.Rat rfl rfl rfl rfl rfl (nb9 rfl) (cells2 := [_,_,_]) rfl (OL.nil (AW.ret (RetQ.r ⟨_, .cellA rfl rfl ag.Rat (nb9 rfl) .nil, .ag (.cons (.le (VLe.refl _)) (.cons (.le (VLe.refl _)) (.cons (.le (VLe.refl _)) .nil)))⟩))))
theorem ref33_Whole1 : FSpec P F.ref33_Whole [.d (dI 1)] (vQ 1) := by
 have h := ref33_Whole (n := 1) (by decide)
 rw [show ((1 : Int) : Rat) = 1 from rfl] at h; exact h
theorem ref33_SumS {l : List Rat} {B : Nat} (hl : Small B l) (hB : B ≤ 1048576) (hn : l.length ≤ 1024) : FSpec P F.ref33_Sum [.d (dQs l)] (vQ (sumQ l)) := by
 refine FSpec.intro fn.ref33_Sum (by rfl) (by rfl) (nb9 (by rfl)) fun E hE => (AW.sg hE rfl (al z.Rat rfl fun b2 => (OL.nil (AW.sg hE rfl (bd z.Rat pl.Rat (cs := [_,_,_]) rfl (al z.Rat rfl fun b3 => (sto sz.Rat rfl rfl rfl rfl rfl (nb9 rfl) (cells2 := [_,_,_]) rfl ?_)))))))
 refine OL.nil (AW.seq (AW.sg hE rfl (asD rfl (OL.nil (AW.block (AW.boxW 3 (cellsQ 0) rfl vles_q ?_))))))
 refine AW.whileK (α := Nat) [(0, _), (2, _), (3, _)] [(2, _)] (fun i => [(4, .d (dI i))]) (fun i => [(3, .box b3 T.Rat (cellsQ (sumQ (l.take i))))]) (fun i => i ≤ l.length) (fun i => l.length - i) 0 (.cons (knD rfl) (.cons (knP rfl) (.cons (knP rfl) .nil))) (.cons (owB rfl) .nil) ⟨Nat.zero_le _, .rq1, .cons rfl .nil⟩ ?_
 intro i h1
 refine AW.seq (AW.sg hE rfl (mvD rfl (mvD rfl (lnL sl.Rats rfl rfl (c_lss rfl rfl rfl (OL.nil (AW.cond rfl (fun h9 => ?_) (fun h9 => ?_))))))))
 ·try simp only [dx9] at h9
  refine AW.skip (AW.seq (AW.block ?_))
  have hs := sumQ_szB (hl.take i) (by rw [List.length_take]; omega) hB
  have hx := (hl.mono (Nat.le_max_left B 1)).get (Nat.le_max_right B 1) i
  refine AW.dg 1 [0,1,2,3,4,5,6] order_free hE rfl (by kernel_rfl) (OI.of_OL (os := [_,_,_,_,_,_,_]) rfl ?_)
  refine ldPA ag.Rat rfl rfl (vs := [_,_,_]) rfl (nb9 rfl) (mvD rfl (mvD rfl (ixLn sl.Rats 0 rfl rfl (by omega) rfl rfl (ldRA ag.Rat rfl (vs := [_,_,_]) rfl (nb9 rfl) (clv rfl (.cons (VLe.refl _) (.cons (VLe.refl _) (.nil))) (ref_AddQ (x := sumQ (l.take i)) (y := l.getD i 0) (by omega) (by omega)) (sto sz.Rat rfl rfl rfl rfl rfl (nb9 rfl) (cells2 := [_,_,_]) rfl (OL.nil ?_)))))))
  exact AW.rg hE rfl (mvD rfl (add_i64 rfl rfl (by omega) (asD rfl (OL.nil (AW.again (x := i) (i + 1) (by omega) ⟨by omega, Knows.app .rq3 .rq1, Owns.app (.cons rfl .nil) (.cons (by rw [sumQ_take_succ (by omega)]; rfl) .nil)⟩)))))
 ·try simp only [dx9] at h9
  refine AW.exit (AW.seq ?_)
  obtain rfl : i = l.length := by omega
  rw [List.take_length]
  exact AW.rg hE rfl (ldPA ag.Rat rfl rfl (vs := [_,_,_]) rfl (nb9 rfl) (sto sz.Rat rfl rfl rfl rfl rfl (nb9 rfl) (cells2 := [_,_,_]) rfl (OL.nil (AW.ret (RetQ.r ⟨_, .cellA rfl rfl ag.Rat (nb9 rfl) .nil, .ag (.cons (.le (VLe.refl _)) (.cons (.le (VLe.refl _)) (.cons (.le (VLe.refl _)) .nil)))⟩)))))
theorem ref33_SameRats {l m : List Rat} {B : Nat} (zl : Small B l) (zm : Small B m) (hB : 1 ≤ B ∧ B ≤ 1048576 ∧ l.length ≤ 1099511627776) : FSpec P F.ref33_SameRats [.d (dQs l), .d (dQs m)] (.d (dB (decide (l = m)))) := by
 refine FSpec.intro fn.ref33_SameRats (by rfl) (by rfl) (nb9 (by rfl)) fun E hE => (AW.sg hE rfl (asD rfl (OL.nil (AW.seq (AW.sg hE rfl (mvD rfl (lnL sl.Rats rfl rfl ?_)))))))
 refine mvD rfl (lnL sl.Rats rfl rfl (c_neq rfl rfl rfl (OL.nil (AW.cond rfl (fun h10 => ?_) (fun h10 => ?_)))))
 ·have hl : l.length ≠ m.length := by simp at h10; omega
  exact AW.sg hE rfl (asD rfl (OL.nil (AW.ret (RetQ.r ⟨_, .tmp rfl .nil, .le (VLe.bool ((decide_eq_false fun e => hl (by rw [e])).symm))⟩))))
 ·have hl : l.length = m.length := by simp at h10; omega
  refine AW.skip (AW.seq (AW.sg hE rfl (asD rfl (OL.nil (AW.block ?_)))))
  refine AW.whileK (α := Nat) [(0, _), (1, _)] [] (fun i => [(5, .d (dI i))]) (fun i => []) (fun i => i ≤ l.length ∧ ∀ j, j < i → l.getD j 0 = m.getD j 0) (fun i => l.length - i) 0 (.cons (knD rfl) (.cons (knD rfl) .nil)) .nil ⟨⟨Nat.zero_le _, fun j hj => by omega⟩, .rq1, .nil⟩ ?_
  rintro i ⟨h1, h2⟩
  refine AW.seq (AW.sg hE rfl (mvD rfl (mvD rfl (lnL sl.Rats rfl rfl (c_lss rfl rfl rfl (OL.nil (AW.cond rfl (fun h14 => ?_) (fun h14 => ?_))))))))
  ·try simp only [dx9] at h14
   refine AW.skip (AW.seq (AW.block (AW.seq ?_)))
   have z1 := zl.get hB.1 i
   have z2 := zm.get hB.1 i
   refine AW.dg 1 [0,1,2,3,4,5,6,7,8,9] order_free hE rfl (by kernel_rfl) (OI.of_OL (os := [_,_,_,_,_,_,_,_,_,_]) rfl ?_)
   refine mvD rfl (mvD rfl (ixLn sl.Rats 0 rfl rfl (by omega) rfl rfl (ldRA ag.Rat rfl (vs := [_,_,_]) rfl (nb9 rfl) (mvD rfl (mvD rfl (ixLn sl.Rats 0 rfl rfl (by omega) rfl rfl (ldRA ag.Rat rfl (vs := [_,_,_]) rfl (nb9 rfl) ?_)))))))
   refine clv rfl .rq2 (ref_CompareQ (by omega) (by omega)) (c_neq rfl rfl rfl (OL.nil (AW.cond rfl (fun hc => ?_) (fun hc => ?_))))
   ·have hc : l.getD i 0 ≠ m.getD i 0 := fun e => by rw [cmpQ_eq.2 e] at hc; simp at hc
    exact AW.sg hE rfl (asD rfl (OL.nil (AW.ret (RetQ.r ⟨_, .tmp rfl .nil, .le (VLe.bool ((decide_eq_false fun e => hc (by rw [e])).symm))⟩))))
   ·have hc : l.getD i 0 = m.getD i 0 := cmpQ_eq.1 (by simpa using hc)
    exact AW.skip (AW.rg hE rfl (mvD rfl (add_i64 rfl rfl (by omega) (asD rfl (OL.nil (AW.again (x := i) (i + 1) (by omega) ⟨⟨by omega, fun j hj => by rcases Nat.lt_or_ge j i with h | h; exact h2 j h; obtain rfl : j = i := (by omega); exact hc⟩, Knows.app .rq2 .rq1, .nil⟩))))))
  ·try simp only [dx9] at h14
   exact AW.exit (AW.sg hE rfl (asD rfl (OL.nil (AW.ret (RetQ.r ⟨_, .tmp rfl .nil, .le (VLe.bool ((decide_eq_true (list_eq_getD hl 0 fun j hj => h2 j (by omega))).symm))⟩)))))
theorem ref33_ChanceR {r : Raw} (m : r.Med) : FSpec P F.ref33_Chance [vRaw r] (.d (dB (shareR r))) := by
 refine FSpec.intro fn.ref33_Chance (by rfl) (by rfl) (nb9 (by rfl)) fun E hE => (AW.sg hE rfl (bxA rfl rfl fun b1 => (asD rfl (OL.nil (AW.seq (AW.dg 1 [0,1,2,3,4,5,6,7,8,9,10,11,12,13] order_free hE rfl (by kernel_rfl) (OI.of_OL (os := [_,_,_,_,_,_,_,_,_,_,_,_,_,_]) rfl ?_)))))))
 refine ldPA ag.Rat rfl rfl (vs := [_,_,_]) rfl (nb9 rfl) (clv rfl (.cons (VLe.refl _) (.nil)) (ref_Valid m.ok) (mvD rfl (OL.split 5 rfl (fun g1 => ?_) (fun g1 => ?_))))
 ·have g1 : r.good = true := g1
  refine OL.yes rfl (ldPA ag.Rat rfl rfl (vs := [_,_,_]) rfl (nb9 rfl) (OL.yes rfl (clv rfl (.cons (VLe.refl _) (.nil)) (ref_Sign m.ok) (OL.yes rfl (c_geq rfl rfl rfl (pkT rfl rfl (mvD rfl ?_)))))))
  refine OL.split 10 rfl (fun g => ?_) (fun g => ?_)
  ·have g : 0 ≤ r.q := sgnQ_nonneg.1 (of_decide_eq_true g)
   refine OL.yes rfl (ldPA ag.Rat rfl rfl (vs := [_,_,_]) rfl (nb9 rfl) (OL.yes rfl (clv rfl (.cons (VLe.refl _) (.nil)) (ref33_Whole1) (OL.yes rfl (clv rfl (.cons (VLe.refl _) (.cons (VLe.refl _) (.nil))) (ref_CompareR1 m) (OL.yes rfl (c_leq rfl rfl rfl ?_)))))))
   exact pkT rfl rfl (asD rfl (OL.nil (AW.ret (RetQ.r ⟨_, .tmp rfl .nil, .le (VLe.bool (share_val g1 g))⟩))))
  ·have g : ¬ 0 ≤ r.q := fun e => of_decide_eq_false g (sgnQ_nonneg.2 e)
   exact OL.nd rfl (OL.nd rfl (OL.nd rfl (OL.nd rfl (pkF rfl rfl (asD rfl (OL.nil (AW.ret (RetQ.r ⟨_, .tmp rfl .nil, .le (VLe.bool (share_false (.inr g)))⟩))))))))
 ·have g1 : r.good = false := g1
  refine OL.nd rfl (OL.nd rfl (OL.nd rfl (pkF rfl rfl (mvD rfl (OL.nd rfl (OL.nd rfl (OL.nd rfl ?_)))))))
  exact OL.nd rfl (pkF rfl rfl (asD rfl (OL.nil (AW.ret (RetQ.r ⟨_, .tmp rfl .nil, .le (VLe.bool (share_false (.inl g1)))⟩)))))
theorem shasB_no {l : List Raw} (h : ¬ SharesR l) : false = shasB l := by
 cases e : shasB l with
 | false => rfl
 | true => exact absurd (shasB_t e) h
theorem shasB_yes {l : List Raw} (h : SharesR l) : true = shasB l := by
 cases e : shasB l with
 | false => exact absurd h (shasB_f e)
 | true => rfl
theorem ref33_chancesR {l : List Raw} (m : MedL l) (nl : l.length ≤ 1048576) : FSpec P F.ref33_chances [.d (dRs l)] (.d (dB (shasB l))) := by
 refine FSpec.intro fn.ref33_chances (by rfl) (by rfl) (nb9 (by rfl)) fun E hE => (AW.sg hE rfl (asD rfl (OL.nil (AW.seq (AW.sg hE rfl (asD rfl (OL.nil ?_)))))))
 refine AW.block ?_
 refine AW.whileK (α := Nat) [(0, _)] [] (fun i => [(3, .d (dI i))]) (fun i => []) (fun i => i ≤ l.length ∧ ∀ j, j < i → shareR (l.getD j raw0) = true) (fun i => l.length - i) 0 (.cons (knD rfl) .nil) .nil ⟨⟨Nat.zero_le _, fun j hj => absurd hj (Nat.not_lt_zero j)⟩, .rq1, .nil⟩ ?_
 rintro i ⟨h1, h2⟩
 refine AW.seq (AW.sg hE rfl (mvD rfl (mvD rfl (lnL sl.Rats rfl rfl (c_lss rfl rfl rfl (OL.nil (AW.cond rfl (fun h7 => ?_) (fun h7 => ?_))))))))
 ·try simp only [dx9] at h7
  refine AW.skip (AW.seq (AW.block (AW.sg hE rfl (mvD rfl (mvD rfl (ixLn sl.Rats raw0 rfl rfl (by omega) rfl rfl (ldRA ag.Rat rfl (vs := [_,_,_]) rfl (nb9 rfl) ?_)))))))
  refine clv rfl (.cons (VLe.refl _) (.nil)) (ref33_ChanceR (m _ (getD_mem (by omega) _))) (nt rfl (OL.nil (AW.cond rfl (fun c15 => ?_) (fun c15 => ?_))))
  ·have c15 : shareR (l.getD i raw0) = false := by simpa using c15
   exact AW.sg hE rfl (asD rfl (OL.nil (AW.ret (RetQ.r ⟨_, .tmp rfl .nil, .le (VLe.bool (shasB_no fun s => by rw [s _ (getD_mem (show i < l.length by omega) raw0)] at c15; cases c15))⟩))))
  ·have c15 : shareR (l.getD i raw0) = true := by simpa using c15
   exact AW.skip (AW.rg hE rfl (mvD rfl (add_i64 rfl rfl (by omega) (asD rfl (OL.nil (AW.again (x := i) (i + 1) (by omega) ⟨⟨by omega, upto_stp h2 c15⟩, Knows.app .rq1 .rq1, .nil⟩))))))
 ·try simp only [dx9] at h7
  exact AW.exit (AW.sg hE rfl (asD rfl (OL.nil (AW.ret (RetQ.r ⟨_, .tmp rfl .nil, .le (VLe.bool (shasB_yes fun x hx => by obtain ⟨j, hj, rfl⟩ := mem_ix raw0 hx; exact h2 j (by omega)))⟩)))))
theorem ref33_oneS {x : Rat} {l : List Rat} (hx : sz x ≤ 1048576) (hl : Small 1048576 l) (hn : l.length ≤ 1024) : FSpec P F.ref33_one [vQ x, .d (dQs l)] (.d (dB (decide (sumQ (l ++ [x]) = 1)))) := by
 have h1K := z1K
 have hs := sumQ_szB hl hn (Nat.le_refl _)
 have hs2 := sz_add x (sumQ l)
 refine FSpec.intro fn.ref33_one (by rfl) (by rfl) (nb9 (by rfl)) fun E hE => (AW.sg hE rfl (bxA rfl rfl fun b2 => (asD rfl (OL.nil (AW.seq (AW.dg 1 [0,1,2,3,4,5,6,7] order_free hE rfl (by kernel_rfl) (OI.of_OL (os := [_,_,_,_,_,_,_,_]) rfl ?_)))))))
 refine ldPA ag.Rat rfl rfl (vs := [_,_,_]) rfl (nb9 rfl) (mvD rfl (clv rfl (.cons (VLe.refl _) (.nil)) (ref33_SumS hl (Nat.le_refl _) hn) (clv rfl (.cons (VLe.refl _) (.cons (VLe.refl _) (.nil))) (ref_AddQ (x := x) (y := sumQ l) (by omega) (by omega)) (clv rfl (.cons (VLe.refl _) (.nil)) (ref33_Whole1) (clv rfl (.cons (VLe.refl _) (.cons (VLe.refl _) (.nil))) (ref_CompareQ (x := x + sumQ l) (y := 1) (by omega) (by omega)) (c_eql rfl rfl rfl (asD rfl ?_)))))))
 exact OL.nil (AW.ret (RetQ.r ⟨_, .tmp rfl .nil, .le (VLe.bool (by rw [sumQ_app_one]; exact decide_eq_decide.2 cmpQ_eq))⟩))
set_option maxRecDepth 6000 in
set_option maxHeartbeats 6400000 in
theorem ref33_formedR {h : RM} (z : h.Sz) (g : h.Rng) : FSpec P F.ref33_formed [vRM h] (.d (dB (fmB h))) := by
 obtain ⟨⟨s0, s1⟩, n0, n1⟩ := g
 have y1 := z.li
 have y2 := z.ls
 have y3 := z.lt
 have y4 := z.lm
 have y5 := z.ll
 have y6 := z.lk
 refine FSpec.intro fn.ref33_formed (by rfl) (by rfl) (nb9 (by rfl)) fun E hE => (AW.sg hE rfl (bxA rfl rfl fun b1 => (asD rfl (OL.nil (AW.sg hE rfl (faP fd.Hidden_1 rfl rfl (ldPC ce.int rfl rfl rfl ?_)))))))
 refine asD rfl (OL.nil (AW.seq (AW.sg hE rfl (faP fd.Hidden_3 rfl rfl (ldPC ce.Rats rfl rfl rfl (lnL sl.Rats rfl rfl (mvD rfl ?_)))))))
 refine c_neq rfl rfl rfl (mvD rfl (OL.split 12 rfl (fun a2 => ?_) (fun a2 => ?_)))
 ·have a2 : ¬ ((h.ini.length : Int) = h.st) := by simpa using a2
  refine OL.nd rfl (OL.nd rfl (OL.nd rfl (OL.nd rfl (OL.nd rfl (pkT rfl rfl (mvD rfl (OL.nd rfl ?_)))))))
  refine OL.nd rfl (OL.nd rfl (OL.nd rfl (OL.nd rfl (pkT rfl rfl (mvD rfl (OL.nd rfl (OL.nd rfl ?_)))))))
  refine OL.nd rfl (OL.nd rfl (OL.nd rfl (pkT rfl rfl (mvD rfl (OL.nd rfl (OL.nd rfl (OL.nd rfl ?_)))))))
  refine OL.nd rfl (OL.nd rfl (pkT rfl rfl (mvD rfl (OL.nd rfl (OL.nd rfl (OL.nd rfl (OL.nd rfl ?_)))))))
  refine OL.nd rfl (pkT rfl rfl (OL.nil (AW.cond rfl (fun _ => ?_) (fun hno => absurd hno (by decide)))))
  exact AW.sg hE rfl (asD rfl (OL.nil (AW.ret (RetQ.r ⟨_, .tmp rfl .nil, .le (VLe.bool (fmB_f fun f => a2 f.li))⟩))))
 ·have a2 : (h.ini.length : Int) = h.st := by simpa using a2
  refine OL.yes rfl (faP fd.Hidden_5 rfl rfl (OL.yes rfl (ldPC ce.Rats rfl rfl rfl (OL.yes rfl (lnL sl.Rats rfl rfl (OL.yes rfl (mvD rfl ?_)))))))
  refine OL.yes rfl (c_neq rfl rfl rfl (pkF rfl rfl (mvD rfl (OL.split 19 rfl (fun a3 => ?_) (fun a3 => ?_)))))
  ·have a3 : ¬ ((h.stop.length : Int) = h.st) := by simpa using a3
   refine OL.nd rfl (OL.nd rfl (OL.nd rfl (OL.nd rfl (OL.nd rfl (pkT rfl rfl (mvD rfl (OL.nd rfl ?_)))))))
   refine OL.nd rfl (OL.nd rfl (OL.nd rfl (OL.nd rfl (pkT rfl rfl (mvD rfl (OL.nd rfl (OL.nd rfl ?_)))))))
   refine OL.nd rfl (OL.nd rfl (OL.nd rfl (pkT rfl rfl (mvD rfl (OL.nd rfl (OL.nd rfl (OL.nd rfl ?_)))))))
   refine OL.nd rfl (OL.nd rfl (pkT rfl rfl (OL.nil (AW.cond rfl (fun _ => ?_) (fun hno => absurd hno (by decide))))))
   exact AW.sg hE rfl (asD rfl (OL.nil (AW.ret (RetQ.r ⟨_, .tmp rfl .nil, .le (VLe.bool (fmB_f fun f => a3 f.ls))⟩))))
  ·have a3 : (h.stop.length : Int) = h.st := by simpa using a3
   refine OL.yes rfl (faP fd.Hidden_7 rfl rfl (OL.yes rfl (ldPC ce.bools rfl rfl rfl (OL.yes rfl (lnL sl.bools rfl rfl (OL.yes rfl (mvD rfl ?_)))))))
   refine OL.yes rfl (c_neq rfl rfl rfl (pkF rfl rfl (mvD rfl (OL.split 26 rfl (fun a4 => ?_) (fun a4 => ?_)))))
   ·have a4 : ¬ ((h.silent.length : Int) = h.st) := by simpa using a4
    refine OL.nd rfl (OL.nd rfl (OL.nd rfl (OL.nd rfl (OL.nd rfl (pkT rfl rfl (mvD rfl (OL.nd rfl ?_)))))))
    refine OL.nd rfl (OL.nd rfl (OL.nd rfl (OL.nd rfl (pkT rfl rfl (mvD rfl (OL.nd rfl (OL.nd rfl ?_)))))))
    refine OL.nd rfl (OL.nd rfl (OL.nd rfl (pkT rfl rfl (OL.nil (AW.cond rfl (fun _ => ?_) (fun hno => absurd hno (by decide)))))))
    exact AW.sg hE rfl (asD rfl (OL.nil (AW.ret (RetQ.r ⟨_, .tmp rfl .nil, .le (VLe.bool (fmB_f fun f => a4 f.ll))⟩))))
   ·have a4 : (h.silent.length : Int) = h.st := by simpa using a4
    refine OL.yes rfl (faP fd.Hidden_8 rfl rfl (OL.yes rfl (ldPC ce.ints rfl rfl rfl (OL.yes rfl (lnL sl.ints rfl rfl (OL.yes rfl (mvD rfl ?_)))))))
    refine OL.yes rfl (c_neq rfl rfl rfl (pkF rfl rfl (mvD rfl (OL.split 33 rfl (fun a5 => ?_) (fun a5 => ?_)))))
    ·have a5 : ¬ ((h.ties.length : Int) = h.st) := by simpa using a5
     refine OL.nd rfl (OL.nd rfl (OL.nd rfl (OL.nd rfl (OL.nd rfl (pkT rfl rfl (mvD rfl (OL.nd rfl ?_)))))))
     refine OL.nd rfl (OL.nd rfl (OL.nd rfl (OL.nd rfl (pkT rfl rfl (OL.nil (AW.cond rfl (fun _ => ?_) (fun hno => absurd hno (by decide))))))))
     exact AW.sg hE rfl (asD rfl (OL.nil (AW.ret (RetQ.r ⟨_, .tmp rfl .nil, .le (VLe.bool (fmB_f fun f => a5 f.lk))⟩))))
    ·have a5 : (h.ties.length : Int) = h.st := by simpa using a5
     refine OL.yes rfl (faP fd.Hidden_4 rfl rfl (OL.yes rfl (ldPC ce.Ratss rfl rfl rfl (OL.yes rfl (lnL sl.Ratss rfl rfl (OL.yes rfl (mvD rfl ?_)))))))
     refine OL.yes rfl (c_neq rfl rfl rfl (pkF rfl rfl (mvD rfl (OL.split 40 rfl (fun a6 => ?_) (fun a6 => ?_)))))
     ·have a6 : ¬ ((h.trans.length : Int) = h.st) := by simpa using a6
      refine OL.nd rfl (OL.nd rfl (OL.nd rfl (OL.nd rfl (OL.nd rfl (pkT rfl rfl (OL.nil (AW.cond rfl (fun _ => ?_) (fun hno => absurd hno (by decide)))))))))
      exact AW.sg hE rfl (asD rfl (OL.nil (AW.ret (RetQ.r ⟨_, .tmp rfl .nil, .le (VLe.bool (fmB_f fun f => a6 f.lt))⟩))))
     ·have a6 : (h.trans.length : Int) = h.st := by simpa using a6
      refine OL.yes rfl (faP fd.Hidden_6 rfl rfl (OL.yes rfl (ldPC ce.Ratss rfl rfl rfl (OL.yes rfl (lnL sl.Ratss rfl rfl (OL.yes rfl (mvD rfl ?_)))))))
      refine OL.yes rfl (c_neq rfl rfl rfl (pkF rfl rfl (OL.nil (AW.cond rfl (fun a7 => ?_) (fun a7 => ?_)))))
      ·have a7 : ¬ ((h.emit.length : Int) = h.st) := by simpa using a7
       exact AW.sg hE rfl (asD rfl (OL.nil (AW.ret (RetQ.r ⟨_, .tmp rfl .nil, .le (VLe.bool (fmB_f fun f => a7 f.lm))⟩))))
      ·have a7 : (h.emit.length : Int) = h.st := by simpa using a7
       refine AW.skip (AW.seq (AW.sg hE rfl (asD rfl (OL.nil (AW.block ?_)))))
       refine AW.whileK (α := Nat) [(1, _), (3, _)] [(1, _)] (fun i => [(4, .d (dI i))]) (fun i => []) (fun i => (i : Int) ≤ h.st ∧ ∀ j, j < i → h.RowOK j) (fun i => h.st.toNat - i) 0 (.cons (knP rfl) (.cons (knD rfl) .nil)) (.cons (owB rfl) .nil) ⟨⟨by omega, fun j hj => absurd hj (Nat.not_lt_zero j)⟩, .rq1, .nil⟩ ?_
       rintro i ⟨h1, h2⟩
       refine AW.seq (AW.sg hE rfl (mvD rfl (mvD rfl (c_lss rfl rfl rfl (OL.nil (AW.cond rfl (fun hi => ?_) (fun hi => ?_)))))))
       ·try simp only [dx9] at hi
        refine AW.skip (AW.seq (AW.block (AW.seq ?_)))
        cases hs : h.silent.getD i false
        ·have hs9 := hs
         refine AW.dg 1 [0,1,2,3,4,5,6,7,8,9,10,11,12,13,14,15,16,17,18,19,20,21,22,23,24,25,26,27,28,29,30,31,32,33,34,35,36,37,38,39,40,41,42,43,44,45,46,47,48,49,50,51,52,53,54,55,56,57,58,59,60,61,62,63,64,65,66,67,68,69,70,71,72,73,74,75,76,77] order_free hE rfl (by kernel_rfl) (OI.of_OL (os := [_,_,_,_,_,_,_,_,_,_,_,_,_,_,_,_,_,_,_,_,_,_,_,_,_,_,_,_,_,_,_,_,_,_,_,_,_,_,_,_,_,_,_,_,_,_,_,_,_,_,_,_,_,_,_,_,_,_,_,_,_,_,_,_,_,_,_,_,_,_,_,_,_,_,_,_,_,_]) rfl ?_)
         refine faP fd.Hidden_4 rfl rfl (ldPC ce.Ratss rfl rfl rfl (mvD rfl (ixLn sl.Ratss [] rfl rfl (by omega) rfl rfl (ldRC ce.Rats rfl (lnL sl.Rats rfl rfl (mvD rfl (c_neq rfl rfl rfl ?_)))))))
         refine mvD rfl (OL.split 60 rfl (fun b1 => ?_) (fun b1 => ?_))
         ·have b1 : ¬ (((h.trans.getD i []).length : Int) = h.st) := by simpa using b1
          refine OL.nd rfl (OL.nd rfl (OL.nd rfl (OL.nd rfl (OL.nd rfl (OL.nd rfl (OL.nd rfl (OL.nd rfl ?_)))))))
          refine OL.nd rfl (OL.nd rfl (OL.nd rfl (OL.nd rfl (OL.nd rfl (OL.nd rfl (pkT rfl rfl (mvD rfl ?_)))))))
          refine OL.nd rfl (OL.nd rfl (OL.nd rfl (OL.nd rfl (OL.nd rfl (OL.nd rfl (OL.nd rfl (OL.nd rfl ?_)))))))
          refine OL.nd rfl (OL.nd rfl (OL.nd rfl (OL.nd rfl (OL.nd rfl (OL.nd rfl (OL.nd rfl (OL.nd rfl ?_)))))))
          refine OL.nd rfl (pkT rfl rfl (mvD rfl (OL.nd rfl (OL.nd rfl (OL.nd rfl (OL.nd rfl (OL.nd rfl ?_)))))))
          refine OL.nd rfl (OL.nd rfl (pkT rfl rfl (mvD rfl (OL.nd rfl (OL.nd rfl (OL.nd rfl (OL.nd rfl ?_)))))))
          refine OL.nd rfl (OL.nd rfl (OL.nd rfl (pkT rfl rfl (mvD rfl (OL.nd rfl (OL.nd rfl (OL.nd rfl ?_)))))))
          refine OL.nd rfl (OL.nd rfl (OL.nd rfl (pkT rfl rfl (mvD rfl (OL.nd rfl (OL.nd rfl (OL.nd rfl ?_)))))))
          refine OL.nd rfl (OL.nd rfl (OL.nd rfl (OL.nd rfl (pkT rfl rfl (OL.nil (AW.cond rfl (fun _ => ?_) (fun hno => absurd hno (by decide))))))))
          exact AW.sg hE rfl (asD rfl (OL.nil (AW.ret (RetQ.r ⟨_, .tmp rfl .nil, .le (VLe.bool (fmB_f fun f => b1 (f.row i hi).1))⟩))))
         ·have b1 : ((h.trans.getD i []).length : Int) = h.st := by simpa using b1
          refine OL.yes rfl (faP fd.Hidden_7 rfl rfl (OL.yes rfl (ldPC ce.bools rfl rfl rfl (OL.yes rfl (mvD rfl (OL.yes rfl (ixLn sl.bools false rfl rfl (by omega) rfl rfl ?_)))))))
          refine OL.yes rfl (ldRC ce.bool rfl ?_)
          rw [hs]
          refine OL.yes rfl (mvD rfl (OL.nd rfl (OL.nd rfl (OL.nd rfl (OL.nd rfl (OL.nd rfl (OL.nd rfl ?_)))))))
          refine OL.nd rfl (OL.yes rfl (pkF rfl rfl (pkF rfl rfl (mvD rfl (OL.yes rfl (faP fd.Hidden_7 rfl rfl (OL.yes rfl ?_)))))))
          refine ldPC ce.bools rfl rfl rfl (OL.yes rfl (mvD rfl (OL.yes rfl (ixLn sl.bools false rfl rfl (by omega) rfl rfl (OL.yes rfl (ldRC ce.bool rfl ?_))))))
          rw [hs]
          refine OL.yes rfl (nt rfl (OL.yes rfl (mvD rfl (OL.yes rfl (faP fd.Hidden_6 rfl rfl (OL.yes rfl (ldPC ce.Ratss rfl rfl rfl ?_)))))))
          refine OL.yes rfl (mvD rfl (OL.yes rfl (ixLn sl.Ratss [] rfl rfl (by omega) rfl rfl (OL.yes rfl (ldRC ce.Rats rfl (OL.yes rfl (lnL sl.Rats rfl rfl ?_)))))))
          refine OL.yes rfl (faP fd.Hidden_0 rfl rfl (OL.yes rfl (ldPC ce.int rfl rfl rfl (OL.yes rfl (c_neq rfl rfl rfl (OL.yes rfl (pkT rfl rfl ?_)))))))
          refine pkF rfl rfl (mvD rfl (OL.split 95 rfl (fun b2 => ?_) (fun b2 => ?_)))
          ·have b2 : ¬ (((h.emit.getD i []).length : Int) = (if h.silent.getD i false then 0 else h.sym)) := by rw [hs]; simpa using b2
           refine OL.nd rfl (OL.nd rfl (OL.nd rfl (OL.nd rfl (OL.nd rfl (OL.nd rfl (OL.nd rfl (pkT rfl rfl ?_)))))))
           refine mvD rfl (OL.nd rfl (OL.nd rfl (OL.nd rfl (OL.nd rfl (OL.nd rfl (OL.nd rfl (OL.nd rfl ?_)))))))
           refine pkT rfl rfl (mvD rfl (OL.nd rfl (OL.nd rfl (OL.nd rfl (OL.nd rfl (OL.nd rfl (OL.nd rfl ?_)))))))
           refine pkT rfl rfl (mvD rfl (OL.nd rfl (OL.nd rfl (OL.nd rfl (OL.nd rfl (OL.nd rfl (OL.nd rfl ?_)))))))
           refine OL.nd rfl (pkT rfl rfl (OL.nil (AW.cond rfl (fun _ => ?_) (fun hno => absurd hno (by decide)))))
           exact AW.sg hE rfl (asD rfl (OL.nil (AW.ret (RetQ.r ⟨_, .tmp rfl .nil, .le (VLe.bool (fmB_f fun f => b2 (f.row i hi).2.1))⟩))))
          ·have b2 : ((h.emit.getD i []).length : Int) = (if h.silent.getD i false then 0 else h.sym) := by rw [hs]; simpa using b2
           refine OL.yes rfl (faP fd.Hidden_4 rfl rfl (OL.yes rfl (ldPC ce.Ratss rfl rfl rfl (OL.yes rfl (mvD rfl (OL.yes rfl (ixLn sl.Ratss [] rfl rfl (by omega) rfl rfl ?_)))))))
           refine OL.yes rfl (ldRC ce.Rats rfl (OL.yes rfl (clv rfl (.cons (VLe.refl _) (.nil)) (ref33_chancesR (z.t _ (getD_mem (by omega) _)) (z.ltr _ (getD_mem (by omega) _))) (OL.yes rfl (nt rfl (pkF rfl rfl (mvD rfl ?_)))))))
           refine OL.split 104 rfl (fun b3 => ?_) (fun b3 => ?_)
           ·have b3 : shasB (h.trans.getD i []) = false := by simpa using b3
            refine OL.nd rfl (OL.nd rfl (OL.nd rfl (OL.nd rfl (OL.nd rfl (OL.nd rfl (OL.nd rfl (pkT rfl rfl ?_)))))))
            refine mvD rfl (OL.nd rfl (OL.nd rfl (OL.nd rfl (OL.nd rfl (OL.nd rfl (OL.nd rfl (pkT rfl rfl ?_)))))))
            refine mvD rfl (OL.nd rfl (OL.nd rfl (OL.nd rfl (OL.nd rfl (OL.nd rfl (OL.nd rfl (OL.nd rfl ?_)))))))
            refine pkT rfl rfl (OL.nil (AW.cond rfl (fun _ => ?_) (fun hno => absurd hno (by decide))))
            exact AW.sg hE rfl (asD rfl (OL.nil (AW.ret (RetQ.r ⟨_, .tmp rfl .nil, .le (VLe.bool (fmB_f fun f => shasB_f b3 (f.row i hi).2.2.1))⟩))))
           ·have b3 : shasB (h.trans.getD i []) = true := by simpa using b3
            refine OL.yes rfl (faP fd.Hidden_6 rfl rfl (OL.yes rfl (ldPC ce.Ratss rfl rfl rfl (OL.yes rfl (mvD rfl (OL.yes rfl (ixLn sl.Ratss [] rfl rfl (by omega) rfl rfl ?_)))))))
            refine OL.yes rfl (ldRC ce.Rats rfl (OL.yes rfl (clv rfl (.cons (VLe.refl _) (.nil)) (ref33_chancesR (z.m _ (getD_mem (by omega) _)) (z.lmr _ (getD_mem (by omega) _))) (OL.yes rfl (nt rfl (pkF rfl rfl (mvD rfl ?_)))))))
            refine OL.split 113 rfl (fun b4 => ?_) (fun b4 => ?_)
            ·have b4 : shasB (h.emit.getD i []) = false := by simpa using b4
             refine OL.nd rfl (OL.nd rfl (OL.nd rfl (OL.nd rfl (OL.nd rfl (OL.nd rfl (pkT rfl rfl (mvD rfl ?_)))))))
             refine OL.nd rfl (OL.nd rfl (OL.nd rfl (OL.nd rfl (OL.nd rfl (OL.nd rfl (OL.nd rfl (pkT rfl rfl ?_)))))))
             refine OL.nil (AW.cond rfl (fun _ => ?_) (fun hno => absurd hno (by decide)))
             exact AW.sg hE rfl (asD rfl (OL.nil (AW.ret (RetQ.r ⟨_, .tmp rfl .nil, .le (VLe.bool (fmB_f fun f => shasB_f b4 (f.row i hi).2.2.2.1))⟩))))
            ·have b4 : shasB (h.emit.getD i []) = true := by simpa using b4
             refine OL.yes rfl (faP fd.Hidden_8 rfl rfl (OL.yes rfl (ldPC ce.ints rfl rfl rfl (OL.yes rfl (mvD rfl (OL.yes rfl (ixLn sl.ints 0 rfl rfl (by omega) rfl rfl ?_)))))))
             refine OL.yes rfl (ldRC ce.int rfl (OL.yes rfl (c_lss rfl rfl rfl (pkF rfl rfl (mvD rfl (OL.split 121 rfl (fun b5 => ?_) (fun b5 => ?_)))))))
             ·have b5 : h.ties.getD i 0 < 0 := of_decide_eq_true b5
              refine OL.nd rfl (OL.nd rfl (OL.nd rfl (OL.nd rfl (OL.nd rfl (OL.nd rfl (OL.nd rfl (pkT rfl rfl ?_)))))))
              refine OL.nil (AW.cond rfl (fun _ => ?_) (fun hno => absurd hno (by decide)))
              exact AW.sg hE rfl (asD rfl (OL.nil (AW.ret (RetQ.r ⟨_, .tmp rfl .nil, .le (VLe.bool (fmB_f fun f => by have e := (f.row i hi).2.2.2.2.1; omega))⟩))))
             ·have b5 : 0 ≤ h.ties.getD i 0 := Int.not_lt.1 (of_decide_eq_false b5)
              refine OL.yes rfl (faP fd.Hidden_8 rfl rfl (OL.yes rfl (ldPC ce.ints rfl rfl rfl (OL.yes rfl (mvD rfl (OL.yes rfl (ixLn sl.ints 0 rfl rfl (by omega) rfl rfl ?_)))))))
              refine OL.yes rfl (ldRC ce.int rfl (OL.yes rfl (mvD rfl (OL.yes rfl (c_geq rfl rfl rfl (pkF rfl rfl (OL.nil ?_)))))))
              refine AW.cond rfl (fun b6 => ?_) (fun b6 => ?_)
              ·have b6 : h.st ≤ h.ties.getD i 0 := of_decide_eq_true b6
               exact AW.sg hE rfl (asD rfl (OL.nil (AW.ret (RetQ.r ⟨_, .tmp rfl .nil, .le (VLe.bool (fmB_f fun f => by have e := (f.row i hi).2.2.2.2.2; omega))⟩))))
              ·have b6 : h.ties.getD i 0 < h.st := Int.not_le.1 (of_decide_eq_false b6)
               exact AW.skip (AW.rg hE rfl (mvD rfl (add_i64 rfl rfl (by omega) (asD rfl (OL.nil (AW.again (x := i) (i + 1) (by omega) ⟨⟨by omega, upto_stp h2 ⟨b1, b2, shasB_t b3, shasB_t b4, b5, b6⟩⟩, Knows.app .rq2 .rq1, Owns.app (.cons rfl .nil) (.nil)⟩))))))
        ·have hs9 := hs
         refine AW.dg 1 [0,1,2,3,4,5,6,7,8,9,10,11,12,13,14,15,16,17,18,19,20,21,22,23,24,25,26,27,28,29,30,31,32,33,34,35,36,37,38,39,40,41,42,43,44,45,46,47,48,49,50,51,52,53,54,55,56,57,58,59,60,61,62,63,64,65,66,67,68,69,70,71,72,73,74,75,76,77] order_free hE rfl (by kernel_rfl) (OI.of_OL (os := [_,_,_,_,_,_,_,_,_,_,_,_,_,_,_,_,_,_,_,_,_,_,_,_,_,_,_,_,_,_,_,_,_,_,_,_,_,_,_,_,_,_,_,_,_,_,_,_,_,_,_,_,_,_,_,_,_,_,_,_,_,_,_,_,_,_,_,_,_,_,_,_,_,_,_,_,_,_]) rfl ?_)
         refine faP fd.Hidden_4 rfl rfl (ldPC ce.Ratss rfl rfl rfl (mvD rfl (ixLn sl.Ratss [] rfl rfl (by omega) rfl rfl (ldRC ce.Rats rfl (lnL sl.Rats rfl rfl (mvD rfl (c_neq rfl rfl rfl ?_)))))))
         refine mvD rfl (OL.split 60 rfl (fun b1 => ?_) (fun b1 => ?_))
         ·have b1 : ¬ (((h.trans.getD i []).length : Int) = h.st) := by simpa using b1
          refine OL.nd rfl (OL.nd rfl (OL.nd rfl (OL.nd rfl (OL.nd rfl (OL.nd rfl (OL.nd rfl (OL.nd rfl ?_)))))))
          refine OL.nd rfl (OL.nd rfl (OL.nd rfl (OL.nd rfl (OL.nd rfl (OL.nd rfl (pkT rfl rfl (mvD rfl ?_)))))))
          refine OL.nd rfl (OL.nd rfl (OL.nd rfl (OL.nd rfl (OL.nd rfl (OL.nd rfl (OL.nd rfl (OL.nd rfl ?_)))))))
          refine OL.nd rfl (OL.nd rfl (OL.nd rfl (OL.nd rfl (OL.nd rfl (OL.nd rfl (OL.nd rfl (OL.nd rfl ?_)))))))
          refine OL.nd rfl (pkT rfl rfl (mvD rfl (OL.nd rfl (OL.nd rfl (OL.nd rfl (OL.nd rfl (OL.nd rfl ?_)))))))
          refine OL.nd rfl (OL.nd rfl (pkT rfl rfl (mvD rfl (OL.nd rfl (OL.nd rfl (OL.nd rfl (OL.nd rfl ?_)))))))
          refine OL.nd rfl (OL.nd rfl (OL.nd rfl (pkT rfl rfl (mvD rfl (OL.nd rfl (OL.nd rfl (OL.nd rfl ?_)))))))
          refine OL.nd rfl (OL.nd rfl (OL.nd rfl (pkT rfl rfl (mvD rfl (OL.nd rfl (OL.nd rfl (OL.nd rfl ?_)))))))
          refine OL.nd rfl (OL.nd rfl (OL.nd rfl (OL.nd rfl (pkT rfl rfl (OL.nil (AW.cond rfl (fun _ => ?_) (fun hno => absurd hno (by decide))))))))
          exact AW.sg hE rfl (asD rfl (OL.nil (AW.ret (RetQ.r ⟨_, .tmp rfl .nil, .le (VLe.bool (fmB_f fun f => b1 (f.row i hi).1))⟩))))
         ·have b1 : ((h.trans.getD i []).length : Int) = h.st := by simpa using b1
          refine OL.yes rfl (faP fd.Hidden_7 rfl rfl (OL.yes rfl (ldPC ce.bools rfl rfl rfl (OL.yes rfl (mvD rfl (OL.yes rfl (ixLn sl.bools false rfl rfl (by omega) rfl rfl ?_)))))))
          refine OL.yes rfl (ldRC ce.bool rfl ?_)
          rw [hs]
          refine OL.yes rfl (mvD rfl (OL.yes rfl (faP fd.Hidden_6 rfl rfl (OL.yes rfl (ldPC ce.Ratss rfl rfl rfl (OL.yes rfl (mvD rfl ?_)))))))
          refine OL.yes rfl (ixLn sl.Ratss [] rfl rfl (by omega) rfl rfl (OL.yes rfl (ldRC ce.Rats rfl (OL.yes rfl (lnL sl.Rats rfl rfl (OL.yes rfl (c_neq rfl rfl rfl ?_)))))))
          refine OL.yes rfl (pkT rfl rfl (pkF rfl rfl (mvD rfl (OL.split 76 rfl (fun b2 => ?_) (fun b2 => ?_)))))
          ·have b2 : ¬ (((h.emit.getD i []).length : Int) = (if h.silent.getD i false then 0 else h.sym)) := by rw [hs]; simpa using b2
           refine OL.nd rfl (OL.nd rfl (OL.nd rfl (OL.nd rfl (OL.nd rfl (OL.nd rfl (OL.nd rfl (OL.nd rfl ?_)))))))
           refine OL.nd rfl (OL.nd rfl (OL.nd rfl (OL.nd rfl (OL.nd rfl (OL.nd rfl (OL.nd rfl (OL.nd rfl ?_)))))))
           refine OL.nd rfl (pkT rfl rfl (mvD rfl (OL.nd rfl (OL.nd rfl (OL.nd rfl (OL.nd rfl (OL.nd rfl ?_)))))))
           refine OL.nd rfl (OL.nd rfl (pkT rfl rfl (mvD rfl (OL.nd rfl (OL.nd rfl (OL.nd rfl (OL.nd rfl ?_)))))))
           refine OL.nd rfl (OL.nd rfl (OL.nd rfl (pkT rfl rfl (mvD rfl (OL.nd rfl (OL.nd rfl (OL.nd rfl ?_)))))))
           refine OL.nd rfl (OL.nd rfl (OL.nd rfl (pkT rfl rfl (mvD rfl (OL.nd rfl (OL.nd rfl (OL.nd rfl ?_)))))))
           refine OL.nd rfl (OL.nd rfl (OL.nd rfl (OL.nd rfl (pkT rfl rfl (OL.nil (AW.cond rfl (fun _ => ?_) (fun hno => absurd hno (by decide))))))))
           exact AW.sg hE rfl (asD rfl (OL.nil (AW.ret (RetQ.r ⟨_, .tmp rfl .nil, .le (VLe.bool (fmB_f fun f => b2 (f.row i hi).2.1))⟩))))
          ·have b2 : ((h.emit.getD i []).length : Int) = (if h.silent.getD i false then 0 else h.sym) := by rw [hs]; simpa using b2
           refine OL.yes rfl (faP fd.Hidden_7 rfl rfl (OL.yes rfl (ldPC ce.bools rfl rfl rfl (OL.yes rfl (mvD rfl (OL.yes rfl (ixLn sl.bools false rfl rfl (by omega) rfl rfl ?_)))))))
           refine OL.yes rfl (ldRC ce.bool rfl ?_)
           rw [hs]
           refine OL.yes rfl (nt rfl (OL.yes rfl (mvD rfl (OL.nd rfl (OL.nd rfl (OL.nd rfl (OL.nd rfl ?_)))))))
           refine OL.nd rfl (OL.nd rfl (OL.nd rfl (OL.nd rfl (OL.nd rfl (OL.yes rfl (pkF rfl rfl (pkF rfl rfl ?_)))))))
           refine mvD rfl (OL.yes rfl (faP fd.Hidden_4 rfl rfl (OL.yes rfl (ldPC ce.Ratss rfl rfl rfl (OL.yes rfl (mvD rfl (OL.yes rfl ?_)))))))
           refine ixLn sl.Ratss [] rfl rfl (by omega) rfl rfl (OL.yes rfl (ldRC ce.Rats rfl (OL.yes rfl (clv rfl (.cons (VLe.refl _) (.nil)) (ref33_chancesR (z.t _ (getD_mem (by omega) _)) (z.ltr _ (getD_mem (by omega) _))) (OL.yes rfl (nt rfl (pkF rfl rfl ?_)))))))
           refine mvD rfl (OL.split 104 rfl (fun b3 => ?_) (fun b3 => ?_))
           ·have b3 : shasB (h.trans.getD i []) = false := by simpa using b3
            refine OL.nd rfl (OL.nd rfl (OL.nd rfl (OL.nd rfl (OL.nd rfl (OL.nd rfl (OL.nd rfl (pkT rfl rfl ?_)))))))
            refine mvD rfl (OL.nd rfl (OL.nd rfl (OL.nd rfl (OL.nd rfl (OL.nd rfl (OL.nd rfl (pkT rfl rfl ?_)))))))
            refine mvD rfl (OL.nd rfl (OL.nd rfl (OL.nd rfl (OL.nd rfl (OL.nd rfl (OL.nd rfl (OL.nd rfl ?_)))))))
            refine pkT rfl rfl (OL.nil (AW.cond rfl (fun _ => ?_) (fun hno => absurd hno (by decide))))
            exact AW.sg hE rfl (asD rfl (OL.nil (AW.ret (RetQ.r ⟨_, .tmp rfl .nil, .le (VLe.bool (fmB_f fun f => shasB_f b3 (f.row i hi).2.2.1))⟩))))
           ·have b3 : shasB (h.trans.getD i []) = true := by simpa using b3
            refine OL.yes rfl (faP fd.Hidden_6 rfl rfl (OL.yes rfl (ldPC ce.Ratss rfl rfl rfl (OL.yes rfl (mvD rfl (OL.yes rfl (ixLn sl.Ratss [] rfl rfl (by omega) rfl rfl ?_)))))))
            refine OL.yes rfl (ldRC ce.Rats rfl (OL.yes rfl (clv rfl (.cons (VLe.refl _) (.nil)) (ref33_chancesR (z.m _ (getD_mem (by omega) _)) (z.lmr _ (getD_mem (by omega) _))) (OL.yes rfl (nt rfl (pkF rfl rfl (mvD rfl ?_)))))))
            refine OL.split 113 rfl (fun b4 => ?_) (fun b4 => ?_)
            ·have b4 : shasB (h.emit.getD i []) = false := by simpa using b4
             refine OL.nd rfl (OL.nd rfl (OL.nd rfl (OL.nd rfl (OL.nd rfl (OL.nd rfl (pkT rfl rfl (mvD rfl ?_)))))))
             refine OL.nd rfl (OL.nd rfl (OL.nd rfl (OL.nd rfl (OL.nd rfl (OL.nd rfl (OL.nd rfl (pkT rfl rfl ?_)))))))
             refine OL.nil (AW.cond rfl (fun _ => ?_) (fun hno => absurd hno (by decide)))
             exact AW.sg hE rfl (asD rfl (OL.nil (AW.ret (RetQ.r ⟨_, .tmp rfl .nil, .le (VLe.bool (fmB_f fun f => shasB_f b4 (f.row i hi).2.2.2.1))⟩))))
            ·have b4 : shasB (h.emit.getD i []) = true := by simpa using b4
             refine OL.yes rfl (faP fd.Hidden_8 rfl rfl (OL.yes rfl (ldPC ce.ints rfl rfl rfl (OL.yes rfl (mvD rfl (OL.yes rfl (ixLn sl.ints 0 rfl rfl (by omega) rfl rfl ?_)))))))
             refine OL.yes rfl (ldRC ce.int rfl (OL.yes rfl (c_lss rfl rfl rfl (pkF rfl rfl (mvD rfl (OL.split 121 rfl (fun b5 => ?_) (fun b5 => ?_)))))))
             ·have b5 : h.ties.getD i 0 < 0 := of_decide_eq_true b5
              refine OL.nd rfl (OL.nd rfl (OL.nd rfl (OL.nd rfl (OL.nd rfl (OL.nd rfl (OL.nd rfl (pkT rfl rfl ?_)))))))
              refine OL.nil (AW.cond rfl (fun _ => ?_) (fun hno => absurd hno (by decide)))
              exact AW.sg hE rfl (asD rfl (OL.nil (AW.ret (RetQ.r ⟨_, .tmp rfl .nil, .le (VLe.bool (fmB_f fun f => by have e := (f.row i hi).2.2.2.2.1; omega))⟩))))
             ·have b5 : 0 ≤ h.ties.getD i 0 := Int.not_lt.1 (of_decide_eq_false b5)
              refine OL.yes rfl (faP fd.Hidden_8 rfl rfl (OL.yes rfl (ldPC ce.ints rfl rfl rfl (OL.yes rfl (mvD rfl (OL.yes rfl (ixLn sl.ints 0 rfl rfl (by omega) rfl rfl ?_)))))))
              refine OL.yes rfl (ldRC ce.int rfl (OL.yes rfl (mvD rfl (OL.yes rfl (c_geq rfl rfl rfl (pkF rfl rfl (OL.nil ?_)))))))
              refine AW.cond rfl (fun b6 => ?_) (fun b6 => ?_)
              ·have b6 : h.st ≤ h.ties.getD i 0 := of_decide_eq_true b6
               exact AW.sg hE rfl (asD rfl (OL.nil (AW.ret (RetQ.r ⟨_, .tmp rfl .nil, .le (VLe.bool (fmB_f fun f => by have e := (f.row i hi).2.2.2.2.2; omega))⟩))))
              ·have b6 : h.ties.getD i 0 < h.st := Int.not_le.1 (of_decide_eq_false b6)
               exact AW.skip (AW.rg hE rfl (mvD rfl (add_i64 rfl rfl (by omega) (asD rfl (OL.nil (AW.again (x := i) (i + 1) (by omega) ⟨⟨by omega, upto_stp h2 ⟨b1, b2, shasB_t b3, shasB_t b4, b5, b6⟩⟩, Knows.app .rq2 .rq1, Owns.app (.cons rfl .nil) (.nil)⟩))))))
       ·try simp only [dx9] at hi
        refine AW.exit (AW.sg hE rfl (faP fd.Hidden_3 rfl rfl (ldPC ce.Rats rfl rfl rfl (clv rfl (.cons (VLe.refl _) (.nil)) (ref33_chancesR z.i z.li) (mvD rfl (OL.split 133 rfl (fun a8 => ?_) (fun a8 => ?_)))))))
        ·have a8 : shasB h.ini = true := a8
         refine OL.yes rfl (faP fd.Hidden_5 rfl rfl (OL.yes rfl (ldPC ce.Rats rfl rfl rfl (OL.yes rfl (clv rfl (.cons (VLe.refl _) (.nil)) (ref33_chancesR z.s z.ls) (pkT rfl rfl (mvD rfl ?_)))))))
         refine OL.split 138 rfl (fun a9 => ?_) (fun a9 => ?_)
         ·have a9 : shasB h.stop = true := a9
          refine OL.yes rfl (faP fd.Hidden_2 rfl rfl (OL.yes rfl (ldPA ag.Rat rfl rfl (vs := [_,_,_]) rfl (nb9 rfl) (OL.yes rfl (clv rfl (.cons (VLe.refl _) (.nil)) (ref33_ChanceR z.e) (pkT rfl rfl (asD rfl ?_)))))))
          exact OL.nil (AW.ret (RetQ.r ⟨_, .tmp rfl .nil, .le (VLe.bool (by cases e : shareR h.empty with | true => exact fmB_t ⟨a2, a3, a4, a5, a6, a7, e, shasB_t a8, shasB_t a9, fun j hj => h2 j (by omega)⟩ | false => exact fmB_f fun f => by rw [f.e] at e; cases e))⟩))
         ·have a9 : shasB h.stop = false := a9
          exact OL.nd rfl (OL.nd rfl (OL.nd rfl (pkF rfl rfl (asD rfl (OL.nil (AW.ret (RetQ.r ⟨_, .tmp rfl .nil, .le (VLe.bool (fmB_f fun f => shasB_f a9 f.s))⟩)))))))
        ·have a8 : shasB h.ini = false := a8
         refine OL.nd rfl (OL.nd rfl (OL.nd rfl (pkF rfl rfl (mvD rfl (OL.nd rfl (OL.nd rfl (OL.nd rfl ?_)))))))
         exact pkF rfl rfl (asD rfl (OL.nil (AW.ret (RetQ.r ⟨_, .tmp rfl .nil, .le (VLe.bool (fmB_f fun f => shasB_f a8 f.i))⟩))))
theorem vcs_b0 : VCs [.d (dB false)] (dB false).cells := .cons (VC.d _) .nil
theorem bool_at {l : List Bool} {i : Nat} (hi : i < l.length) : (l.map dB)[i]? = some (dB (l.getD i false)) := by
 rw [List.getElem?_map, List.getD_eq_getElem?_getD, List.getElem?_eq_getElem hi]; rfl
set_option maxRecDepth 6000 in
set_option maxHeartbeats 3200000 in
theorem ref33_circlesS {h : HM} (f : h.FormS) : FSpec P F.ref33_circles [vHM h] (.d (dB (!ranB h))) := by
 have e1 := f.ini
 have e2 := f.trans
 have e3 := f.stop
 have e4 := f.emit
 have e5 := f.ties
 have e6 := f.sill
 have s0 := f.sym0
 have s1 := f.sym1
 have n0 := f.st0
 have n1 := f.st1
 refine FSpec.intro fn.ref33_circles (by rfl) (by rfl) (nb9 (by rfl)) fun E hE => (AW.sg hE rfl (bxA rfl rfl fun b1 => (asD rfl (OL.nil (AW.sg hE rfl (faP fd.Hidden_1 rfl rfl (ldPC ce.int rfl rfl rfl ?_)))))))
 refine mkL dB false sl.bools z.bool vcs_b0 rfl rfl (Nat.le_refl _) (by omega) (by omega) rfl fun b11 => (asO rfl (OL.nil (AW.seq (AW.sg hE rfl (asD rfl (OL.nil (AW.block ?_)))))))
 refine AW.whileK (α := Nat × List Bool) [(1, _), (2, _), (3, _)] [(1, _)] (fun (k, l) => [(4, .d (dI k))]) (fun (k, l) => [(11, .row b11 h.st T.bool 1 (l.map dB))]) (fun (k, l) => k ≤ h.st ∧ Gon h l ∧ (h.Ranked → k ≤ cnt (fun i => l.getD i false) h.st)) (fun (k, l) => h.st - k) (0, List.replicate h.st false) (.cons (knP rfl) (.cons (knD rfl) (.cons (knO rfl) .nil))) (.cons (owB rfl) .nil) ⟨⟨Nat.zero_le _, Gon.zero h, fun _ => Nat.zero_le _⟩, .rq1, .cons rfl .nil⟩ ?_
 rintro ⟨k, l⟩ ⟨h1, hg, hk⟩
 have h1 : k ≤ h.st := h1
 have hg : Gon h l := hg
 have hk : h.Ranked → k ≤ cnt (fun i => l.getD i false) h.st := hk
 have hl := hg.len
 refine AW.seq (AW.sg hE rfl (mvD rfl (faP fd.Hidden_1 rfl rfl (ldPC ce.int rfl rfl rfl (c_lss rfl rfl rfl (OL.nil (AW.cond rfl (fun h15 => ?_) (fun h15 => ?_))))))))
 ·try simp only [dx9] at h15
  refine AW.skip (AW.seq (AW.block (AW.sg hE rfl (asD rfl (OL.nil (AW.block ?_))))))
  refine AW.whileK (α := Nat × List Bool) [(1, _), (2, _), (3, _), (4, _)] [(1, _)] (fun (i, l2) => [(5, .d (dI i))]) (fun (i, l2) => [(11, .row b11 h.st T.bool 1 (l2.map dB))]) (fun (i, l2) => i ≤ h.st ∧ Pas h l l2 i) (fun (i, l2) => h.st - i) (0, l) (.cons (knP rfl) (.cons (knD rfl) (.cons (knO rfl) (.cons (knD rfl) .nil)))) (.cons (owB rfl) .nil) ⟨⟨Nat.zero_le _, Pas.zero hg⟩, .rq1, .cons rfl .nil⟩ ?_
  rintro ⟨i, l2⟩ ⟨h2, hp⟩
  have h2 : i ≤ h.st := h2
  have hp : Pas h l l2 i := hp
  have hl2 := hp.gon.len
  refine AW.seq (AW.sg hE rfl (mvD rfl (faP fd.Hidden_1 rfl rfl (ldPC ce.int rfl rfl rfl (c_lss rfl rfl rfl (OL.nil (AW.cond rfl (fun h21 => ?_) (fun h21 => ?_))))))))
  ·try simp only [dx9] at h21
   refine AW.skip (AW.seq (AW.block (AW.sg hE rfl (asD rfl (OL.nil (AW.seq (AW.sg hE rfl ?_)))))))
   refine asD rfl (OL.nil (AW.block ?_))
   refine AW.whileK (α := Nat × Bool) [(1, _), (2, _), (3, _), (4, _), (5, _)] [(1, _), (11, _)] (fun (j, op) => [(6, .d (dB op)), (7, .d (dI j))]) (fun (j, op) => []) (fun (j, op) => j ≤ h.st ∧ Opn h l2 i j op) (fun (j, op) => h.st - j) (0, false) (.cons (knP rfl) (.cons (knD rfl) (.cons (knO rfl) (.cons (knD rfl) (.cons (knD rfl) .nil))))) (.cons (owB rfl) (.cons (owR rfl) .nil)) ⟨⟨Nat.zero_le _, Opn.zero⟩, .rq2, .nil⟩ ?_
   rintro ⟨j, op⟩ ⟨h3, ho⟩
   have h3 : j ≤ h.st := h3
   have ho : Opn h l2 i j op := ho
   refine AW.seq (AW.sg hE rfl (mvD rfl (faP fd.Hidden_1 rfl rfl (ldPC ce.int rfl rfl rfl (c_lss rfl rfl rfl (OL.nil (AW.cond rfl (fun h27 => ?_) (fun h27 => ?_))))))))
   ·try simp only [dx9] at h27
    refine AW.skip (AW.seq (AW.block ?_))
    have t1 := f.trow i (by omega)
    have zT := (f.zT i).get (by decide) j
    have helj := bool_at (show j < l2.length by omega)
    refine AW.rg hE rfl (mvD rfl (mvD rfl (OL.split 31 rfl (fun a0 => ?_) (fun a0 => ?_))))
    ·have a0 : op = true := a0
     refine OL.nd rfl (OL.nd rfl (OL.nd rfl (OL.nd rfl (OL.nd rfl (OL.nd rfl (OL.nd rfl (OL.nd rfl ?_)))))))
     refine OL.nd rfl (OL.nd rfl (OL.nd rfl (OL.nd rfl (OL.nd rfl (OL.nd rfl (OL.nd rfl (OL.nd rfl ?_)))))))
     refine OL.nd rfl (OL.nd rfl (OL.nd rfl (OL.nd rfl (OL.nd rfl (OL.nd rfl (OL.nd rfl (OL.nd rfl ?_)))))))
     refine pkT rfl rfl (asD rfl (OL.nil (AW.rg hE rfl (mvD rfl (add_i64 rfl rfl (by omega) (asD rfl (OL.nil ?_)))))))
     exact AW.again (x := (j, op)) (j + 1, true) (by (simp only []; omega)) ⟨⟨by omega, (a0 ▸ ho).keep⟩, Knows.app .rq5 .rq2, Owns.app (.cons rfl (.cons rfl .nil)) (.nil)⟩
    ·have a0 : op = false := a0
     refine OL.yes rfl (faP fd.Hidden_7 rfl rfl (OL.yes rfl (ldPC ce.bools rfl rfl rfl (OL.yes rfl (mvD rfl (OL.yes rfl (ixLn sl.bools false rfl rfl (by omega) rfl rfl ?_)))))))
     refine OL.yes rfl (ldRC ce.bool rfl (OL.yes rfl (mvD rfl (OL.split 37 rfl (fun a1 => ?_) (fun a1 => ?_)))))
     ·have a1 : h.silent.getD j false = true := a1
      refine OL.yes rfl (mvO rfl (OL.yes rfl (mvD rfl (OL.yes rfl (ixOn sl.bools rfl rfl (by omega) (OL.yes rfl (ldEC ce.bool (by decide) rfl rfl helj rfl ?_)))))))
      refine OL.yes rfl (nt rfl (OL.yes rfl (pkT rfl rfl (OL.yes rfl (mvD rfl (OL.split 44 rfl (fun a2 => ?_) (fun a2 => ?_)))))))
      ·have a2 : l2.getD j false = false := by simpa using a2
       refine OL.yes rfl (faP fd.Hidden_4 rfl rfl (OL.yes rfl (ldPC ce.Ratss rfl rfl rfl (OL.yes rfl (mvD rfl (OL.yes rfl (ixLn sl.Ratss [] rfl rfl (by omega) rfl rfl ?_)))))))
       refine OL.yes rfl (ldRC ce.Rats rfl (OL.yes rfl (mvD rfl (OL.yes rfl (ixLn sl.Rats 0 rfl rfl (by omega) rfl rfl (OL.yes rfl (ldRA ag.Rat rfl (vs := [_,_,_]) rfl (nb9 rfl) ?_)))))))
       refine OL.yes rfl (clv rfl .rq1 (ref_SignQ (by omega)) (OL.yes rfl (c_gtr rfl rfl rfl (OL.yes rfl (pkT rfl rfl (pkF rfl rfl (asD rfl ?_)))))))
       refine OL.nil (AW.rg hE rfl (mvD rfl (add_i64 rfl rfl (by omega) (asD rfl (OL.nil ?_)))))
       exact AW.again (x := (j, op)) (j + 1, decide (0 < sgnQ ((h.trans.getD i []).getD j 0))) (by (simp only []; omega)) ⟨⟨by omega, (a0 ▸ ho).step ⟨fun e => ⟨a1, a2, sgn_gt.1 (of_decide_eq_true e)⟩, fun e => decide_eq_true (sgn_gt.2 e.2.2)⟩⟩, Knows.app .rq5 .rq2, Owns.app (.cons rfl (.cons rfl .nil)) (.nil)⟩
      ·have a2 : l2.getD j false = true := by simpa using a2
       refine OL.nd rfl (OL.nd rfl (OL.nd rfl (OL.nd rfl (OL.nd rfl (OL.nd rfl (OL.nd rfl (OL.nd rfl ?_)))))))
       refine OL.nd rfl (OL.nd rfl (OL.yes rfl (pkF rfl rfl (pkF rfl rfl (asD rfl (OL.nil (AW.rg hE rfl ?_)))))))
       refine mvD rfl (add_i64 rfl rfl (by omega) (asD rfl (OL.nil ?_)))
       exact AW.again (x := (j, op)) (j + 1, false) (by (simp only []; omega)) ⟨⟨by omega, (a0 ▸ ho).step ⟨fun e => (by cases e), fun e => by rw [a2] at e; exact absurd e.2.1 (by decide)⟩⟩, Knows.app .rq5 .rq2, Owns.app (.cons rfl (.cons rfl .nil)) (.nil)⟩
     ·have a1 : h.silent.getD j false = false := a1
      refine OL.nd rfl (OL.nd rfl (OL.nd rfl (OL.nd rfl (OL.nd rfl (OL.yes rfl (pkF rfl rfl (OL.yes rfl ?_)))))))
      refine mvD rfl (OL.nd rfl (OL.nd rfl (OL.nd rfl (OL.nd rfl (OL.nd rfl (OL.nd rfl (OL.nd rfl ?_)))))))
      refine OL.nd rfl (OL.nd rfl (OL.nd rfl (OL.yes rfl (pkF rfl rfl (pkF rfl rfl (asD rfl (OL.nil ?_)))))))
      refine AW.rg hE rfl (mvD rfl (add_i64 rfl rfl (by omega) (asD rfl (OL.nil ?_))))
      exact AW.again (x := (j, op)) (j + 1, false) (by (simp only []; omega)) ⟨⟨by omega, (a0 ▸ ho).step ⟨fun e => (by cases e), fun e => by rw [a1] at e; exact absurd e.1 (by decide)⟩⟩, Knows.app .rq5 .rq2, Owns.app (.cons rfl (.cons rfl .nil)) (.nil)⟩
   ·try simp only [dx9] at h27
    refine AW.exit ?_
    have hel := bool_at (show i < l2.length by omega)
    refine AW.rg hE rfl (mvO rfl (mvD rfl (mvO rfl (mvD rfl (ixOn sl.bools rfl rfl (by omega) (ldEC ce.bool (by decide) rfl rfl hel rfl (mvD rfl ?_)))))))
    refine OL.split 63 rfl (fun a3 => ?_) (fun a3 => ?_)
    ·have a3 : l2.getD i false = true := a3
     refine OL.nd rfl (OL.nd rfl (pkT rfl rfl (mvD rfl (OL.nd rfl (OL.nd rfl (OL.nd rfl (OL.nd rfl ?_)))))))
     refine OL.nd rfl (OL.nd rfl (pkT rfl rfl (ixOn sl.bools rfl rfl (by omega) (stE sz.bool rfl (VC.d _).vd rfl rfl (by rw [List.length_map]; omega) (es2 := (l2.set i true).map dB) (by rw [List.map_set]) (OL.nil (AW.rg hE rfl (mvD rfl ?_)))))))
     refine add_i64 rfl rfl (by omega) (asD rfl (OL.nil ?_))
     exact AW.again (x := (i, l2)) (i + 1, l2.set i true) (by (simp only []; omega)) ⟨⟨by omega, hp.step (by omega) ((show j = h.st by omega) ▸ ho) (by rw [a3]; rfl)⟩, Knows.app .rq4 .rq1, Owns.app (.cons rfl .nil) (.cons rfl .nil)⟩
    ·have a3 : l2.getD i false = false := a3
     refine OL.yes rfl (mvD rfl (OL.yes rfl (nt rfl (pkF rfl rfl (mvD rfl (OL.split 67 rfl (fun a4 => ?_) (fun a4 => ?_)))))))
     ·have a4 : op = false := by simpa using a4
      refine OL.nd rfl (OL.nd rfl (OL.nd rfl (OL.nd rfl (OL.nd rfl (OL.nd rfl (pkT rfl rfl (ixOn sl.bools rfl rfl (by omega) ?_)))))))
      refine stE sz.bool rfl (VC.d _).vd rfl rfl (by rw [List.length_map]; omega) (es2 := (l2.set i true).map dB) (by rw [List.map_set]) (OL.nil (AW.rg hE rfl (mvD rfl (add_i64 rfl rfl (by omega) (asD rfl (OL.nil ?_))))))
      exact AW.again (x := (i, l2)) (i + 1, l2.set i true) (by (simp only []; omega)) ⟨⟨by omega, hp.step (by omega) ((show j = h.st by omega) ▸ ho) (by rw [a4]; simp)⟩, Knows.app .rq4 .rq1, Owns.app (.cons rfl .nil) (.cons rfl .nil)⟩
     ·have a4 : op = true := by simpa using a4
      refine OL.yes rfl (faP fd.Hidden_7 rfl rfl (OL.yes rfl (ldPC ce.bools rfl rfl rfl (OL.yes rfl (mvD rfl (OL.yes rfl (ixLn sl.bools false rfl rfl (by omega) rfl rfl ?_)))))))
      refine OL.yes rfl (ldRC ce.bool rfl (OL.yes rfl (nt rfl (pkF rfl rfl (ixOn sl.bools rfl rfl (by omega) (stE sz.bool rfl (VC.d _).vd rfl rfl (by rw [List.length_map]; omega) (es2 := (l2.set i (!h.silent.getD i false)).map dB) (by rw [List.map_set]) (OL.nil ?_)))))))
      refine AW.rg hE rfl (mvD rfl (add_i64 rfl rfl (by omega) (asD rfl (OL.nil ?_))))
      exact AW.again (x := (i, l2)) (i + 1, l2.set i (!h.silent.getD i false)) (by (simp only []; omega)) ⟨⟨by omega, hp.step (by omega) ((show j = h.st by omega) ▸ ho) (by rw [a3, a4]; rfl)⟩, Knows.app .rq4 .rq1, Owns.app (.cons rfl .nil) (.cons rfl .nil)⟩
  ·try simp only [dx9] at h21
   refine AW.exit (AW.rg hE rfl (mvD rfl (add_i64 rfl rfl (by omega) (asD rfl (OL.nil ?_)))))
   exact AW.again (x := (k, l)) (k + 1, l2) (by (simp only []; omega)) ⟨⟨by omega, hp.gon, (show i = h.st by omega) ▸ hp |>.more (by omega) hk⟩, Knows.app .rq3 .rq1, Owns.app (.cons rfl .nil) (.cons rfl .nil)⟩
 ·try simp only [dx9] at h15
  refine AW.exit (AW.seq (AW.sg hE rfl (asD rfl (OL.nil (AW.block ?_)))))
  refine AW.whileK (α := Nat) [(1, _), (3, _)] [(1, _), (11, _)] (fun i => [(8, .d (dI i))]) (fun i => []) (fun i => i ≤ h.st ∧ ∀ j, j < i → l.getD j false = true) (fun i => h.st - i) 0 (.cons (knP rfl) (.cons (knO rfl) .nil)) (.cons (owB rfl) (.cons (owR rfl) .nil)) ⟨⟨Nat.zero_le _, fun j hj => absurd hj (Nat.not_lt_zero j)⟩, .rq1, .nil⟩ ?_
  rintro i ⟨h4, h5⟩
  have h4 : i ≤ h.st := h4
  refine AW.seq (AW.sg hE rfl (mvD rfl (faP fd.Hidden_1 rfl rfl (ldPC ce.int rfl rfl rfl (c_lss rfl rfl rfl (OL.nil (AW.cond rfl (fun h79 => ?_) (fun h79 => ?_))))))))
  ·try simp only [dx9] at h79
   refine AW.skip (AW.seq (AW.block (AW.seq ?_)))
   have hel := bool_at (show i < l.length by omega)
   refine AW.rg hE rfl (mvO rfl (mvD rfl (ixOn sl.bools rfl rfl (by omega) (ldEC ce.bool (by decide) rfl rfl hel rfl (nt rfl (OL.nil (AW.cond rfl (fun c86 => ?_) (fun c86 => ?_))))))))
   ·have c86 : l.getD i false = false := by simpa using c86
    exact AW.sg hE rfl (asD rfl (OL.nil (AW.ret (RetQ.r ⟨_, .tmp rfl .nil, .le (VLe.bool (by rw [← ranB_f fun hR => by have h9 := hk hR; have := cnt_all (p := fun i => l.getD i false) (by omega : h.st ≤ _) i (by omega); rw [c86] at this; cases this]; rfl))⟩))))
   ·have c86 : l.getD i false = true := by simpa using c86
    exact AW.skip (AW.rg hE rfl (mvD rfl (add_i64 rfl rfl (by omega) (asD rfl (OL.nil (AW.again (x := i) (i + 1) (by omega) ⟨⟨by omega, upto_stp h5 c86⟩, Knows.app .rq2 .rq1, Owns.app (.cons rfl (.cons rfl .nil)) (.nil)⟩))))))
  ·try simp only [dx9] at h79
   exact AW.exit (AW.sg hE rfl (asD rfl (OL.nil (AW.ret (RetQ.r ⟨_, .tmp rfl .nil, .le (VLe.bool (by rw [← ranB_t (hg.ranked fun j hj => h5 j (by omega))]; rfl))⟩)))))
theorem vles_of_eq {l m : List V} (h : l = m) : VLes l m := h ▸ VLes.refl l
theorem ref_any {l : List Bool} {n : Nat} (hl : l.length = n) (h : ∀ j, j < n → l.getD j false = false) : (l.any fun b => b) = false := any_false fun b hb => by
 obtain ⟨j, hj, rfl⟩ := mem_ix false hb
 exact h j (by omega)
theorem ref_any1 {l : List Bool} {i : Nat} (hi : i < l.length) (h : l.getD i false = true) : (l.any fun b => b) = true := List.any_eq_true.2 ⟨_, getD_mem hi false, h⟩
theorem chkP_yes {h : RM} (e : chkE h = 0) (a : (h.silent.any fun b => b) = false) : true = decide (chkP h = 0) := by
 unfold chkP; rw [e, a]; rfl
theorem chkP_sil {h : RM} (e : chkE h = 0) (a : (h.silent.any fun b => b) = true) : false = decide (chkP h = 0) := by
 unfold chkP; rw [e, a]; rfl
theorem chkP_e {h : RM} (e : ¬ chkE h = 0) : chkE h = chkP h := by unfold chkP; rw [if_pos e]
theorem chkP_4 {h : RM} (e : chkE h = 0) (n : ¬ chkP h = 0) : 4 = chkP h := by
 unfold chkP at *
 rw [e, if_neg (fun x => x rfl)] at *
 split
 ·rfl
 ·rename_i x; rw [if_neg x] at n; exact absurd rfl n
set_option maxRecDepth 6000 in
set_option maxHeartbeats 3200000 in
theorem ref33_ValidR {h : RM} (zz : h.Sz) : FSpec P F.ref33_Valid [vRM h] (.d (dI (chkE h))) := by
 refine FSpec.intro fn.ref33_Valid (by rfl) (by rfl) (nb9 (by rfl)) fun E hE => (AW.sg hE rfl (bxA rfl rfl fun b1 => (asD rfl (OL.nil (AW.seq (AW.sg hE rfl (faP fd.Hidden_0 rfl rfl ?_)))))))
 refine ldPC ce.int rfl rfl rfl (c_lss rfl rfl rfl (mvD rfl (OL.split 10 rfl (fun g1 => ?_) (fun g1 => ?_))))
 ·have g1 : h.sym < 1 := of_decide_eq_true g1
  refine OL.nd rfl (OL.nd rfl (OL.nd rfl (pkT rfl rfl (mvD rfl (OL.nd rfl (OL.nd rfl (OL.nd rfl ?_)))))))
  refine pkT rfl rfl (mvD rfl (OL.nd rfl (OL.nd rfl (OL.nd rfl (pkT rfl rfl (OL.nil (AW.cond rfl (fun _ => ?_) (fun hno => absurd hno (by decide)))))))))
  exact AW.sg hE rfl (asD rfl (OL.nil (AW.ret (RetQ.r ⟨_, .tmp rfl .nil, .le (VLe.int (chkE_1 fun g => by have := g.1; have := g.2; omega))⟩))))
 ·have g1 : 1 ≤ h.sym := by have := of_decide_eq_false g1; omega
  refine OL.yes rfl (faP fd.Hidden_0 rfl rfl (OL.yes rfl (ldPC ce.int rfl rfl rfl (OL.yes rfl (c_gtr rfl rfl rfl (pkF rfl rfl (mvD rfl ?_)))))))
  refine OL.split 15 rfl (fun g2 => ?_) (fun g2 => ?_)
  ·have g2 : 32 < h.sym := of_decide_eq_true g2
   refine OL.nd rfl (OL.nd rfl (OL.nd rfl (pkT rfl rfl (mvD rfl (OL.nd rfl (OL.nd rfl (OL.nd rfl ?_)))))))
   refine pkT rfl rfl (OL.nil (AW.cond rfl (fun _ => ?_) (fun hno => absurd hno (by decide))))
   exact AW.sg hE rfl (asD rfl (OL.nil (AW.ret (RetQ.r ⟨_, .tmp rfl .nil, .le (VLe.int (chkE_1 fun g => by have := g.1; have := g.2; omega))⟩))))
  ·have g2 : h.sym ≤ 32 := by have := of_decide_eq_false g2; omega
   refine OL.yes rfl (faP fd.Hidden_1 rfl rfl (OL.yes rfl (ldPC ce.int rfl rfl rfl (OL.yes rfl (c_lss rfl rfl rfl (pkF rfl rfl (mvD rfl ?_)))))))
   refine OL.split 20 rfl (fun g3 => ?_) (fun g3 => ?_)
   ·have g3 : h.st < 1 := of_decide_eq_true g3
    refine OL.nd rfl (OL.nd rfl (OL.nd rfl (pkT rfl rfl (OL.nil (AW.cond rfl (fun _ => ?_) (fun hno => absurd hno (by decide)))))))
    exact AW.sg hE rfl (asD rfl (OL.nil (AW.ret (RetQ.r ⟨_, .tmp rfl .nil, .le (VLe.int (chkE_1 fun g => by have := g.1; have := g.2; omega))⟩))))
   ·have g3 : 1 ≤ h.st := by have := of_decide_eq_false g3; omega
    refine OL.yes rfl (faP fd.Hidden_1 rfl rfl (OL.yes rfl (ldPC ce.int rfl rfl rfl (OL.yes rfl (c_gtr rfl rfl rfl (pkF rfl rfl (OL.nil ?_)))))))
    refine AW.cond rfl (fun g4 => ?_) (fun g4 => ?_)
    ·have g4 : 12 < h.st := of_decide_eq_true g4
     exact AW.sg hE rfl (asD rfl (OL.nil (AW.ret (RetQ.r ⟨_, .tmp rfl .nil, .le (VLe.int (chkE_1 fun g => by have := g.1; have := g.2; omega))⟩))))
    ·have g4 : h.st ≤ 12 := by have := of_decide_eq_false g4; omega
     refine AW.skip (AW.seq (AW.seq ?_))
     have g : h.Rng := ⟨⟨g1, g2⟩, g3, g4⟩
     refine AW.rg hE rfl (ldPA ag.Hidden rfl rfl (vs := [_,_,_,_,_,_,_,_,_,_,_]) rfl (nb9 rfl) (clv rfl (.cons (VLe.refl _) (.nil)) (ref33_formedR zz g) (nt rfl (OL.nil (AW.cond rfl (fun cf => ?_) (fun cf => ?_))))))
     ·have cf : ¬ h.Fm := fmB_ff (by simpa using cf)
      exact AW.sg hE rfl (asD rfl (OL.nil (AW.ret (RetQ.r ⟨_, .tmp rfl .nil, .le (VLe.int (chkE_4 g cf))⟩))))
     ·have cf : h.Fm := fmB_tt (by simpa using cf)
      have hv := cf.vHM g zz
      have f := cf.form g zz
      have hE2 := chkE_M g cf
      have e1 := f.ini
      have e2 := f.trans
      have e3 := f.stop
      have e4 := f.emit
      have e5 := f.ties
      have e6 := f.sill
      have s0 := f.sym0
      have s1 := f.sym1
      have n0 := f.st0
      have n1 := f.st1
      refine AW.boxW 1 (cellsHM (hm h)) rfl (vles_of_eq (V.ag.inj hv)) (AW.skip (AW.seq (AW.sg hE rfl (faP fd.Hidden_2 rfl rfl (ldPA ag.Rat rfl rfl (vs := [_,_,_]) rfl (nb9 rfl) (faP fd.Hidden_3 rfl rfl (ldPC ce.Rats rfl rfl rfl ?_)))))))
      refine clv rfl (.cons (VLe.refl _) (.cons (VLe.refl _) (.nil))) (ref33_oneS f.zE f.zI (by omega)) (nt rfl (OL.nil (AW.cond rfl (fun c33 => ?_) (fun c33 => ?_))))
      ·have c33 : ¬ (sumQ ((hm h).ini ++ [(hm h).empty]) = 1) := by simpa using c33
       exact AW.sg hE rfl (asD rfl (OL.nil (AW.ret (RetQ.r ⟨_, .tmp rfl .nil, .le (VLe.int ((hE2.trans (chkM_18 fun s => c33 s.i)).symm))⟩))))
      ·have c33 : sumQ ((hm h).ini ++ [(hm h).empty]) = 1 := by simpa using c33
       refine AW.skip (AW.seq (AW.sg hE rfl (asD rfl (OL.nil (AW.block ?_)))))
       refine AW.whileK (α := Nat) [(1, _)] [(1, _)] (fun i => [(3, .d (dI i))]) (fun i => []) (fun i => i ≤ (hm h).st ∧ ∀ j, j < i → sumQ ((hm h).trans.getD j [] ++ [(hm h).stop.getD j 0]) = 1) (fun i => (hm h).st - i) 0 (.cons (knP rfl) .nil) (.cons (owB rfl) .nil) ⟨⟨Nat.zero_le _, fun j hj => absurd hj (Nat.not_lt_zero j)⟩, .rq1, .nil⟩ ?_
       rintro i ⟨h1, h2⟩
       refine AW.seq (AW.sg hE rfl (mvD rfl (faP fd.Hidden_1 rfl rfl (ldPC ce.int rfl rfl rfl (c_lss rfl rfl rfl (OL.nil (AW.cond rfl (fun h37 => ?_) (fun h37 => ?_))))))))
       ·try simp only [dx9] at h37
        refine AW.skip (AW.seq (AW.block (AW.seq ?_)))
        have t1 := f.trow i (by omega)
        have zS := f.zS.get (by decide) i
        refine AW.dg 1 [0,1,2,3,4,5,6,7,8,9,10,11] order_free hE rfl (by kernel_rfl) (OI.of_OL (os := [_,_,_,_,_,_,_,_,_,_,_,_]) rfl ?_)
        refine faP fd.Hidden_5 rfl rfl (ldPC ce.Rats rfl rfl rfl (mvD rfl (ixLn sl.Rats 0 rfl rfl (by omega) rfl rfl (ldRA ag.Rat rfl (vs := [_,_,_]) rfl (nb9 rfl) (faP fd.Hidden_4 rfl rfl (ldPC ce.Ratss rfl rfl rfl (mvD rfl ?_)))))))
        refine ixLn sl.Ratss [] rfl rfl (by omega) rfl rfl (ldRC ce.Rats rfl (clv rfl (.cons (VLe.refl _) (.cons (VLe.refl _) (.nil))) (ref33_oneS zS (f.zT i) (by omega)) (nt rfl (OL.nil (AW.cond rfl (fun c51 => ?_) (fun c51 => ?_))))))
        ·have c51 : ¬ (sumQ ((hm h).trans.getD i [] ++ [(hm h).stop.getD i 0]) = 1) := by simpa using c51
         exact AW.sg hE rfl (asD rfl (OL.nil (AW.ret (RetQ.r ⟨_, .tmp rfl .nil, .le (VLe.int ((hE2.trans (chkM_18 fun s => c51 (s.t i (by omega)))).symm))⟩))))
        ·have c51 : sumQ ((hm h).trans.getD i [] ++ [(hm h).stop.getD i 0]) = 1 := by simpa using c51
         exact AW.skip (AW.rg hE rfl (mvD rfl (add_i64 rfl rfl (by omega) (asD rfl (OL.nil (AW.again (x := i) (i + 1) (by omega) ⟨⟨by omega, upto_stp h2 c51⟩, Knows.app .rq1 .rq1, Owns.app (.cons rfl .nil) (.nil)⟩))))))
       ·try simp only [dx9] at h37
        refine AW.exit (AW.seq (AW.sg hE rfl (asD rfl (OL.nil (AW.block ?_)))))
        refine AW.whileK (α := Nat) [(1, _)] [(1, _)] (fun i => [(4, .d (dI i))]) (fun i => []) (fun i => i ≤ (hm h).st ∧ ∀ j, j < i → (hm h).silent.getD j false = false → sumQ ((hm h).emit.getD j []) = 1) (fun i => (hm h).st - i) 0 (.cons (knP rfl) .nil) (.cons (owB rfl) .nil) ⟨⟨Nat.zero_le _, fun j hj => absurd hj (Nat.not_lt_zero j)⟩, .rq1, .nil⟩ ?_
        rintro i ⟨h3, h4⟩
        refine AW.seq (AW.sg hE rfl (mvD rfl (faP fd.Hidden_1 rfl rfl (ldPC ce.int rfl rfl rfl (c_lss rfl rfl rfl (OL.nil (AW.cond rfl (fun h55 => ?_) (fun h55 => ?_))))))))
        ·try simp only [dx9] at h55
         refine AW.skip (AW.seq (AW.block (AW.seq ?_)))
         have t2 := f.erow_le i (by omega)
         refine AW.rg hE rfl (faP fd.Hidden_7 rfl rfl (ldPC ce.bools rfl rfl rfl (mvD rfl (ixLn sl.bools false rfl rfl (by omega) rfl rfl (ldRC ce.bool rfl (nt rfl (mvD rfl ?_)))))))
         refine OL.split 64 rfl (fun a2 => ?_) (fun a2 => ?_)
         ·have a2 : (hm h).silent.getD i false = false := by simpa using a2
          refine OL.yes rfl (bd z.Rat pl.Rat (cs := [_,_,_]) rfl (OL.yes rfl (faP fd.Hidden_6 rfl rfl (OL.yes rfl (ldPC ce.Ratss rfl rfl rfl (OL.yes rfl (mvD rfl ?_)))))))
          refine OL.yes rfl (ixLn sl.Ratss [] rfl rfl (by omega) rfl rfl (OL.yes rfl (ldRC ce.Rats rfl (OL.yes rfl (clv rfl (.cons vle_q0 .rq1) (ref33_oneS (x := 0) (l := (hm h).emit.getD i []) (by rw [sz_zero]; decide) (f.zM i) (by omega)) ?_)))))
          rw [sumQ_app_one, Rat.zero_add]
          refine OL.yes rfl (nt rfl (pkT rfl rfl (OL.nil (AW.cond rfl (fun c73 => ?_) (fun c73 => ?_)))))
          ·have c73 : ¬ (sumQ ((hm h).emit.getD i []) = 1) := by simpa using c73
           exact AW.sg hE rfl (asD rfl (OL.nil (AW.ret (RetQ.r ⟨_, .tmp rfl .nil, .le (VLe.int ((hE2.trans (chkM_18 fun s => c73 (s.m i (by omega) a2))).symm))⟩))))
          ·have c73 : sumQ ((hm h).emit.getD i []) = 1 := by simpa using c73
           exact AW.skip (AW.rg hE rfl (mvD rfl (add_i64 rfl rfl (by omega) (asD rfl (OL.nil (AW.again (x := i) (i + 1) (by omega) ⟨⟨by omega, upto_stp h4 fun _ => c73⟩, Knows.app .rq1 .rq1, Owns.app (.cons rfl .nil) (.nil)⟩))))))
         ·have a2 : (hm h).silent.getD i false = true := by simpa using a2
          refine OL.nd rfl (OL.nd rfl (OL.nd rfl (OL.nd rfl (OL.nd rfl (OL.nd rfl (OL.nd rfl (OL.nd rfl ?_)))))))
          refine pkF rfl rfl (OL.nil (AW.cond rfl (fun hno => absurd hno (by decide)) (fun _ => ?_)))
          exact AW.skip (AW.rg hE rfl (mvD rfl (add_i64 rfl rfl (by omega) (asD rfl (OL.nil (AW.again (x := i) (i + 1) (by omega) ⟨⟨by omega, upto_stp h4 fun x => by rw [a2] at x; cases x⟩, Knows.app .rq1 .rq1, Owns.app (.cons rfl .nil) (.nil)⟩))))))
        ·try simp only [dx9] at h55
         refine AW.exit (AW.seq (AW.seq ?_))
         have cs : (hm h).Sums := ⟨c33, fun j hj => h2 j (by omega), fun j hj => h4 j (by omega)⟩
         refine AW.rg hE rfl (ldPA ag.Hidden rfl rfl (vs := [_,_,_,_,_,_,_,_,_,_,_]) rfl (nb9 rfl) (clv rfl (.cons (VLe.refl _) (.nil)) (ref33_circlesS f) (OL.nil (AW.cond rfl (fun cr => ?_) (fun cr => ?_)))))
         ·have cr : ¬ (hm h).Ranked := ranB_ff (by simpa using cr)
          exact AW.sg hE rfl (asD rfl (OL.nil (AW.ret (RetQ.r ⟨_, .tmp rfl .nil, .le (VLe.int ((hE2.trans (chkM_16 cs cr)).symm))⟩))))
         ·have cr : (hm h).Ranked := ranB_tt (by simpa using cr)
          refine AW.skip (AW.seq (AW.sg hE rfl (asD rfl (OL.nil (AW.block ?_)))))
          refine AW.whileK (α := Nat) [(1, _)] [(1, _)] (fun i => [(5, .d (dI i))]) (fun i => []) (fun i => i ≤ (hm h).st ∧ ∀ q, q < i → ∀ j, j < q → (hm h).TiedAt q j) (fun i => (hm h).st - i) 0 (.cons (knP rfl) .nil) (.cons (owB rfl) .nil) ⟨⟨Nat.zero_le _, fun j hj => absurd hj (Nat.not_lt_zero j)⟩, .rq1, .nil⟩ ?_
          rintro i ⟨h5, h6⟩
          refine AW.seq (AW.sg hE rfl (mvD rfl (faP fd.Hidden_1 rfl rfl (ldPC ce.int rfl rfl rfl (c_lss rfl rfl rfl (OL.nil (AW.cond rfl (fun h79 => ?_) (fun h79 => ?_))))))))
          ·try simp only [dx9] at h79
           refine AW.skip (AW.seq (AW.block (AW.sg hE rfl (asD rfl (OL.nil (AW.block ?_))))))
           refine AW.whileK (α := Nat) [(1, _), (5, _)] [(1, _)] (fun j => [(6, .d (dI j))]) (fun j => []) (fun j => j ≤ i ∧ ∀ q, q < j → (hm h).TiedAt i q) (fun j => i - j) 0 (.cons (knP rfl) (.cons (knD rfl) .nil)) (.cons (owB rfl) .nil) ⟨⟨Nat.zero_le _, fun j hj => absurd hj (Nat.not_lt_zero j)⟩, .rq1, .nil⟩ ?_
           rintro j ⟨h7, h8⟩
           refine AW.seq (AW.sg hE rfl (mvD rfl (mvD rfl (c_lss rfl rfl rfl (OL.nil (AW.cond rfl (fun h84 => ?_) (fun h84 => ?_)))))))
           ·try simp only [dx9] at h84
            refine AW.skip (AW.seq (AW.block (AW.seq ?_)))
            have t2 := f.erow_le i (by omega)
            have t2j := f.erow_le j (by omega)
            refine AW.dg 1 [0,1,2,3,4,5,6,7,8,9,10,11,12,13,14,15,16,17,18,19,20,21,22,23,24,25,26,27,28,29,30,31,32,33,34,35,36,37,38,39,40] order_free hE rfl (by kernel_rfl) (OI.of_OL (os := [_,_,_,_,_,_,_,_,_,_,_,_,_,_,_,_,_,_,_,_,_,_,_,_,_,_,_,_,_,_,_,_,_,_,_,_,_,_,_,_,_]) rfl ?_)
            refine faP fd.Hidden_7 rfl rfl (ldPC ce.bools rfl rfl rfl (mvD rfl (ixLn sl.bools false rfl rfl (by omega) rfl rfl (ldRC ce.bool rfl (nt rfl (mvD rfl (OL.split 93 rfl (fun a1 => ?_) (fun a1 => ?_))))))))
            ·have a1 : (hm h).silent.getD i false = false := by simpa using a1
             refine OL.yes rfl (faP fd.Hidden_7 rfl rfl (OL.yes rfl (ldPC ce.bools rfl rfl rfl (OL.yes rfl (mvD rfl (OL.yes rfl (ixLn sl.bools false rfl rfl (by omega) rfl rfl ?_)))))))
             refine OL.yes rfl (ldRC ce.bool rfl (OL.yes rfl (nt rfl (pkT rfl rfl (mvD rfl (OL.split 101 rfl (fun a2 => ?_) (fun a2 => ?_)))))))
             ·have a2 : (hm h).silent.getD j false = false := by simpa using a2
              refine OL.yes rfl (faP fd.Hidden_8 rfl rfl (OL.yes rfl (ldPC ce.ints rfl rfl rfl (OL.yes rfl (mvD rfl (OL.yes rfl (ixLn sl.ints 0 rfl rfl (by omega) rfl rfl ?_)))))))
              refine OL.yes rfl (ldRC ce.int rfl (OL.yes rfl (faP fd.Hidden_8 rfl rfl (OL.yes rfl (ldPC ce.ints rfl rfl rfl (OL.yes rfl (mvD rfl ?_)))))))
              refine OL.yes rfl (ixLn sl.ints 0 rfl rfl (by omega) rfl rfl (OL.yes rfl (ldRC ce.int rfl (OL.yes rfl (c_eql rfl rfl rfl (pkT rfl rfl (mvD rfl ?_)))))))
              refine OL.split 114 rfl (fun a3 => ?_) (fun a3 => ?_)
              ·have a3 : (hm h).ties.getD i 0 = (hm h).ties.getD j 0 := of_decide_eq_true a3
               refine OL.yes rfl (faP fd.Hidden_6 rfl rfl (OL.yes rfl (ldPC ce.Ratss rfl rfl rfl (OL.yes rfl (mvD rfl (OL.yes rfl (ixLn sl.Ratss [] rfl rfl (by omega) rfl rfl ?_)))))))
               refine OL.yes rfl (ldRC ce.Rats rfl (OL.yes rfl (faP fd.Hidden_6 rfl rfl (OL.yes rfl (ldPC ce.Ratss rfl rfl rfl (OL.yes rfl (mvD rfl ?_)))))))
               refine OL.yes rfl (ixLn sl.Ratss [] rfl rfl (by omega) rfl rfl (OL.yes rfl (ldRC ce.Rats rfl (OL.yes rfl (clv rfl (.cons (VLe.refl _) (.cons (VLe.refl _) (.nil))) (ref33_SameRats (f.zM i) (f.zM j) ⟨by decide, by decide, by omega⟩) (OL.yes rfl (nt rfl ?_)))))))
               refine pkT rfl rfl (OL.nil (AW.cond rfl (fun a4 => ?_) (fun a4 => ?_)))
               ·have a4 : ¬ ((hm h).emit.getD i [] = (hm h).emit.getD j []) := by simpa using a4
                exact AW.sg hE rfl (asD rfl (OL.nil (AW.ret (RetQ.r ⟨_, .tmp rfl .nil, .le (VLe.int ((hE2.trans (chkM_5 cs cr fun t => a4 (t i j (by omega) (by omega) a1 a2 a3))).symm))⟩))))
               ·have a4 : (hm h).emit.getD i [] = (hm h).emit.getD j [] := by simpa using a4
                exact AW.skip (AW.rg hE rfl (mvD rfl (add_i64 rfl rfl (by omega) (asD rfl (OL.nil (AW.again (x := j) (j + 1) (by omega) ⟨⟨by omega, upto_stp h8 fun _ _ _ => a4⟩, Knows.app .rq2 .rq1, Owns.app (.cons rfl .nil) (.nil)⟩))))))
              ·have a3 : ¬ (hm h).ties.getD i 0 = (hm h).ties.getD j 0 := of_decide_eq_false a3
               refine OL.nd rfl (OL.nd rfl (OL.nd rfl (OL.nd rfl (OL.nd rfl (OL.nd rfl (OL.nd rfl (OL.nd rfl ?_)))))))
               refine OL.nd rfl (OL.nd rfl (OL.nd rfl (OL.nd rfl (pkF rfl rfl (OL.nil (AW.cond rfl (fun hno => absurd hno (by decide)) (fun _ => ?_)))))))
               exact AW.skip (AW.rg hE rfl (mvD rfl (add_i64 rfl rfl (by omega) (asD rfl (OL.nil (AW.again (x := j) (j + 1) (by omega) ⟨⟨by omega, upto_stp h8 fun _ _ x => absurd x a3⟩, Knows.app .rq2 .rq1, Owns.app (.cons rfl .nil) (.nil)⟩))))))
             ·have a2 : (hm h).silent.getD j false = true := by simpa using a2
              refine OL.nd rfl (OL.nd rfl (OL.nd rfl (OL.nd rfl (OL.nd rfl (OL.nd rfl (OL.nd rfl (OL.nd rfl ?_)))))))
              refine OL.nd rfl (OL.nd rfl (OL.nd rfl (pkF rfl rfl (mvD rfl (OL.nd rfl (OL.nd rfl (OL.nd rfl ?_)))))))
              refine OL.nd rfl (OL.nd rfl (OL.nd rfl (OL.nd rfl (OL.nd rfl (OL.nd rfl (OL.nd rfl (OL.nd rfl ?_)))))))
              refine OL.nd rfl (pkF rfl rfl (OL.nil (AW.cond rfl (fun hno => absurd hno (by decide)) (fun _ => ?_))))
              exact AW.skip (AW.rg hE rfl (mvD rfl (add_i64 rfl rfl (by omega) (asD rfl (OL.nil (AW.again (x := j) (j + 1) (by omega) ⟨⟨by omega, upto_stp h8 fun _ x _ => by rw [a2] at x; cases x⟩, Knows.app .rq2 .rq1, Owns.app (.cons rfl .nil) (.nil)⟩))))))
            ·have a1 : (hm h).silent.getD i false = true := by simpa using a1
             refine OL.nd rfl (OL.nd rfl (OL.nd rfl (OL.nd rfl (OL.nd rfl (OL.nd rfl (pkF rfl rfl (mvD rfl ?_)))))))
             refine OL.nd rfl (OL.nd rfl (OL.nd rfl (OL.nd rfl (OL.nd rfl (OL.nd rfl (OL.nd rfl (OL.nd rfl ?_)))))))
             refine OL.nd rfl (OL.nd rfl (OL.nd rfl (pkF rfl rfl (mvD rfl (OL.nd rfl (OL.nd rfl (OL.nd rfl ?_)))))))
             refine OL.nd rfl (OL.nd rfl (OL.nd rfl (OL.nd rfl (OL.nd rfl (OL.nd rfl (OL.nd rfl (OL.nd rfl ?_)))))))
             refine OL.nd rfl (pkF rfl rfl (OL.nil (AW.cond rfl (fun hno => absurd hno (by decide)) (fun _ => ?_))))
             exact AW.skip (AW.rg hE rfl (mvD rfl (add_i64 rfl rfl (by omega) (asD rfl (OL.nil (AW.again (x := j) (j + 1) (by omega) ⟨⟨by omega, upto_stp h8 fun x _ _ => by rw [a1] at x; cases x⟩, Knows.app .rq2 .rq1, Owns.app (.cons rfl .nil) (.nil)⟩))))))
           ·try simp only [dx9] at h84
            exact AW.exit (AW.rg hE rfl (mvD rfl (add_i64 rfl rfl (by omega) (asD rfl (OL.nil (AW.again (x := i) (i + 1) (by omega) ⟨⟨by omega, upto_stp h6 fun q hq => h8 q (by omega)⟩, Knows.app .rq1 .rq1, Owns.app (.cons rfl .nil) (.nil)⟩))))))
          ·try simp only [dx9] at h79
           exact AW.exit (AW.sg hE rfl (asD rfl (OL.nil (AW.ret (RetQ.r ⟨_, .tmp rfl .nil, .le (VLe.int ((hE2.trans (chkM_0 cs cr fun i j hi hj => h6 i (by omega) j hj)).symm))⟩)))))
theorem ref33_PlainR {h : RM} (zz : h.Sz) : FSpec P F.ref33_Plain [vRM h] (.d (dB (decide (chkP h = 0)))) := by
 refine FSpec.intro fn.ref33_Plain (by rfl) (by rfl) (nb9 (by rfl)) fun E hE => (AW.sg hE rfl (bxA rfl rfl fun b1 => (asD rfl (OL.nil (AW.seq (AW.sg hE rfl (ldPA ag.Hidden rfl rfl (vs := [_,_,_,_,_,_,_,_,_,_,_]) rfl (nb9 rfl) ?_)))))))
 refine clv rfl (.cons (VLe.refl _) (.nil)) (ref33_ValidR zz) (c_neq rfl rfl rfl (OL.nil (AW.cond rfl (fun c6 => ?_) (fun c6 => ?_))))
 ·have c6 : ¬ chkE h = 0 := by simpa using c6
  exact AW.sg hE rfl (asD rfl (OL.nil (AW.ret (RetQ.r ⟨_, .tmp rfl .nil, .le (VLe.bool (chkP_no c6))⟩))))
 ·have c6 : chkE h = 0 := by simpa using c6
  obtain ⟨g, f⟩ := chkE_form (h := h) (by rw [c6]; exact ⟨by decide, by decide⟩)
  have g3 := g.2.1
  have g4 := g.2.2
  have f3 := f.ll
  refine AW.skip (AW.seq (AW.sg hE rfl (asD rfl (OL.nil (AW.block ?_)))))
  refine AW.whileK (α := Nat) [(1, _)] [(1, _)] (fun i => [(3, .d (dI i))]) (fun i => []) (fun i => (i : Int) ≤ h.st ∧ ∀ j, j < i → h.silent.getD j false = false) (fun i => h.st.toNat - i) 0 (.cons (knP rfl) .nil) (.cons (owB rfl) .nil) ⟨⟨by omega, fun j hj => absurd hj (Nat.not_lt_zero j)⟩, .rq1, .nil⟩ ?_
  rintro i ⟨h1, h2⟩
  refine AW.seq (AW.sg hE rfl (mvD rfl (faP fd.Hidden_1 rfl rfl (ldPC ce.int rfl rfl rfl (c_lss rfl rfl rfl (OL.nil (AW.cond rfl (fun h10 => ?_) (fun h10 => ?_))))))))
  ·try simp only [dx9] at h10
   refine AW.skip (AW.seq (AW.block (AW.sg hE rfl (faP fd.Hidden_7 rfl rfl (ldPC ce.bools rfl rfl rfl (mvD rfl (ixLn sl.bools false rfl rfl (by omega) rfl rfl ?_)))))))
   refine ldRC ce.bool rfl (OL.nil (AW.cond rfl (fun c17 => ?_) (fun c17 => ?_)))
   ·have c17 := c17
    exact AW.sg hE rfl (asD rfl (OL.nil (AW.ret (RetQ.r ⟨_, .tmp rfl .nil, .le (VLe.bool (chkP_sil c6 (ref_any1 (by omega) c17)))⟩))))
   ·have c17 := c17
    exact AW.skip (AW.rg hE rfl (mvD rfl (add_i64 rfl rfl (by omega) (asD rfl (OL.nil (AW.again (x := i) (i + 1) (by omega) ⟨⟨by omega, upto_stp h2 c17⟩, Knows.app .rq1 .rq1, Owns.app (.cons rfl .nil) (.nil)⟩))))))
  ·try simp only [dx9] at h10
   exact AW.exit (AW.sg hE rfl (asD rfl (OL.nil (AW.ret (RetQ.r ⟨_, .tmp rfl .nil, .le (VLe.bool (chkP_yes c6 (ref_any (n := i) (by omega) h2)))⟩)))))
theorem ref33_CheckR {h : RM} (zz : h.Sz) : FSpec P F.ref33_Check [vRM h] (.d (dI (chkP h))) := by
 refine FSpec.intro fn.ref33_Check (by rfl) (by rfl) (nb9 (by rfl)) fun E hE => (AW.sg hE rfl (bxA rfl rfl fun b1 => (asD rfl (OL.nil (AW.seq (AW.sg hE rfl (ldPA ag.Hidden rfl rfl (vs := [_,_,_,_,_,_,_,_,_,_,_]) rfl (nb9 rfl) ?_)))))))
 refine clv rfl (.cons (VLe.refl _) (.nil)) (ref33_ValidR zz) (asD rfl (OL.nil (AW.sg hE rfl (mvD rfl (c_neq rfl rfl rfl (OL.nil (AW.cond rfl (fun c7 => ?_) (fun c7 => ?_))))))))
 ·have c7 : ¬ chkE h = 0 := by simpa using c7
  exact AW.sg hE rfl (mvD rfl (asD rfl (OL.nil (AW.ret (RetQ.r ⟨_, .tmp rfl .nil, .le (VLe.int (chkP_e c7))⟩)))))
 ·have c7 : chkE h = 0 := by simpa using c7
  refine AW.skip (AW.seq (AW.sg hE rfl (ldPA ag.Hidden rfl rfl (vs := [_,_,_,_,_,_,_,_,_,_,_]) rfl (nb9 rfl) (clv rfl (.cons (VLe.refl _) (.nil)) (ref33_PlainR zz) (nt rfl (OL.nil (AW.cond rfl (fun c11 => ?_) (fun c11 => ?_))))))))
  ·have c11 : ¬ chkP h = 0 := by simpa using c11
   exact AW.sg hE rfl (asD rfl (OL.nil (AW.ret (RetQ.r ⟨_, .tmp rfl .nil, .le (VLe.int (chkP_4 c7 c11))⟩))))
  ·have c11 : chkP h = 0 := by simpa using c11
   exact AW.skip (AW.sg hE rfl (asD rfl (OL.nil (AW.ret (RetQ.r ⟨_, .tmp rfl .nil, .le (VLe.int (c11.symm))⟩)))))
end Go.Proofs.YtjghehkgmanmbaaGreat

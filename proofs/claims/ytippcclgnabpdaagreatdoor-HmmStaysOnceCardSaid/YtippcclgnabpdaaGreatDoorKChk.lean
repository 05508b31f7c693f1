/-
  Walks of the specification's checks of models, for valid models without silent states (printed by mk2.py).
-/
import Derived.Test.YtippcclgnabpdaaGreatDoorKHmmB
import Derived.Test.YtippcclgnabpdaaGreatDoorKSampleA
set_option linter.unusedVariables false
set_option linter.unusedSimpArgs false
namespace Go.Proofs.YtippcclgnabpdaaGreatDoor
open Go Go.AL
theorem ref_ValidQ {x : Rat} (hx : sz x ≤ 274877906944) : FSpec P F.ref01_Valid [vQ x] (.d (dB true)) := by
 have h := ref_Valid (r := ofQ x) (ofQ_ok hx)
 rw [ofQ_good] at h; exact h
theorem sumQ_app_one (l : List Rat) (x : Rat) : sumQ (l ++ [x]) = x + sumQ l := by
 unfold sumQ
 rw [List.foldl_append]
 exact Rat.add_comm ..
theorem ref33_SumS {l : List Rat} {B : Nat} (hl : Small B l) (hB : B ≤ 1048576) (hn : l.length ≤ 1024) : FSpec P F.ref33_Sum [.d (dQs l)] (vQ (sumQ l)) := by
 refine FSpec.intro fn.ref33_Sum (by rfl) (by rfl) (nb9 (by rfl)) fun E hE => (AW.sg hE rfl (al z.Rat rfl fun b2 => (OL.nil (AW.sg hE rfl (bd z.Rat pl.Rat (cs := [_,_,_]) rfl (al z.Rat rfl fun b3 => (sto sz.Rat rfl rfl rfl rfl rfl (nb9 rfl) (cells2 := [_,_,_]) rfl ?_)))))))
 refine OL.nil (AW.seq (AW.sg hE rfl (asD rfl (OL.nil (AW.block (AW.boxW 3 (cellsQ 0) rfl vles_q ?_))))))
 refine AW.whileK (α := Nat) [(0, _), (2, _), (3, _)] [(2, _)] (fun i => [(4, .d (dI i))]) (fun i => [(3, .box b3 T.Rat (cellsQ (sumQ (l.take i))))]) (fun i => i ≤ l.length) (fun i => l.length - i) 0 (.cons (knD rfl) (.cons (knP rfl) (.cons (knP rfl) .nil))) (.cons (owB rfl) .nil) ⟨Nat.zero_le _, .rq1, .cons rfl .nil⟩ ?_
 intro i h1
 refine AW.seq (AW.sg hE rfl (mvD rfl (mvD rfl (lnL sl.Rats rfl rfl (c_lss rfl rfl rfl (OL.nil (AW.cond rfl (fun h9 => ?_) (fun h9 => ?_))))))))
 ·try simp only [dx9] at h9
  refine AW.skip (AW.seq (AW.block ?_))
  have hs := sumQ_szB (hl.take i) (by rw [List.length_take]; omega) hB
  have hx := (hl.mono (Nat.le_max_left B 1)).get (Nat.le_max_right B 1) i
  refine AW.dg 1 [0,1,2,3,4,5,6] order_free hE rfl (by kernel_rfl) (OI.of_OL (os := [_,_,_,_,_,_,_]) rfl ?_)
  refine ldPA ag.Rat rfl rfl (vs := [_,_,_]) rfl (nb9 rfl) (mvD rfl (mvD rfl (ixLn sl.Rats 0 rfl rfl (by omega) rfl rfl (ldRA ag.Rat rfl (vs := [_,_,_]) rfl (nb9 rfl) (clv rfl (.cons (VLe.refl _) (.cons (VLe.refl _) (.nil))) (ref_AddQ (x := sumQ (l.take i)) (y := l.getD i 0) (by omega) (by omega)) (sto sz.Rat rfl rfl rfl rfl rfl (nb9 rfl) (cells2 := [_,_,_]) rfl (OL.nil ?_)))))))
  exact AW.rg hE rfl (mvD rfl (add_i64 rfl rfl (by omega) (asD rfl (OL.nil (AW.again (x := i) (i + 1) (by omega) ⟨by omega, Knows.app .rq3 .rq1, Owns.app (.cons rfl .nil) (.cons (by rw [sumQ_take_succ (by omega)]; rfl) .nil)⟩)))))
 ·try simp only [dx9] at h9
  refine AW.exit (AW.seq ?_)
  obtain rfl : i = l.length := by omega
  rw [List.take_length]
  exact AW.rg hE rfl (ldPA ag.Rat rfl rfl (vs := [_,_,_]) rfl (nb9 rfl) (sto sz.Rat rfl rfl rfl rfl rfl (nb9 rfl) (cells2 := [_,_,_]) rfl (OL.nil (AW.ret (RetQ.r ⟨_, .cellA rfl rfl ag.Rat (nb9 rfl) .nil, .ag (.cons (.le (VLe.refl _)) (.cons (.le (VLe.refl _)) (.cons (.le (VLe.refl _)) .nil)))⟩)))))
theorem ref33_Chance {q : Rat} (hs : Share q) (hz : sz q ≤ 1048576) : FSpec P F.ref33_Chance [vQ q] (.d (dB true)) := by
 have h1K := z1K
 refine FSpec.intro fn.ref33_Chance (by rfl) (by rfl) (nb9 (by rfl)) fun E hE => (AW.sg hE rfl (bxA rfl rfl fun b1 => (asD rfl (OL.nil (AW.seq (AW.dg 1 [0,1,2,3,4,5,6,7,8,9,10,11,12,13] order_free hE rfl (by kernel_rfl) (OI.of_OL (os := [_,_,_,_,_,_,_,_,_,_,_,_,_,_]) rfl ?_)))))))
 refine ldPA ag.Rat rfl rfl (vs := [_,_,_]) rfl (nb9 rfl) (clv rfl (.cons (VLe.refl _) (.nil)) (ref_ValidQ (x := q) (by omega)) (mvD rfl (OL.yes rfl (ldPA ag.Rat rfl rfl (vs := [_,_,_]) rfl (nb9 rfl) (OL.yes rfl (clv rfl (.cons (VLe.refl _) (.nil)) (ref_SignQ (x := q) (by omega)) (OL.yes rfl ?_)))))))
 refine c_geq rfl rfl (c := true) (decide_eq_true (sgnQ_nonneg.2 hs.1)) (pkT rfl rfl (mvD rfl (OL.yes rfl (ldPA ag.Rat rfl rfl (vs := [_,_,_]) rfl (nb9 rfl) (OL.yes rfl (clv rfl (.cons (VLe.refl _) (.nil)) (ref33_Whole1) (OL.yes rfl ?_)))))))
 exact clv rfl (.cons (VLe.refl _) (.cons (VLe.refl _) (.nil))) (ref_CompareQ (x := q) (y := 1) (by omega) (by omega)) (OL.yes rfl (c_leq rfl rfl (c := true) (decide_eq_true (cmpQ_le.2 hs.2)) (pkT rfl rfl (asD rfl (OL.nil (AW.ret (RetQ.r ⟨_, .tmp rfl .nil, .le (VLe.refl _)⟩)))))))
theorem ref33_chances {l : List Rat} {B : Nat} (hs : Shares l) (hz : Small B l) (hB : B ≤ 1048576 ∧ l.length ≤ 1099511627776) : FSpec P F.ref33_chances [.d (dQs l)] (.d (dB true)) := by
 refine FSpec.intro fn.ref33_chances (by rfl) (by rfl) (nb9 (by rfl)) fun E hE => (AW.sg hE rfl (asD rfl (OL.nil (AW.seq (AW.sg hE rfl (asD rfl (OL.nil ?_)))))))
 refine AW.block (AW.whileK (α := Nat) [(0, _)] [] (fun i => [(3, .d (dI i))]) (fun i => []) (fun i => i ≤ l.length) (fun i => l.length - i) 0 (.cons (knD rfl) .nil) .nil ⟨Nat.zero_le _, .rq1, .nil⟩ ?_)
 intro i h1
 refine AW.seq (AW.sg hE rfl (mvD rfl (mvD rfl (lnL sl.Rats rfl rfl (c_lss rfl rfl rfl (OL.nil (AW.cond rfl (fun h7 => ?_) (fun h7 => ?_))))))))
 ·try simp only [dx9] at h7
  refine AW.skip (AW.seq (AW.block (AW.seq ?_)))
  have hm := getD_mem (l := l) (i := i) (by omega) 0
  have hzi := hz _ hm
  refine AW.rg hE rfl (mvD rfl (mvD rfl (ixLn sl.Rats 0 rfl rfl (by omega) rfl rfl (ldRA ag.Rat rfl (vs := [_,_,_]) rfl (nb9 rfl) (clv rfl (.cons (VLe.refl _) (.nil)) (ref33_Chance (hs _ hm) (by omega)) (nt rfl (OL.nil ?_)))))))
  refine AW.cond rfl (fun hno => absurd hno (by decide)) (fun _ => ?_)
  exact AW.skip (AW.rg hE rfl (mvD rfl (add_i64 rfl rfl (by omega) (asD rfl (OL.nil (AW.again (x := i) (i + 1) (by omega) ⟨by omega, Knows.app .rq1 .rq1, .nil⟩))))))
 ·try simp only [dx9] at h7
  exact AW.exit (AW.sg hE rfl (asD rfl (OL.nil (AW.ret (RetQ.r ⟨_, .tmp rfl .nil, .le (VLe.refl _)⟩)))))
theorem ref33_one {x : Rat} {l : List Rat} {B : Nat} (hx : sz x ≤ 1048576) (hl : Small B l) (hB : B ≤ 1048576) (hn : l.length ≤ 1024) (h1 : x + sumQ l = 1) : FSpec P F.ref33_one [vQ x, .d (dQs l)] (.d (dB true)) := by
 have h1K := z1K
 have hs := sumQ_szB hl hn hB
 refine FSpec.intro fn.ref33_one (by rfl) (by rfl) (nb9 (by rfl)) fun E hE => (AW.sg hE rfl (bxA rfl rfl fun b2 => (asD rfl (OL.nil (AW.seq (AW.dg 1 [0,1,2,3,4,5,6,7] order_free hE rfl (by kernel_rfl) (OI.of_OL (os := [_,_,_,_,_,_,_,_]) rfl ?_)))))))
 refine ldPA ag.Rat rfl rfl (vs := [_,_,_]) rfl (nb9 rfl) (mvD rfl (clv rfl (.cons (VLe.refl _) (.nil)) (ref33_SumS hl hB hn) (clv rfl (.cons (VLe.refl _) (.cons (VLe.refl _) (.nil))) (ref_AddQ (x := x) (y := sumQ l) (by omega) (by omega)) ?_)))
 rw [h1]
 refine clv rfl (.cons (VLe.refl _) (.nil)) (ref33_Whole1) (clv rfl (.cons (VLe.refl _) (.cons (VLe.refl _) (.nil))) (ref_CompareQ (x := 1) (y := 1) (by omega) (by omega)) ?_)
 rw [show cmpQ (1) (1) = 0 from cmpQ_eq.2 rfl]
 exact c_eql rfl rfl (c := true) (by exact decide_eq_true (by omega)) (asD rfl (OL.nil (AW.ret (RetQ.r ⟨_, .tmp rfl .nil, .le (VLe.refl _)⟩))))
theorem ref33_SameRats {l m : List Rat} {B : Nat} (zl : Small B l) (zm : Small B m) (hB : 1 ≤ B ∧ B ≤ 1048576 ∧ l.length ≤ 1099511627776) : FSpec P F.ref33_SameRats [.d (dQs l), .d (dQs m)] (.d (dB (decide (l = m)))) := by
 refine FSpec.intro fn.ref33_SameRats (by rfl) (by rfl) (nb9 (by rfl)) fun E hE => (AW.sg hE rfl (asD rfl (OL.nil (AW.seq (AW.sg hE rfl (mvD rfl (lnL sl.Rats rfl rfl ?_)))))))
 refine mvD rfl (lnL sl.Rats rfl rfl (c_neq rfl rfl rfl (OL.nil (AW.cond rfl (fun h10 => ?_) (fun h10 => ?_)))))
 ·have hl : l.length ≠ m.length := by simp at h10; omega
  exact AW.sg hE rfl (asD rfl (OL.nil (AW.ret (RetQ.r ⟨_, .tmp rfl .nil, .le (VLe.bool ((decide_eq_false fun e => hl (by rw [e])).symm))⟩))))
 ·have hl : l.length = m.length := by simp at h10; omega
  refine AW.skip (AW.seq (AW.sg hE rfl (asD rfl (OL.nil (AW.block ?_)))))
  refine AW.whileK (α := Nat) [(0, _), (1, _)] [] (fun i => [(5, .d (dI i))]) (fun i => []) (fun i => i ≤ l.length ∧ ∀ j, j < i → l.getD j 0 = m.getD j 0) (fun i => l.length - i) 0 (.cons (knD rfl) (.cons (knD rfl) .nil)) .nil ⟨⟨Nat.zero_le _, fun j hj => by omega⟩, .rq1, .nil⟩ ?_
  rintro i ⟨h1, h2⟩
  refine AW.seq (AW.sg hE rfl (mvD rfl (mvD rfl (lnL sl.Rats rfl rfl (c_lss rfl rfl rfl (OL.nil (AW.cond rfl (fun h14 => ?_) (fun h14 => ?_))))))))
  ·try simp only [dx9] at h14
   refine AW.skip (AW.seq (AW.block (AW.seq ?_)))
   have z1 := zl.get hB.1 i
   have z2 := zm.get hB.1 i
   refine AW.dg 1 [0,1,2,3,4,5,6,7,8,9] order_free hE rfl (by kernel_rfl) (OI.of_OL (os := [_,_,_,_,_,_,_,_,_,_]) rfl ?_)
   refine mvD rfl (mvD rfl (ixLn sl.Rats 0 rfl rfl (by omega) rfl rfl (ldRA ag.Rat rfl (vs := [_,_,_]) rfl (nb9 rfl) (mvD rfl (mvD rfl (ixLn sl.Rats 0 rfl rfl (by omega) rfl rfl (ldRA ag.Rat rfl (vs := [_,_,_]) rfl (nb9 rfl) ?_)))))))
   refine clv rfl .rq2 (ref_CompareQ (by omega) (by omega)) (c_neq rfl rfl rfl (OL.nil (AW.cond rfl (fun hc => ?_) (fun hc => ?_))))
   ·have hc : l.getD i 0 ≠ m.getD i 0 := fun e => by rw [cmpQ_eq.2 e] at hc; simp at hc
    exact AW.sg hE rfl (asD rfl (OL.nil (AW.ret (RetQ.r ⟨_, .tmp rfl .nil, .le (VLe.bool ((decide_eq_false fun e => hc (by rw [e])).symm))⟩))))
   ·have hc : l.getD i 0 = m.getD i 0 := cmpQ_eq.1 (by simpa using hc)
    exact AW.skip (AW.rg hE rfl (mvD rfl (add_i64 rfl rfl (by omega) (asD rfl (OL.nil (AW.again (x := i) (i + 1) (by omega) ⟨⟨by omega, fun j hj => by rcases Nat.lt_or_ge j i with h | h; exact h2 j h; obtain rfl : j = i := (by omega); exact hc⟩, Knows.app .rq2 .rq1, .nil⟩))))))
  ·try simp only [dx9] at h14
   exact AW.exit (AW.sg hE rfl (asD rfl (OL.nil (AW.ret (RetQ.r ⟨_, .tmp rfl .nil, .le (VLe.bool ((decide_eq_true (list_eq_getD hl 0 fun j hj => h2 j (by omega))).symm))⟩)))))
set_option maxRecDepth 6000 in
set_option maxHeartbeats 3200000 in
theorem ref33_formed {h : HM} {B : Nat} (g : h.Good B) : FSpec P F.ref33_formed [vHM h] (.d (dB true)) := by
 have f := g.form
 have e1 := f.ini
 have e2 := f.trans
 have e3 := f.stop
 have e4 := f.emit
 have e5 := f.ties
 have e6 := f.sill
 have s0 := f.sym0
 have s1 := f.sym1
 have n0 := f.st0
 have n1 := f.st1
 have hb1 := f.b1
 have bB := f.bB
 have zE := f.zE
 have zI := f.zI
 have zS0 := f.zS
 refine FSpec.intro fn.ref33_formed (by rfl) (by rfl) (nb9 (by rfl)) fun E hE => (AW.sg hE rfl (bxA rfl rfl fun b1 => (asD rfl (OL.nil (AW.sg hE rfl (faP fd.Hidden_1 rfl rfl (ldPC ce.int rfl rfl rfl ?_)))))))
 refine asD rfl (OL.nil (AW.seq (AW.sg hE rfl (faP fd.Hidden_3 rfl rfl (ldPC ce.Rats rfl rfl rfl (lnL sl.Rats rfl rfl (mvD rfl ?_)))))))
 refine c_neq rfl rfl (c := false) (by exact cne_f (by omega)) (mvD rfl (OL.yes rfl (faP fd.Hidden_5 rfl rfl (OL.yes rfl (ldPC ce.Rats rfl rfl rfl (OL.yes rfl (lnL sl.Rats rfl rfl ?_)))))))
 refine OL.yes rfl (mvD rfl (OL.yes rfl (c_neq rfl rfl (c := false) (by exact cne_f (by omega)) (pkF rfl rfl (mvD rfl (OL.yes rfl (faP fd.Hidden_7 rfl rfl ?_)))))))
 refine OL.yes rfl (ldPC ce.bools rfl rfl rfl (OL.yes rfl (lnL sl.bools rfl rfl (OL.yes rfl (mvD rfl (OL.yes rfl (c_neq rfl rfl (c := false) (by exact cne_f (by omega)) ?_)))))))
 refine pkF rfl rfl (mvD rfl (OL.yes rfl (faP fd.Hidden_8 rfl rfl (OL.yes rfl (ldPC ce.ints rfl rfl rfl (OL.yes rfl (lnL sl.ints rfl rfl ?_)))))))
 refine OL.yes rfl (mvD rfl (OL.yes rfl (c_neq rfl rfl (c := false) (by exact cne_f (by omega)) (pkF rfl rfl (mvD rfl (OL.yes rfl (faP fd.Hidden_4 rfl rfl ?_)))))))
 refine OL.yes rfl (ldPC ce.Ratss rfl rfl rfl (OL.yes rfl (lnL sl.Ratss rfl rfl (OL.yes rfl (mvD rfl (OL.yes rfl (c_neq rfl rfl (c := false) (by exact cne_f (by omega)) ?_)))))))
 refine pkF rfl rfl (mvD rfl (OL.yes rfl (faP fd.Hidden_6 rfl rfl (OL.yes rfl (ldPC ce.Ratss rfl rfl rfl (OL.yes rfl (lnL sl.Ratss rfl rfl ?_)))))))
 refine OL.yes rfl (mvD rfl (OL.yes rfl (c_neq rfl rfl (c := false) (by exact cne_f (by omega)) (pkF rfl rfl (OL.nil (AW.cond rfl (fun hno => absurd hno (by decide)) (fun _ => ?_)))))))
 refine AW.skip (AW.seq (AW.sg hE rfl (asD rfl (OL.nil (AW.block (AW.whileK (α := Nat) [(1, _), (3, _)] [(1, _)] (fun i => [(4, .d (dI i))]) (fun i => []) (fun i => i ≤ h.st) (fun i => h.st - i) 0 (.cons (knP rfl) (.cons (knD rfl) .nil)) (.cons (owB rfl) .nil) ⟨Nat.zero_le _, .rq1, .nil⟩ ?_))))))
 intro i h1
 refine AW.seq (AW.sg hE rfl (mvD rfl (mvD rfl (c_lss rfl rfl rfl (OL.nil (AW.cond rfl (fun h49 => ?_) (fun h49 => ?_)))))))
 ·try simp only [dx9] at h49
  refine AW.skip (AW.seq (AW.block (AW.seq ?_)))
  have t1 := f.trow i (by omega)
  have t2 := f.erow i (by omega)
  have t3 := f.tie i (by omega)
  have pT := g.pT i
  have pM := g.pM i
  have zT := f.zT i
  have zM := f.zM i
  have zS := f.zS.get f.b1 i
  refine AW.dg 1 [0,1,2,3,4,5,6,7,8,9,10,11,12,13,14,15,16,17,18,19,20,21,22,23,24,25,26,27,28,29,30,31,32,33,34,35,36,37,38,39,40,41,42,43,44,45,46,47,48,49,50,51,52,53,54,55,56,57,58,59,60,61,62,63,64,65,66,67,68,69,70,71,72,73,74,75,76,77] order_free hE rfl (by kernel_rfl) (OI.of_OL (os := [_,_,_,_,_,_,_,_,_,_,_,_,_,_,_,_,_,_,_,_,_,_,_,_,_,_,_,_,_,_,_,_,_,_,_,_,_,_,_,_,_,_,_,_,_,_,_,_,_,_,_,_,_,_,_,_,_,_,_,_,_,_,_,_,_,_,_,_,_,_,_,_,_,_,_,_,_,_]) rfl ?_)
  refine faP fd.Hidden_4 rfl rfl (ldPC ce.Ratss rfl rfl rfl (mvD rfl (ixLn sl.Ratss [] rfl rfl (by omega) rfl rfl (ldRC ce.Rats rfl (lnL sl.Rats rfl rfl (mvD rfl (c_neq rfl rfl (c := false) (by exact cne_f (by omega)) ?_)))))))
  refine mvD rfl (OL.yes rfl (faP fd.Hidden_7 rfl rfl (OL.yes rfl (ldPC ce.bools rfl rfl rfl (OL.yes rfl (mvD rfl (OL.yes rfl ?_)))))))
  refine ixLn sl.bools false rfl rfl (by omega) rfl rfl (OL.yes rfl (ldRC ce.bool rfl ?_))
  rw [f.sil i]
  refine OL.yes rfl (mvD rfl (OL.nd rfl (OL.nd rfl (OL.nd rfl (OL.nd rfl (OL.nd rfl (OL.nd rfl ?_)))))))
  refine OL.nd rfl (OL.yes rfl (pkF rfl rfl (pkF rfl rfl (mvD rfl (OL.yes rfl (faP fd.Hidden_7 rfl rfl (OL.yes rfl ?_)))))))
  refine ldPC ce.bools rfl rfl rfl (OL.yes rfl (mvD rfl (OL.yes rfl (ixLn sl.bools false rfl rfl (by omega) rfl rfl (OL.yes rfl (ldRC ce.bool rfl ?_))))))
  rw [f.sil i]
  refine OL.yes rfl (nt rfl (OL.yes rfl (mvD rfl (OL.yes rfl (faP fd.Hidden_6 rfl rfl (OL.yes rfl (ldPC ce.Ratss rfl rfl rfl ?_)))))))
  refine OL.yes rfl (mvD rfl (OL.yes rfl (ixLn sl.Ratss [] rfl rfl (by omega) rfl rfl (OL.yes rfl (ldRC ce.Rats rfl (OL.yes rfl (lnL sl.Rats rfl rfl ?_)))))))
  refine OL.yes rfl (faP fd.Hidden_0 rfl rfl (OL.yes rfl (ldPC ce.int rfl rfl rfl (OL.yes rfl (c_neq rfl rfl (c := false) (by exact cne_f (by omega)) (OL.yes rfl (pkT rfl rfl ?_)))))))
  refine pkF rfl rfl (mvD rfl (OL.yes rfl (faP fd.Hidden_4 rfl rfl (OL.yes rfl (ldPC ce.Ratss rfl rfl rfl (OL.yes rfl (mvD rfl ?_)))))))
  refine OL.yes rfl (ixLn sl.Ratss [] rfl rfl (by omega) rfl rfl (OL.yes rfl (ldRC ce.Rats rfl (OL.yes rfl (clv rfl (.cons (VLe.refl _) (.nil)) (ref33_chances (pT) (zT) (by omega)) (OL.yes rfl (nt rfl ?_)))))))
  refine pkF rfl rfl (mvD rfl (OL.yes rfl (faP fd.Hidden_6 rfl rfl (OL.yes rfl (ldPC ce.Ratss rfl rfl rfl (OL.yes rfl (mvD rfl ?_)))))))
  refine OL.yes rfl (ixLn sl.Ratss [] rfl rfl (by omega) rfl rfl (OL.yes rfl (ldRC ce.Rats rfl (OL.yes rfl (clv rfl (.cons (VLe.refl _) (.nil)) (ref33_chances (pM) (zM) (by omega)) (OL.yes rfl (nt rfl ?_)))))))
  refine pkF rfl rfl (mvD rfl (OL.yes rfl (faP fd.Hidden_8 rfl rfl (OL.yes rfl (ldPC ce.ints rfl rfl rfl (OL.yes rfl (mvD rfl ?_)))))))
  refine OL.yes rfl (ixLn sl.ints 0 rfl rfl (by omega) rfl rfl (OL.yes rfl (ldRC ce.int rfl (OL.yes rfl (c_lss rfl rfl (c := false) (by exact decide_eq_false (by omega)) (pkF rfl rfl (mvD rfl ?_)))))))
  refine OL.yes rfl (faP fd.Hidden_8 rfl rfl (OL.yes rfl (ldPC ce.ints rfl rfl rfl (OL.yes rfl (mvD rfl (OL.yes rfl (ixLn sl.ints 0 rfl rfl (by omega) rfl rfl ?_)))))))
  refine OL.yes rfl (ldRC ce.int rfl (OL.yes rfl (mvD rfl (OL.yes rfl (c_geq rfl rfl (c := false) (by exact decide_eq_false (by omega)) (pkF rfl rfl (OL.nil ?_)))))))
  refine AW.cond rfl (fun hno => absurd hno (by decide)) (fun _ => ?_)
  exact AW.skip (AW.rg hE rfl (mvD rfl (add_i64 rfl rfl (by omega) (asD rfl (OL.nil (AW.again (x := i) (i + 1) (by omega) ⟨by omega, Knows.app .rq2 .rq1, Owns.app (.cons rfl .nil) (.nil)⟩))))))
 ·try simp only [dx9] at h49
  refine AW.exit (AW.sg hE rfl (faP fd.Hidden_3 rfl rfl (ldPC ce.Rats rfl rfl rfl (clv rfl (.cons (VLe.refl _) (.nil)) (ref33_chances (g.pI) (zI) (by omega)) (mvD rfl (OL.yes rfl (faP fd.Hidden_5 rfl rfl ?_)))))))
  refine OL.yes rfl (ldPC ce.Rats rfl rfl rfl (OL.yes rfl (clv rfl (.cons (VLe.refl _) (.nil)) (ref33_chances (g.pS) (zS0) (by omega)) (pkT rfl rfl (mvD rfl (OL.yes rfl (faP fd.Hidden_2 rfl rfl ?_)))))))
  exact OL.yes rfl (ldPA ag.Rat rfl rfl (vs := [_,_,_]) rfl (nb9 rfl) (OL.yes rfl (clv rfl (.cons (VLe.refl _) (.nil)) (ref33_Chance g.pE (by omega)) (pkT rfl rfl (asD rfl (OL.nil (AW.ret (RetQ.r ⟨_, .tmp rfl .nil, .le (VLe.refl _)⟩))))))))
theorem vcs_b0 : VCs [.d (dB false)] (dB false).cells := .cons (VC.d _) .nil
theorem set_true {l : List Bool} {n i j : Nat} (hl : l.length = n) (h : ∀ j, j < i → l.getD j false = true) (hi : i < n) (hj : j < i + 1) : (l.set i true).getD j false = true := by
 rw [List.getD_eq_getElem?_getD, List.getElem?_set]
 by_cases e : i = j
 ·subst e; rw [if_pos rfl, if_pos (by omega)]; rfl
 ·rw [if_neg e, ← List.getD_eq_getElem?_getD]; exact h j (by omega)
set_option maxRecDepth 6000 in
set_option maxHeartbeats 1600000 in
theorem ref33_circles {h : HM} {B : Nat} (g : h.Good B) : FSpec P F.ref33_circles [vHM h] (.d (dB false)) := by
 have f := g.form
 have e1 := f.ini
 have e2 := f.trans
 have e3 := f.stop
 have e4 := f.emit
 have e5 := f.ties
 have e6 := f.sill
 have s0 := f.sym0
 have s1 := f.sym1
 have n0 := f.st0
 have n1 := f.st1
 have hb1 := f.b1
 have bB := f.bB
 refine FSpec.intro fn.ref33_circles (by rfl) (by rfl) (nb9 (by rfl)) fun E hE => (AW.sg hE rfl (bxA rfl rfl fun b1 => (asD rfl (OL.nil (AW.sg hE rfl (faP fd.Hidden_1 rfl rfl (ldPC ce.int rfl rfl rfl ?_)))))))
 refine mkL dB false sl.bools z.bool vcs_b0 rfl rfl (Nat.le_refl _) (by omega) (by omega) rfl fun b11 => (asO rfl (OL.nil (AW.seq (AW.sg hE rfl (asD rfl (OL.nil (AW.block ?_)))))))
 refine AW.whileK (α := Nat × List Bool) [(1, _), (2, _), (3, _)] [(1, _)] (fun (k, l) => [(4, .d (dI k))]) (fun (k, l) => [(11, .row b11 h.st T.bool 1 (l.map dB))]) (fun (k, l) => k ≤ h.st ∧ l.length = h.st ∧ (0 < k → ∀ i, i < h.st → l.getD i false = true)) (fun (k, l) => h.st - k) (0, List.replicate h.st false) (.cons (knP rfl) (.cons (knD rfl) (.cons (knO rfl) .nil))) (.cons (owB rfl) .nil) ⟨⟨Nat.zero_le _, List.length_replicate, fun e => absurd e (Nat.lt_irrefl 0)⟩, .rq1, .cons rfl .nil⟩ ?_
 rintro ⟨k, l⟩ ⟨h1, hl, hk⟩
 have h1 : k ≤ h.st := h1
 have hl : l.length = h.st := hl
 refine AW.seq (AW.sg hE rfl (mvD rfl (faP fd.Hidden_1 rfl rfl (ldPC ce.int rfl rfl rfl (c_lss rfl rfl rfl (OL.nil (AW.cond rfl (fun h15 => ?_) (fun h15 => ?_))))))))
 ·try simp only [dx9] at h15
  refine AW.skip (AW.seq (AW.block (AW.sg hE rfl (asD rfl (OL.nil (AW.block ?_))))))
  refine AW.whileK (α := Nat × List Bool) [(1, _), (2, _), (3, _), (4, _)] [(1, _)] (fun (i, l2) => [(5, .d (dI i))]) (fun (i, l2) => [(11, .row b11 h.st T.bool 1 (l2.map dB))]) (fun (i, l2) => i ≤ h.st ∧ l2.length = h.st ∧ ∀ j, j < i → l2.getD j false = true) (fun (i, l2) => h.st - i) (0, l) (.cons (knP rfl) (.cons (knD rfl) (.cons (knO rfl) (.cons (knD rfl) .nil)))) (.cons (owB rfl) .nil) ⟨⟨Nat.zero_le _, hl, fun j hj => absurd hj (Nat.not_lt_zero j)⟩, .rq1, .cons rfl .nil⟩ ?_
  rintro ⟨i, l2⟩ ⟨h2, hl2, hk2⟩
  have h2 : i ≤ h.st := h2
  have hl2 : l2.length = h.st := hl2
  refine AW.seq (AW.sg hE rfl (mvD rfl (faP fd.Hidden_1 rfl rfl (ldPC ce.int rfl rfl rfl (c_lss rfl rfl rfl (OL.nil (AW.cond rfl (fun h21 => ?_) (fun h21 => ?_))))))))
  ·try simp only [dx9] at h21
   refine AW.skip (AW.seq (AW.block (AW.sg hE rfl (asD rfl (OL.nil (AW.seq (AW.sg hE rfl ?_)))))))
   refine asD rfl (OL.nil (AW.block ?_))
   refine AW.whileK (α := Nat) [(1, _), (2, _), (3, _), (4, _), (5, _)] [(1, _), (11, _)] (fun j => [(6, .d (dB false)), (7, .d (dI j))]) (fun j => []) (fun j => j ≤ h.st) (fun j => h.st - j) 0 (.cons (knP rfl) (.cons (knD rfl) (.cons (knO rfl) (.cons (knD rfl) (.cons (knD rfl) .nil))))) (.cons (owB rfl) (.cons (owR rfl) .nil)) ⟨Nat.zero_le _, .rq2, .nil⟩ ?_
   intro j h3
   have h3 : j ≤ h.st := h3
   refine AW.seq (AW.sg hE rfl (mvD rfl (faP fd.Hidden_1 rfl rfl (ldPC ce.int rfl rfl rfl (c_lss rfl rfl rfl (OL.nil (AW.cond rfl (fun h27 => ?_) (fun h27 => ?_))))))))
   ·try simp only [dx9] at h27
    refine AW.skip (AW.seq (AW.block (AW.rg hE rfl (mvD rfl (mvD rfl (OL.yes rfl (faP fd.Hidden_7 rfl rfl ?_)))))))
    refine OL.yes rfl (ldPC ce.bools rfl rfl rfl (OL.yes rfl (mvD rfl (OL.yes rfl (ixLn sl.bools false rfl rfl (by omega) rfl rfl (OL.yes rfl (ldRC ce.bool rfl ?_)))))))
    rw [f.sil j]
    refine OL.yes rfl (mvD rfl (OL.nd rfl (OL.nd rfl (OL.nd rfl (OL.nd rfl (OL.nd rfl (OL.yes rfl ?_)))))))
    refine pkF rfl rfl (OL.yes rfl (mvD rfl (OL.nd rfl (OL.nd rfl (OL.nd rfl (OL.nd rfl (OL.nd rfl ?_)))))))
    refine OL.nd rfl (OL.nd rfl (OL.nd rfl (OL.nd rfl (OL.nd rfl (OL.yes rfl (pkF rfl rfl (pkF rfl rfl ?_)))))))
    refine asD rfl (OL.nil (AW.rg hE rfl (mvD rfl (add_i64 rfl rfl (by omega) (asD rfl (OL.nil ?_))))))
    exact AW.again (x := j) (j + 1) (by omega) ⟨by omega, Knows.app .rq5 .rq2, Owns.app (.cons rfl (.cons rfl .nil)) (.nil)⟩
   ·try simp only [dx9] at h27
    refine AW.exit ?_
    have hel : (l2.map dB)[i]? = some (dB (l2.getD i false)) := by rw [List.getElem?_map, List.getD_eq_getElem?_getD, List.getElem?_eq_getElem (show i < l2.length by omega)]; rfl
    refine AW.rg hE rfl (mvO rfl (mvD rfl (mvO rfl (mvD rfl (ixOn sl.bools rfl rfl (by omega) (ldEC ce.bool (by decide) rfl rfl hel rfl (mvD rfl ?_)))))))
    refine OL.split 63 rfl (fun hg => ?_) (fun hg => ?_)
    ·have _hg := hg
     refine OL.nd rfl (OL.nd rfl (pkT rfl rfl (mvD rfl (OL.nd rfl (OL.nd rfl (OL.nd rfl (OL.nd rfl ?_)))))))
     refine OL.nd rfl (OL.nd rfl (pkT rfl rfl (ixOn sl.bools rfl rfl (by omega) (stE sz.bool rfl (VC.d _).vd rfl rfl (by rw [List.length_map]; omega) (es2 := (l2.set i true).map dB) (by rw [List.map_set]) (OL.nil (AW.rg hE rfl (mvD rfl ?_)))))))
     refine add_i64 rfl rfl (by omega) (asD rfl (OL.nil ?_))
     exact AW.again (x := (i, l2)) (i + 1, l2.set i true) (by (simp only []; omega)) ⟨⟨by omega, by rw [List.length_set]; exact hl2, fun j hj => set_true hl2 hk2 (by omega) hj⟩, Knows.app .rq4 .rq1, Owns.app (.cons rfl .nil) (.cons rfl .nil)⟩
    ·have _hg := hg
     refine OL.yes rfl (mvD rfl (OL.yes rfl (nt rfl (pkF rfl rfl (mvD rfl (OL.nd rfl (OL.nd rfl ?_)))))))
     refine OL.nd rfl (OL.nd rfl (OL.nd rfl (OL.nd rfl (pkT rfl rfl (ixOn sl.bools rfl rfl (by omega) (stE sz.bool rfl (VC.d _).vd rfl rfl (by rw [List.length_map]; omega) (es2 := (l2.set i true).map dB) (by rw [List.map_set]) (OL.nil ?_)))))))
     refine AW.rg hE rfl (mvD rfl (add_i64 rfl rfl (by omega) (asD rfl (OL.nil ?_))))
     exact AW.again (x := (i, l2)) (i + 1, l2.set i true) (by (simp only []; omega)) ⟨⟨by omega, by rw [List.length_set]; exact hl2, fun j hj => set_true hl2 hk2 (by omega) hj⟩, Knows.app .rq4 .rq1, Owns.app (.cons rfl .nil) (.cons rfl .nil)⟩
  ·try simp only [dx9] at h21
   exact AW.exit (AW.rg hE rfl (mvD rfl (add_i64 rfl rfl (by omega) (asD rfl (OL.nil (AW.again (x := (k, l)) (k + 1, l2) (by (simp only []; omega)) ⟨⟨by omega, hl2, fun _ j hj => hk2 j (by omega)⟩, Knows.app .rq3 .rq1, Owns.app (.cons rfl .nil) (.cons rfl .nil)⟩))))))
 ·try simp only [dx9] at h15
  refine AW.exit (AW.seq (AW.sg hE rfl (asD rfl (OL.nil (AW.block ?_)))))
  refine AW.whileK (α := Nat) [(1, _), (3, _)] [(1, _), (11, _)] (fun i => [(8, .d (dI i))]) (fun i => []) (fun i => i ≤ h.st) (fun i => h.st - i) 0 (.cons (knP rfl) (.cons (knO rfl) .nil)) (.cons (owB rfl) (.cons (owR rfl) .nil)) ⟨Nat.zero_le _, .rq1, .nil⟩ ?_
  intro i h4
  have h4 : i ≤ h.st := h4
  refine AW.seq (AW.sg hE rfl (mvD rfl (faP fd.Hidden_1 rfl rfl (ldPC ce.int rfl rfl rfl (c_lss rfl rfl rfl (OL.nil (AW.cond rfl (fun h79 => ?_) (fun h79 => ?_))))))))
  ·try simp only [dx9] at h79
   refine AW.skip (AW.seq (AW.block (AW.seq ?_)))
   have hel : (l.map dB)[i]? = some (dB true) := by rw [List.getElem?_map, List.getElem?_eq_getElem (show i < l.length by omega), ← hk (by omega) i (by omega), List.getD_eq_getElem?_getD, List.getElem?_eq_getElem (show i < l.length by omega)]; rfl
   refine AW.rg hE rfl (mvO rfl (mvD rfl (ixOn sl.bools rfl rfl (by omega) (ldEC ce.bool (by decide) rfl rfl hel rfl (nt rfl (OL.nil (AW.cond rfl (fun hno => absurd hno (by decide)) (fun _ => ?_))))))))
   exact AW.skip (AW.rg hE rfl (mvD rfl (add_i64 rfl rfl (by omega) (asD rfl (OL.nil (AW.again (x := i) (i + 1) (by omega) ⟨by omega, Knows.app .rq2 .rq1, Owns.app (.cons rfl (.cons rfl .nil)) (.nil)⟩))))))
  ·try simp only [dx9] at h79
   exact AW.exit (AW.sg hE rfl (asD rfl (OL.nil (AW.ret (RetQ.r ⟨_, .tmp rfl .nil, .le (VLe.refl _)⟩)))))
set_option maxRecDepth 6000 in
set_option maxHeartbeats 1600000 in
theorem ref33_Valid {h : HM} {B : Nat} (g : h.Good B) : FSpec P F.ref33_Valid [vHM h] (.d (dI 0)) := by
 have f := g.form
 have e1 := f.ini
 have e2 := f.trans
 have e3 := f.stop
 have e4 := f.emit
 have e5 := f.ties
 have e6 := f.sill
 have s0 := f.sym0
 have s1 := f.sym1
 have n0 := f.st0
 have n1 := f.st1
 have hb1 := f.b1
 have bB := f.bB
 have zE := f.zE
 have zI := f.zI
 refine FSpec.intro fn.ref33_Valid (by rfl) (by rfl) (nb9 (by rfl)) fun E hE => (AW.sg hE rfl (bxA rfl rfl fun b1 => (asD rfl (OL.nil (AW.seq (AW.sg hE rfl (faP fd.Hidden_0 rfl rfl ?_)))))))
 refine ldPC ce.int rfl rfl rfl (c_lss rfl rfl (c := false) (by exact decide_eq_false (by omega)) (mvD rfl (OL.yes rfl (faP fd.Hidden_0 rfl rfl (OL.yes rfl (ldPC ce.int rfl rfl rfl (OL.yes rfl ?_)))))))
 refine c_gtr rfl rfl (c := false) (by exact decide_eq_false (by omega)) (pkF rfl rfl (mvD rfl (OL.yes rfl (faP fd.Hidden_1 rfl rfl (OL.yes rfl (ldPC ce.int rfl rfl rfl (OL.yes rfl ?_)))))))
 refine c_lss rfl rfl (c := false) (by exact decide_eq_false (by omega)) (pkF rfl rfl (mvD rfl (OL.yes rfl (faP fd.Hidden_1 rfl rfl (OL.yes rfl (ldPC ce.int rfl rfl rfl (OL.yes rfl ?_)))))))
 refine c_gtr rfl rfl (c := false) (by exact decide_eq_false (by omega)) (pkF rfl rfl (OL.nil (AW.cond rfl (fun hno => absurd hno (by decide)) (fun _ => ?_))))
 refine AW.skip (AW.seq (AW.sg hE rfl (ldPA ag.Hidden rfl rfl (vs := [_,_,_,_,_,_,_,_,_,_,_]) rfl (nb9 rfl) (clv rfl (.cons (VLe.refl _) (.nil)) (ref33_formed g) (nt rfl (OL.nil (AW.cond rfl (fun hno => absurd hno (by decide)) (fun _ => ?_))))))))
 refine AW.skip (AW.seq (AW.sg hE rfl (faP fd.Hidden_2 rfl rfl (ldPA ag.Rat rfl rfl (vs := [_,_,_]) rfl (nb9 rfl) (faP fd.Hidden_3 rfl rfl (ldPC ce.Rats rfl rfl rfl (clv rfl (.cons (VLe.refl _) (.cons (VLe.refl _) (.nil))) (ref33_one (x := h.empty) (l := h.ini) (by omega) zI (by omega) (by omega) (by rw [← sumQ_app_one]; exact g.sI)) ?_)))))))
 refine nt rfl (OL.nil (AW.cond rfl (fun hno => absurd hno (by decide)) (fun _ => ?_)))
 refine AW.skip (AW.seq (AW.sg hE rfl (asD rfl (OL.nil (AW.block (AW.whileK (α := Nat) [(1, _)] [(1, _)] (fun i => [(3, .d (dI i))]) (fun i => []) (fun i => i ≤ h.st) (fun i => h.st - i) 0 (.cons (knP rfl) .nil) (.cons (owB rfl) .nil) ⟨Nat.zero_le _, .rq1, .nil⟩ ?_))))))
 intro i h1
 refine AW.seq (AW.sg hE rfl (mvD rfl (faP fd.Hidden_1 rfl rfl (ldPC ce.int rfl rfl rfl (c_lss rfl rfl rfl (OL.nil (AW.cond rfl (fun h37 => ?_) (fun h37 => ?_))))))))
 ·try simp only [dx9] at h37
  refine AW.skip (AW.seq (AW.block (AW.seq ?_)))
  have t1 := f.trow i (by omega)
  have t2 := f.erow i (by omega)
  have t3 := f.tie i (by omega)
  have pT := g.pT i
  have pM := g.pM i
  have zT := f.zT i
  have zM := f.zM i
  have zS := f.zS.get f.b1 i
  refine AW.dg 1 [0,1,2,3,4,5,6,7,8,9,10,11] order_free hE rfl (by kernel_rfl) (OI.of_OL (os := [_,_,_,_,_,_,_,_,_,_,_,_]) rfl ?_)
  refine faP fd.Hidden_5 rfl rfl (ldPC ce.Rats rfl rfl rfl (mvD rfl (ixLn sl.Rats 0 rfl rfl (by omega) rfl rfl (ldRA ag.Rat rfl (vs := [_,_,_]) rfl (nb9 rfl) (faP fd.Hidden_4 rfl rfl (ldPC ce.Ratss rfl rfl rfl (mvD rfl ?_)))))))
  refine ixLn sl.Ratss [] rfl rfl (by omega) rfl rfl (ldRC ce.Rats rfl (clv rfl (.cons (VLe.refl _) (.cons (VLe.refl _) (.nil))) (ref33_one (x := h.stop.getD i 0) (l := h.trans.getD i []) (by omega) zT (by omega) (by omega) (by rw [← sumQ_app_one]; exact g.sT i (by omega))) (nt rfl (OL.nil (AW.cond rfl (fun hno => absurd hno (by decide)) (fun _ => ?_))))))
  exact AW.skip (AW.rg hE rfl (mvD rfl (add_i64 rfl rfl (by omega) (asD rfl (OL.nil (AW.again (x := i) (i + 1) (by omega) ⟨by omega, Knows.app .rq1 .rq1, Owns.app (.cons rfl .nil) (.nil)⟩))))))
 ·try simp only [dx9] at h37
  refine AW.exit (AW.seq (AW.sg hE rfl (asD rfl (OL.nil (AW.block (AW.whileK (α := Nat) [(1, _)] [(1, _)] (fun i => [(4, .d (dI i))]) (fun i => []) (fun i => i ≤ h.st) (fun i => h.st - i) 0 (.cons (knP rfl) .nil) (.cons (owB rfl) .nil) ⟨Nat.zero_le _, .rq1, .nil⟩ ?_))))))
  intro i h1
  refine AW.seq (AW.sg hE rfl (mvD rfl (faP fd.Hidden_1 rfl rfl (ldPC ce.int rfl rfl rfl (c_lss rfl rfl rfl (OL.nil (AW.cond rfl (fun h55 => ?_) (fun h55 => ?_))))))))
  ·try simp only [dx9] at h55
   refine AW.skip (AW.seq (AW.block (AW.seq ?_)))
   have t1 := f.trow i (by omega)
   have t2 := f.erow i (by omega)
   have t3 := f.tie i (by omega)
   have pT := g.pT i
   have pM := g.pM i
   have zT := f.zT i
   have zM := f.zM i
   have zS := f.zS.get f.b1 i
   refine AW.rg hE rfl (faP fd.Hidden_7 rfl rfl (ldPC ce.bools rfl rfl rfl (mvD rfl (ixLn sl.bools false rfl rfl (by omega) rfl rfl (ldRC ce.bool rfl ?_)))))
   rw [f.sil i]
   refine nt rfl (mvD rfl (OL.yes rfl (bd z.Rat pl.Rat (cs := [_,_,_]) rfl (OL.yes rfl (faP fd.Hidden_6 rfl rfl (OL.yes rfl (ldPC ce.Ratss rfl rfl rfl ?_)))))))
   refine OL.yes rfl (mvD rfl (OL.yes rfl (ixLn sl.Ratss [] rfl rfl (by omega) rfl rfl (OL.yes rfl (ldRC ce.Rats rfl (OL.yes rfl (clv rfl (.cons vle_q0 .rq1) (ref33_one (x := 0) (l := h.emit.getD i []) (by rw [sz_zero]; decide) zM (by omega) (by omega) (by rw [Rat.zero_add]; exact g.sM i (by omega))) ?_)))))))
   refine OL.yes rfl (nt rfl (pkT rfl rfl (OL.nil (AW.cond rfl (fun hno => absurd hno (by decide)) (fun _ => ?_)))))
   exact AW.skip (AW.rg hE rfl (mvD rfl (add_i64 rfl rfl (by omega) (asD rfl (OL.nil (AW.again (x := i) (i + 1) (by omega) ⟨by omega, Knows.app .rq1 .rq1, Owns.app (.cons rfl .nil) (.nil)⟩))))))
  ·try simp only [dx9] at h55
   refine AW.exit (AW.seq (AW.sg hE rfl (ldPA ag.Hidden rfl rfl (vs := [_,_,_,_,_,_,_,_,_,_,_]) rfl (nb9 rfl) (clv rfl (.cons (VLe.refl _) (.nil)) (ref33_circles g) (OL.nil (AW.cond rfl (fun hno => absurd hno (by decide)) (fun _ => ?_)))))))
   refine AW.skip (AW.seq (AW.sg hE rfl (asD rfl (OL.nil (AW.block (AW.whileK (α := Nat) [(1, _)] [(1, _)] (fun i => [(5, .d (dI i))]) (fun i => []) (fun i => i ≤ h.st) (fun i => h.st - i) 0 (.cons (knP rfl) .nil) (.cons (owB rfl) .nil) ⟨Nat.zero_le _, .rq1, .nil⟩ ?_))))))
   intro i h1
   refine AW.seq (AW.sg hE rfl (mvD rfl (faP fd.Hidden_1 rfl rfl (ldPC ce.int rfl rfl rfl (c_lss rfl rfl rfl (OL.nil (AW.cond rfl (fun h79 => ?_) (fun h79 => ?_))))))))
   ·try simp only [dx9] at h79
    refine AW.skip (AW.seq (AW.block (AW.sg hE rfl (asD rfl (OL.nil (AW.block (AW.whileK (α := Nat) [(1, _), (5, _)] [(1, _)] (fun j => [(6, .d (dI j))]) (fun j => []) (fun j => j ≤ i) (fun j => i - j) 0 (.cons (knP rfl) (.cons (knD rfl) .nil)) (.cons (owB rfl) .nil) ⟨Nat.zero_le _, .rq1, .nil⟩ ?_)))))))
    intro j h2
    refine AW.seq (AW.sg hE rfl (mvD rfl (mvD rfl (c_lss rfl rfl rfl (OL.nil (AW.cond rfl (fun h84 => ?_) (fun h84 => ?_)))))))
    ·try simp only [dx9] at h84
     refine AW.skip (AW.seq (AW.block (AW.seq ?_)))
     have t1 := f.trow i (by omega)
     have t2 := f.erow i (by omega)
     have t2j := f.erow j (by omega)
     have zM := f.zM i
     have zMj := f.zM j
     refine AW.dg 1 [0,1,2,3,4,5,6,7,8,9,10,11,12,13,14,15,16,17,18,19,20,21,22,23,24,25,26,27,28,29,30,31,32,33,34,35,36,37,38,39,40] order_free hE rfl (by kernel_rfl) (OI.of_OL (os := [_,_,_,_,_,_,_,_,_,_,_,_,_,_,_,_,_,_,_,_,_,_,_,_,_,_,_,_,_,_,_,_,_,_,_,_,_,_,_,_,_]) rfl ?_)
     refine faP fd.Hidden_7 rfl rfl (ldPC ce.bools rfl rfl rfl (mvD rfl (ixLn sl.bools false rfl rfl (by omega) rfl rfl (ldRC ce.bool rfl ?_))))
     rw [f.sil i]
     refine nt rfl (mvD rfl (OL.yes rfl (faP fd.Hidden_7 rfl rfl (OL.yes rfl (ldPC ce.bools rfl rfl rfl (OL.yes rfl (mvD rfl ?_)))))))
     refine OL.yes rfl (ixLn sl.bools false rfl rfl (by omega) rfl rfl (OL.yes rfl (ldRC ce.bool rfl ?_)))
     rw [f.sil j]
     refine OL.yes rfl (nt rfl (pkT rfl rfl (mvD rfl (OL.yes rfl (faP fd.Hidden_8 rfl rfl (OL.yes rfl (ldPC ce.ints rfl rfl rfl ?_)))))))
     refine OL.yes rfl (mvD rfl (OL.yes rfl (ixLn sl.ints 0 rfl rfl (by omega) rfl rfl (OL.yes rfl (ldRC ce.int rfl (OL.yes rfl (faP fd.Hidden_8 rfl rfl ?_)))))))
     refine OL.yes rfl (ldPC ce.ints rfl rfl rfl (OL.yes rfl (mvD rfl (OL.yes rfl (ixLn sl.ints 0 rfl rfl (by omega) rfl rfl (OL.yes rfl (ldRC ce.int rfl ?_)))))))
     refine OL.yes rfl (c_eql rfl rfl rfl (pkT rfl rfl (mvD rfl (OL.split 114 rfl (fun g41 => ?_) (fun g41 => ?_)))))
     ·have g41 : h.ties.getD i 0 = h.ties.getD j 0 := of_decide_eq_true g41
      refine OL.yes rfl (faP fd.Hidden_6 rfl rfl (OL.yes rfl (ldPC ce.Ratss rfl rfl rfl (OL.yes rfl (mvD rfl (OL.yes rfl (ixLn sl.Ratss [] rfl rfl (by omega) rfl rfl ?_)))))))
      refine OL.yes rfl (ldRC ce.Rats rfl (OL.yes rfl (faP fd.Hidden_6 rfl rfl (OL.yes rfl (ldPC ce.Ratss rfl rfl rfl (OL.yes rfl (mvD rfl ?_)))))))
      refine OL.yes rfl (ixLn sl.Ratss [] rfl rfl (by omega) rfl rfl (OL.yes rfl (ldRC ce.Rats rfl (OL.yes rfl (clv rfl (.cons (VLe.refl _) (.cons (VLe.refl _) (.nil))) (ref33_SameRats zM zMj ⟨hb1, by omega, by omega⟩) ?_)))))
      rw [decide_eq_true (g.tied i j (by omega) (by omega) g41)]
      refine OL.yes rfl (nt rfl (pkT rfl rfl (OL.nil (AW.cond rfl (fun hno => absurd hno (by decide)) (fun _ => ?_)))))
      exact AW.skip (AW.rg hE rfl (mvD rfl (add_i64 rfl rfl (by omega) (asD rfl (OL.nil (AW.again (x := j) (j + 1) (by omega) ⟨by omega, Knows.app .rq2 .rq1, Owns.app (.cons rfl .nil) (.nil)⟩))))))
     ·have _g41 := g41
      refine OL.nd rfl (OL.nd rfl (OL.nd rfl (OL.nd rfl (OL.nd rfl (OL.nd rfl (OL.nd rfl (OL.nd rfl ?_)))))))
      refine OL.nd rfl (OL.nd rfl (OL.nd rfl (OL.nd rfl (pkF rfl rfl (OL.nil (AW.cond rfl (fun hno => absurd hno (by decide)) (fun _ => ?_)))))))
      exact AW.skip (AW.rg hE rfl (mvD rfl (add_i64 rfl rfl (by omega) (asD rfl (OL.nil (AW.again (x := j) (j + 1) (by omega) ⟨by omega, Knows.app .rq2 .rq1, Owns.app (.cons rfl .nil) (.nil)⟩))))))
    ·try simp only [dx9] at h84
     exact AW.exit (AW.rg hE rfl (mvD rfl (add_i64 rfl rfl (by omega) (asD rfl (OL.nil (AW.again (x := i) (i + 1) (by omega) ⟨by omega, Knows.app .rq1 .rq1, Owns.app (.cons rfl .nil) (.nil)⟩))))))
   ·try simp only [dx9] at h79
    exact AW.exit (AW.sg hE rfl (asD rfl (OL.nil (AW.ret (RetQ.r ⟨_, .tmp rfl .nil, .le (VLe.refl _)⟩)))))
end Go.Proofs.YtippcclgnabpdaaGreatDoor

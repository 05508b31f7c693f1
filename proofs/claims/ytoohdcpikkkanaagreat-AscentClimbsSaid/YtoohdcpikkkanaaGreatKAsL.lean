/-
  Walks for chapter 39, part 12: the specification's checks, numbers and likelihoods (printed by mk2.py).
-/
import Derived.Test.YtoohdcpikkkanaaGreatKAsJ
import Derived.Test.YtoohdcpikkkanaaGreatKMod39n
import Derived.Test.YtoohdcpikkkanaaGreatKMod39p
set_option linter.unusedVariables false
set_option linter.unusedSimpArgs false
namespace Go.Proofs.YtoohdcpikkkanaaGreat
open Go Go.AL
theorem ref_ValidQ {x : Rat} (hx : sz x ≤ 274877906944) : FSpec P F.ref01_Valid [vQ x] (.d (dB true)) := by
 have h := ref_Valid (r := ofQ x) (ofQ_ok hx)
 rw [ofQ_good] at h; exact h
theorem sumQ_app_one (l : List Rat) (x : Rat) : sumQ (l ++ [x]) = x + sumQ l := by
 unfold sumQ
 rw [List.foldl_append]
 exact Rat.add_comm ..
theorem ref33_WholeN {n : Nat} (hn : n ≤ 9223372036854775807) : FSpec P F.ref33_Whole [.d (dI n)] (vQ (n : Rat)) := by
 have h := ref33_Whole (n := (n : Int)) ⟨by omega, by omega⟩
 rw [Rat.intCast_natCast] at h; exact h
theorem ofQ_natC (n : Nat) : ofQ (n : Rat) = ⟨false, lim n, []⟩ := by
 unfold ofQ
 rw [show ((n : Rat).num) = (n : Int) from rfl, show ((n : Rat).den) = 1 from rfl, decide_eq_false (by omega), if_pos rfl]; rfl
theorem ref33_SumS {l : List Rat} {B : Nat} (hl : Small B l) (hB : B ≤ 1048576) (hn : l.length ≤ 1024) : FSpec P F.ref33_Sum [.d (dQs l)] (vQ (sumQ l)) := by
 refine FSpec.intro fn.ref33_Sum (by rfl) (by rfl) (nb9 (by rfl)) fun E hE => (AW.sg hE rfl (al z.Rat rfl fun b2 => (OL.nil (AW.sg hE rfl (bd z.Rat pl.Rat (cs := [_,_,_]) rfl (al z.Rat rfl fun b3 => (sto sz.Rat rfl rfl rfl rfl rfl (nb9 rfl) (cells2 := [_,_,_]) rfl ?_)))))))
 refine OL.nil (AW.seq (AW.sg hE rfl (asD rfl (OL.nil (AW.block (AW.boxW 3 (cellsQ 0) rfl vles_q ?_))))))
 refine AW.whileK (α := Nat) [(0, _), (2, _), (3, _)] [(2, _)] (fun i => [(4, .d (dI i))]) (fun i => [(3, .box b3 T.Rat (cellsQ (sumQ (l.take i))))]) (fun i => i ≤ l.length) (fun i => l.length - i) 0 (.cons (knD rfl) (.cons (knP rfl) (.cons (knP rfl) .nil))) (.cons (owB rfl) .nil) ⟨Nat.zero_le _, .cons (VLe.refl _) .nil, .cons rfl .nil⟩ ?_
 intro i h1
 refine AW.seq (AW.sg hE rfl (mvD rfl (mvD rfl (lnL sl.Rats rfl rfl (c_lss rfl rfl rfl (OL.nil (AW.cond rfl (fun h9 => ?_) (fun h9 => ?_))))))))
 ·try simp only [dx9] at h9
  refine AW.skip (AW.seq (AW.block ?_))
  have hs := sumQ_szB (hl.take i) (by rw [List.length_take]; omega) hB
  have hx := (hl.mono (Nat.le_max_left B 1)).get (Nat.le_max_right B 1) i
  refine AW.dg 1 [0,1,2,3,4,5,6] order_free hE rfl (by kernel_rfl) (OI.of_OL (os := [_,_,_,_,_,_,_]) rfl ?_)
  refine ldPA ag.Rat rfl rfl (vs := [_,_,_]) rfl (nb9 rfl) (mvD rfl (mvD rfl (ixLn sl.Rats 0 rfl rfl (by omega) rfl rfl (ldRA ag.Rat rfl (vs := [_,_,_]) rfl (nb9 rfl) (clv rfl (.cons (VLe.refl _) (.cons (VLe.refl _) (.nil))) (ref_AddQ (x := sumQ (l.take i)) (y := l.getD i 0) (by omega) (by omega)) (sto sz.Rat rfl rfl rfl rfl rfl (nb9 rfl) (cells2 := [_,_,_]) rfl (OL.nil ?_)))))))
  exact AW.rg hE rfl (mvD rfl (add_i64 rfl rfl (by omega) (asD rfl (OL.nil (AW.again (x := i) (i + 1) (by omega) ⟨by omega, Knows.app (.cons (VLe.refl _) (.cons (VLe.refl _) (.cons (VLe.refl _) .nil))) (.cons (VLe.refl _) .nil), Owns.app (.cons rfl .nil) (.cons (by rw [sumQ_take_succ (by omega)]; rfl) .nil)⟩)))))
 ·try simp only [dx9] at h9
  refine AW.exit (AW.seq ?_)
  obtain rfl : i = l.length := by omega
  rw [List.take_length]
  exact AW.rg hE rfl (ldPA ag.Rat rfl rfl (vs := [_,_,_]) rfl (nb9 rfl) (sto sz.Rat rfl rfl rfl rfl rfl (nb9 rfl) (cells2 := [_,_,_]) rfl (OL.nil (AW.ret (RetQ.r ⟨_, .cellA rfl rfl ag.Rat (nb9 rfl) .nil, .ag (.cons (.le (VLe.refl _)) (.cons (.le (VLe.refl _)) (.cons (.le (VLe.refl _)) .nil)))⟩)))))
theorem ref33_Chance {q : Rat} (hs : Share q) (hz : sz q ≤ 1048576) : FSpec P F.ref33_Chance [vQ q] (.d (dB true)) := by
 have h1K := z1K
 refine FSpec.intro fn.ref33_Chance (by rfl) (by rfl) (nb9 (by rfl)) fun E hE => (AW.sg hE rfl (bxA rfl rfl fun b1 => (asD rfl (OL.nil (AW.seq (AW.dg 1 [0,1,2,3,4,5,6,7,8,9,10,11,12,13] order_free hE rfl (by kernel_rfl) (OI.of_OL (os := [_,_,_,_,_,_,_,_,_,_,_,_,_,_]) rfl ?_)))))))
 refine ldPA ag.Rat rfl rfl (vs := [_,_,_]) rfl (nb9 rfl) (clv rfl (.cons (VLe.refl _) (.nil)) (ref_ValidQ (x := q) (by omega)) (mvD rfl (OL.yes rfl (ldPA ag.Rat rfl rfl (vs := [_,_,_]) rfl (nb9 rfl) (OL.yes rfl (clv rfl (.cons (VLe.refl _) (.nil)) (ref_SignQ (x := q) (by omega)) (OL.yes rfl ?_)))))))
 refine c_geq rfl rfl (c := true) (decide_eq_true (sgnQ_nonneg.2 hs.1)) (pkT rfl rfl (mvD rfl (OL.yes rfl (ldPA ag.Rat rfl rfl (vs := [_,_,_]) rfl (nb9 rfl) (OL.yes rfl (clv rfl (.cons (VLe.refl _) (.nil)) (ref33_Whole1) (OL.yes rfl ?_)))))))
 exact clv rfl (.cons (VLe.refl _) (.cons (VLe.refl _) (.nil))) (ref_CompareQ (x := q) (y := 1) (by omega) (by omega)) (OL.yes rfl (c_leq rfl rfl (c := true) (decide_eq_true (cmpQ_le.2 hs.2)) (pkT rfl rfl (asD rfl (OL.nil (AW.ret (RetQ.r ⟨_, .tmp rfl .nil, .le (VLe.refl _)⟩)))))))
theorem ref33_chances {l : List Rat} {B : Nat} (hs : Shares l) (hz : Small B l) (hB : B ≤ 1048576 ∧ l.length ≤ 1099511627776) : FSpec P F.ref33_chances [.d (dQs l)] (.d (dB true)) := by
 refine FSpec.intro fn.ref33_chances (by rfl) (by rfl) (nb9 (by rfl)) fun E hE => (AW.sg hE rfl (asD rfl (OL.nil (AW.seq (AW.sg hE rfl (asD rfl (OL.nil ?_)))))))
 refine AW.block (AW.whileK (α := Nat) [(0, _)] [] (fun i => [(3, .d (dI i))]) (fun i => []) (fun i => i ≤ l.length) (fun i => l.length - i) 0 (.cons (knD rfl) .nil) .nil ⟨Nat.zero_le _, .cons (VLe.refl _) .nil, .nil⟩ ?_)
 intro i h1
 refine AW.seq (AW.sg hE rfl (mvD rfl (mvD rfl (lnL sl.Rats rfl rfl (c_lss rfl rfl rfl (OL.nil (AW.cond rfl (fun h7 => ?_) (fun h7 => ?_))))))))
 ·try simp only [dx9] at h7
  refine AW.skip (AW.seq (AW.block (AW.seq ?_)))
  have hm := getD_mem (l := l) (i := i) (by omega) 0
  have hzi := hz _ hm
  refine AW.rg hE rfl (mvD rfl (mvD rfl (ixLn sl.Rats 0 rfl rfl (by omega) rfl rfl (ldRA ag.Rat rfl (vs := [_,_,_]) rfl (nb9 rfl) (clv rfl (.cons (VLe.refl _) (.nil)) (ref33_Chance (hs _ hm) (by omega)) (nt rfl (OL.nil ?_)))))))
  refine AW.cond rfl (fun hno => absurd hno (by decide)) (fun _ => ?_)
  exact AW.skip (AW.rg hE rfl (mvD rfl (add_i64 rfl rfl (by omega) (asD rfl (OL.nil (AW.again (x := i) (i + 1) (by omega) ⟨by omega, Knows.app (.cons (VLe.refl _) .nil) (.cons (VLe.refl _) .nil), .nil⟩))))))
 ·try simp only [dx9] at h7
  exact AW.exit (AW.sg hE rfl (asD rfl (OL.nil (AW.ret (RetQ.r ⟨_, .tmp rfl .nil, .le (VLe.refl _)⟩)))))
theorem ref33_one {x : Rat} {l : List Rat} {B : Nat} (hx : sz x ≤ 1048576) (hl : Small B l) (hB : B ≤ 1048576) (hn : l.length ≤ 1024) (h1 : x + sumQ l = 1) : FSpec P F.ref33_one [vQ x, .d (dQs l)] (.d (dB true)) := by
 have h1K := z1K
 have hs := sumQ_szB hl hn hB
 refine FSpec.intro fn.ref33_one (by rfl) (by rfl) (nb9 (by rfl)) fun E hE => (AW.sg hE rfl (bxA rfl rfl fun b2 => (asD rfl (OL.nil (AW.seq (AW.dg 1 [0,1,2,3,4,5,6,7] order_free hE rfl (by kernel_rfl) (OI.of_OL (os := [_,_,_,_,_,_,_,_]) rfl ?_)))))))
 refine ldPA ag.Rat rfl rfl (vs := [_,_,_]) rfl (nb9 rfl) (mvD rfl (clv rfl (.cons (VLe.refl _) (.nil)) (ref33_SumS hl hB hn) (clv rfl (.cons (VLe.refl _) (.cons (VLe.refl _) (.nil))) (ref_AddQ (x := x) (y := sumQ l) (by omega) (by omega)) ?_)))
 rw [h1]
 refine clv rfl (.cons (VLe.refl _) (.nil)) (ref33_Whole1) (clv rfl (.cons (VLe.refl _) (.cons (VLe.refl _) (.nil))) (ref_CompareQ (x := 1) (y := 1) (by omega) (by omega)) ?_)
 rw [show cmpQ (1) (1) = 0 from cmpQ_eq.2 rfl]
 exact c_eql rfl rfl (c := true) (by exact decide_eq_true (by omega)) (asD rfl (OL.nil (AW.ret (RetQ.r ⟨_, .tmp rfl .nil, .le (VLe.refl _)⟩))))
theorem ref33_SameRats {l m : List Rat} {B : Nat} (zl : Small B l) (zm : Small B m) (hB : 1 ≤ B ∧ B ≤ 1048576 ∧ l.length ≤ 1099511627776) : FSpec P F.ref33_SameRats [.d (dQs l), .d (dQs m)] (.d (dB (decide (l = m)))) := by
 refine FSpec.intro fn.ref33_SameRats (by rfl) (by rfl) (nb9 (by rfl)) fun E hE => (AW.sg hE rfl (asD rfl (OL.nil (AW.seq (AW.sg hE rfl (mvD rfl (lnL sl.Rats rfl rfl ?_)))))))
 refine mvD rfl (lnL sl.Rats rfl rfl (c_neq rfl rfl rfl (OL.nil (AW.cond rfl (fun h10 => ?_) (fun h10 => ?_)))))
 ·have hl : l.length ≠ m.length := by simp at h10; omega
  exact AW.sg hE rfl (asD rfl (OL.nil (AW.ret (RetQ.r ⟨_, .tmp rfl .nil, .le (VLe.bool ((decide_eq_false fun e => hl (by rw [e])).symm))⟩))))
 ·have hl : l.length = m.length := by simp at h10; omega
  refine AW.skip (AW.seq (AW.sg hE rfl (asD rfl (OL.nil (AW.block ?_)))))
  refine AW.whileK (α := Nat) [(0, _), (1, _)] [] (fun i => [(5, .d (dI i))]) (fun i => []) (fun i => i ≤ l.length ∧ ∀ j, j < i → l.getD j 0 = m.getD j 0) (fun i => l.length - i) 0 (.cons (knD rfl) (.cons (knD rfl) .nil)) .nil ⟨⟨Nat.zero_le _, fun j hj => by omega⟩, .cons (VLe.refl _) .nil, .nil⟩ ?_
  rintro i ⟨h1, h2⟩
  refine AW.seq (AW.sg hE rfl (mvD rfl (mvD rfl (lnL sl.Rats rfl rfl (c_lss rfl rfl rfl (OL.nil (AW.cond rfl (fun h14 => ?_) (fun h14 => ?_))))))))
  ·try simp only [dx9] at h14
   refine AW.skip (AW.seq (AW.block (AW.seq ?_)))
   have z1 := zl.get hB.1 i
   have z2 := zm.get hB.1 i
   refine AW.dg 1 [0,1,2,3,4,5,6,7,8,9] order_free hE rfl (by kernel_rfl) (OI.of_OL (os := [_,_,_,_,_,_,_,_,_,_]) rfl ?_)
   refine mvD rfl (mvD rfl (ixLn sl.Rats 0 rfl rfl (by omega) rfl rfl (ldRA ag.Rat rfl (vs := [_,_,_]) rfl (nb9 rfl) (mvD rfl (mvD rfl (ixLn sl.Rats 0 rfl rfl (by omega) rfl rfl (ldRA ag.Rat rfl (vs := [_,_,_]) rfl (nb9 rfl) ?_)))))))
   refine clv rfl (.cons (VLe.refl _) (.cons (VLe.refl _) .nil)) (ref_CompareQ (by omega) (by omega)) (c_neq rfl rfl rfl (OL.nil (AW.cond rfl (fun hc => ?_) (fun hc => ?_))))
   ·have hc : l.getD i 0 ≠ m.getD i 0 := fun e => by rw [cmpQ_eq.2 e] at hc; simp at hc
    exact AW.sg hE rfl (asD rfl (OL.nil (AW.ret (RetQ.r ⟨_, .tmp rfl .nil, .le (VLe.bool ((decide_eq_false fun e => hc (by rw [e])).symm))⟩))))
   ·have hc : l.getD i 0 = m.getD i 0 := cmpQ_eq.1 (by simpa using hc)
    exact AW.skip (AW.rg hE rfl (mvD rfl (add_i64 rfl rfl (by omega) (asD rfl (OL.nil (AW.again (x := i) (i + 1) (by omega) ⟨⟨by omega, fun j hj => by rcases Nat.lt_or_ge j i with h | h; exact h2 j h; obtain rfl : j = i := (by omega); exact hc⟩, Knows.app (.cons (VLe.refl _) (.cons (VLe.refl _) .nil)) (.cons (VLe.refl _) .nil), .nil⟩))))))
  ·try simp only [dx9] at h14
   exact AW.exit (AW.sg hE rfl (asD rfl (OL.nil (AW.ret (RetQ.r ⟨_, .tmp rfl .nil, .le (VLe.bool ((decide_eq_true (list_eq_getD hl 0 fun j hj => h2 j (by omega))).symm))⟩)))))
set_option maxRecDepth 6000 in
set_option maxHeartbeats 3200000 in
theorem ref33_formed {h : HM} {B : Nat} (g : h.Good B) : FSpec P F.ref33_formed [vHM h] (.d (dB true)) := by
 have f := g.form
 have e1 := f.ini
 have e2 := f.trans
 have e3 := f.stop
 have e4 := f.emit
 have e5 := f.ties
 have e6 := f.sill
 have s0 := f.sym0
 have s1 := f.sym1
 have n0 := f.st0
 have n1 := f.st1
 have hb1 := f.b1
 have bB := f.bB
 have zE := f.zE
 have zI := f.zI
 have zS0 := f.zS
 refine FSpec.intro fn.ref33_formed (by rfl) (by rfl) (nb9 (by rfl)) fun E hE => (AW.sg hE rfl (bxA rfl rfl fun b1 => (asD rfl (OL.nil (AW.sg hE rfl (faP fd.Hidden_1 rfl rfl (ldPC ce.int rfl rfl rfl ?_)))))))
 refine asD rfl (OL.nil (AW.seq (AW.sg hE rfl (faP fd.Hidden_3 rfl rfl (ldPC ce.Rats rfl rfl rfl (lnL sl.Rats rfl rfl (mvD rfl ?_)))))))
 refine c_neq rfl rfl (c := false) (by exact cne_f (by omega)) (mvD rfl (OL.yes rfl (faP fd.Hidden_5 rfl rfl (OL.yes rfl (ldPC ce.Rats rfl rfl rfl (OL.yes rfl (lnL sl.Rats rfl rfl ?_)))))))
 refine OL.yes rfl (mvD rfl (OL.yes rfl (c_neq rfl rfl (c := false) (by exact cne_f (by omega)) (pkF rfl rfl (mvD rfl (OL.yes rfl (faP fd.Hidden_7 rfl rfl ?_)))))))
 refine OL.yes rfl (ldPC ce.bools rfl rfl rfl (OL.yes rfl (lnL sl.bools rfl rfl (OL.yes rfl (mvD rfl (OL.yes rfl (c_neq rfl rfl (c := false) (by exact cne_f (by omega)) ?_)))))))
 refine pkF rfl rfl (mvD rfl (OL.yes rfl (faP fd.Hidden_8 rfl rfl (OL.yes rfl (ldPC ce.ints rfl rfl rfl (OL.yes rfl (lnL sl.ints rfl rfl ?_)))))))
 refine OL.yes rfl (mvD rfl (OL.yes rfl (c_neq rfl rfl (c := false) (by exact cne_f (by omega)) (pkF rfl rfl (mvD rfl (OL.yes rfl (faP fd.Hidden_4 rfl rfl ?_)))))))
 refine OL.yes rfl (ldPC ce.Ratss rfl rfl rfl (OL.yes rfl (lnL sl.Ratss rfl rfl (OL.yes rfl (mvD rfl (OL.yes rfl (c_neq rfl rfl (c := false) (by exact cne_f (by omega)) ?_)))))))
 refine pkF rfl rfl (mvD rfl (OL.yes rfl (faP fd.Hidden_6 rfl rfl (OL.yes rfl (ldPC ce.Ratss rfl rfl rfl (OL.yes rfl (lnL sl.Ratss rfl rfl ?_)))))))
 refine OL.yes rfl (mvD rfl (OL.yes rfl (c_neq rfl rfl (c := false) (by exact cne_f (by omega)) (pkF rfl rfl (OL.nil (AW.cond rfl (fun hno => absurd hno (by decide)) (fun _ => ?_)))))))
 refine AW.skip (AW.seq (AW.sg hE rfl (asD rfl (OL.nil (AW.block (AW.whileK (α := Nat) [(1, _), (3, _)] [(1, _)] (fun i => [(4, .d (dI i))]) (fun i => []) (fun i => i ≤ h.st) (fun i => h.st - i) 0 (.cons (knP rfl) (.cons (knD rfl) .nil)) (.cons (owB rfl) .nil) ⟨Nat.zero_le _, .cons (VLe.refl _) .nil, .nil⟩ ?_))))))
 intro i h1
 refine AW.seq (AW.sg hE rfl (mvD rfl (mvD rfl (c_lss rfl rfl rfl (OL.nil (AW.cond rfl (fun h49 => ?_) (fun h49 => ?_)))))))
 ·try simp only [dx9] at h49
  refine AW.skip (AW.seq (AW.block (AW.seq ?_)))
  have t1 := f.trow i (by omega)
  have t2 := f.erow i (by omega)
  have t3 := f.tie i (by omega)
  have pT := g.pT i
  have pM := g.pM i
  have zT := f.zT i
  have zM := f.zM i
  have zS := f.zS.get f.b1 i
  refine AW.dg 1 [0,1,2,3,4,5,6,7,8,9,10,11,12,13,14,15,16,17,18,19,20,21,22,23,24,25,26,27,28,29,30,31,32,33,34,35,36,37,38,39,40,41,42,43,44,45,46,47,48,49,50,51,52,53,54,55,56,57,58,59,60,61,62,63,64,65,66,67,68,69,70,71,72,73,74,75,76,77] order_free hE rfl (by kernel_rfl) (OI.of_OL (os := [_,_,_,_,_,_,_,_,_,_,_,_,_,_,_,_,_,_,_,_,_,_,_,_,_,_,_,_,_,_,_,_,_,_,_,_,_,_,_,_,_,_,_,_,_,_,_,_,_,_,_,_,_,_,_,_,_,_,_,_,_,_,_,_,_,_,_,_,_,_,_,_,_,_,_,_,_,_]) rfl ?_)
  refine faP fd.Hidden_4 rfl rfl (ldPC ce.Ratss rfl rfl rfl (mvD rfl (ixLn sl.Ratss [] rfl rfl (by omega) rfl rfl (ldRC ce.Rats rfl (lnL sl.Rats rfl rfl (mvD rfl (c_neq rfl rfl (c := false) (by exact cne_f (by omega)) ?_)))))))
  refine mvD rfl (OL.yes rfl (faP fd.Hidden_7 rfl rfl (OL.yes rfl (ldPC ce.bools rfl rfl rfl (OL.yes rfl (mvD rfl (OL.yes rfl ?_)))))))
  refine ixLn sl.bools false rfl rfl (by omega) rfl rfl (OL.yes rfl (ldRC ce.bool rfl ?_))
  rw [f.sil i]
  refine OL.yes rfl (mvD rfl (OL.no rfl (by decide) (OL.no rfl (by decide) (OL.no rfl (by decide) (OL.no rfl (by decide) (OL.no rfl (by decide) (OL.no rfl (by decide) ?_)))))))
  refine OL.no rfl (by decide) (OL.yes rfl (pkF rfl rfl (pkF rfl rfl (mvD rfl (OL.yes rfl (faP fd.Hidden_7 rfl rfl (OL.yes rfl ?_)))))))
  refine ldPC ce.bools rfl rfl rfl (OL.yes rfl (mvD rfl (OL.yes rfl (ixLn sl.bools false rfl rfl (by omega) rfl rfl (OL.yes rfl (ldRC ce.bool rfl ?_))))))
  rw [f.sil i]
  refine OL.yes rfl (nt rfl (OL.yes rfl (mvD rfl (OL.yes rfl (faP fd.Hidden_6 rfl rfl (OL.yes rfl (ldPC ce.Ratss rfl rfl rfl ?_)))))))
  refine OL.yes rfl (mvD rfl (OL.yes rfl (ixLn sl.Ratss [] rfl rfl (by omega) rfl rfl (OL.yes rfl (ldRC ce.Rats rfl (OL.yes rfl (lnL sl.Rats rfl rfl ?_)))))))
  refine OL.yes rfl (faP fd.Hidden_0 rfl rfl (OL.yes rfl (ldPC ce.int rfl rfl rfl (OL.yes rfl (c_neq rfl rfl (c := false) (by exact cne_f (by omega)) (OL.yes rfl (pkT rfl rfl ?_)))))))
  refine pkF rfl rfl (mvD rfl (OL.yes rfl (faP fd.Hidden_4 rfl rfl (OL.yes rfl (ldPC ce.Ratss rfl rfl rfl (OL.yes rfl (mvD rfl ?_)))))))
  refine OL.yes rfl (ixLn sl.Ratss [] rfl rfl (by omega) rfl rfl (OL.yes rfl (ldRC ce.Rats rfl (OL.yes rfl (clv rfl (.cons (VLe.refl _) (.nil)) (ref33_chances (pT) (zT) (by omega)) (OL.yes rfl (nt rfl ?_)))))))
  refine pkF rfl rfl (mvD rfl (OL.yes rfl (faP fd.Hidden_6 rfl rfl (OL.yes rfl (ldPC ce.Ratss rfl rfl rfl (OL.yes rfl (mvD rfl ?_)))))))
  refine OL.yes rfl (ixLn sl.Ratss [] rfl rfl (by omega) rfl rfl (OL.yes rfl (ldRC ce.Rats rfl (OL.yes rfl (clv rfl (.cons (VLe.refl _) (.nil)) (ref33_chances (pM) (zM) (by omega)) (OL.yes rfl (nt rfl ?_)))))))
  refine pkF rfl rfl (mvD rfl (OL.yes rfl (faP fd.Hidden_8 rfl rfl (OL.yes rfl (ldPC ce.ints rfl rfl rfl (OL.yes rfl (mvD rfl ?_)))))))
  refine OL.yes rfl (ixLn sl.ints 0 rfl rfl (by omega) rfl rfl (OL.yes rfl (ldRC ce.int rfl (OL.yes rfl (c_lss rfl rfl (c := false) (by exact decide_eq_false (by omega)) (pkF rfl rfl (mvD rfl ?_)))))))
  refine OL.yes rfl (faP fd.Hidden_8 rfl rfl (OL.yes rfl (ldPC ce.ints rfl rfl rfl (OL.yes rfl (mvD rfl (OL.yes rfl (ixLn sl.ints 0 rfl rfl (by omega) rfl rfl ?_)))))))
  refine OL.yes rfl (ldRC ce.int rfl (OL.yes rfl (mvD rfl (OL.yes rfl (c_geq rfl rfl (c := false) (by exact decide_eq_false (by omega)) (pkF rfl rfl (OL.nil ?_)))))))
  refine AW.cond rfl (fun hno => absurd hno (by decide)) (fun _ => ?_)
  exact AW.skip (AW.rg hE rfl (mvD rfl (add_i64 rfl rfl (by omega) (asD rfl (OL.nil (AW.again (x := i) (i + 1) (by omega) ⟨by omega, Knows.app (.cons (VLe.refl _) (.cons (VLe.refl _) .nil)) (.cons (VLe.refl _) .nil), Owns.app (.cons rfl .nil) (.nil)⟩))))))
 ·try simp only [dx9] at h49
  refine AW.exit (AW.sg hE rfl (faP fd.Hidden_3 rfl rfl (ldPC ce.Rats rfl rfl rfl (clv rfl (.cons (VLe.refl _) (.nil)) (ref33_chances (g.pI) (zI) (by omega)) (mvD rfl (OL.yes rfl (faP fd.Hidden_5 rfl rfl ?_)))))))
  refine OL.yes rfl (ldPC ce.Rats rfl rfl rfl (OL.yes rfl (clv rfl (.cons (VLe.refl _) (.nil)) (ref33_chances (g.pS) (zS0) (by omega)) (pkT rfl rfl (mvD rfl (OL.yes rfl (faP fd.Hidden_2 rfl rfl ?_)))))))
  exact OL.yes rfl (ldPA ag.Rat rfl rfl (vs := [_,_,_]) rfl (nb9 rfl) (OL.yes rfl (clv rfl (.cons (VLe.refl _) (.nil)) (ref33_Chance g.pE (by omega)) (pkT rfl rfl (asD rfl (OL.nil (AW.ret (RetQ.r ⟨_, .tmp rfl .nil, .le (VLe.refl _)⟩))))))))
theorem vcs_b0 : VCs [.d (dB false)] (dB false).cells := .cons (VC.d _) .nil
theorem set_true {l : List Bool} {n i j : Nat} (hl : l.length = n) (h : ∀ j, j < i → l.getD j false = true) (hi : i < n) (hj : j < i + 1) : (l.set i true).getD j false = true := by
 rw [List.getD_eq_getElem?_getD, List.getElem?_set]
 by_cases e : i = j
 ·subst e; rw [if_pos rfl, if_pos (by omega)]; rfl
 ·rw [if_neg e, ← List.getD_eq_getElem?_getD]; exact h j (by omega)
set_option maxRecDepth 6000 in
set_option maxHeartbeats 1600000 in
theorem ref33_circles {h : HM} {B : Nat} (g : h.Good B) : FSpec P F.ref33_circles [vHM h] (.d (dB false)) := by
 have f := g.form
 have e1 := f.ini
 have e2 := f.trans
 have e3 := f.stop
 have e4 := f.emit
 have e5 := f.ties
 have e6 := f.sill
 have s0 := f.sym0
 have s1 := f.sym1
 have n0 := f.st0
 have n1 := f.st1
 have hb1 := f.b1
 have bB := f.bB
 refine FSpec.intro fn.ref33_circles (by rfl) (by rfl) (nb9 (by rfl)) fun E hE => (AW.sg hE rfl (bxA rfl rfl fun b1 => (asD rfl (OL.nil (AW.sg hE rfl (faP fd.Hidden_1 rfl rfl (ldPC ce.int rfl rfl rfl ?_)))))))
 refine mkL dB false sl.bools z.bool vcs_b0 rfl rfl (Nat.le_refl _) (by omega) (by omega) rfl fun b11 => (asO rfl (OL.nil (AW.seq (AW.sg hE rfl (asD rfl (OL.nil (AW.block ?_)))))))
 refine AW.whileK (α := Nat × List Bool) [(1, _), (2, _), (3, _)] [(1, _)] (fun (k, l) => [(4, .d (dI k))]) (fun (k, l) => [(11, .row b11 h.st T.bool 1 (l.map dB))]) (fun (k, l) => k ≤ h.st ∧ l.length = h.st ∧ (0 < k → ∀ i, i < h.st → l.getD i false = true)) (fun (k, l) => h.st - k) (0, List.replicate h.st false) (.cons (knP rfl) (.cons (knD rfl) (.cons (knO rfl) .nil))) (.cons (owB rfl) .nil) ⟨⟨Nat.zero_le _, List.length_replicate, fun e => absurd e (Nat.lt_irrefl 0)⟩, .cons (VLe.refl _) .nil, .cons rfl .nil⟩ ?_
 rintro ⟨k, l⟩ ⟨h1, hl, hk⟩
 have h1 : k ≤ h.st := h1
 have hl : l.length = h.st := hl
 refine AW.seq (AW.sg hE rfl (mvD rfl (faP fd.Hidden_1 rfl rfl (ldPC ce.int rfl rfl rfl (c_lss rfl rfl rfl (OL.nil (AW.cond rfl (fun h15 => ?_) (fun h15 => ?_))))))))
 ·try simp only [dx9] at h15
  refine AW.skip (AW.seq (AW.block (AW.sg hE rfl (asD rfl (OL.nil (AW.block ?_))))))
  refine AW.whileK (α := Nat × List Bool) [(1, _), (2, _), (3, _), (4, _)] [(1, _)] (fun (i, l2) => [(5, .d (dI i))]) (fun (i, l2) => [(11, .row b11 h.st T.bool 1 (l2.map dB))]) (fun (i, l2) => i ≤ h.st ∧ l2.length = h.st ∧ ∀ j, j < i → l2.getD j false = true) (fun (i, l2) => h.st - i) (0, l) (.cons (knP rfl) (.cons (knD rfl) (.cons (knO rfl) (.cons (knD rfl) .nil)))) (.cons (owB rfl) .nil) ⟨⟨Nat.zero_le _, hl, fun j hj => absurd hj (Nat.not_lt_zero j)⟩, .cons (VLe.refl _) .nil, .cons rfl .nil⟩ ?_
  rintro ⟨i, l2⟩ ⟨h2, hl2, hk2⟩
  have h2 : i ≤ h.st := h2
  have hl2 : l2.length = h.st := hl2
  refine AW.seq (AW.sg hE rfl (mvD rfl (faP fd.Hidden_1 rfl rfl (ldPC ce.int rfl rfl rfl (c_lss rfl rfl rfl (OL.nil (AW.cond rfl (fun h21 => ?_) (fun h21 => ?_))))))))
  ·try simp only [dx9] at h21
   refine AW.skip (AW.seq (AW.block (AW.sg hE rfl (asD rfl (OL.nil (AW.seq (AW.sg hE rfl ?_)))))))
   refine asD rfl (OL.nil (AW.block ?_))
   refine AW.whileK (α := Nat) [(1, _), (2, _), (3, _), (4, _), (5, _)] [(1, _), (11, _)] (fun j => [(6, .d (dB false)), (7, .d (dI j))]) (fun j => []) (fun j => j ≤ h.st) (fun j => h.st - j) 0 (.cons (knP rfl) (.cons (knD rfl) (.cons (knO rfl) (.cons (knD rfl) (.cons (knD rfl) .nil))))) (.cons (owB rfl) (.cons (owR rfl) .nil)) ⟨Nat.zero_le _, .cons (VLe.refl _) (.cons (VLe.refl _) .nil), .nil⟩ ?_
   intro j h3
   have h3 : j ≤ h.st := h3
   refine AW.seq (AW.sg hE rfl (mvD rfl (faP fd.Hidden_1 rfl rfl (ldPC ce.int rfl rfl rfl (c_lss rfl rfl rfl (OL.nil (AW.cond rfl (fun h27 => ?_) (fun h27 => ?_))))))))
   ·try simp only [dx9] at h27
    refine AW.skip (AW.seq (AW.block (AW.rg hE rfl (mvD rfl (mvD rfl (OL.yes rfl (faP fd.Hidden_7 rfl rfl ?_)))))))
    refine OL.yes rfl (ldPC ce.bools rfl rfl rfl (OL.yes rfl (mvD rfl (OL.yes rfl (ixLn sl.bools false rfl rfl (by omega) rfl rfl (OL.yes rfl (ldRC ce.bool rfl ?_)))))))
    rw [f.sil j]
    refine OL.yes rfl (mvD rfl (OL.no rfl (by decide) (OL.no rfl (by decide) (OL.no rfl (by decide) (OL.no rfl (by decide) (OL.no rfl (by decide) (OL.yes rfl ?_)))))))
    refine pkF rfl rfl (OL.yes rfl (mvD rfl (OL.no rfl (by decide) (OL.no rfl (by decide) (OL.no rfl (by decide) (OL.no rfl (by decide) (OL.no rfl (by decide) ?_)))))))
    refine OL.no rfl (by decide) (OL.no rfl (by decide) (OL.no rfl (by decide) (OL.no rfl (by decide) (OL.no rfl (by decide) (OL.yes rfl (pkF rfl rfl (pkF rfl rfl ?_)))))))
    refine asD rfl (OL.nil (AW.rg hE rfl (mvD rfl (add_i64 rfl rfl (by omega) (asD rfl (OL.nil ?_))))))
    exact AW.again (x := j) (j + 1) (by omega) ⟨by omega, Knows.app (.cons (VLe.refl _) (.cons (VLe.refl _) (.cons (VLe.refl _) (.cons (VLe.refl _) (.cons (VLe.refl _) .nil))))) (.cons (VLe.refl _) (.cons (VLe.refl _) .nil)), Owns.app (.cons rfl (.cons rfl .nil)) (.nil)⟩
   ·try simp only [dx9] at h27
    refine AW.exit ?_
    have hel : (l2.map dB)[i]? = some (dB (l2.getD i false)) := by rw [List.getElem?_map, List.getD_eq_getElem?_getD, List.getElem?_eq_getElem (show i < l2.length by omega)]; rfl
    refine AW.rg hE rfl (mvO rfl (mvD rfl (mvO rfl (mvD rfl (ixOn sl.bools rfl rfl (by omega) (ldEC ce.bool (by decide) rfl rfl hel rfl (mvD rfl ?_)))))))
    refine OL.split 63 rfl (fun hg => ?_) (fun hg => ?_)
    ·have _hg := hg
     refine OL.no rfl (by decide) (OL.no rfl (by decide) (pkT rfl rfl (mvD rfl (OL.no rfl (by decide) (OL.no rfl (by decide) (OL.no rfl (by decide) (OL.no rfl (by decide) ?_)))))))
     refine OL.no rfl (by decide) (OL.no rfl (by decide) (pkT rfl rfl (ixOn sl.bools rfl rfl (by omega) (stE sz.bool rfl (VC.d _).vd rfl rfl (by rw [List.length_map]; omega) (es2 := (l2.set i true).map dB) (by rw [List.map_set]) (OL.nil (AW.rg hE rfl (mvD rfl ?_)))))))
     refine add_i64 rfl rfl (by omega) (asD rfl (OL.nil ?_))
     exact AW.again (x := (i, l2)) (i + 1, l2.set i true) (by (simp only []; omega)) ⟨⟨by omega, by rw [List.length_set]; exact hl2, fun j hj => set_true hl2 hk2 (by omega) hj⟩, Knows.app (.cons (VLe.refl _) (.cons (VLe.refl _) (.cons (VLe.refl _) (.cons (VLe.refl _) .nil)))) (.cons (VLe.refl _) .nil), Owns.app (.cons rfl .nil) (.cons rfl .nil)⟩
    ·have _hg := hg
     refine OL.yes rfl (mvD rfl (OL.yes rfl (nt rfl (pkF rfl rfl (mvD rfl (OL.no rfl (by decide) (OL.no rfl (by decide) ?_)))))))
     refine OL.no rfl (by decide) (OL.no rfl (by decide) (OL.no rfl (by decide) (OL.no rfl (by decide) (pkT rfl rfl (ixOn sl.bools rfl rfl (by omega) (stE sz.bool rfl (VC.d _).vd rfl rfl (by rw [List.length_map]; omega) (es2 := (l2.set i true).map dB) (by rw [List.map_set]) (OL.nil ?_)))))))
     refine AW.rg hE rfl (mvD rfl (add_i64 rfl rfl (by omega) (asD rfl (OL.nil ?_))))
     exact AW.again (x := (i, l2)) (i + 1, l2.set i true) (by (simp only []; omega)) ⟨⟨by omega, by rw [List.length_set]; exact hl2, fun j hj => set_true hl2 hk2 (by omega) hj⟩, Knows.app (.cons (VLe.refl _) (.cons (VLe.refl _) (.cons (VLe.refl _) (.cons (VLe.refl _) .nil)))) (.cons (VLe.refl _) .nil), Owns.app (.cons rfl .nil) (.cons rfl .nil)⟩
  ·try simp only [dx9] at h21
   exact AW.exit (AW.rg hE rfl (mvD rfl (add_i64 rfl rfl (by omega) (asD rfl (OL.nil (AW.again (x := (k, l)) (k + 1, l2) (by (simp only []; omega)) ⟨⟨by omega, hl2, fun _ j hj => hk2 j (by omega)⟩, Knows.app (.cons (VLe.refl _) (.cons (VLe.refl _) (.cons (VLe.refl _) .nil))) (.cons (VLe.refl _) .nil), Owns.app (.cons rfl .nil) (.cons rfl .nil)⟩))))))
 ·try simp only [dx9] at h15
  refine AW.exit (AW.seq (AW.sg hE rfl (asD rfl (OL.nil (AW.block ?_)))))
  refine AW.whileK (α := Nat) [(1, _), (3, _)] [(1, _), (11, _)] (fun i => [(8, .d (dI i))]) (fun i => []) (fun i => i ≤ h.st) (fun i => h.st - i) 0 (.cons (knP rfl) (.cons (knO rfl) .nil)) (.cons (owB rfl) (.cons (owR rfl) .nil)) ⟨Nat.zero_le _, .cons (VLe.refl _) .nil, .nil⟩ ?_
  intro i h4
  have h4 : i ≤ h.st := h4
  refine AW.seq (AW.sg hE rfl (mvD rfl (faP fd.Hidden_1 rfl rfl (ldPC ce.int rfl rfl rfl (c_lss rfl rfl rfl (OL.nil (AW.cond rfl (fun h79 => ?_) (fun h79 => ?_))))))))
  ·try simp only [dx9] at h79
   refine AW.skip (AW.seq (AW.block (AW.seq ?_)))
   have hel : (l.map dB)[i]? = some (dB true) := by rw [List.getElem?_map, List.getElem?_eq_getElem (show i < l.length by omega), ← hk (by omega) i (by omega), List.getD_eq_getElem?_getD, List.getElem?_eq_getElem (show i < l.length by omega)]; rfl
   refine AW.rg hE rfl (mvO rfl (mvD rfl (ixOn sl.bools rfl rfl (by omega) (ldEC ce.bool (by decide) rfl rfl hel rfl (nt rfl (OL.nil (AW.cond rfl (fun hno => absurd hno (by decide)) (fun _ => ?_))))))))
   exact AW.skip (AW.rg hE rfl (mvD rfl (add_i64 rfl rfl (by omega) (asD rfl (OL.nil (AW.again (x := i) (i + 1) (by omega) ⟨by omega, Knows.app (.cons (VLe.refl _) (.cons (VLe.refl _) .nil)) (.cons (VLe.refl _) .nil), Owns.app (.cons rfl (.cons rfl .nil)) (.nil)⟩))))))
  ·try simp only [dx9] at h79
   exact AW.exit (AW.sg hE rfl (asD rfl (OL.nil (AW.ret (RetQ.r ⟨_, .tmp rfl .nil, .le (VLe.refl _)⟩)))))
set_option maxRecDepth 6000 in
set_option maxHeartbeats 1600000 in
theorem ref33_Valid {h : HM} {B : Nat} (g : h.Good B) : FSpec P F.ref33_Valid [vHM h] (.d (dI 0)) := by
 have f := g.form
 have e1 := f.ini
 have e2 := f.trans
 have e3 := f.stop
 have e4 := f.emit
 have e5 := f.ties
 have e6 := f.sill
 have s0 := f.sym0
 have s1 := f.sym1
 have n0 := f.st0
 have n1 := f.st1
 have hb1 := f.b1
 have bB := f.bB
 have zE := f.zE
 have zI := f.zI
 refine FSpec.intro fn.ref33_Valid (by rfl) (by rfl) (nb9 (by rfl)) fun E hE => (AW.sg hE rfl (bxA rfl rfl fun b1 => (asD rfl (OL.nil (AW.seq (AW.sg hE rfl (faP fd.Hidden_0 rfl rfl ?_)))))))
 refine ldPC ce.int rfl rfl rfl (c_lss rfl rfl (c := false) (by exact decide_eq_false (by omega)) (mvD rfl (OL.yes rfl (faP fd.Hidden_0 rfl rfl (OL.yes rfl (ldPC ce.int rfl rfl rfl (OL.yes rfl ?_)))))))
 refine c_gtr rfl rfl (c := false) (by exact decide_eq_false (by omega)) (pkF rfl rfl (mvD rfl (OL.yes rfl (faP fd.Hidden_1 rfl rfl (OL.yes rfl (ldPC ce.int rfl rfl rfl (OL.yes rfl ?_)))))))
 refine c_lss rfl rfl (c := false) (by exact decide_eq_false (by omega)) (pkF rfl rfl (mvD rfl (OL.yes rfl (faP fd.Hidden_1 rfl rfl (OL.yes rfl (ldPC ce.int rfl rfl rfl (OL.yes rfl ?_)))))))
 refine c_gtr rfl rfl (c := false) (by exact decide_eq_false (by omega)) (pkF rfl rfl (OL.nil (AW.cond rfl (fun hno => absurd hno (by decide)) (fun _ => ?_))))
 refine AW.skip (AW.seq (AW.sg hE rfl (ldPA ag.Hidden rfl rfl (vs := [_,_,_,_,_,_,_,_,_,_,_]) rfl (nb9 rfl) (clv rfl (.cons (VLe.refl _) (.nil)) (ref33_formed g) (nt rfl (OL.nil (AW.cond rfl (fun hno => absurd hno (by decide)) (fun _ => ?_))))))))
 refine AW.skip (AW.seq (AW.sg hE rfl (faP fd.Hidden_2 rfl rfl (ldPA ag.Rat rfl rfl (vs := [_,_,_]) rfl (nb9 rfl) (faP fd.Hidden_3 rfl rfl (ldPC ce.Rats rfl rfl rfl (clv rfl (.cons (VLe.refl _) (.cons (VLe.refl _) (.nil))) (ref33_one (x := h.empty) (l := h.ini) (by omega) zI (by omega) (by omega) (by rw [← sumQ_app_one]; exact g.sI)) ?_)))))))
 refine nt rfl (OL.nil (AW.cond rfl (fun hno => absurd hno (by decide)) (fun _ => ?_)))
 refine AW.skip (AW.seq (AW.sg hE rfl (asD rfl (OL.nil (AW.block (AW.whileK (α := Nat) [(1, _)] [(1, _)] (fun i => [(3, .d (dI i))]) (fun i => []) (fun i => i ≤ h.st) (fun i => h.st - i) 0 (.cons (knP rfl) .nil) (.cons (owB rfl) .nil) ⟨Nat.zero_le _, .cons (VLe.refl _) .nil, .nil⟩ ?_))))))
 intro i h1
 refine AW.seq (AW.sg hE rfl (mvD rfl (faP fd.Hidden_1 rfl rfl (ldPC ce.int rfl rfl rfl (c_lss rfl rfl rfl (OL.nil (AW.cond rfl (fun h37 => ?_) (fun h37 => ?_))))))))
 ·try simp only [dx9] at h37
  refine AW.skip (AW.seq (AW.block (AW.seq ?_)))
  have t1 := f.trow i (by omega)
  have t2 := f.erow i (by omega)
  have t3 := f.tie i (by omega)
  have pT := g.pT i
  have pM := g.pM i
  have zT := f.zT i
  have zM := f.zM i
  have zS := f.zS.get f.b1 i
  refine AW.dg 1 [0,1,2,3,4,5,6,7,8,9,10,11] order_free hE rfl (by kernel_rfl) (OI.of_OL (os := [_,_,_,_,_,_,_,_,_,_,_,_]) rfl ?_)
  refine faP fd.Hidden_5 rfl rfl (ldPC ce.Rats rfl rfl rfl (mvD rfl (ixLn sl.Rats 0 rfl rfl (by omega) rfl rfl (ldRA ag.Rat rfl (vs := [_,_,_]) rfl (nb9 rfl) (faP fd.Hidden_4 rfl rfl (ldPC ce.Ratss rfl rfl rfl (mvD rfl ?_)))))))
  refine ixLn sl.Ratss [] rfl rfl (by omega) rfl rfl (ldRC ce.Rats rfl (clv rfl (.cons (VLe.refl _) (.cons (VLe.refl _) (.nil))) (ref33_one (x := h.stop.getD i 0) (l := h.trans.getD i []) (by omega) zT (by omega) (by omega) (by rw [← sumQ_app_one]; exact g.sT i (by omega))) (nt rfl (OL.nil (AW.cond rfl (fun hno => absurd hno (by decide)) (fun _ => ?_))))))
  exact AW.skip (AW.rg hE rfl (mvD rfl (add_i64 rfl rfl (by omega) (asD rfl (OL.nil (AW.again (x := i) (i + 1) (by omega) ⟨by omega, Knows.app (.cons (VLe.refl _) .nil) (.cons (VLe.refl _) .nil), Owns.app (.cons rfl .nil) (.nil)⟩))))))
 ·try simp only [dx9] at h37
  refine AW.exit (AW.seq (AW.sg hE rfl (asD rfl (OL.nil (AW.block (AW.whileK (α := Nat) [(1, _)] [(1, _)] (fun i => [(4, .d (dI i))]) (fun i => []) (fun i => i ≤ h.st) (fun i => h.st - i) 0 (.cons (knP rfl) .nil) (.cons (owB rfl) .nil) ⟨Nat.zero_le _, .cons (VLe.refl _) .nil, .nil⟩ ?_))))))
  intro i h1
  refine AW.seq (AW.sg hE rfl (mvD rfl (faP fd.Hidden_1 rfl rfl (ldPC ce.int rfl rfl rfl (c_lss rfl rfl rfl (OL.nil (AW.cond rfl (fun h55 => ?_) (fun h55 => ?_))))))))
  ·try simp only [dx9] at h55
   refine AW.skip (AW.seq (AW.block (AW.seq ?_)))
   have t1 := f.trow i (by omega)
   have t2 := f.erow i (by omega)
   have t3 := f.tie i (by omega)
   have pT := g.pT i
   have pM := g.pM i
   have zT := f.zT i
   have zM := f.zM i
   have zS := f.zS.get f.b1 i
   refine AW.rg hE rfl (faP fd.Hidden_7 rfl rfl (ldPC ce.bools rfl rfl rfl (mvD rfl (ixLn sl.bools false rfl rfl (by omega) rfl rfl (ldRC ce.bool rfl ?_)))))
   rw [f.sil i]
   refine nt rfl (mvD rfl (OL.yes rfl (bd z.Rat pl.Rat (cs := [_,_,_]) rfl (OL.yes rfl (faP fd.Hidden_6 rfl rfl (OL.yes rfl (ldPC ce.Ratss rfl rfl rfl ?_)))))))
   refine OL.yes rfl (mvD rfl (OL.yes rfl (ixLn sl.Ratss [] rfl rfl (by omega) rfl rfl (OL.yes rfl (ldRC ce.Rats rfl (OL.yes rfl (clv rfl (.cons vle_q0 (.cons (VLe.refl _) .nil)) (ref33_one (x := 0) (l := h.emit.getD i []) (by rw [sz_zero]; decide) zM (by omega) (by omega) (by rw [Rat.zero_add]; exact g.sM i (by omega))) ?_)))))))
   refine OL.yes rfl (nt rfl (pkT rfl rfl (OL.nil (AW.cond rfl (fun hno => absurd hno (by decide)) (fun _ => ?_)))))
   exact AW.skip (AW.rg hE rfl (mvD rfl (add_i64 rfl rfl (by omega) (asD rfl (OL.nil (AW.again (x := i) (i + 1) (by omega) ⟨by omega, Knows.app (.cons (VLe.refl _) .nil) (.cons (VLe.refl _) .nil), Owns.app (.cons rfl .nil) (.nil)⟩))))))
  ·try simp only [dx9] at h55
   refine AW.exit (AW.seq (AW.sg hE rfl (ldPA ag.Hidden rfl rfl (vs := [_,_,_,_,_,_,_,_,_,_,_]) rfl (nb9 rfl) (clv rfl (.cons (VLe.refl _) (.nil)) (ref33_circles g) (OL.nil (AW.cond rfl (fun hno => absurd hno (by decide)) (fun _ => ?_)))))))
   refine AW.skip (AW.seq (AW.sg hE rfl (asD rfl (OL.nil (AW.block (AW.whileK (α := Nat) [(1, _)] [(1, _)] (fun i => [(5, .d (dI i))]) (fun i => []) (fun i => i ≤ h.st) (fun i => h.st - i) 0 (.cons (knP rfl) .nil) (.cons (owB rfl) .nil) ⟨Nat.zero_le _, .cons (VLe.refl _) .nil, .nil⟩ ?_))))))
   intro i h1
   refine AW.seq (AW.sg hE rfl (mvD rfl (faP fd.Hidden_1 rfl rfl (ldPC ce.int rfl rfl rfl (c_lss rfl rfl rfl (OL.nil (AW.cond rfl (fun h79 => ?_) (fun h79 => ?_))))))))
   ·try simp only [dx9] at h79
    refine AW.skip (AW.seq (AW.block (AW.sg hE rfl (asD rfl (OL.nil (AW.block (AW.whileK (α := Nat) [(1, _), (5, _)] [(1, _)] (fun j => [(6, .d (dI j))]) (fun j => []) (fun j => j ≤ i) (fun j => i - j) 0 (.cons (knP rfl) (.cons (knD rfl) .nil)) (.cons (owB rfl) .nil) ⟨Nat.zero_le _, .cons (VLe.refl _) .nil, .nil⟩ ?_)))))))
    intro j h2
    refine AW.seq (AW.sg hE rfl (mvD rfl (mvD rfl (c_lss rfl rfl rfl (OL.nil (AW.cond rfl (fun h84 => ?_) (fun h84 => ?_)))))))
    ·try simp only [dx9] at h84
     refine AW.skip (AW.seq (AW.block (AW.seq ?_)))
     have t1 := f.trow i (by omega)
     have t2 := f.erow i (by omega)
     have t2j := f.erow j (by omega)
     have zM := f.zM i
     have zMj := f.zM j
     refine AW.dg 1 [0,1,2,3,4,5,6,7,8,9,10,11,12,13,14,15,16,17,18,19,20,21,22,23,24,25,26,27,28,29,30,31,32,33,34,35,36,37,38,39,40] order_free hE rfl (by kernel_rfl) (OI.of_OL (os := [_,_,_,_,_,_,_,_,_,_,_,_,_,_,_,_,_,_,_,_,_,_,_,_,_,_,_,_,_,_,_,_,_,_,_,_,_,_,_,_,_]) rfl ?_)
     refine faP fd.Hidden_7 rfl rfl (ldPC ce.bools rfl rfl rfl (mvD rfl (ixLn sl.bools false rfl rfl (by omega) rfl rfl (ldRC ce.bool rfl ?_))))
     rw [f.sil i]
     refine nt rfl (mvD rfl (OL.yes rfl (faP fd.Hidden_7 rfl rfl (OL.yes rfl (ldPC ce.bools rfl rfl rfl (OL.yes rfl (mvD rfl ?_)))))))
     refine OL.yes rfl (ixLn sl.bools false rfl rfl (by omega) rfl rfl (OL.yes rfl (ldRC ce.bool rfl ?_)))
     rw [f.sil j]
     refine OL.yes rfl (nt rfl (pkT rfl rfl (mvD rfl (OL.yes rfl (faP fd.Hidden_8 rfl rfl (OL.yes rfl (ldPC ce.ints rfl rfl rfl ?_)))))))
     refine OL.yes rfl (mvD rfl (OL.yes rfl (ixLn sl.ints 0 rfl rfl (by omega) rfl rfl (OL.yes rfl (ldRC ce.int rfl (OL.yes rfl (faP fd.Hidden_8 rfl rfl ?_)))))))
     refine OL.yes rfl (ldPC ce.ints rfl rfl rfl (OL.yes rfl (mvD rfl (OL.yes rfl (ixLn sl.ints 0 rfl rfl (by omega) rfl rfl (OL.yes rfl (ldRC ce.int rfl ?_)))))))
     refine OL.yes rfl (c_eql rfl rfl rfl (pkT rfl rfl (mvD rfl (OL.split 114 rfl (fun g41 => ?_) (fun g41 => ?_)))))
     ·have g41 : h.ties.getD i 0 = h.ties.getD j 0 := of_decide_eq_true g41
      refine OL.yes rfl (faP fd.Hidden_6 rfl rfl (OL.yes rfl (ldPC ce.Ratss rfl rfl rfl (OL.yes rfl (mvD rfl (OL.yes rfl (ixLn sl.Ratss [] rfl rfl (by omega) rfl rfl ?_)))))))
      refine OL.yes rfl (ldRC ce.Rats rfl (OL.yes rfl (faP fd.Hidden_6 rfl rfl (OL.yes rfl (ldPC ce.Ratss rfl rfl rfl (OL.yes rfl (mvD rfl ?_)))))))
      refine OL.yes rfl (ixLn sl.Ratss [] rfl rfl (by omega) rfl rfl (OL.yes rfl (ldRC ce.Rats rfl (OL.yes rfl (clv rfl (.cons (VLe.refl _) (.cons (VLe.refl _) (.nil))) (ref33_SameRats zM zMj ⟨hb1, by omega, by omega⟩) ?_)))))
      rw [decide_eq_true (g.tied i j (by omega) (by omega) g41)]
      refine OL.yes rfl (nt rfl (pkT rfl rfl (OL.nil (AW.cond rfl (fun hno => absurd hno (by decide)) (fun _ => ?_)))))
      exact AW.skip (AW.rg hE rfl (mvD rfl (add_i64 rfl rfl (by omega) (asD rfl (OL.nil (AW.again (x := j) (j + 1) (by omega) ⟨by omega, Knows.app (.cons (VLe.refl _) (.cons (VLe.refl _) .nil)) (.cons (VLe.refl _) .nil), Owns.app (.cons rfl .nil) (.nil)⟩))))))
     ·have _g41 := g41
      refine OL.no rfl (by decide) (OL.no rfl (by decide) (OL.no rfl (by decide) (OL.no rfl (by decide) (OL.no rfl (by decide) (OL.no rfl (by decide) (OL.no rfl (by decide) (OL.no rfl (by decide) ?_)))))))
      refine OL.no rfl (by decide) (OL.no rfl (by decide) (OL.no rfl (by decide) (OL.no rfl (by decide) (pkF rfl rfl (OL.nil (AW.cond rfl (fun hno => absurd hno (by decide)) (fun _ => ?_)))))))
      exact AW.skip (AW.rg hE rfl (mvD rfl (add_i64 rfl rfl (by omega) (asD rfl (OL.nil (AW.again (x := j) (j + 1) (by omega) ⟨by omega, Knows.app (.cons (VLe.refl _) (.cons (VLe.refl _) .nil)) (.cons (VLe.refl _) .nil), Owns.app (.cons rfl .nil) (.nil)⟩))))))
    ·try simp only [dx9] at h84
     exact AW.exit (AW.rg hE rfl (mvD rfl (add_i64 rfl rfl (by omega) (asD rfl (OL.nil (AW.again (x := i) (i + 1) (by omega) ⟨by omega, Knows.app (.cons (VLe.refl _) .nil) (.cons (VLe.refl _) .nil), Owns.app (.cons rfl .nil) (.nil)⟩))))))
   ·try simp only [dx9] at h79
    exact AW.exit (AW.sg hE rfl (asD rfl (OL.nil (AW.ret (RetQ.r ⟨_, .tmp rfl .nil, .le (VLe.refl _)⟩)))))
theorem ref33_Plain {h : HM} {B : Nat} (g : h.Good B) : FSpec P F.ref33_Plain [vHM h] (.d (dB true)) := by
 have f := g.form
 have e1 := f.ini
 have e2 := f.trans
 have e3 := f.stop
 have e4 := f.emit
 have e5 := f.ties
 have e6 := f.sill
 have s0 := f.sym0
 have s1 := f.sym1
 have n0 := f.st0
 have n1 := f.st1
 have hb1 := f.b1
 have bB := f.bB
 refine FSpec.intro fn.ref33_Plain (by rfl) (by rfl) (nb9 (by rfl)) fun E hE => (AW.sg hE rfl (bxA rfl rfl fun b1 => (asD rfl (OL.nil (AW.seq (AW.sg hE rfl (ldPA ag.Hidden rfl rfl (vs := [_,_,_,_,_,_,_,_,_,_,_]) rfl (nb9 rfl) ?_)))))))
 refine clv rfl (.cons (VLe.refl _) (.nil)) (ref33_Valid g) (c_neq rfl rfl (c := false) (by exact cne_f (by omega)) (OL.nil (AW.cond rfl (fun hno => absurd hno (by decide)) (fun _ => ?_))))
 refine AW.skip (AW.seq (AW.sg hE rfl (asD rfl (OL.nil (AW.block (AW.whileK (α := Nat) [(1, _)] [(1, _)] (fun i => [(3, .d (dI i))]) (fun i => []) (fun i => i ≤ h.st) (fun i => h.st - i) 0 (.cons (knP rfl) .nil) (.cons (owB rfl) .nil) ⟨Nat.zero_le _, .cons (VLe.refl _) .nil, .nil⟩ ?_))))))
 intro i h1
 refine AW.seq (AW.sg hE rfl (mvD rfl (faP fd.Hidden_1 rfl rfl (ldPC ce.int rfl rfl rfl (c_lss rfl rfl rfl (OL.nil (AW.cond rfl (fun h10 => ?_) (fun h10 => ?_))))))))
 ·try simp only [dx9] at h10
  refine AW.skip (AW.seq (AW.block (AW.sg hE rfl (faP fd.Hidden_7 rfl rfl (ldPC ce.bools rfl rfl rfl (mvD rfl (ixLn sl.bools false rfl rfl (by omega) rfl rfl ?_)))))))
  refine ldRC ce.bool rfl ?_
  rw [f.sil i]
  refine OL.nil (AW.cond rfl (fun hno => absurd hno (by decide)) (fun _ => ?_))
  exact AW.skip (AW.rg hE rfl (mvD rfl (add_i64 rfl rfl (by omega) (asD rfl (OL.nil (AW.again (x := i) (i + 1) (by omega) ⟨by omega, Knows.app (.cons (VLe.refl _) .nil) (.cons (VLe.refl _) .nil), Owns.app (.cons rfl .nil) (.nil)⟩))))))
 ·try simp only [dx9] at h10
  exact AW.exit (AW.sg hE rfl (asD rfl (OL.nil (AW.ret (RetQ.r ⟨_, .tmp rfl .nil, .le (VLe.refl _)⟩)))))
theorem ref33_Check {h : HM} {B : Nat} (g : h.Good B) : FSpec P F.ref33_Check [vHM h] (.d (dI 0)) := by
 refine FSpec.intro fn.ref33_Check (by rfl) (by rfl) (nb9 (by rfl)) fun E hE => (AW.sg hE rfl (bxA rfl rfl fun b1 => (asD rfl (OL.nil (AW.seq (AW.sg hE rfl (ldPA ag.Hidden rfl rfl (vs := [_,_,_,_,_,_,_,_,_,_,_]) rfl (nb9 rfl) ?_)))))))
 refine clv rfl (.cons (VLe.refl _) (.nil)) (ref33_Valid g) (asD rfl (OL.nil (AW.sg hE rfl (mvD rfl (c_neq rfl rfl (c := false) (by exact cne_f (by omega)) (OL.nil (AW.cond rfl (fun hno => absurd hno (by decide)) (fun _ => ?_))))))))
 refine AW.skip (AW.seq (AW.sg hE rfl (ldPA ag.Hidden rfl rfl (vs := [_,_,_,_,_,_,_,_,_,_,_]) rfl (nb9 rfl) (clv rfl (.cons (VLe.refl _) (.nil)) (ref33_Plain g) (nt rfl (OL.nil (AW.cond rfl (fun hno => absurd hno (by decide)) (fun _ => ?_))))))))
 exact AW.skip (AW.sg hE rfl (asD rfl (OL.nil (AW.ret (RetQ.r ⟨_, .tmp rfl .nil, .le (VLe.refl _)⟩)))))
theorem ref05_Alphabet {n : Nat} (hs : 1 ≤ n ∧ n ≤ 32) : FSpec P F.ref05_Alphabet [.d (dI n)] (.d (dB true)) := by
 refine FSpec.intro fn.ref05_Alphabet (by rfl) (by rfl) (nb9 (by rfl)) fun E hE => (AW.sg hE rfl (asD rfl (OL.nil (AW.sg hE rfl (mvD rfl (c_geq rfl rfl (c := true) (by exact decide_eq_true (by omega)) (mvD rfl ?_)))))))
 exact OL.yes rfl (mvD rfl (OL.yes rfl (c_leq rfl rfl (c := true) (by exact decide_eq_true (by omega)) (pkT rfl rfl (asD rfl (OL.nil (AW.ret (RetQ.r ⟨_, .tmp rfl .nil, .le (VLe.refl _)⟩))))))))
theorem ref05_Valid {h : HM} {w : List Int} (k : WordOK h w) (hs : 1 ≤ h.sym ∧ h.sym ≤ 32) : FSpec P F.ref05_Valid [.d (ints w), .d (dI h.sym)] (.d (dB true)) := by
 have k1 := k.1
 refine FSpec.intro fn.ref05_Valid (by rfl) (by rfl) (nb9 (by rfl)) fun E hE => (AW.sg hE rfl (asD rfl (OL.nil (AW.seq (AW.sg hE rfl (mvD rfl (clv rfl (.cons (VLe.refl _) (.nil)) (ref05_Alphabet hs) ?_)))))))
 refine nt rfl (mvD rfl (OL.yes rfl (mvD rfl (OL.yes rfl (lnL sl.ints rfl rfl (OL.yes rfl (c_gtr rfl rfl (c := false) (by exact decide_eq_false (by omega)) ?_)))))))
 refine pkF rfl rfl (OL.nil (AW.cond rfl (fun hno => absurd hno (by decide)) (fun _ => ?_)))
 refine AW.skip (AW.seq (AW.sg hE rfl (asD rfl (OL.nil (AW.block (AW.whileK (α := Nat) [(0, _), (1, _)] [] (fun i => [(5, .d (dI i))]) (fun i => []) (fun i => i ≤ w.length) (fun i => w.length - i) 0 (.cons (knD rfl) (.cons (knD rfl) .nil)) .nil ⟨Nat.zero_le _, .cons (VLe.refl _) .nil, .nil⟩ ?_))))))
 intro i h1
 refine AW.seq (AW.sg hE rfl (mvD rfl (mvD rfl (lnL sl.ints rfl rfl (c_lss rfl rfl rfl (OL.nil (AW.cond rfl (fun h17 => ?_) (fun h17 => ?_))))))))
 ·try simp only [dx9] at h17
  refine AW.skip (AW.seq (AW.block (AW.seq ?_)))
  have kg := k.get (t := i) (by omega)
  refine AW.rg hE rfl (mvD rfl (mvD rfl (ixLn sl.ints 0 rfl rfl (by omega) rfl rfl (ldRC ce.int rfl (c_lss rfl rfl (c := false) (by exact decide_eq_false (by omega)) (mvD rfl (OL.yes rfl ?_)))))))
  refine mvD rfl (OL.yes rfl (mvD rfl (OL.yes rfl (ixLn sl.ints 0 rfl rfl (by omega) rfl rfl (OL.yes rfl (ldRC ce.int rfl (OL.yes rfl ?_)))))))
  refine mvD rfl (OL.yes rfl (c_gtr rfl rfl (c := false) (by exact decide_eq_false (by omega)) (pkF rfl rfl (OL.nil (AW.cond rfl (fun hno => absurd hno (by decide)) (fun _ => ?_))))))
  exact AW.skip (AW.rg hE rfl (mvD rfl (add_i64 rfl rfl (by omega) (asD rfl (OL.nil (AW.again (x := i) (i + 1) (by omega) ⟨by omega, Knows.app (.cons (VLe.refl _) (.cons (VLe.refl _) .nil)) (.cons (VLe.refl _) .nil), .nil⟩))))))
 ·try simp only [dx9] at h17
  exact AW.exit (AW.sg hE rfl (asD rfl (OL.nil (AW.ret (RetQ.r ⟨_, .tmp rfl .nil, .le (VLe.refl _)⟩)))))
theorem ref34_Check {h : HM} {B : Nat} {w : List Int} (g : h.Good B) (k : WordOK h w) : FSpec P F.ref34_Check [vHM h, .d (ints w)] (.d (dI 0)) := by
 have s0 := g.form.sym0
 have s1 := g.form.sym1
 refine FSpec.intro fn.ref34_Check (by rfl) (by rfl) (nb9 (by rfl)) fun E hE => (AW.sg hE rfl (bxA rfl rfl fun b2 => (asD rfl (OL.nil (AW.seq (AW.sg hE rfl (ldPA ag.Hidden rfl rfl (vs := [_,_,_,_,_,_,_,_,_,_,_]) rfl (nb9 rfl) ?_)))))))
 refine clv rfl (.cons (VLe.refl _) (.nil)) (ref33_Check g) (asD rfl (OL.nil (AW.sg hE rfl (mvD rfl (c_neq rfl rfl (c := false) (by exact cne_f (by omega)) (OL.nil (AW.cond rfl (fun hno => absurd hno (by decide)) (fun _ => ?_))))))))
 refine AW.skip (AW.seq (AW.sg hE rfl (mvD rfl (faP fd.Hidden_0 rfl rfl (ldPC ce.int rfl rfl rfl (clv rfl (.cons (VLe.refl _) (.cons (VLe.refl _) (.nil))) (ref05_Valid k ⟨s0, s1⟩) (nt rfl ?_)))))))
 refine OL.nil (AW.cond rfl (fun hno => absurd hno (by decide)) (fun _ => ?_))
 exact AW.skip (AW.sg hE rfl (asD rfl (OL.nil (AW.ret (RetQ.r ⟨_, .tmp rfl .nil, .le (VLe.refl _)⟩)))))
theorem ref_Mul {x y : Raw} (hx : x.Ok) (hy : y.Ok) : FSpec P F.ref01_Mul [vRaw x, vRaw y] (vQ (x.q * y.q)) := by
 have a1 := q_sz hx hx.ln hx.ld (by decide)
 have a2 := q_sz hy hy.ln hy.ld (by decide)
 have sn1 := sz_num x.q
 have sn2 := sz_num y.q
 have sd1 := sz_den x.q
 have sd2 := sz_den y.q
 have sdd := len_mul x.q.den y.q.den
 have dd0 := Nat.mul_ne_zero x.q.den_nz y.q.den_nz
 have snn := len_mul x.q.num.natAbs y.q.num.natAbs
 have hp := fr_mul (s := decide (x.q.num < 0)) (t := decide (y.q.num < 0)) (a := x.q.num.natAbs) (b := y.q.num.natAbs) (d1 := x.q.den) (d2 := y.q.den)
 rw [fr_ofQ, fr_ofQ] at hp
 refine FSpec.intro fn.ref01_Mul (by rfl) (by rfl) (nb9 (by rfl)) fun E hE => (AW.sg hE rfl (bxA rfl rfl fun b2 => (bxA rfl rfl fun b3 => (al z.Rat rfl fun b4 => (OL.nil (AW.seq (AW.dg 1 [0,1,2,3,4,5] order_free hE rfl (by kernel_rfl) (OI.of_OL (os := [_,_,_,_,_,_]) rfl ?_))))))))
 refine ldPA ag.Rat rfl rfl (vs := [_,_,_]) rfl (nb9 rfl) (clv rfl (.cons (VLe.refl _) .nil) (ref_Take (by assumption)) (ldPA ag.Rat rfl rfl (vs := [_,_,_]) rfl (nb9 rfl) (clv rfl (.cons (VLe.refl _) .nil) (ref_Take (by assumption)) (sto sz.Rat rfl rfl rfl rfl rfl (nb9 rfl) (cells2 := [_,_,_]) rfl (sto sz.Rat rfl rfl rfl rfl rfl (nb9 rfl) (cells2 := [_,_,_]) rfl (OL.nil (AW.seq ?_)))))))
 refine AW.dg 1 [0,1,2,3,4,5,6,7,8,9,10,11,12,13,14,15,16] order_free hE rfl (by kernel_rfl) (OI.of_OL (os := [_,_,_,_,_,_,_,_,_,_,_,_,_,_,_,_,_]) rfl ?_)
 refine faP fd.Rat_0 rfl rfl (ldPC ce.bool rfl rfl rfl (faP fd.Rat_0 rfl rfl (ldPC ce.bool rfl rfl rfl (neb bt.bool rfl rfl (faP fd.Rat_1 rfl rfl (ldPC ce.u32s rfl rfl rfl (faP fd.Rat_1 rfl rfl ?_)))))))
 refine ldPC ce.u32s rfl rfl rfl (clv rfl (.cons (VLe.refl _) (.cons (VLe.refl _) .nil)) (ref_timesN (a := x.q.num.natAbs) (b := y.q.num.natAbs) (by omega) (by omega)) (ldPA ag.Rat rfl rfl (vs := [_,_,_]) rfl (nb9 rfl) (clv rfl (.cons (VLe.refl _) .nil) (ref_den) (ldPA ag.Rat rfl rfl (vs := [_,_,_]) rfl (nb9 rfl) (clv rfl (.cons (VLe.refl _) .nil) (ref_den) (clv rfl (.cons (VLe.refl _) (.cons (VLe.refl _) .nil)) (ref_timesN (a := x.q.den) (b := y.q.den) (by omega) (by omega)) (clv rfl (.cons (VLe.refl _) (.cons (VLe.refl _) (.cons (VLe.refl _) .nil))) (ref_over (s := (decide (x.q.num < 0) != decide (y.q.num < 0))) (by omega) (by omega) dd0) ?_)))))))
 rw [← hp]
 exact sto sz.Rat rfl rfl rfl rfl rfl (nb9 rfl) (cells2 := [_,_,_]) rfl (OL.nil (AW.ret (RetQ.r ⟨_, .cellA rfl rfl ag.Rat (nb9 rfl) .nil, .ag (.cons (.le (VLe.refl _)) (.cons (.le (VLe.refl _)) (.cons (.le (VLe.refl _)) .nil)))⟩)))
theorem ref_MulQ {x y : Rat} (hx : sz x ≤ 68719476736) (hy : sz y ≤ 68719476736) : FSpec P F.ref01_Mul [vQ x, vQ y] (vQ (x * y)) := by
 have h := ref_Mul (x := ofQ x) (y := ofQ y) (ofQ_ok (by omega)) (ofQ_ok (by omega))
 rw [q_ofQ, q_ofQ] at h; exact h
theorem ref_Quo {x y : Raw} (hx : x.Ok) (hy : y.Ok) (h0 : y.q ≠ 0) : FSpec P F.ref01_Quo [vRaw x, vRaw y] (vQ (x.q / y.q)) := by
 have a1 := q_sz hx hx.ln hx.ld (by decide)
 have a2 := q_sz hy hy.ln hy.ld (by decide)
 have sn1 := sz_num x.q
 have sn2 := sz_num y.q
 have sd1 := sz_den x.q
 have sd2 := sz_den y.q
 have hn0 : y.q.num.natAbs ≠ 0 := fun e => h0 (Rat.num_eq_zero.1 (by omega))
 have m1 := len_mul x.q.num.natAbs y.q.den
 have m2 := len_mul x.q.den y.q.num.natAbs
 have dd0 := Nat.mul_ne_zero x.q.den_nz hn0
 have hp := fr_div (s := decide (x.q.num < 0)) (t := decide (y.q.num < 0)) (a := x.q.num.natAbs) x.q.den_nz y.q.den_nz hn0
 rw [fr_ofQ, fr_ofQ] at hp
 refine FSpec.intro fn.ref01_Quo (by rfl) (by rfl) (nb9 (by rfl)) fun E hE => (AW.sg hE rfl (bxA rfl rfl fun b2 => (bxA rfl rfl fun b3 => (al z.Rat rfl fun b4 => (OL.nil (AW.seq (AW.dg 1 [0,1,2,3,4,5] order_free hE rfl (by kernel_rfl) (OI.of_OL (os := [_,_,_,_,_,_]) rfl ?_))))))))
 refine ldPA ag.Rat rfl rfl (vs := [_,_,_]) rfl (nb9 rfl) (clv rfl (.cons (VLe.refl _) .nil) (ref_Take (by assumption)) (ldPA ag.Rat rfl rfl (vs := [_,_,_]) rfl (nb9 rfl) (clv rfl (.cons (VLe.refl _) .nil) (ref_Take (by assumption)) (sto sz.Rat rfl rfl rfl rfl rfl (nb9 rfl) (cells2 := [_,_,_]) rfl (sto sz.Rat rfl rfl rfl rfl rfl (nb9 rfl) (cells2 := [_,_,_]) rfl (OL.nil (AW.seq ?_)))))))
 refine AW.dg 1 [0,1,2,3,4,5,6,7,8,9,10,11,12,13,14,15,16] order_free hE rfl (by kernel_rfl) (OI.of_OL (os := [_,_,_,_,_,_,_,_,_,_,_,_,_,_,_,_,_]) rfl ?_)
 refine faP fd.Rat_0 rfl rfl (ldPC ce.bool rfl rfl rfl (faP fd.Rat_0 rfl rfl (ldPC ce.bool rfl rfl rfl (neb bt.bool rfl rfl (faP fd.Rat_1 rfl rfl (ldPC ce.u32s rfl rfl rfl (ldPA ag.Rat rfl rfl (vs := [_,_,_]) rfl (nb9 rfl) ?_)))))))
 refine clv rfl (.cons (VLe.refl _) .nil) (ref_den) (clv rfl (.cons (VLe.refl _) (.cons (VLe.refl _) (.nil))) (ref_timesN (a := x.q.num.natAbs) (b := y.q.den) (by omega) (by omega)) (ldPA ag.Rat rfl rfl (vs := [_,_,_]) rfl (nb9 rfl) (clv rfl (.cons (VLe.refl _) .nil) (ref_den) (faP fd.Rat_1 rfl rfl (ldPC ce.u32s rfl rfl rfl (clv rfl (.cons (VLe.refl _) (.cons (VLe.refl _) (.nil))) (ref_timesN (a := x.q.den) (b := y.q.num.natAbs) (by omega) (by omega)) (clv rfl (.cons (VLe.refl _) (.cons (VLe.refl _) (.cons (VLe.refl _) (.nil)))) (ref_over (s := (decide (x.q.num < 0) != decide (y.q.num < 0))) (by omega) (by omega) dd0) ?_)))))))
 rw [← hp]
 exact sto sz.Rat rfl rfl rfl rfl rfl (nb9 rfl) (cells2 := [_,_,_]) rfl (OL.nil (AW.ret (RetQ.r ⟨_, .cellA rfl rfl ag.Rat (nb9 rfl) .nil, .ag (.cons (.le (VLe.refl _)) (.cons (.le (VLe.refl _)) (.cons (.le (VLe.refl _)) .nil)))⟩)))
theorem ref_Div {x y : Raw} (hx : x.Ok) (hy : y.Ok) (h0 : y.q ≠ 0) : FSpec P F.ref01_Div [vRaw x, vRaw y] (.tup [vQ (x.q / y.q), .d (dI 0)]) := by
 refine FSpec.intro fn.ref01_Div (by rfl) (by rfl) (nb9 (by rfl)) fun E hE => (AW.sg hE rfl (bxA rfl rfl fun b2 => (bxA rfl rfl fun b3 => (al z.Rat rfl fun b4 => (asD rfl (OL.nil (AW.seq ?_)))))))
 refine AW.sg hE rfl (ldPA ag.Rat rfl rfl (vs := [_,_,_]) rfl (nb9 rfl) (clv rfl (.cons (VLe.refl _) (.nil)) (ref_Sign hy) (c_eql rfl rfl rfl (OL.nil (AW.cond rfl (fun hno => absurd hno (by rw [decide_eq_false fun e => h0 (sgnQ_eq.1 e)]; decide)) (fun _ => ?_))))))
 refine AW.skip (AW.sg hE rfl (ldPA ag.Rat rfl rfl (vs := [_,_,_]) rfl (nb9 rfl) (ldPA ag.Rat rfl rfl (vs := [_,_,_]) rfl (nb9 rfl) (clv rfl (.cons (VLe.refl _) (.cons (VLe.refl _) (.nil))) (ref_Quo hx hy h0) (sto sz.Rat rfl rfl rfl rfl rfl (nb9 rfl) (cells2 := [_,_,_]) rfl (asD rfl (OL.nil ?_)))))))
 exact AW.ret (RetQ.r ⟨_, .cellA rfl rfl ag.Rat (nb9 rfl) (.tmp rfl .nil), _, .cons (.ag (.cons (.le (VLe.refl _)) (.cons (.le (VLe.refl _)) (.cons (.le (VLe.refl _)) .nil)))) (.cons (.le (VLe.refl _)) .nil), rfl⟩)
theorem ref_DivQ {x y : Rat} (hx : sz x ≤ 68719476736) (hy : sz y ≤ 68719476736) (h0 : y ≠ 0) : FSpec P F.ref01_Div [vQ x, vQ y] (.tup [vQ (x / y), .d (dI 0)]) := by
 have h := ref_Div (x := ofQ x) (y := ofQ y) (ofQ_ok (by omega)) (ofQ_ok (by omega)) (by rw [q_ofQ]; exact h0)
 rw [q_ofQ, q_ofQ] at h; exact h
theorem ref_QuoQ {x y : Rat} (hx : sz x ≤ 68719476736) (hy : sz y ≤ 68719476736) (h0 : y ≠ 0) : FSpec P F.ref01_Quo [vQ x, vQ y] (vQ (x / y)) := by
 have h := ref_Quo (x := ofQ x) (y := ofQ y) (ofQ_ok (by omega)) (ofQ_ok (by omega)) (by rw [q_ofQ]; exact h0)
 rw [q_ofQ, q_ofQ] at h; exact h
theorem div_one9 (x : Rat) : x / 1 = x := by rw [Rat.div_def, show (1 : Rat)⁻¹ = 1 by decide +kernel, Rat.mul_one]
theorem ref_WholeN {n : Nat} (hn : n < 4294967296) : FSpec P F.ref01_Whole [vQ (n : Rat)] (.tup [.d (dI n), .d (dB true)]) := by
 have hz := sz_nat hn
 have hl := len_small hn
 have e1 : (ofQ (n : Rat)).neg = false := by rw [ofQ_natC]
 have e2 : (ofQ (n : Rat)).num = lim n := by rw [ofQ_natC]
 have e3 : (ofQ (n : Rat)).den = [] := by rw [ofQ_natC]
 have a0 : (lim n).getD 0 0 = n := by
  rw [getD_eq (lim_Lim n), val_lim]; show n / 1 % 4294967296 = n; omega
 have a1 : (lim n).getD 1 0 = 0 := getD_out (by omega)
 refine FSpec.intro fn.ref01_Whole (by rfl) (by rfl) (nb9 (by rfl)) fun E hE => (AW.sg hE rfl (bxA rfl rfl fun b1 => (asD rfl (asD rfl (OL.nil (AW.sg hE rfl (ldPA ag.Rat rfl rfl (vs := [_,_,_]) rfl (nb9 rfl) ?_)))))))
 refine clv rfl (.cons (VLe.refl _) (.nil)) (ref_Take (r := ofQ (n : Rat)) (ofQ_ok (by omega))) ?_
 rw [q_ofQ, show vQ (n : Rat) = V.ag [.d (dB false), .d (u32s (lim n)), .d (u32s [])] by show V.ag [.d (dB (ofQ (n : Rat)).neg), .d (u32s (ofQ (n : Rat)).num), .d (u32s (ofQ (n : Rat)).den)] = _; rw [e1, e2, e3]]
 refine sto sz.Rat rfl rfl rfl rfl rfl (nb9 rfl) (cells2 := [_,_,_]) rfl (OL.nil (AW.seq (AW.sg hE rfl (faP fd.Rat_2 rfl rfl (ldPC ce.u32s rfl rfl rfl (lnL sl.u32s rfl rfl (c_gtr rfl rfl (c := false) (by rfl) ?_)))))))
 refine mvD rfl (OL.yes rfl (faP fd.Rat_1 rfl rfl (OL.yes rfl (ldPC ce.u32s rfl rfl rfl (OL.yes rfl (lnL sl.u32s rfl rfl (OL.yes rfl ?_)))))))
 refine c_gtr rfl rfl (c := false) (by exact decide_eq_false (by omega)) (pkF rfl rfl (OL.nil (AW.cond rfl (fun hno => absurd hno (by decide)) (fun _ => ?_))))
 refine AW.skip (AW.seq (AW.dg 1 [0,1,2,3,4,5,6,7,8] order_free hE rfl (by kernel_rfl) (OI.of_OL (os := [_,_,_,_,_,_,_,_,_]) rfl ?_)))
 refine faP fd.Rat_1 rfl rfl (ldPC ce.u32s rfl rfl rfl (clv rfl (.cons (VLe.refl _) (.cons (VLe.refl _) (.nil))) (ref_limb (L := lim n) (i := 0) (lim_Lim n)) ?_))
 rw [a0]
 refine faP fd.Rat_1 rfl rfl (ldPC ce.u32s rfl rfl rfl (clv rfl (.cons (VLe.refl _) (.cons (VLe.refl _) (.nil))) (ref_limb (L := lim n) (i := 1) (lim_Lim n)) ?_))
 rw [a1]
 refine shl32 rfl rfl rfl (by decide) (orB (a := 0) (b := n) 32 0 rfl rfl rfl (by omega) (by omega) ?_)
 rw [Nat.zero_add]
 refine asD rfl (OL.nil (AW.seq (AW.block (AW.sg hE rfl (faP fd.Rat_0 rfl rfl (ldPC ce.bool rfl rfl rfl (mvD rfl ?_)))))))
 refine OL.no rfl (by decide) (OL.no rfl (by decide) (pkF rfl rfl (asD rfl (OL.nil (AW.cond rfl (fun hno => absurd hno (by decide)) (fun _ => ?_))))))
 refine AW.sg hE rfl (mvD rfl (c_geq rfl rfl (c := false) (by exact decide_eq_false (by omega)) (asD rfl (OL.nil (AW.cond rfl (fun hno => absurd hno (by decide)) (fun _ => ?_))))))
 refine AW.sg hE rfl (faP fd.Rat_0 rfl rfl (ldPC ce.bool rfl rfl rfl (asD rfl (OL.nil (AW.cond rfl (fun hno => absurd hno (by decide)) (fun _ => ?_))))))
 exact AW.skip (AW.sg hE rfl (mvD rfl (cv it.u64 it.int rfl (wrap_i64 (by omega)) (asD rfl (asD rfl (OL.nil (AW.ret (RetQ.r ⟨_, .tmp rfl (.tmp rfl .nil), _, .cons (.le (VLe.int (by omega))) (.cons (.le (VLe.refl _)) .nil), rfl⟩))))))))
theorem two0V : V.ag [.d (dB false), .d (u32s [1]), .d (u32s [])] = vQ 1 := by
 show _ = V.ag [.d (dB (ofQ ((1 : Nat) : Rat)).neg), .d (u32s (ofQ ((1 : Nat) : Rat)).num), .d (u32s (ofQ ((1 : Nat) : Rat)).den)]
 rw [ofQ_natC]
 show _ = V.ag [.d (dB false), .d (u32s (lim 1)), .d (u32s [])]
 rw [show lim 1 = [1] by decide +kernel]
theorem vNat (n : Nat) : V.ag [.d (dB false), .d (u32s (lim n)), .d (u32s [])] = vQ (n : Rat) := by
 show _ = V.ag [.d (dB (ofQ (n : Rat)).neg), .d (u32s (ofQ (n : Rat)).num), .d (u32s (ofQ (n : Rat)).den)]
 rw [ofQ_natC]
theorem ref_Two0  : FSpec P F.ref01_Two [.d (dI 0)] (vQ 1) := by
 rw [← two0V]
 refine FSpec.intro fn.ref01_Two (by rfl) (by rfl) (nb9 (by rfl)) fun E hE => (AW.sg hE rfl (al z.Rat rfl fun b2 => (OL.nil (AW.sg hE rfl (mvD rfl (bo rfl rfl (quoN 0 32 rfl (by decide) (by decide)) (bo rfl rfl (bin_add (c := 1) (by decide) (wrap_i64 (by decide))) ?_)))))))
 refine mkL (fun n : Nat => d32 n) 0 sl.u32s z.u32 (.cons (VC.d _) .nil) (n := 1) (cp := 1) rfl rfl (Nat.le_refl _) (by decide) (by decide) rfl fun b7 => (asO rfl (OL.nil (AW.sg hE rfl (mvO rfl (mvD rfl (bo rfl rfl (quoN 0 32 rfl (by decide) (by decide)) (mvD rfl ?_)))))))
 refine bo rfl rfl (remN 0 32 rfl (by decide)) (cv it.int it.uint rfl (wrap_u64 (by omega)) (shlV rfl rfl (by decide) (c := 1) (by decide) (ixOn (i := 0) sl.u32s rfl rfl (by decide) (stE sz.u32 rfl (VC.d _).vd rfl rfl (by decide) (es2 := [1].map (fun n : Nat => d32 n)) rfl (OL.nil (AW.sg hE rfl (mvO rfl ?_)))))))
 exact bd z.Rat pl.Rat (cs := [_,_,_]) rfl (sto sz.Rat rfl rfl rfl rfl rfl (nb9 rfl) (cells2 := [_,_,_]) rfl (OL.nil (AW.ret (RetQ.r ⟨_, .cellA rfl rfl ag.Rat (nb9 rfl) .nil, .ag (.cons (.le (VLe.refl _)) (.cons (RO.row rfl rfl rfl) (.cons (.le (VLe.mt)) .nil)))⟩))))
theorem ref_floorN {q : Rat} (h0 : 0 ≤ q) (hz : sz q ≤ 68719476736) : FSpec P F.ref01_floor [vQ q] (vQ (flN q : Rat)) := by
 have hn : ¬ q.num < 0 := by have := Rat.num_nonneg.2 h0; omega
 have hd : (ofQ q).neg = false := decide_eq_false hn
 have sn := sz_num q
 have sd := sz_den q
 rw [← vNat]
 refine FSpec.intro fn.ref01_floor (by rfl) (by rfl) (nb9 (by rfl)) fun E hE => (AW.sg hE rfl (bxA rfl rfl fun b1 => (al z.Rat rfl fun b2 => (OL.nil (AW.sg hE rfl (ldPA ag.Rat rfl rfl (vs := [_,_,_]) rfl (nb9 rfl) (clv rfl (.cons (VLe.refl _) (.nil)) (ref_Take (r := ofQ q) (ofQ_ok (by omega))) ?_)))))))
 rw [q_ofQ]
 refine sto sz.Rat rfl rfl rfl rfl rfl (nb9 rfl) (cells2 := [_,_,_]) rfl (OL.nil (AW.seq (AW.dg 1 [0,1,2,3,4,5,6,7,8,9] order_free hE rfl (by kernel_rfl) (OI.of_OL (os := [_,_,_,_,_,_,_,_,_,_]) rfl ?_))))
 refine faP fd.Rat_1 rfl rfl (ldPC ce.u32s rfl rfl rfl (ldPA ag.Rat rfl rfl (vs := [_,_,_]) rfl (nb9 rfl) (clv rfl (.cons (VLe.refl _) (.nil)) (ref_den (q := q)) (clv rfl (.cons (VLe.refl _) (.cons (VLe.refl _) (.nil))) (ref_divide (a := q.num.natAbs) (b := q.den) q.den_nz (by omega) (by omega)) (mvT rfl (ex rfl rfl (ex rfl rfl ?_)))))))
 refine asD rfl (asD rfl (OL.nil (AW.seq (AW.sg hE rfl (faP fd.Rat_0 rfl rfl (ldPC ce.bool rfl rfl rfl ?_))))))
 rw [hd]
 refine mvD rfl (OL.no rfl (by decide) (OL.no rfl (by decide) (OL.no rfl (by decide) (pkF rfl rfl (OL.nil (AW.cond rfl (fun hno => absurd hno (by decide)) (fun _ => ?_)))))))
 refine AW.skip (AW.sg hE rfl (faP fd.Rat_0 rfl rfl (ldPC ce.bool rfl rfl rfl (mvD rfl (OL.no rfl (by decide) (OL.no rfl (by decide) (OL.no rfl (by decide) ?_)))))))
 exact pkF rfl rfl (mvD rfl (bd z.Rat pl.Rat (cs := [_,_,_]) rfl (sto sz.Rat rfl rfl rfl rfl rfl (nb9 rfl) (cells2 := [_,_,_]) rfl (OL.nil (AW.ret (RetQ.r ⟨_, .cellA rfl rfl ag.Rat (nb9 rfl) .nil, .ag (.cons (.le (VLe.refl _)) (.cons (.le (VLe.refl _)) (.cons (.le (VLe.mt)) .nil)))⟩))))))
theorem ref_Down0 {q : Rat} (h0 : 0 ≤ q) (hz : sz q ≤ 68719476736) (hn : flN q < 4294967296) : FSpec P F.ref01_Down [vQ q, .d (dI 0)] (vQ (flN q : Rat)) := by
 have hz1 := z1K
 have hfz := sz_nat hn
 refine FSpec.intro fn.ref01_Down (by rfl) (by rfl) (nb9 (by rfl)) fun E hE => (AW.sg hE rfl (bxA rfl rfl fun b2 => (al z.Rat rfl fun b4 => (OL.nil (AW.seq (AW.sg hE rfl (mvD rfl ?_)))))))
 refine c_lss rfl rfl (c := false) (by exact decide_eq_false (by omega)) (mvD rfl (OL.yes rfl (mvD rfl (OL.yes rfl (c_gtr rfl rfl (c := false) (by exact decide_eq_false (by omega)) (pkF rfl rfl (OL.nil ?_)))))))
 refine AW.cond rfl (fun hno => absurd hno (by decide)) (fun _ => ?_)
 refine AW.skip (AW.seq (AW.dg 1 [0,1,2,3,4,5,6,7,8] order_free hE rfl (by kernel_rfl) (OI.of_OL (os := [_,_,_,_,_,_,_,_,_]) rfl ?_)))
 refine ldPA ag.Rat rfl rfl (vs := [_,_,_]) rfl (nb9 rfl) (mvD rfl (clv rfl (.cons (VLe.refl _) (.nil)) (ref_Two0) (clv rfl (.cons (VLe.refl _) (.cons (VLe.refl _) (.nil))) (ref_MulQ (x := q) (y := 1) (by omega) (by omega)) ?_)))
 rw [Rat.mul_one]
 refine clv rfl (.cons (VLe.refl _) (.nil)) (ref_floorN h0 hz) (mvD rfl (clv rfl (.cons (VLe.refl _) (.nil)) (ref_Two0) (clv rfl (.cons (VLe.refl _) (.cons (VLe.refl _) (.nil))) (ref_QuoQ (x := (flN q : Rat)) (y := 1) (by omega) (by omega) (by decide)) ?_)))
 rw [div_one9]
 exact sto sz.Rat rfl rfl rfl rfl rfl (nb9 rfl) (cells2 := [_,_,_]) rfl (OL.nil (AW.ret (RetQ.r ⟨_, .cellA rfl rfl ag.Rat (nb9 rfl) .nil, .ag (.cons (.le (VLe.refl _)) (.cons (.le (VLe.refl _)) (.cons (.le (VLe.refl _)) .nil)))⟩)))
theorem ref39_floor {q : Rat} (h0 : 0 ≤ q) (hz : sz q ≤ 68719476736) (hn : flN q < 4294967296) : FSpec P F.ref39_floor [vQ q] (.d (dI (flN q))) := by
 refine FSpec.intro fn.ref39_floor (by rfl) (by rfl) (nb9 (by rfl)) fun E hE => (AW.sg hE rfl (bxA rfl rfl fun b1 => (asD rfl (OL.nil (AW.sg hE rfl (ldPA ag.Rat rfl rfl (vs := [_,_,_]) rfl (nb9 rfl) (clv rfl (.cons (VLe.refl _) (.cons (VLe.refl _) (.nil))) (ref_Down0 h0 hz hn) ?_)))))))
 refine clv rfl (.cons (VLe.refl _) (.nil)) (ref_WholeN hn) (mvT rfl (ex rfl rfl (ex rfl rfl (asD rfl (asD rfl (OL.nil (AW.sg hE rfl ?_)))))))
 exact mvD rfl (asD rfl (OL.nil (AW.ret (RetQ.r ⟨_, .tmp rfl .nil, .le (VLe.refl _)⟩))))
theorem ref39_over {x y : Rat} (hx : sz x ≤ 68719476736) (hy : sz y ≤ 68719476736) (h0 : y ≠ 0) : FSpec P F.ref39_over [vQ x, vQ y] (vQ (x / y)) := by
 refine FSpec.intro fn.ref39_over (by rfl) (by rfl) (nb9 (by rfl)) fun E hE => (AW.sg hE rfl (bxA rfl rfl fun b2 => (bxA rfl rfl fun b3 => (al z.Rat rfl fun b4 => (OL.nil (AW.sg hE rfl (ldPA ag.Rat rfl rfl (vs := [_,_,_]) rfl (nb9 rfl) ?_)))))))
 refine ldPA ag.Rat rfl rfl (vs := [_,_,_]) rfl (nb9 rfl) (clv rfl (.cons (VLe.refl _) (.cons (VLe.refl _) (.nil))) (ref_DivQ hx hy h0) (mvT rfl (ex rfl rfl (ex rfl rfl (al z.Rat rfl fun b5 => (sto sz.Rat rfl rfl rfl rfl rfl (nb9 rfl) (cells2 := [_,_,_]) rfl (asD rfl ?_)))))))
 exact OL.nil (AW.sg hE rfl (ldPA ag.Rat rfl rfl (vs := [_,_,_]) rfl (nb9 rfl) (sto sz.Rat rfl rfl rfl rfl rfl (nb9 rfl) (cells2 := [_,_,_]) rfl (OL.nil (AW.ret (RetQ.r ⟨_, .cellA rfl rfl ag.Rat (nb9 rfl) .nil, .ag (.cons (.le (VLe.refl _)) (.cons (.le (VLe.refl _)) (.cons (.le (VLe.refl _)) .nil)))⟩))))))
theorem ref39_check {h : HM} {B : Nat} {D : List (List Int)} (g : h.Good B) (k : DataOK h D) : FSpec P F.ref39_check [vHM h, .d (dIss D)] (.d (dI 0)) := by
 have s0 := g.form.sym0
 have s1 := g.form.sym1
 have k1 := k.len
 refine FSpec.intro fn.ref39_check (by rfl) (by rfl) (nb9 (by rfl)) fun E hE => (AW.sg hE rfl (bxA rfl rfl fun b2 => (asD rfl (OL.nil (AW.seq (AW.sg hE rfl (ldPA ag.Hidden rfl rfl (vs := [_,_,_,_,_,_,_,_,_,_,_]) rfl (nb9 rfl) ?_)))))))
 refine clv rfl (.cons (VLe.refl _) (.nil)) (ref33_Check g) (asD rfl (OL.nil (AW.sg hE rfl (mvD rfl (c_neq rfl rfl (c := false) (by exact cne_f (by omega)) (OL.nil (AW.cond rfl (fun hno => absurd hno (by decide)) (fun _ => ?_))))))))
 refine AW.skip (AW.seq (AW.sg hE rfl (mvD rfl (lnL sl.intss rfl rfl (c_lss rfl rfl (c := false) (by exact decide_eq_false (by omega)) (mvD rfl (OL.yes rfl ?_)))))))
 refine mvD rfl (OL.yes rfl (lnL sl.intss rfl rfl (OL.yes rfl (c_gtr rfl rfl (c := false) (by exact decide_eq_false (by omega)) (pkF rfl rfl (OL.nil (AW.cond rfl (fun hno => absurd hno (by decide)) (fun _ => ?_))))))))
 refine AW.skip (AW.seq (AW.sg hE rfl (asD rfl (OL.nil (AW.block (AW.whileK (α := Nat) [(1, _), (2, _)] [(2, _)] (fun i => [(6, .d (dI i))]) (fun i => []) (fun i => i ≤ D.length) (fun i => D.length - i) 0 (.cons (knD rfl) (.cons (knP rfl) .nil)) (.cons (owB rfl) .nil) ⟨Nat.zero_le _, .cons (VLe.refl _) .nil, .nil⟩ ?_))))))
 intro i h1
 have h1 : i ≤ D.length := h1
 refine AW.seq (AW.sg hE rfl (mvD rfl (mvD rfl (lnL sl.intss rfl rfl (c_lss rfl rfl rfl (OL.nil (AW.cond rfl (fun h23 => ?_) (fun h23 => ?_))))))))
 ·try simp only [dx9] at h23
  refine AW.skip (AW.seq (AW.block (AW.seq ?_)))
  have kw := (k.get (show i < D.length by omega)).1
  refine AW.dg 1 [0,1,2,3,4,5,6,7] order_free hE rfl (by kernel_rfl) (OI.of_OL (os := [_,_,_,_,_,_,_,_]) rfl ?_)
  refine mvD rfl (mvD rfl (ixLn sl.intss [] rfl rfl (by omega) rfl rfl (ldRC ce.ints rfl (faP fd.Hidden_0 rfl rfl (ldPC ce.int rfl rfl rfl (clv rfl (.cons (VLe.refl _) (.cons (VLe.refl _) (.nil))) (ref05_Valid kw ⟨s0, s1⟩) (nt rfl ?_)))))))
  refine OL.nil (AW.cond rfl (fun hno => absurd hno (by decide)) (fun _ => ?_))
  exact AW.skip (AW.rg hE rfl (mvD rfl (add_i64 rfl rfl (by omega) (asD rfl (OL.nil (AW.again (x := i) (i + 1) (by omega) ⟨by omega, Knows.app (.cons (VLe.refl _) (.cons (VLe.refl _) .nil)) (.cons (VLe.refl _) .nil), Owns.app (.cons rfl .nil) (.nil)⟩))))))
 ·try simp only [dx9] at h23
  exact AW.exit (AW.sg hE rfl (asD rfl (OL.nil (AW.ret (RetQ.r ⟨_, .tmp rfl .nil, .le (VLe.refl _)⟩)))))
def fwdU (h : HM) (w : List Int) (t j : Nat) : Rat := if t = 0 then h.ini.getD j 0 else preF h w (fwdF h w (t - 1)) (t - 1) j h.st
theorem fwdU_pos {h : HM} {w : List Int} {t j : Nat} (ht : 0 < t) : fwdU h w t j = preF h w (fwdF h w (t - 1)) (t - 1) j h.st := if_neg (by omega)
theorem fwdU_zero {h : HM} {w : List Int} {t j : Nat} (ht : t = 0) : fwdU h w t j = h.ini.getD j 0 := if_pos ht
theorem fwdU_eq {h : HM} {w : List Int} {t j : Nat} (hj : j < h.st) : (fwdF h w t).getD j 0 = fwdU h w t j * (h.emit.getD j []).getD (symX w t) 0 := by
 by_cases ht : t = 0
 ·rw [fwdU_zero ht, ht]; exact fwd_zero hj
 ·rw [fwdU_pos (by omega)]; exact fwd_pos (by omega) hj
set_option maxRecDepth 6000 in
set_option maxHeartbeats 3200000 in
theorem ref34_Forward {h : HM} {B : Nat} {w : List Int} (g : h.Good B) (k : WordOK h w) (fw : Few h w) : FSpec P F.ref34_Forward [vHM h, .d (ints w)] (.tup [.d (dQss ((List.range w.length).map (fwdF h w))), .d (dI 0)]) := by
 have f := g.form
 have n0 := f.st0
 have n1 := f.st1
 have s1 := f.sym1
 have e1 := f.ini
 have e2 := f.trans
 have e4 := f.emit
 have k1 := k.1
 have fz := fwdSz f fw
 refine FSpec.intro fn.ref34_Forward (by rfl) (by rfl) (nb9 (by rfl)) fun E hE => (AW.sg hE rfl (bxA rfl rfl fun b2 => (asM rfl (asD rfl (OL.nil (AW.seq (AW.sg hE rfl ?_)))))))
 refine ldPA ag.Hidden rfl rfl (vs := [_,_,_,_,_,_,_,_,_,_,_]) rfl (nb9 rfl) (mvD rfl (clv rfl (.cons (VLe.refl _) (.cons (VLe.refl _) (.nil))) (ref34_Check g k) (asD rfl (OL.nil (AW.sg hE rfl (mvD rfl (c_neq rfl rfl (c := false) (by exact cne_f (by omega)) ?_)))))))
 refine OL.nil (AW.cond rfl (fun hno => absurd hno (by decide)) (fun _ => ?_))
 refine AW.skip (AW.sg hE rfl (asM rfl (OL.nil (AW.seq (AW.sg hE rfl (asD rfl (OL.nil ?_)))))))
 refine AW.block (AW.own 7 84 T.Rats 1 rfl rfl ?_)
 refine AW.whileK (α := Nat × Nat × Nat) [(1, _), (2, _), (4, _), (5, _)] [(2, _)] (fun (t, p, c) => [(7, .osl 84 p t c), (8, .d (dI t))]) (fun (t, p, c) => [(84, .row p c T.Rats 1 (((List.range t).map (fwdF h w)).map dQs))]) (fun (t, p, c) => t ≤ w.length) (fun (t, p, c) => w.length - t) (0, 0, 0) (.cons (knD rfl) (.cons (knP rfl) (.cons (knM rfl) (.cons (knD rfl) .nil)))) (.cons (owB rfl) .nil) ⟨Nat.zero_le _, .cons (VLe.refl _) (.cons (VLe.refl _) .nil), .cons rfl .nil⟩ ?_
 rintro ⟨t, p, c⟩ h1
 have h1 : t ≤ w.length := h1
 have hwl : ((List.range t).map (fwdF h w)).length = t := by simp
 refine AW.seq (AW.sg hE rfl (mvD rfl (mvD rfl (lnL sl.ints rfl rfl (c_lss rfl rfl rfl (OL.nil (AW.cond rfl (fun h22 => ?_) (fun h22 => ?_))))))))
 ·try simp only [dx9] at h22
  refine AW.skip (AW.seq (AW.block (AW.sg hE rfl (asM rfl (OL.nil (AW.seq (AW.sg hE rfl ?_)))))))
  refine asD rfl (OL.nil (AW.block (AW.own 9 80 T.Rat 3 rfl rfl ?_)))
  refine AW.whileK (α := Nat × Nat × Nat) [(1, _), (2, _), (4, _), (5, _), (7, _), (8, _)] [(2, _), (84, _)] (fun (j, q, d) => [(9, .osl 80 q j d), (10, .d (dI j))]) (fun (j, q, d) => [(80, .row q d T.Rat 3 (((fwdF h w t).take j).map dQ))]) (fun (j, q, d) => j ≤ h.st) (fun (j, q, d) => h.st - j) (0, 0, 0) (.cons (knD rfl) (.cons (knP rfl) (.cons (knM rfl) (.cons (knD rfl) (.cons (knO rfl) (.cons (knD rfl) .nil)))))) (.cons (owB rfl) (.cons (owR rfl) .nil)) ⟨Nat.zero_le _, .cons (VLe.refl _) (.cons (VLe.refl _) .nil), .cons rfl .nil⟩ ?_
  rintro ⟨j, q, d⟩ h2
  have h2 : j ≤ h.st := h2
  have hfl := fwdF_len h w t
  have htl : ((fwdF h w t).take j).length = j := by rw [List.length_take]; omega
  refine AW.seq (AW.sg hE rfl (mvD rfl (faP fd.Hidden_1 rfl rfl (ldPC ce.int rfl rfl rfl (c_lss rfl rfl rfl (OL.nil (AW.cond rfl (fun h28 => ?_) (fun h28 => ?_))))))))
  ·try simp only [dx9] at h28
   refine AW.skip (AW.seq (AW.block (AW.seq ?_)))
   have hj : j < h.st := by omega
   have hx := k.symX (t := t) (by omega)
   have hej := f.erow j hj
   have zi := fz.ini j
   have ze : sz ((h.emit.getD j []).getD (symX w t) 0) ≤ 68719476736 := fz.em j (symX w t)
   refine AW.rg hE rfl (faP fd.Hidden_3 rfl rfl (ldPC ce.Rats rfl rfl rfl (mvD rfl (ixLn sl.Rats 0 rfl rfl (by omega) rfl rfl (ldRA ag.Rat rfl (vs := [_,_,_]) rfl (nb9 rfl) (al z.Rat rfl fun b11 => (sto sz.Rat rfl rfl rfl rfl rfl (nb9 rfl) (cells2 := [_,_,_]) rfl ?_)))))))
   refine OL.nil ?_
   refine AW.midK (α := Unit) [(1, _), (2, _), (4, _), (5, _), (7, _), (8, _), (9, _), (10, _), (11, _)] [(2, _), (80, _), (84, _)] (fun _u => []) (fun _u => [(11, .box b11 T.Rat (cellsQ (fwdU h w t j)))]) (fun _u => True) (.cons (knD rfl) (.cons (knP rfl) (.cons (knM rfl) (.cons (knD rfl) (.cons (knO rfl) (.cons (knD rfl) (.cons (knO rfl) (.cons (knD rfl) (.cons (knP rfl) .nil))))))))) (.cons (owB rfl) (.cons (owR rfl) (.cons (owR rfl) .nil))) ?_ ?_
   ·refine AW.sg hE rfl (mvD rfl (c_gtr rfl rfl rfl (OL.nil (AW.cond rfl (fun ht => ?_) (fun ht => ?_)))))
    ·have ht : 0 < t := by have := of_decide_eq_true ht; omega
     have zp := fz.fwd (t - 1) (by omega)
     have hpl := fwdF_len h w (t - 1)
     have hpg : ((List.range t).map (fwdF h w)).getD (t - 1) [] = fwdF h w (t - 1) := map_get9 _ _ (by omega)
     refine AW.sg hE rfl (bd z.Rat pl.Rat (cs := [_,_,_]) rfl (sto sz.Rat rfl rfl rfl rfl rfl (nb9 rfl) (cells2 := [_,_,_]) rfl (OL.nil (AW.sg hE rfl (asD rfl (OL.nil (AW.block ?_)))))))
     refine AW.boxW 11 (cellsQ 0) rfl vles_q ?_
     refine AW.whileK (α := Nat) [(1, _), (2, _), (4, _), (5, _), (7, _), (8, _), (9, _), (10, _), (11, _)] [(2, _), (80, _), (84, _)] (fun i => [(12, .d (dI i))]) (fun i => [(11, .box b11 T.Rat (cellsQ (preF h w (fwdF h w (t - 1)) (t - 1) j i)))]) (fun i => i ≤ h.st) (fun i => h.st - i) 0 (.cons (knD rfl) (.cons (knP rfl) (.cons (knM rfl) (.cons (knD rfl) (.cons (knO rfl) (.cons (knD rfl) (.cons (knO rfl) (.cons (knD rfl) (.cons (knP rfl) .nil))))))))) (.cons (owB rfl) (.cons (owR rfl) (.cons (owR rfl) .nil))) ⟨Nat.zero_le _, .cons (VLe.refl _) .nil, .cons rfl .nil⟩ ?_
     intro i h3
     have h3 : i ≤ h.st := h3
     have zs := fz.pre (t - 1) j i (by omega) h3
     refine AW.seq (AW.sg hE rfl (mvD rfl (faP fd.Hidden_1 rfl rfl (ldPC ce.int rfl rfl rfl (c_lss rfl rfl rfl (OL.nil (AW.cond rfl (fun h42 => ?_) (fun h42 => ?_))))))))
     ·try simp only [dx9] at h42
      refine AW.skip (AW.seq (AW.block ?_))
      have tri := f.trow i (by omega)
      have zpi := zp i
      have zt : sz ((h.trans.getD i []).getD j 0) ≤ 68719476736 := fz.tr i j
      have zm : sz ((fwdF h w (t - 1)).getD i 0 * (h.trans.getD i []).getD j 0) ≤ 68719476736 := fz.preM (t - 1) i j (by omega)
      refine AW.dg 1 [0,1,2,3,4,5,6,7,8,9,10,11,12,13,14,15,16,17,18,19] order_free hE rfl (by kernel_rfl) (OI.of_OL (os := [_,_,_,_,_,_,_,_,_,_,_,_,_,_,_,_,_,_,_,_]) rfl ?_)
      refine ldPA ag.Rat rfl rfl (vs := [_,_,_]) rfl (nb9 rfl) (mvO rfl (mvD rfl (bo rfl rfl (bin_sub (c := ((t - 1 : Nat) : Int)) (by omega) (wrap_i64 (by omega))) (ixOn sl.Ratss rfl rfl (by omega) (ldEL ce.Rats [] (by decide) rfl rfl (by omega) rfl ?_)))))
      rw [hpg]
      refine mvD rfl (ixLn sl.Rats 0 rfl rfl (by omega) rfl rfl (ldRA ag.Rat rfl (vs := [_,_,_]) rfl (nb9 rfl) (faP fd.Hidden_4 rfl rfl (ldPC ce.Ratss rfl rfl rfl (mvD rfl (ixLn sl.Ratss [] rfl rfl (by omega) rfl rfl (ldRC ce.Rats rfl ?_)))))))
      refine mvD rfl (ixLn sl.Rats 0 rfl rfl (by omega) rfl rfl (ldRA ag.Rat rfl (vs := [_,_,_]) rfl (nb9 rfl) (clv rfl (.cons (VLe.refl _) (.cons (VLe.refl _) (.nil))) (ref_MulQ (x := (fwdF h w (t - 1)).getD i 0) (y := (h.trans.getD i []).getD j 0) (by omega) (by omega)) (clv rfl (.cons (VLe.refl _) (.cons (VLe.refl _) (.nil))) (ref_AddQ (x := preF h w (fwdF h w (t - 1)) (t - 1) j i) (y := (fwdF h w (t - 1)).getD i 0 * (h.trans.getD i []).getD j 0) (by omega) (by omega)) ?_))))
      rw [show preF h w (fwdF h w (t - 1)) (t - 1) j i + (fwdF h w (t - 1)).getD i 0 * (h.trans.getD i []).getD j 0 = preF h w (fwdF h w (t - 1)) (t - 1) j (i + 1) from rfl]
      refine sto sz.Rat rfl rfl rfl rfl rfl (nb9 rfl) (cells2 := [_,_,_]) rfl (OL.nil (AW.rg hE rfl (mvD rfl (add_i64 rfl rfl (by omega) (asD rfl (OL.nil ?_))))))
      exact AW.again (x := i) (i + 1) (by omega) ⟨by omega, Knows.app (.cons (VLe.refl _) (.cons (VLe.refl _) (.cons (VLe.refl _) (.cons (VLe.refl _) (.cons (VLe.refl _) (.cons (VLe.refl _) (.cons (VLe.refl _) (.cons (VLe.refl _) (.cons (VLe.refl _) .nil))))))))) (.cons (VLe.refl _) .nil), Owns.app (.cons rfl (.cons rfl (.cons rfl .nil))) (.cons rfl .nil)⟩
     ·try simp only [dx9] at h42
      refine AW.exit ?_
      obtain rfl : i = h.st := by omega
      exact AW.reach () ⟨trivial, Knows.app (.cons (VLe.refl _) (.cons (VLe.refl _) (.cons (VLe.refl _) (.cons (VLe.refl _) (.cons (VLe.refl _) (.cons (VLe.refl _) (.cons (VLe.refl _) (.cons (VLe.refl _) (.cons (VLe.refl _) .nil))))))))) (.nil), Owns.app (.cons rfl (.cons rfl (.cons rfl .nil))) (.cons (by rw [fwdU_pos ht]; rfl) .nil)⟩
    ·have ht : t = 0 := by have := of_decide_eq_false ht; omega
     refine AW.skip ?_
     exact AW.reach () ⟨trivial, Knows.app (.cons (VLe.refl _) (.cons (VLe.refl _) (.cons (VLe.refl _) (.cons (VLe.refl _) (.cons (VLe.refl _) (.cons (VLe.refl _) (.cons (VLe.refl _) (.cons (VLe.refl _) (.cons (VLe.refl _) .nil))))))))) (.nil), Owns.app (.cons rfl (.cons rfl (.cons rfl .nil))) (.cons (by rw [fwdU_zero ht]; rfl) .nil)⟩
   rintro ⟨⟩ hφ
   have zu : sz (fwdU h w t j) ≤ 68719476736 := by
    unfold fwdU
    split
    ·exact zi
    ·exact fz.pre (t - 1) j h.st (by omega) (Nat.le_refl _)
   have hfg : (fwdF h w t).getD j 0 = fwdU h w t j * (h.emit.getD j []).getD (symX w t) 0 := fwdU_eq hj
   refine AW.dg 2 [0,1,2,3,4,5,6,7,8,9,10,11,12,13,14,15,16,17] order_free hE rfl (by kernel_rfl) (OI.of_OL (os := [_,_,_,_,_,_,_,_,_,_,_,_,_,_,_,_,_,_]) rfl ?_)
   refine mvO rfl (ldPA ag.Rat rfl rfl (vs := [_,_,_]) rfl (nb9 rfl) (faP fd.Hidden_6 rfl rfl (ldPC ce.Ratss rfl rfl rfl (mvD rfl (ixLn sl.Ratss [] rfl rfl (by omega) rfl rfl (ldRC ce.Rats rfl (mvD rfl ?_)))))))
   refine mvD rfl (ixLn sl.ints 0 rfl rfl (by omega) rfl rfl (ldRC ce.int rfl ?_))
   rw [hx.2]
   refine bo rfl rfl (bin_sub (c := (symX w t : Int)) (by omega) (wrap_i64 (by omega))) (ixLn sl.Rats 0 rfl rfl (by omega) rfl rfl (ldRA ag.Rat rfl (vs := [_,_,_]) rfl (nb9 rfl) (clv rfl (.cons (VLe.refl _) (.cons (VLe.refl _) (.nil))) (ref_MulQ (x := fwdU h w t j) (y := (h.emit.getD j []).getD (symX w t) 0) (by omega) (by omega)) ?_)))
   rw [← hfg]
   refine lt1 (y := dQ ((fwdF h w t).getD j 0)) sl.Rats vd_q rfl (by decide) ?_
   refine apO sl.Rats rfl rfl rfl (by rw [List.length_map]; omega) (VC.d _) (by intro y hy; rw [List.mem_singleton.1 hy]; rfl) (by simp; omega) (by simp; omega) (.inr rfl) (ys := (((fwdF h w t).take (j + 1)).map dQ)) (by rw [take_succ_getD (by omega) 0, List.map_append]; rfl) (n2 := j + 1) (by simp) fun q2 d2 => ?_
   refine asO rfl (OL.nil (AW.rg hE rfl (mvD rfl (add_i64 rfl rfl (by omega) (asD rfl (OL.nil ?_))))))
   exact AW.again (x := (j, q, d)) (j + 1, q2, d2) (by (simp only []; omega)) ⟨by omega, Knows.app (.cons (VLe.refl _) (.cons (VLe.refl _) (.cons (VLe.refl _) (.cons (VLe.refl _) (.cons (VLe.refl _) (.cons (VLe.refl _) .nil)))))) (.cons (VLe.refl _) (.cons (VLe.refl _) .nil)), Owns.app (.cons rfl (.cons rfl .nil)) (.cons rfl .nil)⟩
  ·try simp only [dx9] at h28
   refine AW.exit ?_
   obtain rfl : j = h.st := by omega
   refine AW.freeze 80 rfl (AW.to [(1, .d (ints w)), (2, .ptr 2 b2 0), (7, .osl 84 p t c), (8, .d (dI t)), (4, .mt), (5, .d (dI 0)), (9, .d (dQs (fwdF h w t)))] [(2, .box b2 T.Hidden (cellsHM h)), (84, .row p c T.Rats 1 (((List.range t).map (fwdF h w)).map dQs))] (.cons (VLe.refl _) (.cons (VLe.refl _) (.cons (VLe.refl _) (.cons (VLe.refl _) (.cons (VLe.refl _) (.cons (VLe.refl _) (.cons (frz_osl (by rw [List.length_map]; omega) (by rw [List.take_of_length_le (by omega)])) .nil))))))) (.cons rfl (.cons rfl .nil)) ?_)
   refine AW.rg hE rfl (mvO rfl (mvD rfl (lt1 (y := dQs (fwdF h w t)) sl.Ratss (VC.d _).vd rfl (by decide) ?_)))
   refine apO sl.Ratss rfl rfl rfl (by rw [List.length_map]; omega) (VC.d _) (by intro y hy; rw [List.mem_singleton.1 hy]; rfl) (by simp; omega) (by simp; omega) (.inr rfl) (ys := (((List.range (t + 1)).map (fwdF h w)).map dQs)) (by rw [List.range_succ, List.map_append, List.map_append]; rfl) (n2 := t + 1) (by simp) fun p2 c2 => ?_
   refine asO rfl (OL.nil (AW.rg hE rfl (mvD rfl (add_i64 rfl rfl (by omega) (asD rfl (OL.nil ?_))))))
   exact AW.again (x := (t, p, c)) (t + 1, p2, c2) (by (simp only []; omega)) ⟨by omega, Knows.app (.cons (VLe.refl _) (.cons (VLe.refl _) (.cons (VLe.refl _) (.cons (VLe.refl _) .nil)))) (.cons (VLe.refl _) (.cons (VLe.refl _) .nil)), Owns.app (.cons rfl .nil) (.cons rfl .nil)⟩
 ·try simp only [dx9] at h22
  refine AW.exit (AW.seq ?_)
  obtain rfl : t = w.length := by omega
  exact AW.rg hE rfl (mvO rfl (asO rfl (asD rfl (OL.nil (AW.ret (RetQ.r ⟨_, .tmp rfl (.tmp rfl .nil), _, .cons (RO.row rfl (by rw [List.length_map]; omega) rfl) (.cons (.le (VLe.refl _)) .nil), rfl⟩))))))
set_option maxRecDepth 4000 in
set_option maxHeartbeats 1600000 in
theorem ref34_Likelihood {h : HM} {B : Nat} {w : List Int} (g : h.Good B) (k : WordOK h w) (fw : Few h w) : FSpec P F.ref34_Likelihood [vHM h, .d (ints w)] (.tup [vQ (likF h w), .d (dI 0)]) := by
 have f := g.form
 have n0 := f.st0
 have n1 := f.st1
 have e3 := f.stop
 have k1 := k.1
 have fz := fwdSz f fw
 refine FSpec.intro fn.ref34_Likelihood (by rfl) (by rfl) (nb9 (by rfl)) fun E hE => (AW.sg hE rfl (bxA rfl rfl fun b2 => (al z.Rat rfl fun b4 => (asD rfl (OL.nil (AW.sg hE rfl (ldPA ag.Hidden rfl rfl (vs := [_,_,_,_,_,_,_,_,_,_,_]) rfl (nb9 rfl) ?_)))))))
 refine mvD rfl (clv rfl (.cons (VLe.refl _) (.cons (VLe.refl _) (.nil))) (ref34_Forward g k fw) (mvT rfl (ex rfl rfl (ex rfl rfl (asD rfl (asD rfl (OL.nil ?_)))))))
 refine AW.seq (AW.sg hE rfl (mvD rfl (c_neq rfl rfl (c := false) (by exact cne_f (by omega)) (OL.nil (AW.cond rfl (fun hno => absurd hno (by decide)) (fun _ => ?_))))))
 refine AW.skip (AW.seq (AW.sg hE rfl (mvD rfl (lnL sl.ints rfl rfl (c_eql rfl rfl rfl (OL.nil (AW.cond rfl (fun h0 => ?_) (fun h0 => ?_))))))))
 ·have h0 : w.length = 0 := by have := of_decide_eq_true h0; omega
  rw [show likF h w = h.empty from if_pos h0]
  exact AW.sg hE rfl (faP fd.Hidden_2 rfl rfl (ldPA ag.Rat rfl rfl (vs := [_,_,_]) rfl (nb9 rfl) (sto sz.Rat rfl rfl rfl rfl rfl (nb9 rfl) (cells2 := [_,_,_]) rfl (asD rfl (OL.nil (AW.ret (RetQ.r ⟨_, .cellA rfl rfl ag.Rat (nb9 rfl) (.tmp rfl .nil), _, .cons (.ag (.cons (.le (VLe.refl _)) (.cons (.le (VLe.refl _)) (.cons (.le (VLe.refl _)) .nil)))) (.cons (.le (VLe.refl _)) .nil), rfl⟩)))))))
 ·have h0 : w.length ≠ 0 := fun e => of_decide_eq_false h0 (by omega)
  rw [show likF h w = likN h (fwdF h w (w.length - 1)) h.st from if_neg h0]
  have hfl := fwdF_len h w (w.length - 1)
  refine AW.skip (AW.sg hE rfl (bd z.Rat pl.Rat (cs := [_,_,_]) rfl (al z.Rat rfl fun b8 => (sto sz.Rat rfl rfl rfl rfl rfl (nb9 rfl) (cells2 := [_,_,_]) rfl (OL.nil (AW.seq (AW.sg hE rfl ?_)))))))
  refine asD rfl (OL.nil (AW.block (AW.boxW 8 (cellsQ 0) rfl vles_q ?_)))
  refine AW.whileK (α := Nat) [(1, _), (2, _), (4, _), (5, _), (6, _), (8, _)] [(2, _), (4, _)] (fun i => [(9, .d (dI i))]) (fun i => [(8, .box b8 T.Rat (cellsQ (likN h (fwdF h w (w.length - 1)) i)))]) (fun i => i ≤ h.st) (fun i => h.st - i) 0 (.cons (knD rfl) (.cons (knP rfl) (.cons (knP rfl) (.cons (knD rfl) (.cons (knD rfl) (.cons (knP rfl) .nil)))))) (.cons (owB rfl) (.cons (owB rfl) .nil)) ⟨Nat.zero_le _, .cons (VLe.refl _) .nil, .cons rfl .nil⟩ ?_
  intro i h1
  have h1 : i ≤ h.st := h1
  have zl := fz.lik (w.length - 1) i (by omega) h1
  refine AW.seq (AW.sg hE rfl (mvD rfl (faP fd.Hidden_1 rfl rfl (ldPC ce.int rfl rfl rfl (c_lss rfl rfl rfl (OL.nil (AW.cond rfl (fun h29 => ?_) (fun h29 => ?_))))))))
  ·try simp only [dx9] at h29
   refine AW.skip (AW.seq (AW.block ?_))
   have zi := fz.fwd (w.length - 1) (by omega) i
   have zt := fz.stop i
   have zm := fz.likM (w.length - 1) i (by omega)
   refine AW.dg 1 [0,1,2,3,4,5,6,7,8,9,10,11,12,13,14,15,16,17] order_free hE rfl (by kernel_rfl) (OI.of_OL (os := [_,_,_,_,_,_,_,_,_,_,_,_,_,_,_,_,_,_]) rfl ?_)
   refine ldPA ag.Rat rfl rfl (vs := [_,_,_]) rfl (nb9 rfl) (mvD rfl (mvD rfl (lnL sl.ints rfl rfl (bo rfl rfl (bin_sub (c := ((w.length - 1 : Nat) : Int)) (by omega) (wrap_i64 (by omega))) (ixLn sl.Ratss [] rfl rfl (by rw [List.length_map, List.length_range]; omega) rfl rfl (ldRC ce.Rats rfl ?_))))))
   rw [map_getD_range (fwdF h w) [] (show w.length - 1 < w.length by omega)]
   refine mvD rfl (ixLn sl.Rats 0 rfl rfl (by omega) rfl rfl (ldRA ag.Rat rfl (vs := [_,_,_]) rfl (nb9 rfl) (faP fd.Hidden_5 rfl rfl (ldPC ce.Rats rfl rfl rfl (mvD rfl (ixLn sl.Rats 0 rfl rfl (by omega) rfl rfl (ldRA ag.Rat rfl (vs := [_,_,_]) rfl (nb9 rfl) ?_)))))))
   refine clv rfl (.cons (VLe.refl _) (.cons (VLe.refl _) (.nil))) (ref_MulQ (x := (fwdF h w (w.length - 1)).getD i 0) (y := h.stop.getD i 0) (by omega) (by omega)) (clv rfl (.cons (VLe.refl _) (.cons (VLe.refl _) (.nil))) (ref_AddQ (x := likN h (fwdF h w (w.length - 1)) i) (y := (fwdF h w (w.length - 1)).getD i 0 * h.stop.getD i 0) (by omega) (by omega)) ?_)
   rw [show likN h (fwdF h w (w.length - 1)) i + (fwdF h w (w.length - 1)).getD i 0 * h.stop.getD i 0 = likN h (fwdF h w (w.length - 1)) (i + 1) from rfl]
   refine sto sz.Rat rfl rfl rfl rfl rfl (nb9 rfl) (cells2 := [_,_,_]) rfl (OL.nil (AW.rg hE rfl (mvD rfl (add_i64 rfl rfl (by omega) (asD rfl (OL.nil ?_))))))
   exact AW.again (x := i) (i + 1) (by omega) ⟨by omega, Knows.app (.cons (VLe.refl _) (.cons (VLe.refl _) (.cons (VLe.refl _) (.cons (VLe.refl _) (.cons (VLe.refl _) (.cons (VLe.refl _) .nil)))))) (.cons (VLe.refl _) .nil), Owns.app (.cons rfl (.cons rfl .nil)) (.cons rfl .nil)⟩
  ·try simp only [dx9] at h29
   refine AW.exit (AW.seq ?_)
   obtain rfl : i = h.st := by omega
   exact AW.rg hE rfl (ldPA ag.Rat rfl rfl (vs := [_,_,_]) rfl (nb9 rfl) (sto sz.Rat rfl rfl rfl rfl rfl (nb9 rfl) (cells2 := [_,_,_]) rfl (asD rfl (OL.nil (AW.ret (RetQ.r ⟨_, .cellA rfl rfl ag.Rat (nb9 rfl) (.tmp rfl .nil), _, .cons (.ag (.cons (.le (VLe.refl _)) (.cons (.le (VLe.refl _)) (.cons (.le (VLe.refl _)) .nil)))) (.cons (.le (VLe.refl _)) .nil), rfl⟩))))))
theorem ref39_Likelihood {h : HM} {B : Nat} {X : List (List Int)} (g : h.Good B) (k5 : DataOK h X) : FSpec P F.ref39_Likelihood [vHM h, .d (dIss X)] (.tup [vQ (lkN h X X.length), .d (dI 0)]) := by
 have f := g.form
 have k1 := k5.len
 refine FSpec.intro fn.ref39_Likelihood (by rfl) (by rfl) (nb9 (by rfl)) fun E hE => (AW.sg hE rfl (bxA rfl rfl fun b2 => (al z.Rat rfl fun b4 => (asD rfl (OL.nil (AW.seq (AW.sg hE rfl ?_)))))))
 refine ldPA ag.Hidden rfl rfl (vs := [_,_,_,_,_,_,_,_,_,_,_]) rfl (nb9 rfl) (mvD rfl (clv rfl (.cons (VLe.refl _) (.cons (VLe.refl _) (.nil))) (ref39_check g k5) (asD rfl (OL.nil (AW.sg hE rfl (mvD rfl (c_neq rfl rfl (c := false) (by exact cne_f (by omega)) ?_)))))))
 refine OL.nil (AW.cond rfl (fun hno => absurd hno (by decide)) (fun _ => ?_))
 refine AW.skip (AW.sg hE rfl (clv rfl (.cons (VLe.refl _) (.nil)) (ref33_Whole1) ?_))
 rw [show (1 : Rat) = lkN h X 0 from rfl]
 refine al z.Rat rfl fun b7 => (sto sz.Rat rfl rfl rfl rfl rfl (nb9 rfl) (cells2 := [_,_,_]) rfl (OL.nil (AW.seq (AW.sg hE rfl (asD rfl (OL.nil (AW.block ?_)))))))
 refine AW.whileK (α := Nat) [(1, _), (2, _), (4, _), (5, _), (7, _)] [(2, _), (4, _)] (fun k => [(8, .d (dI k))]) (fun k => [(7, .box b7 T.Rat (cellsQ (lkN h X k)))]) (fun k => k ≤ X.length) (fun k => X.length - k) 0 (.cons (knD rfl) (.cons (knP rfl) (.cons (knP rfl) (.cons (knD rfl) (.cons (knP rfl) .nil))))) (.cons (owB rfl) (.cons (owB rfl) .nil)) ⟨Nat.zero_le _, .cons (VLe.refl _) .nil, .cons rfl .nil⟩ ?_
 intro k h1
 have h1 : k ≤ X.length := h1
 refine AW.seq (AW.sg hE rfl (mvD rfl (mvD rfl (lnL sl.intss rfl rfl (c_lss rfl rfl rfl (OL.nil (AW.cond rfl (fun h22 => ?_) (fun h22 => ?_))))))))
 ·try simp only [dx9] at h22
  refine AW.skip (AW.seq (AW.block (AW.seq ?_)))
  have hk : k < X.length := by omega
  have kw := k5.get hk
  have z1 := lk_sz f k5 k h1
  have z2 := lik_sz f kw.2
  refine AW.dg 1 [0,1,2,3,4,5,6,7,8,9,10,11] order_free hE rfl (by kernel_rfl) (OI.of_OL (os := [_,_,_,_,_,_,_,_,_,_,_,_]) rfl ?_)
  refine ldPA ag.Hidden rfl rfl (vs := [_,_,_,_,_,_,_,_,_,_,_]) rfl (nb9 rfl) (mvD rfl (mvD rfl (ixLn sl.intss [] rfl rfl (by omega) rfl rfl (ldRC ce.ints rfl (clv rfl (.cons (VLe.refl _) (.cons (VLe.refl _) (.nil))) (ref34_Likelihood g kw.1 kw.2) (mvT rfl (ex rfl rfl ?_)))))))
  refine ex rfl rfl (al z.Rat rfl fun b9 => (sto sz.Rat rfl rfl rfl rfl rfl (nb9 rfl) (cells2 := [_,_,_]) rfl (asD rfl (OL.nil (AW.rg hE rfl (ldPA ag.Rat rfl rfl (vs := [_,_,_]) rfl (nb9 rfl) (ldPA ag.Rat rfl rfl (vs := [_,_,_]) rfl (nb9 rfl) ?_)))))))
  refine clv rfl (.cons (VLe.refl _) (.cons (VLe.refl _) (.nil))) (ref_MulQ (x := lkN h X k) (y := likF h (X.getD k [])) (by omega) (by omega)) (sto sz.Rat rfl rfl rfl rfl rfl (nb9 rfl) (cells2 := [_,_,_]) rfl (OL.nil (AW.rg hE rfl (mvD rfl (add_i64 rfl rfl (by omega) (asD rfl (OL.nil ?_)))))))
  exact AW.again (x := k) (k + 1) (by omega) ⟨by omega, Knows.app (.cons (VLe.refl _) (.cons (VLe.refl _) (.cons (VLe.refl _) (.cons (VLe.refl _) (.cons (VLe.refl _) .nil))))) (.cons (VLe.refl _) .nil), Owns.app (.cons rfl (.cons rfl .nil)) (.cons rfl .nil)⟩
 ·try simp only [dx9] at h22
  refine AW.exit (AW.seq ?_)
  obtain rfl : k = X.length := by omega
  exact AW.rg hE rfl (ldPA ag.Rat rfl rfl (vs := [_,_,_]) rfl (nb9 rfl) (sto sz.Rat rfl rfl rfl rfl rfl (nb9 rfl) (cells2 := [_,_,_]) rfl (asD rfl (OL.nil (AW.ret (RetQ.r ⟨_, .cellA rfl rfl ag.Rat (nb9 rfl) (.tmp rfl .nil), _, .cons (.ag (.cons (.le (VLe.refl _)) (.cons (.le (VLe.refl _)) (.cons (.le (VLe.refl _)) .nil)))) (.cons (.le (VLe.refl _)) .nil), rfl⟩))))))
end Go.Proofs.YtoohdcpikkkanaaGreat

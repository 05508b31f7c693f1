/-
  The laws HmmStays and HmmStaysOnce walked (printed by mk2.py).
-/
import Derived.Test.YtippcclgnabpdaaGreatDoorKHxJ
import Derived.Test.YtippcclgnabpdaaGreatDoorKHxC
set_option linter.unusedVariables false
set_option linter.unusedSimpArgs false
namespace Go.Proofs.YtippcclgnabpdaaGreatDoor
open Go Go.AL
theorem vle_to {x y z : V} (h : x = y) (k : VLe y z) : VLe x z := h ▸ k
theorem shares1 : Shares [1] := fun q hq => by rw [List.mem_singleton.1 hq]; exact one_share
theorem small1 : Small 1 [1] := .one sz_o
theorem sum1 : sumQ [1] = 1 := by rw [sumQ_cons, sumQ_nil, Rat.add_zero]
def ownH5 : Nat → Option Nat
 | 33 => some 0
 | 34 => some 1
 | 35 => some 2
 | 36 => some 3
 | 37 => some 4
 | 38 => some 5
 | 39 => some 6
 | 40 => some 7
 | 41 => some 8
 | 42 => some 9
 | 32 => some 10
 | 43 => some 11
 | 44 => some 12
 | 11 => some 13
 | _ => none
theorem ownH5_inj {t i : Nat} (h : ownH5 t = some i) : t = [33, 34, 35, 36, 37, 38, 39, 40, 41, 42, 32, 43, 44, 11].getD i 0 := by
 unfold ownH5 at h
 split at h <;> first | (cases h; rfl) | cases h
noncomputable def valH5 (h : HM) (l : List Int) (s b31 n4 : Nat) (D : List Rat) (t : Nat) (β : Nat → Nat × Nat) : V :=
 match t with
 | 33 => vHM h
 | 34 => .d (dI s)
 | 35 => .ptr 31 b31 0
 | 36 => .ptr 31 b31 0
 | 37 => .d (dI (tnext l 0 4))
 | 38 => .d (dI n4)
 | 39 => .d (dQs D)
 | 40 => .ag [.d (dI s), .d (dQs D)]
 | 41 => .d (dStays [(s, D)])
 | 42 => .tup [vHM (xpHM h D s), .d (dI 0)]
 | 32 => .tup [vHM (xpHM h D s), .d (dI 0)]
 | 43 => vHM (xpHM h D s)
 | 44 => .d (dI 0)
 | 11 => .ptr 11 (β 11).1 0
 | _ => .junk
noncomputable abbrev telH5 (h : HM) (l : List Int) (s b31 n4 : Nat) (D : List Rat) : List Tell := [⟨11, 14, fun β => .box (β 11).1 T.Hidden (cellsHM (xpHM h D s))⟩, ⟨11, 13, fun β => .box (β 11).1 T.Hidden [.d (dI 0), .d (dI 0), .d (dB false), .mt, .mt, .mt, .mt, .mt, .mt, .mt, .mt]⟩, ⟨1000, 6, fun β => tapeB b31 l (shA l n4 (tat l 0))⟩, ⟨1000, 4, fun β => tapeB b31 l (tat l 0)⟩]
theorem casH5 {p : Nat → Prop} (h0 : p 0) (h1 : p 1) (h2 : p 2) (h3 : p 3) (h4 : p 4) (h5 : p 5) (h6 : p 6) (h7 : p 7) (h8 : p 8) (h9 : p 9) (h10 : p 10) (h11 : p 11) (h12 : p 12) (h13 : p 13) (h14 : p 14) : ∀ i, i < 15 → p i := fun i hi => by
 have : i = 0 ∨ i = 1 ∨ i = 2 ∨ i = 3 ∨ i = 4 ∨ i = 5 ∨ i = 6 ∨ i = 7 ∨ i = 8 ∨ i = 9 ∨ i = 10 ∨ i = 11 ∨ i = 12 ∨ i = 13 ∨ i = 14 := by omega
 rcases this with rfl | rfl | rfl | rfl | rfl | rfl | rfl | rfl | rfl | rfl | rfl | rfl | rfl | rfl | rfl <;> assumption
theorem ref01_same {l : List Nat} (nl : l.length ≤ 1099511627776) : FSpec P F.ref01_same [.d (u32s l), .d (u32s l)] (.d (dB true)) := by
 refine FSpec.intro fn.ref01_same (by rfl) (by rfl) (nb9 (by rfl)) fun E hE => (AW.sg hE rfl (asD rfl (OL.nil (AW.seq (AW.sg hE rfl (mvD rfl (lnL sl.u32s rfl rfl ?_)))))))
 refine mvD rfl (lnL sl.u32s rfl rfl (c_neq rfl rfl rfl (OL.nil (AW.cond rfl (fun hno => absurd hno (by simp)) (fun _ => ?_)))))
 refine AW.skip (AW.seq (AW.sg hE rfl (asD rfl (OL.nil (AW.block (AW.whileK (α := Nat) [(0, _), (1, _)] [] (fun i => [(5, .d (dI i))]) (fun i => []) (fun i => i ≤ l.length) (fun i => l.length - i) 0 (.cons (knD rfl) (.cons (knD rfl) .nil)) .nil ⟨Nat.zero_le _, .rq1, .nil⟩ ?_))))))
 intro i h1
 have h1 : i ≤ l.length := h1
 refine AW.seq (AW.sg hE rfl (mvD rfl (mvD rfl (lnL sl.u32s rfl rfl (c_lss rfl rfl rfl (OL.nil (AW.cond rfl (fun h14 => ?_) (fun h14 => ?_))))))))
 ·try simp only [dx9] at h14
  refine AW.skip (AW.seq (AW.block (AW.seq (AW.dg 1 [0,1,2,3,4,5,6,7,8] order_free hE rfl (by kernel_rfl) (OI.of_OL (os := [_,_,_,_,_,_,_,_,_]) rfl ?_)))))
  refine mvD rfl (mvD rfl (ixLn sl.u32s 0 rfl rfl (by omega) rfl rfl (ldRC ce.u32 rfl (mvD rfl (mvD rfl (ixLn sl.u32s 0 rfl rfl (by omega) rfl rfl (ldRC ce.u32 rfl ?_)))))))
  refine c_neq rfl rfl (c := false) (cne_f rfl) (OL.nil (AW.cond rfl (fun hno => absurd hno (by decide)) (fun _ => ?_)))
  exact AW.skip (AW.rg hE rfl (mvD rfl (add_i64 rfl rfl (by omega) (asD rfl (OL.nil (AW.again (x := i) (i + 1) (by omega) ⟨by omega, Knows.app .rq2 .rq1, .nil⟩))))))
 ·try simp only [dx9] at h14
  exact AW.exit (AW.sg hE rfl (asD rfl (OL.nil (AW.ret (RetQ.r ⟨_, .tmp rfl .nil, .le (VLe.refl _)⟩)))))
theorem ref_SameQ {x : Rat} (hz : sz x ≤ 68719476736) : FSpec P F.ref01_Same [vQ x, vQ x] (.d (dB true)) := by
 have s1 := sz_num x
 have s2 := sz_den x
 have l1 : (ofQ x).num.length ≤ 1099511627776 := by rw [show (ofQ x).num = lim x.num.natAbs from rfl]; omega
 have l2 : (ofQ x).den.length ≤ 1099511627776 := Nat.le_trans (ofQ_den_len x) (by omega)
 refine FSpec.intro fn.ref01_Same (by rfl) (by rfl) (nb9 (by rfl)) fun E hE => (AW.sg hE rfl (bxA rfl rfl fun b2 => (bxA rfl rfl fun b3 => (asD rfl (OL.nil (AW.sg hE rfl (faP fd.Rat_0 rfl rfl ?_)))))))
 refine ldPC ce.bool rfl rfl rfl (faP fd.Rat_0 rfl rfl (ldPC ce.bool rfl rfl rfl (eqb bt.bool rfl rfl ?_)))
 rw [show ((ofQ x).neg == (ofQ x).neg) = true from beq_self_eq_true _]
 refine mvD rfl (OL.yes rfl (faP fd.Rat_1 rfl rfl (OL.yes rfl (ldPC ce.u32s rfl rfl rfl (OL.yes rfl (faP fd.Rat_1 rfl rfl (OL.yes rfl ?_)))))))
 refine ldPC ce.u32s rfl rfl rfl (OL.yes rfl (clv rfl (.cons (VLe.refl _) (.cons (VLe.refl _) (.nil))) (ref01_same l1) (pkT rfl rfl (mvD rfl (OL.yes rfl (faP fd.Rat_2 rfl rfl (OL.yes rfl ?_)))))))
 refine ldPC ce.u32s rfl rfl rfl (OL.yes rfl (faP fd.Rat_2 rfl rfl (OL.yes rfl (ldPC ce.u32s rfl rfl rfl (OL.yes rfl (clv rfl (.cons (VLe.refl _) (.cons (VLe.refl _) (.nil))) (ref01_same l2) (pkT rfl rfl ?_)))))))
 exact asD rfl (OL.nil (AW.ret (RetQ.r ⟨_, .tmp rfl .nil, .le (VLe.refl _)⟩)))
theorem ref33_fields {l : List Rat} (hz : Small 68719476736 l) (nl : l.length ≤ 1099511627776) : FSpec P F.ref33_fields [.d (dQs l), .d (dQs l)] (.d (dB true)) := by
 refine FSpec.intro fn.ref33_fields (by rfl) (by rfl) (nb9 (by rfl)) fun E hE => (AW.sg hE rfl (asD rfl (OL.nil (AW.seq (AW.sg hE rfl (mvD rfl (lnL sl.Rats rfl rfl ?_)))))))
 refine mvD rfl (lnL sl.Rats rfl rfl (c_neq rfl rfl (c := false) (cne_f rfl) (OL.nil (AW.cond rfl (fun hno => absurd hno (by decide)) (fun _ => ?_)))))
 refine AW.skip (AW.seq (AW.sg hE rfl (asD rfl (OL.nil (AW.block (AW.whileK (α := Nat) [(0, _), (1, _)] [] (fun i => [(5, .d (dI i))]) (fun i => []) (fun i => i ≤ l.length) (fun i => l.length - i) 0 (.cons (knD rfl) (.cons (knD rfl) .nil)) .nil ⟨Nat.zero_le _, .rq1, .nil⟩ ?_))))))
 intro i h1
 have h1 : i ≤ l.length := h1
 refine AW.seq (AW.sg hE rfl (mvD rfl (mvD rfl (lnL sl.Rats rfl rfl (c_lss rfl rfl rfl (OL.nil (AW.cond rfl (fun h14 => ?_) (fun h14 => ?_))))))))
 ·try simp only [dx9] at h14
  refine AW.skip (AW.seq (AW.block (AW.seq (AW.dg 1 [0,1,2,3,4,5,6,7,8,9] order_free hE rfl (by kernel_rfl) (OI.of_OL (os := [_,_,_,_,_,_,_,_,_,_]) rfl ?_)))))
  refine mvD rfl (mvD rfl (ixLn sl.Rats 0 rfl rfl (by omega) rfl rfl (ldRA ag.Rat rfl (vs := [_,_,_]) rfl (nb9 rfl) (mvD rfl (mvD rfl (ixLn sl.Rats 0 rfl rfl (by omega) rfl rfl (ldRA ag.Rat rfl (vs := [_,_,_]) rfl (nb9 rfl) ?_)))))))
  refine clv rfl (.cons (VLe.refl _) (.cons (VLe.refl _) (.nil))) (ref_SameQ (x := l.getD i 0) (hz.get (by decide) i)) (nt rfl (OL.nil (AW.cond rfl (fun hno => absurd hno (by decide)) (fun _ => ?_))))
  exact AW.skip (AW.rg hE rfl (mvD rfl (add_i64 rfl rfl (by omega) (asD rfl (OL.nil (AW.again (x := i) (i + 1) (by omega) ⟨by omega, Knows.app .rq2 .rq1, .nil⟩))))))
 ·try simp only [dx9] at h14
  exact AW.exit (AW.sg hE rfl (asD rfl (OL.nil (AW.ret (RetQ.r ⟨_, .tmp rfl .nil, .le (VLe.refl _)⟩)))))
set_option maxRecDepth 6000 in
set_option maxHeartbeats 3200000 in
theorem ref33_Same {h : HM} {B : Nat} (f : h.Form B) : FSpec P F.ref33_Same [vHM h, vHM h] (.d (dB true)) := by
 have n1 := f.st1
 have s1 := f.sym1
 have e1 := f.ini
 have e2 := f.trans
 have e3 := f.stop
 have e4 := f.emit
 have e5 := f.ties
 have e6 := f.sill
 have zE := f.zE
 have bB := f.bB
 have zz : ∀ {l : List Rat}, Small B l → Small 68719476736 l := fun z => z.mono (by omega)
 refine FSpec.intro fn.ref33_Same (by rfl) (by rfl) (nb9 (by rfl)) fun E hE => (AW.sg hE rfl (bxA rfl rfl fun b2 => (bxA rfl rfl fun b3 => (asD rfl (OL.nil (AW.seq (AW.sg hE rfl ?_)))))))
 refine faP fd.Hidden_0 rfl rfl (ldPC ce.int rfl rfl rfl (faP fd.Hidden_0 rfl rfl (ldPC ce.int rfl rfl rfl (c_neq rfl rfl (c := false) (cne_f rfl) (mvD rfl (OL.yes rfl (faP fd.Hidden_1 rfl rfl ?_)))))))
 refine OL.yes rfl (ldPC ce.int rfl rfl rfl (OL.yes rfl (faP fd.Hidden_1 rfl rfl (OL.yes rfl (ldPC ce.int rfl rfl rfl (OL.yes rfl (c_neq rfl rfl (c := false) (cne_f rfl) ?_)))))))
 refine pkF rfl rfl (mvD rfl (OL.yes rfl (faP fd.Hidden_2 rfl rfl (OL.yes rfl (ldPA ag.Rat rfl rfl (vs := [_,_,_]) rfl (nb9 rfl) (OL.yes rfl (faP fd.Hidden_2 rfl rfl ?_)))))))
 refine OL.yes rfl (ldPA ag.Rat rfl rfl (vs := [_,_,_]) rfl (nb9 rfl) (OL.yes rfl (clv rfl (.cons (VLe.refl _) (.cons (VLe.refl _) (.nil))) (ref_SameQ (x := h.empty) (by omega)) (OL.yes rfl (nt rfl (pkF rfl rfl (mvD rfl ?_)))))))
 refine OL.yes rfl (faP fd.Hidden_3 rfl rfl (OL.yes rfl (ldPC ce.Rats rfl rfl rfl (OL.yes rfl (faP fd.Hidden_3 rfl rfl (OL.yes rfl (ldPC ce.Rats rfl rfl rfl ?_)))))))
 refine OL.yes rfl (clv rfl (.cons (VLe.refl _) (.cons (VLe.refl _) (.nil))) (ref33_fields (zz f.zI) (by omega)) (OL.yes rfl (nt rfl (pkF rfl rfl (mvD rfl (OL.yes rfl (faP fd.Hidden_5 rfl rfl ?_)))))))
 refine OL.yes rfl (ldPC ce.Rats rfl rfl rfl (OL.yes rfl (faP fd.Hidden_5 rfl rfl (OL.yes rfl (ldPC ce.Rats rfl rfl rfl (OL.yes rfl (clv rfl (.cons (VLe.refl _) (.cons (VLe.refl _) (.nil))) (ref33_fields (zz f.zS) (by omega)) ?_)))))))
 refine OL.yes rfl (nt rfl (pkF rfl rfl (mvD rfl (OL.yes rfl (faP fd.Hidden_4 rfl rfl (OL.yes rfl (ldPC ce.Ratss rfl rfl rfl ?_)))))))
 refine OL.yes rfl (lnL sl.Ratss rfl rfl (OL.yes rfl (faP fd.Hidden_4 rfl rfl (OL.yes rfl (ldPC ce.Ratss rfl rfl rfl (OL.yes rfl (lnL sl.Ratss rfl rfl ?_)))))))
 refine OL.yes rfl (c_neq rfl rfl (c := false) (cne_f rfl) (pkF rfl rfl (mvD rfl (OL.yes rfl (faP fd.Hidden_6 rfl rfl (OL.yes rfl (ldPC ce.Ratss rfl rfl rfl ?_)))))))
 refine OL.yes rfl (lnL sl.Ratss rfl rfl (OL.yes rfl (faP fd.Hidden_6 rfl rfl (OL.yes rfl (ldPC ce.Ratss rfl rfl rfl (OL.yes rfl (lnL sl.Ratss rfl rfl ?_)))))))
 refine OL.yes rfl (c_neq rfl rfl (c := false) (cne_f rfl) (pkF rfl rfl (mvD rfl (OL.yes rfl (faP fd.Hidden_7 rfl rfl (OL.yes rfl (ldPC ce.bools rfl rfl rfl ?_)))))))
 refine OL.yes rfl (lnL sl.bools rfl rfl (OL.yes rfl (faP fd.Hidden_7 rfl rfl (OL.yes rfl (ldPC ce.bools rfl rfl rfl (OL.yes rfl (lnL sl.bools rfl rfl ?_)))))))
 refine OL.yes rfl (c_neq rfl rfl (c := false) (cne_f rfl) (pkF rfl rfl (mvD rfl (OL.yes rfl (faP fd.Hidden_8 rfl rfl (OL.yes rfl (ldPC ce.ints rfl rfl rfl ?_)))))))
 refine OL.yes rfl (lnL sl.ints rfl rfl (OL.yes rfl (faP fd.Hidden_8 rfl rfl (OL.yes rfl (ldPC ce.ints rfl rfl rfl (OL.yes rfl (lnL sl.ints rfl rfl ?_)))))))
 refine OL.yes rfl (c_neq rfl rfl (c := false) (cne_f rfl) (pkF rfl rfl (OL.nil (AW.cond rfl (fun hno => absurd hno (by decide)) (fun _ => ?_)))))
 refine AW.skip (AW.seq (AW.sg hE rfl (asD rfl (OL.nil (AW.block ?_)))))
 refine AW.whileK (α := Nat) [(2, _), (3, _)] [(2, _), (3, _)] (fun i => [(5, .d (dI i))]) (fun i => []) (fun i => i ≤ h.trans.length) (fun i => h.trans.length - i) 0 (.cons (knP rfl) (.cons (knP rfl) .nil)) (.cons (owB rfl) (.cons (owB rfl) .nil)) ⟨Nat.zero_le _, .rq1, .nil⟩ ?_
 intro i h1
 have h1 : i ≤ h.trans.length := h1
 refine AW.seq (AW.sg hE rfl (mvD rfl (faP fd.Hidden_4 rfl rfl (ldPC ce.Ratss rfl rfl rfl (lnL sl.Ratss rfl rfl (c_lss rfl rfl rfl (OL.nil ?_)))))))
 refine AW.cond rfl (fun h85 => ?_) (fun h85 => ?_)
 ·try simp only [dx9] at h85
  refine AW.skip (AW.seq (AW.block (AW.seq ?_)))
  have ti := f.trow i (by omega)
  refine AW.dg 1 [0,1,2,3,4,5,6,7,8,9,10,11] order_free hE rfl (by kernel_rfl) (OI.of_OL (os := [_,_,_,_,_,_,_,_,_,_,_,_]) rfl ?_)
  refine faP fd.Hidden_4 rfl rfl (ldPC ce.Ratss rfl rfl rfl (mvD rfl (ixLn sl.Ratss [] rfl rfl (by omega) rfl rfl (ldRC ce.Rats rfl (faP fd.Hidden_4 rfl rfl (ldPC ce.Ratss rfl rfl rfl (mvD rfl ?_)))))))
  refine ixLn sl.Ratss [] rfl rfl (by omega) rfl rfl (ldRC ce.Rats rfl (clv rfl (.cons (VLe.refl _) (.cons (VLe.refl _) (.nil))) (ref33_fields (zz (f.zT i)) (by omega)) (nt rfl (OL.nil (AW.cond rfl (fun hno => absurd hno (by decide)) (fun _ => ?_))))))
  exact AW.skip (AW.rg hE rfl (mvD rfl (add_i64 rfl rfl (by omega) (asD rfl (OL.nil (AW.again (x := i) (i + 1) (by omega) ⟨by omega, Knows.app .rq2 .rq1, Owns.app (.cons rfl (.cons rfl .nil)) (.nil)⟩))))))
 ·try simp only [dx9] at h85
  refine AW.exit (AW.seq (AW.sg hE rfl (asD rfl (OL.nil (AW.block ?_)))))
  refine AW.whileK (α := Nat) [(2, _), (3, _)] [(2, _), (3, _)] (fun i => [(6, .d (dI i))]) (fun i => []) (fun i => i ≤ h.emit.length) (fun i => h.emit.length - i) 0 (.cons (knP rfl) (.cons (knP rfl) .nil)) (.cons (owB rfl) (.cons (owB rfl) .nil)) ⟨Nat.zero_le _, .rq1, .nil⟩ ?_
  intro i h1
  have h1 : i ≤ h.emit.length := h1
  refine AW.seq (AW.sg hE rfl (mvD rfl (faP fd.Hidden_6 rfl rfl (ldPC ce.Ratss rfl rfl rfl (lnL sl.Ratss rfl rfl (c_lss rfl rfl rfl (OL.nil ?_)))))))
  refine AW.cond rfl (fun h104 => ?_) (fun h104 => ?_)
  ·try simp only [dx9] at h104
   refine AW.skip (AW.seq (AW.block (AW.seq ?_)))
   have ei := f.erow i (by omega)
   refine AW.dg 1 [0,1,2,3,4,5,6,7,8,9,10,11] order_free hE rfl (by kernel_rfl) (OI.of_OL (os := [_,_,_,_,_,_,_,_,_,_,_,_]) rfl ?_)
   refine faP fd.Hidden_6 rfl rfl (ldPC ce.Ratss rfl rfl rfl (mvD rfl (ixLn sl.Ratss [] rfl rfl (by omega) rfl rfl (ldRC ce.Rats rfl (faP fd.Hidden_6 rfl rfl (ldPC ce.Ratss rfl rfl rfl (mvD rfl ?_)))))))
   refine ixLn sl.Ratss [] rfl rfl (by omega) rfl rfl (ldRC ce.Rats rfl (clv rfl (.cons (VLe.refl _) (.cons (VLe.refl _) (.nil))) (ref33_fields (zz (f.zM i)) (by omega)) (nt rfl (OL.nil (AW.cond rfl (fun hno => absurd hno (by decide)) (fun _ => ?_))))))
   exact AW.skip (AW.rg hE rfl (mvD rfl (add_i64 rfl rfl (by omega) (asD rfl (OL.nil (AW.again (x := i) (i + 1) (by omega) ⟨by omega, Knows.app .rq2 .rq1, Owns.app (.cons rfl (.cons rfl .nil)) (.nil)⟩))))))
  ·try simp only [dx9] at h104
   refine AW.exit (AW.seq (AW.sg hE rfl (asD rfl (OL.nil (AW.block ?_)))))
   refine AW.whileK (α := Nat) [(2, _), (3, _)] [(2, _), (3, _)] (fun i => [(7, .d (dI i))]) (fun i => []) (fun i => i ≤ h.silent.length) (fun i => h.silent.length - i) 0 (.cons (knP rfl) (.cons (knP rfl) .nil)) (.cons (owB rfl) (.cons (owB rfl) .nil)) ⟨Nat.zero_le _, .rq1, .nil⟩ ?_
   intro i h1
   have h1 : i ≤ h.silent.length := h1
   refine AW.seq (AW.sg hE rfl (mvD rfl (faP fd.Hidden_7 rfl rfl (ldPC ce.bools rfl rfl rfl (lnL sl.bools rfl rfl (c_lss rfl rfl rfl (OL.nil ?_)))))))
   refine AW.cond rfl (fun h123 => ?_) (fun h123 => ?_)
   ·try simp only [dx9] at h123
    refine AW.skip (AW.seq (AW.block (AW.seq (AW.dg 1 [0,1,2,3,4,5,6,7,8,9,10] order_free hE rfl (by kernel_rfl) (OI.of_OL (os := [_,_,_,_,_,_,_,_,_,_,_]) rfl ?_)))))
    refine faP fd.Hidden_7 rfl rfl (ldPC ce.bools rfl rfl rfl (mvD rfl (ixLn sl.bools false rfl rfl (by omega) rfl rfl (ldRC ce.bool rfl (faP fd.Hidden_7 rfl rfl (ldPC ce.bools rfl rfl rfl (mvD rfl ?_)))))))
    refine ixLn sl.bools false rfl rfl (by omega) rfl rfl (ldRC ce.bool rfl (neb bt.bool rfl rfl ?_))
    rw [show (!(h.silent.getD i false == h.silent.getD i false)) = false by rw [beq_self_eq_true]; rfl]
    refine OL.nil (AW.cond rfl (fun hno => absurd hno (by decide)) (fun _ => ?_))
    exact AW.skip (AW.rg hE rfl (mvD rfl (add_i64 rfl rfl (by omega) (asD rfl (OL.nil (AW.again (x := i) (i + 1) (by omega) ⟨by omega, Knows.app .rq2 .rq1, Owns.app (.cons rfl (.cons rfl .nil)) (.nil)⟩))))))
   ·try simp only [dx9] at h123
    refine AW.exit (AW.seq (AW.sg hE rfl (asD rfl (OL.nil (AW.block ?_)))))
    refine AW.whileK (α := Nat) [(2, _), (3, _)] [(2, _), (3, _)] (fun i => [(8, .d (dI i))]) (fun i => []) (fun i => i ≤ h.ties.length) (fun i => h.ties.length - i) 0 (.cons (knP rfl) (.cons (knP rfl) .nil)) (.cons (owB rfl) (.cons (owB rfl) .nil)) ⟨Nat.zero_le _, .rq1, .nil⟩ ?_
    intro i h1
    have h1 : i ≤ h.ties.length := h1
    refine AW.seq (AW.sg hE rfl (mvD rfl (faP fd.Hidden_8 rfl rfl (ldPC ce.ints rfl rfl rfl (lnL sl.ints rfl rfl (c_lss rfl rfl rfl (OL.nil ?_)))))))
    refine AW.cond rfl (fun h141 => ?_) (fun h141 => ?_)
    ·try simp only [dx9] at h141
     refine AW.skip (AW.seq (AW.block (AW.seq (AW.dg 1 [0,1,2,3,4,5,6,7,8,9,10] order_free hE rfl (by kernel_rfl) (OI.of_OL (os := [_,_,_,_,_,_,_,_,_,_,_]) rfl ?_)))))
     refine faP fd.Hidden_8 rfl rfl (ldPC ce.ints rfl rfl rfl (mvD rfl (ixLn sl.ints 0 rfl rfl (by omega) rfl rfl (ldRC ce.int rfl (faP fd.Hidden_8 rfl rfl (ldPC ce.ints rfl rfl rfl (mvD rfl ?_)))))))
     refine ixLn sl.ints 0 rfl rfl (by omega) rfl rfl (ldRC ce.int rfl (c_neq rfl rfl (c := false) (cne_f rfl) (OL.nil (AW.cond rfl (fun hno => absurd hno (by decide)) (fun _ => ?_)))))
     exact AW.skip (AW.rg hE rfl (mvD rfl (add_i64 rfl rfl (by omega) (asD rfl (OL.nil (AW.again (x := i) (i + 1) (by omega) ⟨by omega, Knows.app .rq2 .rq1, Owns.app (.cons rfl (.cons rfl .nil)) (.nil)⟩))))))
    ·try simp only [dx9] at h141
     exact AW.exit (AW.sg hE rfl (asD rfl (OL.nil (AW.ret (RetQ.r ⟨_, .tmp rfl .nil, .le (VLe.refl _)⟩)))))
set_option maxRecDepth 16000 in
set_option maxHeartbeats 6400000 in
theorem law33_StaysOnceQ {h : HM} {L l : List Int} {cs cy sv : Int} (hc : FSpec P F.world_Chain_Hidden [.ag [.d (dI cs), .d (dI cy), .d (ints L)], .d (dI 3)] (vHM h)) (g : h.Good 1) (h3 : h.st ≤ 3) (nl : l.length ≤ 9223372036854775807) : FSpec P F.law33_HmmStaysOnce [.ag [.d (dI cs), .d (dI cy), .d (ints L)], .d (ints l), .d (dI sv)] (.d (dB true)) := by
 have fo := g.form
 have n0 := fo.st0
 refine FSpec.intro fn.law33_HmmStaysOnce (by rfl) (by rfl) (nb9 (by rfl)) fun E hE => (AW.sg hE rfl (bxA rfl rfl fun b3 => (asD rfl (OL.nil (AW.sg hE rfl (ldPA ag.Chain rfl rfl (vs := [_,_,_]) rfl (nb9 rfl) (clv rfl (.cons (VLe.refl _) (.cons (VLe.refl _) (.nil))) (hc) ?_)))))))
 refine al z.Hidden rfl fun b7 => (sto sz.Hidden rfl rfl rfl rfl rfl (nb9 rfl) (cells2 := [_,_,_,_,_,_,_,_,_,_,_]) rfl (OL.nil (AW.sg hE rfl (mvD rfl (faP fd.Hidden_1 rfl rfl (ldPC ce.int rfl rfl rfl (clv rfl .rq2 (world_Within (v := sv) (m := (h.st : Int)) (by omega)) ?_)))))))
 obtain ⟨s, hs⟩ : ∃ s : Nat, within sv h.st = (s : Int) := ⟨_, (Int.toNat_of_nonneg (within_range (by omega)).1).symm⟩
 have hs2 : s < h.st := by have := (within_range (v := sv) (m := (h.st : Int)) (by omega)).2; omega
 rw [hs]
 refine asD rfl (OL.nil (AW.seq (AW.dg 1 [0,1,2,3,4,5,6,7,8,9,10,11,12] order_free hE rfl (by kernel_rfl) (OI.of_OL (os := [_,_,_,_,_,_,_,_,_,_,_,_,_]) rfl ?_))))
 refine ldPA ag.Hidden rfl rfl (vs := [_,_,_,_,_,_,_,_,_,_,_]) rfl (nb9 rfl) (mvD rfl (clv rfl (.cons (VLe.refl _) (.nil)) (ref33_Whole1) (lt1 (y := dQ _) sl.Rats vd_q rfl (by decide) (bd z.Stay pl.Stay (cs := [_,_]) rfl (lt1 (y := dStay s [1]) sl.Stays (vd_stay (s := s) (d := [1])) rfl (by decide) (clv rfl (.cons (VLe.refl _) (.cons (VLe.refl _) (.nil))) (ExpandX g.w (s := s) (d := [1]) hs2 (by decide) shares1 small1 sum1 (by rw [List.length_singleton]; omega)) ?_))))))
 rw [xp_one g.w.form]
 refine mvT rfl (ex rfl rfl (ex rfl rfl (al z.Hidden rfl fun b8 => (sto sz.Hidden rfl rfl rfl rfl rfl (nb9 rfl) (cells2 := [_,_,_,_,_,_,_,_,_,_,_]) rfl (asD rfl (OL.nil (AW.sg hE rfl ?_)))))))
 refine mvD rfl (bd z.Tape pl.Tape (cs := [_,_]) rfl (bxA rfl rfl fun b31 => (asP rfl (OL.nil (AW.seq (AW.rename 31 1000 rfl ?_))))))
 have hr := tnext_range (L := l) (a := 0) (m := 4) (by decide)
 obtain ⟨n4, h4⟩ : ∃ n : Nat, 1 + tnext l 0 4 = (n : Int) := ⟨_, (Int.toNat_of_nonneg (by omega)).symm⟩
 have hdl := shares_len l n4 (tat l 0)
 have hdz := shares_small l n4 (tat l 0) (by omega) (by omega)
 have hds := shares_share l n4 (tat l 0) (by omega)
 have hdu := shares_sum l n4 (tat l 0) (by omega)
 have hsh := world_Shares (L := l) (n := n4) (a := tat l 0) (b := b31) ⟨by omega, by omega⟩ nl
 obtain ⟨D, hD⟩ : ∃ D, shares l n4 (tat l 0) = D := ⟨_, rfl⟩
 rw [hD] at hdl hdz hds hdu hsh
 have gy := xp_good (s := s) (d := D) g hs2 (by omega) hds hdu hdz (by omega) (by decide)
 refine AW.region_planT (valH5 h l s b31 n4 D) ownH5 (telH5 h l s b31 n4 D) 15 order_free (by rw [hE]; rfl) (by rfl) (by kernel_rfl) (by kernel_rfl) ?_ ?_
 ·refine casH5 ?_ ?_ ?_ ?_ ?_ ?_ ?_ ?_ ?_ ?_ ?_ ?_ ?_ ?_ ?_
  ·exact fun β L c9 => ⟨_, rfl, .inl (OG.of_OL (ldPA ag.Hidden (id := 7) (b := b7) (o := 0) ((pG_old rfl).trans rfl) ((pG_M (mfT_skip (show (7:Nat) ≠ 11 by decide) (mfT_skip (show (7:Nat) ≠ 11 by decide) (mfT_skip (show (7:Nat) ≠ 1000 by decide) (mfT_skip (show (7:Nat) ≠ 1000 by decide) rfl))))) : _ = some (.box b7 T.Hidden (cellsHM h))) (vs := [_,_,_,_,_,_,_,_,_,_,_]) rfl (nb9 rfl) ⟨β, pG_put (d := 33) (i := 0) rfl (fun t ht => ownH5_inj ht) (lt_size 16 c9.size rfl (by decide)) (mfT_same (lt_size 16 c9.size rfl (by decide)) (by rfl))⟩))⟩
  ·exact fun β L c9 => ⟨_, rfl, .inl (OG.of_OL (mvD (y := dI s) ((pG_old rfl).trans rfl) ⟨β, pG_put (d := 34) (i := 1) rfl (fun t ht => ownH5_inj ht) (lt_size 16 c9.size rfl (by decide)) (mfT_same (lt_size 16 c9.size rfl (by decide)) (by rfl))⟩))⟩
  ·exact fun β L c9 => ⟨_, rfl, .inl (OG.of_OL (mvP (id := 31) (b := b31) (o := 0) ((pG_old rfl).trans rfl) ⟨β, pG_put (d := 35) (i := 2) rfl (fun t ht => ownH5_inj ht) (lt_size 16 c9.size rfl (by decide)) (mfT_same (lt_size 16 c9.size rfl (by decide)) (by rfl))⟩))⟩
  ·exact fun β L c9 => ⟨_, rfl, .inl (OG.of_OL (mvP (id := 31) (b := b31) (o := 0) ((pG_old rfl).trans rfl) ⟨β, pG_put (d := 36) (i := 3) rfl (fun t ht => ownH5_inj ht) (lt_size 16 c9.size rfl (by decide)) (mfT_same (lt_size 16 c9.size rfl (by decide)) (by rfl))⟩))⟩
  ·exact fun β L c9 => ⟨_, rfl, .inl (OG.of_OL (OL.callM (v := .d (dI (tnext l 0 4))) (.mk (args' := [.ptr 1000 b31 0, .d (dI 4)]) rfl (.cons (vle_to (pG_new rfl (come_dep (j := 3) c9 (by kernel_rfl))) VLe.ptr) .rq1) (mem1_keep (id := 1000) (blk := tapeB b31 l 0) (pG_M (mfT_skip (show (1000:Nat) ≠ 11 by decide) (mfT_skip (show (1000:Nat) ≠ 11 by decide) (mfT_no (by exact come_lateT c9 (by kernel_rfl)) (mfT_no (by exact c9.no) rfl)))))) mem1_sub (tape_Next (by decide) nl)) ⟨β, pG_callT (d := 37) (i := 4) rfl (fun t ht => ownH5_inj ht) (lt_size 16 c9.size rfl (by decide)) (mfT_pass (lt_size 16 c9.size rfl (by decide)) (show (14:Nat) ≠ 4 by decide) (.inl (show (11:Nat) ≠ 1000 by decide)) (by exact fun _ => rfl) (mfT_pass (lt_size 16 c9.size rfl (by decide)) (show (13:Nat) ≠ 4 by decide) (.inl (show (11:Nat) ≠ 1000 by decide)) (by exact fun _ => rfl) (mfT_pass (lt_size 16 c9.size rfl (by decide)) (show (6:Nat) ≠ 4 by decide) (.inr (come_lateT c9 (by kernel_rfl))) (by exact fun _ => rfl) (mfT_here (lt_size 16 c9.size rfl (by decide)) rfl rfl rfl c9.no (by rfl) (fun y hy => absurd hy List.not_mem_nil)))))⟩))⟩
  ·exact fun β L c9 => ⟨_, rfl, .inl (OG.of_OL (bo rfl (pG_new rfl (come_dep (j := 4) c9 (by kernel_rfl))) (bin_add (c := (n4 : Int)) h4 (wrap_i64 (by omega))) ⟨β, pG_put (d := 38) (i := 5) rfl (fun t ht => ownH5_inj ht) (lt_size 16 c9.size rfl (by decide)) (mfT_same (lt_size 16 c9.size rfl (by decide)) (by rfl))⟩))⟩
  ·exact fun β L c9 => ⟨_, rfl, .inl (OG.of_OL (OL.callM (v := .d (dQs D)) (.mk (args' := [.ptr 1000 b31 0, .d (dI n4)]) rfl (.cons (vle_to (pG_new rfl (come_dep (j := 2) c9 (by kernel_rfl))) VLe.ptr) (.cons (vle_of_eq (pG_new rfl (come_dep (j := 5) c9 (by kernel_rfl)))) .nil)) (mem1_keep (id := 1000) (blk := tapeB b31 l (tat l 0)) (pG_M (mfT_skip (show (1000:Nat) ≠ 11 by decide) (mfT_skip (show (1000:Nat) ≠ 11 by decide) (mfT_no (by exact c9.no) (mfT_yes (come_dep (j := 4) c9 (by kernel_rfl)) rfl rfl)))))) mem1_sub hsh) ⟨β, pG_callT (d := 39) (i := 6) rfl (fun t ht => ownH5_inj ht) (lt_size 16 c9.size rfl (by decide)) (mfT_pass (lt_size 16 c9.size rfl (by decide)) (show (14:Nat) ≠ 6 by decide) (.inl (show (11:Nat) ≠ 1000 by decide)) (by exact fun _ => rfl) (mfT_pass (lt_size 16 c9.size rfl (by decide)) (show (13:Nat) ≠ 6 by decide) (.inl (show (11:Nat) ≠ 1000 by decide)) (by exact fun _ => rfl) (mfT_here (lt_size 16 c9.size rfl (by decide)) rfl rfl rfl c9.no (by rfl) (List.forall_mem_cons.2 ⟨(fun _ hne => absurd rfl hne), (fun y hy => absurd hy List.not_mem_nil)⟩))))⟩))⟩
  ·exact fun β L c9 => ⟨_, rfl, .inl (OG.of_OL (bd2 (cs := [_,_]) z.Stay pl.Stay (pvC (pG_new rfl (come_dep (j := 1) c9 (by kernel_rfl))) (pvC (pG_new rfl (come_dep (j := 6) c9 (by kernel_rfl))) pvN)) (by rfl) ⟨β, pG_put (d := 40) (i := 7) rfl (fun t ht => ownH5_inj ht) (lt_size 16 c9.size rfl (by decide)) (mfT_same (lt_size 16 c9.size rfl (by decide)) (by rfl))⟩))⟩
  ·exact fun β L c9 => ⟨_, rfl, .inl (OG.of_OL (lt1 (y := dStay s D) sl.Stays (vd_to (pG_new rfl (come_dep (j := 7) c9 (by kernel_rfl))) vd_stay) rfl (by decide) ⟨β, pG_put (d := 41) (i := 8) rfl (fun t ht => ownH5_inj ht) (lt_size 16 c9.size rfl (by decide)) (mfT_same (lt_size 16 c9.size rfl (by decide)) (by rfl))⟩))⟩
  ·exact fun β L c9 => ⟨_, rfl, .inl (OG.of_OL (clv rfl (.cons (vle_of_eq (pG_new rfl (come_dep (j := 0) c9 (by kernel_rfl)))) (.cons (vle_of_eq (pG_new rfl (come_dep (j := 8) c9 (by kernel_rfl)))) .nil)) (ExpandX g.w (s := s) (d := D) hs2 ⟨by omega, by omega⟩ hds hdz hdu (by omega)) ⟨β, pG_put (d := 42) (i := 9) rfl (fun t ht => ownH5_inj ht) (lt_size 16 c9.size rfl (by decide)) (mfT_same (lt_size 16 c9.size rfl (by decide)) (by rfl))⟩))⟩
  ·exact fun β L c9 => ⟨_, rfl, .inl (OG.of_OL (mvT (pG_new rfl (come_dep (j := 9) c9 (by kernel_rfl))) ⟨β, pG_put (d := 32) (i := 10) rfl (fun t ht => ownH5_inj ht) (lt_size 16 c9.size rfl (by decide)) (mfT_same (lt_size 16 c9.size rfl (by decide)) (by rfl))⟩))⟩
  ·exact fun β L c9 => ⟨_, rfl, .inl (OG.of_OL (ex (pG_new rfl (come_dep (j := 10) c9 (by kernel_rfl))) rfl ⟨β, pG_put (d := 43) (i := 11) rfl (fun t ht => ownH5_inj ht) (lt_size 16 c9.size rfl (by decide)) (mfT_same (lt_size 16 c9.size rfl (by decide)) (by rfl))⟩))⟩
  ·exact fun β L c9 => ⟨_, rfl, .inl (OG.of_OL (ex (pG_new rfl (come_dep (j := 10) c9 (by kernel_rfl))) rfl ⟨β, pG_put (d := 44) (i := 12) rfl (fun t ht => ownH5_inj ht) (lt_size 16 c9.size rfl (by decide)) (mfT_same (lt_size 16 c9.size rfl (by decide)) (by rfl))⟩))⟩
  ·exact fun β L c9 => ⟨_, rfl, .inl (OG.of_OL (al z.Hidden (pG_M (mfT_no (by exact come_lateT c9 (by kernel_rfl)) (mfT_no (by exact c9.no) (mfT_skip (show (11:Nat) ≠ 1000 by decide) (mfT_skip (show (11:Nat) ≠ 1000 by decide) rfl))))) fun b8 => ⟨upd β 11 (b8, 0), pG_set (d := 11) (i := 13) (x := (b8, 0)) rfl (fun t ht => ownH5_inj ht) (lt_size 16 c9.size rfl (by decide)) rfl (mfT_pass (lt_size 16 c9.size rfl (by decide)) (show (14:Nat) ≠ 13 by decide) (.inr (come_lateT c9 (by kernel_rfl))) (by exact fun e => come_notT c9 (by kernel_rfl) e) (mfT_here (lt_size 16 c9.size rfl (by decide)) rfl rfl rfl c9.no (by rfl) (List.forall_mem_cons.2 ⟨(by exact fun _ _ => rfl), (List.forall_mem_cons.2 ⟨(by exact fun _ _ => rfl), (fun y hy => absurd hy List.not_mem_nil)⟩)⟩))) (fun t j ho hl => by unfold ownH5 at ho; split at ho <;> cases ho <;> first | rfl | (rw [c9.no] at hl; cases hl) | exact come_notT c9 (by kernel_rfl) hl)⟩))⟩
  ·exact fun β L c9 => ⟨_, rfl, .inl (OG.of_OL (sto sz.Hidden (pG_new rfl (come_dep (j := 13) c9 (by kernel_rfl))) (pG_new rfl (come_dep (j := 11) c9 (by kernel_rfl))) rfl ((pG_M (mfT_no (by exact c9.no) (mfT_yes (come_dep (j := 13) c9 (by kernel_rfl)) rfl rfl))) : _ = some (.box (β 11).1 T.Hidden [.d (dI 0), .d (dI 0), .d (dB false), .mt, .mt, .mt, .mt, .mt, .mt, .mt, .mt])) rfl (nb9 rfl) (cells2 := [_,_,_,_,_,_,_,_,_,_,_]) rfl ⟨β, pG_mod (fun t ht => by unfold ownH5 at ht; split at ht <;> cases ht) (lt_size 16 c9.size rfl (by decide)) (mfT_here (lt_size 16 c9.size rfl (by decide)) rfl rfl rfl c9.no (by rfl) (List.forall_mem_cons.2 ⟨(fun _ hne => absurd rfl hne), (List.forall_mem_cons.2 ⟨(by exact fun _ _ => rfl), (List.forall_mem_cons.2 ⟨(by exact fun _ _ => rfl), (fun y hy => absurd hy List.not_mem_nil)⟩)⟩)⟩))⟩))⟩
 refine fun β L c9 hA => ⟨_, rfl, .inl (OG.of_OL (asD (y := dI 0) (pG_new rfl (hA 12 (by decide))) ?_))⟩
 refine OL.nil ?_
 refine AW.to [(7, .ptr 7 b7 0), (8, .ptr 8 b8 0), (9, .d (dI 0)), (11, .ptr 11 (β 11).1 0), (12, .d (dI 0))] [(7, .box b7 T.Hidden (cellsHM h)), (8, .box b8 T.Hidden (cellsHM h)), (11, .box (β 11).1 T.Hidden (cellsHM (xpHM h D s)))] (.cons (vle_of_eq (put_old (show (7:Nat) ≠ 12 by decide) ((pG_old rfl).trans rfl))) (.cons (vle_of_eq (put_old (show (8:Nat) ≠ 12 by decide) ((pG_old rfl).trans rfl))) (.cons (vle_of_eq (put_old (show (9:Nat) ≠ 12 by decide) ((pG_old rfl).trans rfl))) (.cons (vle_of_eq (put_old (show (11:Nat) ≠ 12 by decide) (pG_new rfl (hA 13 (by decide))))) (.cons (vle_of_eq put_new') (.nil)))))) (.cons (put_mem (pG_M (mfT_skip (show (7:Nat) ≠ 11 by decide) (mfT_skip (show (7:Nat) ≠ 11 by decide) (mfT_skip (show (7:Nat) ≠ 1000 by decide) (mfT_skip (show (7:Nat) ≠ 1000 by decide) rfl)))))) (.cons (put_mem (pG_M (mfT_skip (show (8:Nat) ≠ 11 by decide) (mfT_skip (show (8:Nat) ≠ 11 by decide) (mfT_skip (show (8:Nat) ≠ 1000 by decide) (mfT_skip (show (8:Nat) ≠ 1000 by decide) rfl)))))) (.cons (put_mem (pG_M (mfT_yes (hA 14 (by decide)) rfl rfl))) (.nil)))) ?_
 generalize (β 11).1 = b11
 refine AW.sg hE rfl (clv rfl (.nil) (law33_known) (mvD rfl (OL.yes rfl (mvD rfl (OL.yes rfl (c_eql rfl rfl (c := true) (by exact decide_eq_true (by omega)) (pkT rfl rfl ?_)))))))
 refine mvD rfl (OL.yes rfl (mvD rfl (OL.yes rfl (c_eql rfl rfl (c := true) (by exact decide_eq_true (by omega)) (pkT rfl rfl (mvD rfl (OL.yes rfl ?_)))))))
 refine ldPA ag.Hidden rfl rfl (vs := [_,_,_,_,_,_,_,_,_,_,_]) rfl (nb9 rfl) (OL.yes rfl (ldPA ag.Hidden rfl rfl (vs := [_,_,_,_,_,_,_,_,_,_,_]) rfl (nb9 rfl) (OL.yes rfl (clv rfl (.cons (VLe.refl _) (.cons (VLe.refl _) (.nil))) (ref33_Same (B := 1) g.form) (pkT rfl rfl (mvD rfl (OL.yes rfl ?_)))))))
 refine ldPA ag.Hidden rfl rfl (vs := [_,_,_,_,_,_,_,_,_,_,_]) rfl (nb9 rfl) (OL.yes rfl (clv rfl (.cons (VLe.refl _) (.nil)) (ref33_Valid gy) (OL.yes rfl (c_eql rfl rfl (c := true) (by exact decide_eq_true (by omega)) (pkT rfl rfl (asD rfl (OL.nil ?_)))))))
 exact AW.ret (RetQ.r ⟨_, .tmp rfl .nil, .le (VLe.refl _)⟩)
theorem law_HmmStaysOnce {L l : List Int} {cs cy sv : Int} (nL : L.length ≤ 9223372036854775807) (nl : l.length ≤ 9223372036854775807) : FSpec P F.law33_HmmStaysOnce [.ag [.d (dI cs), .d (dI cy), .d (ints L)], .d (ints l), .d (dI sv)] (.d (dB true)) := by
 have h1 := chain_Hidden (cs := cs) (cy := cy) (most := 3) (by decide) nL
 have h2 := chainHM_good L cs cy (most := 3) (by decide)
 have h3 := chainHM_st L cs cy (most := 3) (by decide)
 generalize chainHM L cs cy 3 = h at *
 exact law33_StaysOnceQ h1 h2 (by omega) nl
end Go.Proofs.YtippcclgnabpdaaGreatDoor

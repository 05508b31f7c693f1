/-
  The law OnlineActs (printed by mk2.py).
-/
import Derived.Test.YtjghehkgmanmbaaGreatKOxG
import Derived.Test.YtjghehkgmanmbaaGreatKMod34b
import Derived.Test.YtjghehkgmanmbaaGreatKMod37
set_option linter.unusedVariables false
set_option linter.unusedSimpArgs false
namespace Go.Proofs.YtjghehkgmanmbaaGreat
open Go Go.AL
theorem vd_q0B : VD (.ag [.d (dB false), .mt, .mt]) (dQ 0) := VD.ag vcs_q0
theorem vRM_rmOf (h : HM) : vRM (rmOf h) = vHM h := by
 have e : ∀ l : List Rat, dRs (l.map ofQ) = dQs l := fun l => by unfold dRs dQs; rw [List.map_map]; rfl
 have e2 : ∀ l : List (List Rat), dRss (l.map (List.map ofQ)) = dQss l := fun l => by
  unfold dRss dQss; rw [List.map_map]; congr 1; exact List.map_congr_left fun x _ => e x
 unfold vRM vHM rmOf
 rw [e, e, e2, e2]
structure Bnd (h : HM) : Prop where
 zE : sz h.empty ≤ 1048576
 zI : Small 1048576 h.ini
 zS : Small 1048576 h.stop
 zT : ∀ i, Small 1048576 (h.trans.getD i [])
 zM : ∀ i, Small 1048576 (h.emit.getD i [])
 lI : h.ini.length ≤ 1048576
 lS : h.stop.length ≤ 1048576
 lT : h.trans.length ≤ 1048576
 lM : h.emit.length ≤ 1048576
 lU : ∀ i, (h.trans.getD i []).length ≤ 1048576
 lV : ∀ i, (h.emit.getD i []).length ≤ 1048576
 lB : h.silent.length ≤ 1048576
 lK : h.ties.length ≤ 1048576
theorem bnd_form {h : HM} {B : Nat} (f : HM.FormX 1048576 B h) : Bnd h := by
 have n1 := f.st1
 have s1 := f.sym1
 have bB := f.bB
 have e1 := f.ini
 have e2 := f.trans
 have e3 := f.stop
 have e4 := f.emit
 have e5 := f.ties
 have e6 : h.silent.length = h.st := by rw [f.silent]; simp
 refine ⟨Nat.le_trans f.zE (by omega), f.zI.mono (by omega), f.zS.mono (by omega), fun i => (f.zT i).mono (by omega), fun i => (f.zM i).mono (by omega), by omega, by omega, by omega, by omega, fun i => ?_, fun i => ?_, by omega, by omega⟩
 ·exact (row_small f.trans f.trow f.zT (by omega) i).2
 ·exact (row_small f.emit f.erow f.zM (by omega) i).2
theorem bnd_zero : Bnd HM0 := ⟨by show sz 0 ≤ _; rw [sz_zero]; decide, Small.nil, Small.nil, fun i => Small.nil, fun i => Small.nil, by decide, by decide, by decide, by decide, fun i => (by rw [show HM0.trans = [] from rfl]; simp), fun i => (by rw [show HM0.emit = [] from rfl]; simp), by decide, by decide⟩
theorem known_push : someN pairHM ⟨0, [], [], []⟩ 0 2 = true ∧ cmtF pairHM ⟨0, [], [], []⟩ 0 2 = [0] := by decide +kernel
structure BndX (o : Dec) : Prop where
 z : Small 1073741824 o.sc
 ls : o.sc.length ≤ 1048576
 lt : o.tl.length ≤ 1048576
 tl : ∀ i, (o.tl.getD i []).length ≤ 1048576
 ld : o.dn.length ≤ 1048576
theorem bndX_zero : BndX DEC0 := ⟨Small.nil, Nat.zero_le _, Nat.zero_le _, fun i => (by show (([] : List (List Int)).getD i []).length ≤ _; simp), Nat.zero_le _⟩
theorem bndX_val {h : HM} {K : Nat} {o : Dec} (g : h.GoodW 1048576) (k : ValD K h o) : BndX o := by
 have n1 := g.form.st1
 refine ⟨k.small.mono k.K1.2, ?_, ?_, fun i => ?_, ?_⟩
 ·by_cases h0 : o.t = 0
  ·rw [(k.zero h0).1]; exact Nat.zero_le _
  ·rw [(k.len h0).1]; omega
 ·by_cases h0 : o.t = 0
  ·rw [(k.zero h0).2.1]; exact Nat.zero_le _
  ·rw [(k.len h0).2]; omega
 ·have := tails_lenV k i; omega
 ·have := done_lenV k; omega
theorem opH_bnd {h : RM} (zz : h.Sz) : Bnd (opH h) := by
 by_cases c : chkP h = 0
 ·rw [show opH h = hm h from if_pos c]; exact bnd_form (chkP_good zz c).1.form
 ·rw [show opH h = HM0 from if_neg c]; exact bnd_zero
section
variable {r : RDec} {s : Int}
theorem pshH_bnd (z : r.Sz) : Bnd (pshH r s) := by
 by_cases k : PushOK r s
 ·rw [(psh_ok k).1]
  unfold pushH
  split
  ·exact bnd_form (chkP_good z.m k.v.p).1.form
  ·exact bnd_zero
 ·rw [(psh_not k).1]; exact bnd_zero
theorem pshD_bnd (z : r.Sz) : BndX (pshD r s) := by
 by_cases k : PushOK r s
 ·rw [(psh_ok k).2.1]
  unfold pushD
  split
  ·rename_i hs
   have g := (chkP_good z.m k.v.p).1
   have h1 := k.v.time
   have h2 := k.t
   have h3 := k.v.t0
   exact bndX_val g (step_val g (k.v.val z) (show r.t.toNat ≤ 255 by omega) (by decide) (someN_iff.1 hs))
  ·exact bndX_zero
 ·rw [(psh_not k).2.1]; exact bndX_zero
theorem pshC_len (z : r.Sz) : (pshC r s).length ≤ 9223372036854775807 := by
 by_cases k : PushOK r s
 ·rw [(psh_ok k).2.2.1]
  unfold pushC
  split
  ·exact Nat.le_trans (cmt_len (tails_lenV (k.v.val z)) _) (by decide)
  ·exact Nat.zero_le _
 ·rw [(psh_not k).2.2]; exact Nat.zero_le _
theorem finP_len {h : HM} {K : Nat} {o : Dec} (k : ValD K h o) : (finP h o).length ≤ 512 := by
 have h1 := done_lenV k
 have h2 := fin_len (h := h) (tails_lenV k) o.sc.length
 unfold finP
 split
 ·exact Nat.zero_le _
 ·rw [List.length_append]; omega
theorem fnP_len (z : r.Sz) : (fnP r).length ≤ 9223372036854775807 := by
 by_cases v : VR r
 ·rw [show fnP r = finP (hm r.m) (decR r) from if_pos v]; exact Nat.le_trans (finP_len (v.val z)) (by decide)
 ·rw [show fnP r = [] from if_neg v]; exact Nat.zero_le _
theorem fnQ_sz (z : r.Sz) : sz (fnQ r) ≤ 68719476736 := by
 by_cases v : VR r
 ·rw [show fnQ r = (finF (hm r.m) (decR r) (decR r).sc.length).1 from if_pos v]; exact Nat.le_trans (fin_szV (chkP_good z.m v.p).1.form (v.val z) _) (by decide)
 ·rw [show fnQ r = 0 from if_neg v, sz_zero]; decide
end
section
variable {h : RM} {w : List Int}
theorem rwP_len (zz : h.Sz) : (rwP h w).length ≤ 9223372036854775807 := by
 by_cases e : wrdE h w = 0
 ·rw [(rw_yes e).2.1]
  obtain ⟨c, kw⟩ := wrdE_ok e
  by_cases a : allS (hm h) w w.length
  ·rw [(rn_all a).2.1]; exact Nat.le_trans (finP_len (run_val (chkP_good zz c).1 kw.1 w.length (Nat.le_refl _) a)) (by decide)
  ·rw [(rn_not a).2.1]; exact Nat.zero_le _
 ·rw [(rw_no e).2.1]; exact Nat.zero_le _
theorem rwQ_sz (zz : h.Sz) : sz (rwQ h w) ≤ 68719476736 := by
 by_cases e : wrdE h w = 0
 ·rw [(rw_yes e).2.2.1]
  obtain ⟨c, kw⟩ := wrdE_ok e
  by_cases a : allS (hm h) w w.length
  ·rw [(rn_all a).2.2]
   have k := run_val (chkP_good zz c).1 kw.1 w.length (Nat.le_refl _) a
   have h1 := fin_szV (chkP_good zz c).1.form k (runD (hm h) w w.length).1.sc.length
   have h2 := kw.1
   omega
  ·rw [(rn_not a).2.2.1, sz_zero]; decide
 ·rw [(rw_no e).2.2.1, sz_zero]; decide
theorem rwW_len (zz : h.Sz) : (rwW h w).length ≤ 9223372036854775807 := by
 by_cases e : wrdE h w = 0
 ·rw [(rw_yes e).2.2.2]
  obtain ⟨c, kw⟩ := wrdE_ok e
  unfold rnW
  split
  ·rename_i a
   have k := run_val (chkP_good zz c).1 kw.1 w.length (Nat.le_refl _) a.1
   have h1 := finP_len k
   have h2 := done_lenV k
   have h3 := run_len (hm h) w w.length
   rw [List.length_append, List.length_replicate]
   omega
  ·exact Nat.zero_le _
 ·rw [(rw_no e).2.2.2]; exact Nat.zero_le _
end
theorem ref01_sameL {L : List Nat} (nL : L.length ≤ 8796093022208) : FSpec P F.ref01_same [.d (u32s L), .d (u32s L)] (.d (dB true)) := by
 refine FSpec.intro fn.ref01_same (by rfl) (by rfl) (nb9 (by rfl)) fun E hE => (AW.sg hE rfl (asD rfl (OL.nil (AW.seq (AW.sg hE rfl (mvD rfl (lnL sl.u32s rfl rfl ?_)))))))
 refine mvD rfl (lnL sl.u32s rfl rfl (c_neq rfl rfl (c := false) (cne_f rfl) (OL.nil (AW.cond rfl (fun hno => absurd hno (by decide)) (fun _ => ?_)))))
 refine AW.skip (AW.seq (AW.sg hE rfl (asD rfl (OL.nil (AW.block (AW.whileK (α := Nat) [(0, _), (1, _)] [] (fun i => [(5, .d (dI i))]) (fun i => []) (fun i => i ≤ L.length) (fun i => L.length - i) 0 (.cons (knD rfl) (.cons (knD rfl) .nil)) .nil ⟨Nat.zero_le _, .rq1, .nil⟩ ?_))))))
 intro i h1
 have h1 : i ≤ L.length := h1
 refine AW.seq (AW.sg hE rfl (mvD rfl (mvD rfl (lnL sl.u32s rfl rfl (c_lss rfl rfl rfl (OL.nil (AW.cond rfl (fun h14 => ?_) (fun h14 => ?_))))))))
 ·try simp only [dx9] at h14
  refine AW.skip (AW.seq (AW.block (AW.seq (AW.dg 1 [0,1,2,3,4,5,6,7,8] order_free hE rfl (by kernel_rfl) (OI.of_OL (os := [_,_,_,_,_,_,_,_,_]) rfl ?_)))))
  refine mvD rfl (mvD rfl (ixLn sl.u32s 0 rfl rfl (by omega) rfl rfl (ldRC ce.u32 rfl (mvD rfl (mvD rfl (ixLn sl.u32s 0 rfl rfl (by omega) rfl rfl (ldRC ce.u32 rfl ?_)))))))
  refine c_neq rfl rfl (c := false) (cne_f rfl) (OL.nil (AW.cond rfl (fun hno => absurd hno (by decide)) (fun _ => ?_)))
  exact AW.skip (AW.rg hE rfl (mvD rfl (add_i64 rfl rfl (by omega) (asD rfl (OL.nil (AW.again (x := i) (i + 1) (by omega) ⟨by omega, Knows.app .rq2 .rq1, .nil⟩))))))
 ·try simp only [dx9] at h14
  exact AW.exit (AW.sg hE rfl (asD rfl (OL.nil (AW.ret (RetQ.r ⟨_, .tmp rfl .nil, .le (VLe.refl _)⟩)))))
theorem ref01_SameQ {q : Rat} (hz : sz q ≤ 68719476736) : FSpec P F.ref01_Same [vQ q, vQ q] (.d (dB true)) := by
 have s1 := sz_num q
 have s2 := sz_den q
 have l1 : (ofQ q).num.length ≤ 8796093022208 := by rw [show (ofQ q).num = lim q.num.natAbs from rfl]; omega
 have l2 : (ofQ q).den.length ≤ 8796093022208 := by by_cases e : q.den = 1 <;> simp [ofQ, e]; omega
 refine FSpec.intro fn.ref01_Same (by rfl) (by rfl) (nb9 (by rfl)) fun E hE => (AW.sg hE rfl (bxA rfl rfl fun b2 => (bxA rfl rfl fun b3 => (asD rfl (OL.nil (AW.sg hE rfl (faP fd.Rat_0 rfl rfl ?_)))))))
 refine ldPC ce.bool rfl rfl rfl (faP fd.Rat_0 rfl rfl (ldPC ce.bool rfl rfl rfl (eqb bt.bool rfl rfl ?_)))
 rw [beq_self_eq_true]
 refine mvD rfl (OL.yes rfl (faP fd.Rat_1 rfl rfl (OL.yes rfl (ldPC ce.u32s rfl rfl rfl (OL.yes rfl (faP fd.Rat_1 rfl rfl (OL.yes rfl ?_)))))))
 refine ldPC ce.u32s rfl rfl rfl (OL.yes rfl (clv rfl (.cons (VLe.refl _) (.cons (VLe.refl _) (.nil))) (ref01_sameL l1) (pkT rfl rfl (mvD rfl (OL.yes rfl (faP fd.Rat_2 rfl rfl (OL.yes rfl ?_)))))))
 refine ldPC ce.u32s rfl rfl rfl (OL.yes rfl (faP fd.Rat_2 rfl rfl (OL.yes rfl (ldPC ce.u32s rfl rfl rfl (OL.yes rfl (clv rfl (.cons (VLe.refl _) (.cons (VLe.refl _) (.nil))) (ref01_sameL l2) (pkT rfl rfl ?_)))))))
 exact asD rfl (OL.nil (AW.ret (RetQ.r ⟨_, .tmp rfl .nil, .le (VLe.refl _)⟩)))
theorem ref33_fields {l : List Rat} {C : Nat} (hz : Small C l) (hC : 1 ≤ C ∧ C ≤ 68719476736) (nl : l.length ≤ 1048576) : FSpec P F.ref33_fields [.d (dQs l), .d (dQs l)] (.d (dB true)) := by
 refine FSpec.intro fn.ref33_fields (by rfl) (by rfl) (nb9 (by rfl)) fun E hE => (AW.sg hE rfl (asD rfl (OL.nil (AW.seq (AW.sg hE rfl (mvD rfl (lnL sl.Rats rfl rfl ?_)))))))
 refine mvD rfl (lnL sl.Rats rfl rfl (c_neq rfl rfl (c := false) (cne_f rfl) (OL.nil (AW.cond rfl (fun hno => absurd hno (by decide)) (fun _ => ?_)))))
 refine AW.skip (AW.seq (AW.sg hE rfl (asD rfl (OL.nil (AW.block (AW.whileK (α := Nat) [(0, _), (1, _)] [] (fun i => [(5, .d (dI i))]) (fun i => []) (fun i => i ≤ l.length) (fun i => l.length - i) 0 (.cons (knD rfl) (.cons (knD rfl) .nil)) .nil ⟨Nat.zero_le _, .rq1, .nil⟩ ?_))))))
 intro i h1
 have h1 : i ≤ l.length := h1
 refine AW.seq (AW.sg hE rfl (mvD rfl (mvD rfl (lnL sl.Rats rfl rfl (c_lss rfl rfl rfl (OL.nil (AW.cond rfl (fun h14 => ?_) (fun h14 => ?_))))))))
 ·try simp only [dx9] at h14
  refine AW.skip (AW.seq (AW.block (AW.seq ?_)))
  have zi := hz.get hC.1 i
  refine AW.dg 1 [0,1,2,3,4,5,6,7,8,9] order_free hE rfl (by kernel_rfl) (OI.of_OL (os := [_,_,_,_,_,_,_,_,_,_]) rfl ?_)
  refine mvD rfl (mvD rfl (ixLn sl.Rats 0 rfl rfl (by omega) rfl rfl (ldRA ag.Rat rfl (vs := [_,_,_]) rfl (nb9 rfl) (mvD rfl (mvD rfl (ixLn sl.Rats 0 rfl rfl (by omega) rfl rfl (ldRA ag.Rat rfl (vs := [_,_,_]) rfl (nb9 rfl) ?_)))))))
  refine clv rfl (.cons (VLe.refl _) (.cons (VLe.refl _) (.nil))) (ref01_SameQ (q := l.getD i 0) (by omega)) (nt rfl (OL.nil (AW.cond rfl (fun hno => absurd hno (by decide)) (fun _ => ?_))))
  exact AW.skip (AW.rg hE rfl (mvD rfl (add_i64 rfl rfl (by omega) (asD rfl (OL.nil (AW.again (x := i) (i + 1) (by omega) ⟨by omega, Knows.app .rq2 .rq1, .nil⟩))))))
 ·try simp only [dx9] at h14
  exact AW.exit (AW.sg hE rfl (asD rfl (OL.nil (AW.ret (RetQ.r ⟨_, .tmp rfl .nil, .le (VLe.refl _)⟩)))))
set_option maxRecDepth 6000 in
set_option maxHeartbeats 1600000 in
theorem ref33_SameM {h : HM} (b : Bnd h) : FSpec P F.ref33_Same [vHM h, vHM h] (.d (dB true)) := by
 have zE := b.zE
 have lI := b.lI
 have lS := b.lS
 have lT := b.lT
 have lM := b.lM
 have lB := b.lB
 have lK := b.lK
 refine FSpec.intro fn.ref33_Same (by rfl) (by rfl) (nb9 (by rfl)) fun E hE => (AW.sg hE rfl (bxA rfl rfl fun b2 => (bxA rfl rfl fun b3 => (asD rfl (OL.nil (AW.seq (AW.sg hE rfl ?_)))))))
 refine faP fd.Hidden_0 rfl rfl (ldPC ce.int rfl rfl rfl (faP fd.Hidden_0 rfl rfl (ldPC ce.int rfl rfl rfl (c_neq rfl rfl (c := false) (cne_f rfl) (mvD rfl (OL.yes rfl (faP fd.Hidden_1 rfl rfl ?_)))))))
 refine OL.yes rfl (ldPC ce.int rfl rfl rfl (OL.yes rfl (faP fd.Hidden_1 rfl rfl (OL.yes rfl (ldPC ce.int rfl rfl rfl (OL.yes rfl (c_neq rfl rfl (c := false) (cne_f rfl) ?_)))))))
 refine pkF rfl rfl (mvD rfl (OL.yes rfl (faP fd.Hidden_2 rfl rfl (OL.yes rfl (ldPA ag.Rat rfl rfl (vs := [_,_,_]) rfl (nb9 rfl) (OL.yes rfl (faP fd.Hidden_2 rfl rfl ?_)))))))
 refine OL.yes rfl (ldPA ag.Rat rfl rfl (vs := [_,_,_]) rfl (nb9 rfl) (OL.yes rfl (clv rfl (.cons (VLe.refl _) (.cons (VLe.refl _) (.nil))) (ref01_SameQ (q := h.empty) (by omega)) (OL.yes rfl (nt rfl (pkF rfl rfl (mvD rfl ?_)))))))
 refine OL.yes rfl (faP fd.Hidden_3 rfl rfl (OL.yes rfl (ldPC ce.Rats rfl rfl rfl (OL.yes rfl (faP fd.Hidden_3 rfl rfl (OL.yes rfl (ldPC ce.Rats rfl rfl rfl ?_)))))))
 refine OL.yes rfl (clv rfl (.cons (VLe.refl _) (.cons (VLe.refl _) (.nil))) (ref33_fields b.zI (by decide : 1 ≤ 1048576 ∧ 1048576 ≤ 68719476736) lI) (OL.yes rfl (nt rfl (pkF rfl rfl (mvD rfl (OL.yes rfl (faP fd.Hidden_5 rfl rfl ?_)))))))
 refine OL.yes rfl (ldPC ce.Rats rfl rfl rfl (OL.yes rfl (faP fd.Hidden_5 rfl rfl (OL.yes rfl (ldPC ce.Rats rfl rfl rfl (OL.yes rfl (clv rfl (.cons (VLe.refl _) (.cons (VLe.refl _) (.nil))) (ref33_fields b.zS (by decide : 1 ≤ 1048576 ∧ 1048576 ≤ 68719476736) lS) ?_)))))))
 refine OL.yes rfl (nt rfl (pkF rfl rfl (mvD rfl (OL.yes rfl (faP fd.Hidden_4 rfl rfl (OL.yes rfl (ldPC ce.Ratss rfl rfl rfl ?_)))))))
 refine OL.yes rfl (lnL sl.Ratss rfl rfl (OL.yes rfl (faP fd.Hidden_4 rfl rfl (OL.yes rfl (ldPC ce.Ratss rfl rfl rfl (OL.yes rfl (lnL sl.Ratss rfl rfl ?_)))))))
 refine OL.yes rfl (c_neq rfl rfl (c := false) (cne_f rfl) (pkF rfl rfl (mvD rfl (OL.yes rfl (faP fd.Hidden_6 rfl rfl (OL.yes rfl (ldPC ce.Ratss rfl rfl rfl ?_)))))))
 refine OL.yes rfl (lnL sl.Ratss rfl rfl (OL.yes rfl (faP fd.Hidden_6 rfl rfl (OL.yes rfl (ldPC ce.Ratss rfl rfl rfl (OL.yes rfl (lnL sl.Ratss rfl rfl ?_)))))))
 refine OL.yes rfl (c_neq rfl rfl (c := false) (cne_f rfl) (pkF rfl rfl (mvD rfl (OL.yes rfl (faP fd.Hidden_7 rfl rfl (OL.yes rfl (ldPC ce.bools rfl rfl rfl ?_)))))))
 refine OL.yes rfl (lnL sl.bools rfl rfl (OL.yes rfl (faP fd.Hidden_7 rfl rfl (OL.yes rfl (ldPC ce.bools rfl rfl rfl (OL.yes rfl (lnL sl.bools rfl rfl ?_)))))))
 refine OL.yes rfl (c_neq rfl rfl (c := false) (cne_f rfl) (pkF rfl rfl (mvD rfl (OL.yes rfl (faP fd.Hidden_8 rfl rfl (OL.yes rfl (ldPC ce.ints rfl rfl rfl ?_)))))))
 refine OL.yes rfl (lnL sl.ints rfl rfl (OL.yes rfl (faP fd.Hidden_8 rfl rfl (OL.yes rfl (ldPC ce.ints rfl rfl rfl (OL.yes rfl (lnL sl.ints rfl rfl ?_)))))))
 refine OL.yes rfl (c_neq rfl rfl (c := false) (cne_f rfl) (pkF rfl rfl (OL.nil (AW.cond rfl (fun hno => absurd hno (by decide)) (fun _ => ?_)))))
 refine AW.skip (AW.seq (AW.sg hE rfl (asD rfl (OL.nil (AW.block ?_)))))
 refine AW.whileK (α := Nat) [(2, _), (3, _)] [(2, _), (3, _)] (fun i => [(5, .d (dI i))]) (fun i => []) (fun i => i ≤ h.trans.length) (fun i => h.trans.length - i) 0 (.cons (knP rfl) (.cons (knP rfl) .nil)) (.cons (owB rfl) (.cons (owB rfl) .nil)) ⟨Nat.zero_le _, .rq1, .nil⟩ ?_
 intro i h1
 have h1 : i ≤ h.trans.length := h1
 refine AW.seq (AW.sg hE rfl (mvD rfl (faP fd.Hidden_4 rfl rfl (ldPC ce.Ratss rfl rfl rfl (lnL sl.Ratss rfl rfl (c_lss rfl rfl rfl (OL.nil ?_)))))))
 refine AW.cond rfl (fun h85 => ?_) (fun h85 => ?_)
 ·try simp only [dx9] at h85
  refine AW.skip (AW.seq (AW.block (AW.seq (AW.dg 1 [0,1,2,3,4,5,6,7,8,9,10,11] order_free hE rfl (by kernel_rfl) (OI.of_OL (os := [_,_,_,_,_,_,_,_,_,_,_,_]) rfl ?_)))))
  refine faP fd.Hidden_4 rfl rfl (ldPC ce.Ratss rfl rfl rfl (mvD rfl (ixLn sl.Ratss [] rfl rfl (by omega) rfl rfl (ldRC ce.Rats rfl (faP fd.Hidden_4 rfl rfl (ldPC ce.Ratss rfl rfl rfl (mvD rfl ?_)))))))
  refine ixLn sl.Ratss [] rfl rfl (by omega) rfl rfl (ldRC ce.Rats rfl (clv rfl (.cons (VLe.refl _) (.cons (VLe.refl _) (.nil))) (ref33_fields (b.zT i) (by decide : 1 ≤ 1048576 ∧ 1048576 ≤ 68719476736) (b.lU i)) (nt rfl (OL.nil (AW.cond rfl (fun hno => absurd hno (by decide)) (fun _ => ?_))))))
  exact AW.skip (AW.rg hE rfl (mvD rfl (add_i64 rfl rfl (by omega) (asD rfl (OL.nil (AW.again (x := i) (i + 1) (by omega) ⟨by omega, Knows.app .rq2 .rq1, Owns.app (.cons rfl (.cons rfl .nil)) (.nil)⟩))))))
 ·try simp only [dx9] at h85
  refine AW.exit (AW.seq (AW.sg hE rfl (asD rfl (OL.nil (AW.block ?_)))))
  refine AW.whileK (α := Nat) [(2, _), (3, _)] [(2, _), (3, _)] (fun i => [(6, .d (dI i))]) (fun i => []) (fun i => i ≤ h.emit.length) (fun i => h.emit.length - i) 0 (.cons (knP rfl) (.cons (knP rfl) .nil)) (.cons (owB rfl) (.cons (owB rfl) .nil)) ⟨Nat.zero_le _, .rq1, .nil⟩ ?_
  intro i h1
  have h1 : i ≤ h.emit.length := h1
  refine AW.seq (AW.sg hE rfl (mvD rfl (faP fd.Hidden_6 rfl rfl (ldPC ce.Ratss rfl rfl rfl (lnL sl.Ratss rfl rfl (c_lss rfl rfl rfl (OL.nil ?_)))))))
  refine AW.cond rfl (fun h104 => ?_) (fun h104 => ?_)
  ·try simp only [dx9] at h104
   refine AW.skip (AW.seq (AW.block (AW.seq (AW.dg 1 [0,1,2,3,4,5,6,7,8,9,10,11] order_free hE rfl (by kernel_rfl) (OI.of_OL (os := [_,_,_,_,_,_,_,_,_,_,_,_]) rfl ?_)))))
   refine faP fd.Hidden_6 rfl rfl (ldPC ce.Ratss rfl rfl rfl (mvD rfl (ixLn sl.Ratss [] rfl rfl (by omega) rfl rfl (ldRC ce.Rats rfl (faP fd.Hidden_6 rfl rfl (ldPC ce.Ratss rfl rfl rfl (mvD rfl ?_)))))))
   refine ixLn sl.Ratss [] rfl rfl (by omega) rfl rfl (ldRC ce.Rats rfl (clv rfl (.cons (VLe.refl _) (.cons (VLe.refl _) (.nil))) (ref33_fields (b.zM i) (by decide : 1 ≤ 1048576 ∧ 1048576 ≤ 68719476736) (b.lV i)) (nt rfl (OL.nil (AW.cond rfl (fun hno => absurd hno (by decide)) (fun _ => ?_))))))
   exact AW.skip (AW.rg hE rfl (mvD rfl (add_i64 rfl rfl (by omega) (asD rfl (OL.nil (AW.again (x := i) (i + 1) (by omega) ⟨by omega, Knows.app .rq2 .rq1, Owns.app (.cons rfl (.cons rfl .nil)) (.nil)⟩))))))
  ·try simp only [dx9] at h104
   refine AW.exit (AW.seq (AW.sg hE rfl (asD rfl (OL.nil (AW.block ?_)))))
   refine AW.whileK (α := Nat) [(2, _), (3, _)] [(2, _), (3, _)] (fun i => [(7, .d (dI i))]) (fun i => []) (fun i => i ≤ h.silent.length) (fun i => h.silent.length - i) 0 (.cons (knP rfl) (.cons (knP rfl) .nil)) (.cons (owB rfl) (.cons (owB rfl) .nil)) ⟨Nat.zero_le _, .rq1, .nil⟩ ?_
   intro i h1
   have h1 : i ≤ h.silent.length := h1
   refine AW.seq (AW.sg hE rfl (mvD rfl (faP fd.Hidden_7 rfl rfl (ldPC ce.bools rfl rfl rfl (lnL sl.bools rfl rfl (c_lss rfl rfl rfl (OL.nil ?_)))))))
   refine AW.cond rfl (fun h123 => ?_) (fun h123 => ?_)
   ·try simp only [dx9] at h123
    refine AW.skip (AW.seq (AW.block (AW.seq (AW.dg 1 [0,1,2,3,4,5,6,7,8,9,10] order_free hE rfl (by kernel_rfl) (OI.of_OL (os := [_,_,_,_,_,_,_,_,_,_,_]) rfl ?_)))))
    refine faP fd.Hidden_7 rfl rfl (ldPC ce.bools rfl rfl rfl (mvD rfl (ixLn sl.bools false rfl rfl (by omega) rfl rfl (ldRC ce.bool rfl (faP fd.Hidden_7 rfl rfl (ldPC ce.bools rfl rfl rfl (mvD rfl ?_)))))))
    refine ixLn sl.bools false rfl rfl (by omega) rfl rfl (ldRC ce.bool rfl (neb bt.bool rfl rfl ?_))
    rw [beq_self_eq_true]
    refine OL.nil (AW.cond rfl (fun hno => absurd hno (by decide)) (fun _ => ?_))
    exact AW.skip (AW.rg hE rfl (mvD rfl (add_i64 rfl rfl (by omega) (asD rfl (OL.nil (AW.again (x := i) (i + 1) (by omega) ⟨by omega, Knows.app .rq2 .rq1, Owns.app (.cons rfl (.cons rfl .nil)) (.nil)⟩))))))
   ·try simp only [dx9] at h123
    refine AW.exit (AW.seq (AW.sg hE rfl (asD rfl (OL.nil (AW.block ?_)))))
    refine AW.whileK (α := Nat) [(2, _), (3, _)] [(2, _), (3, _)] (fun i => [(8, .d (dI i))]) (fun i => []) (fun i => i ≤ h.ties.length) (fun i => h.ties.length - i) 0 (.cons (knP rfl) (.cons (knP rfl) .nil)) (.cons (owB rfl) (.cons (owB rfl) .nil)) ⟨Nat.zero_le _, .rq1, .nil⟩ ?_
    intro i h1
    have h1 : i ≤ h.ties.length := h1
    refine AW.seq (AW.sg hE rfl (mvD rfl (faP fd.Hidden_8 rfl rfl (ldPC ce.ints rfl rfl rfl (lnL sl.ints rfl rfl (c_lss rfl rfl rfl (OL.nil ?_)))))))
    refine AW.cond rfl (fun h141 => ?_) (fun h141 => ?_)
    ·try simp only [dx9] at h141
     refine AW.skip (AW.seq (AW.block (AW.seq (AW.dg 1 [0,1,2,3,4,5,6,7,8,9,10] order_free hE rfl (by kernel_rfl) (OI.of_OL (os := [_,_,_,_,_,_,_,_,_,_,_]) rfl ?_)))))
     refine faP fd.Hidden_8 rfl rfl (ldPC ce.ints rfl rfl rfl (mvD rfl (ixLn sl.ints 0 rfl rfl (by omega) rfl rfl (ldRC ce.int rfl (faP fd.Hidden_8 rfl rfl (ldPC ce.ints rfl rfl rfl (mvD rfl ?_)))))))
     refine ixLn sl.ints 0 rfl rfl (by omega) rfl rfl (ldRC ce.int rfl (c_neq rfl rfl (c := false) (cne_f rfl) (OL.nil (AW.cond rfl (fun hno => absurd hno (by decide)) (fun _ => ?_)))))
     exact AW.skip (AW.rg hE rfl (mvD rfl (add_i64 rfl rfl (by omega) (asD rfl (OL.nil (AW.again (x := i) (i + 1) (by omega) ⟨by omega, Knows.app .rq2 .rq1, Owns.app (.cons rfl (.cons rfl .nil)) (.nil)⟩))))))
    ·try simp only [dx9] at h141
     exact AW.exit (AW.sg hE rfl (asD rfl (OL.nil (AW.ret (RetQ.r ⟨_, .tmp rfl .nil, .le (VLe.refl _)⟩)))))
theorem ref33_SameRatsX {l m : List Rat} {B : Nat} (zl : Small B l) (zm : Small B m) (hB : 1 ≤ B ∧ B ≤ 68719476736 ∧ l.length ≤ 1099511627776) : FSpec P F.ref33_SameRats [.d (dQs l), .d (dQs m)] (.d (dB (decide (l = m)))) := by
 refine FSpec.intro fn.ref33_SameRats (by rfl) (by rfl) (nb9 (by rfl)) fun E hE => (AW.sg hE rfl (asD rfl (OL.nil (AW.seq (AW.sg hE rfl (mvD rfl (lnL sl.Rats rfl rfl ?_)))))))
 refine mvD rfl (lnL sl.Rats rfl rfl (c_neq rfl rfl rfl (OL.nil (AW.cond rfl (fun h10 => ?_) (fun h10 => ?_)))))
 ·have hl : l.length ≠ m.length := by simp at h10; omega
  exact AW.sg hE rfl (asD rfl (OL.nil (AW.ret (RetQ.r ⟨_, .tmp rfl .nil, .le (VLe.bool ((decide_eq_false fun e => hl (by rw [e])).symm))⟩))))
 ·have hl : l.length = m.length := by simp at h10; omega
  refine AW.skip (AW.seq (AW.sg hE rfl (asD rfl (OL.nil (AW.block ?_)))))
  refine AW.whileK (α := Nat) [(0, _), (1, _)] [] (fun i => [(5, .d (dI i))]) (fun i => []) (fun i => i ≤ l.length ∧ ∀ j, j < i → l.getD j 0 = m.getD j 0) (fun i => l.length - i) 0 (.cons (knD rfl) (.cons (knD rfl) .nil)) .nil ⟨⟨Nat.zero_le _, fun j hj => by omega⟩, .rq1, .nil⟩ ?_
  rintro i ⟨h1, h2⟩
  refine AW.seq (AW.sg hE rfl (mvD rfl (mvD rfl (lnL sl.Rats rfl rfl (c_lss rfl rfl rfl (OL.nil (AW.cond rfl (fun h14 => ?_) (fun h14 => ?_))))))))
  ·try simp only [dx9] at h14
   refine AW.skip (AW.seq (AW.block (AW.seq ?_)))
   have z1 := zl.get hB.1 i
   have z2 := zm.get hB.1 i
   refine AW.dg 1 [0,1,2,3,4,5,6,7,8,9] order_free hE rfl (by kernel_rfl) (OI.of_OL (os := [_,_,_,_,_,_,_,_,_,_]) rfl ?_)
   refine mvD rfl (mvD rfl (ixLn sl.Rats 0 rfl rfl (by omega) rfl rfl (ldRA ag.Rat rfl (vs := [_,_,_]) rfl (nb9 rfl) (mvD rfl (mvD rfl (ixLn sl.Rats 0 rfl rfl (by omega) rfl rfl (ldRA ag.Rat rfl (vs := [_,_,_]) rfl (nb9 rfl) ?_)))))))
   refine clv rfl .rq2 (ref_CompareQ (by omega) (by omega)) (c_neq rfl rfl rfl (OL.nil (AW.cond rfl (fun hc => ?_) (fun hc => ?_))))
   ·have hc : l.getD i 0 ≠ m.getD i 0 := fun e => by rw [cmpQ_eq.2 e] at hc; simp at hc
    exact AW.sg hE rfl (asD rfl (OL.nil (AW.ret (RetQ.r ⟨_, .tmp rfl .nil, .le (VLe.bool ((decide_eq_false fun e => hc (by rw [e])).symm))⟩))))
   ·have hc : l.getD i 0 = m.getD i 0 := cmpQ_eq.1 (by simpa using hc)
    exact AW.skip (AW.rg hE rfl (mvD rfl (add_i64 rfl rfl (by omega) (asD rfl (OL.nil (AW.again (x := i) (i + 1) (by omega) ⟨⟨by omega, fun j hj => by rcases Nat.lt_or_ge j i with h | h; exact h2 j h; obtain rfl : j = i := (by omega); exact hc⟩, Knows.app .rq2 .rq1, .nil⟩))))))
  ·try simp only [dx9] at h14
   exact AW.exit (AW.sg hE rfl (asD rfl (OL.nil (AW.ret (RetQ.r ⟨_, .tmp rfl .nil, .le (VLe.bool ((decide_eq_true (list_eq_getD hl 0 fun j hj => h2 j (by omega))).symm))⟩)))))
set_option maxRecDepth 6000 in
set_option maxHeartbeats 1600000 in
theorem ref37_SameX {h : HM} {o : Dec} (b : Bnd h) (d : BndX o) : FSpec P F.ref37_Same [vOn h o, vOn h o] (.d (dB true)) := by
 have ls := d.ls
 have lt := d.lt
 have ld := d.ld
 refine FSpec.intro fn.ref37_Same (by rfl) (by rfl) (nb9 (by rfl)) fun E hE => (AW.sg hE rfl (bxA rfl rfl fun b2 => (bxA rfl rfl fun b3 => (asD rfl (OL.nil (AW.seq (AW.sg hE rfl ?_)))))))
 refine faP fd.Online_0 rfl rfl (ldPA ag.Hidden rfl rfl (vs := [_,_,_,_,_,_,_,_,_,_,_]) rfl (nb9 rfl) (faP fd.Online_0 rfl rfl (ldPA ag.Hidden rfl rfl (vs := [_,_,_,_,_,_,_,_,_,_,_]) rfl (nb9 rfl) (clv rfl (.cons (VLe.refl _) (.cons (VLe.refl _) (.nil))) (ref33_SameM b) (nt rfl (mvD rfl (OL.yes rfl ?_)))))))
 refine faP fd.Online_1 rfl rfl (OL.yes rfl (ldPC ce.int rfl rfl rfl (OL.yes rfl (faP fd.Online_1 rfl rfl (OL.yes rfl (ldPC ce.int rfl rfl rfl (OL.yes rfl ?_)))))))
 refine c_neq rfl rfl (c := false) (cne_f rfl) (pkF rfl rfl (mvD rfl (OL.yes rfl (faP fd.Online_2 rfl rfl (OL.yes rfl (ldPC ce.Rats rfl rfl rfl (OL.yes rfl ?_)))))))
 refine faP fd.Online_2 rfl rfl (OL.yes rfl (ldPC ce.Rats rfl rfl rfl (OL.yes rfl (clv rfl (.cons (VLe.refl _) (.cons (VLe.refl _) (.nil))) (ref33_SameRatsX d.z d.z ⟨by decide, by decide, by omega⟩) ?_))))
 rw [decide_eq_true rfl]
 refine OL.yes rfl (nt rfl (pkF rfl rfl (mvD rfl (OL.yes rfl (faP fd.Online_3 rfl rfl (OL.yes rfl (ldPC ce.intss rfl rfl rfl ?_)))))))
 refine OL.yes rfl (lnL sl.intss rfl rfl (OL.yes rfl (faP fd.Online_3 rfl rfl (OL.yes rfl (ldPC ce.intss rfl rfl rfl (OL.yes rfl (lnL sl.intss rfl rfl ?_)))))))
 refine OL.yes rfl (c_neq rfl rfl (c := false) (cne_f rfl) (pkF rfl rfl (mvD rfl (OL.yes rfl (faP fd.Online_4 rfl rfl (OL.yes rfl (ldPC ce.ints rfl rfl rfl ?_)))))))
 refine OL.yes rfl (faP fd.Online_4 rfl rfl (OL.yes rfl (ldPC ce.ints rfl rfl rfl (OL.yes rfl (clv rfl (.cons (VLe.refl _) (.cons (VLe.refl _) (.nil))) (ref05_CompareS (by omega)) ?_)))))
 rw [cmpS_self]
 refine OL.yes rfl (c_neq rfl rfl (c := false) (cne_f rfl) (pkF rfl rfl (OL.nil (AW.cond rfl (fun hno => absurd hno (by decide)) (fun _ => ?_)))))
 refine AW.skip (AW.seq (AW.sg hE rfl (asD rfl (OL.nil (AW.block ?_)))))
 refine AW.whileK (α := Nat) [(2, _), (3, _)] [(2, _), (3, _)] (fun i => [(5, .d (dI i))]) (fun i => []) (fun i => i ≤ o.tl.length) (fun i => o.tl.length - i) 0 (.cons (knP rfl) (.cons (knP rfl) .nil)) (.cons (owB rfl) (.cons (owB rfl) .nil)) ⟨Nat.zero_le _, .rq1, .nil⟩ ?_
 intro i h1
 have h1 : i ≤ o.tl.length := h1
 refine AW.seq (AW.sg hE rfl (mvD rfl (faP fd.Online_3 rfl rfl (ldPC ce.intss rfl rfl rfl (lnL sl.intss rfl rfl (c_lss rfl rfl rfl (OL.nil ?_)))))))
 refine AW.cond rfl (fun h48 => ?_) (fun h48 => ?_)
 ·try simp only [dx9] at h48
  refine AW.skip (AW.seq (AW.block (AW.seq ?_)))
  have dt := d.tl i
  refine AW.dg 1 [0,1,2,3,4,5,6,7,8,9,10,11] order_free hE rfl (by kernel_rfl) (OI.of_OL (os := [_,_,_,_,_,_,_,_,_,_,_,_]) rfl ?_)
  refine faP fd.Online_3 rfl rfl (ldPC ce.intss rfl rfl rfl (mvD rfl (ixLn sl.intss [] rfl rfl (by omega) rfl rfl (ldRC ce.ints rfl (faP fd.Online_3 rfl rfl (ldPC ce.intss rfl rfl rfl (mvD rfl ?_)))))))
  refine ixLn sl.intss [] rfl rfl (by omega) rfl rfl (ldRC ce.ints rfl (clv rfl (.cons (VLe.refl _) (.cons (VLe.refl _) (.nil))) (ref05_CompareS (by omega)) ?_))
  rw [cmpS_self]
  refine c_neq rfl rfl (c := false) (cne_f rfl) (OL.nil (AW.cond rfl (fun hno => absurd hno (by decide)) (fun _ => ?_)))
  exact AW.skip (AW.rg hE rfl (mvD rfl (add_i64 rfl rfl (by omega) (asD rfl (OL.nil (AW.again (x := i) (i + 1) (by omega) ⟨by omega, Knows.app .rq2 .rq1, Owns.app (.cons rfl (.cons rfl .nil)) (.nil)⟩))))))
 ·try simp only [dx9] at h48
  exact AW.exit (AW.sg hE rfl (asD rfl (OL.nil (AW.ret (RetQ.r ⟨_, .tmp rfl .nil, .le (VLe.refl _)⟩)))))
theorem law37_same {l m : List Int} (nl : l.length ≤ 9223372036854775807) : FSpec P F.law37_same [.d (ints l), .d (ints m)] (.d (dB (decide (l = m)))) := by
 refine FSpec.intro fn.law37_same (by rfl) (by rfl) (nb9 (by rfl)) fun E hE => (AW.sg hE rfl (asD rfl (OL.nil (AW.seq (AW.sg hE rfl (mvD rfl (lnL sl.ints rfl rfl ?_)))))))
 refine mvD rfl (lnL sl.ints rfl rfl (c_neq rfl rfl rfl (OL.nil (AW.cond rfl (fun h10 => ?_) (fun h10 => ?_)))))
 ·have hl : l.length ≠ m.length := by simp at h10; omega
  exact AW.sg hE rfl (asD rfl (OL.nil (AW.ret (RetQ.r ⟨_, .tmp rfl .nil, .le (VLe.bool ((decide_eq_false fun e => hl (by rw [e])).symm))⟩))))
 ·have hl : l.length = m.length := by simp at h10; omega
  refine AW.skip (AW.seq (AW.sg hE rfl (asD rfl (OL.nil (AW.block ?_)))))
  refine AW.whileK (α := Nat) [(0, _), (1, _)] [] (fun i => [(5, .d (dI i))]) (fun i => []) (fun i => i ≤ l.length ∧ ∀ j, j < i → l.getD j 0 = m.getD j 0) (fun i => l.length - i) 0 (.cons (knD rfl) (.cons (knD rfl) .nil)) .nil ⟨⟨Nat.zero_le _, fun j hj => by omega⟩, .rq1, .nil⟩ ?_
  rintro i ⟨h1, h2⟩
  refine AW.seq (AW.sg hE rfl (mvD rfl (mvD rfl (lnL sl.ints rfl rfl (c_lss rfl rfl rfl (OL.nil (AW.cond rfl (fun h14 => ?_) (fun h14 => ?_))))))))
  ·try simp only [dx9] at h14
   refine AW.skip (AW.seq (AW.block (AW.seq (AW.dg 1 [0,1,2,3,4,5,6,7,8] order_free hE rfl (by kernel_rfl) (OI.of_OL (os := [_,_,_,_,_,_,_,_,_]) rfl ?_)))))
   refine mvD rfl (mvD rfl (ixLn sl.ints 0 rfl rfl (by omega) rfl rfl (ldRC ce.int rfl (mvD rfl (mvD rfl (ixLn sl.ints 0 rfl rfl (by omega) rfl rfl (ldRC ce.int rfl ?_)))))))
   refine c_neq rfl rfl rfl (OL.nil (AW.cond rfl (fun hc => ?_) (fun hc => ?_)))
   ·have hc : l.getD i 0 ≠ m.getD i 0 := fun e => by rw [e] at hc; simp at hc
    exact AW.sg hE rfl (asD rfl (OL.nil (AW.ret (RetQ.r ⟨_, .tmp rfl .nil, .le (VLe.bool ((decide_eq_false fun e => hc (by rw [e])).symm))⟩))))
   ·have hc : l.getD i 0 = m.getD i 0 := nd_f hc
    exact AW.skip (AW.rg hE rfl (mvD rfl (add_i64 rfl rfl (by omega) (asD rfl (OL.nil (AW.again (x := i) (i + 1) (by omega) ⟨⟨by omega, fun j hj => by rcases Nat.lt_or_ge j i with h | h; exact h2 j h; obtain rfl : j = i := (by omega); exact hc⟩, Knows.app .rq2 .rq1, .nil⟩))))))
  ·try simp only [dx9] at h14
   exact AW.exit (AW.sg hE rfl (asD rfl (OL.nil (AW.ret (RetQ.r ⟨_, .tmp rfl .nil, .le (VLe.bool ((decide_eq_true (list_eq_getD hl 0 fun j hj => h2 j (by omega))).symm))⟩)))))
theorem law37_pairQ {q o : Rat} (hq : FSpec P F.ref01_Make [.d (dI 1), .d (dI 2)] (.tup [vQ q, .d (dI 0)])) (ho : FSpec P F.ref33_Whole [.d (dI 1)] (vQ o)) : FSpec P F.law37_pair [] (vHM ⟨2, 2, 0, [q, q], [[0, q], [0, 0]], [q, o], [[o, 0], [0, o]], [false, false], [0, 1]⟩) := by
 refine FSpec.intro fn.law37_pair (by rfl) (by rfl) (nb9 (by rfl)) fun E hE => (AW.sg hE rfl (al z.Hidden rfl fun b0 => (OL.nil (AW.sg hE rfl (clv rfl .rq2 hq (mvT rfl (ex rfl rfl ?_)))))))
 refine ex rfl rfl (al z.Rat rfl fun b1 => (sto sz.Rat rfl rfl rfl rfl rfl (nb9 rfl) (cells2 := [_,_,_]) rfl (asD rfl (OL.nil (AW.sg hE rfl (clv rfl .rq1 ho (al z.Rat rfl fun b3 => ?_)))))))
 refine sto sz.Rat rfl rfl rfl rfl rfl (nb9 rfl) (cells2 := [_,_,_]) rfl (OL.nil (AW.sg hE rfl (ldPA ag.Rat rfl rfl (vs := [_,_,_]) rfl (nb9 rfl) (ldPA ag.Rat rfl rfl (vs := [_,_,_]) rfl (nb9 rfl) (lt2 (y := dQ q) (y2 := dQ q) sl.Rats vd_q vd_q ⟨rfl, rfl⟩ (by decide) (bd z.Rat pl.Rat (cs := [_,_,_]) rfl (ldPA ag.Rat rfl rfl (vs := [_,_,_]) rfl (nb9 rfl) ?_)))))))
 refine lt2 (y := dQ 0) (y2 := dQ q) sl.Rats vd_q0B vd_q ⟨rfl, rfl⟩ (by decide) (bd z.Rat pl.Rat (cs := [_,_,_]) rfl (bd z.Rat pl.Rat (cs := [_,_,_]) rfl (lt2 (y := dQ 0) (y2 := dQ 0) sl.Rats vd_q0B vd_q0B ⟨rfl, rfl⟩ (by decide) (lt2 sl.Ratss (VC.d _).vd (VC.d _).vd ⟨rfl, rfl⟩ (by decide) (ldPA ag.Rat rfl rfl (vs := [_,_,_]) rfl (nb9 rfl) (ldPA ag.Rat rfl rfl (vs := [_,_,_]) rfl (nb9 rfl) (lt2 (y := dQ q) (y2 := dQ o) sl.Rats vd_q vd_q ⟨rfl, rfl⟩ (by decide) ?_)))))))
 refine ldPA ag.Rat rfl rfl (vs := [_,_,_]) rfl (nb9 rfl) (bd z.Rat pl.Rat (cs := [_,_,_]) rfl (lt2 (y := dQ o) (y2 := dQ 0) sl.Rats vd_q vd_q0B ⟨rfl, rfl⟩ (by decide) (bd z.Rat pl.Rat (cs := [_,_,_]) rfl (ldPA ag.Rat rfl rfl (vs := [_,_,_]) rfl (nb9 rfl) (lt2 (y := dQ 0) (y2 := dQ o) sl.Rats vd_q0B vd_q ⟨rfl, rfl⟩ (by decide) (lt2 sl.Ratss (VC.d _).vd (VC.d _).vd ⟨rfl, rfl⟩ (by decide) (lt2 sl.bools (VC.d _).vd (VC.d _).vd ⟨rfl, rfl⟩ (by decide) ?_)))))))
 refine lt2 sl.ints (VC.d _).vd (VC.d _).vd ⟨rfl, rfl⟩ (by decide) ?_
 refine bd2 (cs := [_,_,_,_,_,_,_,_,_,_,_]) z.Hidden pl.Hidden (pvC (by exact evD rfl) (pvC (by exact evD rfl) (pvC (by exact evD rfl) (pvC (by exact evD rfl) (pvC (by exact evD rfl) (pvC (by exact evD rfl) (pvC (by exact evD rfl) (pvC (by exact evD rfl) (pvN))))))))) (by rfl) ?_
 refine sto sz.Hidden rfl rfl rfl rfl rfl (nb9 rfl) (cells2 := [_,_,_,_,_,_,_,_,_,_,_]) rfl (OL.nil ?_)
 exact AW.ret (RetQ.r ⟨_, .cellA rfl rfl ag.Hidden (nb9 rfl) .nil, .ag (.cons (.le (VLe.refl _)) (.cons (.le (VLe.refl _)) (.cons (.le (vle_of_eq (by show _ = V.d (dB (ofQ 0).neg); rw [ofQ_zero]))) (.cons (.le (by show VLe _ (.d (u32s (ofQ 0).num)); rw [ofQ_zero]; exact VLe.mt)) (.cons (.le (by show VLe _ (.d (u32s (ofQ 0).den)); rw [ofQ_zero]; exact VLe.mt)) (.cons (.le (VLe.refl _)) (.cons (.le (VLe.refl _)) (.cons (.le (VLe.refl _)) (.cons (.le (VLe.refl _)) (.cons (.le (VLe.refl _)) (.cons (.le (VLe.refl _)) .nil)))))))))))⟩)
theorem law37_pair : FSpec P F.law37_pair [] (vHM pairHM) := law37_pairQ ref_half ref33_Whole1
theorem law37_sameT {l : List Int} (nl : l.length ≤ 9223372036854775807) : FSpec P F.law37_same [.d (ints l), .d (ints l)] (.d (dB true)) := by
 have h := law37_same (l := l) (m := l) nl
 rw [decide_eq_true rfl] at h
 exact h
theorem ref_CompareT {x : Rat} (hz : sz x ≤ 68719476736) : FSpec P F.ref01_Compare [vQ x, vQ x] (.d (dI 0)) := by
 have h := ref_CompareQ hz hz
 rw [show cmpQ x x = 0 from cmpQ_eq.2 rfl] at h
 exact h
theorem law37_light {h : RM} : FSpec P F.law37_light [vRM h] (.d (dB (liteB h))) := by
 refine FSpec.intro fn.law37_light (by rfl) (by rfl) (nb9 (by rfl)) fun E hE => (AW.sg hE rfl (bxA rfl rfl fun b1 => (asD rfl (OL.nil (AW.sg hE rfl (faP fd.Hidden_1 rfl rfl (ldPC ce.int rfl rfl rfl ?_)))))))
 refine c_leq rfl rfl rfl (mvD rfl (OL.split 6 rfl (fun g6 => ?_) (fun g6 => ?_)))
 ·try simp only [dx9] at g6
  refine OL.nd rfl (OL.nd rfl (OL.nd rfl (pkT rfl rfl (mvD rfl (OL.yes rfl (faP fd.Hidden_3 rfl rfl (OL.yes rfl ?_)))))))
  refine ldPC ce.Rats rfl rfl rfl (OL.yes rfl (lnL sl.Rats rfl rfl (OL.yes rfl (c_leq rfl rfl rfl (pkT rfl rfl (mvD rfl (OL.split 17 rfl (fun g17 => ?_) (fun g17 => ?_))))))))
  ·try simp only [dx9] at g17
   refine OL.yes rfl (faP fd.Hidden_4 rfl rfl (OL.yes rfl (ldPC ce.Ratss rfl rfl rfl (OL.yes rfl (lnL sl.Ratss rfl rfl (OL.yes rfl (c_leq rfl rfl rfl ?_)))))))
   refine pkT rfl rfl (mvD rfl (OL.split 23 rfl (fun g23 => ?_) (fun g23 => ?_)))
   ·try simp only [dx9] at g23
    refine OL.yes rfl (faP fd.Hidden_6 rfl rfl (OL.yes rfl (ldPC ce.Ratss rfl rfl rfl (OL.yes rfl (lnL sl.Ratss rfl rfl (OL.yes rfl (c_leq rfl rfl rfl ?_)))))))
    refine pkT rfl rfl (mvD rfl (OL.split 29 rfl (fun g29 => ?_) (fun g29 => ?_)))
    ·try simp only [dx9] at g29
     refine OL.yes rfl (faP fd.Hidden_0 rfl rfl (OL.yes rfl (ldPC ce.int rfl rfl rfl (OL.yes rfl (c_leq rfl rfl rfl (OL.yes rfl (mvD rfl ?_)))))))
     refine OL.split 33 rfl (fun g33 => ?_) (fun g33 => ?_)
     ·try simp only [dx9] at g33
      refine OL.nd rfl (OL.nd rfl (OL.nd rfl (OL.yes rfl (pkT rfl rfl (pkT rfl rfl (asD rfl (OL.nil ?_)))))))
      exact AW.ret (RetQ.r ⟨_, .tmp rfl .nil, .le (VLe.bool (by unfold liteB; simp_all <;> omega))⟩)
     ·try simp only [dx9] at g33
      refine OL.yes rfl (faP fd.Hidden_0 rfl rfl (OL.yes rfl (ldPC ce.int rfl rfl rfl (OL.yes rfl (c_gtr rfl rfl rfl (OL.yes rfl (pkF rfl rfl ?_)))))))
      exact pkT rfl rfl (asD rfl (OL.nil (AW.ret (RetQ.r ⟨_, .tmp rfl .nil, .le (VLe.bool (by unfold liteB; simp_all <;> omega))⟩))))
    ·try simp only [dx9] at g29
     refine OL.nd rfl (OL.nd rfl (OL.nd rfl (OL.nd rfl (OL.nd rfl (OL.nd rfl (OL.nd rfl (OL.nd rfl ?_)))))))
     exact pkF rfl rfl (asD rfl (OL.nil (AW.ret (RetQ.r ⟨_, .tmp rfl .nil, .le (VLe.bool (by unfold liteB; simp_all <;> omega))⟩))))
   ·try simp only [dx9] at g23
    refine OL.nd rfl (OL.nd rfl (OL.nd rfl (OL.nd rfl (pkF rfl rfl (mvD rfl (OL.nd rfl (OL.nd rfl ?_)))))))
    refine OL.nd rfl (OL.nd rfl (OL.nd rfl (OL.nd rfl (OL.nd rfl (OL.nd rfl (pkF rfl rfl (asD rfl ?_)))))))
    exact OL.nil (AW.ret (RetQ.r ⟨_, .tmp rfl .nil, .le (VLe.bool (by unfold liteB; simp_all <;> omega))⟩))
  ·try simp only [dx9] at g17
   refine OL.nd rfl (OL.nd rfl (OL.nd rfl (OL.nd rfl (pkF rfl rfl (mvD rfl (OL.nd rfl (OL.nd rfl ?_)))))))
   refine OL.nd rfl (OL.nd rfl (pkF rfl rfl (mvD rfl (OL.nd rfl (OL.nd rfl (OL.nd rfl (OL.nd rfl ?_)))))))
   exact OL.nd rfl (OL.nd rfl (OL.nd rfl (OL.nd rfl (pkF rfl rfl (asD rfl (OL.nil (AW.ret (RetQ.r ⟨_, .tmp rfl .nil, .le (VLe.bool (by unfold liteB; simp_all <;> omega))⟩))))))))
 ·try simp only [dx9] at g6
  refine OL.yes rfl (faP fd.Hidden_1 rfl rfl (OL.yes rfl (ldPC ce.int rfl rfl rfl (OL.yes rfl (c_gtr rfl rfl rfl (pkF rfl rfl (mvD rfl ?_)))))))
  refine OL.split 11 rfl (fun g11 => ?_) (fun g11 => ?_)
  ·try simp only [dx9] at g11
   refine OL.yes rfl (faP fd.Hidden_3 rfl rfl (OL.yes rfl (ldPC ce.Rats rfl rfl rfl (OL.yes rfl (lnL sl.Rats rfl rfl (OL.yes rfl (c_leq rfl rfl rfl ?_)))))))
   refine pkT rfl rfl (mvD rfl (OL.split 17 rfl (fun g17 => ?_) (fun g17 => ?_)))
   ·try simp only [dx9] at g17
    refine OL.yes rfl (faP fd.Hidden_4 rfl rfl (OL.yes rfl (ldPC ce.Ratss rfl rfl rfl (OL.yes rfl (lnL sl.Ratss rfl rfl (OL.yes rfl (c_leq rfl rfl rfl ?_)))))))
    refine pkT rfl rfl (mvD rfl (OL.split 23 rfl (fun g23 => ?_) (fun g23 => ?_)))
    ·try simp only [dx9] at g23
     refine OL.yes rfl (faP fd.Hidden_6 rfl rfl (OL.yes rfl (ldPC ce.Ratss rfl rfl rfl (OL.yes rfl (lnL sl.Ratss rfl rfl (OL.yes rfl (c_leq rfl rfl rfl ?_)))))))
     refine pkT rfl rfl (mvD rfl (OL.split 29 rfl (fun g29 => ?_) (fun g29 => ?_)))
     ·try simp only [dx9] at g29
      refine OL.yes rfl (faP fd.Hidden_0 rfl rfl (OL.yes rfl (ldPC ce.int rfl rfl rfl (OL.yes rfl (c_leq rfl rfl rfl (OL.yes rfl (mvD rfl ?_)))))))
      refine OL.split 33 rfl (fun g33 => ?_) (fun g33 => ?_)
      ·try simp only [dx9] at g33
       refine OL.nd rfl (OL.nd rfl (OL.nd rfl (OL.yes rfl (pkT rfl rfl (pkT rfl rfl (asD rfl (OL.nil ?_)))))))
       exact AW.ret (RetQ.r ⟨_, .tmp rfl .nil, .le (VLe.bool (by unfold liteB; simp_all <;> omega))⟩)
      ·try simp only [dx9] at g33
       refine OL.yes rfl (faP fd.Hidden_0 rfl rfl (OL.yes rfl (ldPC ce.int rfl rfl rfl (OL.yes rfl (c_gtr rfl rfl rfl (OL.yes rfl (pkF rfl rfl ?_)))))))
       exact pkT rfl rfl (asD rfl (OL.nil (AW.ret (RetQ.r ⟨_, .tmp rfl .nil, .le (VLe.bool (by unfold liteB; simp_all <;> omega))⟩))))
     ·try simp only [dx9] at g29
      refine OL.nd rfl (OL.nd rfl (OL.nd rfl (OL.nd rfl (OL.nd rfl (OL.nd rfl (OL.nd rfl (OL.nd rfl ?_)))))))
      exact pkF rfl rfl (asD rfl (OL.nil (AW.ret (RetQ.r ⟨_, .tmp rfl .nil, .le (VLe.bool (by unfold liteB; simp_all <;> omega))⟩))))
    ·try simp only [dx9] at g23
     refine OL.nd rfl (OL.nd rfl (OL.nd rfl (OL.nd rfl (pkF rfl rfl (mvD rfl (OL.nd rfl (OL.nd rfl ?_)))))))
     refine OL.nd rfl (OL.nd rfl (OL.nd rfl (OL.nd rfl (OL.nd rfl (OL.nd rfl (pkF rfl rfl (asD rfl ?_)))))))
     exact OL.nil (AW.ret (RetQ.r ⟨_, .tmp rfl .nil, .le (VLe.bool (by unfold liteB; simp_all <;> omega))⟩))
   ·try simp only [dx9] at g17
    refine OL.nd rfl (OL.nd rfl (OL.nd rfl (OL.nd rfl (pkF rfl rfl (mvD rfl (OL.nd rfl (OL.nd rfl ?_)))))))
    refine OL.nd rfl (OL.nd rfl (pkF rfl rfl (mvD rfl (OL.nd rfl (OL.nd rfl (OL.nd rfl (OL.nd rfl ?_)))))))
    exact OL.nd rfl (OL.nd rfl (OL.nd rfl (OL.nd rfl (pkF rfl rfl (asD rfl (OL.nil (AW.ret (RetQ.r ⟨_, .tmp rfl .nil, .le (VLe.bool (by unfold liteB; simp_all <;> omega))⟩))))))))
  ·try simp only [dx9] at g11
   refine OL.nd rfl (OL.nd rfl (OL.nd rfl (OL.nd rfl (pkF rfl rfl (mvD rfl (OL.nd rfl (OL.nd rfl ?_)))))))
   refine OL.nd rfl (OL.nd rfl (pkF rfl rfl (mvD rfl (OL.nd rfl (OL.nd rfl (OL.nd rfl (OL.nd rfl ?_)))))))
   refine pkF rfl rfl (mvD rfl (OL.nd rfl (OL.nd rfl (OL.nd rfl (OL.nd rfl (OL.nd rfl (OL.nd rfl ?_)))))))
   exact OL.nd rfl (OL.nd rfl (pkF rfl rfl (asD rfl (OL.nil (AW.ret (RetQ.r ⟨_, .tmp rfl .nil, .le (VLe.bool (by unfold liteB; simp_all <;> omega))⟩))))))
theorem pair_open : FSpec P F.online_Open [vHM pairHM] (.tup [vOn pairHM ⟨0, [], [], []⟩, .d (dI 0)]) := by
 have c := good_chkP pair_good.wide
 have h := on_OpenR (good_sz pair_good.wide)
 rw [vRM_rmOf, show opH (rmOf pairHM) = hm (rmOf pairHM) from if_pos c, hm_rmOf, c] at h
 exact h
set_option maxHeartbeats 1600000 in
theorem law37_knownQ {h : HM} (g : h.GoodW 1048576) (hop : FSpec P F.online_Open [vHM h] (.tup [vOn h ⟨0, [], [], []⟩, .d (dI 0)])) (hx : 0 < h.sym) (hc : pushC h ⟨0, [], [], []⟩ 0 = [0]) (he : pushE h ⟨0, [], [], []⟩ 0 = 0) (ht1 : (pushD h ⟨0, [], [], []⟩ 0).t = 1) (hd : (pushD h ⟨0, [], [], []⟩ 0).dn = [0]) (hp : FSpec P F.law37_pair [] (vHM h)) : FSpec P F.law37_known [] (.d (dB true)) := by
 refine FSpec.intro fn.law37_known (by rfl) (by rfl) (nb9 (by rfl)) fun E hE => (AW.sg hE rfl (asD rfl (OL.nil (AW.sg hE rfl (clv rfl .nil hp (clv rfl (.cons (VLe.refl _) (.nil)) (hop) (mvT rfl ?_)))))))
 refine ex rfl rfl (ex rfl rfl (al z.Online rfl fun b1 => (sto sz.Online rfl rfl rfl rfl rfl (nb9 rfl) (cells2 := [_,_,_,_,_,_,_,_,_,_,_,_,_,_,_]) rfl (asD rfl (OL.nil (AW.sg hE rfl (ldPA ag.Online rfl rfl (vs := [_,_,_,_,_,_,_,_,_,_,_,_,_,_,_]) rfl (nb9 rfl) ?_)))))))
 refine clv rfl (.cons (VLe.refl _) (.cons (VLe.int (by rfl)) .nil)) (on_PushV (o := ⟨0, [], [], []⟩) (x := 0) g val_open (by decide) (by decide) hx) ?_
 rw [hc, he]
 generalize pushH h ⟨0, [], [], []⟩ 0 = h2
 generalize pushD h ⟨0, [], [], []⟩ 0 = o2 at ht1 hd ⊢
 refine mvT rfl (ex rfl rfl (ex rfl rfl (ex rfl rfl (sto sz.Online rfl rfl rfl rfl rfl (nb9 rfl) (cells2 := [_,_,_,_,_,_,_,_,_,_,_,_,_,_,_]) rfl (asD rfl (asD rfl (OL.nil ?_)))))))
 refine AW.sg hE rfl (mvD rfl (c_eql rfl rfl (c := true) (by exact decide_eq_true (by omega)) (mvD rfl (OL.yes rfl (mvD rfl (OL.yes rfl (c_eql rfl rfl (c := true) (by exact decide_eq_true (by omega)) ?_)))))))
 refine pkT rfl rfl (mvD rfl (OL.yes rfl (mvD rfl (OL.yes rfl (lt1 sl.ints (VC.d _).vd rfl (by decide) (OL.yes rfl (clv rfl (.cons (VLe.refl _) (.cons (VLe.refl _) (.nil))) (law37_same (l := [0]) (m := [0]) (by decide)) ?_)))))))
 rw [decide_eq_true rfl]
 refine pkT rfl rfl (mvD rfl (OL.yes rfl (faP fd.Online_1 rfl rfl (OL.yes rfl (ldPC ce.int rfl rfl rfl (OL.yes rfl (c_eql rfl rfl (c := true) (decide_eq_true (by rw [ht1]; rfl)) ?_)))))))
 refine pkT rfl rfl (mvD rfl (OL.yes rfl (faP fd.Online_4 rfl rfl (OL.yes rfl (ldPC ce.ints rfl rfl rfl ?_)))))
 rw [hd]
 refine OL.yes rfl (lt1 sl.ints (VC.d _).vd rfl (by decide) (OL.yes rfl (clv rfl (.cons (VLe.refl _) (.cons (VLe.refl _) (.nil))) (law37_same (l := [0]) (m := [0]) (by decide)) ?_)))
 rw [decide_eq_true rfl]
 exact pkT rfl rfl (asD rfl (OL.nil (AW.ret (RetQ.r ⟨_, .tmp rfl .nil, .le (VLe.refl _)⟩))))
theorem law37_known : FSpec P F.law37_known [] (.d (dB true)) :=
 law37_knownQ pair_good.wide pair_open (by decide) ((if_pos known_push.1).trans known_push.2) (if_pos known_push.1)
  (by rw [show pushD pairHM ⟨0, [], [], []⟩ 0 = stepD pairHM ⟨0, [], [], []⟩ 0 from if_pos known_push.1]; rfl) (by rw [show pushD pairHM ⟨0, [], [], []⟩ 0 = stepD pairHM ⟨0, [], [], []⟩ 0 from if_pos known_push.1, show (stepD pairHM ⟨0, [], [], []⟩ 0).dn = cmtF pairHM ⟨0, [], [], []⟩ 0 2 from rfl, known_push.2]) law37_pair
set_option maxRecDepth 8000 in
set_option maxHeartbeats 6400000 in
theorem law_OnlineActs {h : RM} {r : RDec} {s : Int} {w : List Int} (zz : h.Sz) (zd : r.Sz) (nw : w.length ≤ 1048576) : FSpec P F.law37_OnlineActs [vRM h, vOR r, .d (dI s), .d (ints w)] (.d (dB true)) := by
 refine FSpec.intro fn.law37_OnlineActs (by rfl) (by rfl) (nb9 (by rfl)) fun E hE => (AW.sg hE rfl (bxA rfl rfl fun b4 => (bxA rfl rfl fun b5 => (asD rfl (OL.nil (AW.seq ?_))))))
 refine AW.midK (α := Bool) [(2, _), (3, _), (4, _), (5, _), (8, _)] [(4, _), (5, _)] (fun x => [(69, .d (dB x))]) (fun x => []) (fun x => True) (.cons (knD rfl) (.cons (knD rfl) (.cons (knP rfl) (.cons (knP rfl) (.cons (knD rfl) .nil))))) (.cons (owB rfl) (.cons (owB rfl) .nil)) ?_ ?_
 ·refine AW.rg hE rfl (ldPA ag.Hidden rfl rfl (vs := [_,_,_,_,_,_,_,_,_,_,_]) rfl (nb9 rfl) (clv rfl (.cons (VLe.refl _) (.nil)) (law37_light) (nt rfl (mvD rfl (OL.split 36 rfl (fun a3 => ?_) (fun a3 => ?_))))))
  ·have _a3 := a3
   refine OL.nd rfl (OL.nd rfl (OL.nd rfl (OL.nd rfl (pkT rfl rfl (mvD rfl (OL.nd rfl (OL.nd rfl ?_)))))))
   refine OL.nd rfl (OL.nd rfl (OL.nd rfl (OL.nd rfl (OL.nd rfl (OL.nd rfl (pkT rfl rfl (mvD rfl ?_)))))))
   refine OL.nd rfl (OL.nd rfl (OL.nd rfl (OL.nd rfl (pkT rfl rfl (mvD rfl (OL.nd rfl (OL.nd rfl ?_)))))))
   refine OL.nd rfl (OL.nd rfl (pkT rfl rfl (mvD rfl (OL.nd rfl (OL.nd rfl (OL.nd rfl (OL.nd rfl ?_)))))))
   exact pkT rfl rfl (OL.nil (AW.reach _ ⟨trivial, Knows.app .rq5 .rq1, Owns.app (.cons rfl (.cons rfl .nil)) (.nil)⟩))
  ·have _a3 := a3
   refine OL.yes rfl (faP fd.Online_0 rfl rfl (OL.yes rfl (ldPA ag.Hidden rfl rfl (vs := [_,_,_,_,_,_,_,_,_,_,_]) rfl (nb9 rfl) (OL.yes rfl (clv rfl (.cons (VLe.refl _) (.nil)) (law37_light) (OL.yes rfl (nt rfl ?_)))))))
   refine pkF rfl rfl (mvD rfl (OL.split 42 rfl (fun a9 => ?_) (fun a9 => ?_)))
   ·have _a9 := a9
    refine OL.nd rfl (OL.nd rfl (OL.nd rfl (OL.nd rfl (OL.nd rfl (OL.nd rfl (OL.nd rfl (OL.nd rfl ?_)))))))
    refine pkT rfl rfl (mvD rfl (OL.nd rfl (OL.nd rfl (OL.nd rfl (OL.nd rfl (pkT rfl rfl (mvD rfl ?_)))))))
    refine OL.nd rfl (OL.nd rfl (OL.nd rfl (OL.nd rfl (pkT rfl rfl (mvD rfl (OL.nd rfl (OL.nd rfl ?_)))))))
    exact OL.nd rfl (OL.nd rfl (pkT rfl rfl (OL.nil (AW.reach _ ⟨trivial, Knows.app .rq5 .rq1, Owns.app (.cons rfl (.cons rfl .nil)) (.nil)⟩))))
   ·have _a9 := a9
    refine OL.yes rfl (mvD rfl (OL.yes rfl (lnL sl.ints rfl rfl (OL.yes rfl (c_gtr rfl rfl rfl (OL.yes rfl (mvD rfl ?_)))))))
    refine OL.split 46 rfl (fun a13 => ?_) (fun a13 => ?_)
    ·have _a13 := a13
     refine OL.yes rfl (mvD rfl (OL.yes rfl (lnL sl.ints rfl rfl (OL.yes rfl (c_leq rfl rfl rfl (OL.yes rfl (pkT rfl rfl ?_)))))))
     refine pkF rfl rfl (mvD rfl (OL.split 52 rfl (fun a19 => ?_) (fun a19 => ?_)))
     ·have _a19 := a19
      refine OL.nd rfl (OL.nd rfl (OL.nd rfl (OL.nd rfl (pkT rfl rfl (mvD rfl (OL.nd rfl (OL.nd rfl ?_)))))))
      refine OL.nd rfl (OL.nd rfl (pkT rfl rfl (mvD rfl (OL.nd rfl (OL.nd rfl (OL.nd rfl (OL.nd rfl ?_)))))))
      exact pkT rfl rfl (OL.nil (AW.reach _ ⟨trivial, Knows.app .rq5 .rq1, Owns.app (.cons rfl (.cons rfl .nil)) (.nil)⟩))
     ·have _a19 := a19
      refine OL.yes rfl (faP fd.Online_4 rfl rfl (OL.yes rfl (ldPC ce.ints rfl rfl rfl (OL.yes rfl (lnL sl.ints rfl rfl (OL.yes rfl (c_gtr rfl rfl rfl ?_)))))))
      refine pkF rfl rfl (mvD rfl (OL.split 58 rfl (fun a25 => ?_) (fun a25 => ?_)))
      ·have _a25 := a25
       refine OL.nd rfl (OL.nd rfl (OL.nd rfl (OL.nd rfl (pkT rfl rfl (mvD rfl (OL.nd rfl (OL.nd rfl ?_)))))))
       exact OL.nd rfl (OL.nd rfl (pkT rfl rfl (OL.nil (AW.reach _ ⟨trivial, Knows.app .rq5 .rq1, Owns.app (.cons rfl (.cons rfl .nil)) (.nil)⟩))))
      ·have _a25 := a25
       refine OL.yes rfl (faP fd.Online_3 rfl rfl (OL.yes rfl (ldPC ce.intss rfl rfl rfl (OL.yes rfl (lnL sl.intss rfl rfl (OL.yes rfl (c_gtr rfl rfl rfl ?_)))))))
       refine pkF rfl rfl (mvD rfl (OL.split 64 rfl (fun a31 => ?_) (fun a31 => ?_)))
       ·have _a31 := a31
        exact OL.nd rfl (OL.nd rfl (OL.nd rfl (OL.nd rfl (pkT rfl rfl (OL.nil (AW.reach _ ⟨trivial, Knows.app .rq5 .rq1, Owns.app (.cons rfl (.cons rfl .nil)) (.nil)⟩))))))
       ·have _a31 := a31
        refine OL.yes rfl (faP fd.Online_2 rfl rfl (OL.yes rfl (ldPC ce.Rats rfl rfl rfl (OL.yes rfl (lnL sl.Rats rfl rfl (OL.yes rfl (c_gtr rfl rfl rfl ?_)))))))
        exact pkF rfl rfl (OL.nil (AW.reach _ ⟨trivial, Knows.app .rq5 .rq1, Owns.app (.cons rfl (.cons rfl .nil)) (.nil)⟩))
    ·have _a13 := a13
     refine OL.nd rfl (OL.nd rfl (OL.nd rfl (OL.yes rfl (pkF rfl rfl (pkF rfl rfl (mvD rfl (OL.yes rfl ?_)))))))
     refine faP fd.Online_4 rfl rfl (OL.yes rfl (ldPC ce.ints rfl rfl rfl (OL.yes rfl (lnL sl.ints rfl rfl (OL.yes rfl (c_gtr rfl rfl rfl (pkF rfl rfl ?_)))))))
     refine mvD rfl (OL.split 58 rfl (fun a25 => ?_) (fun a25 => ?_))
     ·have _a25 := a25
      refine OL.nd rfl (OL.nd rfl (OL.nd rfl (OL.nd rfl (pkT rfl rfl (mvD rfl (OL.nd rfl (OL.nd rfl ?_)))))))
      exact OL.nd rfl (OL.nd rfl (pkT rfl rfl (OL.nil (AW.reach _ ⟨trivial, Knows.app .rq5 .rq1, Owns.app (.cons rfl (.cons rfl .nil)) (.nil)⟩))))
     ·have _a25 := a25
      refine OL.yes rfl (faP fd.Online_3 rfl rfl (OL.yes rfl (ldPC ce.intss rfl rfl rfl (OL.yes rfl (lnL sl.intss rfl rfl (OL.yes rfl (c_gtr rfl rfl rfl ?_)))))))
      refine pkF rfl rfl (mvD rfl (OL.split 64 rfl (fun a31 => ?_) (fun a31 => ?_)))
      ·have _a31 := a31
       exact OL.nd rfl (OL.nd rfl (OL.nd rfl (OL.nd rfl (pkT rfl rfl (OL.nil (AW.reach _ ⟨trivial, Knows.app .rq5 .rq1, Owns.app (.cons rfl (.cons rfl .nil)) (.nil)⟩))))))
      ·have _a31 := a31
       refine OL.yes rfl (faP fd.Online_2 rfl rfl (OL.yes rfl (ldPC ce.Rats rfl rfl rfl (OL.yes rfl (lnL sl.Rats rfl rfl (OL.yes rfl (c_gtr rfl rfl rfl ?_)))))))
       exact pkF rfl rfl (OL.nil (AW.reach _ ⟨trivial, Knows.app .rq5 .rq1, Owns.app (.cons rfl (.cons rfl .nil)) (.nil)⟩))
 rintro x _
 refine AW.cond rfl (fun c69 => ?_) (fun c69 => ?_)
 ·have _c := c69
  exact AW.sg hE rfl (clv rfl .nil law37_known (asD rfl (OL.nil (AW.ret (RetQ.r ⟨_, .tmp rfl .nil, .le (VLe.refl _)⟩)))))
 ·have _c := c69
  refine AW.skip (AW.sg hE rfl (ldPA ag.Hidden rfl rfl (vs := [_,_,_,_,_,_,_,_,_,_,_]) rfl (nb9 rfl) (clv rfl (.cons (VLe.refl _) (.nil)) (on_OpenR zz) (mvT rfl (ex rfl rfl (ex rfl rfl (al z.Online rfl fun b9 => ?_)))))))
  refine sto sz.Online rfl rfl rfl rfl rfl (nb9 rfl) (cells2 := [_,_,_,_,_,_,_,_,_,_,_,_,_,_,_]) rfl (asD rfl (OL.nil (AW.sg hE rfl (ldPA ag.Hidden rfl rfl (vs := [_,_,_,_,_,_,_,_,_,_,_]) rfl (nb9 rfl) (clv rfl (.cons (VLe.refl _) (.nil)) (ref37_OpenR zz) (mvT rfl (ex rfl rfl ?_)))))))
  refine ex rfl rfl (al z.Online rfl fun b11 => (sto sz.Online rfl rfl rfl rfl rfl (nb9 rfl) (cells2 := [_,_,_,_,_,_,_,_,_,_,_,_,_,_,_]) rfl (asD rfl (OL.nil (AW.sg hE rfl (ldPA ag.Online rfl rfl (vs := [_,_,_,_,_,_,_,_,_,_,_,_,_,_,_]) rfl (nb9 rfl) (mvD rfl ?_)))))))
  refine clv rfl (.cons (VLe.refl _) (.cons (VLe.refl _) (.nil))) (on_PushA zd) (mvT rfl (ex rfl rfl (ex rfl rfl (ex rfl rfl (al z.Online rfl fun b13 => (sto sz.Online rfl rfl rfl rfl rfl (nb9 rfl) (cells2 := [_,_,_,_,_,_,_,_,_,_,_,_,_,_,_]) rfl (asD rfl ?_)))))))
  refine asD rfl (OL.nil (AW.sg hE rfl (ldPA ag.Online rfl rfl (vs := [_,_,_,_,_,_,_,_,_,_,_,_,_,_,_]) rfl (nb9 rfl) (mvD rfl (clv rfl (.cons (VLe.refl _) (.cons (VLe.refl _) (.nil))) (ref37_PushA zd) (mvT rfl (ex rfl rfl ?_)))))))
  refine ex rfl rfl (ex rfl rfl (al z.Online rfl fun b16 => (sto sz.Online rfl rfl rfl rfl rfl (nb9 rfl) (cells2 := [_,_,_,_,_,_,_,_,_,_,_,_,_,_,_]) rfl (asD rfl (asD rfl (OL.nil (AW.sg hE rfl ?_)))))))
  refine ldPA ag.Online rfl rfl (vs := [_,_,_,_,_,_,_,_,_,_,_,_,_,_,_]) rfl (nb9 rfl) (clv rfl (.cons (VLe.refl _) (.nil)) (on_FinishA zd) (mvT rfl (ex rfl rfl (ex rfl rfl (ex rfl rfl (al z.Rat rfl fun b20 => (asD rfl ?_)))))))
  refine sto sz.Rat rfl rfl rfl rfl rfl (nb9 rfl) (cells2 := [_,_,_]) rfl (asD rfl (OL.nil (AW.sg hE rfl (ldPA ag.Online rfl rfl (vs := [_,_,_,_,_,_,_,_,_,_,_,_,_,_,_]) rfl (nb9 rfl) (clv rfl (.cons (VLe.refl _) (.nil)) (ref37_FinishA zd) (mvT rfl (ex rfl rfl ?_)))))))
  refine ex rfl rfl (ex rfl rfl (al z.Rat rfl fun b23 => (asD rfl (sto sz.Rat rfl rfl rfl rfl rfl (nb9 rfl) (cells2 := [_,_,_]) rfl (asD rfl (OL.nil (AW.sg hE rfl ?_)))))))
  refine ldPA ag.Hidden rfl rfl (vs := [_,_,_,_,_,_,_,_,_,_,_]) rfl (nb9 rfl) (mvD rfl (clv rfl (.cons (VLe.refl _) (.cons (VLe.refl _) (.nil))) (on_RunA zz nw) (mvT rfl (ex rfl rfl (ex rfl rfl (ex rfl rfl (ex rfl rfl ?_)))))))
  refine al z.Rat rfl fun b27 => (asD rfl (asD rfl (sto sz.Rat rfl rfl rfl rfl rfl (nb9 rfl) (cells2 := [_,_,_]) rfl (asD rfl (OL.nil (AW.sg hE rfl (ldPA ag.Hidden rfl rfl (vs := [_,_,_,_,_,_,_,_,_,_,_]) rfl (nb9 rfl) ?_)))))))
  refine mvD rfl (clv rfl (.cons (VLe.refl _) (.cons (VLe.refl _) (.nil))) (ref37_RunA zz nw) (mvT rfl (ex rfl rfl (ex rfl rfl (ex rfl rfl (ex rfl rfl (al z.Rat rfl fun b31 => ?_)))))))
  refine asD rfl (asD rfl (sto sz.Rat rfl rfl rfl rfl rfl (nb9 rfl) (cells2 := [_,_,_]) rfl (asD rfl (OL.nil (AW.seq (AW.seq (AW.dg 1 [0,1,2,3,4,5,6,7,8,9,10,11,12,13,14,15,16,17,18,19,20,21,22,23,24] order_free hE rfl (by kernel_rfl) (OI.of_OL (os := [_,_,_,_,_,_,_,_,_,_,_,_,_,_,_,_,_,_,_,_,_,_,_,_,_]) rfl ?_))))))))
  refine mvD rfl (mvD rfl (c_neq rfl rfl (c := false) (cne_f rfl) (mvD rfl (OL.yes rfl (mvD rfl (OL.yes rfl (mvD rfl ?_)))))))
  refine OL.yes rfl (c_neq rfl rfl (c := false) (cne_f rfl) (pkF rfl rfl (mvD rfl (OL.yes rfl (mvD rfl (OL.yes rfl (mvD rfl ?_)))))))
  refine OL.yes rfl (c_neq rfl rfl (c := false) (cne_f rfl) (pkF rfl rfl (mvD rfl (OL.yes rfl (mvD rfl (OL.yes rfl (mvD rfl ?_)))))))
  refine OL.yes rfl (c_neq rfl rfl (c := false) (cne_f rfl) (pkF rfl rfl (mvD rfl (OL.yes rfl (ldPA ag.Online rfl rfl (vs := [_,_,_,_,_,_,_,_,_,_,_,_,_,_,_]) rfl (nb9 rfl) (OL.yes rfl (clv rfl (.cons (VLe.refl _) (.nil)) (on_ValidR zd) ?_)))))))
  refine OL.yes rfl (ldPA ag.Online rfl rfl (vs := [_,_,_,_,_,_,_,_,_,_,_,_,_,_,_]) rfl (nb9 rfl) (OL.yes rfl (clv rfl (.cons (VLe.refl _) (.nil)) (ref37_ValidR zd) (OL.yes rfl (neb bt.bool rfl rfl ?_)))))
  rw [beq_self_eq_true]
  refine pkF rfl rfl (OL.nil (AW.cond rfl (fun hno => absurd hno (by decide)) (fun _ => ?_)))
  refine AW.skip (AW.sg hE rfl (clv rfl .nil law37_known (mvD rfl (OL.yes rfl (ldPA ag.Online rfl rfl (vs := [_,_,_,_,_,_,_,_,_,_,_,_,_,_,_]) rfl (nb9 rfl) (OL.yes rfl (ldPA ag.Online rfl rfl (vs := [_,_,_,_,_,_,_,_,_,_,_,_,_,_,_]) rfl (nb9 rfl) ?_)))))))
  refine OL.yes rfl (clv rfl (.cons (VLe.refl _) (.cons (VLe.refl _) (.nil))) (ref37_SameX (opH_bnd zz) bndX_zero) (pkT rfl rfl (mvD rfl (OL.yes rfl (ldPA ag.Online rfl rfl (vs := [_,_,_,_,_,_,_,_,_,_,_,_,_,_,_]) rfl (nb9 rfl) (OL.yes rfl (ldPA ag.Online rfl rfl (vs := [_,_,_,_,_,_,_,_,_,_,_,_,_,_,_]) rfl (nb9 rfl) ?_)))))))
  refine OL.yes rfl (clv rfl (.cons (VLe.refl _) (.cons (VLe.refl _) (.nil))) (ref37_SameX (pshH_bnd zd) (pshD_bnd zd)) (pkT rfl rfl (mvD rfl (OL.yes rfl (mvD rfl (OL.yes rfl (mvD rfl ?_)))))))
  refine OL.yes rfl (clv rfl (.cons (VLe.refl _) (.cons (VLe.refl _) (.nil))) (law37_sameT (l := (pshC r s)) (pshC_len zd)) (pkT rfl rfl (mvD rfl (OL.yes rfl (mvD rfl (OL.yes rfl (mvD rfl ?_)))))))
  refine OL.yes rfl (clv rfl (.cons (VLe.refl _) (.cons (VLe.refl _) (.nil))) (law37_sameT (l := (fnP r)) (fnP_len zd)) (pkT rfl rfl (mvD rfl (OL.yes rfl (ldPA ag.Rat rfl rfl (vs := [_,_,_]) rfl (nb9 rfl) (OL.yes rfl (ldPA ag.Rat rfl rfl (vs := [_,_,_]) rfl (nb9 rfl) ?_)))))))
  refine OL.yes rfl (clv rfl (.cons (VLe.refl _) (.cons (VLe.refl _) (.nil))) (ref_CompareT (x := (fnQ r)) (fnQ_sz zd)) (OL.yes rfl (c_eql rfl rfl (c := true) (decide_eq_true rfl) (pkT rfl rfl (mvD rfl (OL.yes rfl (mvD rfl ?_)))))))
  refine OL.yes rfl (mvD rfl (OL.yes rfl (clv rfl (.cons (VLe.refl _) (.cons (VLe.refl _) (.nil))) (law37_sameT (l := (rwP h w)) (rwP_len zz)) (pkT rfl rfl (mvD rfl (OL.yes rfl (mvD rfl ?_)))))))
  refine OL.yes rfl (mvD rfl (OL.yes rfl (clv rfl (.cons (VLe.refl _) (.cons (VLe.refl _) (.nil))) (law37_sameT (l := (rwW h w)) (rwW_len zz)) (pkT rfl rfl (mvD rfl (OL.yes rfl (ldPA ag.Rat rfl rfl (vs := [_,_,_]) rfl (nb9 rfl) ?_)))))))
  refine OL.yes rfl (ldPA ag.Rat rfl rfl (vs := [_,_,_]) rfl (nb9 rfl) (OL.yes rfl (clv rfl (.cons (VLe.refl _) (.cons (VLe.refl _) (.nil))) (ref_CompareT (x := (rwQ h w)) (rwQ_sz zz)) (OL.yes rfl (c_eql rfl rfl rfl (pkT rfl rfl (asD rfl ?_)))))))
  exact OL.nil (AW.ret (RetQ.r ⟨_, .tmp rfl .nil, .le (VLe.refl _)⟩))
end Go.Proofs.YtjghehkgmanmbaaGreat

/-
  Walks of the specification of package online, part 3: equal decoders; the law OnlineSteps (printed by mk2.py).
-/
import Derived.Test.YtcebciggodhmcaaGreatKOnF
import Derived.Test.YtcebciggodhmcaaGreatKOnD
set_option linter.unusedVariables false
set_option linter.unusedSimpArgs false
namespace Go.Proofs.YtcebciggodhmcaaGreat
open Go Go.AL
structure Bnd (h : HM) : Prop where
  zE : sz h.empty ≤ 1048576
  zI : Small 1048576 h.ini
  zS : Small 1048576 h.stop
  zT : ∀ i, Small 1048576 (h.trans.getD i [])
  zM : ∀ i, Small 1048576 (h.emit.getD i [])
  lI : h.ini.length ≤ 1048576
  lS : h.stop.length ≤ 1048576
  lT : h.trans.length ≤ 1048576
  lM : h.emit.length ≤ 1048576
  lU : ∀ i, (h.trans.getD i []).length ≤ 1048576
  lV : ∀ i, (h.emit.getD i []).length ≤ 1048576
  lB : h.silent.length ≤ 1048576
  lK : h.ties.length ≤ 1048576
theorem bnd_form {h : HM} {B : Nat} (f : h.Form B) : Bnd h := by
  have n1 := f.st1
  have s1 := f.sym1
  have bB := f.bB
  have e1 := f.ini
  have e2 := f.trans
  have e3 := f.stop
  have e4 := f.emit
  have e5 := f.ties
  have e6 : h.silent.length = h.st := by rw [f.silent]; simp
  refine ⟨Nat.le_trans f.zE (by omega), f.zI.mono (by omega), f.zS.mono (by omega), fun i => (f.zT i).mono (by omega), fun i => (f.zM i).mono (by omega), by omega, by omega, by omega, by omega, fun i => ?_, fun i => ?_, by omega, by omega⟩
  · exact (row_small f.trans f.trow f.zT (by omega) i).2
  · exact (row_small f.emit f.erow f.zM (by omega) i).2
theorem bnd_zero : Bnd HM0 := ⟨by show sz 0 ≤ _; rw [sz_zero]; decide, Small.nil, Small.nil, fun i => Small.nil, fun i => Small.nil, by decide, by decide, by decide, by decide, fun i => (by rw [show HM0.trans = [] from rfl]; simp), fun i => (by rw [show HM0.emit = [] from rfl]; simp), by decide, by decide⟩
theorem bnd_push {h : HM} {B : Nat} (f : h.Form B) (o : Dec) (x : Nat) : Bnd (pushH h o x) := by
  unfold pushH
  split
  · exact bnd_form f
  · exact bnd_zero
structure BndD (o : Dec) : Prop where
  z : Small 1048576 o.sc
  ls : o.sc.length ≤ 1048576
  lt : o.tl.length ≤ 1048576
  tl : ∀ i, (o.tl.getD i []).length ≤ 1048576
  ld : o.dn.length ≤ 1048576
theorem bndD_inv {h : HM} {B : Nat} {u : List Int} {o : Dec} (g : h.Good B) (k : InvD h u o) (hu : u.length ≤ 256) : BndD o := by
  have n1 := g.form.st1
  have kle := k.le
  refine ⟨k.small.mono (by omega), ?_, ?_, fun i => ?_, ?_⟩
  · by_cases h0 : o.t = 0
    · rw [(k.zero h0).1]; exact Nat.zero_le _
    · rw [(k.len h0).1]; omega
  · by_cases h0 : o.t = 0
    · rw [(k.zero h0).2.1]; exact Nat.zero_le _
    · rw [(k.len h0).2]; omega
  · have := tails_len k hu i; omega
  · have := done_len k hu; omega
theorem bndD_push {h : HM} {B : Nat} {u : List Int} {o : Dec} (g : h.Good B) (k : InvD h u o) (hu : u.length ≤ 256) (ht : o.t < u.length) : BndD (pushD h o (symX u o.t)) := by
  unfold pushD
  split
  · rename_i hs
    exact bndD_inv g (inv_step g k ht (someN_iff.1 hs)) hu
  · exact ⟨Small.nil, Nat.zero_le _, Nat.zero_le _, fun i => (by simp), Nat.zero_le _⟩
theorem ref01_sameL {L : List Nat} (nL : L.length ≤ 8796093022208) : FSpec P F.ref01_same [.d (u32s L), .d (u32s L)] (.d (dB true)) := by
  refine FSpec.intro fn.ref01_same (by rfl) (by rfl) (Nat.le_of_ble_eq_true (by rfl)) fun E hE => ?_
  refine AW.seq ?_
  refine AW.region (by rw [hE]; rfl) ?_
  refine asD rfl ?_
  refine OL.nil ?_
  refine AW.seq ?_
  refine AW.seq ?_
  refine AW.region (by rw [hE]; rfl) ?_
  refine mvD rfl ?_
  refine lnL sl.u32s rfl rfl ?_
  refine mvD rfl ?_
  refine lnL sl.u32s rfl rfl ?_
  refine c_neq rfl rfl (c := false) (cne_f rfl) ?_
  refine OL.nil ?_
  refine AW.cond rfl (fun hno => absurd hno (by decide)) (fun _ => ?_)
  refine AW.skip ?_
  refine AW.seq ?_
  refine AW.seq ?_
  refine AW.region (by rw [hE]; rfl) ?_
  refine asD rfl ?_
  refine OL.nil ?_
  refine AW.block ?_
  refine AW.whileK (α := Nat) [(0, _), (1, _)] [] (fun i => [(5, .d (dI i))]) (fun i => []) (fun i => i ≤ L.length) (fun i => L.length - i) 0 (by repeat (first | exact Knows.nil | refine Knows.cons (by first | exact knD rfl | exact knA rfl | exact knP rfl | exact knO rfl | exact knM rfl | exact knE rfl | exact knR rfl | exact knF rfl | exact knT rfl | exact knJ) ?_)) .nil ⟨Nat.zero_le _, .cons (by first | exact VLe.refl _ | exact VLe.int (by omega) | exact VLe.mt | exact vle_q0 | exact VLe.osl | exact VLe.ptr) .nil, .nil⟩ ?_
  intro i h1
  have h1 : i ≤ L.length := h1
  refine AW.seq ?_
  refine AW.seq ?_
  refine AW.region (by rw [hE]; rfl) ?_
  refine mvD rfl ?_
  refine mvD rfl ?_
  refine lnL sl.u32s rfl rfl ?_
  refine c_lss rfl rfl rfl ?_
  refine OL.nil ?_
  refine AW.cond rfl (fun h14 => ?_) (fun h14 => ?_)
  · first | (simp only [decide_eq_true_eq, decide_eq_false_iff_not, Bool.not_eq_true', Bool.not_eq_false', Bool.not_not, Bool.and_eq_true, Bool.and_eq_false_iff, Bool.or_eq_true, Bool.or_eq_false_iff] at h14) | skip
    refine AW.skip ?_
    refine AW.seq ?_
    refine AW.block ?_
    refine AW.seq ?_
    refine AW.region_draw 1 [0, 1, 2, 3, 4, 5, 6, 7, 8] order_free (by rw [hE]; rfl) (by kernel_rfl) (OI.of_OL (os := [_, _, _, _, _, _, _, _, _]) rfl ?_)
    refine mvD rfl ?_
    refine mvD rfl ?_
    refine ixLn sl.u32s 0 rfl rfl (by omega) rfl rfl ?_
    refine ldRC ce.u32 rfl ?_
    refine mvD rfl ?_
    refine mvD rfl ?_
    refine ixLn sl.u32s 0 rfl rfl (by omega) rfl rfl ?_
    refine ldRC ce.u32 rfl ?_
    refine c_neq rfl rfl (c := false) (cne_f rfl) ?_
    refine OL.nil ?_
    refine AW.cond rfl (fun hno => absurd hno (by decide)) (fun _ => ?_)
    refine AW.skip ?_
    refine AW.region (by rw [hE]; rfl) ?_
    refine mvD rfl ?_
    refine add_i64 rfl rfl (by omega) ?_
    refine asD rfl ?_
    refine OL.nil ?_
    exact AW.again (x := i) (i + 1) (by first | omega | (simp only []; omega)) ⟨by omega, Knows.app (.cons (VLe.refl _) (.cons (VLe.refl _) .nil)) (.cons (by first | exact VLe.refl _ | exact VLe.int (by omega) | exact VLe.mt | exact vle_q0 | exact VLe.osl | exact VLe.ptr) .nil), .nil⟩
  · first | (simp only [decide_eq_true_eq, decide_eq_false_iff_not, Bool.not_eq_true', Bool.not_eq_false', Bool.not_not, Bool.and_eq_true, Bool.and_eq_false_iff, Bool.or_eq_true, Bool.or_eq_false_iff] at h14) | skip
    refine AW.exit ?_
    refine AW.seq ?_
    refine AW.region (by rw [hE]; rfl) ?_
    refine asD rfl ?_
    refine OL.nil ?_
    exact AW.ret (RetQ.r ⟨_, .tmp rfl .nil, .le (by first | exact VLe.refl _ | exact VLe.mt | exact vle_q0 | exact VLe.int (by omega) | exact VLe.bool (by simp_all))⟩)
theorem ref01_SameQ {q : Rat} (hz : sz q ≤ 68719476736) : FSpec P F.ref01_Same [vQ q, vQ q] (.d (dB true)) := by
  have s1 := sz_num q
  have s2 := sz_den q
  have l1 : (ofQ q).num.length ≤ 8796093022208 := by rw [show (ofQ q).num = lim q.num.natAbs from rfl]; omega
  have l2 : (ofQ q).den.length ≤ 8796093022208 := by by_cases e : q.den = 1 <;> simp [ofQ, e]; omega
  refine FSpec.intro fn.ref01_Same (by rfl) (by rfl) (Nat.le_of_ble_eq_true (by rfl)) fun E hE => ?_
  refine AW.seq ?_
  refine AW.region (by rw [hE]; rfl) ?_
  refine bxA rfl rfl fun b2 => ?_
  refine bxA rfl rfl fun b3 => ?_
  refine asD rfl ?_
  refine OL.nil ?_
  refine AW.seq ?_
  refine AW.region (by rw [hE]; rfl) ?_
  refine faP fd.Rat_0 rfl rfl ?_
  refine ldPC ce.bool rfl rfl rfl ?_
  refine faP fd.Rat_0 rfl rfl ?_
  refine ldPC ce.bool rfl rfl rfl ?_
  refine eqb bt.bool rfl rfl ?_
  rw [beq_self_eq_true]
  refine mvD rfl ?_
  refine OL.yes rfl ?_
  refine faP fd.Rat_1 rfl rfl ?_
  refine OL.yes rfl ?_
  refine ldPC ce.u32s rfl rfl rfl ?_
  refine OL.yes rfl ?_
  refine faP fd.Rat_1 rfl rfl ?_
  refine OL.yes rfl ?_
  refine ldPC ce.u32s rfl rfl rfl ?_
  refine OL.yes rfl ?_
  refine clv rfl (.cons (VLe.refl _) (.cons (VLe.refl _) (.nil))) (ref01_sameL l1) ?_
  refine pkT rfl rfl ?_
  refine mvD rfl ?_
  refine OL.yes rfl ?_
  refine faP fd.Rat_2 rfl rfl ?_
  refine OL.yes rfl ?_
  refine ldPC ce.u32s rfl rfl rfl ?_
  refine OL.yes rfl ?_
  refine faP fd.Rat_2 rfl rfl ?_
  refine OL.yes rfl ?_
  refine ldPC ce.u32s rfl rfl rfl ?_
  refine OL.yes rfl ?_
  refine clv rfl (.cons (VLe.refl _) (.cons (VLe.refl _) (.nil))) (ref01_sameL l2) ?_
  refine pkT rfl rfl ?_
  refine asD rfl ?_
  refine OL.nil ?_
  exact AW.ret (RetQ.r ⟨_, .tmp rfl .nil, .le (by first | exact VLe.refl _ | exact VLe.mt | exact vle_q0 | exact VLe.int (by omega) | exact VLe.bool (by simp_all))⟩)
theorem ref33_fields {l : List Rat} {C : Nat} (hz : Small C l) (hC : 1 ≤ C ∧ C ≤ 68719476736) (nl : l.length ≤ 1048576) : FSpec P F.ref33_fields [.d (dQs l), .d (dQs l)] (.d (dB true)) := by
  refine FSpec.intro fn.ref33_fields (by rfl) (by rfl) (Nat.le_of_ble_eq_true (by rfl)) fun E hE => ?_
  refine AW.seq ?_
  refine AW.region (by rw [hE]; rfl) ?_
  refine asD rfl ?_
  refine OL.nil ?_
  refine AW.seq ?_
  refine AW.seq ?_
  refine AW.region (by rw [hE]; rfl) ?_
  refine mvD rfl ?_
  refine lnL sl.Rats rfl rfl ?_
  refine mvD rfl ?_
  refine lnL sl.Rats rfl rfl ?_
  refine c_neq rfl rfl (c := false) (cne_f rfl) ?_
  refine OL.nil ?_
  refine AW.cond rfl (fun hno => absurd hno (by decide)) (fun _ => ?_)
  refine AW.skip ?_
  refine AW.seq ?_
  refine AW.seq ?_
  refine AW.region (by rw [hE]; rfl) ?_
  refine asD rfl ?_
  refine OL.nil ?_
  refine AW.block ?_
  refine AW.whileK (α := Nat) [(0, _), (1, _)] [] (fun i => [(5, .d (dI i))]) (fun i => []) (fun i => i ≤ l.length) (fun i => l.length - i) 0 (by repeat (first | exact Knows.nil | refine Knows.cons (by first | exact knD rfl | exact knA rfl | exact knP rfl | exact knO rfl | exact knM rfl | exact knE rfl | exact knR rfl | exact knF rfl | exact knT rfl | exact knJ) ?_)) .nil ⟨Nat.zero_le _, .cons (by first | exact VLe.refl _ | exact VLe.int (by omega) | exact VLe.mt | exact vle_q0 | exact VLe.osl | exact VLe.ptr) .nil, .nil⟩ ?_
  intro i h1
  have h1 : i ≤ l.length := h1
  refine AW.seq ?_
  refine AW.seq ?_
  refine AW.region (by rw [hE]; rfl) ?_
  refine mvD rfl ?_
  refine mvD rfl ?_
  refine lnL sl.Rats rfl rfl ?_
  refine c_lss rfl rfl rfl ?_
  refine OL.nil ?_
  refine AW.cond rfl (fun h14 => ?_) (fun h14 => ?_)
  · first | (simp only [decide_eq_true_eq, decide_eq_false_iff_not, Bool.not_eq_true', Bool.not_eq_false', Bool.not_not, Bool.and_eq_true, Bool.and_eq_false_iff, Bool.or_eq_true, Bool.or_eq_false_iff] at h14) | skip
    refine AW.skip ?_
    refine AW.seq ?_
    refine AW.block ?_
    refine AW.seq ?_
    have zi := hz.get hC.1 i
    refine AW.region_draw 1 [0, 1, 2, 3, 4, 5, 6, 7, 8, 9] order_free (by rw [hE]; rfl) (by kernel_rfl) (OI.of_OL (os := [_, _, _, _, _, _, _, _, _, _]) rfl ?_)
    refine mvD rfl ?_
    refine mvD rfl ?_
    refine ixLn sl.Rats 0 rfl rfl (by omega) rfl rfl ?_
    refine ldRA ag.Rat rfl (vs := [_, _, _]) rfl (Nat.le_of_ble_eq_true rfl) ?_
    refine mvD rfl ?_
    refine mvD rfl ?_
    refine ixLn sl.Rats 0 rfl rfl (by omega) rfl rfl ?_
    refine ldRA ag.Rat rfl (vs := [_, _, _]) rfl (Nat.le_of_ble_eq_true rfl) ?_
    refine clv rfl (.cons (VLe.refl _) (.cons (VLe.refl _) (.nil))) (ref01_SameQ (q := l.getD i 0) (by omega)) ?_
    refine nt rfl ?_
    refine OL.nil ?_
    refine AW.cond rfl (fun hno => absurd hno (by decide)) (fun _ => ?_)
    refine AW.skip ?_
    refine AW.region (by rw [hE]; rfl) ?_
    refine mvD rfl ?_
    refine add_i64 rfl rfl (by omega) ?_
    refine asD rfl ?_
    refine OL.nil ?_
    exact AW.again (x := i) (i + 1) (by first | omega | (simp only []; omega)) ⟨by omega, Knows.app (.cons (VLe.refl _) (.cons (VLe.refl _) .nil)) (.cons (by first | exact VLe.refl _ | exact VLe.int (by omega) | exact VLe.mt | exact vle_q0 | exact VLe.osl | exact VLe.ptr) .nil), .nil⟩
  · first | (simp only [decide_eq_true_eq, decide_eq_false_iff_not, Bool.not_eq_true', Bool.not_eq_false', Bool.not_not, Bool.and_eq_true, Bool.and_eq_false_iff, Bool.or_eq_true, Bool.or_eq_false_iff] at h14) | skip
    refine AW.exit ?_
    refine AW.seq ?_
    refine AW.region (by rw [hE]; rfl) ?_
    refine asD rfl ?_
    refine OL.nil ?_
    exact AW.ret (RetQ.r ⟨_, .tmp rfl .nil, .le (by first | exact VLe.refl _ | exact VLe.mt | exact vle_q0 | exact VLe.int (by omega) | exact VLe.bool (by simp_all))⟩)
set_option maxRecDepth 6000 in
set_option maxHeartbeats 1600000 in
theorem ref33_SameM {h : HM} (b : Bnd h) : FSpec P F.ref33_Same [vHM h, vHM h] (.d (dB true)) := by
  have zE := b.zE
  have lI := b.lI
  have lS := b.lS
  have lT := b.lT
  have lM := b.lM
  have lB := b.lB
  have lK := b.lK
  refine FSpec.intro fn.ref33_Same (by rfl) (by rfl) (Nat.le_of_ble_eq_true (by rfl)) fun E hE => ?_
  refine AW.seq ?_
  refine AW.region (by rw [hE]; rfl) ?_
  refine bxA rfl rfl fun b2 => ?_
  refine bxA rfl rfl fun b3 => ?_
  refine asD rfl ?_
  refine OL.nil ?_
  refine AW.seq ?_
  refine AW.seq ?_
  refine AW.region (by rw [hE]; rfl) ?_
  refine faP fd.Hidden_0 rfl rfl ?_
  refine ldPC ce.int rfl rfl rfl ?_
  refine faP fd.Hidden_0 rfl rfl ?_
  refine ldPC ce.int rfl rfl rfl ?_
  refine c_neq rfl rfl (c := false) (cne_f rfl) ?_
  refine mvD rfl ?_
  refine OL.yes rfl ?_
  refine faP fd.Hidden_1 rfl rfl ?_
  refine OL.yes rfl ?_
  refine ldPC ce.int rfl rfl rfl ?_
  refine OL.yes rfl ?_
  refine faP fd.Hidden_1 rfl rfl ?_
  refine OL.yes rfl ?_
  refine ldPC ce.int rfl rfl rfl ?_
  refine OL.yes rfl ?_
  refine c_neq rfl rfl (c := false) (cne_f rfl) ?_
  refine pkF rfl rfl ?_
  refine mvD rfl ?_
  refine OL.yes rfl ?_
  refine faP fd.Hidden_2 rfl rfl ?_
  refine OL.yes rfl ?_
  refine ldPA ag.Rat rfl rfl (vs := [_, _, _]) rfl (Nat.le_of_ble_eq_true rfl) ?_
  refine OL.yes rfl ?_
  refine faP fd.Hidden_2 rfl rfl ?_
  refine OL.yes rfl ?_
  refine ldPA ag.Rat rfl rfl (vs := [_, _, _]) rfl (Nat.le_of_ble_eq_true rfl) ?_
  refine OL.yes rfl ?_
  refine clv rfl (.cons (VLe.refl _) (.cons (VLe.refl _) (.nil))) (ref01_SameQ (q := h.empty) (by omega)) ?_
  refine OL.yes rfl ?_
  refine nt rfl ?_
  refine pkF rfl rfl ?_
  refine mvD rfl ?_
  refine OL.yes rfl ?_
  refine faP fd.Hidden_3 rfl rfl ?_
  refine OL.yes rfl ?_
  refine ldPC ce.Rats rfl rfl rfl ?_
  refine OL.yes rfl ?_
  refine faP fd.Hidden_3 rfl rfl ?_
  refine OL.yes rfl ?_
  refine ldPC ce.Rats rfl rfl rfl ?_
  refine OL.yes rfl ?_
  refine clv rfl (.cons (VLe.refl _) (.cons (VLe.refl _) (.nil))) (ref33_fields b.zI (by decide : 1 ≤ 1048576 ∧ 1048576 ≤ 68719476736) lI) ?_
  refine OL.yes rfl ?_
  refine nt rfl ?_
  refine pkF rfl rfl ?_
  refine mvD rfl ?_
  refine OL.yes rfl ?_
  refine faP fd.Hidden_5 rfl rfl ?_
  refine OL.yes rfl ?_
  refine ldPC ce.Rats rfl rfl rfl ?_
  refine OL.yes rfl ?_
  refine faP fd.Hidden_5 rfl rfl ?_
  refine OL.yes rfl ?_
  refine ldPC ce.Rats rfl rfl rfl ?_
  refine OL.yes rfl ?_
  refine clv rfl (.cons (VLe.refl _) (.cons (VLe.refl _) (.nil))) (ref33_fields b.zS (by decide : 1 ≤ 1048576 ∧ 1048576 ≤ 68719476736) lS) ?_
  refine OL.yes rfl ?_
  refine nt rfl ?_
  refine pkF rfl rfl ?_
  refine mvD rfl ?_
  refine OL.yes rfl ?_
  refine faP fd.Hidden_4 rfl rfl ?_
  refine OL.yes rfl ?_
  refine ldPC ce.Ratss rfl rfl rfl ?_
  refine OL.yes rfl ?_
  refine lnL sl.Ratss rfl rfl ?_
  refine OL.yes rfl ?_
  refine faP fd.Hidden_4 rfl rfl ?_
  refine OL.yes rfl ?_
  refine ldPC ce.Ratss rfl rfl rfl ?_
  refine OL.yes rfl ?_
  refine lnL sl.Ratss rfl rfl ?_
  refine OL.yes rfl ?_
  refine c_neq rfl rfl (c := false) (cne_f rfl) ?_
  refine pkF rfl rfl ?_
  refine mvD rfl ?_
  refine OL.yes rfl ?_
  refine faP fd.Hidden_6 rfl rfl ?_
  refine OL.yes rfl ?_
  refine ldPC ce.Ratss rfl rfl rfl ?_
  refine OL.yes rfl ?_
  refine lnL sl.Ratss rfl rfl ?_
  refine OL.yes rfl ?_
  refine faP fd.Hidden_6 rfl rfl ?_
  refine OL.yes rfl ?_
  refine ldPC ce.Ratss rfl rfl rfl ?_
  refine OL.yes rfl ?_
  refine lnL sl.Ratss rfl rfl ?_
  refine OL.yes rfl ?_
  refine c_neq rfl rfl (c := false) (cne_f rfl) ?_
  refine pkF rfl rfl ?_
  refine mvD rfl ?_
  refine OL.yes rfl ?_
  refine faP fd.Hidden_7 rfl rfl ?_
  refine OL.yes rfl ?_
  refine ldPC ce.bools rfl rfl rfl ?_
  refine OL.yes rfl ?_
  refine lnL sl.bools rfl rfl ?_
  refine OL.yes rfl ?_
  refine faP fd.Hidden_7 rfl rfl ?_
  refine OL.yes rfl ?_
  refine ldPC ce.bools rfl rfl rfl ?_
  refine OL.yes rfl ?_
  refine lnL sl.bools rfl rfl ?_
  refine OL.yes rfl ?_
  refine c_neq rfl rfl (c := false) (cne_f rfl) ?_
  refine pkF rfl rfl ?_
  refine mvD rfl ?_
  refine OL.yes rfl ?_
  refine faP fd.Hidden_8 rfl rfl ?_
  refine OL.yes rfl ?_
  refine ldPC ce.ints rfl rfl rfl ?_
  refine OL.yes rfl ?_
  refine lnL sl.ints rfl rfl ?_
  refine OL.yes rfl ?_
  refine faP fd.Hidden_8 rfl rfl ?_
  refine OL.yes rfl ?_
  refine ldPC ce.ints rfl rfl rfl ?_
  refine OL.yes rfl ?_
  refine lnL sl.ints rfl rfl ?_
  refine OL.yes rfl ?_
  refine c_neq rfl rfl (c := false) (cne_f rfl) ?_
  refine pkF rfl rfl ?_
  refine OL.nil ?_
  refine AW.cond rfl (fun hno => absurd hno (by decide)) (fun _ => ?_)
  refine AW.skip ?_
  refine AW.seq ?_
  refine AW.seq ?_
  refine AW.region (by rw [hE]; rfl) ?_
  refine asD rfl ?_
  refine OL.nil ?_
  refine AW.block ?_
  refine AW.whileK (α := Nat) [(2, _), (3, _)] [(2, _), (3, _)] (fun i => [(5, .d (dI i))]) (fun i => []) (fun i => i ≤ h.trans.length) (fun i => h.trans.length - i) 0 (by repeat (first | exact Knows.nil | refine Knows.cons (by first | exact knD rfl | exact knA rfl | exact knP rfl | exact knO rfl | exact knM rfl | exact knE rfl | exact knR rfl | exact knF rfl | exact knT rfl | exact knJ) ?_)) (by repeat (first | exact Owns.nil | refine Owns.cons (by first | exact owB rfl | exact owR rfl | exact owL rfl | exact owT rfl) ?_)) ⟨Nat.zero_le _, .cons (by first | exact VLe.refl _ | exact VLe.int (by omega) | exact VLe.mt | exact vle_q0 | exact VLe.osl | exact VLe.ptr) .nil, .nil⟩ ?_
  intro i h1
  have h1 : i ≤ h.trans.length := h1
  refine AW.seq ?_
  refine AW.seq ?_
  refine AW.region (by rw [hE]; rfl) ?_
  refine mvD rfl ?_
  refine faP fd.Hidden_4 rfl rfl ?_
  refine ldPC ce.Ratss rfl rfl rfl ?_
  refine lnL sl.Ratss rfl rfl ?_
  refine c_lss rfl rfl rfl ?_
  refine OL.nil ?_
  refine AW.cond rfl (fun h85 => ?_) (fun h85 => ?_)
  · first | (simp only [decide_eq_true_eq, decide_eq_false_iff_not, Bool.not_eq_true', Bool.not_eq_false', Bool.not_not, Bool.and_eq_true, Bool.and_eq_false_iff, Bool.or_eq_true, Bool.or_eq_false_iff] at h85) | skip
    refine AW.skip ?_
    refine AW.seq ?_
    refine AW.block ?_
    refine AW.seq ?_
    refine AW.region_draw 1 [0, 1, 2, 3, 4, 5, 6, 7, 8, 9, 10, 11] order_free (by rw [hE]; rfl) (by kernel_rfl) (OI.of_OL (os := [_, _, _, _, _, _, _, _, _, _, _, _]) rfl ?_)
    refine faP fd.Hidden_4 rfl rfl ?_
    refine ldPC ce.Ratss rfl rfl rfl ?_
    refine mvD rfl ?_
    refine ixLn sl.Ratss [] rfl rfl (by omega) rfl rfl ?_
    refine ldRC ce.Rats rfl ?_
    refine faP fd.Hidden_4 rfl rfl ?_
    refine ldPC ce.Ratss rfl rfl rfl ?_
    refine mvD rfl ?_
    refine ixLn sl.Ratss [] rfl rfl (by omega) rfl rfl ?_
    refine ldRC ce.Rats rfl ?_
    refine clv rfl (.cons (VLe.refl _) (.cons (VLe.refl _) (.nil))) (ref33_fields (b.zT i) (by decide : 1 ≤ 1048576 ∧ 1048576 ≤ 68719476736) (b.lU i)) ?_
    refine nt rfl ?_
    refine OL.nil ?_
    refine AW.cond rfl (fun hno => absurd hno (by decide)) (fun _ => ?_)
    refine AW.skip ?_
    refine AW.region (by rw [hE]; rfl) ?_
    refine mvD rfl ?_
    refine add_i64 rfl rfl (by omega) ?_
    refine asD rfl ?_
    refine OL.nil ?_
    exact AW.again (x := i) (i + 1) (by first | omega | (simp only []; omega)) ⟨by omega, Knows.app (.cons (VLe.refl _) (.cons (VLe.refl _) .nil)) (.cons (by first | exact VLe.refl _ | exact VLe.int (by omega) | exact VLe.mt | exact vle_q0 | exact VLe.osl | exact VLe.ptr) .nil), Owns.app (.cons rfl (.cons rfl .nil)) (.nil)⟩
  · first | (simp only [decide_eq_true_eq, decide_eq_false_iff_not, Bool.not_eq_true', Bool.not_eq_false', Bool.not_not, Bool.and_eq_true, Bool.and_eq_false_iff, Bool.or_eq_true, Bool.or_eq_false_iff] at h85) | skip
    refine AW.exit ?_
    refine AW.seq ?_
    refine AW.seq ?_
    refine AW.region (by rw [hE]; rfl) ?_
    refine asD rfl ?_
    refine OL.nil ?_
    refine AW.block ?_
    refine AW.whileK (α := Nat) [(2, _), (3, _)] [(2, _), (3, _)] (fun i => [(6, .d (dI i))]) (fun i => []) (fun i => i ≤ h.emit.length) (fun i => h.emit.length - i) 0 (by repeat (first | exact Knows.nil | refine Knows.cons (by first | exact knD rfl | exact knA rfl | exact knP rfl | exact knO rfl | exact knM rfl | exact knE rfl | exact knR rfl | exact knF rfl | exact knT rfl | exact knJ) ?_)) (by repeat (first | exact Owns.nil | refine Owns.cons (by first | exact owB rfl | exact owR rfl | exact owL rfl | exact owT rfl) ?_)) ⟨Nat.zero_le _, .cons (by first | exact VLe.refl _ | exact VLe.int (by omega) | exact VLe.mt | exact vle_q0 | exact VLe.osl | exact VLe.ptr) .nil, .nil⟩ ?_
    intro i h1
    have h1 : i ≤ h.emit.length := h1
    refine AW.seq ?_
    refine AW.seq ?_
    refine AW.region (by rw [hE]; rfl) ?_
    refine mvD rfl ?_
    refine faP fd.Hidden_6 rfl rfl ?_
    refine ldPC ce.Ratss rfl rfl rfl ?_
    refine lnL sl.Ratss rfl rfl ?_
    refine c_lss rfl rfl rfl ?_
    refine OL.nil ?_
    refine AW.cond rfl (fun h104 => ?_) (fun h104 => ?_)
    · first | (simp only [decide_eq_true_eq, decide_eq_false_iff_not, Bool.not_eq_true', Bool.not_eq_false', Bool.not_not, Bool.and_eq_true, Bool.and_eq_false_iff, Bool.or_eq_true, Bool.or_eq_false_iff] at h104) | skip
      refine AW.skip ?_
      refine AW.seq ?_
      refine AW.block ?_
      refine AW.seq ?_
      refine AW.region_draw 1 [0, 1, 2, 3, 4, 5, 6, 7, 8, 9, 10, 11] order_free (by rw [hE]; rfl) (by kernel_rfl) (OI.of_OL (os := [_, _, _, _, _, _, _, _, _, _, _, _]) rfl ?_)
      refine faP fd.Hidden_6 rfl rfl ?_
      refine ldPC ce.Ratss rfl rfl rfl ?_
      refine mvD rfl ?_
      refine ixLn sl.Ratss [] rfl rfl (by omega) rfl rfl ?_
      refine ldRC ce.Rats rfl ?_
      refine faP fd.Hidden_6 rfl rfl ?_
      refine ldPC ce.Ratss rfl rfl rfl ?_
      refine mvD rfl ?_
      refine ixLn sl.Ratss [] rfl rfl (by omega) rfl rfl ?_
      refine ldRC ce.Rats rfl ?_
      refine clv rfl (.cons (VLe.refl _) (.cons (VLe.refl _) (.nil))) (ref33_fields (b.zM i) (by decide : 1 ≤ 1048576 ∧ 1048576 ≤ 68719476736) (b.lV i)) ?_
      refine nt rfl ?_
      refine OL.nil ?_
      refine AW.cond rfl (fun hno => absurd hno (by decide)) (fun _ => ?_)
      refine AW.skip ?_
      refine AW.region (by rw [hE]; rfl) ?_
      refine mvD rfl ?_
      refine add_i64 rfl rfl (by omega) ?_
      refine asD rfl ?_
      refine OL.nil ?_
      exact AW.again (x := i) (i + 1) (by first | omega | (simp only []; omega)) ⟨by omega, Knows.app (.cons (VLe.refl _) (.cons (VLe.refl _) .nil)) (.cons (by first | exact VLe.refl _ | exact VLe.int (by omega) | exact VLe.mt | exact vle_q0 | exact VLe.osl | exact VLe.ptr) .nil), Owns.app (.cons rfl (.cons rfl .nil)) (.nil)⟩
    · first | (simp only [decide_eq_true_eq, decide_eq_false_iff_not, Bool.not_eq_true', Bool.not_eq_false', Bool.not_not, Bool.and_eq_true, Bool.and_eq_false_iff, Bool.or_eq_true, Bool.or_eq_false_iff] at h104) | skip
      refine AW.exit ?_
      refine AW.seq ?_
      refine AW.seq ?_
      refine AW.region (by rw [hE]; rfl) ?_
      refine asD rfl ?_
      refine OL.nil ?_
      refine AW.block ?_
      refine AW.whileK (α := Nat) [(2, _), (3, _)] [(2, _), (3, _)] (fun i => [(7, .d (dI i))]) (fun i => []) (fun i => i ≤ h.silent.length) (fun i => h.silent.length - i) 0 (by repeat (first | exact Knows.nil | refine Knows.cons (by first | exact knD rfl | exact knA rfl | exact knP rfl | exact knO rfl | exact knM rfl | exact knE rfl | exact knR rfl | exact knF rfl | exact knT rfl | exact knJ) ?_)) (by repeat (first | exact Owns.nil | refine Owns.cons (by first | exact owB rfl | exact owR rfl | exact owL rfl | exact owT rfl) ?_)) ⟨Nat.zero_le _, .cons (by first | exact VLe.refl _ | exact VLe.int (by omega) | exact VLe.mt | exact vle_q0 | exact VLe.osl | exact VLe.ptr) .nil, .nil⟩ ?_
      intro i h1
      have h1 : i ≤ h.silent.length := h1
      refine AW.seq ?_
      refine AW.seq ?_
      refine AW.region (by rw [hE]; rfl) ?_
      refine mvD rfl ?_
      refine faP fd.Hidden_7 rfl rfl ?_
      refine ldPC ce.bools rfl rfl rfl ?_
      refine lnL sl.bools rfl rfl ?_
      refine c_lss rfl rfl rfl ?_
      refine OL.nil ?_
      refine AW.cond rfl (fun h123 => ?_) (fun h123 => ?_)
      · first | (simp only [decide_eq_true_eq, decide_eq_false_iff_not, Bool.not_eq_true', Bool.not_eq_false', Bool.not_not, Bool.and_eq_true, Bool.and_eq_false_iff, Bool.or_eq_true, Bool.or_eq_false_iff] at h123) | skip
        refine AW.skip ?_
        refine AW.seq ?_
        refine AW.block ?_
        refine AW.seq ?_
        refine AW.region_draw 1 [0, 1, 2, 3, 4, 5, 6, 7, 8, 9, 10] order_free (by rw [hE]; rfl) (by kernel_rfl) (OI.of_OL (os := [_, _, _, _, _, _, _, _, _, _, _]) rfl ?_)
        refine faP fd.Hidden_7 rfl rfl ?_
        refine ldPC ce.bools rfl rfl rfl ?_
        refine mvD rfl ?_
        refine ixLn sl.bools false rfl rfl (by omega) rfl rfl ?_
        refine ldRC ce.bool rfl ?_
        refine faP fd.Hidden_7 rfl rfl ?_
        refine ldPC ce.bools rfl rfl rfl ?_
        refine mvD rfl ?_
        refine ixLn sl.bools false rfl rfl (by omega) rfl rfl ?_
        refine ldRC ce.bool rfl ?_
        refine neb bt.bool rfl rfl ?_
        rw [beq_self_eq_true]
        refine OL.nil ?_
        refine AW.cond rfl (fun hno => absurd hno (by decide)) (fun _ => ?_)
        refine AW.skip ?_
        refine AW.region (by rw [hE]; rfl) ?_
        refine mvD rfl ?_
        refine add_i64 rfl rfl (by omega) ?_
        refine asD rfl ?_
        refine OL.nil ?_
        exact AW.again (x := i) (i + 1) (by first | omega | (simp only []; omega)) ⟨by omega, Knows.app (.cons (VLe.refl _) (.cons (VLe.refl _) .nil)) (.cons (by first | exact VLe.refl _ | exact VLe.int (by omega) | exact VLe.mt | exact vle_q0 | exact VLe.osl | exact VLe.ptr) .nil), Owns.app (.cons rfl (.cons rfl .nil)) (.nil)⟩
      · first | (simp only [decide_eq_true_eq, decide_eq_false_iff_not, Bool.not_eq_true', Bool.not_eq_false', Bool.not_not, Bool.and_eq_true, Bool.and_eq_false_iff, Bool.or_eq_true, Bool.or_eq_false_iff] at h123) | skip
        refine AW.exit ?_
        refine AW.seq ?_
        refine AW.seq ?_
        refine AW.region (by rw [hE]; rfl) ?_
        refine asD rfl ?_
        refine OL.nil ?_
        refine AW.block ?_
        refine AW.whileK (α := Nat) [(2, _), (3, _)] [(2, _), (3, _)] (fun i => [(8, .d (dI i))]) (fun i => []) (fun i => i ≤ h.ties.length) (fun i => h.ties.length - i) 0 (by repeat (first | exact Knows.nil | refine Knows.cons (by first | exact knD rfl | exact knA rfl | exact knP rfl | exact knO rfl | exact knM rfl | exact knE rfl | exact knR rfl | exact knF rfl | exact knT rfl | exact knJ) ?_)) (by repeat (first | exact Owns.nil | refine Owns.cons (by first | exact owB rfl | exact owR rfl | exact owL rfl | exact owT rfl) ?_)) ⟨Nat.zero_le _, .cons (by first | exact VLe.refl _ | exact VLe.int (by omega) | exact VLe.mt | exact vle_q0 | exact VLe.osl | exact VLe.ptr) .nil, .nil⟩ ?_
        intro i h1
        have h1 : i ≤ h.ties.length := h1
        refine AW.seq ?_
        refine AW.seq ?_
        refine AW.region (by rw [hE]; rfl) ?_
        refine mvD rfl ?_
        refine faP fd.Hidden_8 rfl rfl ?_
        refine ldPC ce.ints rfl rfl rfl ?_
        refine lnL sl.ints rfl rfl ?_
        refine c_lss rfl rfl rfl ?_
        refine OL.nil ?_
        refine AW.cond rfl (fun h141 => ?_) (fun h141 => ?_)
        · first | (simp only [decide_eq_true_eq, decide_eq_false_iff_not, Bool.not_eq_true', Bool.not_eq_false', Bool.not_not, Bool.and_eq_true, Bool.and_eq_false_iff, Bool.or_eq_true, Bool.or_eq_false_iff] at h141) | skip
          refine AW.skip ?_
          refine AW.seq ?_
          refine AW.block ?_
          refine AW.seq ?_
          refine AW.region_draw 1 [0, 1, 2, 3, 4, 5, 6, 7, 8, 9, 10] order_free (by rw [hE]; rfl) (by kernel_rfl) (OI.of_OL (os := [_, _, _, _, _, _, _, _, _, _, _]) rfl ?_)
          refine faP fd.Hidden_8 rfl rfl ?_
          refine ldPC ce.ints rfl rfl rfl ?_
          refine mvD rfl ?_
          refine ixLn sl.ints 0 rfl rfl (by omega) rfl rfl ?_
          refine ldRC ce.int rfl ?_
          refine faP fd.Hidden_8 rfl rfl ?_
          refine ldPC ce.ints rfl rfl rfl ?_
          refine mvD rfl ?_
          refine ixLn sl.ints 0 rfl rfl (by omega) rfl rfl ?_
          refine ldRC ce.int rfl ?_
          refine c_neq rfl rfl (c := false) (cne_f rfl) ?_
          refine OL.nil ?_
          refine AW.cond rfl (fun hno => absurd hno (by decide)) (fun _ => ?_)
          refine AW.skip ?_
          refine AW.region (by rw [hE]; rfl) ?_
          refine mvD rfl ?_
          refine add_i64 rfl rfl (by omega) ?_
          refine asD rfl ?_
          refine OL.nil ?_
          exact AW.again (x := i) (i + 1) (by first | omega | (simp only []; omega)) ⟨by omega, Knows.app (.cons (VLe.refl _) (.cons (VLe.refl _) .nil)) (.cons (by first | exact VLe.refl _ | exact VLe.int (by omega) | exact VLe.mt | exact vle_q0 | exact VLe.osl | exact VLe.ptr) .nil), Owns.app (.cons rfl (.cons rfl .nil)) (.nil)⟩
        · first | (simp only [decide_eq_true_eq, decide_eq_false_iff_not, Bool.not_eq_true', Bool.not_eq_false', Bool.not_not, Bool.and_eq_true, Bool.and_eq_false_iff, Bool.or_eq_true, Bool.or_eq_false_iff] at h141) | skip
          refine AW.exit ?_
          refine AW.seq ?_
          refine AW.region (by rw [hE]; rfl) ?_
          refine asD rfl ?_
          refine OL.nil ?_
          exact AW.ret (RetQ.r ⟨_, .tmp rfl .nil, .le (by first | exact VLe.refl _ | exact VLe.mt | exact vle_q0 | exact VLe.int (by omega) | exact VLe.bool (by simp_all))⟩)
set_option maxRecDepth 6000 in
set_option maxHeartbeats 1600000 in
theorem ref37_Same {h : HM} {o : Dec} (b : Bnd h) (d : BndD o) : FSpec P F.ref37_Same [vOn h o, vOn h o] (.d (dB true)) := by
  have ls := d.ls
  have lt := d.lt
  have ld := d.ld
  refine FSpec.intro fn.ref37_Same (by rfl) (by rfl) (Nat.le_of_ble_eq_true (by rfl)) fun E hE => ?_
  refine AW.seq ?_
  refine AW.region (by rw [hE]; rfl) ?_
  refine bxA rfl rfl fun b2 => ?_
  refine bxA rfl rfl fun b3 => ?_
  refine asD rfl ?_
  refine OL.nil ?_
  refine AW.seq ?_
  refine AW.seq ?_
  refine AW.region (by rw [hE]; rfl) ?_
  refine faP fd.Online_0 rfl rfl ?_
  refine ldPA ag.Hidden rfl rfl (vs := [_, _, _, _, _, _, _, _, _, _, _]) rfl (Nat.le_of_ble_eq_true rfl) ?_
  refine faP fd.Online_0 rfl rfl ?_
  refine ldPA ag.Hidden rfl rfl (vs := [_, _, _, _, _, _, _, _, _, _, _]) rfl (Nat.le_of_ble_eq_true rfl) ?_
  refine clv rfl (.cons (VLe.refl _) (.cons (VLe.refl _) (.nil))) (ref33_SameM b) ?_
  refine nt rfl ?_
  refine mvD rfl ?_
  refine OL.yes rfl ?_
  refine faP fd.Online_1 rfl rfl ?_
  refine OL.yes rfl ?_
  refine ldPC ce.int rfl rfl rfl ?_
  refine OL.yes rfl ?_
  refine faP fd.Online_1 rfl rfl ?_
  refine OL.yes rfl ?_
  refine ldPC ce.int rfl rfl rfl ?_
  refine OL.yes rfl ?_
  refine c_neq rfl rfl (c := false) (cne_f rfl) ?_
  refine pkF rfl rfl ?_
  refine mvD rfl ?_
  refine OL.yes rfl ?_
  refine faP fd.Online_2 rfl rfl ?_
  refine OL.yes rfl ?_
  refine ldPC ce.Rats rfl rfl rfl ?_
  refine OL.yes rfl ?_
  refine faP fd.Online_2 rfl rfl ?_
  refine OL.yes rfl ?_
  refine ldPC ce.Rats rfl rfl rfl ?_
  refine OL.yes rfl ?_
  refine clv rfl (.cons (VLe.refl _) (.cons (VLe.refl _) (.nil))) (ref33_SameRats d.z d.z ⟨by decide, by decide, by omega⟩) ?_
  rw [decide_eq_true rfl]
  refine OL.yes rfl ?_
  refine nt rfl ?_
  refine pkF rfl rfl ?_
  refine mvD rfl ?_
  refine OL.yes rfl ?_
  refine faP fd.Online_3 rfl rfl ?_
  refine OL.yes rfl ?_
  refine ldPC ce.intss rfl rfl rfl ?_
  refine OL.yes rfl ?_
  refine lnL sl.intss rfl rfl ?_
  refine OL.yes rfl ?_
  refine faP fd.Online_3 rfl rfl ?_
  refine OL.yes rfl ?_
  refine ldPC ce.intss rfl rfl rfl ?_
  refine OL.yes rfl ?_
  refine lnL sl.intss rfl rfl ?_
  refine OL.yes rfl ?_
  refine c_neq rfl rfl (c := false) (cne_f rfl) ?_
  refine pkF rfl rfl ?_
  refine mvD rfl ?_
  refine OL.yes rfl ?_
  refine faP fd.Online_4 rfl rfl ?_
  refine OL.yes rfl ?_
  refine ldPC ce.ints rfl rfl rfl ?_
  refine OL.yes rfl ?_
  refine faP fd.Online_4 rfl rfl ?_
  refine OL.yes rfl ?_
  refine ldPC ce.ints rfl rfl rfl ?_
  refine OL.yes rfl ?_
  refine clv rfl (.cons (VLe.refl _) (.cons (VLe.refl _) (.nil))) (ref05_CompareS (by omega)) ?_
  rw [cmpS_self]
  refine OL.yes rfl ?_
  refine c_neq rfl rfl (c := false) (cne_f rfl) ?_
  refine pkF rfl rfl ?_
  refine OL.nil ?_
  refine AW.cond rfl (fun hno => absurd hno (by decide)) (fun _ => ?_)
  refine AW.skip ?_
  refine AW.seq ?_
  refine AW.seq ?_
  refine AW.region (by rw [hE]; rfl) ?_
  refine asD rfl ?_
  refine OL.nil ?_
  refine AW.block ?_
  refine AW.whileK (α := Nat) [(2, _), (3, _)] [(2, _), (3, _)] (fun i => [(5, .d (dI i))]) (fun i => []) (fun i => i ≤ o.tl.length) (fun i => o.tl.length - i) 0 (by repeat (first | exact Knows.nil | refine Knows.cons (by first | exact knD rfl | exact knA rfl | exact knP rfl | exact knO rfl | exact knM rfl | exact knE rfl | exact knR rfl | exact knF rfl | exact knT rfl | exact knJ) ?_)) (by repeat (first | exact Owns.nil | refine Owns.cons (by first | exact owB rfl | exact owR rfl | exact owL rfl | exact owT rfl) ?_)) ⟨Nat.zero_le _, .cons (by first | exact VLe.refl _ | exact VLe.int (by omega) | exact VLe.mt | exact vle_q0 | exact VLe.osl | exact VLe.ptr) .nil, .nil⟩ ?_
  intro i h1
  have h1 : i ≤ o.tl.length := h1
  refine AW.seq ?_
  refine AW.seq ?_
  refine AW.region (by rw [hE]; rfl) ?_
  refine mvD rfl ?_
  refine faP fd.Online_3 rfl rfl ?_
  refine ldPC ce.intss rfl rfl rfl ?_
  refine lnL sl.intss rfl rfl ?_
  refine c_lss rfl rfl rfl ?_
  refine OL.nil ?_
  refine AW.cond rfl (fun h48 => ?_) (fun h48 => ?_)
  · first | (simp only [decide_eq_true_eq, decide_eq_false_iff_not, Bool.not_eq_true', Bool.not_eq_false', Bool.not_not, Bool.and_eq_true, Bool.and_eq_false_iff, Bool.or_eq_true, Bool.or_eq_false_iff] at h48) | skip
    refine AW.skip ?_
    refine AW.seq ?_
    refine AW.block ?_
    refine AW.seq ?_
    have dt := d.tl i
    refine AW.region_draw 1 [0, 1, 2, 3, 4, 5, 6, 7, 8, 9, 10, 11] order_free (by rw [hE]; rfl) (by kernel_rfl) (OI.of_OL (os := [_, _, _, _, _, _, _, _, _, _, _, _]) rfl ?_)
    refine faP fd.Online_3 rfl rfl ?_
    refine ldPC ce.intss rfl rfl rfl ?_
    refine mvD rfl ?_
    refine ixLn sl.intss [] rfl rfl (by omega) rfl rfl ?_
    refine ldRC ce.ints rfl ?_
    refine faP fd.Online_3 rfl rfl ?_
    refine ldPC ce.intss rfl rfl rfl ?_
    refine mvD rfl ?_
    refine ixLn sl.intss [] rfl rfl (by omega) rfl rfl ?_
    refine ldRC ce.ints rfl ?_
    refine clv rfl (.cons (VLe.refl _) (.cons (VLe.refl _) (.nil))) (ref05_CompareS (by omega)) ?_
    rw [cmpS_self]
    refine c_neq rfl rfl (c := false) (cne_f rfl) ?_
    refine OL.nil ?_
    refine AW.cond rfl (fun hno => absurd hno (by decide)) (fun _ => ?_)
    refine AW.skip ?_
    refine AW.region (by rw [hE]; rfl) ?_
    refine mvD rfl ?_
    refine add_i64 rfl rfl (by omega) ?_
    refine asD rfl ?_
    refine OL.nil ?_
    exact AW.again (x := i) (i + 1) (by first | omega | (simp only []; omega)) ⟨by omega, Knows.app (.cons (VLe.refl _) (.cons (VLe.refl _) .nil)) (.cons (by first | exact VLe.refl _ | exact VLe.int (by omega) | exact VLe.mt | exact vle_q0 | exact VLe.osl | exact VLe.ptr) .nil), Owns.app (.cons rfl (.cons rfl .nil)) (.nil)⟩
  · first | (simp only [decide_eq_true_eq, decide_eq_false_iff_not, Bool.not_eq_true', Bool.not_eq_false', Bool.not_not, Bool.and_eq_true, Bool.and_eq_false_iff, Bool.or_eq_true, Bool.or_eq_false_iff] at h48) | skip
    refine AW.exit ?_
    refine AW.seq ?_
    refine AW.region (by rw [hE]; rfl) ?_
    refine asD rfl ?_
    refine OL.nil ?_
    exact AW.ret (RetQ.r ⟨_, .tmp rfl .nil, .le (by first | exact VLe.refl _ | exact VLe.mt | exact vle_q0 | exact VLe.int (by omega) | exact VLe.bool (by simp_all))⟩)
set_option maxRecDepth 6000 in
set_option maxHeartbeats 3200000 in
theorem law_OnlineSteps {L l : List Int} {cs cy : Int} (nL : L.length ≤ 9223372036854775807) : FSpec P F.law37_OnlineSteps [.ag [.d (dI cs), .d (dI cy), .d (ints L)], .d (ints l)] (.d (dB true)) := by
  obtain ⟨h, hh⟩ : ∃ h, h = chainHM L cs cy 3 := ⟨_, rfl⟩
  have hg : h.Good 1 := by rw [hh]; exact chainHM_good L cs cy (by decide)
  have f := hg.form
  have s0 := f.sym0
  have s1 := f.sym1
  obtain ⟨w, hw⟩ : ∃ w, w = wordF l h.sym 8 := ⟨_, rfl⟩
  have kw : WordOK h w := by rw [hw]; exact wordF_ok s0 (by decide)
  have wl : w.length ≤ 8 := by rw [hw]; exact wordF_len ..
  refine FSpec.intro fn.law37_OnlineSteps (by rfl) (by rfl) (Nat.le_of_ble_eq_true (by rfl)) fun E hE => ?_
  refine AW.seq ?_
  refine AW.region (by rw [hE]; rfl) ?_
  refine bxA rfl rfl fun b2 => ?_
  refine asD rfl ?_
  refine OL.nil ?_
  refine AW.seq ?_
  refine AW.region (by rw [hE]; rfl) ?_
  refine ldPA ag.Chain rfl rfl (vs := [_, _, _]) rfl (Nat.le_of_ble_eq_true rfl) ?_
  refine clv rfl (.cons (VLe.refl _) (.cons (VLe.refl _) (.nil))) (chain_Hidden (by decide) nL) ?_
  rw [← hh]
  refine al z.Hidden rfl fun b5 => ?_
  refine sto sz.Hidden rfl rfl rfl rfl rfl (Nat.le_of_ble_eq_true rfl) (cells2 := [_, _, _, _, _, _, _, _, _, _, _]) rfl ?_
  refine OL.nil ?_
  refine AW.seq ?_
  refine AW.region (by rw [hE]; rfl) ?_
  refine mvD rfl ?_
  refine faP fd.Hidden_0 rfl rfl ?_
  refine ldPC ce.int rfl rfl rfl ?_
  refine clv rfl (.cons (VLe.refl _) (.cons (VLe.refl _) (.cons (VLe.refl _) (.nil)))) (world_Word (sym := h.sym) (most := 8) ⟨s0, by omega⟩ (by decide)) ?_
  rw [← hw]
  refine asD rfl ?_
  refine OL.nil ?_
  refine AW.seq ?_
  refine AW.region (by rw [hE]; rfl) ?_
  refine ldPA ag.Hidden rfl rfl (vs := [_, _, _, _, _, _, _, _, _, _, _]) rfl (Nat.le_of_ble_eq_true rfl) ?_
  refine clv rfl (.cons (VLe.refl _) (.nil)) (on_Open hg) ?_
  refine mvT rfl ?_
  refine ex rfl rfl ?_
  refine ex rfl rfl ?_
  refine al z.Online rfl fun b7 => ?_
  refine sto sz.Online rfl rfl rfl rfl rfl (Nat.le_of_ble_eq_true rfl) (cells2 := [_, _, _, _, _, _, _, _, _, _, _, _, _, _, _]) rfl ?_
  refine asD rfl ?_
  refine OL.nil ?_
  refine AW.seq ?_
  refine AW.region (by rw [hE]; rfl) ?_
  refine ldPA ag.Hidden rfl rfl (vs := [_, _, _, _, _, _, _, _, _, _, _]) rfl (Nat.le_of_ble_eq_true rfl) ?_
  refine clv rfl (.cons (VLe.refl _) (.nil)) (ref37_Open hg) ?_
  refine mvT rfl ?_
  refine ex rfl rfl ?_
  refine ex rfl rfl ?_
  refine al z.Online rfl fun b9 => ?_
  refine sto sz.Online rfl rfl rfl rfl rfl (Nat.le_of_ble_eq_true rfl) (cells2 := [_, _, _, _, _, _, _, _, _, _, _, _, _, _, _]) rfl ?_
  refine asD rfl ?_
  refine OL.nil ?_
  refine AW.seq ?_
  refine AW.seq ?_
  refine AW.region (by rw [hE]; rfl) ?_
  refine mvD rfl ?_
  refine c_neq rfl rfl (c := false) (by first | exact decide_eq_true (by omega) | exact decide_eq_false (by omega) | exact cne_f (by omega) | exact cne_t (by omega) | rfl) ?_
  refine mvD rfl ?_
  refine OL.yes rfl ?_
  refine mvD rfl ?_
  refine OL.yes rfl ?_
  refine c_neq rfl rfl (c := false) (by first | exact decide_eq_true (by omega) | exact decide_eq_false (by omega) | exact cne_f (by omega) | exact cne_t (by omega) | rfl) ?_
  refine pkF rfl rfl ?_
  refine OL.nil ?_
  refine AW.cond rfl (fun hno => absurd hno (by decide)) (fun _ => ?_)
  refine AW.skip ?_
  refine AW.seq ?_
  refine AW.seq ?_
  refine AW.region (by rw [hE]; rfl) ?_
  refine asD rfl ?_
  refine OL.nil ?_
  refine AW.block ?_
  refine AW.whileK (α := Nat × Dec) [(6, _), (7, _), (9, _)] [] (fun (t, o) => [(11, .d (dI t))]) (fun (t, o) => [(7, .box b7 T.Online (cellsOn h o)), (9, .box b9 T.Online (cellsOn h o))]) (fun (t, o) => t ≤ w.length ∧ o.t = t ∧ InvD h w o) (fun (t, o) => w.length - t) (0, ⟨0, [], [], []⟩) (by repeat (first | exact Knows.nil | refine Knows.cons (by first | exact knD rfl | exact knA rfl | exact knP rfl | exact knO rfl | exact knM rfl | exact knE rfl | exact knR rfl | exact knF rfl | exact knT rfl | exact knJ) ?_)) .nil ⟨⟨Nat.zero_le _, rfl, inv_open⟩, .cons (by first | exact VLe.refl _ | exact VLe.int (by omega) | exact VLe.mt | exact vle_q0 | exact VLe.osl | exact VLe.ptr) .nil, .cons rfl (.cons rfl .nil)⟩ ?_
  rintro ⟨t, o⟩ ⟨h1, hot, k⟩
  have h1 : t ≤ w.length := h1
  have hot : o.t = t := hot
  have k : InvD h w o := k
  refine AW.seq ?_
  refine AW.seq ?_
  refine AW.region (by rw [hE]; rfl) ?_
  refine mvD rfl ?_
  refine mvD rfl ?_
  refine lnL sl.ints rfl rfl ?_
  refine c_lss rfl rfl rfl ?_
  refine OL.nil ?_
  refine AW.cond rfl (fun h43 => ?_) (fun h43 => ?_)
  · first | (simp only [decide_eq_true_eq, decide_eq_false_iff_not, Bool.not_eq_true', Bool.not_eq_false', Bool.not_not, Bool.and_eq_true, Bool.and_eq_false_iff, Bool.or_eq_true, Bool.or_eq_false_iff] at h43) | skip
    refine AW.skip ?_
    refine AW.seq ?_
    refine AW.block ?_
    refine AW.seq ?_
    have hx := kw.symX (t := t) (by omega)
    have hbh : Bnd (pushH h o (symX w t)) := bnd_push f o _
    have hbd : BndD (pushD h o (symX w t)) := by have e := bndD_push hg k (by omega) (by omega); rw [hot] at e; exact e
    refine AW.region_draw 1 [0, 1, 2, 3, 4, 5, 6, 7, 8, 9, 10, 11, 12, 13] order_free (by rw [hE]; rfl) (by kernel_rfl) (OI.of_OL (os := [_, _, _, _, _, _, _, _, _, _, _, _, _, _]) rfl ?_)
    refine ldPA ag.Online rfl rfl (vs := [_, _, _, _, _, _, _, _, _, _, _, _, _, _, _]) rfl (Nat.le_of_ble_eq_true rfl) ?_
    refine mvD rfl ?_
    refine mvD rfl ?_
    refine ixLn sl.ints 0 rfl rfl (by omega) rfl rfl ?_
    refine ldRC ce.int rfl ?_
    rw [hx.2]
    refine clv rfl (.cons (VLe.refl _) (.cons (VLe.refl _) (.nil))) (on_Push hg k (by omega) (by omega) hx.1) ?_
    refine mvT rfl ?_
    refine ex rfl rfl ?_
    refine ex rfl rfl ?_
    refine ex rfl rfl ?_
    refine al z.Online rfl fun b12 => ?_
    refine sto sz.Online rfl rfl rfl rfl rfl (Nat.le_of_ble_eq_true rfl) (cells2 := [_, _, _, _, _, _, _, _, _, _, _, _, _, _, _]) rfl ?_
    refine asD rfl ?_
    refine asD rfl ?_
    refine OL.nil ?_
    refine AW.seq ?_
    refine AW.region_draw 1 [0, 1, 2, 3, 4, 5, 6, 7, 8, 9, 10, 11, 12, 13] order_free (by rw [hE]; rfl) (by kernel_rfl) (OI.of_OL (os := [_, _, _, _, _, _, _, _, _, _, _, _, _, _]) rfl ?_)
    refine ldPA ag.Online rfl rfl (vs := [_, _, _, _, _, _, _, _, _, _, _, _, _, _, _]) rfl (Nat.le_of_ble_eq_true rfl) ?_
    refine mvD rfl ?_
    refine mvD rfl ?_
    refine ixLn sl.ints 0 rfl rfl (by omega) rfl rfl ?_
    refine ldRC ce.int rfl ?_
    rw [hx.2]
    refine clv rfl (.cons (VLe.refl _) (.cons (VLe.refl _) (.nil))) (ref37_Push hg k (by omega) (by omega) hx.1) ?_
    refine mvT rfl ?_
    refine ex rfl rfl ?_
    refine ex rfl rfl ?_
    refine ex rfl rfl ?_
    refine al z.Online rfl fun b15 => ?_
    refine sto sz.Online rfl rfl rfl rfl rfl (Nat.le_of_ble_eq_true rfl) (cells2 := [_, _, _, _, _, _, _, _, _, _, _, _, _, _, _]) rfl ?_
    refine asD rfl ?_
    refine asD rfl ?_
    refine OL.nil ?_
    refine AW.seq ?_
    refine AW.seq ?_
    refine AW.region (by rw [hE]; rfl) ?_
    refine mvD rfl ?_
    refine mvD rfl ?_
    refine c_neq rfl rfl (c := false) (cne_f rfl) ?_
    refine mvD rfl ?_
    refine OL.yes rfl ?_
    refine ldPA ag.Online rfl rfl (vs := [_, _, _, _, _, _, _, _, _, _, _, _, _, _, _]) rfl (Nat.le_of_ble_eq_true rfl) ?_
    refine OL.yes rfl ?_
    refine ldPA ag.Online rfl rfl (vs := [_, _, _, _, _, _, _, _, _, _, _, _, _, _, _]) rfl (Nat.le_of_ble_eq_true rfl) ?_
    refine OL.yes rfl ?_
    refine clv rfl (.cons (VLe.refl _) (.cons (VLe.refl _) (.nil))) (ref37_Same hbh hbd) ?_
    refine OL.yes rfl ?_
    refine nt rfl ?_
    refine pkF rfl rfl ?_
    refine OL.nil ?_
    refine AW.cond rfl (fun hno => absurd hno (by decide)) (fun _ => ?_)
    refine AW.skip ?_
    refine AW.seq ?_
    refine AW.seq ?_
    refine AW.region (by rw [hE]; rfl) ?_
    refine mvD rfl ?_
    refine c_neq rfl rfl rfl ?_
    refine OL.nil ?_
    refine AW.cond rfl (fun he => ?_) (fun he => ?_)
    · have _he := he
      refine AW.seq ?_
      refine AW.region (by rw [hE]; rfl) ?_
      refine clv rfl .nil law37_known ?_
      refine asD rfl ?_
      refine OL.nil ?_
      exact AW.ret (RetQ.r ⟨_, .tmp rfl .nil, .le (by first | exact VLe.refl _ | exact VLe.mt | exact vle_q0 | exact VLe.int (by omega) | exact VLe.bool (by simp_all))⟩)
    · have hs := push_ok (nd_f he)
      have kn : InvD h w (stepD h o (symX w t)) := by have e := inv_step hg k (by omega) (by rw [hot]; exact someN_iff.1 hs); rw [hot] at e; exact e
      refine AW.skip ?_
      refine AW.seq ?_
      refine AW.seq ?_
      rw [show (pushH h o (symX w t)) = h from if_pos hs, show (pushD h o (symX w t)) = stepD h o (symX w t) from if_pos hs, show pushC h o (symX w t) = cmtF h o (symX w t) h.st from if_pos hs]
      have hsd : (stepD h o (symX w t)).dn = o.dn ++ cmtF h o (symX w t) h.st := rfl
      have hsl : (stepD h o (symX w t)).dn.length = o.dn.length + (cmtF h o (symX w t) h.st).length := by rw [hsd, List.length_append]
      have hdl := done_len k (by omega)
      have hcl := cmt_len (h := h) (x := (symX w t)) (tails_len k (by omega)) h.st
      refine AW.region_draw 2 [0, 1, 2, 3, 4, 5, 6, 7, 8, 9, 10, 11, 12, 13, 14, 15, 17, 16, 18, 19, 20, 21, 22, 23, 24, 25, 26] order_free (by rw [hE]; rfl) (by kernel_rfl) (OI.of_OL (os := [_, _, _, _, _, _, _, _, _, _, _, _, _, _, _, _, _, _, _, _, _, _, _, _, _, _, _]) rfl ?_)
      refine faP fd.Online_4 rfl rfl ?_
      refine ldPC ce.ints rfl rfl rfl ?_
      refine lnL sl.ints rfl rfl ?_
      refine faP fd.Online_4 rfl rfl ?_
      refine ldPC ce.ints rfl rfl rfl ?_
      refine lnL sl.ints rfl rfl ?_
      refine mvD rfl ?_
      refine lnL sl.ints rfl rfl ?_
      refine add_i64 rfl rfl (by omega) ?_
      refine c_neq rfl rfl (c := false) (cne_f (by omega)) ?_
      refine mvD rfl ?_
      refine OL.yes rfl ?_
      refine faP fd.Online_4 rfl rfl ?_
      refine OL.yes rfl ?_
      refine ldPC ce.ints rfl rfl rfl ?_
      refine OL.yes rfl ?_
      refine lt0 sl.ints ?_
      refine OL.yes rfl ?_
      refine faP fd.Online_4 rfl rfl ?_
      refine OL.yes rfl ?_
      refine ldPC ce.ints rfl rfl rfl ?_
      refine OL.yes rfl ?_
      refine mvD rfl ?_
      refine OL.yes rfl ?_
      refine apM sl.ints rfl rfl (VC.d _) dI_len (by rw [List.length_map]; omega) (by rw [List.length_map]; omega) rfl fun b94 c94 => ?_
      refine OL.yes rfl ?_
      refine apOD sl.ints rfl rfl rfl rfl (VC.d _) dI_len (by simp only [List.length_map]; omega) (by simp only [List.length_map]; omega) (.inl rfl) (ys := (stepD h o (symX w t)).dn.map dI) (by rw [hsd, List.map_append]) ?_
      refine OL.yes rfl ?_
      refine clv rfl (.cons (VLe.refl _) (.cons (VLe.refl _) (.nil))) (law37_same (l := (stepD h o (symX w t)).dn) (m := (stepD h o (symX w t)).dn) (by omega)) ?_
      rw [decide_eq_true rfl]
      refine OL.yes rfl ?_
      refine nt rfl ?_
      refine pkF rfl rfl ?_
      refine mvD rfl ?_
      refine OL.yes rfl ?_
      refine ldPA ag.Online rfl rfl (vs := [_, _, _, _, _, _, _, _, _, _, _, _, _, _, _]) rfl (Nat.le_of_ble_eq_true rfl) ?_
      refine OL.yes rfl ?_
      refine clv rfl (.cons (VLe.refl _) (.nil)) (on_Valid hg kn (by omega)) ?_
      refine OL.yes rfl ?_
      refine nt rfl ?_
      refine pkF rfl rfl ?_
      refine OL.nil ?_
      refine AW.cond rfl (fun hno => absurd hno (by decide)) (fun _ => ?_)
      refine AW.skip ?_
      refine AW.region_tree order_free (by rw [hE]; rfl) ?_
      refine OT.node [0, 1] (os := [_, _]) (by kernel_rfl) (by decide) rfl ⟨?_, ?_, trivial⟩
      · refine ldPA ag.Online rfl rfl (vs := [_, _, _, _, _, _, _, _, _, _, _, _, _, _, _]) rfl (Nat.le_of_ble_eq_true rfl) ?_
        refine OL.nil ?_
        refine OT.node [1, 2] (os := [_, _]) (by kernel_rfl) (by decide) rfl ⟨?_, ?_, trivial⟩
        · refine ldPA ag.Online rfl rfl (vs := [_, _, _, _, _, _, _, _, _, _, _, _, _, _, _]) rfl (Nat.le_of_ble_eq_true rfl) ?_
          refine OL.nil ?_
          refine OT.node [2] (os := [_]) (by kernel_rfl) (by decide) rfl ⟨?_, trivial⟩
          refine sto sz.Online rfl rfl rfl rfl rfl (Nat.le_of_ble_eq_true rfl) (cells2 := [_, _, _, _, _, _, _, _, _, _, _, _, _, _, _]) rfl ?_
          refine OL.nil ?_
          refine OT.node [3] (os := [_]) (by kernel_rfl) (by decide) rfl ⟨?_, trivial⟩
          refine sto sz.Online rfl rfl rfl rfl rfl (Nat.le_of_ble_eq_true rfl) (cells2 := [_, _, _, _, _, _, _, _, _, _, _, _, _, _, _]) rfl ?_
          refine OL.nil ?_
          refine OT.leaf (by kernel_rfl) ?_
          refine AW.region (by rw [hE]; rfl) ?_
          refine mvD rfl ?_
          refine add_i64 rfl rfl (by omega) ?_
          refine asD rfl ?_
          refine OL.nil ?_
          exact AW.again (x := (t, o)) (t + 1, stepD h o (symX w t)) (by first | omega | (simp only []; omega)) ⟨⟨by omega, by show o.t + 1 = _; omega, kn⟩, Knows.app (.cons (VLe.refl _) (.cons (VLe.refl _) (.cons (VLe.refl _) .nil))) (.cons (by first | exact VLe.refl _ | exact VLe.int (by omega) | exact VLe.mt | exact vle_q0 | exact VLe.osl | exact VLe.ptr) .nil), .cons rfl (.cons rfl .nil)⟩
        · refine sto sz.Online rfl rfl rfl rfl rfl (Nat.le_of_ble_eq_true rfl) (cells2 := [_, _, _, _, _, _, _, _, _, _, _, _, _, _, _]) rfl ?_
          refine OL.nil ?_
          refine OT.node [1] (os := [_]) (by kernel_rfl) (by decide) rfl ⟨?_, trivial⟩
          refine ldPA ag.Online rfl rfl (vs := [_, _, _, _, _, _, _, _, _, _, _, _, _, _, _]) rfl (Nat.le_of_ble_eq_true rfl) ?_
          refine OL.nil ?_
          refine OT.node [3] (os := [_]) (by kernel_rfl) (by decide) rfl ⟨?_, trivial⟩
          refine sto sz.Online rfl rfl rfl rfl rfl (Nat.le_of_ble_eq_true rfl) (cells2 := [_, _, _, _, _, _, _, _, _, _, _, _, _, _, _]) rfl ?_
          refine OL.nil ?_
          refine OT.leaf (by kernel_rfl) ?_
          refine AW.region (by rw [hE]; rfl) ?_
          refine mvD rfl ?_
          refine add_i64 rfl rfl (by omega) ?_
          refine asD rfl ?_
          refine OL.nil ?_
          exact AW.again (x := (t, o)) (t + 1, stepD h o (symX w t)) (by first | omega | (simp only []; omega)) ⟨⟨by omega, by show o.t + 1 = _; omega, kn⟩, Knows.app (.cons (VLe.refl _) (.cons (VLe.refl _) (.cons (VLe.refl _) .nil))) (.cons (by first | exact VLe.refl _ | exact VLe.int (by omega) | exact VLe.mt | exact vle_q0 | exact VLe.osl | exact VLe.ptr) .nil), .cons rfl (.cons rfl .nil)⟩
      · refine ldPA ag.Online rfl rfl (vs := [_, _, _, _, _, _, _, _, _, _, _, _, _, _, _]) rfl (Nat.le_of_ble_eq_true rfl) ?_
        refine OL.nil ?_
        refine OT.node [0] (os := [_]) (by kernel_rfl) (by decide) rfl ⟨?_, trivial⟩
        refine ldPA ag.Online rfl rfl (vs := [_, _, _, _, _, _, _, _, _, _, _, _, _, _, _]) rfl (Nat.le_of_ble_eq_true rfl) ?_
        refine OL.nil ?_
        refine OT.node [2] (os := [_]) (by kernel_rfl) (by decide) rfl ⟨?_, trivial⟩
        refine sto sz.Online rfl rfl rfl rfl rfl (Nat.le_of_ble_eq_true rfl) (cells2 := [_, _, _, _, _, _, _, _, _, _, _, _, _, _, _]) rfl ?_
        refine OL.nil ?_
        refine OT.node [3] (os := [_]) (by kernel_rfl) (by decide) rfl ⟨?_, trivial⟩
        refine sto sz.Online rfl rfl rfl rfl rfl (Nat.le_of_ble_eq_true rfl) (cells2 := [_, _, _, _, _, _, _, _, _, _, _, _, _, _, _]) rfl ?_
        refine OL.nil ?_
        refine OT.leaf (by kernel_rfl) ?_
        refine AW.region (by rw [hE]; rfl) ?_
        refine mvD rfl ?_
        refine add_i64 rfl rfl (by omega) ?_
        refine asD rfl ?_
        refine OL.nil ?_
        exact AW.again (x := (t, o)) (t + 1, stepD h o (symX w t)) (by first | omega | (simp only []; omega)) ⟨⟨by omega, by show o.t + 1 = _; omega, kn⟩, Knows.app (.cons (VLe.refl _) (.cons (VLe.refl _) (.cons (VLe.refl _) .nil))) (.cons (by first | exact VLe.refl _ | exact VLe.int (by omega) | exact VLe.mt | exact vle_q0 | exact VLe.osl | exact VLe.ptr) .nil), .cons rfl (.cons rfl .nil)⟩
  · first | (simp only [decide_eq_true_eq, decide_eq_false_iff_not, Bool.not_eq_true', Bool.not_eq_false', Bool.not_not, Bool.and_eq_true, Bool.and_eq_false_iff, Bool.or_eq_true, Bool.or_eq_false_iff] at h43) | skip
    refine AW.exit ?_
    refine AW.seq ?_
    refine AW.region (by rw [hE]; rfl) ?_
    refine clv rfl .nil law37_known ?_
    refine asD rfl ?_
    refine OL.nil ?_
    exact AW.ret (RetQ.r ⟨_, .tmp rfl .nil, .le (by first | exact VLe.refl _ | exact VLe.mt | exact vle_q0 | exact VLe.int (by omega) | exact VLe.bool (by simp_all))⟩)
end Go.Proofs.YtcebciggodhmcaaGreat

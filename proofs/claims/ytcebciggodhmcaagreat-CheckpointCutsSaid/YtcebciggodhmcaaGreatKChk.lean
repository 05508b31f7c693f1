/-
  Walks of the specification's checks of models, for valid models without silent states (printed by mk2.py).
-/
import Derived.Test.YtcebciggodhmcaaGreatKHmmB
import Derived.Test.YtcebciggodhmcaaGreatKSampleA
set_option linter.unusedVariables false
set_option linter.unusedSimpArgs false
namespace Go.Proofs.YtcebciggodhmcaaGreat
open Go Go.AL
theorem ref_ValidQ {x : Rat} (hx : sz x ≤ 274877906944) : FSpec P F.ref01_Valid [vQ x] (.d (dB true)) := by
  have h := ref_Valid (r := ofQ x) (ofQ_ok hx)
  rw [ofQ_good] at h; exact h
theorem sumQ_app_one (l : List Rat) (x : Rat) : sumQ (l ++ [x]) = x + sumQ l := by
  unfold sumQ
  rw [List.foldl_append]
  exact Rat.add_comm ..
theorem ref33_SumS {l : List Rat} {B : Nat} (hl : Small B l) (hB : B ≤ 1048576) (hn : l.length ≤ 1024) : FSpec P F.ref33_Sum [.d (dQs l)] (vQ (sumQ l)) := by
  refine FSpec.intro fn.ref33_Sum (by rfl) (by rfl) (Nat.le_of_ble_eq_true (by rfl)) fun E hE => ?_
  refine AW.seq ?_
  refine AW.region (by rw [hE]; rfl) ?_
  refine al z.Rat rfl fun b2 => ?_
  refine OL.nil ?_
  refine AW.seq ?_
  refine AW.region (by rw [hE]; rfl) ?_
  refine bd z.Rat pl.Rat (cs := [_, _, _]) rfl ?_
  refine al z.Rat rfl fun b3 => ?_
  refine sto sz.Rat rfl rfl rfl rfl rfl (Nat.le_of_ble_eq_true rfl) (cells2 := [_, _, _]) rfl ?_
  refine OL.nil ?_
  refine AW.seq ?_
  refine AW.seq ?_
  refine AW.region (by rw [hE]; rfl) ?_
  refine asD rfl ?_
  refine OL.nil ?_
  refine AW.block ?_
  refine AW.boxW 3 (cellsQ 0) rfl vles_q ?_
  refine AW.whileK (α := Nat) [(0, _), (2, _), (3, _)] [(2, _)] (fun i => [(4, .d (dI i))]) (fun i => [(3, .box b3 T.Rat (cellsQ (sumQ (l.take i))))]) (fun i => i ≤ l.length) (fun i => l.length - i) 0 (by repeat (first | exact Knows.nil | refine Knows.cons (by first | exact knD rfl | exact knA rfl | exact knP rfl | exact knO rfl | exact knM rfl | exact knE rfl | exact knR rfl | exact knF rfl | exact knT rfl | exact knJ) ?_)) (.cons (by first | exact owB rfl | exact owR rfl | exact owL rfl | exact owT rfl) .nil) ⟨Nat.zero_le _, .cons (by first | exact VLe.refl _ | exact VLe.int (by omega) | exact VLe.mt | exact vle_q0 | exact VLe.osl | exact VLe.ptr) .nil, .cons rfl .nil⟩ ?_
  intro i h1
  refine AW.seq ?_
  refine AW.seq ?_
  refine AW.region (by rw [hE]; rfl) ?_
  refine mvD rfl ?_
  refine mvD rfl ?_
  refine lnL sl.Rats rfl rfl ?_
  refine c_lss rfl rfl rfl ?_
  refine OL.nil ?_
  refine AW.cond rfl (fun h9 => ?_) (fun h9 => ?_)
  · first | (simp only [decide_eq_true_eq, decide_eq_false_iff_not, Bool.not_eq_true', Bool.not_eq_false', Bool.not_not, Bool.and_eq_true, Bool.and_eq_false_iff, Bool.or_eq_true, Bool.or_eq_false_iff] at h9) | skip
    refine AW.skip ?_
    refine AW.seq ?_
    refine AW.block ?_
    have hs := sumQ_szB (hl.take i) (by rw [List.length_take]; omega) hB
    have hx := (hl.mono (Nat.le_max_left B 1)).get (Nat.le_max_right B 1) i
    refine AW.region_draw 1 [0, 1, 2, 3, 4, 5, 6] order_free (by rw [hE]; rfl) (by kernel_rfl) (OI.of_OL (os := [_, _, _, _, _, _, _]) rfl ?_)
    refine ldPA ag.Rat rfl rfl (vs := [_, _, _]) rfl (Nat.le_of_ble_eq_true rfl) ?_
    refine mvD rfl ?_
    refine mvD rfl ?_
    refine ixLn sl.Rats 0 rfl rfl (by omega) rfl rfl ?_
    refine ldRA ag.Rat rfl (vs := [_, _, _]) rfl (Nat.le_of_ble_eq_true rfl) ?_
    refine clv rfl (.cons (VLe.refl _) (.cons (VLe.refl _) (.nil))) (ref_AddQ (x := sumQ (l.take i)) (y := l.getD i 0) (by omega) (by omega)) ?_
    refine sto sz.Rat rfl rfl rfl rfl rfl (Nat.le_of_ble_eq_true rfl) (cells2 := [_, _, _]) rfl ?_
    refine OL.nil ?_
    refine AW.region (by rw [hE]; rfl) ?_
    refine mvD rfl ?_
    refine add_i64 rfl rfl (by omega) ?_
    refine asD rfl ?_
    refine OL.nil ?_
    exact AW.again (x := i) (i + 1) (by first | omega | (simp only []; omega)) ⟨by omega, Knows.app (.cons (VLe.refl _) (.cons (VLe.refl _) (.cons (VLe.refl _) .nil))) (.cons (by first | exact VLe.refl _ | exact VLe.int (by omega) | exact VLe.mt | exact vle_q0 | exact VLe.osl | exact VLe.ptr) .nil), Owns.app (.cons rfl .nil) (.cons (by rw [sumQ_take_succ (by omega)]; rfl) .nil)⟩
  · first | (simp only [decide_eq_true_eq, decide_eq_false_iff_not, Bool.not_eq_true', Bool.not_eq_false', Bool.not_not, Bool.and_eq_true, Bool.and_eq_false_iff, Bool.or_eq_true, Bool.or_eq_false_iff] at h9) | skip
    refine AW.exit ?_
    refine AW.seq ?_
    obtain rfl : i = l.length := by omega
    rw [List.take_length]
    refine AW.region (by rw [hE]; rfl) ?_
    refine ldPA ag.Rat rfl rfl (vs := [_, _, _]) rfl (Nat.le_of_ble_eq_true rfl) ?_
    refine sto sz.Rat rfl rfl rfl rfl rfl (Nat.le_of_ble_eq_true rfl) (cells2 := [_, _, _]) rfl ?_
    refine OL.nil ?_
    exact AW.ret (RetQ.r ⟨_, .cellA rfl rfl ag.Rat (Nat.le_of_ble_eq_true rfl) .nil, .ag (.cons (.le (by first | exact VLe.refl _ | exact VLe.mt | exact vle_q0 | exact VLe.int (by omega) | exact VLe.bool (by simp_all))) (.cons (.le (by first | exact VLe.refl _ | exact VLe.mt | exact vle_q0 | exact VLe.int (by omega) | exact VLe.bool (by simp_all))) (.cons (.le (by first | exact VLe.refl _ | exact VLe.mt | exact vle_q0 | exact VLe.int (by omega) | exact VLe.bool (by simp_all))) .nil)))⟩)
theorem ref33_Chance {q : Rat} (hs : Share q) (hz : sz q ≤ 1048576) : FSpec P F.ref33_Chance [vQ q] (.d (dB true)) := by
  have h1K := z1K
  refine FSpec.intro fn.ref33_Chance (by rfl) (by rfl) (Nat.le_of_ble_eq_true (by rfl)) fun E hE => ?_
  refine AW.seq ?_
  refine AW.region (by rw [hE]; rfl) ?_
  refine bxA rfl rfl fun b1 => ?_
  refine asD rfl ?_
  refine OL.nil ?_
  refine AW.seq ?_
  refine AW.region_draw 1 [0, 1, 2, 3, 4, 5, 6, 7, 8, 9, 10, 11, 12, 13] order_free (by rw [hE]; rfl) (by kernel_rfl) (OI.of_OL (os := [_, _, _, _, _, _, _, _, _, _, _, _, _, _]) rfl ?_)
  refine ldPA ag.Rat rfl rfl (vs := [_, _, _]) rfl (Nat.le_of_ble_eq_true rfl) ?_
  refine clv rfl (.cons (VLe.refl _) (.nil)) (ref_ValidQ (x := q) (by omega)) ?_
  refine mvD rfl ?_
  refine OL.yes rfl ?_
  refine ldPA ag.Rat rfl rfl (vs := [_, _, _]) rfl (Nat.le_of_ble_eq_true rfl) ?_
  refine OL.yes rfl ?_
  refine clv rfl (.cons (VLe.refl _) (.nil)) (ref_SignQ (x := q) (by omega)) ?_
  refine OL.yes rfl ?_
  refine c_geq rfl rfl (c := true) (decide_eq_true (sgnQ_nonneg.2 hs.1)) ?_
  refine pkT rfl rfl ?_
  refine mvD rfl ?_
  refine OL.yes rfl ?_
  refine ldPA ag.Rat rfl rfl (vs := [_, _, _]) rfl (Nat.le_of_ble_eq_true rfl) ?_
  refine OL.yes rfl ?_
  refine clv rfl (.cons (VLe.refl _) (.nil)) (ref33_Whole1) ?_
  refine OL.yes rfl ?_
  refine clv rfl (.cons (VLe.refl _) (.cons (VLe.refl _) (.nil))) (ref_CompareQ (x := q) (y := 1) (by omega) (by omega)) ?_
  refine OL.yes rfl ?_
  refine c_leq rfl rfl (c := true) (decide_eq_true (cmpQ_le.2 hs.2)) ?_
  refine pkT rfl rfl ?_
  refine asD rfl ?_
  refine OL.nil ?_
  exact AW.ret (RetQ.r ⟨_, .tmp rfl .nil, .le (by first | exact VLe.refl _ | exact VLe.mt | exact vle_q0 | exact VLe.int (by omega) | exact VLe.bool (by simp_all))⟩)
theorem ref33_chances {l : List Rat} {B : Nat} (hs : Shares l) (hz : Small B l) (hB : B ≤ 1048576 ∧ l.length ≤ 1099511627776) : FSpec P F.ref33_chances [.d (dQs l)] (.d (dB true)) := by
  refine FSpec.intro fn.ref33_chances (by rfl) (by rfl) (Nat.le_of_ble_eq_true (by rfl)) fun E hE => ?_
  refine AW.seq ?_
  refine AW.region (by rw [hE]; rfl) ?_
  refine asD rfl ?_
  refine OL.nil ?_
  refine AW.seq ?_
  refine AW.seq ?_
  refine AW.region (by rw [hE]; rfl) ?_
  refine asD rfl ?_
  refine OL.nil ?_
  refine AW.block ?_
  refine AW.whileK (α := Nat) [(0, _)] [] (fun i => [(3, .d (dI i))]) (fun i => []) (fun i => i ≤ l.length) (fun i => l.length - i) 0 (.cons (by first | exact knD rfl | exact knA rfl | exact knP rfl | exact knO rfl | exact knM rfl | exact knE rfl | exact knR rfl | exact knF rfl | exact knT rfl | exact knJ) .nil) .nil ⟨Nat.zero_le _, .cons (by first | exact VLe.refl _ | exact VLe.int (by omega) | exact VLe.mt | exact vle_q0 | exact VLe.osl | exact VLe.ptr) .nil, .nil⟩ ?_
  intro i h1
  refine AW.seq ?_
  refine AW.seq ?_
  refine AW.region (by rw [hE]; rfl) ?_
  refine mvD rfl ?_
  refine mvD rfl ?_
  refine lnL sl.Rats rfl rfl ?_
  refine c_lss rfl rfl rfl ?_
  refine OL.nil ?_
  refine AW.cond rfl (fun h7 => ?_) (fun h7 => ?_)
  · first | (simp only [decide_eq_true_eq, decide_eq_false_iff_not, Bool.not_eq_true', Bool.not_eq_false', Bool.not_not, Bool.and_eq_true, Bool.and_eq_false_iff, Bool.or_eq_true, Bool.or_eq_false_iff] at h7) | skip
    refine AW.skip ?_
    refine AW.seq ?_
    refine AW.block ?_
    refine AW.seq ?_
    have hm := getD_mem (l := l) (i := i) (by omega) 0
    have hzi := hz _ hm
    refine AW.region (by rw [hE]; rfl) ?_
    refine mvD rfl ?_
    refine mvD rfl ?_
    refine ixLn sl.Rats 0 rfl rfl (by omega) rfl rfl ?_
    refine ldRA ag.Rat rfl (vs := [_, _, _]) rfl (Nat.le_of_ble_eq_true rfl) ?_
    refine clv rfl (.cons (VLe.refl _) (.nil)) (ref33_Chance (hs _ hm) (by omega)) ?_
    refine nt rfl ?_
    refine OL.nil ?_
    refine AW.cond rfl (fun hno => absurd hno (by decide)) (fun _ => ?_)
    refine AW.skip ?_
    refine AW.region (by rw [hE]; rfl) ?_
    refine mvD rfl ?_
    refine add_i64 rfl rfl (by omega) ?_
    refine asD rfl ?_
    refine OL.nil ?_
    exact AW.again (x := i) (i + 1) (by first | omega | (simp only []; omega)) ⟨by omega, Knows.app (.cons (VLe.refl _) .nil) (.cons (by first | exact VLe.refl _ | exact VLe.int (by omega) | exact VLe.mt | exact vle_q0 | exact VLe.osl | exact VLe.ptr) .nil), .nil⟩
  · first | (simp only [decide_eq_true_eq, decide_eq_false_iff_not, Bool.not_eq_true', Bool.not_eq_false', Bool.not_not, Bool.and_eq_true, Bool.and_eq_false_iff, Bool.or_eq_true, Bool.or_eq_false_iff] at h7) | skip
    refine AW.exit ?_
    refine AW.seq ?_
    refine AW.region (by rw [hE]; rfl) ?_
    refine asD rfl ?_
    refine OL.nil ?_
    exact AW.ret (RetQ.r ⟨_, .tmp rfl .nil, .le (by first | exact VLe.refl _ | exact VLe.mt | exact vle_q0 | exact VLe.int (by omega) | exact VLe.bool (by simp_all))⟩)
theorem ref33_one {x : Rat} {l : List Rat} {B : Nat} (hx : sz x ≤ 1048576) (hl : Small B l) (hB : B ≤ 1048576) (hn : l.length ≤ 1024) (h1 : x + sumQ l = 1) : FSpec P F.ref33_one [vQ x, .d (dQs l)] (.d (dB true)) := by
  have h1K := z1K
  have hs := sumQ_szB hl hn hB
  refine FSpec.intro fn.ref33_one (by rfl) (by rfl) (Nat.le_of_ble_eq_true (by rfl)) fun E hE => ?_
  refine AW.seq ?_
  refine AW.region (by rw [hE]; rfl) ?_
  refine bxA rfl rfl fun b2 => ?_
  refine asD rfl ?_
  refine OL.nil ?_
  refine AW.seq ?_
  refine AW.region_draw 1 [0, 1, 2, 3, 4, 5, 6, 7] order_free (by rw [hE]; rfl) (by kernel_rfl) (OI.of_OL (os := [_, _, _, _, _, _, _, _]) rfl ?_)
  refine ldPA ag.Rat rfl rfl (vs := [_, _, _]) rfl (Nat.le_of_ble_eq_true rfl) ?_
  refine mvD rfl ?_
  refine clv rfl (.cons (VLe.refl _) (.nil)) (ref33_SumS hl hB hn) ?_
  refine clv rfl (.cons (VLe.refl _) (.cons (VLe.refl _) (.nil))) (ref_AddQ (x := x) (y := sumQ l) (by omega) (by omega)) ?_
  rw [h1]
  refine clv rfl (.cons (VLe.refl _) (.nil)) (ref33_Whole1) ?_
  refine clv rfl (.cons (VLe.refl _) (.cons (VLe.refl _) (.nil))) (ref_CompareQ (x := 1) (y := 1) (by omega) (by omega)) ?_
  rw [show cmpQ (1) (1) = 0 from cmpQ_eq.2 rfl]
  refine c_eql rfl rfl (c := true) (by first | exact decide_eq_true (by omega) | exact decide_eq_false (by omega) | exact cne_f (by omega) | exact cne_t (by omega) | rfl) ?_
  refine asD rfl ?_
  refine OL.nil ?_
  exact AW.ret (RetQ.r ⟨_, .tmp rfl .nil, .le (by first | exact VLe.refl _ | exact VLe.mt | exact vle_q0 | exact VLe.int (by omega) | exact VLe.bool (by simp_all))⟩)
theorem ref33_SameRats {l m : List Rat} {B : Nat} (zl : Small B l) (zm : Small B m) (hB : 1 ≤ B ∧ B ≤ 1048576 ∧ l.length ≤ 1099511627776) : FSpec P F.ref33_SameRats [.d (dQs l), .d (dQs m)] (.d (dB (decide (l = m)))) := by
  refine FSpec.intro fn.ref33_SameRats (by rfl) (by rfl) (Nat.le_of_ble_eq_true (by rfl)) fun E hE => ?_
  refine AW.seq ?_
  refine AW.region (by rw [hE]; rfl) ?_
  refine asD rfl ?_
  refine OL.nil ?_
  refine AW.seq ?_
  refine AW.seq ?_
  refine AW.region (by rw [hE]; rfl) ?_
  refine mvD rfl ?_
  refine lnL sl.Rats rfl rfl ?_
  refine mvD rfl ?_
  refine lnL sl.Rats rfl rfl ?_
  refine c_neq rfl rfl rfl ?_
  refine OL.nil ?_
  refine AW.cond rfl (fun h10 => ?_) (fun h10 => ?_)
  · have hl : l.length ≠ m.length := by simp at h10; omega
    refine AW.seq ?_
    refine AW.region (by rw [hE]; rfl) ?_
    refine asD rfl ?_
    refine OL.nil ?_
    exact AW.ret (RetQ.r ⟨_, .tmp rfl .nil, .le (VLe.bool ((decide_eq_false fun e => hl (by rw [e])).symm))⟩)
  · have hl : l.length = m.length := by simp at h10; omega
    refine AW.skip ?_
    refine AW.seq ?_
    refine AW.seq ?_
    refine AW.region (by rw [hE]; rfl) ?_
    refine asD rfl ?_
    refine OL.nil ?_
    refine AW.block ?_
    refine AW.whileK (α := Nat) [(0, _), (1, _)] [] (fun i => [(5, .d (dI i))]) (fun i => []) (fun i => i ≤ l.length ∧ ∀ j, j < i → l.getD j 0 = m.getD j 0) (fun i => l.length - i) 0 (by repeat (first | exact Knows.nil | refine Knows.cons (by first | exact knD rfl | exact knA rfl | exact knP rfl | exact knO rfl | exact knM rfl | exact knE rfl | exact knR rfl | exact knF rfl | exact knT rfl | exact knJ) ?_)) .nil ⟨⟨Nat.zero_le _, fun j hj => by omega⟩, .cons (by first | exact VLe.refl _ | exact VLe.int (by omega) | exact VLe.mt | exact vle_q0 | exact VLe.osl | exact VLe.ptr) .nil, .nil⟩ ?_
    rintro i ⟨h1, h2⟩
    refine AW.seq ?_
    refine AW.seq ?_
    refine AW.region (by rw [hE]; rfl) ?_
    refine mvD rfl ?_
    refine mvD rfl ?_
    refine lnL sl.Rats rfl rfl ?_
    refine c_lss rfl rfl rfl ?_
    refine OL.nil ?_
    refine AW.cond rfl (fun h14 => ?_) (fun h14 => ?_)
    · first | (simp only [decide_eq_true_eq, decide_eq_false_iff_not, Bool.not_eq_true', Bool.not_eq_false', Bool.not_not, Bool.and_eq_true, Bool.and_eq_false_iff, Bool.or_eq_true, Bool.or_eq_false_iff] at h14) | skip
      refine AW.skip ?_
      refine AW.seq ?_
      refine AW.block ?_
      refine AW.seq ?_
      have z1 := zl.get hB.1 i
      have z2 := zm.get hB.1 i
      refine AW.region_draw 1 [0, 1, 2, 3, 4, 5, 6, 7, 8, 9] order_free (by rw [hE]; rfl) (by kernel_rfl) (OI.of_OL (os := [_, _, _, _, _, _, _, _, _, _]) rfl ?_)
      refine mvD rfl ?_
      refine mvD rfl ?_
      refine ixLn sl.Rats 0 rfl rfl (by omega) rfl rfl ?_
      refine ldRA ag.Rat rfl (vs := [_, _, _]) rfl (Nat.le_of_ble_eq_true rfl) ?_
      refine mvD rfl ?_
      refine mvD rfl ?_
      refine ixLn sl.Rats 0 rfl rfl (by omega) rfl rfl ?_
      refine ldRA ag.Rat rfl (vs := [_, _, _]) rfl (Nat.le_of_ble_eq_true rfl) ?_
      refine clv rfl (.cons (by first | exact VLe.refl _ | exact VLe.mt | exact vle_q0 | exact VLe.ptr) (.cons (by first | exact VLe.refl _ | exact VLe.mt | exact vle_q0 | exact VLe.ptr) .nil)) (ref_CompareQ (by first | assumption | omega) (by first | assumption | omega)) ?_
      refine c_neq rfl rfl rfl ?_
      refine OL.nil ?_
      refine AW.cond rfl (fun hc => ?_) (fun hc => ?_)
      · have hc : l.getD i 0 ≠ m.getD i 0 := fun e => by rw [cmpQ_eq.2 e] at hc; simp at hc
        refine AW.seq ?_
        refine AW.region (by rw [hE]; rfl) ?_
        refine asD rfl ?_
        refine OL.nil ?_
        exact AW.ret (RetQ.r ⟨_, .tmp rfl .nil, .le (VLe.bool ((decide_eq_false fun e => hc (by rw [e])).symm))⟩)
      · have hc : l.getD i 0 = m.getD i 0 := cmpQ_eq.1 (by simpa using hc)
        refine AW.skip ?_
        refine AW.region (by rw [hE]; rfl) ?_
        refine mvD rfl ?_
        refine add_i64 rfl rfl (by omega) ?_
        refine asD rfl ?_
        refine OL.nil ?_
        exact AW.again (x := i) (i + 1) (by first | omega | (simp only []; omega)) ⟨⟨by omega, fun j hj => by rcases Nat.lt_or_ge j i with h | h; exact h2 j h; obtain rfl : j = i := (by omega); exact hc⟩, Knows.app (.cons (VLe.refl _) (.cons (VLe.refl _) .nil)) (.cons (by first | exact VLe.refl _ | exact VLe.int (by omega) | exact VLe.mt | exact vle_q0 | exact VLe.osl | exact VLe.ptr) .nil), .nil⟩
    · first | (simp only [decide_eq_true_eq, decide_eq_false_iff_not, Bool.not_eq_true', Bool.not_eq_false', Bool.not_not, Bool.and_eq_true, Bool.and_eq_false_iff, Bool.or_eq_true, Bool.or_eq_false_iff] at h14) | skip
      refine AW.exit ?_
      refine AW.seq ?_
      refine AW.region (by rw [hE]; rfl) ?_
      refine asD rfl ?_
      refine OL.nil ?_
      exact AW.ret (RetQ.r ⟨_, .tmp rfl .nil, .le (VLe.bool ((decide_eq_true (list_eq_getD hl 0 fun j hj => h2 j (by omega))).symm))⟩)
set_option maxRecDepth 6000 in
set_option maxHeartbeats 3200000 in
theorem ref33_formed {h : HM} {B : Nat} (g : h.Good B) : FSpec P F.ref33_formed [vHM h] (.d (dB true)) := by
  have f := g.form
  have e1 := f.ini
  have e2 := f.trans
  have e3 := f.stop
  have e4 := f.emit
  have e5 := f.ties
  have e6 := f.sill
  have s0 := f.sym0
  have s1 := f.sym1
  have n0 := f.st0
  have n1 := f.st1
  have hb1 := f.b1
  have bB := f.bB
  have zE := f.zE
  have zI := f.zI
  have zS0 := f.zS
  refine FSpec.intro fn.ref33_formed (by rfl) (by rfl) (Nat.le_of_ble_eq_true (by rfl)) fun E hE => ?_
  refine AW.seq ?_
  refine AW.region (by rw [hE]; rfl) ?_
  refine bxA rfl rfl fun b1 => ?_
  refine asD rfl ?_
  refine OL.nil ?_
  refine AW.seq ?_
  refine AW.region (by rw [hE]; rfl) ?_
  refine faP fd.Hidden_1 rfl rfl ?_
  refine ldPC ce.int rfl rfl rfl ?_
  refine asD rfl ?_
  refine OL.nil ?_
  refine AW.seq ?_
  refine AW.seq ?_
  refine AW.region (by rw [hE]; rfl) ?_
  refine faP fd.Hidden_3 rfl rfl ?_
  refine ldPC ce.Rats rfl rfl rfl ?_
  refine lnL sl.Rats rfl rfl ?_
  refine mvD rfl ?_
  refine c_neq rfl rfl (c := false) (by first | exact decide_eq_true (by omega) | exact decide_eq_false (by omega) | exact cne_f (by omega) | exact cne_t (by omega) | rfl) ?_
  refine mvD rfl ?_
  refine OL.yes rfl ?_
  refine faP fd.Hidden_5 rfl rfl ?_
  refine OL.yes rfl ?_
  refine ldPC ce.Rats rfl rfl rfl ?_
  refine OL.yes rfl ?_
  refine lnL sl.Rats rfl rfl ?_
  refine OL.yes rfl ?_
  refine mvD rfl ?_
  refine OL.yes rfl ?_
  refine c_neq rfl rfl (c := false) (by first | exact decide_eq_true (by omega) | exact decide_eq_false (by omega) | exact cne_f (by omega) | exact cne_t (by omega) | rfl) ?_
  refine pkF rfl rfl ?_
  refine mvD rfl ?_
  refine OL.yes rfl ?_
  refine faP fd.Hidden_7 rfl rfl ?_
  refine OL.yes rfl ?_
  refine ldPC ce.bools rfl rfl rfl ?_
  refine OL.yes rfl ?_
  refine lnL sl.bools rfl rfl ?_
  refine OL.yes rfl ?_
  refine mvD rfl ?_
  refine OL.yes rfl ?_
  refine c_neq rfl rfl (c := false) (by first | exact decide_eq_true (by omega) | exact decide_eq_false (by omega) | exact cne_f (by omega) | exact cne_t (by omega) | rfl) ?_
  refine pkF rfl rfl ?_
  refine mvD rfl ?_
  refine OL.yes rfl ?_
  refine faP fd.Hidden_8 rfl rfl ?_
  refine OL.yes rfl ?_
  refine ldPC ce.ints rfl rfl rfl ?_
  refine OL.yes rfl ?_
  refine lnL sl.ints rfl rfl ?_
  refine OL.yes rfl ?_
  refine mvD rfl ?_
  refine OL.yes rfl ?_
  refine c_neq rfl rfl (c := false) (by first | exact decide_eq_true (by omega) | exact decide_eq_false (by omega) | exact cne_f (by omega) | exact cne_t (by omega) | rfl) ?_
  refine pkF rfl rfl ?_
  refine mvD rfl ?_
  refine OL.yes rfl ?_
  refine faP fd.Hidden_4 rfl rfl ?_
  refine OL.yes rfl ?_
  refine ldPC ce.Ratss rfl rfl rfl ?_
  refine OL.yes rfl ?_
  refine lnL sl.Ratss rfl rfl ?_
  refine OL.yes rfl ?_
  refine mvD rfl ?_
  refine OL.yes rfl ?_
  refine c_neq rfl rfl (c := false) (by first | exact decide_eq_true (by omega) | exact decide_eq_false (by omega) | exact cne_f (by omega) | exact cne_t (by omega) | rfl) ?_
  refine pkF rfl rfl ?_
  refine mvD rfl ?_
  refine OL.yes rfl ?_
  refine faP fd.Hidden_6 rfl rfl ?_
  refine OL.yes rfl ?_
  refine ldPC ce.Ratss rfl rfl rfl ?_
  refine OL.yes rfl ?_
  refine lnL sl.Ratss rfl rfl ?_
  refine OL.yes rfl ?_
  refine mvD rfl ?_
  refine OL.yes rfl ?_
  refine c_neq rfl rfl (c := false) (by first | exact decide_eq_true (by omega) | exact decide_eq_false (by omega) | exact cne_f (by omega) | exact cne_t (by omega) | rfl) ?_
  refine pkF rfl rfl ?_
  refine OL.nil ?_
  refine AW.cond rfl (fun hno => absurd hno (by decide)) (fun _ => ?_)
  refine AW.skip ?_
  refine AW.seq ?_
  refine AW.seq ?_
  refine AW.region (by rw [hE]; rfl) ?_
  refine asD rfl ?_
  refine OL.nil ?_
  refine AW.block ?_
  refine AW.whileK (α := Nat) [(1, _), (3, _)] [(1, _)] (fun i => [(4, .d (dI i))]) (fun i => []) (fun i => i ≤ h.st) (fun i => h.st - i) 0 (by repeat (first | exact Knows.nil | refine Knows.cons (by first | exact knD rfl | exact knA rfl | exact knP rfl | exact knO rfl | exact knM rfl | exact knE rfl | exact knR rfl | exact knF rfl | exact knT rfl | exact knJ) ?_)) (.cons (by first | exact owB rfl | exact owR rfl | exact owL rfl | exact owT rfl) .nil) ⟨Nat.zero_le _, .cons (by first | exact VLe.refl _ | exact VLe.int (by omega) | exact VLe.mt | exact vle_q0 | exact VLe.osl | exact VLe.ptr) .nil, .nil⟩ ?_
  intro i h1
  refine AW.seq ?_
  refine AW.seq ?_
  refine AW.region (by rw [hE]; rfl) ?_
  refine mvD rfl ?_
  refine mvD rfl ?_
  refine c_lss rfl rfl rfl ?_
  refine OL.nil ?_
  refine AW.cond rfl (fun h49 => ?_) (fun h49 => ?_)
  · first | (simp only [decide_eq_true_eq, decide_eq_false_iff_not, Bool.not_eq_true', Bool.not_eq_false', Bool.not_not, Bool.and_eq_true, Bool.and_eq_false_iff, Bool.or_eq_true, Bool.or_eq_false_iff] at h49) | skip
    refine AW.skip ?_
    refine AW.seq ?_
    refine AW.block ?_
    refine AW.seq ?_
    have t1 := f.trow i (by omega)
    have t2 := f.erow i (by omega)
    have t3 := f.tie i (by omega)
    have pT := g.pT i
    have pM := g.pM i
    have zT := f.zT i
    have zM := f.zM i
    have zS := f.zS.get f.b1 i
    refine AW.region_draw 1 [0, 1, 2, 3, 4, 5, 6, 7, 8, 9, 10, 11, 12, 13, 14, 15, 16, 17, 18, 19, 20, 21, 22, 23, 24, 25, 26, 27, 28, 29, 30, 31, 32, 33, 34, 35, 36, 37, 38, 39, 40, 41, 42, 43, 44, 45, 46, 47, 48, 49, 50, 51, 52, 53, 54, 55, 56, 57, 58, 59, 60, 61, 62, 63, 64, 65, 66, 67, 68, 69, 70, 71, 72, 73, 74, 75, 76, 77] order_free (by rw [hE]; rfl) (by kernel_rfl) (OI.of_OL (os := [_, _, _, _, _, _, _, _, _, _, _, _, _, _, _, _, _, _, _, _, _, _, _, _, _, _, _, _, _, _, _, _, _, _, _, _, _, _, _, _, _, _, _, _, _, _, _, _, _, _, _, _, _, _, _, _, _, _, _, _, _, _, _, _, _, _, _, _, _, _, _, _, _, _, _, _, _, _]) rfl ?_)
    refine faP fd.Hidden_4 rfl rfl ?_
    refine ldPC ce.Ratss rfl rfl rfl ?_
    refine mvD rfl ?_
    refine ixLn sl.Ratss [] rfl rfl (by omega) rfl rfl ?_
    refine ldRC ce.Rats rfl ?_
    refine lnL sl.Rats rfl rfl ?_
    refine mvD rfl ?_
    refine c_neq rfl rfl (c := false) (by first | exact decide_eq_true (by omega) | exact decide_eq_false (by omega) | exact cne_f (by omega) | exact cne_t (by omega) | rfl) ?_
    refine mvD rfl ?_
    refine OL.yes rfl ?_
    refine faP fd.Hidden_7 rfl rfl ?_
    refine OL.yes rfl ?_
    refine ldPC ce.bools rfl rfl rfl ?_
    refine OL.yes rfl ?_
    refine mvD rfl ?_
    refine OL.yes rfl ?_
    refine ixLn sl.bools false rfl rfl (by omega) rfl rfl ?_
    refine OL.yes rfl ?_
    refine ldRC ce.bool rfl ?_
    rw [f.sil i]
    refine OL.yes rfl ?_
    refine mvD rfl ?_
    refine OL.no rfl (by decide) ?_
    refine OL.no rfl (by decide) ?_
    refine OL.no rfl (by decide) ?_
    refine OL.no rfl (by decide) ?_
    refine OL.no rfl (by decide) ?_
    refine OL.no rfl (by decide) ?_
    refine OL.no rfl (by decide) ?_
    refine OL.yes rfl ?_
    refine pkF rfl rfl ?_
    refine pkF rfl rfl ?_
    refine mvD rfl ?_
    refine OL.yes rfl ?_
    refine faP fd.Hidden_7 rfl rfl ?_
    refine OL.yes rfl ?_
    refine ldPC ce.bools rfl rfl rfl ?_
    refine OL.yes rfl ?_
    refine mvD rfl ?_
    refine OL.yes rfl ?_
    refine ixLn sl.bools false rfl rfl (by omega) rfl rfl ?_
    refine OL.yes rfl ?_
    refine ldRC ce.bool rfl ?_
    rw [f.sil i]
    refine OL.yes rfl ?_
    refine nt rfl ?_
    refine OL.yes rfl ?_
    refine mvD rfl ?_
    refine OL.yes rfl ?_
    refine faP fd.Hidden_6 rfl rfl ?_
    refine OL.yes rfl ?_
    refine ldPC ce.Ratss rfl rfl rfl ?_
    refine OL.yes rfl ?_
    refine mvD rfl ?_
    refine OL.yes rfl ?_
    refine ixLn sl.Ratss [] rfl rfl (by omega) rfl rfl ?_
    refine OL.yes rfl ?_
    refine ldRC ce.Rats rfl ?_
    refine OL.yes rfl ?_
    refine lnL sl.Rats rfl rfl ?_
    refine OL.yes rfl ?_
    refine faP fd.Hidden_0 rfl rfl ?_
    refine OL.yes rfl ?_
    refine ldPC ce.int rfl rfl rfl ?_
    refine OL.yes rfl ?_
    refine c_neq rfl rfl (c := false) (by first | exact decide_eq_true (by omega) | exact decide_eq_false (by omega) | exact cne_f (by omega) | exact cne_t (by omega) | rfl) ?_
    refine OL.yes rfl ?_
    refine pkT rfl rfl ?_
    refine pkF rfl rfl ?_
    refine mvD rfl ?_
    refine OL.yes rfl ?_
    refine faP fd.Hidden_4 rfl rfl ?_
    refine OL.yes rfl ?_
    refine ldPC ce.Ratss rfl rfl rfl ?_
    refine OL.yes rfl ?_
    refine mvD rfl ?_
    refine OL.yes rfl ?_
    refine ixLn sl.Ratss [] rfl rfl (by omega) rfl rfl ?_
    refine OL.yes rfl ?_
    refine ldRC ce.Rats rfl ?_
    refine OL.yes rfl ?_
    refine clv rfl (.cons (VLe.refl _) (.nil)) (ref33_chances (pT) (zT) (by omega)) ?_
    refine OL.yes rfl ?_
    refine nt rfl ?_
    refine pkF rfl rfl ?_
    refine mvD rfl ?_
    refine OL.yes rfl ?_
    refine faP fd.Hidden_6 rfl rfl ?_
    refine OL.yes rfl ?_
    refine ldPC ce.Ratss rfl rfl rfl ?_
    refine OL.yes rfl ?_
    refine mvD rfl ?_
    refine OL.yes rfl ?_
    refine ixLn sl.Ratss [] rfl rfl (by omega) rfl rfl ?_
    refine OL.yes rfl ?_
    refine ldRC ce.Rats rfl ?_
    refine OL.yes rfl ?_
    refine clv rfl (.cons (VLe.refl _) (.nil)) (ref33_chances (pM) (zM) (by omega)) ?_
    refine OL.yes rfl ?_
    refine nt rfl ?_
    refine pkF rfl rfl ?_
    refine mvD rfl ?_
    refine OL.yes rfl ?_
    refine faP fd.Hidden_8 rfl rfl ?_
    refine OL.yes rfl ?_
    refine ldPC ce.ints rfl rfl rfl ?_
    refine OL.yes rfl ?_
    refine mvD rfl ?_
    refine OL.yes rfl ?_
    refine ixLn sl.ints 0 rfl rfl (by omega) rfl rfl ?_
    refine OL.yes rfl ?_
    refine ldRC ce.int rfl ?_
    refine OL.yes rfl ?_
    refine c_lss rfl rfl (c := false) (by first | exact decide_eq_true (by omega) | exact decide_eq_false (by omega) | exact cne_f (by omega) | exact cne_t (by omega) | rfl) ?_
    refine pkF rfl rfl ?_
    refine mvD rfl ?_
    refine OL.yes rfl ?_
    refine faP fd.Hidden_8 rfl rfl ?_
    refine OL.yes rfl ?_
    refine ldPC ce.ints rfl rfl rfl ?_
    refine OL.yes rfl ?_
    refine mvD rfl ?_
    refine OL.yes rfl ?_
    refine ixLn sl.ints 0 rfl rfl (by omega) rfl rfl ?_
    refine OL.yes rfl ?_
    refine ldRC ce.int rfl ?_
    refine OL.yes rfl ?_
    refine mvD rfl ?_
    refine OL.yes rfl ?_
    refine c_geq rfl rfl (c := false) (by first | exact decide_eq_true (by omega) | exact decide_eq_false (by omega) | exact cne_f (by omega) | exact cne_t (by omega) | rfl) ?_
    refine pkF rfl rfl ?_
    refine OL.nil ?_
    refine AW.cond rfl (fun hno => absurd hno (by decide)) (fun _ => ?_)
    refine AW.skip ?_
    refine AW.region (by rw [hE]; rfl) ?_
    refine mvD rfl ?_
    refine add_i64 rfl rfl (by omega) ?_
    refine asD rfl ?_
    refine OL.nil ?_
    exact AW.again (x := i) (i + 1) (by first | omega | (simp only []; omega)) ⟨by omega, Knows.app (.cons (VLe.refl _) (.cons (VLe.refl _) .nil)) (.cons (by first | exact VLe.refl _ | exact VLe.int (by omega) | exact VLe.mt | exact vle_q0 | exact VLe.osl | exact VLe.ptr) .nil), Owns.app (.cons rfl .nil) (.nil)⟩
  · first | (simp only [decide_eq_true_eq, decide_eq_false_iff_not, Bool.not_eq_true', Bool.not_eq_false', Bool.not_not, Bool.and_eq_true, Bool.and_eq_false_iff, Bool.or_eq_true, Bool.or_eq_false_iff] at h49) | skip
    refine AW.exit ?_
    refine AW.seq ?_
    refine AW.region (by rw [hE]; rfl) ?_
    refine faP fd.Hidden_3 rfl rfl ?_
    refine ldPC ce.Rats rfl rfl rfl ?_
    refine clv rfl (.cons (VLe.refl _) (.nil)) (ref33_chances (g.pI) (zI) (by omega)) ?_
    refine mvD rfl ?_
    refine OL.yes rfl ?_
    refine faP fd.Hidden_5 rfl rfl ?_
    refine OL.yes rfl ?_
    refine ldPC ce.Rats rfl rfl rfl ?_
    refine OL.yes rfl ?_
    refine clv rfl (.cons (VLe.refl _) (.nil)) (ref33_chances (g.pS) (zS0) (by omega)) ?_
    refine pkT rfl rfl ?_
    refine mvD rfl ?_
    refine OL.yes rfl ?_
    refine faP fd.Hidden_2 rfl rfl ?_
    refine OL.yes rfl ?_
    refine ldPA ag.Rat rfl rfl (vs := [_, _, _]) rfl (Nat.le_of_ble_eq_true rfl) ?_
    refine OL.yes rfl ?_
    refine clv rfl (.cons (VLe.refl _) (.nil)) (ref33_Chance g.pE (by omega)) ?_
    refine pkT rfl rfl ?_
    refine asD rfl ?_
    refine OL.nil ?_
    exact AW.ret (RetQ.r ⟨_, .tmp rfl .nil, .le (by first | exact VLe.refl _ | exact VLe.mt | exact vle_q0 | exact VLe.int (by omega) | exact VLe.bool (by simp_all))⟩)
theorem vcs_b0 : VCs [.d (dB false)] (dB false).cells := .cons (VC.d _) .nil
theorem set_true {l : List Bool} {n i j : Nat} (hl : l.length = n) (h : ∀ j, j < i → l.getD j false = true) (hi : i < n) (hj : j < i + 1) : (l.set i true).getD j false = true := by
  rw [List.getD_eq_getElem?_getD, List.getElem?_set]
  by_cases e : i = j
  · subst e; rw [if_pos rfl, if_pos (by omega)]; rfl
  · rw [if_neg e, ← List.getD_eq_getElem?_getD]; exact h j (by omega)
set_option maxRecDepth 6000 in
set_option maxHeartbeats 1600000 in
theorem ref33_circles {h : HM} {B : Nat} (g : h.Good B) : FSpec P F.ref33_circles [vHM h] (.d (dB false)) := by
  have f := g.form
  have e1 := f.ini
  have e2 := f.trans
  have e3 := f.stop
  have e4 := f.emit
  have e5 := f.ties
  have e6 := f.sill
  have s0 := f.sym0
  have s1 := f.sym1
  have n0 := f.st0
  have n1 := f.st1
  have hb1 := f.b1
  have bB := f.bB
  refine FSpec.intro fn.ref33_circles (by rfl) (by rfl) (Nat.le_of_ble_eq_true (by rfl)) fun E hE => ?_
  refine AW.seq ?_
  refine AW.region (by rw [hE]; rfl) ?_
  refine bxA rfl rfl fun b1 => ?_
  refine asD rfl ?_
  refine OL.nil ?_
  refine AW.seq ?_
  refine AW.region (by rw [hE]; rfl) ?_
  refine faP fd.Hidden_1 rfl rfl ?_
  refine ldPC ce.int rfl rfl rfl ?_
  refine mkL dB false sl.bools z.bool vcs_b0 rfl rfl (Nat.le_refl _) (by omega) (by omega) rfl fun b11 => ?_
  refine asO rfl ?_
  refine OL.nil ?_
  refine AW.seq ?_
  refine AW.seq ?_
  refine AW.region (by rw [hE]; rfl) ?_
  refine asD rfl ?_
  refine OL.nil ?_
  refine AW.block ?_
  refine AW.whileK (α := Nat × List Bool) [(1, _), (2, _), (3, _)] [(1, _)] (fun (k, l) => [(4, .d (dI k))]) (fun (k, l) => [(11, .row b11 h.st T.bool 1 (l.map dB))]) (fun (k, l) => k ≤ h.st ∧ l.length = h.st ∧ (0 < k → ∀ i, i < h.st → l.getD i false = true)) (fun (k, l) => h.st - k) (0, List.replicate h.st false) (by repeat (first | exact Knows.nil | refine Knows.cons (by first | exact knD rfl | exact knA rfl | exact knP rfl | exact knO rfl | exact knM rfl | exact knE rfl | exact knR rfl | exact knF rfl | exact knT rfl | exact knJ) ?_)) (.cons (by first | exact owB rfl | exact owR rfl | exact owL rfl | exact owT rfl) .nil) ⟨⟨Nat.zero_le _, List.length_replicate, fun e => absurd e (Nat.lt_irrefl 0)⟩, .cons (by first | exact VLe.refl _ | exact VLe.int (by omega) | exact VLe.mt | exact vle_q0 | exact VLe.osl | exact VLe.ptr) .nil, .cons rfl .nil⟩ ?_
  rintro ⟨k, l⟩ ⟨h1, hl, hk⟩
  have h1 : k ≤ h.st := h1
  have hl : l.length = h.st := hl
  refine AW.seq ?_
  refine AW.seq ?_
  refine AW.region (by rw [hE]; rfl) ?_
  refine mvD rfl ?_
  refine faP fd.Hidden_1 rfl rfl ?_
  refine ldPC ce.int rfl rfl rfl ?_
  refine c_lss rfl rfl rfl ?_
  refine OL.nil ?_
  refine AW.cond rfl (fun h15 => ?_) (fun h15 => ?_)
  · first | (simp only [decide_eq_true_eq, decide_eq_false_iff_not, Bool.not_eq_true', Bool.not_eq_false', Bool.not_not, Bool.and_eq_true, Bool.and_eq_false_iff, Bool.or_eq_true, Bool.or_eq_false_iff] at h15) | skip
    refine AW.skip ?_
    refine AW.seq ?_
    refine AW.block ?_
    refine AW.seq ?_
    refine AW.region (by rw [hE]; rfl) ?_
    refine asD rfl ?_
    refine OL.nil ?_
    refine AW.block ?_
    refine AW.whileK (α := Nat × List Bool) [(1, _), (2, _), (3, _), (4, _)] [(1, _)] (fun (i, l2) => [(5, .d (dI i))]) (fun (i, l2) => [(11, .row b11 h.st T.bool 1 (l2.map dB))]) (fun (i, l2) => i ≤ h.st ∧ l2.length = h.st ∧ ∀ j, j < i → l2.getD j false = true) (fun (i, l2) => h.st - i) (0, l) (by repeat (first | exact Knows.nil | refine Knows.cons (by first | exact knD rfl | exact knA rfl | exact knP rfl | exact knO rfl | exact knM rfl | exact knE rfl | exact knR rfl | exact knF rfl | exact knT rfl | exact knJ) ?_)) (.cons (by first | exact owB rfl | exact owR rfl | exact owL rfl | exact owT rfl) .nil) ⟨⟨Nat.zero_le _, hl, fun j hj => absurd hj (Nat.not_lt_zero j)⟩, .cons (by first | exact VLe.refl _ | exact VLe.int (by omega) | exact VLe.mt | exact vle_q0 | exact VLe.osl | exact VLe.ptr) .nil, .cons rfl .nil⟩ ?_
    rintro ⟨i, l2⟩ ⟨h2, hl2, hk2⟩
    have h2 : i ≤ h.st := h2
    have hl2 : l2.length = h.st := hl2
    refine AW.seq ?_
    refine AW.seq ?_
    refine AW.region (by rw [hE]; rfl) ?_
    refine mvD rfl ?_
    refine faP fd.Hidden_1 rfl rfl ?_
    refine ldPC ce.int rfl rfl rfl ?_
    refine c_lss rfl rfl rfl ?_
    refine OL.nil ?_
    refine AW.cond rfl (fun h21 => ?_) (fun h21 => ?_)
    · first | (simp only [decide_eq_true_eq, decide_eq_false_iff_not, Bool.not_eq_true', Bool.not_eq_false', Bool.not_not, Bool.and_eq_true, Bool.and_eq_false_iff, Bool.or_eq_true, Bool.or_eq_false_iff] at h21) | skip
      refine AW.skip ?_
      refine AW.seq ?_
      refine AW.block ?_
      refine AW.seq ?_
      refine AW.region (by rw [hE]; rfl) ?_
      refine asD rfl ?_
      refine OL.nil ?_
      refine AW.seq ?_
      refine AW.seq ?_
      refine AW.region (by rw [hE]; rfl) ?_
      refine asD rfl ?_
      refine OL.nil ?_
      refine AW.block ?_
      refine AW.whileK (α := Nat) [(1, _), (2, _), (3, _), (4, _), (5, _)] [(1, _), (11, _)] (fun j => [(6, .d (dB false)), (7, .d (dI j))]) (fun j => []) (fun j => j ≤ h.st) (fun j => h.st - j) 0 (by repeat (first | exact Knows.nil | refine Knows.cons (by first | exact knD rfl | exact knA rfl | exact knP rfl | exact knO rfl | exact knM rfl | exact knE rfl | exact knR rfl | exact knF rfl | exact knT rfl | exact knJ) ?_)) (by repeat (first | exact Owns.nil | refine Owns.cons (by first | exact owB rfl | exact owR rfl | exact owL rfl | exact owT rfl) ?_)) ⟨Nat.zero_le _, .cons (by first | exact VLe.refl _ | exact VLe.int (by omega) | exact VLe.mt | exact vle_q0 | exact VLe.osl | exact VLe.ptr) (.cons (by first | exact VLe.refl _ | exact VLe.int (by omega) | exact VLe.mt | exact vle_q0 | exact VLe.osl | exact VLe.ptr) .nil), .nil⟩ ?_
      intro j h3
      have h3 : j ≤ h.st := h3
      refine AW.seq ?_
      refine AW.seq ?_
      refine AW.region (by rw [hE]; rfl) ?_
      refine mvD rfl ?_
      refine faP fd.Hidden_1 rfl rfl ?_
      refine ldPC ce.int rfl rfl rfl ?_
      refine c_lss rfl rfl rfl ?_
      refine OL.nil ?_
      refine AW.cond rfl (fun h27 => ?_) (fun h27 => ?_)
      · first | (simp only [decide_eq_true_eq, decide_eq_false_iff_not, Bool.not_eq_true', Bool.not_eq_false', Bool.not_not, Bool.and_eq_true, Bool.and_eq_false_iff, Bool.or_eq_true, Bool.or_eq_false_iff] at h27) | skip
        refine AW.skip ?_
        refine AW.seq ?_
        refine AW.block ?_
        refine AW.region (by rw [hE]; rfl) ?_
        refine mvD rfl ?_
        refine mvD rfl ?_
        refine OL.yes rfl ?_
        refine faP fd.Hidden_7 rfl rfl ?_
        refine OL.yes rfl ?_
        refine ldPC ce.bools rfl rfl rfl ?_
        refine OL.yes rfl ?_
        refine mvD rfl ?_
        refine OL.yes rfl ?_
        refine ixLn sl.bools false rfl rfl (by omega) rfl rfl ?_
        refine OL.yes rfl ?_
        refine ldRC ce.bool rfl ?_
        rw [f.sil j]
        refine OL.yes rfl ?_
        refine mvD rfl ?_
        refine OL.no rfl (by decide) ?_
        refine OL.no rfl (by decide) ?_
        refine OL.no rfl (by decide) ?_
        refine OL.no rfl (by decide) ?_
        refine OL.no rfl (by decide) ?_
        refine OL.yes rfl ?_
        refine pkF rfl rfl ?_
        refine OL.yes rfl ?_
        refine mvD rfl ?_
        refine OL.no rfl (by decide) ?_
        refine OL.no rfl (by decide) ?_
        refine OL.no rfl (by decide) ?_
        refine OL.no rfl (by decide) ?_
        refine OL.no rfl (by decide) ?_
        refine OL.no rfl (by decide) ?_
        refine OL.no rfl (by decide) ?_
        refine OL.no rfl (by decide) ?_
        refine OL.no rfl (by decide) ?_
        refine OL.no rfl (by decide) ?_
        refine OL.yes rfl ?_
        refine pkF rfl rfl ?_
        refine pkF rfl rfl ?_
        refine asD rfl ?_
        refine OL.nil ?_
        refine AW.region (by rw [hE]; rfl) ?_
        refine mvD rfl ?_
        refine add_i64 rfl rfl (by omega) ?_
        refine asD rfl ?_
        refine OL.nil ?_
        exact AW.again (x := j) (j + 1) (by first | omega | (simp only []; omega)) ⟨by omega, Knows.app (.cons (VLe.refl _) (.cons (VLe.refl _) (.cons (VLe.refl _) (.cons (VLe.refl _) (.cons (VLe.refl _) .nil))))) (.cons (by first | exact VLe.refl _ | exact VLe.int (by omega) | exact VLe.mt | exact vle_q0 | exact VLe.osl | exact VLe.ptr) (.cons (by first | exact VLe.refl _ | exact VLe.int (by omega) | exact VLe.mt | exact vle_q0 | exact VLe.osl | exact VLe.ptr) .nil)), Owns.app (.cons rfl (.cons rfl .nil)) (.nil)⟩
      · first | (simp only [decide_eq_true_eq, decide_eq_false_iff_not, Bool.not_eq_true', Bool.not_eq_false', Bool.not_not, Bool.and_eq_true, Bool.and_eq_false_iff, Bool.or_eq_true, Bool.or_eq_false_iff] at h27) | skip
        refine AW.exit ?_
        have hel : (l2.map dB)[i]? = some (dB (l2.getD i false)) := by rw [List.getElem?_map, List.getD_eq_getElem?_getD, List.getElem?_eq_getElem (show i < l2.length by omega)]; rfl
        refine AW.region (by rw [hE]; rfl) ?_
        refine mvO rfl ?_
        refine mvD rfl ?_
        refine mvO rfl ?_
        refine mvD rfl ?_
        refine ixOn sl.bools rfl rfl (by omega) ?_
        refine ldEC ce.bool (by decide) rfl rfl hel rfl ?_
        refine mvD rfl ?_
        refine OL.split 63 rfl (fun hg => ?_) (fun hg => ?_)
        · have _hg := hg
          refine OL.no rfl (by decide) ?_
          refine OL.no rfl (by decide) ?_
          refine pkT rfl rfl ?_
          refine mvD rfl ?_
          refine OL.no rfl (by decide) ?_
          refine OL.no rfl (by decide) ?_
          refine OL.no rfl (by decide) ?_
          refine OL.no rfl (by decide) ?_
          refine OL.no rfl (by decide) ?_
          refine OL.no rfl (by decide) ?_
          refine pkT rfl rfl ?_
          refine ixOn sl.bools rfl rfl (by omega) ?_
          refine stE sz.bool rfl (VC.d _).vd rfl rfl (by rw [List.length_map]; omega) (es2 := (l2.set i true).map dB) (by rw [List.map_set]) ?_
          refine OL.nil ?_
          refine AW.region (by rw [hE]; rfl) ?_
          refine mvD rfl ?_
          refine add_i64 rfl rfl (by omega) ?_
          refine asD rfl ?_
          refine OL.nil ?_
          exact AW.again (x := (i, l2)) (i + 1, l2.set i true) (by first | omega | (simp only []; omega)) ⟨⟨by omega, by rw [List.length_set]; exact hl2, fun j hj => set_true hl2 hk2 (by omega) hj⟩, Knows.app (.cons (VLe.refl _) (.cons (VLe.refl _) (.cons (VLe.refl _) (.cons (VLe.refl _) .nil)))) (.cons (by first | exact VLe.refl _ | exact VLe.int (by omega) | exact VLe.mt | exact vle_q0 | exact VLe.osl | exact VLe.ptr) .nil), Owns.app (.cons rfl .nil) (.cons rfl .nil)⟩
        · have _hg := hg
          refine OL.yes rfl ?_
          refine mvD rfl ?_
          refine OL.yes rfl ?_
          refine nt rfl ?_
          refine pkF rfl rfl ?_
          refine mvD rfl ?_
          refine OL.no rfl (by decide) ?_
          refine OL.no rfl (by decide) ?_
          refine OL.no rfl (by decide) ?_
          refine OL.no rfl (by decide) ?_
          refine OL.no rfl (by decide) ?_
          refine OL.no rfl (by decide) ?_
          refine pkT rfl rfl ?_
          refine ixOn sl.bools rfl rfl (by omega) ?_
          refine stE sz.bool rfl (VC.d _).vd rfl rfl (by rw [List.length_map]; omega) (es2 := (l2.set i true).map dB) (by rw [List.map_set]) ?_
          refine OL.nil ?_
          refine AW.region (by rw [hE]; rfl) ?_
          refine mvD rfl ?_
          refine add_i64 rfl rfl (by omega) ?_
          refine asD rfl ?_
          refine OL.nil ?_
          exact AW.again (x := (i, l2)) (i + 1, l2.set i true) (by first | omega | (simp only []; omega)) ⟨⟨by omega, by rw [List.length_set]; exact hl2, fun j hj => set_true hl2 hk2 (by omega) hj⟩, Knows.app (.cons (VLe.refl _) (.cons (VLe.refl _) (.cons (VLe.refl _) (.cons (VLe.refl _) .nil)))) (.cons (by first | exact VLe.refl _ | exact VLe.int (by omega) | exact VLe.mt | exact vle_q0 | exact VLe.osl | exact VLe.ptr) .nil), Owns.app (.cons rfl .nil) (.cons rfl .nil)⟩
    · first | (simp only [decide_eq_true_eq, decide_eq_false_iff_not, Bool.not_eq_true', Bool.not_eq_false', Bool.not_not, Bool.and_eq_true, Bool.and_eq_false_iff, Bool.or_eq_true, Bool.or_eq_false_iff] at h21) | skip
      refine AW.exit ?_
      refine AW.region (by rw [hE]; rfl) ?_
      refine mvD rfl ?_
      refine add_i64 rfl rfl (by omega) ?_
      refine asD rfl ?_
      refine OL.nil ?_
      exact AW.again (x := (k, l)) (k + 1, l2) (by first | omega | (simp only []; omega)) ⟨⟨by omega, hl2, fun _ j hj => hk2 j (by omega)⟩, Knows.app (.cons (VLe.refl _) (.cons (VLe.refl _) (.cons (VLe.refl _) .nil))) (.cons (by first | exact VLe.refl _ | exact VLe.int (by omega) | exact VLe.mt | exact vle_q0 | exact VLe.osl | exact VLe.ptr) .nil), Owns.app (.cons rfl .nil) (.cons rfl .nil)⟩
  · first | (simp only [decide_eq_true_eq, decide_eq_false_iff_not, Bool.not_eq_true', Bool.not_eq_false', Bool.not_not, Bool.and_eq_true, Bool.and_eq_false_iff, Bool.or_eq_true, Bool.or_eq_false_iff] at h15) | skip
    refine AW.exit ?_
    refine AW.seq ?_
    refine AW.seq ?_
    refine AW.region (by rw [hE]; rfl) ?_
    refine asD rfl ?_
    refine OL.nil ?_
    refine AW.block ?_
    refine AW.whileK (α := Nat) [(1, _), (3, _)] [(1, _), (11, _)] (fun i => [(8, .d (dI i))]) (fun i => []) (fun i => i ≤ h.st) (fun i => h.st - i) 0 (by repeat (first | exact Knows.nil | refine Knows.cons (by first | exact knD rfl | exact knA rfl | exact knP rfl | exact knO rfl | exact knM rfl | exact knE rfl | exact knR rfl | exact knF rfl | exact knT rfl | exact knJ) ?_)) (by repeat (first | exact Owns.nil | refine Owns.cons (by first | exact owB rfl | exact owR rfl | exact owL rfl | exact owT rfl) ?_)) ⟨Nat.zero_le _, .cons (by first | exact VLe.refl _ | exact VLe.int (by omega) | exact VLe.mt | exact vle_q0 | exact VLe.osl | exact VLe.ptr) .nil, .nil⟩ ?_
    intro i h4
    have h4 : i ≤ h.st := h4
    refine AW.seq ?_
    refine AW.seq ?_
    refine AW.region (by rw [hE]; rfl) ?_
    refine mvD rfl ?_
    refine faP fd.Hidden_1 rfl rfl ?_
    refine ldPC ce.int rfl rfl rfl ?_
    refine c_lss rfl rfl rfl ?_
    refine OL.nil ?_
    refine AW.cond rfl (fun h79 => ?_) (fun h79 => ?_)
    · first | (simp only [decide_eq_true_eq, decide_eq_false_iff_not, Bool.not_eq_true', Bool.not_eq_false', Bool.not_not, Bool.and_eq_true, Bool.and_eq_false_iff, Bool.or_eq_true, Bool.or_eq_false_iff] at h79) | skip
      refine AW.skip ?_
      refine AW.seq ?_
      refine AW.block ?_
      refine AW.seq ?_
      have hel : (l.map dB)[i]? = some (dB true) := by rw [List.getElem?_map, List.getElem?_eq_getElem (show i < l.length by omega), ← hk (by omega) i (by omega), List.getD_eq_getElem?_getD, List.getElem?_eq_getElem (show i < l.length by omega)]; rfl
      refine AW.region (by rw [hE]; rfl) ?_
      refine mvO rfl ?_
      refine mvD rfl ?_
      refine ixOn sl.bools rfl rfl (by omega) ?_
      refine ldEC ce.bool (by decide) rfl rfl hel rfl ?_
      refine nt rfl ?_
      refine OL.nil ?_
      refine AW.cond rfl (fun hno => absurd hno (by decide)) (fun _ => ?_)
      refine AW.skip ?_
      refine AW.region (by rw [hE]; rfl) ?_
      refine mvD rfl ?_
      refine add_i64 rfl rfl (by omega) ?_
      refine asD rfl ?_
      refine OL.nil ?_
      exact AW.again (x := i) (i + 1) (by first | omega | (simp only []; omega)) ⟨by omega, Knows.app (.cons (VLe.refl _) (.cons (VLe.refl _) .nil)) (.cons (by first | exact VLe.refl _ | exact VLe.int (by omega) | exact VLe.mt | exact vle_q0 | exact VLe.osl | exact VLe.ptr) .nil), Owns.app (.cons rfl (.cons rfl .nil)) (.nil)⟩
    · first | (simp only [decide_eq_true_eq, decide_eq_false_iff_not, Bool.not_eq_true', Bool.not_eq_false', Bool.not_not, Bool.and_eq_true, Bool.and_eq_false_iff, Bool.or_eq_true, Bool.or_eq_false_iff] at h79) | skip
      refine AW.exit ?_
      refine AW.seq ?_
      refine AW.region (by rw [hE]; rfl) ?_
      refine asD rfl ?_
      refine OL.nil ?_
      exact AW.ret (RetQ.r ⟨_, .tmp rfl .nil, .le (by first | exact VLe.refl _ | exact VLe.mt | exact vle_q0 | exact VLe.int (by omega) | exact VLe.bool (by simp_all))⟩)
set_option maxRecDepth 6000 in
set_option maxHeartbeats 1600000 in
theorem ref33_Valid {h : HM} {B : Nat} (g : h.Good B) : FSpec P F.ref33_Valid [vHM h] (.d (dI 0)) := by
  have f := g.form
  have e1 := f.ini
  have e2 := f.trans
  have e3 := f.stop
  have e4 := f.emit
  have e5 := f.ties
  have e6 := f.sill
  have s0 := f.sym0
  have s1 := f.sym1
  have n0 := f.st0
  have n1 := f.st1
  have hb1 := f.b1
  have bB := f.bB
  have zE := f.zE
  have zI := f.zI
  refine FSpec.intro fn.ref33_Valid (by rfl) (by rfl) (Nat.le_of_ble_eq_true (by rfl)) fun E hE => ?_
  refine AW.seq ?_
  refine AW.region (by rw [hE]; rfl) ?_
  refine bxA rfl rfl fun b1 => ?_
  refine asD rfl ?_
  refine OL.nil ?_
  refine AW.seq ?_
  refine AW.seq ?_
  refine AW.region (by rw [hE]; rfl) ?_
  refine faP fd.Hidden_0 rfl rfl ?_
  refine ldPC ce.int rfl rfl rfl ?_
  refine c_lss rfl rfl (c := false) (by first | exact decide_eq_true (by omega) | exact decide_eq_false (by omega) | exact cne_f (by omega) | exact cne_t (by omega) | rfl) ?_
  refine mvD rfl ?_
  refine OL.yes rfl ?_
  refine faP fd.Hidden_0 rfl rfl ?_
  refine OL.yes rfl ?_
  refine ldPC ce.int rfl rfl rfl ?_
  refine OL.yes rfl ?_
  refine c_gtr rfl rfl (c := false) (by first | exact decide_eq_true (by omega) | exact decide_eq_false (by omega) | exact cne_f (by omega) | exact cne_t (by omega) | rfl) ?_
  refine pkF rfl rfl ?_
  refine mvD rfl ?_
  refine OL.yes rfl ?_
  refine faP fd.Hidden_1 rfl rfl ?_
  refine OL.yes rfl ?_
  refine ldPC ce.int rfl rfl rfl ?_
  refine OL.yes rfl ?_
  refine c_lss rfl rfl (c := false) (by first | exact decide_eq_true (by omega) | exact decide_eq_false (by omega) | exact cne_f (by omega) | exact cne_t (by omega) | rfl) ?_
  refine pkF rfl rfl ?_
  refine mvD rfl ?_
  refine OL.yes rfl ?_
  refine faP fd.Hidden_1 rfl rfl ?_
  refine OL.yes rfl ?_
  refine ldPC ce.int rfl rfl rfl ?_
  refine OL.yes rfl ?_
  refine c_gtr rfl rfl (c := false) (by first | exact decide_eq_true (by omega) | exact decide_eq_false (by omega) | exact cne_f (by omega) | exact cne_t (by omega) | rfl) ?_
  refine pkF rfl rfl ?_
  refine OL.nil ?_
  refine AW.cond rfl (fun hno => absurd hno (by decide)) (fun _ => ?_)
  refine AW.skip ?_
  refine AW.seq ?_
  refine AW.seq ?_
  refine AW.region (by rw [hE]; rfl) ?_
  refine ldPA ag.Hidden rfl rfl (vs := [_, _, _, _, _, _, _, _, _, _, _]) rfl (Nat.le_of_ble_eq_true rfl) ?_
  refine clv rfl (.cons (VLe.refl _) (.nil)) (ref33_formed g) ?_
  refine nt rfl ?_
  refine OL.nil ?_
  refine AW.cond rfl (fun hno => absurd hno (by decide)) (fun _ => ?_)
  refine AW.skip ?_
  refine AW.seq ?_
  refine AW.seq ?_
  refine AW.region (by rw [hE]; rfl) ?_
  refine faP fd.Hidden_2 rfl rfl ?_
  refine ldPA ag.Rat rfl rfl (vs := [_, _, _]) rfl (Nat.le_of_ble_eq_true rfl) ?_
  refine faP fd.Hidden_3 rfl rfl ?_
  refine ldPC ce.Rats rfl rfl rfl ?_
  refine clv rfl (.cons (VLe.refl _) (.cons (VLe.refl _) (.nil))) (ref33_one (x := h.empty) (l := h.ini) (by omega) zI (by omega) (by omega) (by rw [← sumQ_app_one]; exact g.sI)) ?_
  refine nt rfl ?_
  refine OL.nil ?_
  refine AW.cond rfl (fun hno => absurd hno (by decide)) (fun _ => ?_)
  refine AW.skip ?_
  refine AW.seq ?_
  refine AW.seq ?_
  refine AW.region (by rw [hE]; rfl) ?_
  refine asD rfl ?_
  refine OL.nil ?_
  refine AW.block ?_
  refine AW.whileK (α := Nat) [(1, _)] [(1, _)] (fun i => [(3, .d (dI i))]) (fun i => []) (fun i => i ≤ h.st) (fun i => h.st - i) 0 (.cons (by first | exact knD rfl | exact knA rfl | exact knP rfl | exact knO rfl | exact knM rfl | exact knE rfl | exact knR rfl | exact knF rfl | exact knT rfl | exact knJ) .nil) (.cons (by first | exact owB rfl | exact owR rfl | exact owL rfl | exact owT rfl) .nil) ⟨Nat.zero_le _, .cons (by first | exact VLe.refl _ | exact VLe.int (by omega) | exact VLe.mt | exact vle_q0 | exact VLe.osl | exact VLe.ptr) .nil, .nil⟩ ?_
  intro i h1
  refine AW.seq ?_
  refine AW.seq ?_
  refine AW.region (by rw [hE]; rfl) ?_
  refine mvD rfl ?_
  refine faP fd.Hidden_1 rfl rfl ?_
  refine ldPC ce.int rfl rfl rfl ?_
  refine c_lss rfl rfl rfl ?_
  refine OL.nil ?_
  refine AW.cond rfl (fun h37 => ?_) (fun h37 => ?_)
  · first | (simp only [decide_eq_true_eq, decide_eq_false_iff_not, Bool.not_eq_true', Bool.not_eq_false', Bool.not_not, Bool.and_eq_true, Bool.and_eq_false_iff, Bool.or_eq_true, Bool.or_eq_false_iff] at h37) | skip
    refine AW.skip ?_
    refine AW.seq ?_
    refine AW.block ?_
    refine AW.seq ?_
    have t1 := f.trow i (by omega)
    have t2 := f.erow i (by omega)
    have t3 := f.tie i (by omega)
    have pT := g.pT i
    have pM := g.pM i
    have zT := f.zT i
    have zM := f.zM i
    have zS := f.zS.get f.b1 i
    refine AW.region_draw 1 [0, 1, 2, 3, 4, 5, 6, 7, 8, 9, 10, 11] order_free (by rw [hE]; rfl) (by kernel_rfl) (OI.of_OL (os := [_, _, _, _, _, _, _, _, _, _, _, _]) rfl ?_)
    refine faP fd.Hidden_5 rfl rfl ?_
    refine ldPC ce.Rats rfl rfl rfl ?_
    refine mvD rfl ?_
    refine ixLn sl.Rats 0 rfl rfl (by omega) rfl rfl ?_
    refine ldRA ag.Rat rfl (vs := [_, _, _]) rfl (Nat.le_of_ble_eq_true rfl) ?_
    refine faP fd.Hidden_4 rfl rfl ?_
    refine ldPC ce.Ratss rfl rfl rfl ?_
    refine mvD rfl ?_
    refine ixLn sl.Ratss [] rfl rfl (by omega) rfl rfl ?_
    refine ldRC ce.Rats rfl ?_
    refine clv rfl (.cons (VLe.refl _) (.cons (VLe.refl _) (.nil))) (ref33_one (x := h.stop.getD i 0) (l := h.trans.getD i []) (by omega) zT (by omega) (by omega) (by rw [← sumQ_app_one]; exact g.sT i (by omega))) ?_
    refine nt rfl ?_
    refine OL.nil ?_
    refine AW.cond rfl (fun hno => absurd hno (by decide)) (fun _ => ?_)
    refine AW.skip ?_
    refine AW.region (by rw [hE]; rfl) ?_
    refine mvD rfl ?_
    refine add_i64 rfl rfl (by omega) ?_
    refine asD rfl ?_
    refine OL.nil ?_
    exact AW.again (x := i) (i + 1) (by first | omega | (simp only []; omega)) ⟨by omega, Knows.app (.cons (VLe.refl _) .nil) (.cons (by first | exact VLe.refl _ | exact VLe.int (by omega) | exact VLe.mt | exact vle_q0 | exact VLe.osl | exact VLe.ptr) .nil), Owns.app (.cons rfl .nil) (.nil)⟩
  · first | (simp only [decide_eq_true_eq, decide_eq_false_iff_not, Bool.not_eq_true', Bool.not_eq_false', Bool.not_not, Bool.and_eq_true, Bool.and_eq_false_iff, Bool.or_eq_true, Bool.or_eq_false_iff] at h37) | skip
    refine AW.exit ?_
    refine AW.seq ?_
    refine AW.seq ?_
    refine AW.region (by rw [hE]; rfl) ?_
    refine asD rfl ?_
    refine OL.nil ?_
    refine AW.block ?_
    refine AW.whileK (α := Nat) [(1, _)] [(1, _)] (fun i => [(4, .d (dI i))]) (fun i => []) (fun i => i ≤ h.st) (fun i => h.st - i) 0 (.cons (by first | exact knD rfl | exact knA rfl | exact knP rfl | exact knO rfl | exact knM rfl | exact knE rfl | exact knR rfl | exact knF rfl | exact knT rfl | exact knJ) .nil) (.cons (by first | exact owB rfl | exact owR rfl | exact owL rfl | exact owT rfl) .nil) ⟨Nat.zero_le _, .cons (by first | exact VLe.refl _ | exact VLe.int (by omega) | exact VLe.mt | exact vle_q0 | exact VLe.osl | exact VLe.ptr) .nil, .nil⟩ ?_
    intro i h1
    refine AW.seq ?_
    refine AW.seq ?_
    refine AW.region (by rw [hE]; rfl) ?_
    refine mvD rfl ?_
    refine faP fd.Hidden_1 rfl rfl ?_
    refine ldPC ce.int rfl rfl rfl ?_
    refine c_lss rfl rfl rfl ?_
    refine OL.nil ?_
    refine AW.cond rfl (fun h55 => ?_) (fun h55 => ?_)
    · first | (simp only [decide_eq_true_eq, decide_eq_false_iff_not, Bool.not_eq_true', Bool.not_eq_false', Bool.not_not, Bool.and_eq_true, Bool.and_eq_false_iff, Bool.or_eq_true, Bool.or_eq_false_iff] at h55) | skip
      refine AW.skip ?_
      refine AW.seq ?_
      refine AW.block ?_
      refine AW.seq ?_
      have t1 := f.trow i (by omega)
      have t2 := f.erow i (by omega)
      have t3 := f.tie i (by omega)
      have pT := g.pT i
      have pM := g.pM i
      have zT := f.zT i
      have zM := f.zM i
      have zS := f.zS.get f.b1 i
      refine AW.region (by rw [hE]; rfl) ?_
      refine faP fd.Hidden_7 rfl rfl ?_
      refine ldPC ce.bools rfl rfl rfl ?_
      refine mvD rfl ?_
      refine ixLn sl.bools false rfl rfl (by omega) rfl rfl ?_
      refine ldRC ce.bool rfl ?_
      rw [f.sil i]
      refine nt rfl ?_
      refine mvD rfl ?_
      refine OL.yes rfl ?_
      refine bd z.Rat pl.Rat (cs := [_, _, _]) rfl ?_
      refine OL.yes rfl ?_
      refine faP fd.Hidden_6 rfl rfl ?_
      refine OL.yes rfl ?_
      refine ldPC ce.Ratss rfl rfl rfl ?_
      refine OL.yes rfl ?_
      refine mvD rfl ?_
      refine OL.yes rfl ?_
      refine ixLn sl.Ratss [] rfl rfl (by omega) rfl rfl ?_
      refine OL.yes rfl ?_
      refine ldRC ce.Rats rfl ?_
      refine OL.yes rfl ?_
      refine clv rfl (.cons vle_q0 (.cons (VLe.refl _) .nil)) (ref33_one (x := 0) (l := h.emit.getD i []) (by rw [sz_zero]; decide) zM (by omega) (by omega) (by rw [Rat.zero_add]; exact g.sM i (by omega))) ?_
      refine OL.yes rfl ?_
      refine nt rfl ?_
      refine pkT rfl rfl ?_
      refine OL.nil ?_
      refine AW.cond rfl (fun hno => absurd hno (by decide)) (fun _ => ?_)
      refine AW.skip ?_
      refine AW.region (by rw [hE]; rfl) ?_
      refine mvD rfl ?_
      refine add_i64 rfl rfl (by omega) ?_
      refine asD rfl ?_
      refine OL.nil ?_
      exact AW.again (x := i) (i + 1) (by first | omega | (simp only []; omega)) ⟨by omega, Knows.app (.cons (VLe.refl _) .nil) (.cons (by first | exact VLe.refl _ | exact VLe.int (by omega) | exact VLe.mt | exact vle_q0 | exact VLe.osl | exact VLe.ptr) .nil), Owns.app (.cons rfl .nil) (.nil)⟩
    · first | (simp only [decide_eq_true_eq, decide_eq_false_iff_not, Bool.not_eq_true', Bool.not_eq_false', Bool.not_not, Bool.and_eq_true, Bool.and_eq_false_iff, Bool.or_eq_true, Bool.or_eq_false_iff] at h55) | skip
      refine AW.exit ?_
      refine AW.seq ?_
      refine AW.seq ?_
      refine AW.region (by rw [hE]; rfl) ?_
      refine ldPA ag.Hidden rfl rfl (vs := [_, _, _, _, _, _, _, _, _, _, _]) rfl (Nat.le_of_ble_eq_true rfl) ?_
      refine clv rfl (.cons (VLe.refl _) (.nil)) (ref33_circles g) ?_
      refine OL.nil ?_
      refine AW.cond rfl (fun hno => absurd hno (by decide)) (fun _ => ?_)
      refine AW.skip ?_
      refine AW.seq ?_
      refine AW.seq ?_
      refine AW.region (by rw [hE]; rfl) ?_
      refine asD rfl ?_
      refine OL.nil ?_
      refine AW.block ?_
      refine AW.whileK (α := Nat) [(1, _)] [(1, _)] (fun i => [(5, .d (dI i))]) (fun i => []) (fun i => i ≤ h.st) (fun i => h.st - i) 0 (.cons (by first | exact knD rfl | exact knA rfl | exact knP rfl | exact knO rfl | exact knM rfl | exact knE rfl | exact knR rfl | exact knF rfl | exact knT rfl | exact knJ) .nil) (.cons (by first | exact owB rfl | exact owR rfl | exact owL rfl | exact owT rfl) .nil) ⟨Nat.zero_le _, .cons (by first | exact VLe.refl _ | exact VLe.int (by omega) | exact VLe.mt | exact vle_q0 | exact VLe.osl | exact VLe.ptr) .nil, .nil⟩ ?_
      intro i h1
      refine AW.seq ?_
      refine AW.seq ?_
      refine AW.region (by rw [hE]; rfl) ?_
      refine mvD rfl ?_
      refine faP fd.Hidden_1 rfl rfl ?_
      refine ldPC ce.int rfl rfl rfl ?_
      refine c_lss rfl rfl rfl ?_
      refine OL.nil ?_
      refine AW.cond rfl (fun h79 => ?_) (fun h79 => ?_)
      · first | (simp only [decide_eq_true_eq, decide_eq_false_iff_not, Bool.not_eq_true', Bool.not_eq_false', Bool.not_not, Bool.and_eq_true, Bool.and_eq_false_iff, Bool.or_eq_true, Bool.or_eq_false_iff] at h79) | skip
        refine AW.skip ?_
        refine AW.seq ?_
        refine AW.block ?_
        refine AW.seq ?_
        refine AW.region (by rw [hE]; rfl) ?_
        refine asD rfl ?_
        refine OL.nil ?_
        refine AW.block ?_
        refine AW.whileK (α := Nat) [(1, _), (5, _)] [(1, _)] (fun j => [(6, .d (dI j))]) (fun j => []) (fun j => j ≤ i) (fun j => i - j) 0 (by repeat (first | exact Knows.nil | refine Knows.cons (by first | exact knD rfl | exact knA rfl | exact knP rfl | exact knO rfl | exact knM rfl | exact knE rfl | exact knR rfl | exact knF rfl | exact knT rfl | exact knJ) ?_)) (.cons (by first | exact owB rfl | exact owR rfl | exact owL rfl | exact owT rfl) .nil) ⟨Nat.zero_le _, .cons (by first | exact VLe.refl _ | exact VLe.int (by omega) | exact VLe.mt | exact vle_q0 | exact VLe.osl | exact VLe.ptr) .nil, .nil⟩ ?_
        intro j h2
        refine AW.seq ?_
        refine AW.seq ?_
        refine AW.region (by rw [hE]; rfl) ?_
        refine mvD rfl ?_
        refine mvD rfl ?_
        refine c_lss rfl rfl rfl ?_
        refine OL.nil ?_
        refine AW.cond rfl (fun h84 => ?_) (fun h84 => ?_)
        · first | (simp only [decide_eq_true_eq, decide_eq_false_iff_not, Bool.not_eq_true', Bool.not_eq_false', Bool.not_not, Bool.and_eq_true, Bool.and_eq_false_iff, Bool.or_eq_true, Bool.or_eq_false_iff] at h84) | skip
          refine AW.skip ?_
          refine AW.seq ?_
          refine AW.block ?_
          refine AW.seq ?_
          have t1 := f.trow i (by omega)
          have t2 := f.erow i (by omega)
          have t2j := f.erow j (by omega)
          have zM := f.zM i
          have zMj := f.zM j
          refine AW.region_draw 1 [0, 1, 2, 3, 4, 5, 6, 7, 8, 9, 10, 11, 12, 13, 14, 15, 16, 17, 18, 19, 20, 21, 22, 23, 24, 25, 26, 27, 28, 29, 30, 31, 32, 33, 34, 35, 36, 37, 38, 39, 40] order_free (by rw [hE]; rfl) (by kernel_rfl) (OI.of_OL (os := [_, _, _, _, _, _, _, _, _, _, _, _, _, _, _, _, _, _, _, _, _, _, _, _, _, _, _, _, _, _, _, _, _, _, _, _, _, _, _, _, _]) rfl ?_)
          refine faP fd.Hidden_7 rfl rfl ?_
          refine ldPC ce.bools rfl rfl rfl ?_
          refine mvD rfl ?_
          refine ixLn sl.bools false rfl rfl (by omega) rfl rfl ?_
          refine ldRC ce.bool rfl ?_
          rw [f.sil i]
          refine nt rfl ?_
          refine mvD rfl ?_
          refine OL.yes rfl ?_
          refine faP fd.Hidden_7 rfl rfl ?_
          refine OL.yes rfl ?_
          refine ldPC ce.bools rfl rfl rfl ?_
          refine OL.yes rfl ?_
          refine mvD rfl ?_
          refine OL.yes rfl ?_
          refine ixLn sl.bools false rfl rfl (by omega) rfl rfl ?_
          refine OL.yes rfl ?_
          refine ldRC ce.bool rfl ?_
          rw [f.sil j]
          refine OL.yes rfl ?_
          refine nt rfl ?_
          refine pkT rfl rfl ?_
          refine mvD rfl ?_
          refine OL.yes rfl ?_
          refine faP fd.Hidden_8 rfl rfl ?_
          refine OL.yes rfl ?_
          refine ldPC ce.ints rfl rfl rfl ?_
          refine OL.yes rfl ?_
          refine mvD rfl ?_
          refine OL.yes rfl ?_
          refine ixLn sl.ints 0 rfl rfl (by omega) rfl rfl ?_
          refine OL.yes rfl ?_
          refine ldRC ce.int rfl ?_
          refine OL.yes rfl ?_
          refine faP fd.Hidden_8 rfl rfl ?_
          refine OL.yes rfl ?_
          refine ldPC ce.ints rfl rfl rfl ?_
          refine OL.yes rfl ?_
          refine mvD rfl ?_
          refine OL.yes rfl ?_
          refine ixLn sl.ints 0 rfl rfl (by omega) rfl rfl ?_
          refine OL.yes rfl ?_
          refine ldRC ce.int rfl ?_
          refine OL.yes rfl ?_
          refine c_eql rfl rfl rfl ?_
          refine pkT rfl rfl ?_
          refine mvD rfl ?_
          refine OL.split 114 rfl (fun g41 => ?_) (fun g41 => ?_)
          · have g41 : h.ties.getD i 0 = h.ties.getD j 0 := of_decide_eq_true g41
            refine OL.yes rfl ?_
            refine faP fd.Hidden_6 rfl rfl ?_
            refine OL.yes rfl ?_
            refine ldPC ce.Ratss rfl rfl rfl ?_
            refine OL.yes rfl ?_
            refine mvD rfl ?_
            refine OL.yes rfl ?_
            refine ixLn sl.Ratss [] rfl rfl (by omega) rfl rfl ?_
            refine OL.yes rfl ?_
            refine ldRC ce.Rats rfl ?_
            refine OL.yes rfl ?_
            refine faP fd.Hidden_6 rfl rfl ?_
            refine OL.yes rfl ?_
            refine ldPC ce.Ratss rfl rfl rfl ?_
            refine OL.yes rfl ?_
            refine mvD rfl ?_
            refine OL.yes rfl ?_
            refine ixLn sl.Ratss [] rfl rfl (by omega) rfl rfl ?_
            refine OL.yes rfl ?_
            refine ldRC ce.Rats rfl ?_
            refine OL.yes rfl ?_
            refine clv rfl (.cons (VLe.refl _) (.cons (VLe.refl _) (.nil))) (ref33_SameRats zM zMj ⟨hb1, by omega, by omega⟩) ?_
            rw [decide_eq_true (g.tied i j (by omega) (by omega) g41)]
            refine OL.yes rfl ?_
            refine nt rfl ?_
            refine pkT rfl rfl ?_
            refine OL.nil ?_
            refine AW.cond rfl (fun hno => absurd hno (by decide)) (fun _ => ?_)
            refine AW.skip ?_
            refine AW.region (by rw [hE]; rfl) ?_
            refine mvD rfl ?_
            refine add_i64 rfl rfl (by omega) ?_
            refine asD rfl ?_
            refine OL.nil ?_
            exact AW.again (x := j) (j + 1) (by first | omega | (simp only []; omega)) ⟨by omega, Knows.app (.cons (VLe.refl _) (.cons (VLe.refl _) .nil)) (.cons (by first | exact VLe.refl _ | exact VLe.int (by omega) | exact VLe.mt | exact vle_q0 | exact VLe.osl | exact VLe.ptr) .nil), Owns.app (.cons rfl .nil) (.nil)⟩
          · have _g41 := g41
            refine OL.no rfl (by decide) ?_
            refine OL.no rfl (by decide) ?_
            refine OL.no rfl (by decide) ?_
            refine OL.no rfl (by decide) ?_
            refine OL.no rfl (by decide) ?_
            refine OL.no rfl (by decide) ?_
            refine OL.no rfl (by decide) ?_
            refine OL.no rfl (by decide) ?_
            refine OL.no rfl (by decide) ?_
            refine OL.no rfl (by decide) ?_
            refine OL.no rfl (by decide) ?_
            refine OL.no rfl (by decide) ?_
            refine pkF rfl rfl ?_
            refine OL.nil ?_
            refine AW.cond rfl (fun hno => absurd hno (by decide)) (fun _ => ?_)
            refine AW.skip ?_
            refine AW.region (by rw [hE]; rfl) ?_
            refine mvD rfl ?_
            refine add_i64 rfl rfl (by omega) ?_
            refine asD rfl ?_
            refine OL.nil ?_
            exact AW.again (x := j) (j + 1) (by first | omega | (simp only []; omega)) ⟨by omega, Knows.app (.cons (VLe.refl _) (.cons (VLe.refl _) .nil)) (.cons (by first | exact VLe.refl _ | exact VLe.int (by omega) | exact VLe.mt | exact vle_q0 | exact VLe.osl | exact VLe.ptr) .nil), Owns.app (.cons rfl .nil) (.nil)⟩
        · first | (simp only [decide_eq_true_eq, decide_eq_false_iff_not, Bool.not_eq_true', Bool.not_eq_false', Bool.not_not, Bool.and_eq_true, Bool.and_eq_false_iff, Bool.or_eq_true, Bool.or_eq_false_iff] at h84) | skip
          refine AW.exit ?_
          refine AW.region (by rw [hE]; rfl) ?_
          refine mvD rfl ?_
          refine add_i64 rfl rfl (by omega) ?_
          refine asD rfl ?_
          refine OL.nil ?_
          exact AW.again (x := i) (i + 1) (by first | omega | (simp only []; omega)) ⟨by omega, Knows.app (.cons (VLe.refl _) .nil) (.cons (by first | exact VLe.refl _ | exact VLe.int (by omega) | exact VLe.mt | exact vle_q0 | exact VLe.osl | exact VLe.ptr) .nil), Owns.app (.cons rfl .nil) (.nil)⟩
      · first | (simp only [decide_eq_true_eq, decide_eq_false_iff_not, Bool.not_eq_true', Bool.not_eq_false', Bool.not_not, Bool.and_eq_true, Bool.and_eq_false_iff, Bool.or_eq_true, Bool.or_eq_false_iff] at h79) | skip
        refine AW.exit ?_
        refine AW.seq ?_
        refine AW.region (by rw [hE]; rfl) ?_
        refine asD rfl ?_
        refine OL.nil ?_
        exact AW.ret (RetQ.r ⟨_, .tmp rfl .nil, .le (by first | exact VLe.refl _ | exact VLe.mt | exact vle_q0 | exact VLe.int (by omega) | exact VLe.bool (by simp_all))⟩)
theorem ref33_Plain {h : HM} {B : Nat} (g : h.Good B) : FSpec P F.ref33_Plain [vHM h] (.d (dB true)) := by
  have f := g.form
  have e1 := f.ini
  have e2 := f.trans
  have e3 := f.stop
  have e4 := f.emit
  have e5 := f.ties
  have e6 := f.sill
  have s0 := f.sym0
  have s1 := f.sym1
  have n0 := f.st0
  have n1 := f.st1
  have hb1 := f.b1
  have bB := f.bB
  refine FSpec.intro fn.ref33_Plain (by rfl) (by rfl) (Nat.le_of_ble_eq_true (by rfl)) fun E hE => ?_
  refine AW.seq ?_
  refine AW.region (by rw [hE]; rfl) ?_
  refine bxA rfl rfl fun b1 => ?_
  refine asD rfl ?_
  refine OL.nil ?_
  refine AW.seq ?_
  refine AW.seq ?_
  refine AW.region (by rw [hE]; rfl) ?_
  refine ldPA ag.Hidden rfl rfl (vs := [_, _, _, _, _, _, _, _, _, _, _]) rfl (Nat.le_of_ble_eq_true rfl) ?_
  refine clv rfl (.cons (VLe.refl _) (.nil)) (ref33_Valid g) ?_
  refine c_neq rfl rfl (c := false) (by first | exact decide_eq_true (by omega) | exact decide_eq_false (by omega) | exact cne_f (by omega) | exact cne_t (by omega) | rfl) ?_
  refine OL.nil ?_
  refine AW.cond rfl (fun hno => absurd hno (by decide)) (fun _ => ?_)
  refine AW.skip ?_
  refine AW.seq ?_
  refine AW.seq ?_
  refine AW.region (by rw [hE]; rfl) ?_
  refine asD rfl ?_
  refine OL.nil ?_
  refine AW.block ?_
  refine AW.whileK (α := Nat) [(1, _)] [(1, _)] (fun i => [(3, .d (dI i))]) (fun i => []) (fun i => i ≤ h.st) (fun i => h.st - i) 0 (.cons (by first | exact knD rfl | exact knA rfl | exact knP rfl | exact knO rfl | exact knM rfl | exact knE rfl | exact knR rfl | exact knF rfl | exact knT rfl | exact knJ) .nil) (.cons (by first | exact owB rfl | exact owR rfl | exact owL rfl | exact owT rfl) .nil) ⟨Nat.zero_le _, .cons (by first | exact VLe.refl _ | exact VLe.int (by omega) | exact VLe.mt | exact vle_q0 | exact VLe.osl | exact VLe.ptr) .nil, .nil⟩ ?_
  intro i h1
  refine AW.seq ?_
  refine AW.seq ?_
  refine AW.region (by rw [hE]; rfl) ?_
  refine mvD rfl ?_
  refine faP fd.Hidden_1 rfl rfl ?_
  refine ldPC ce.int rfl rfl rfl ?_
  refine c_lss rfl rfl rfl ?_
  refine OL.nil ?_
  refine AW.cond rfl (fun h10 => ?_) (fun h10 => ?_)
  · first | (simp only [decide_eq_true_eq, decide_eq_false_iff_not, Bool.not_eq_true', Bool.not_eq_false', Bool.not_not, Bool.and_eq_true, Bool.and_eq_false_iff, Bool.or_eq_true, Bool.or_eq_false_iff] at h10) | skip
    refine AW.skip ?_
    refine AW.seq ?_
    refine AW.block ?_
    refine AW.seq ?_
    refine AW.region (by rw [hE]; rfl) ?_
    refine faP fd.Hidden_7 rfl rfl ?_
    refine ldPC ce.bools rfl rfl rfl ?_
    refine mvD rfl ?_
    refine ixLn sl.bools false rfl rfl (by omega) rfl rfl ?_
    refine ldRC ce.bool rfl ?_
    rw [f.sil i]
    refine OL.nil ?_
    refine AW.cond rfl (fun hno => absurd hno (by decide)) (fun _ => ?_)
    refine AW.skip ?_
    refine AW.region (by rw [hE]; rfl) ?_
    refine mvD rfl ?_
    refine add_i64 rfl rfl (by omega) ?_
    refine asD rfl ?_
    refine OL.nil ?_
    exact AW.again (x := i) (i + 1) (by first | omega | (simp only []; omega)) ⟨by omega, Knows.app (.cons (VLe.refl _) .nil) (.cons (by first | exact VLe.refl _ | exact VLe.int (by omega) | exact VLe.mt | exact vle_q0 | exact VLe.osl | exact VLe.ptr) .nil), Owns.app (.cons rfl .nil) (.nil)⟩
  · first | (simp only [decide_eq_true_eq, decide_eq_false_iff_not, Bool.not_eq_true', Bool.not_eq_false', Bool.not_not, Bool.and_eq_true, Bool.and_eq_false_iff, Bool.or_eq_true, Bool.or_eq_false_iff] at h10) | skip
    refine AW.exit ?_
    refine AW.seq ?_
    refine AW.region (by rw [hE]; rfl) ?_
    refine asD rfl ?_
    refine OL.nil ?_
    exact AW.ret (RetQ.r ⟨_, .tmp rfl .nil, .le (by first | exact VLe.refl _ | exact VLe.mt | exact vle_q0 | exact VLe.int (by omega) | exact VLe.bool (by simp_all))⟩)
theorem ref33_Check {h : HM} {B : Nat} (g : h.Good B) : FSpec P F.ref33_Check [vHM h] (.d (dI 0)) := by
  refine FSpec.intro fn.ref33_Check (by rfl) (by rfl) (Nat.le_of_ble_eq_true (by rfl)) fun E hE => ?_
  refine AW.seq ?_
  refine AW.region (by rw [hE]; rfl) ?_
  refine bxA rfl rfl fun b1 => ?_
  refine asD rfl ?_
  refine OL.nil ?_
  refine AW.seq ?_
  refine AW.seq ?_
  refine AW.region (by rw [hE]; rfl) ?_
  refine ldPA ag.Hidden rfl rfl (vs := [_, _, _, _, _, _, _, _, _, _, _]) rfl (Nat.le_of_ble_eq_true rfl) ?_
  refine clv rfl (.cons (VLe.refl _) (.nil)) (ref33_Valid g) ?_
  refine asD rfl ?_
  refine OL.nil ?_
  refine AW.seq ?_
  refine AW.region (by rw [hE]; rfl) ?_
  refine mvD rfl ?_
  refine c_neq rfl rfl (c := false) (by first | exact decide_eq_true (by omega) | exact decide_eq_false (by omega) | exact cne_f (by omega) | exact cne_t (by omega) | rfl) ?_
  refine OL.nil ?_
  refine AW.cond rfl (fun hno => absurd hno (by decide)) (fun _ => ?_)
  refine AW.skip ?_
  refine AW.seq ?_
  refine AW.seq ?_
  refine AW.region (by rw [hE]; rfl) ?_
  refine ldPA ag.Hidden rfl rfl (vs := [_, _, _, _, _, _, _, _, _, _, _]) rfl (Nat.le_of_ble_eq_true rfl) ?_
  refine clv rfl (.cons (VLe.refl _) (.nil)) (ref33_Plain g) ?_
  refine nt rfl ?_
  refine OL.nil ?_
  refine AW.cond rfl (fun hno => absurd hno (by decide)) (fun _ => ?_)
  refine AW.skip ?_
  refine AW.seq ?_
  refine AW.region (by rw [hE]; rfl) ?_
  refine asD rfl ?_
  refine OL.nil ?_
  exact AW.ret (RetQ.r ⟨_, .tmp rfl .nil, .le (by first | exact VLe.refl _ | exact VLe.mt | exact vle_q0 | exact VLe.int (by omega) | exact VLe.bool (by simp_all))⟩)
end Go.Proofs.YtcebciggodhmcaaGreat

/-
  Walks for the law CheckpointCuts: columns (printed by mk2.py).
-/
import Derived.Test.YtcebciggodhmcaaGreatKCk36
import Derived.Test.YtcebciggodhmcaaGreatKOnC
import Derived.Test.YtcebciggodhmcaaGreatKChk
import Derived.Test.YtcebciggodhmcaaGreatKMod37e
set_option linter.unusedVariables false
set_option linter.unusedSimpArgs false
namespace Go.Proofs.YtcebciggodhmcaaGreat
open Go Go.AL
theorem dIs_len {l : List (List Rat)} : ∀ y, y ∈ l.map dQs → y.cells.length = 1 := fun y hy => by
  obtain ⟨x, _, rfl⟩ := List.mem_map.1 hy
  rfl
theorem ref05_Alphabet {n : Nat} (hs : 1 ≤ n ∧ n ≤ 32) : FSpec P F.ref05_Alphabet [.d (dI n)] (.d (dB true)) := by
  refine FSpec.intro fn.ref05_Alphabet (by rfl) (by rfl) (Nat.le_of_ble_eq_true (by rfl)) fun E hE => ?_
  refine AW.seq ?_
  refine AW.region (by rw [hE]; rfl) ?_
  refine asD rfl ?_
  refine OL.nil ?_
  refine AW.seq ?_
  refine AW.region (by rw [hE]; rfl) ?_
  refine mvD rfl ?_
  refine c_geq rfl rfl (c := true) (by first | exact decide_eq_true (by omega) | exact decide_eq_false (by omega) | exact cne_f (by omega) | exact cne_t (by omega) | rfl) ?_
  refine mvD rfl ?_
  refine OL.yes rfl ?_
  refine mvD rfl ?_
  refine OL.yes rfl ?_
  refine c_leq rfl rfl (c := true) (by first | exact decide_eq_true (by omega) | exact decide_eq_false (by omega) | exact cne_f (by omega) | exact cne_t (by omega) | rfl) ?_
  refine pkT rfl rfl ?_
  refine asD rfl ?_
  refine OL.nil ?_
  exact AW.ret (RetQ.r ⟨_, .tmp rfl .nil, .le (by first | exact VLe.refl _ | exact VLe.mt | exact vle_q0 | exact VLe.int (by omega) | exact VLe.bool (by simp_all))⟩)
theorem ref05_Valid {h : HM} {w : List Int} (k : WordOK h w) (hs : 1 ≤ h.sym ∧ h.sym ≤ 32) : FSpec P F.ref05_Valid [.d (ints w), .d (dI h.sym)] (.d (dB true)) := by
  have k1 := k.1
  refine FSpec.intro fn.ref05_Valid (by rfl) (by rfl) (Nat.le_of_ble_eq_true (by rfl)) fun E hE => ?_
  refine AW.seq ?_
  refine AW.region (by rw [hE]; rfl) ?_
  refine asD rfl ?_
  refine OL.nil ?_
  refine AW.seq ?_
  refine AW.seq ?_
  refine AW.region (by rw [hE]; rfl) ?_
  refine mvD rfl ?_
  refine clv rfl (.cons (VLe.refl _) (.nil)) (ref05_Alphabet hs) ?_
  refine nt rfl ?_
  refine mvD rfl ?_
  refine OL.yes rfl ?_
  refine mvD rfl ?_
  refine OL.yes rfl ?_
  refine lnL sl.ints rfl rfl ?_
  refine OL.yes rfl ?_
  refine c_gtr rfl rfl (c := false) (by first | exact decide_eq_true (by omega) | exact decide_eq_false (by omega) | exact cne_f (by omega) | exact cne_t (by omega) | rfl) ?_
  refine pkF rfl rfl ?_
  refine OL.nil ?_
  refine AW.cond rfl (fun hno => absurd hno (by decide)) (fun _ => ?_)
  refine AW.skip ?_
  refine AW.seq ?_
  refine AW.seq ?_
  refine AW.region (by rw [hE]; rfl) ?_
  refine asD rfl ?_
  refine OL.nil ?_
  refine AW.block ?_
  refine AW.whileK (α := Nat) [(0, _), (1, _)] [] (fun i => [(5, .d (dI i))]) (fun i => []) (fun i => i ≤ w.length) (fun i => w.length - i) 0 (by repeat (first | exact Knows.nil | refine Knows.cons (by first | exact knD rfl | exact knA rfl | exact knP rfl | exact knO rfl | exact knM rfl | exact knE rfl | exact knR rfl | exact knF rfl | exact knT rfl | exact knJ) ?_)) .nil ⟨Nat.zero_le _, .cons (by first | exact VLe.refl _ | exact VLe.int (by omega) | exact VLe.mt | exact vle_q0 | exact VLe.osl | exact VLe.ptr) .nil, .nil⟩ ?_
  intro i h1
  refine AW.seq ?_
  refine AW.seq ?_
  refine AW.region (by rw [hE]; rfl) ?_
  refine mvD rfl ?_
  refine mvD rfl ?_
  refine lnL sl.ints rfl rfl ?_
  refine c_lss rfl rfl rfl ?_
  refine OL.nil ?_
  refine AW.cond rfl (fun h17 => ?_) (fun h17 => ?_)
  · first | (simp only [decide_eq_true_eq, decide_eq_false_iff_not, Bool.not_eq_true', Bool.not_eq_false', Bool.not_not, Bool.and_eq_true, Bool.and_eq_false_iff, Bool.or_eq_true, Bool.or_eq_false_iff] at h17) | skip
    refine AW.skip ?_
    refine AW.seq ?_
    refine AW.block ?_
    refine AW.seq ?_
    have kg := k.get (t := i) (by omega)
    refine AW.region (by rw [hE]; rfl) ?_
    refine mvD rfl ?_
    refine mvD rfl ?_
    refine ixLn sl.ints 0 rfl rfl (by omega) rfl rfl ?_
    refine ldRC ce.int rfl ?_
    refine c_lss rfl rfl (c := false) (by first | exact decide_eq_true (by omega) | exact decide_eq_false (by omega) | exact cne_f (by omega) | exact cne_t (by omega) | rfl) ?_
    refine mvD rfl ?_
    refine OL.yes rfl ?_
    refine mvD rfl ?_
    refine OL.yes rfl ?_
    refine mvD rfl ?_
    refine OL.yes rfl ?_
    refine ixLn sl.ints 0 rfl rfl (by omega) rfl rfl ?_
    refine OL.yes rfl ?_
    refine ldRC ce.int rfl ?_
    refine OL.yes rfl ?_
    refine mvD rfl ?_
    refine OL.yes rfl ?_
    refine c_gtr rfl rfl (c := false) (by first | exact decide_eq_true (by omega) | exact decide_eq_false (by omega) | exact cne_f (by omega) | exact cne_t (by omega) | rfl) ?_
    refine pkF rfl rfl ?_
    refine OL.nil ?_
    refine AW.cond rfl (fun hno => absurd hno (by decide)) (fun _ => ?_)
    refine AW.skip ?_
    refine AW.region (by rw [hE]; rfl) ?_
    refine mvD rfl ?_
    refine add_i64 rfl rfl (by omega) ?_
    refine asD rfl ?_
    refine OL.nil ?_
    exact AW.again (x := i) (i + 1) (by first | omega | (simp only []; omega)) ⟨by omega, Knows.app (.cons (VLe.refl _) (.cons (VLe.refl _) .nil)) (.cons (by first | exact VLe.refl _ | exact VLe.int (by omega) | exact VLe.mt | exact vle_q0 | exact VLe.osl | exact VLe.ptr) .nil), .nil⟩
  · first | (simp only [decide_eq_true_eq, decide_eq_false_iff_not, Bool.not_eq_true', Bool.not_eq_false', Bool.not_not, Bool.and_eq_true, Bool.and_eq_false_iff, Bool.or_eq_true, Bool.or_eq_false_iff] at h17) | skip
    refine AW.exit ?_
    refine AW.seq ?_
    refine AW.region (by rw [hE]; rfl) ?_
    refine asD rfl ?_
    refine OL.nil ?_
    exact AW.ret (RetQ.r ⟨_, .tmp rfl .nil, .le (by first | exact VLe.refl _ | exact VLe.mt | exact vle_q0 | exact VLe.int (by omega) | exact VLe.bool (by simp_all))⟩)
theorem ref34_Check {h : HM} {B : Nat} {w : List Int} (g : h.Good B) (k : WordOK h w) : FSpec P F.ref34_Check [vHM h, .d (ints w)] (.d (dI 0)) := by
  have s0 := g.form.sym0
  have s1 := g.form.sym1
  refine FSpec.intro fn.ref34_Check (by rfl) (by rfl) (Nat.le_of_ble_eq_true (by rfl)) fun E hE => ?_
  refine AW.seq ?_
  refine AW.region (by rw [hE]; rfl) ?_
  refine bxA rfl rfl fun b2 => ?_
  refine asD rfl ?_
  refine OL.nil ?_
  refine AW.seq ?_
  refine AW.seq ?_
  refine AW.region (by rw [hE]; rfl) ?_
  refine ldPA ag.Hidden rfl rfl (vs := [_, _, _, _, _, _, _, _, _, _, _]) rfl (Nat.le_of_ble_eq_true rfl) ?_
  refine clv rfl (.cons (VLe.refl _) (.nil)) (ref33_Check g) ?_
  refine asD rfl ?_
  refine OL.nil ?_
  refine AW.seq ?_
  refine AW.region (by rw [hE]; rfl) ?_
  refine mvD rfl ?_
  refine c_neq rfl rfl (c := false) (by first | exact decide_eq_true (by omega) | exact decide_eq_false (by omega) | exact cne_f (by omega) | exact cne_t (by omega) | rfl) ?_
  refine OL.nil ?_
  refine AW.cond rfl (fun hno => absurd hno (by decide)) (fun _ => ?_)
  refine AW.skip ?_
  refine AW.seq ?_
  refine AW.seq ?_
  refine AW.region (by rw [hE]; rfl) ?_
  refine mvD rfl ?_
  refine faP fd.Hidden_0 rfl rfl ?_
  refine ldPC ce.int rfl rfl rfl ?_
  refine clv rfl (.cons (VLe.refl _) (.cons (VLe.refl _) (.nil))) (ref05_Valid k ⟨s0, s1⟩) ?_
  refine nt rfl ?_
  refine OL.nil ?_
  refine AW.cond rfl (fun hno => absurd hno (by decide)) (fun _ => ?_)
  refine AW.skip ?_
  refine AW.seq ?_
  refine AW.region (by rw [hE]; rfl) ?_
  refine asD rfl ?_
  refine OL.nil ?_
  exact AW.ret (RetQ.r ⟨_, .tmp rfl .nil, .le (by first | exact VLe.refl _ | exact VLe.mt | exact vle_q0 | exact VLe.int (by omega) | exact VLe.bool (by simp_all))⟩)
theorem checkpoint_share {q : Rat} (hs : Share q) (hz : sz q ≤ 68719476736) : FSpec P F.checkpoint_share [vQ q] (.d (dB true)) := by
  have h1K := z1K
  refine FSpec.intro fn.checkpoint_share (by rfl) (by rfl) (Nat.le_of_ble_eq_true (by rfl)) fun E hE => ?_
  refine AW.seq ?_
  refine AW.region (by rw [hE]; rfl) ?_
  refine bxA rfl rfl fun b1 => ?_
  refine asD rfl ?_
  refine OL.nil ?_
  refine AW.seq ?_
  refine AW.region (by rw [hE]; rfl) ?_
  refine clv rfl (.cons (VLe.refl _) (.cons (VLe.refl _) .nil)) (rational_MakeQ (n := 1) (d := 1) (by decide) (by decide) (by decide)) ?_
  rw [q11]
  refine mvT rfl ?_
  refine ex rfl rfl ?_
  refine ex rfl rfl ?_
  refine al z.Rat rfl fun b3 => ?_
  refine sto sz.Rat rfl rfl rfl rfl rfl (Nat.le_of_ble_eq_true rfl) (cells2 := [_, _, _]) rfl ?_
  refine asD rfl ?_
  refine OL.nil ?_
  refine AW.seq ?_
  refine AW.region (by rw [hE]; rfl) ?_
  refine ldPA ag.Rat rfl rfl (vs := [_, _, _]) rfl (Nat.le_of_ble_eq_true rfl) ?_
  refine clv rfl (.cons (by first | exact VLe.refl _ | exact VLe.mt | exact vle_q0 | exact VLe.ptr) .nil) (rational_ValidQ (by first | assumption | omega)) ?_
  refine mvD rfl ?_
  refine OL.yes rfl ?_
  refine ldPA ag.Rat rfl rfl (vs := [_, _, _]) rfl (Nat.le_of_ble_eq_true rfl) ?_
  refine OL.yes rfl ?_
  refine clv rfl (.cons (by first | exact VLe.refl _ | exact VLe.mt | exact vle_q0 | exact VLe.ptr) .nil) (rational_SignQ (by first | assumption | omega)) ?_
  refine OL.yes rfl ?_
  refine c_geq rfl rfl (c := true) (decide_eq_true (sgnQ_nonneg.2 hs.1)) ?_
  refine pkT rfl rfl ?_
  refine mvD rfl ?_
  refine OL.yes rfl ?_
  refine ldPA ag.Rat rfl rfl (vs := [_, _, _]) rfl (Nat.le_of_ble_eq_true rfl) ?_
  refine OL.yes rfl ?_
  refine ldPA ag.Rat rfl rfl (vs := [_, _, _]) rfl (Nat.le_of_ble_eq_true rfl) ?_
  refine OL.yes rfl ?_
  refine clv rfl (.cons (by first | exact VLe.refl _ | exact VLe.mt | exact vle_q0 | exact VLe.ptr) (.cons (by first | exact VLe.refl _ | exact VLe.mt | exact vle_q0 | exact VLe.ptr) .nil)) (rational_CompareQ (by first | assumption | omega) (by first | assumption | omega)) ?_
  refine OL.yes rfl ?_
  refine c_leq rfl rfl (c := true) (decide_eq_true (cmpQ_le.2 hs.2)) ?_
  refine pkT rfl rfl ?_
  refine asD rfl ?_
  refine OL.nil ?_
  exact AW.ret (RetQ.r ⟨_, .tmp rfl .nil, .le (by first | exact VLe.refl _ | exact VLe.mt | exact vle_q0 | exact VLe.int (by omega) | exact VLe.bool (by simp_all))⟩)
set_option maxRecDepth 4000 in
set_option maxHeartbeats 1600000 in
theorem checkpoint_after {h : HM} {B C x : Nat} {c : List Rat} (f : h.Form B) (hx : x < h.sym) (hl : c.length = 0 ∨ c.length = h.st) (hz : Small C c) (hC : 1 ≤ C ∧ C ≤ 16777216) : FSpec P F.checkpoint_after [vHM h, .d (dI (x + 1 : Nat)), .d (dQs c)] (.d (dQs (colX h x c))) := by
  have e1 := f.ini
  have e2 := f.trans
  have e3 := f.stop
  have e4 := f.emit
  have n0 := f.st0
  have n1 := f.st1
  have s1 := f.sym1
  have zn := fun j n => colN_sz f hz hC.1 j n
  refine FSpec.intro fn.checkpoint_after (by rfl) (by rfl) (Nat.le_of_ble_eq_true (by rfl)) fun E hE => ?_
  refine AW.seq ?_
  refine AW.region (by rw [hE]; rfl) ?_
  refine bxA rfl rfl fun b3 => ?_
  refine asM rfl ?_
  refine OL.nil ?_
  refine AW.seq ?_
  refine AW.region (by rw [hE]; rfl) ?_
  refine faP fd.Hidden_1 rfl rfl ?_
  refine ldPC ce.int rfl rfl rfl ?_
  refine mkL dQ 0 sl.Rats z.Rat vcs_q0 rfl rfl (Nat.le_refl _) (by omega) (by omega) rfl fun b => ?_
  refine asO rfl ?_
  refine OL.nil ?_
  refine AW.seq ?_
  refine AW.seq ?_
  refine AW.region (by rw [hE]; rfl) ?_
  refine mvO rfl ?_
  refine lnO sl.Rats rfl rfl ?_
  refine mvD rfl ?_
  refine OL.nil ?_
  refine AW.block ?_
  refine AW.whileK (α := Nat) [(1, _), (2, _), (3, _), (6, _), (7, _), (17, _)] [(3, _)] (fun j => [(18, .d (dI j))]) (fun j => [(15, .row b h.st T.Rat 3 ((fillF 0 (fun j => colN h c j c.length * emQ h j x) h.st j).map dQ))]) (fun j => j ≤ h.st) (fun j => h.st - j) 0 (by repeat (first | exact Knows.nil | refine Knows.cons (by first | exact knD rfl | exact knA rfl | exact knP rfl | exact knO rfl | exact knM rfl | exact knE rfl | exact knR rfl | exact knF rfl | exact knT rfl | exact knJ) ?_)) (.cons (by first | exact owB rfl | exact owR rfl | exact owL rfl | exact owT rfl) .nil) ⟨Nat.zero_le _, .cons (by first | exact VLe.refl _ | exact VLe.int (by omega) | exact VLe.mt | exact vle_q0 | exact VLe.osl | exact VLe.ptr) .nil, .cons (by rw [fillF_zero]; rfl) .nil⟩ ?_
  intro j h1
  have h1 : j ≤ h.st := h1
  have hfl := fillF_len 0 (fun j => colN h c j c.length * emQ h j x) h.st j
  refine AW.seq ?_
  refine AW.region (by rw [hE]; rfl) ?_
  refine c_lss rfl rfl rfl ?_
  refine OL.nil ?_
  refine AW.seq ?_
  refine AW.cond rfl (fun h19 => ?_) (fun h19 => ?_)
  · first | (simp only [decide_eq_true_eq, decide_eq_false_iff_not, Bool.not_eq_true', Bool.not_eq_false', Bool.not_not, Bool.and_eq_true, Bool.and_eq_false_iff, Bool.or_eq_true, Bool.or_eq_false_iff] at h19) | skip
    refine AW.skip ?_
    refine AW.seq ?_
    refine AW.block ?_
    refine AW.seq ?_
    have hj : j < h.st := by omega
    refine AW.region (by rw [hE]; rfl) ?_
    refine mvD rfl ?_
    refine asD rfl ?_
    refine OL.nil ?_
    refine AW.seq ?_
    refine AW.region (by rw [hE]; rfl) ?_
    refine al z.Rat rfl fun b9 => ?_
    refine OL.nil ?_
    refine AW.midK (α := Nat) [(1, _), (2, _), (3, _), (6, _), (7, _), (17, _), (18, _)] [(3, _), (15, _)] (fun b9 => [(8, .d (dI j)), (9, .ptr 9 b9 0)]) (fun b9 => [(9, .box b9 T.Rat (cellsQ (colN h c j 0)))]) (fun b9 => True) (by repeat (first | exact Knows.nil | refine Knows.cons (by first | exact knD rfl | exact knA rfl | exact knP rfl | exact knO rfl | exact knM rfl | exact knE rfl | exact knR rfl | exact knF rfl | exact knT rfl | exact knJ) ?_)) (by repeat (first | exact Owns.nil | refine Owns.cons (by first | exact owB rfl | exact owR rfl | exact owL rfl | exact owT rfl) ?_)) ?_ ?_
    · refine AW.seq ?_
      refine AW.region (by rw [hE]; rfl) ?_
      refine mvD rfl ?_
      refine lnL sl.Rats rfl rfl ?_
      refine c_eql rfl rfl rfl ?_
      refine OL.nil ?_
      refine AW.cond rfl (fun h0 => ?_) (fun h0 => ?_)
      · have h0 : c.length = 0 := by have := of_decide_eq_true h0; omega
        refine AW.region (by rw [hE]; rfl) ?_
        refine faP fd.Hidden_3 rfl rfl ?_
        refine ldPC ce.Rats rfl rfl rfl ?_
        refine mvD rfl ?_
        refine ixLn sl.Rats 0 rfl rfl (by omega) rfl rfl ?_
        refine ldRA ag.Rat rfl (vs := [_, _, _]) rfl (Nat.le_of_ble_eq_true rfl) ?_
        refine sto sz.Rat rfl rfl rfl rfl rfl (Nat.le_of_ble_eq_true rfl) (cells2 := [_, _, _]) rfl ?_
        refine OL.nil ?_
        exact AW.reach b9 ⟨trivial, Knows.app (.cons (VLe.refl _) (.cons (VLe.refl _) (.cons (VLe.refl _) (.cons (VLe.refl _) (.cons (VLe.refl _) (.cons (VLe.refl _) (.cons (VLe.refl _) .nil))))))) (.cons (by first | exact VLe.refl _ | exact VLe.int (by omega) | exact VLe.mt | exact vle_q0 | exact VLe.osl | exact VLe.ptr) (.cons (by first | exact VLe.refl _ | exact VLe.int (by omega) | exact VLe.mt | exact vle_q0 | exact VLe.osl | exact VLe.ptr) .nil)), Owns.app (.cons rfl (.cons rfl .nil)) (.cons (by rw [colN, if_pos h0]; rfl) .nil)⟩
      · have h0 : c.length ≠ 0 := fun e => of_decide_eq_false h0 (by omega)
        refine AW.boxW 9 (cellsQ 0) rfl vles_q ?_
        refine AW.skip ?_
        exact AW.reach b9 ⟨trivial, Knows.app (.cons (VLe.refl _) (.cons (VLe.refl _) (.cons (VLe.refl _) (.cons (VLe.refl _) (.cons (VLe.refl _) (.cons (VLe.refl _) (.cons (VLe.refl _) .nil))))))) (.cons (by first | exact VLe.refl _ | exact VLe.int (by omega) | exact VLe.mt | exact vle_q0 | exact VLe.osl | exact VLe.ptr) (.cons (by first | exact VLe.refl _ | exact VLe.int (by omega) | exact VLe.mt | exact vle_q0 | exact VLe.osl | exact VLe.ptr) .nil)), Owns.app (.cons rfl (.cons rfl .nil)) (.cons (by rw [colN, if_neg h0]; rfl) .nil)⟩
    rintro b9 hφ
    have hj : j < h.st := by omega
    refine AW.seq ?_
    refine AW.seq ?_
    refine AW.region (by rw [hE]; rfl) ?_
    refine mvD rfl ?_
    refine lnL sl.Rats rfl rfl ?_
    refine mvD rfl ?_
    refine OL.nil ?_
    refine AW.block ?_
    refine AW.whileK (α := Nat) [(1, _), (2, _), (3, _), (6, _), (7, _), (8, _), (9, _), (17, _), (18, _), (29, _), (30, _)] [(3, _), (15, _)] (fun i => [(31, .d (dI i))]) (fun i => [(9, .box b9 T.Rat (cellsQ (colN h c j i)))]) (fun i => i ≤ c.length) (fun i => c.length - i) 0 (by repeat (first | exact Knows.nil | refine Knows.cons (by first | exact knD rfl | exact knA rfl | exact knP rfl | exact knO rfl | exact knM rfl | exact knE rfl | exact knR rfl | exact knF rfl | exact knT rfl | exact knJ) ?_)) (by repeat (first | exact Owns.nil | refine Owns.cons (by first | exact owB rfl | exact owR rfl | exact owL rfl | exact owT rfl) ?_)) ⟨Nat.zero_le _, .cons (by first | exact VLe.refl _ | exact VLe.int (by omega) | exact VLe.mt | exact vle_q0 | exact VLe.osl | exact VLe.ptr) .nil, .cons rfl .nil⟩ ?_
    intro i h3
    have h3 : i ≤ c.length := h3
    have zp := zn j i
    have zs := hz.get hC.1 i
    have zt := tr_sz f i j
    have zc : sz (c.getD i 0 * trQ h i j) ≤ sz (c.getD i 0) + sz (trQ h i j) := sz_mul _ _
    refine AW.seq ?_
    refine AW.region (by rw [hE]; rfl) ?_
    refine c_lss rfl rfl rfl ?_
    refine OL.nil ?_
    refine AW.seq ?_
    refine AW.cond rfl (fun h32 => ?_) (fun h32 => ?_)
    · first | (simp only [decide_eq_true_eq, decide_eq_false_iff_not, Bool.not_eq_true', Bool.not_eq_false', Bool.not_not, Bool.and_eq_true, Bool.and_eq_false_iff, Bool.or_eq_true, Bool.or_eq_false_iff] at h32) | skip
      refine AW.skip ?_
      refine AW.midK (α := Unit) [(1, _), (2, _), (3, _), (6, _), (7, _), (8, _), (9, _), (17, _), (18, _), (29, _), (30, _)] [(3, _), (15, _)] (fun _u => [(31, .d (dI i))]) (fun _u => [(9, .box b9 T.Rat (cellsQ (colN h c j (i + 1))))]) (fun _u => True) (by repeat (first | exact Knows.nil | refine Knows.cons (by first | exact knD rfl | exact knA rfl | exact knP rfl | exact knO rfl | exact knM rfl | exact knE rfl | exact knR rfl | exact knF rfl | exact knT rfl | exact knJ) ?_)) (by repeat (first | exact Owns.nil | refine Owns.cons (by first | exact owB rfl | exact owR rfl | exact owL rfl | exact owT rfl) ?_)) ?_ ?_
      · refine AW.block ?_
        refine AW.seq ?_
        have hi : i < h.st := by omega
        have ti := f.trow i hi
        refine AW.region (by rw [hE]; rfl) ?_
        refine mvD rfl ?_
        refine ixLn sl.Rats 0 rfl rfl (by omega) rfl rfl ?_
        refine ldRA ag.Rat rfl (vs := [_, _, _]) rfl (Nat.le_of_ble_eq_true rfl) ?_
        refine al z.Rat rfl fun b11 => ?_
        refine asD rfl ?_
        refine sto sz.Rat rfl rfl rfl rfl rfl (Nat.le_of_ble_eq_true rfl) (cells2 := [_, _, _]) rfl ?_
        refine OL.nil ?_
        refine AW.seq ?_
        refine AW.region_draw 1 [0, 1, 2, 3, 4, 5, 6, 7, 8, 9, 10, 11] order_free (by rw [hE]; rfl) (by kernel_rfl) (OI.of_OL (os := [_, _, _, _, _, _, _, _, _, _, _, _]) rfl ?_)
        refine ldPA ag.Rat rfl rfl (vs := [_, _, _]) rfl (Nat.le_of_ble_eq_true rfl) ?_
        refine faP fd.Hidden_4 rfl rfl ?_
        refine ldPC ce.Ratss rfl rfl rfl ?_
        refine mvD rfl ?_
        refine ixLn sl.Ratss [] rfl rfl (by omega) rfl rfl ?_
        refine ldRC ce.Rats rfl ?_
        refine mvD rfl ?_
        refine ixLn sl.Rats 0 rfl rfl (by omega) rfl rfl ?_
        refine ldRA ag.Rat rfl (vs := [_, _, _]) rfl (Nat.le_of_ble_eq_true rfl) ?_
        refine clv rfl (.cons (VLe.refl _) (.cons (VLe.refl _) (.nil))) (rational_MulQ (x := c.getD i 0) (y := trQ h i j) (by omega) (by omega)) ?_
        refine al z.Rat rfl fun b12 => ?_
        refine sto sz.Rat rfl rfl rfl rfl rfl (Nat.le_of_ble_eq_true rfl) (cells2 := [_, _, _]) rfl ?_
        refine OL.nil ?_
        refine AW.seq ?_
        refine AW.region (by rw [hE]; rfl) ?_
        refine ldPA ag.Rat rfl rfl (vs := [_, _, _]) rfl (Nat.le_of_ble_eq_true rfl) ?_
        refine ldPA ag.Rat rfl rfl (vs := [_, _, _]) rfl (Nat.le_of_ble_eq_true rfl) ?_
        refine clv rfl (.cons (VLe.refl _) (.cons (VLe.refl _) (.nil))) (rational_CompareQ (x := (c.getD i 0 * trQ h i j)) (y := (colN h c j i)) (by omega) (by omega)) ?_
        refine c_gtr rfl rfl rfl ?_
        refine OL.nil ?_
        refine AW.cond rfl (fun hg => ?_) (fun hg => ?_)
        · have hg : (colN h c j i) < (c.getD i 0 * trQ h i j) := cmpQ_gt.1 (of_decide_eq_true hg)
          have hcn : (colN h c j (i + 1)) = (c.getD i 0 * trQ h i j) := if_pos hg
          refine AW.region (by rw [hE]; rfl) ?_
          refine ldPA ag.Rat rfl rfl (vs := [_, _, _]) rfl (Nat.le_of_ble_eq_true rfl) ?_
          refine sto sz.Rat rfl rfl rfl rfl rfl (Nat.le_of_ble_eq_true rfl) (cells2 := [_, _, _]) rfl ?_
          refine OL.nil ?_
          exact AW.reach () ⟨trivial, Knows.app (.cons (VLe.refl _) (.cons (VLe.refl _) (.cons (VLe.refl _) (.cons (VLe.refl _) (.cons (VLe.refl _) (.cons (VLe.refl _) (.cons (VLe.refl _) (.cons (VLe.refl _) (.cons (VLe.refl _) (.cons (VLe.refl _) (.cons (VLe.refl _) .nil))))))))))) (.cons (by first | exact VLe.refl _ | exact VLe.int (by omega) | exact VLe.mt | exact vle_q0 | exact VLe.osl | exact VLe.ptr) .nil), Owns.app (.cons rfl (.cons rfl .nil)) (.cons (by rw [hcn]; rfl) .nil)⟩
        · have hg : ¬ (colN h c j i) < (c.getD i 0 * trQ h i j) := fun e => of_decide_eq_false hg (cmpQ_gt.2 e)
          have hcn : (colN h c j (i + 1)) = (colN h c j i) := if_neg hg
          refine AW.skip ?_
          exact AW.reach () ⟨trivial, Knows.app (.cons (VLe.refl _) (.cons (VLe.refl _) (.cons (VLe.refl _) (.cons (VLe.refl _) (.cons (VLe.refl _) (.cons (VLe.refl _) (.cons (VLe.refl _) (.cons (VLe.refl _) (.cons (VLe.refl _) (.cons (VLe.refl _) (.cons (VLe.refl _) .nil))))))))))) (.cons (by first | exact VLe.refl _ | exact VLe.int (by omega) | exact VLe.mt | exact vle_q0 | exact VLe.osl | exact VLe.ptr) .nil), Owns.app (.cons rfl (.cons rfl .nil)) (.cons (by rw [hcn]; rfl) .nil)⟩
      rintro ⟨⟩ hφ
      refine AW.region (by rw [hE]; rfl) ?_
      refine add_i64 rfl rfl (by omega) ?_
      refine mvD rfl ?_
      refine OL.nil ?_
      exact AW.again (x := i) (i + 1) (by first | omega | (simp only []; omega)) ⟨by omega, Knows.app (.cons (VLe.refl _) (.cons (VLe.refl _) (.cons (VLe.refl _) (.cons (VLe.refl _) (.cons (VLe.refl _) (.cons (VLe.refl _) (.cons (VLe.refl _) (.cons (VLe.refl _) (.cons (VLe.refl _) (.cons (VLe.refl _) (.cons (VLe.refl _) .nil))))))))))) (.cons (by first | exact VLe.refl _ | exact VLe.int (by omega) | exact VLe.mt | exact vle_q0 | exact VLe.osl | exact VLe.ptr) .nil), Owns.app (.cons rfl (.cons rfl .nil)) (.cons rfl .nil)⟩
    · first | (simp only [decide_eq_true_eq, decide_eq_false_iff_not, Bool.not_eq_true', Bool.not_eq_false', Bool.not_not, Bool.and_eq_true, Bool.and_eq_false_iff, Bool.or_eq_true, Bool.or_eq_false_iff] at h32) | skip
      refine AW.exit ?_
      obtain rfl : i = c.length := by omega
      have ej := f.erow j hj
      have zem := em_sz f j x
      have zpn := zn j c.length
      refine AW.region_draw 1 [0, 1, 2, 3, 4, 5, 6, 7, 8, 9, 10, 11, 12, 13, 14] order_free (by rw [hE]; rfl) (by kernel_rfl) (OI.of_OL (os := [_, _, _, _, _, _, _, _, _, _, _, _, _, _, _]) rfl ?_)
      refine mvO rfl ?_
      refine mvD rfl ?_
      refine ldPA ag.Rat rfl rfl (vs := [_, _, _]) rfl (Nat.le_of_ble_eq_true rfl) ?_
      refine faP fd.Hidden_6 rfl rfl ?_
      refine ldPC ce.Ratss rfl rfl rfl ?_
      refine mvD rfl ?_
      refine ixLn sl.Ratss [] rfl rfl (by omega) rfl rfl ?_
      refine ldRC ce.Rats rfl ?_
      refine mvD rfl ?_
      refine bo rfl rfl (bin_sub (c := (x : Int)) (by omega) (wrap_i64 (by omega))) ?_
      refine ixLn sl.Rats 0 rfl rfl (by omega) rfl rfl ?_
      refine ldRA ag.Rat rfl (vs := [_, _, _]) rfl (Nat.le_of_ble_eq_true rfl) ?_
      refine clv rfl (.cons (VLe.refl _) (.cons (VLe.refl _) (.nil))) (rational_MulQ (x := (colN h c j c.length)) (y := emQ h j x) (by omega) (by omega)) ?_
      refine ixOn sl.Rats rfl rfl hj ?_
      refine stE sz.Rat rfl vd_q rfl rfl (by rw [List.length_map]; omega) (es2 := (fillF 0 (fun j => colN h c j c.length * emQ h j x) h.st (j + 1)).map dQ) (by rw [← fillF_set (g := (fun j => colN h c j c.length * emQ h j x)) hj, List.map_set]) ?_
      refine OL.nil ?_
      refine AW.region (by rw [hE]; rfl) ?_
      refine add_i64 rfl rfl (by omega) ?_
      refine mvD rfl ?_
      refine OL.nil ?_
      exact AW.again (x := j) (j + 1) (by first | omega | (simp only []; omega)) ⟨by omega, Knows.app (.cons (VLe.refl _) (.cons (VLe.refl _) (.cons (VLe.refl _) (.cons (VLe.refl _) (.cons (VLe.refl _) (.cons (VLe.refl _) .nil)))))) (.cons (by first | exact VLe.refl _ | exact VLe.int (by omega) | exact VLe.mt | exact vle_q0 | exact VLe.osl | exact VLe.ptr) .nil), Owns.app (.cons rfl .nil) (.cons rfl .nil)⟩
  · first | (simp only [decide_eq_true_eq, decide_eq_false_iff_not, Bool.not_eq_true', Bool.not_eq_false', Bool.not_not, Bool.and_eq_true, Bool.and_eq_false_iff, Bool.or_eq_true, Bool.or_eq_false_iff] at h19) | skip
    refine AW.exit ?_
    refine AW.seq ?_
    obtain rfl : j = h.st := by omega
    refine AW.freeze 15 rfl (AW.to [(7, .d (dQs (colX h x c)))] [] (.cons (frz_osl (by rw [List.length_map]; omega) (by rw [fillF_all]; rfl)) .nil) .nil ?_)
    refine AW.region (by rw [hE]; rfl) ?_
    refine mvD rfl ?_
    refine asD rfl ?_
    refine OL.nil ?_
    exact AW.ret (RetQ.r ⟨_, .tmp rfl .nil, .le (by first | exact VLe.refl _ | exact VLe.mt | exact vle_q0 | exact VLe.int (by omega) | exact VLe.bool (by simp_all))⟩)
set_option maxRecDepth 4000 in
set_option maxHeartbeats 1600000 in
theorem checkpoint_Columns {h : HM} {B : Nat} {w : List Int} {fr n : Nat} (g : h.Good B) (kw : WordOK h w) (hn : fr + n < w.length) : FSpec P F.checkpoint_Columns [vHM h, .d (ints w), .d (dI fr), .d (dI ((fr + n : Nat))), .d (dQs (colF h w fr))] (.tup [.d (dQss (colsL h w fr (n + 1))), .d (dI 0)]) := by
  have f := g.form
  have k1 := kw.1
  have n1 := f.st1
  have hcl : (colF h w fr).length = if fr = 0 then 0 else h.st := by
      split
      · rename_i e; rw [e]; rfl
      · rename_i e; exact colF_len h w e
  have hcl2 : (colF h w fr).length ≤ 12 := by rw [hcl]; split <;> omega
  have zc := colF_sz f w fr
  have hsh := colF_shares g w fr
  refine FSpec.intro fn.checkpoint_Columns (by rfl) (by rfl) (Nat.le_of_ble_eq_true (by rfl)) fun E hE => ?_
  refine AW.seq ?_
  refine AW.region (by rw [hE]; rfl) ?_
  refine bxA rfl rfl fun b5 => ?_
  refine asM rfl ?_
  refine asD rfl ?_
  refine OL.nil ?_
  refine AW.seq ?_
  refine AW.seq ?_
  refine AW.region (by rw [hE]; rfl) ?_
  refine ldPA ag.Hidden rfl rfl (vs := [_, _, _, _, _, _, _, _, _, _, _]) rfl (Nat.le_of_ble_eq_true rfl) ?_
  refine mvD rfl ?_
  refine clv rfl (.cons (VLe.refl _) (.cons (VLe.refl _) (.nil))) (checkpoint_refuse g kw) ?_
  refine asD rfl ?_
  refine OL.nil ?_
  refine AW.seq ?_
  refine AW.region (by rw [hE]; rfl) ?_
  refine mvD rfl ?_
  refine c_neq rfl rfl (c := false) (by first | exact decide_eq_true (by omega) | exact decide_eq_false (by omega) | exact cne_f (by omega) | exact cne_t (by omega) | rfl) ?_
  refine OL.nil ?_
  refine AW.cond rfl (fun hno => absurd hno (by decide)) (fun _ => ?_)
  refine AW.skip ?_
  refine AW.seq ?_
  refine AW.seq ?_
  refine AW.region (by rw [hE]; rfl) ?_
  refine mvD rfl ?_
  refine c_lss rfl rfl (c := false) (by first | exact decide_eq_true (by omega) | exact decide_eq_false (by omega) | exact cne_f (by omega) | exact cne_t (by omega) | rfl) ?_
  refine mvD rfl ?_
  refine OL.yes rfl ?_
  refine mvD rfl ?_
  refine OL.yes rfl ?_
  refine mvD rfl ?_
  refine OL.yes rfl ?_
  refine c_gtr rfl rfl (c := false) (by first | exact decide_eq_true (by omega) | exact decide_eq_false (by omega) | exact cne_f (by omega) | exact cne_t (by omega) | rfl) ?_
  refine pkF rfl rfl ?_
  refine mvD rfl ?_
  refine OL.yes rfl ?_
  refine mvD rfl ?_
  refine OL.yes rfl ?_
  refine mvD rfl ?_
  refine OL.yes rfl ?_
  refine lnL sl.ints rfl rfl ?_
  refine OL.yes rfl ?_
  refine c_geq rfl rfl (c := false) (by first | exact decide_eq_true (by omega) | exact decide_eq_false (by omega) | exact cne_f (by omega) | exact cne_t (by omega) | rfl) ?_
  refine pkF rfl rfl ?_
  refine OL.nil ?_
  refine AW.cond rfl (fun hno => absurd hno (by decide)) (fun _ => ?_)
  refine AW.skip ?_
  refine AW.seq ?_
  refine AW.region (by rw [hE]; rfl) ?_
  refine faP fd.Hidden_1 rfl rfl ?_
  refine ldPC ce.int rfl rfl rfl ?_
  refine asD rfl ?_
  refine OL.nil ?_
  refine AW.midK (α := Unit) [(1, _), (2, _), (3, _), (4, _), (5, _), (10, _), (11, _)] [(5, _)] (fun _u => [(13, .d (dI (colF h w fr).length))]) (fun _u => []) (fun _u => True) (by repeat (first | exact Knows.nil | refine Knows.cons (by first | exact knD rfl | exact knA rfl | exact knP rfl | exact knO rfl | exact knM rfl | exact knE rfl | exact knR rfl | exact knF rfl | exact knT rfl | exact knJ) ?_)) (.cons (by first | exact owB rfl | exact owR rfl | exact owL rfl | exact owT rfl) .nil) ?_ ?_
  · refine AW.seq ?_
    refine AW.region (by rw [hE]; rfl) ?_
    refine mvD rfl ?_
    refine c_eql rfl rfl rfl ?_
    refine OL.nil ?_
    refine AW.cond rfl (fun h0 => ?_) (fun h0 => ?_)
    · have h0 : fr = 0 := by have := of_decide_eq_true h0; omega
      refine AW.region (by rw [hE]; rfl) ?_
      refine asD rfl ?_
      refine OL.nil ?_
      exact AW.reach () ⟨trivial, Knows.app (.cons (VLe.refl _) (.cons (VLe.refl _) (.cons (VLe.refl _) (.cons (VLe.refl _) (.cons (VLe.refl _) (.cons (VLe.refl _) (.cons (VLe.refl _) .nil))))))) (.cons (VLe.int (by rw [hcl, if_pos h0]; rfl)) .nil), Owns.app (.cons rfl .nil) (.nil)⟩
    · have h0 : fr ≠ 0 := fun e => of_decide_eq_false h0 (by omega)
      refine AW.skip ?_
      exact AW.reach () ⟨trivial, Knows.app (.cons (VLe.refl _) (.cons (VLe.refl _) (.cons (VLe.refl _) (.cons (VLe.refl _) (.cons (VLe.refl _) (.cons (VLe.refl _) (.cons (VLe.refl _) .nil))))))) (.cons (VLe.int (by rw [hcl, if_neg h0])) .nil), Owns.app (.cons rfl .nil) (.nil)⟩
  rintro ⟨⟩ hφ
  refine AW.seq ?_
  refine AW.seq ?_
  refine AW.region (by rw [hE]; rfl) ?_
  refine mvD rfl ?_
  refine lnL sl.Rats rfl rfl ?_
  refine mvD rfl ?_
  refine c_neq rfl rfl (c := false) (cne_f rfl) ?_
  refine OL.nil ?_
  refine AW.cond rfl (fun hno => absurd hno (by decide)) (fun _ => ?_)
  refine AW.skip ?_
  refine AW.seq ?_
  refine AW.seq ?_
  refine AW.region (by rw [hE]; rfl) ?_
  refine mvD rfl ?_
  refine lnL sl.Rats rfl rfl ?_
  refine mvD rfl ?_
  refine OL.nil ?_
  refine AW.block ?_
  refine AW.whileK (α := Nat) [(1, _), (2, _), (3, _), (4, _), (5, _), (45, _), (46, _)] [(5, _)] (fun i => [(47, .d (dI i))]) (fun i => []) (fun i => i ≤ (colF h w fr).length) (fun i => (colF h w fr).length - i) 0 (by repeat (first | exact Knows.nil | refine Knows.cons (by first | exact knD rfl | exact knA rfl | exact knP rfl | exact knO rfl | exact knM rfl | exact knE rfl | exact knR rfl | exact knF rfl | exact knT rfl | exact knJ) ?_)) (.cons (by first | exact owB rfl | exact owR rfl | exact owL rfl | exact owT rfl) .nil) ⟨Nat.zero_le _, .cons (by first | exact VLe.refl _ | exact VLe.int (by omega) | exact VLe.mt | exact vle_q0 | exact VLe.osl | exact VLe.ptr) .nil, .nil⟩ ?_
  intro i h3
  have h3 : i ≤ (colF h w fr).length := h3
  refine AW.seq ?_
  refine AW.region (by rw [hE]; rfl) ?_
  refine c_lss rfl rfl rfl ?_
  refine OL.nil ?_
  refine AW.seq ?_
  refine AW.cond rfl (fun h48 => ?_) (fun h48 => ?_)
  · first | (simp only [decide_eq_true_eq, decide_eq_false_iff_not, Bool.not_eq_true', Bool.not_eq_false', Bool.not_not, Bool.and_eq_true, Bool.and_eq_false_iff, Bool.or_eq_true, Bool.or_eq_false_iff] at h48) | skip
    refine AW.skip ?_
    refine AW.seq ?_
    refine AW.block ?_
    refine AW.seq ?_
    refine AW.region (by rw [hE]; rfl) ?_
    refine ixLn sl.Rats 0 rfl rfl (by omega) rfl rfl ?_
    refine ldRA ag.Rat rfl (vs := [_, _, _]) rfl (Nat.le_of_ble_eq_true rfl) ?_
    refine al z.Rat rfl fun b15 => ?_
    refine sto sz.Rat rfl rfl rfl rfl rfl (Nat.le_of_ble_eq_true rfl) (cells2 := [_, _, _]) rfl ?_
    refine OL.nil ?_
    refine AW.seq ?_
    have zs := zc.get (by omega) i
    refine AW.region (by rw [hE]; rfl) ?_
    refine ldPA ag.Rat rfl rfl (vs := [_, _, _]) rfl (Nat.le_of_ble_eq_true rfl) ?_
    refine clv rfl (.cons (VLe.refl _) (.nil)) (checkpoint_share (q := (colF h w fr).getD i 0) (hsh.get i) (by omega)) ?_
    refine nt rfl ?_
    refine OL.nil ?_
    refine AW.cond rfl (fun hno => absurd hno (by decide)) (fun _ => ?_)
    refine AW.skip ?_
    refine AW.region (by rw [hE]; rfl) ?_
    refine add_i64 rfl rfl (by omega) ?_
    refine mvD rfl ?_
    refine OL.nil ?_
    exact AW.again (x := i) (i + 1) (by first | omega | (simp only []; omega)) ⟨by omega, Knows.app (.cons (VLe.refl _) (.cons (VLe.refl _) (.cons (VLe.refl _) (.cons (VLe.refl _) (.cons (VLe.refl _) (.cons (VLe.refl _) (.cons (VLe.refl _) .nil))))))) (.cons (by first | exact VLe.refl _ | exact VLe.int (by omega) | exact VLe.mt | exact vle_q0 | exact VLe.osl | exact VLe.ptr) .nil), Owns.app (.cons rfl .nil) (.nil)⟩
  · first | (simp only [decide_eq_true_eq, decide_eq_false_iff_not, Bool.not_eq_true', Bool.not_eq_false', Bool.not_not, Bool.and_eq_true, Bool.and_eq_false_iff, Bool.or_eq_true, Bool.or_eq_false_iff] at h48) | skip
    refine AW.exit ?_
    refine AW.seq ?_
    refine AW.region (by rw [hE]; rfl) ?_
    refine asM rfl ?_
    refine OL.nil ?_
    refine AW.seq ?_
    refine AW.seq ?_
    refine AW.region (by rw [hE]; rfl) ?_
    refine mvD rfl ?_
    refine asD rfl ?_
    refine OL.nil ?_
    refine AW.block ?_
    refine AW.own 16 71 T.Rats 1 rfl rfl ?_
    refine AW.whileK (α := Nat × Nat × Nat) [(1, _), (3, _), (5, _)] [(5, _)] (fun (m, q, c) => [(4, .d (dQs (colF h w (fr + m)))), (16, .osl 71 q m c), (17, .d (dI ((fr + m : Nat))))]) (fun (m, q, c) => [(71, .row q c T.Rats 1 ((colsL h w fr m).map dQs))]) (fun (m, q, c) => m ≤ n + 1) (fun (m, q, c) => n + 1 - m) (0, 0, 0) (by repeat (first | exact Knows.nil | refine Knows.cons (by first | exact knD rfl | exact knA rfl | exact knP rfl | exact knO rfl | exact knM rfl | exact knE rfl | exact knR rfl | exact knF rfl | exact knT rfl | exact knJ) ?_)) (.cons (by first | exact owB rfl | exact owR rfl | exact owL rfl | exact owT rfl) .nil) ⟨Nat.zero_le _, .cons (by first | exact VLe.refl _ | exact VLe.int (by omega) | exact VLe.mt | exact vle_q0 | exact VLe.osl | exact VLe.ptr) (.cons (by first | exact VLe.refl _ | exact VLe.int (by omega) | exact VLe.mt | exact vle_q0 | exact VLe.osl | exact VLe.ptr) (.cons (by first | exact VLe.refl _ | exact VLe.int (by omega) | exact VLe.mt | exact vle_q0 | exact VLe.osl | exact VLe.ptr) .nil)), .cons rfl .nil⟩ ?_
    rintro ⟨m, q, c⟩ h4
    have h4 : m ≤ n + 1 := h4
    have hml := colsL_len h w fr m
    refine AW.seq ?_
    refine AW.seq ?_
    refine AW.region (by rw [hE]; rfl) ?_
    refine mvD rfl ?_
    refine mvD rfl ?_
    refine c_leq rfl rfl rfl ?_
    refine OL.nil ?_
    refine AW.cond rfl (fun h58 => ?_) (fun h58 => ?_)
    · first | (simp only [decide_eq_true_eq, decide_eq_false_iff_not, Bool.not_eq_true', Bool.not_eq_false', Bool.not_not, Bool.and_eq_true, Bool.and_eq_false_iff, Bool.or_eq_true, Bool.or_eq_false_iff] at h58) | skip
      refine AW.skip ?_
      refine AW.seq ?_
      refine AW.block ?_
      refine AW.seq ?_
      have hx := kw.symX (t := fr + m) (by omega)
      have hzm := colF_sz f w (fr + m)
      have hlm : (colF h w (fr + m)).length = 0 ∨ (colF h w (fr + m)).length = h.st := by
          by_cases e : fr + m = 0
          · rw [e]; exact .inl rfl
          · exact .inr (colF_len h w e)
      refine AW.region_draw 1 [0, 1, 2, 3, 4, 5, 6, 7] order_free (by rw [hE]; rfl) (by kernel_rfl) (OI.of_OL (os := [_, _, _, _, _, _, _, _]) rfl ?_)
      refine ldPA ag.Hidden rfl rfl (vs := [_, _, _, _, _, _, _, _, _, _, _]) rfl (Nat.le_of_ble_eq_true rfl) ?_
      refine mvD rfl ?_
      refine mvD rfl ?_
      refine ixLn sl.ints 0 rfl rfl (by omega) rfl rfl ?_
      refine ldRC ce.int rfl ?_
      rw [hx.2]
      refine mvD rfl ?_
      refine clv rfl (.cons (VLe.refl _) (.cons (VLe.refl _) (.cons (VLe.refl _) (.nil)))) (checkpoint_after f hx.1 hlm hzm ⟨by omega, by omega⟩) ?_
      rw [show colX h (symX w (fr + m)) (colF h w (fr + m)) = colF h w (fr + m + 1) from rfl]
      refine asD rfl ?_
      refine OL.nil ?_
      refine AW.region (by rw [hE]; rfl) ?_
      refine mvO rfl ?_
      refine mvD rfl ?_
      refine lt1 (y := dQs (colF h w (fr + m + 1))) sl.Ratss (VC.d _).vd rfl (by decide) ?_
      refine apO sl.Ratss rfl rfl rfl (by rw [List.length_map, hml]) (VC.d _) (fun y hy => by rw [List.mem_singleton.1 hy]; rfl) (by simp only [List.length_singleton]; omega) (by simp only [List.length_singleton]; omega) (.inr rfl) (ys := (colsL h w fr (m + 1)).map dQs) (by rw [colsL_succ, List.map_append]; rfl) (n2 := m + 1) (by simp) fun q2 c2 => ?_
      refine asO rfl ?_
      refine OL.nil ?_
      refine AW.region (by rw [hE]; rfl) ?_
      refine mvD rfl ?_
      refine add_i64 rfl rfl (by omega) ?_
      refine asD rfl ?_
      refine OL.nil ?_
      exact AW.again (x := (m, q, c)) (m + 1, q2, c2) (by first | omega | (simp only []; omega)) ⟨by omega, Knows.app (.cons (VLe.refl _) (.cons (VLe.refl _) (.cons (VLe.refl _) .nil))) (.cons (by first | exact VLe.refl _ | exact VLe.int (by omega) | exact VLe.mt | exact vle_q0 | exact VLe.osl | exact VLe.ptr) (.cons (by first | exact VLe.refl _ | exact VLe.int (by omega) | exact VLe.mt | exact vle_q0 | exact VLe.osl | exact VLe.ptr) (.cons (by first | exact VLe.refl _ | exact VLe.int (by omega) | exact VLe.mt | exact vle_q0 | exact VLe.osl | exact VLe.ptr) .nil))), Owns.app (.cons rfl .nil) (.cons rfl .nil)⟩
    · first | (simp only [decide_eq_true_eq, decide_eq_false_iff_not, Bool.not_eq_true', Bool.not_eq_false', Bool.not_not, Bool.and_eq_true, Bool.and_eq_false_iff, Bool.or_eq_true, Bool.or_eq_false_iff] at h58) | skip
      refine AW.exit ?_
      refine AW.seq ?_
      obtain rfl : m = n + 1 := by omega
      refine AW.region (by rw [hE]; rfl) ?_
      refine mvO rfl ?_
      refine asO rfl ?_
      refine asD rfl ?_
      refine OL.nil ?_
      exact AW.ret (RetQ.r ⟨_, .tmp rfl (.tmp rfl .nil), _, .cons (RO.row rfl (by rw [List.length_map, hml]) rfl) (.cons (.le (by first | exact VLe.refl _ | exact VLe.mt | exact vle_q0 | exact VLe.int (by omega) | exact VLe.bool (by simp_all))) .nil), rfl⟩)
theorem law36_columns {a : List (List Rat)} {C : Nat} (hz : ∀ i, Small C (a.getD i []) ∧ (a.getD i []).length ≤ 1099511627776) (hC : 1 ≤ C ∧ C ≤ 1048576) (nl : a.length ≤ 1099511627776) : FSpec P F.law36_columns [.d (dQss a), .d (dQss a)] (.d (dB true)) := by
  refine FSpec.intro fn.law36_columns (by rfl) (by rfl) (Nat.le_of_ble_eq_true (by rfl)) fun E hE => ?_
  refine AW.seq ?_
  refine AW.region (by rw [hE]; rfl) ?_
  refine asD rfl ?_
  refine OL.nil ?_
  refine AW.seq ?_
  refine AW.seq ?_
  refine AW.region (by rw [hE]; rfl) ?_
  refine mvD rfl ?_
  refine lnL sl.Ratss rfl rfl ?_
  refine mvD rfl ?_
  refine lnL sl.Ratss rfl rfl ?_
  refine c_neq rfl rfl (c := false) (cne_f rfl) ?_
  refine OL.nil ?_
  refine AW.cond rfl (fun hno => absurd hno (by decide)) (fun _ => ?_)
  refine AW.skip ?_
  refine AW.seq ?_
  refine AW.seq ?_
  refine AW.region (by rw [hE]; rfl) ?_
  refine asD rfl ?_
  refine OL.nil ?_
  refine AW.block ?_
  refine AW.whileK (α := Nat) [(0, _), (1, _)] [] (fun i => [(5, .d (dI i))]) (fun i => []) (fun i => i ≤ a.length) (fun i => a.length - i) 0 (by repeat (first | exact Knows.nil | refine Knows.cons (by first | exact knD rfl | exact knA rfl | exact knP rfl | exact knO rfl | exact knM rfl | exact knE rfl | exact knR rfl | exact knF rfl | exact knT rfl | exact knJ) ?_)) .nil ⟨Nat.zero_le _, .cons (by first | exact VLe.refl _ | exact VLe.int (by omega) | exact VLe.mt | exact vle_q0 | exact VLe.osl | exact VLe.ptr) .nil, .nil⟩ ?_
  intro i h1
  refine AW.seq ?_
  refine AW.seq ?_
  refine AW.region (by rw [hE]; rfl) ?_
  refine mvD rfl ?_
  refine mvD rfl ?_
  refine lnL sl.Ratss rfl rfl ?_
  refine c_lss rfl rfl rfl ?_
  refine OL.nil ?_
  refine AW.cond rfl (fun h14 => ?_) (fun h14 => ?_)
  · first | (simp only [decide_eq_true_eq, decide_eq_false_iff_not, Bool.not_eq_true', Bool.not_eq_false', Bool.not_not, Bool.and_eq_true, Bool.and_eq_false_iff, Bool.or_eq_true, Bool.or_eq_false_iff] at h14) | skip
    refine AW.skip ?_
    refine AW.seq ?_
    refine AW.block ?_
    refine AW.seq ?_
    have hzi := hz i
    refine AW.region_draw 1 [0, 1, 2, 3, 4, 5, 6, 7, 8, 9] order_free (by rw [hE]; rfl) (by kernel_rfl) (OI.of_OL (os := [_, _, _, _, _, _, _, _, _, _]) rfl ?_)
    refine mvD rfl ?_
    refine mvD rfl ?_
    refine ixLn sl.Ratss [] rfl rfl (by omega) rfl rfl ?_
    refine ldRC ce.Rats rfl ?_
    refine mvD rfl ?_
    refine mvD rfl ?_
    refine ixLn sl.Ratss [] rfl rfl (by omega) rfl rfl ?_
    refine ldRC ce.Rats rfl ?_
    refine clv rfl (.cons (VLe.refl _) (.cons (VLe.refl _) (.nil))) (ref33_SameRats hzi.1 hzi.1 ⟨hC.1, hC.2, hzi.2⟩) ?_
    rw [decide_eq_true rfl]
    refine nt rfl ?_
    refine OL.nil ?_
    refine AW.cond rfl (fun hno => absurd hno (by decide)) (fun _ => ?_)
    refine AW.skip ?_
    refine AW.region (by rw [hE]; rfl) ?_
    refine mvD rfl ?_
    refine add_i64 rfl rfl (by omega) ?_
    refine asD rfl ?_
    refine OL.nil ?_
    exact AW.again (x := i) (i + 1) (by first | omega | (simp only []; omega)) ⟨by omega, Knows.app (.cons (VLe.refl _) (.cons (VLe.refl _) .nil)) (.cons (by first | exact VLe.refl _ | exact VLe.int (by omega) | exact VLe.mt | exact vle_q0 | exact VLe.osl | exact VLe.ptr) .nil), .nil⟩
  · first | (simp only [decide_eq_true_eq, decide_eq_false_iff_not, Bool.not_eq_true', Bool.not_eq_false', Bool.not_not, Bool.and_eq_true, Bool.and_eq_false_iff, Bool.or_eq_true, Bool.or_eq_false_iff] at h14) | skip
    refine AW.exit ?_
    refine AW.seq ?_
    refine AW.region (by rw [hE]; rfl) ?_
    refine asD rfl ?_
    refine OL.nil ?_
    exact AW.ret (RetQ.r ⟨_, .tmp rfl .nil, .le (by first | exact VLe.refl _ | exact VLe.mt | exact vle_q0 | exact VLe.int (by omega) | exact VLe.bool (by simp_all))⟩)
end Go.Proofs.YtcebciggodhmcaaGreat

/-
  Walks of the specification of package online, part 1: what is common, validity, opening (printed by mk2.py).
-/
import Derived.Test.YtcebciggodhmcaaGreatKOnC
import Derived.Test.YtcebciggodhmcaaGreatKChk
set_option linter.unusedVariables false
set_option linter.unusedSimpArgs false
namespace Go.Proofs.YtcebciggodhmcaaGreat
open Go Go.AL
def cmpS (a b : List Int) : Int := if a.length ≠ b.length then (if a.length < b.length then -1 else 1) else cmpL a b
theorem cmpS_self (a : List Int) : cmpS a a = 0 := by unfold cmpS; rw [if_neg (by omega), cmpL_self]
theorem cmpS_same {a b : List Int} (h : a.length = b.length) : cmpS a b = cmpL a b := if_neg (by omega)
theorem lcpL_self : ∀ p : List Int, lcpL p p = p.length
  | [] => rfl
  | a :: p => by rw [lcpL, if_pos rfl, lcpL_self p]; rfl
theorem com_dead {al : Nat → Bool} {ps : Nat → List Int} {i : Nat} (ha : al i = false) : comF al ps (i + 1) = comF al ps i := by rw [comF, if_neg (by rw [ha]; decide)]
theorem com_first {al : Nat → Bool} {ps : Nat → List Int} {i : Nat} (ha : al i = true) (hn : (comF al ps i).1 < 0) : comF al ps (i + 1) = ((((ps i).length : Nat) : Int), ps i) := by
  rw [comF, if_pos ha, if_pos hn, lcpL_self, Nat.min_self]
theorem com_more {al : Nat → Bool} {ps : Nat → List Int} {i : Nat} (ha : al i = true) (hn : ¬ (comF al ps i).1 < 0) : comF al ps (i + 1) = (((min (comF al ps i).1.toNat (lcpL (ps i) (comF al ps i).2) : Nat) : Int), (comF al ps i).2) := by
  rw [comF, if_pos ha, if_neg hn]
abbrev cellsOr (h : HM) (t b1 n c1 : Nat) : List V := [.d (dI h.sym), .d (dI h.st), .d (dB (ofQ h.empty).neg), .d (u32s (ofQ h.empty).num), .d (u32s (ofQ h.empty).den), .d (dQs h.ini), .d (dQss h.trans), .d (dQs h.stop), .d (dQss h.emit), .d (bools h.silent), .d (ints h.ties), .d (dI t), .osl 132 b1 n c1, .mt, .mt]
theorem ref05_CompareS {l m : List Int} (nl : l.length ≤ 1099511627776) : FSpec P F.ref05_Compare [.d (ints l), .d (ints m)] (.d (dI (cmpS l m))) := by
  refine FSpec.intro fn.ref05_Compare (by rfl) (by rfl) (Nat.le_of_ble_eq_true (by rfl)) fun E hE => ?_
  refine AW.seq ?_
  refine AW.region (by rw [hE]; rfl) ?_
  refine asD rfl ?_
  refine OL.nil ?_
  refine AW.seq ?_
  refine AW.seq ?_
  refine AW.region (by rw [hE]; rfl) ?_
  refine mvD rfl ?_
  refine lnL sl.ints rfl rfl ?_
  refine mvD rfl ?_
  refine lnL sl.ints rfl rfl ?_
  refine c_neq rfl rfl rfl ?_
  refine OL.nil ?_
  refine AW.cond rfl (fun hn => ?_) (fun hn => ?_)
  · have hn : l.length ≠ m.length := fun e => nd_t hn (by rw [e])
    refine AW.seq ?_
    refine AW.seq ?_
    refine AW.region (by rw [hE]; rfl) ?_
    refine mvD rfl ?_
    refine lnL sl.ints rfl rfl ?_
    refine mvD rfl ?_
    refine lnL sl.ints rfl rfl ?_
    refine c_lss rfl rfl rfl ?_
    refine OL.nil ?_
    refine AW.cond rfl (fun hlt => ?_) (fun hlt => ?_)
    · have hlt : l.length < m.length := by have := of_decide_eq_true hlt; omega
      refine AW.seq ?_
      refine AW.region (by rw [hE]; rfl) ?_
      refine asD rfl ?_
      refine OL.nil ?_
      exact AW.ret (RetQ.r ⟨_, .tmp rfl .nil, .le (VLe.int (by unfold cmpS; rw [if_pos hn, if_pos hlt]))⟩)
    · have hlt : ¬ l.length < m.length := by have := of_decide_eq_false hlt; omega
      refine AW.skip ?_
      refine AW.seq ?_
      refine AW.region (by rw [hE]; rfl) ?_
      refine asD rfl ?_
      refine OL.nil ?_
      exact AW.ret (RetQ.r ⟨_, .tmp rfl .nil, .le (VLe.int (by unfold cmpS; rw [if_pos hn, if_neg hlt]))⟩)
  · have hn : l.length = m.length := by have := nd_f hn; omega
    rw [cmpS_same hn]
    refine AW.skip ?_
    refine AW.seq ?_
    refine AW.seq ?_
    refine AW.region (by rw [hE]; rfl) ?_
    refine asD rfl ?_
    refine OL.nil ?_
    refine AW.block ?_
    refine AW.whileK (α := Nat) [(0, _), (1, _)] [] (fun i => [(5, .d (dI i))]) (fun i => []) (fun i => i ≤ l.length ∧ cmpL l m = cmpL (l.drop i) (m.drop i)) (fun i => l.length - i) 0 (by repeat (first | exact Knows.nil | refine Knows.cons (by first | exact knD rfl | exact knA rfl | exact knP rfl | exact knO rfl | exact knM rfl | exact knE rfl | exact knR rfl | exact knF rfl | exact knT rfl | exact knJ) ?_)) .nil ⟨⟨Nat.zero_le _, rfl⟩, .cons (by first | exact VLe.refl _ | exact VLe.int (by omega) | exact VLe.mt | exact vle_q0 | exact VLe.osl | exact VLe.ptr) .nil, .nil⟩ ?_
    rintro i ⟨h1, h3⟩
    have h1 : i ≤ l.length := h1
    have h3 : cmpL l m = cmpL (l.drop i) (m.drop i) := h3
    refine AW.seq ?_
    refine AW.seq ?_
    refine AW.region (by rw [hE]; rfl) ?_
    refine mvD rfl ?_
    refine mvD rfl ?_
    refine lnL sl.ints rfl rfl ?_
    refine c_lss rfl rfl rfl ?_
    refine OL.nil ?_
    refine AW.cond rfl (fun h19 => ?_) (fun h19 => ?_)
    · first | (simp only [decide_eq_true_eq, decide_eq_false_iff_not, Bool.not_eq_true', Bool.not_eq_false', Bool.not_not, Bool.and_eq_true, Bool.and_eq_false_iff, Bool.or_eq_true, Bool.or_eq_false_iff] at h19) | skip
      refine AW.skip ?_
      refine AW.seq ?_
      refine AW.block ?_
      refine AW.seq ?_
      refine AW.seq ?_
      refine AW.region_draw 1 [0, 1, 2, 3, 4, 5, 6, 7, 8] order_free (by rw [hE]; rfl) (by kernel_rfl) (OI.of_OL (os := [_, _, _, _, _, _, _, _, _]) rfl ?_)
      refine mvD rfl ?_
      refine mvD rfl ?_
      refine ixLn sl.ints 0 rfl rfl (by omega) rfl rfl ?_
      refine ldRC ce.int rfl ?_
      refine mvD rfl ?_
      refine mvD rfl ?_
      refine ixLn sl.ints 0 rfl rfl (by omega) rfl rfl ?_
      refine ldRC ce.int rfl ?_
      refine c_lss rfl rfl rfl ?_
      refine OL.nil ?_
      refine AW.cond rfl (fun ha => ?_) (fun ha => ?_)
      · have ha := of_decide_eq_true ha
        refine AW.seq ?_
        refine AW.region (by rw [hE]; rfl) ?_
        refine asD rfl ?_
        refine OL.nil ?_
        exact AW.ret (RetQ.r ⟨_, .tmp rfl .nil, .le (VLe.int (by rw [h3, cmpL_drop (by omega) (by omega), show cmpI (l.getD i 0) (m.getD i 0) = -1 from if_pos ha, if_neg (by decide)]))⟩)
      · have ha := of_decide_eq_false ha
        refine AW.skip ?_
        refine AW.seq ?_
        refine AW.region_draw 1 [0, 1, 2, 3, 4, 5, 6, 7, 8] order_free (by rw [hE]; rfl) (by kernel_rfl) (OI.of_OL (os := [_, _, _, _, _, _, _, _, _]) rfl ?_)
        refine mvD rfl ?_
        refine mvD rfl ?_
        refine ixLn sl.ints 0 rfl rfl (by omega) rfl rfl ?_
        refine ldRC ce.int rfl ?_
        refine mvD rfl ?_
        refine mvD rfl ?_
        refine ixLn sl.ints 0 rfl rfl (by omega) rfl rfl ?_
        refine ldRC ce.int rfl ?_
        refine c_gtr rfl rfl rfl ?_
        refine OL.nil ?_
        refine AW.cond rfl (fun hb => ?_) (fun hb => ?_)
        · have hb := of_decide_eq_true hb
          refine AW.seq ?_
          refine AW.region (by rw [hE]; rfl) ?_
          refine asD rfl ?_
          refine OL.nil ?_
          exact AW.ret (RetQ.r ⟨_, .tmp rfl .nil, .le (VLe.int (by rw [h3, cmpL_drop (by omega) (by omega), show cmpI (l.getD i 0) (m.getD i 0) = 1 by unfold cmpI; rw [if_neg ha, if_pos hb], if_neg (by decide)]))⟩)
        · have hb := of_decide_eq_false hb
          refine AW.skip ?_
          refine AW.region (by rw [hE]; rfl) ?_
          refine mvD rfl ?_
          refine add_i64 rfl rfl (by omega) ?_
          refine asD rfl ?_
          refine OL.nil ?_
          exact AW.again (x := i) (i + 1) (by first | omega | (simp only []; omega)) ⟨⟨by omega, by rw [h3, cmpL_drop (by omega) (by omega), if_pos (by unfold cmpI; rw [if_neg ha, if_neg hb])]⟩, Knows.app (.cons (VLe.refl _) (.cons (VLe.refl _) .nil)) (.cons (by first | exact VLe.refl _ | exact VLe.int (by omega) | exact VLe.mt | exact vle_q0 | exact VLe.osl | exact VLe.ptr) .nil), .nil⟩
    · first | (simp only [decide_eq_true_eq, decide_eq_false_iff_not, Bool.not_eq_true', Bool.not_eq_false', Bool.not_not, Bool.and_eq_true, Bool.and_eq_false_iff, Bool.or_eq_true, Bool.or_eq_false_iff] at h19) | skip
      refine AW.exit ?_
      refine AW.seq ?_
      refine AW.region (by rw [hE]; rfl) ?_
      refine asD rfl ?_
      refine OL.nil ?_
      exact AW.ret (RetQ.r ⟨_, .tmp rfl .nil, .le (VLe.int (by rw [h3, List.drop_eq_nil_of_le (show l.length ≤ i by omega), List.drop_eq_nil_of_le (show m.length ≤ i by omega), cmpL]))⟩)
theorem ref37_live {h : HM} {o : Dec} {i C : Nat} (hz : Small C o.sc) (hC : 1 ≤ C ∧ C ≤ 68719476736) (hi : i < o.sc.length) : FSpec P F.ref37_live [vOn h o, .d (dI i)] (.d (dB (decide (0 < o.sc.getD i 0)))) := by
  have zi := hz.get hC.1 i
  refine FSpec.intro fn.ref37_live (by rfl) (by rfl) (Nat.le_of_ble_eq_true (by rfl)) fun E hE => ?_
  refine AW.seq ?_
  refine AW.region (by rw [hE]; rfl) ?_
  refine bxA rfl rfl fun b2 => ?_
  refine asD rfl ?_
  refine OL.nil ?_
  refine AW.seq ?_
  refine AW.region (by rw [hE]; rfl) ?_
  refine faP fd.Online_2 rfl rfl ?_
  refine ldPC ce.Rats rfl rfl rfl ?_
  refine mvD rfl ?_
  refine ixLn sl.Rats 0 rfl rfl hi rfl rfl ?_
  refine ldRA ag.Rat rfl (vs := [_, _, _]) rfl (Nat.le_of_ble_eq_true rfl) ?_
  refine clv rfl (.cons (VLe.refl _) (.nil)) (ref_SignQ (x := o.sc.getD i 0) (by omega)) ?_
  refine c_gtr rfl rfl rfl ?_
  refine asD rfl ?_
  refine OL.nil ?_
  exact AW.ret (RetQ.r ⟨_, .tmp rfl .nil, .le (VLe.bool (decide_eq_decide.2 sgn_gt))⟩)
theorem ref37_good {l : List Int} {n : Nat} (nl : l.length ≤ 1099511627776) (hl : ∀ x, x ∈ l → 0 ≤ x ∧ x < (n : Int)) : FSpec P F.ref37_good [.d (ints l), .d (dI n)] (.d (dB true)) := by
  refine FSpec.intro fn.ref37_good (by rfl) (by rfl) (Nat.le_of_ble_eq_true (by rfl)) fun E hE => ?_
  refine AW.seq ?_
  refine AW.region (by rw [hE]; rfl) ?_
  refine asD rfl ?_
  refine OL.nil ?_
  refine AW.seq ?_
  refine AW.seq ?_
  refine AW.region (by rw [hE]; rfl) ?_
  refine asD rfl ?_
  refine OL.nil ?_
  refine AW.block ?_
  refine AW.whileK (α := Nat) [(0, _), (1, _)] [] (fun i => [(5, .d (dI i))]) (fun i => []) (fun i => i ≤ l.length) (fun i => l.length - i) 0 (by repeat (first | exact Knows.nil | refine Knows.cons (by first | exact knD rfl | exact knA rfl | exact knP rfl | exact knO rfl | exact knM rfl | exact knE rfl | exact knR rfl | exact knF rfl | exact knT rfl | exact knJ) ?_)) .nil ⟨Nat.zero_le _, .cons (by first | exact VLe.refl _ | exact VLe.int (by omega) | exact VLe.mt | exact vle_q0 | exact VLe.osl | exact VLe.ptr) .nil, .nil⟩ ?_
  intro i h1
  refine AW.seq ?_
  refine AW.seq ?_
  refine AW.region (by rw [hE]; rfl) ?_
  refine mvD rfl ?_
  refine mvD rfl ?_
  refine lnL sl.ints rfl rfl ?_
  refine c_lss rfl rfl rfl ?_
  refine OL.nil ?_
  refine AW.cond rfl (fun h9 => ?_) (fun h9 => ?_)
  · first | (simp only [decide_eq_true_eq, decide_eq_false_iff_not, Bool.not_eq_true', Bool.not_eq_false', Bool.not_not, Bool.and_eq_true, Bool.and_eq_false_iff, Bool.or_eq_true, Bool.or_eq_false_iff] at h9) | skip
    refine AW.skip ?_
    refine AW.seq ?_
    refine AW.block ?_
    refine AW.seq ?_
    have hm := hl _ (getD_mem (l := l) (i := i) (by omega) 0)
    refine AW.region (by rw [hE]; rfl) ?_
    refine mvD rfl ?_
    refine mvD rfl ?_
    refine ixLn sl.ints 0 rfl rfl (by omega) rfl rfl ?_
    refine ldRC ce.int rfl ?_
    refine c_lss rfl rfl (c := false) (by first | exact decide_eq_true (by omega) | exact decide_eq_false (by omega) | exact cne_f (by omega) | exact cne_t (by omega) | rfl) ?_
    refine mvD rfl ?_
    refine OL.yes rfl ?_
    refine mvD rfl ?_
    refine OL.yes rfl ?_
    refine mvD rfl ?_
    refine OL.yes rfl ?_
    refine ixLn sl.ints 0 rfl rfl (by omega) rfl rfl ?_
    refine OL.yes rfl ?_
    refine ldRC ce.int rfl ?_
    refine OL.yes rfl ?_
    refine mvD rfl ?_
    refine OL.yes rfl ?_
    refine c_geq rfl rfl (c := false) (by first | exact decide_eq_true (by omega) | exact decide_eq_false (by omega) | exact cne_f (by omega) | exact cne_t (by omega) | rfl) ?_
    refine pkF rfl rfl ?_
    refine OL.nil ?_
    refine AW.cond rfl (fun hno => absurd hno (by decide)) (fun _ => ?_)
    refine AW.skip ?_
    refine AW.region (by rw [hE]; rfl) ?_
    refine mvD rfl ?_
    refine add_i64 rfl rfl (by omega) ?_
    refine asD rfl ?_
    refine OL.nil ?_
    exact AW.again (x := i) (i + 1) (by first | omega | (simp only []; omega)) ⟨by omega, Knows.app (.cons (VLe.refl _) (.cons (VLe.refl _) .nil)) (.cons (by first | exact VLe.refl _ | exact VLe.int (by omega) | exact VLe.mt | exact vle_q0 | exact VLe.osl | exact VLe.ptr) .nil), .nil⟩
  · first | (simp only [decide_eq_true_eq, decide_eq_false_iff_not, Bool.not_eq_true', Bool.not_eq_false', Bool.not_not, Bool.and_eq_true, Bool.and_eq_false_iff, Bool.or_eq_true, Bool.or_eq_false_iff] at h9) | skip
    refine AW.exit ?_
    refine AW.seq ?_
    refine AW.region (by rw [hE]; rfl) ?_
    refine asD rfl ?_
    refine OL.nil ?_
    exact AW.ret (RetQ.r ⟨_, .tmp rfl .nil, .le (by first | exact VLe.refl _ | exact VLe.mt | exact vle_q0 | exact VLe.int (by omega) | exact VLe.bool (by simp_all))⟩)
set_option maxHeartbeats 800000 in
theorem ref37_common {h : HM} {o : Dec} {tls : List (List Int)} {n C : Nat} (hz : Small C o.sc) (hC : 1 ≤ C ∧ C ≤ 68719476736) (hl : o.sc.length = n) (ht : tls.length = n) (n1 : n ≤ 1048576) (hlen : ∀ j, (tls.getD j []).length ≤ 1099511627776) : FSpec P F.ref37_common [vOn h o, .d (dIss tls)] (.d (dI (comF (fun j => decide (0 < o.sc.getD j 0)) (fun j => tls.getD j []) n).1)) := by
  refine FSpec.intro fn.ref37_common (by rfl) (by rfl) (Nat.le_of_ble_eq_true (by rfl)) fun E hE => ?_
  refine AW.seq ?_
  refine AW.region (by rw [hE]; rfl) ?_
  refine bxA rfl rfl fun b2 => ?_
  refine asD rfl ?_
  refine OL.nil ?_
  refine AW.seq ?_
  refine AW.region (by rw [hE]; rfl) ?_
  refine asD rfl ?_
  refine OL.nil ?_
  refine AW.seq ?_
  refine AW.region (by rw [hE]; rfl) ?_
  refine asD rfl ?_
  refine OL.nil ?_
  refine AW.seq ?_
  refine AW.seq ?_
  refine AW.region (by rw [hE]; rfl) ?_
  refine asD rfl ?_
  refine OL.nil ?_
  refine AW.block ?_
  refine AW.whileK (α := Nat × Int) [(1, _), (2, _), (4, _)] [(2, _)] (fun (i, a) => [(5, .d (dI (comF (fun j => decide (0 < o.sc.getD j 0)) (fun j => tls.getD j []) i).1)), (6, .d (dI a)), (7, .d (dI i))]) (fun (i, a) => []) (fun (i, a) => i ≤ n ∧ (((comF (fun j => decide (0 < o.sc.getD j 0)) (fun j => tls.getD j []) i).1 = -1 ∧ a = -1) ∨ (0 ≤ (comF (fun j => decide (0 < o.sc.getD j 0)) (fun j => tls.getD j []) i).1 ∧ ∃ q : Nat, a = (q : Int) ∧ q < i ∧ (comF (fun j => decide (0 < o.sc.getD j 0)) (fun j => tls.getD j []) i).2 = (tls.getD q [])))) (fun (i, a) => n - i) (0, -1) (by repeat (first | exact Knows.nil | refine Knows.cons (by first | exact knD rfl | exact knA rfl | exact knP rfl | exact knO rfl | exact knM rfl | exact knE rfl | exact knR rfl | exact knF rfl | exact knT rfl | exact knJ) ?_)) (.cons (by first | exact owB rfl | exact owR rfl | exact owL rfl | exact owT rfl) .nil) ⟨⟨Nat.zero_le _, .inl ⟨rfl, rfl⟩⟩, .cons (by first | exact VLe.refl _ | exact VLe.int (by omega) | exact VLe.mt | exact vle_q0 | exact VLe.osl | exact VLe.ptr) (.cons (by first | exact VLe.refl _ | exact VLe.int (by omega) | exact VLe.mt | exact vle_q0 | exact VLe.osl | exact VLe.ptr) (.cons (by first | exact VLe.refl _ | exact VLe.int (by omega) | exact VLe.mt | exact vle_q0 | exact VLe.osl | exact VLe.ptr) .nil)), .nil⟩ ?_
  rintro ⟨i, a⟩ ⟨h1, hp⟩
  have h1 : i ≤ n := h1
  have hp : (((comF (fun j => decide (0 < o.sc.getD j 0)) (fun j => tls.getD j []) i).1 = -1 ∧ a = -1) ∨ (0 ≤ (comF (fun j => decide (0 < o.sc.getD j 0)) (fun j => tls.getD j []) i).1 ∧ ∃ q : Nat, a = (q : Int) ∧ q < i ∧ (comF (fun j => decide (0 < o.sc.getD j 0)) (fun j => tls.getD j []) i).2 = (tls.getD q []))) := hp
  refine AW.seq ?_
  refine AW.seq ?_
  refine AW.region (by rw [hE]; rfl) ?_
  refine mvD rfl ?_
  refine mvD rfl ?_
  refine lnL sl.intss rfl rfl ?_
  refine c_lss rfl rfl rfl ?_
  refine OL.nil ?_
  refine AW.cond rfl (fun h12 => ?_) (fun h12 => ?_)
  · first | (simp only [decide_eq_true_eq, decide_eq_false_iff_not, Bool.not_eq_true', Bool.not_eq_false', Bool.not_not, Bool.and_eq_true, Bool.and_eq_false_iff, Bool.or_eq_true, Bool.or_eq_false_iff] at h12) | skip
    refine AW.skip ?_
    refine AW.midK (α := Int) [(1, _), (2, _), (4, _), (7, _)] [(2, _)] (fun a2 => [(5, .d (dI (comF (fun j => decide (0 < o.sc.getD j 0)) (fun j => tls.getD j []) (i + 1)).1)), (6, .d (dI a2))]) (fun a2 => []) (fun a2 => (((comF (fun j => decide (0 < o.sc.getD j 0)) (fun j => tls.getD j []) (i + 1)).1 = -1 ∧ a2 = -1) ∨ (0 ≤ (comF (fun j => decide (0 < o.sc.getD j 0)) (fun j => tls.getD j []) (i + 1)).1 ∧ ∃ q : Nat, a2 = (q : Int) ∧ q < (i + 1) ∧ (comF (fun j => decide (0 < o.sc.getD j 0)) (fun j => tls.getD j []) (i + 1)).2 = (tls.getD q [])))) (by repeat (first | exact Knows.nil | refine Knows.cons (by first | exact knD rfl | exact knA rfl | exact knP rfl | exact knO rfl | exact knM rfl | exact knE rfl | exact knR rfl | exact knF rfl | exact knT rfl | exact knJ) ?_)) (.cons (by first | exact owB rfl | exact owR rfl | exact owL rfl | exact owT rfl) .nil) ?_ ?_
    · refine AW.block ?_
      refine AW.seq ?_
      refine AW.seq ?_
      refine AW.region (by rw [hE]; rfl) ?_
      refine ldPA ag.Online rfl rfl (vs := [_, _, _, _, _, _, _, _, _, _, _, _, _, _, _]) rfl (Nat.le_of_ble_eq_true rfl) ?_
      refine mvD rfl ?_
      refine clv rfl (.cons (VLe.refl _) (.cons (VLe.refl _) (.nil))) (ref37_live hz hC (by omega)) ?_
      refine nt rfl ?_
      refine OL.nil ?_
      refine AW.cond rfl (fun ha => ?_) (fun ha => ?_)
      · have ha : ¬ 0 < o.sc.getD i 0 := fun e => by rw [decide_eq_true e] at ha; cases ha
        have hcn := com_dead (al := (fun j => decide (0 < o.sc.getD j 0))) (ps := (fun j => tls.getD j [])) (i := i) (decide_eq_false ha)
        refine AW.exit ?_
        exact AW.reach a ⟨by rw [hcn]; exact hp.imp (fun e => e) fun ⟨e1, q, e2, e3, e4⟩ => ⟨e1, q, e2, Nat.lt_succ_of_lt e3, e4⟩, Knows.app (.cons (VLe.refl _) (.cons (VLe.refl _) (.cons (VLe.refl _) (.cons (VLe.refl _) .nil)))) (.cons (vle_of_eq (by rw [hcn]; rfl)) (.cons (by first | exact VLe.refl _ | exact VLe.int (by omega) | exact VLe.mt | exact vle_q0 | exact VLe.osl | exact VLe.ptr) .nil)), Owns.app (.cons rfl .nil) (.nil)⟩
      · have ha : 0 < o.sc.getD i 0 := by cases hd : decide (0 < o.sc.getD i 0) with | true => exact of_decide_eq_true hd | false => rw [hd] at ha; cases ha
        refine AW.skip ?_
        refine AW.seq ?_
        refine AW.seq ?_
        refine AW.region (by rw [hE]; rfl) ?_
        refine mvD rfl ?_
        refine c_lss rfl rfl rfl ?_
        refine OL.nil ?_
        refine AW.cond rfl (fun hn => ?_) (fun hn => ?_)
        · have hn : a < 0 := of_decide_eq_true hn
          have hn1 : (comF (fun j => decide (0 < o.sc.getD j 0)) (fun j => tls.getD j []) i).1 < 0 := by rcases hp with hp | ⟨_, q, e, _⟩ <;> omega
          have hcf := com_first (al := (fun j => decide (0 < o.sc.getD j 0))) (ps := (fun j => tls.getD j [])) (decide_eq_true ha) hn1
          have hpl := hlen i
          refine AW.seq ?_
          refine AW.region_draw 1 [0, 1, 2, 3, 4, 5, 6, 7] order_free (by rw [hE]; rfl) (by kernel_rfl) (OI.of_OL (os := [_, _, _, _, _, _, _, _]) rfl ?_)
          refine mvD rfl ?_
          refine mvD rfl ?_
          refine mvD rfl ?_
          refine ixLn sl.intss [] rfl rfl (by omega) rfl rfl ?_
          refine ldRC ce.ints rfl ?_
          refine lnL sl.ints rfl rfl ?_
          refine asD rfl ?_
          refine asD rfl ?_
          refine OL.nil ?_
          refine AW.exit ?_
          exact AW.reach (i : Int) ⟨by rw [hcf]; exact .inr ⟨by simp only []; omega, i, rfl, Nat.lt_succ_self i, rfl⟩, Knows.app (.cons (VLe.refl _) (.cons (VLe.refl _) (.cons (VLe.refl _) (.cons (VLe.refl _) .nil)))) (.cons (vle_of_eq (by rw [hcf]; rfl)) (.cons (by first | exact VLe.refl _ | exact VLe.int (by omega) | exact VLe.mt | exact vle_q0 | exact VLe.osl | exact VLe.ptr) .nil)), Owns.app (.cons rfl .nil) (.nil)⟩
        · have hn : ¬ a < 0 := of_decide_eq_false hn
          obtain ⟨hc0, q, rfl, hq, hf2⟩ : 0 ≤ (comF (fun j => decide (0 < o.sc.getD j 0)) (fun j => tls.getD j []) i).1 ∧ ∃ q : Nat, a = (q : Int) ∧ q < i ∧ (comF (fun j => decide (0 < o.sc.getD j 0)) (fun j => tls.getD j []) i).2 = (tls.getD q []) := hp.resolve_left fun e => by omega
          have hcm := com_more (al := (fun j => decide (0 < o.sc.getD j 0))) (ps := (fun j => tls.getD j [])) (decide_eq_true ha) (show ¬ (comF (fun j => decide (0 < o.sc.getD j 0)) (fun j => tls.getD j []) i).1 < 0 by omega)
          rw [hf2] at hcm
          have hcl := com_len (fun j => decide (0 < o.sc.getD j 0)) (fun j => tls.getD j []) i
          rw [hf2] at hcl
          obtain ⟨l2, hl2⟩ : ∃ l2 : Nat, (comF (fun j => decide (0 < o.sc.getD j 0)) (fun j => tls.getD j []) i).1 = (l2 : Int) := ⟨(comF (fun j => decide (0 < o.sc.getD j 0)) (fun j => tls.getD j []) i).1.toNat, by omega⟩
          rw [hl2] at hcl hcm
          rw [Int.toNat_natCast] at hcl hcm
          have hpl := hlen i
          have hpq := hlen q
          refine AW.skip ?_
          refine AW.seq ?_
          refine AW.region (by rw [hE]; rfl) ?_
          refine asD rfl ?_
          refine OL.nil ?_
          refine AW.seq ?_
          refine AW.block ?_
          refine AW.whileK (α := Nat) [(1, _), (2, _), (4, _), (5, _), (6, _), (7, _)] [(2, _)] (fun k => [(8, .d (dI k))]) (fun k => []) (fun k => k ≤ min l2 (lcpL (tls.getD i []) (tls.getD q []))) (fun k => min l2 (lcpL (tls.getD i []) (tls.getD q [])) - k) 0 (by repeat (first | exact Knows.nil | refine Knows.cons (by first | exact knD rfl | exact knA rfl | exact knP rfl | exact knO rfl | exact knM rfl | exact knE rfl | exact knR rfl | exact knF rfl | exact knT rfl | exact knJ) ?_)) (.cons (by first | exact owB rfl | exact owR rfl | exact owL rfl | exact owT rfl) .nil) ⟨Nat.zero_le _, .cons (by first | exact VLe.refl _ | exact VLe.int (by omega) | exact VLe.mt | exact vle_q0 | exact VLe.osl | exact VLe.ptr) .nil, .nil⟩ ?_
          intro k h2
          have h2 : k ≤ min l2 (lcpL (tls.getD i []) (tls.getD q [])) := h2
          have hls := lcpL_spec (tls.getD i []) (tls.getD q [])
          have hls1 := hls.1
          refine AW.seq ?_
          refine AW.midK (α := Unit) [(1, _), (2, _), (4, _), (5, _), (6, _), (7, _), (8, _)] [(2, _)] (fun _u => [(55, .d (dB (decide (k < min l2 (lcpL (tls.getD i []) (tls.getD q []))))))]) (fun _u => []) (fun _u => True) (by repeat (first | exact Knows.nil | refine Knows.cons (by first | exact knD rfl | exact knA rfl | exact knP rfl | exact knO rfl | exact knM rfl | exact knE rfl | exact knR rfl | exact knF rfl | exact knT rfl | exact knJ) ?_)) (.cons (by first | exact owB rfl | exact owR rfl | exact owL rfl | exact owT rfl) .nil) ?_ ?_
          · refine AW.region_draw 1 [0, 1, 2, 3, 4, 5, 6, 7, 8, 9, 10, 11, 12, 13, 14, 15, 16, 17, 18, 19, 20, 21, 22, 23, 24, 25, 26, 27, 28] order_free (by rw [hE]; rfl) (by kernel_rfl) (OI.of_OL (os := [_, _, _, _, _, _, _, _, _, _, _, _, _, _, _, _, _, _, _, _, _, _, _, _, _, _, _, _, _]) rfl ?_)
            refine mvD rfl ?_
            refine mvD rfl ?_
            refine c_lss rfl rfl rfl ?_
            refine mvD rfl ?_
            refine OL.split 30 rfl (fun g1 => ?_) (fun g1 => ?_)
            · have g1 : k < l2 := by have g5 : (k : Int) < (comF (fun j => decide (0 < o.sc.getD j 0)) (fun j => tls.getD j []) i).1 := of_decide_eq_true g1; omega
              refine OL.yes rfl ?_
              refine mvD rfl ?_
              refine OL.yes rfl ?_
              refine mvD rfl ?_
              refine OL.yes rfl ?_
              refine mvD rfl ?_
              refine OL.yes rfl ?_
              refine ixLn sl.intss [] rfl rfl (by omega) rfl rfl ?_
              refine OL.yes rfl ?_
              refine ldRC ce.ints rfl ?_
              refine OL.yes rfl ?_
              refine lnL sl.ints rfl rfl ?_
              refine OL.yes rfl ?_
              refine c_lss rfl rfl rfl ?_
              refine pkT rfl rfl ?_
              refine mvD rfl ?_
              refine OL.split 39 rfl (fun g2 => ?_) (fun g2 => ?_)
              · have g2 : k < (tls.getD i []).length := by have := of_decide_eq_true g2; omega
                have hnx := lcp_next g2 (show k < (tls.getD q []).length by omega) (by omega)
                refine OL.yes rfl ?_
                refine mvD rfl ?_
                refine OL.yes rfl ?_
                refine mvD rfl ?_
                refine OL.yes rfl ?_
                refine ixLn sl.intss [] rfl rfl (by omega) rfl rfl ?_
                refine OL.yes rfl ?_
                refine ldRC ce.ints rfl ?_
                refine OL.yes rfl ?_
                refine mvD rfl ?_
                refine OL.yes rfl ?_
                refine ixLn sl.ints 0 rfl rfl (by omega) rfl rfl ?_
                refine OL.yes rfl ?_
                refine ldRC ce.int rfl ?_
                refine OL.yes rfl ?_
                refine mvD rfl ?_
                refine OL.yes rfl ?_
                refine mvD rfl ?_
                refine OL.yes rfl ?_
                refine ixLn sl.intss [] rfl rfl (by omega) rfl rfl ?_
                refine OL.yes rfl ?_
                refine ldRC ce.ints rfl ?_
                refine OL.yes rfl ?_
                refine mvD rfl ?_
                refine OL.yes rfl ?_
                refine ixLn sl.ints 0 rfl rfl (by omega) rfl rfl ?_
                refine OL.yes rfl ?_
                refine ldRC ce.int rfl ?_
                refine OL.yes rfl ?_
                refine c_eql rfl rfl rfl ?_
                refine pkT rfl rfl ?_
                refine OL.nil ?_
                exact AW.reach () ⟨trivial, Knows.app (.cons (VLe.refl _) (.cons (VLe.refl _) (.cons (VLe.refl _) (.cons (VLe.refl _) (.cons (VLe.refl _) (.cons (VLe.refl _) (.cons (VLe.refl _) .nil))))))) (.cons (VLe.bool (decide_eq_decide.2 ⟨fun e => by have := hnx.1 e; omega, fun e => hnx.2 (by omega)⟩)) .nil), Owns.app (.cons rfl .nil) (.nil)⟩
              · have g2 : ¬ k < (tls.getD i []).length := by have := of_decide_eq_false g2; omega
                refine OL.no rfl (by decide) ?_
                refine OL.no rfl (by decide) ?_
                refine OL.no rfl (by decide) ?_
                refine OL.no rfl (by decide) ?_
                refine OL.no rfl (by decide) ?_
                refine OL.no rfl (by decide) ?_
                refine OL.no rfl (by decide) ?_
                refine OL.no rfl (by decide) ?_
                refine OL.no rfl (by decide) ?_
                refine OL.no rfl (by decide) ?_
                refine OL.no rfl (by decide) ?_
                refine OL.no rfl (by decide) ?_
                refine OL.no rfl (by decide) ?_
                refine OL.no rfl (by decide) ?_
                refine OL.no rfl (by decide) ?_
                refine pkF rfl rfl ?_
                refine OL.nil ?_
                exact AW.reach () ⟨trivial, Knows.app (.cons (VLe.refl _) (.cons (VLe.refl _) (.cons (VLe.refl _) (.cons (VLe.refl _) (.cons (VLe.refl _) (.cons (VLe.refl _) (.cons (VLe.refl _) .nil))))))) (.cons (VLe.bool ((decide_eq_false (by omega)).symm)) .nil), Owns.app (.cons rfl .nil) (.nil)⟩
            · have g1 : ¬ k < l2 := by have g5 : ¬ (k : Int) < (comF (fun j => decide (0 < o.sc.getD j 0)) (fun j => tls.getD j []) i).1 := of_decide_eq_false g1; omega
              refine OL.no rfl (by decide) ?_
              refine OL.no rfl (by decide) ?_
              refine OL.no rfl (by decide) ?_
              refine OL.no rfl (by decide) ?_
              refine OL.no rfl (by decide) ?_
              refine OL.no rfl (by decide) ?_
              refine OL.no rfl (by decide) ?_
              refine pkF rfl rfl ?_
              refine mvD rfl ?_
              refine OL.no rfl (by decide) ?_
              refine OL.no rfl (by decide) ?_
              refine OL.no rfl (by decide) ?_
              refine OL.no rfl (by decide) ?_
              refine OL.no rfl (by decide) ?_
              refine OL.no rfl (by decide) ?_
              refine OL.no rfl (by decide) ?_
              refine OL.no rfl (by decide) ?_
              refine OL.no rfl (by decide) ?_
              refine OL.no rfl (by decide) ?_
              refine OL.no rfl (by decide) ?_
              refine OL.no rfl (by decide) ?_
              refine OL.no rfl (by decide) ?_
              refine OL.no rfl (by decide) ?_
              refine OL.no rfl (by decide) ?_
              refine pkF rfl rfl ?_
              refine OL.nil ?_
              exact AW.reach () ⟨trivial, Knows.app (.cons (VLe.refl _) (.cons (VLe.refl _) (.cons (VLe.refl _) (.cons (VLe.refl _) (.cons (VLe.refl _) (.cons (VLe.refl _) (.cons (VLe.refl _) .nil))))))) (.cons (VLe.bool ((decide_eq_false (by omega)).symm)) .nil), Owns.app (.cons rfl .nil) (.nil)⟩
          rintro ⟨⟩ hφ
          refine AW.cond rfl (fun gk => ?_) (fun gk => ?_)
          · have gk := of_decide_eq_true gk
            refine AW.skip ?_
            refine AW.block ?_
            refine AW.region (by rw [hE]; rfl) ?_
            refine mvD rfl ?_
            refine add_i64 rfl rfl (by omega) ?_
            refine asD rfl ?_
            refine OL.nil ?_
            exact AW.again (x := k) (k + 1) (by first | omega | (simp only []; omega)) ⟨by omega, Knows.app (.cons (VLe.refl _) (.cons (VLe.refl _) (.cons (VLe.refl _) (.cons (VLe.refl _) (.cons (VLe.refl _) (.cons (VLe.refl _) .nil)))))) (.cons (by first | exact VLe.refl _ | exact VLe.int (by omega) | exact VLe.mt | exact vle_q0 | exact VLe.osl | exact VLe.ptr) .nil), Owns.app (.cons rfl .nil) (.nil)⟩
          · have gk := of_decide_eq_false gk
            refine AW.exit ?_
            have hk : k = min l2 (lcpL (tls.getD i []) (tls.getD q [])) := by omega
            refine AW.region (by rw [hE]; rfl) ?_
            refine mvD rfl ?_
            refine asD rfl ?_
            refine OL.nil ?_
            exact AW.reach (q : Int) ⟨by rw [hcm]; exact .inr ⟨by simp only []; omega, q, rfl, Nat.lt_succ_of_lt hq, rfl⟩, Knows.app (.cons (VLe.refl _) (.cons (VLe.refl _) (.cons (VLe.refl _) (.cons (VLe.refl _) .nil)))) (.cons (VLe.int (by rw [hcm, hk])) (.cons (by first | exact VLe.refl _ | exact VLe.int (by omega) | exact VLe.mt | exact vle_q0 | exact VLe.osl | exact VLe.ptr) .nil)), Owns.app (.cons rfl .nil) (.nil)⟩
    rintro a2 hφ
    refine AW.region (by rw [hE]; rfl) ?_
    refine mvD rfl ?_
    refine add_i64 rfl rfl (by omega) ?_
    refine asD rfl ?_
    refine OL.nil ?_
    exact AW.again (x := (i, a)) (i + 1, a2) (by first | omega | (simp only []; omega)) ⟨⟨by omega, hφ⟩, Knows.app (.cons (VLe.refl _) (.cons (VLe.refl _) (.cons (VLe.refl _) .nil))) (.cons (by first | exact VLe.refl _ | exact VLe.int (by omega) | exact VLe.mt | exact vle_q0 | exact VLe.osl | exact VLe.ptr) (.cons (by first | exact VLe.refl _ | exact VLe.int (by omega) | exact VLe.mt | exact vle_q0 | exact VLe.osl | exact VLe.ptr) (.cons (by first | exact VLe.refl _ | exact VLe.int (by omega) | exact VLe.mt | exact vle_q0 | exact VLe.osl | exact VLe.ptr) .nil))), Owns.app (.cons rfl .nil) (.nil)⟩
  · first | (simp only [decide_eq_true_eq, decide_eq_false_iff_not, Bool.not_eq_true', Bool.not_eq_false', Bool.not_not, Bool.and_eq_true, Bool.and_eq_false_iff, Bool.or_eq_true, Bool.or_eq_false_iff] at h12) | skip
    refine AW.exit ?_
    refine AW.seq ?_
    obtain rfl : i = n := by omega
    refine AW.region (by rw [hE]; rfl) ?_
    refine mvD rfl ?_
    refine asD rfl ?_
    refine OL.nil ?_
    exact AW.ret (RetQ.r ⟨_, .tmp rfl .nil, .le (by first | exact VLe.refl _ | exact VLe.mt | exact vle_q0 | exact VLe.int (by omega) | exact VLe.bool (by simp_all))⟩)
set_option maxRecDepth 4000 in
set_option maxHeartbeats 1600000 in
theorem ref37_Valid {h : HM} {B : Nat} {u : List Int} {o : Dec} (g : h.Good B) (k : InvD h u o) (hu : u.length ≤ 256) : FSpec P F.ref37_Valid [vOn h o] (.d (dB true)) := by
  have f := g.form
  have n1 := f.st1
  have kle := k.le
  have hz := k.small
  have hC : 1 ≤ 1 + 2048 * o.t ∧ 1 + 2048 * o.t ≤ 68719476736 := by omega
  have htl := tails_len k hu
  have hdl := done_len k hu
  refine FSpec.intro fn.ref37_Valid (by rfl) (by rfl) (Nat.le_of_ble_eq_true (by rfl)) fun E hE => ?_
  refine AW.seq ?_
  refine AW.region (by rw [hE]; rfl) ?_
  refine bxA rfl rfl fun b1 => ?_
  refine asD rfl ?_
  refine OL.nil ?_
  refine AW.seq ?_
  refine AW.seq ?_
  refine AW.region (by rw [hE]; rfl) ?_
  refine faP fd.Online_0 rfl rfl ?_
  refine ldPA ag.Hidden rfl rfl (vs := [_, _, _, _, _, _, _, _, _, _, _]) rfl (Nat.le_of_ble_eq_true rfl) ?_
  refine clv rfl (.cons (VLe.refl _) (.nil)) (ref33_Plain g) ?_
  refine nt rfl ?_
  refine mvD rfl ?_
  refine OL.yes rfl ?_
  refine faP fd.Online_1 rfl rfl ?_
  refine OL.yes rfl ?_
  refine ldPC ce.int rfl rfl rfl ?_
  refine OL.yes rfl ?_
  refine c_lss rfl rfl (c := false) (by first | exact decide_eq_true (by omega) | exact decide_eq_false (by omega) | exact cne_f (by omega) | exact cne_t (by omega) | rfl) ?_
  refine pkF rfl rfl ?_
  refine mvD rfl ?_
  refine OL.yes rfl ?_
  refine faP fd.Online_1 rfl rfl ?_
  refine OL.yes rfl ?_
  refine ldPC ce.int rfl rfl rfl ?_
  refine OL.yes rfl ?_
  refine c_gtr rfl rfl (c := false) (by first | exact decide_eq_true (by omega) | exact decide_eq_false (by omega) | exact cne_f (by omega) | exact cne_t (by omega) | rfl) ?_
  refine pkF rfl rfl ?_
  refine OL.nil ?_
  refine AW.cond rfl (fun hno => absurd hno (by decide)) (fun _ => ?_)
  refine AW.skip ?_
  refine AW.seq ?_
  refine AW.seq ?_
  refine AW.region (by rw [hE]; rfl) ?_
  refine faP fd.Online_1 rfl rfl ?_
  refine ldPC ce.int rfl rfl rfl ?_
  refine c_eql rfl rfl rfl ?_
  refine OL.nil ?_
  refine AW.cond rfl (fun h0 => ?_) (fun h0 => ?_)
  · have h0 : o.t = 0 := by have := of_decide_eq_true h0; omega
    obtain ⟨e1, e2, e3⟩ := k.zero h0
    refine AW.seq ?_
    refine AW.region (by rw [hE]; rfl) ?_
    refine faP fd.Online_2 rfl rfl ?_
    refine ldPC ce.Rats rfl rfl rfl ?_
    refine lnL sl.Rats rfl rfl ?_
    refine c_eql rfl rfl (c := true) (decide_eq_true (by rw [e1]; rfl)) ?_
    refine mvD rfl ?_
    refine OL.yes rfl ?_
    refine faP fd.Online_3 rfl rfl ?_
    refine OL.yes rfl ?_
    refine ldPC ce.intss rfl rfl rfl ?_
    refine OL.yes rfl ?_
    refine lnL sl.intss rfl rfl ?_
    refine OL.yes rfl ?_
    refine c_eql rfl rfl (c := true) (decide_eq_true (by rw [e2]; rfl)) ?_
    refine pkT rfl rfl ?_
    refine mvD rfl ?_
    refine OL.yes rfl ?_
    refine faP fd.Online_4 rfl rfl ?_
    refine OL.yes rfl ?_
    refine ldPC ce.ints rfl rfl rfl ?_
    refine OL.yes rfl ?_
    refine lnL sl.ints rfl rfl ?_
    refine OL.yes rfl ?_
    refine c_eql rfl rfl (c := true) (decide_eq_true (by rw [e3]; rfl)) ?_
    refine pkT rfl rfl ?_
    refine asD rfl ?_
    refine OL.nil ?_
    exact AW.ret (RetQ.r ⟨_, .tmp rfl .nil, .le (by first | exact VLe.refl _ | exact VLe.mt | exact vle_q0 | exact VLe.int (by omega) | exact VLe.bool (by simp_all))⟩)
  · have h0 : o.t ≠ 0 := fun e => of_decide_eq_false h0 (by omega)
    obtain ⟨l1, l2⟩ := k.len h0
    have hd := k.heads h0
    obtain ⟨j0, hj0, hp0⟩ := k.some h0
    have hall := (pathsF_mem (hd.live j0 hj0 hp0).1).2
    refine AW.skip ?_
    refine AW.seq ?_
    refine AW.region (by rw [hE]; rfl) ?_
    refine faP fd.Online_0 rfl rfl ?_
    refine faP fd.Hidden_1 rfl rfl ?_
    refine ldPC ce.int rfl rfl rfl ?_
    refine asD rfl ?_
    refine OL.nil ?_
    refine AW.seq ?_
    refine AW.seq ?_
    refine AW.region (by rw [hE]; rfl) ?_
    refine faP fd.Online_2 rfl rfl ?_
    refine ldPC ce.Rats rfl rfl rfl ?_
    refine lnL sl.Rats rfl rfl ?_
    refine mvD rfl ?_
    refine c_neq rfl rfl (c := false) (by first | exact decide_eq_true (by omega) | exact decide_eq_false (by omega) | exact cne_f (by omega) | exact cne_t (by omega) | rfl) ?_
    refine mvD rfl ?_
    refine OL.yes rfl ?_
    refine faP fd.Online_3 rfl rfl ?_
    refine OL.yes rfl ?_
    refine ldPC ce.intss rfl rfl rfl ?_
    refine OL.yes rfl ?_
    refine lnL sl.intss rfl rfl ?_
    refine OL.yes rfl ?_
    refine mvD rfl ?_
    refine OL.yes rfl ?_
    refine c_neq rfl rfl (c := false) (by first | exact decide_eq_true (by omega) | exact decide_eq_false (by omega) | exact cne_f (by omega) | exact cne_t (by omega) | rfl) ?_
    refine pkF rfl rfl ?_
    refine mvD rfl ?_
    refine OL.yes rfl ?_
    refine faP fd.Online_4 rfl rfl ?_
    refine OL.yes rfl ?_
    refine ldPC ce.ints rfl rfl rfl ?_
    refine OL.yes rfl ?_
    refine mvD rfl ?_
    refine OL.yes rfl ?_
    refine clv rfl (.cons (VLe.refl _) (.cons (VLe.refl _) (.nil))) (ref37_good (by omega) fun x hx => hall x (List.mem_append.2 (.inl hx))) ?_
    refine OL.yes rfl ?_
    refine nt rfl ?_
    refine pkF rfl rfl ?_
    refine OL.nil ?_
    refine AW.cond rfl (fun hno => absurd hno (by decide)) (fun _ => ?_)
    refine AW.skip ?_
    refine AW.seq ?_
    refine AW.region (by rw [hE]; rfl) ?_
    refine asD rfl ?_
    refine OL.nil ?_
    refine AW.seq ?_
    refine AW.seq ?_
    refine AW.region (by rw [hE]; rfl) ?_
    refine asD rfl ?_
    refine OL.nil ?_
    refine AW.block ?_
    refine AW.whileK (α := Nat) [(1, _), (3, _)] [(1, _)] (fun i => [(4, .d (dB (liveB o i))), (5, .d (dI i))]) (fun i => []) (fun i => i ≤ h.st) (fun i => h.st - i) 0 (by repeat (first | exact Knows.nil | refine Knows.cons (by first | exact knD rfl | exact knA rfl | exact knP rfl | exact knO rfl | exact knM rfl | exact knE rfl | exact knR rfl | exact knF rfl | exact knT rfl | exact knJ) ?_)) (.cons (by first | exact owB rfl | exact owR rfl | exact owL rfl | exact owT rfl) .nil) ⟨Nat.zero_le _, .cons (by first | exact VLe.refl _ | exact VLe.int (by omega) | exact VLe.mt | exact vle_q0 | exact VLe.osl | exact VLe.ptr) (.cons (by first | exact VLe.refl _ | exact VLe.int (by omega) | exact VLe.mt | exact vle_q0 | exact VLe.osl | exact VLe.ptr) .nil), .nil⟩ ?_
    intro i h1
    have h1 : i ≤ h.st := h1
    refine AW.seq ?_
    refine AW.seq ?_
    refine AW.region (by rw [hE]; rfl) ?_
    refine mvD rfl ?_
    refine mvD rfl ?_
    refine c_lss rfl rfl rfl ?_
    refine OL.nil ?_
    refine AW.cond rfl (fun h64 => ?_) (fun h64 => ?_)
    · first | (simp only [decide_eq_true_eq, decide_eq_false_iff_not, Bool.not_eq_true', Bool.not_eq_false', Bool.not_not, Bool.and_eq_true, Bool.and_eq_false_iff, Bool.or_eq_true, Bool.or_eq_false_iff] at h64) | skip
      refine AW.skip ?_
      refine AW.midK (α := Unit) [(1, _), (3, _), (5, _)] [(1, _)] (fun _u => [(4, .d (dB (liveB o (i + 1))))]) (fun _u => []) (fun _u => True) (by repeat (first | exact Knows.nil | refine Knows.cons (by first | exact knD rfl | exact knA rfl | exact knP rfl | exact knO rfl | exact knM rfl | exact knE rfl | exact knR rfl | exact knF rfl | exact knT rfl | exact knJ) ?_)) (.cons (by first | exact owB rfl | exact owR rfl | exact owL rfl | exact owT rfl) .nil) ?_ ?_
      · refine AW.block ?_
        refine AW.seq ?_
        refine AW.seq ?_
        have hi : i < h.st := by omega
        have zi : sz (o.sc.getD i 0) ≤ 1 + 2048 * o.t := hz.get hC.1 i
        have htli := htl i
        have hgt : ∀ x, x ∈ o.tl.getD i [] → 0 ≤ x ∧ x < (h.st : Int) := fun x hx => by
          by_cases e : 0 < o.sc.getD i 0
          · exact (pathsF_mem (hd.live i hi e).1).2 x (List.mem_append.2 (.inr hx))
          · rw [k.dead i e] at hx; simp at hx
        refine AW.region (by rw [hE]; rfl) ?_
        refine faP fd.Online_2 rfl rfl ?_
        refine ldPC ce.Rats rfl rfl rfl ?_
        refine mvD rfl ?_
        refine ixLn sl.Rats 0 rfl rfl (by omega) rfl rfl ?_
        refine ldRA ag.Rat rfl (vs := [_, _, _]) rfl (Nat.le_of_ble_eq_true rfl) ?_
        refine clv rfl (.cons (VLe.refl _) (.nil)) (ref33_Chance (inv_share g k h0 hi) (by omega)) ?_
        refine nt rfl ?_
        refine mvD rfl ?_
        refine OL.yes rfl ?_
        refine faP fd.Online_3 rfl rfl ?_
        refine OL.yes rfl ?_
        refine ldPC ce.intss rfl rfl rfl ?_
        refine OL.yes rfl ?_
        refine mvD rfl ?_
        refine OL.yes rfl ?_
        refine ixLn sl.intss [] rfl rfl (by omega) rfl rfl ?_
        refine OL.yes rfl ?_
        refine ldRC ce.ints rfl ?_
        refine OL.yes rfl ?_
        refine mvD rfl ?_
        refine OL.yes rfl ?_
        refine clv rfl (.cons (VLe.refl _) (.cons (VLe.refl _) (.nil))) (ref37_good (by omega) hgt) ?_
        refine OL.yes rfl ?_
        refine nt rfl ?_
        refine pkF rfl rfl ?_
        refine OL.nil ?_
        refine AW.cond rfl (fun hno => absurd hno (by decide)) (fun _ => ?_)
        refine AW.skip ?_
        refine AW.seq ?_
        refine AW.seq ?_
        refine AW.region (by rw [hE]; rfl) ?_
        refine ldPA ag.Online rfl rfl (vs := [_, _, _, _, _, _, _, _, _, _, _, _, _, _, _]) rfl (Nat.le_of_ble_eq_true rfl) ?_
        refine mvD rfl ?_
        refine clv rfl (.cons (VLe.refl _) (.cons (VLe.refl _) (.nil))) (ref37_live hz hC (by omega)) ?_
        refine nt rfl ?_
        refine OL.nil ?_
        refine AW.cond rfl (fun ha => ?_) (fun ha => ?_)
        · have ha : ¬ 0 < o.sc.getD i 0 := fun e => by rw [decide_eq_true e] at ha; cases ha
          have hdd := k.dead i ha
          refine AW.seq ?_
          refine AW.seq ?_
          refine AW.region (by rw [hE]; rfl) ?_
          refine faP fd.Online_3 rfl rfl ?_
          refine ldPC ce.intss rfl rfl rfl ?_
          refine mvD rfl ?_
          refine ixLn sl.intss [] rfl rfl (by omega) rfl rfl ?_
          refine ldRC ce.ints rfl ?_
          refine lnL sl.ints rfl rfl ?_
          refine c_gtr rfl rfl (c := false) (decide_eq_false (by rw [hdd]; decide)) ?_
          refine OL.nil ?_
          refine AW.cond rfl (fun hno => absurd hno (by decide)) (fun _ => ?_)
          refine AW.skip ?_
          refine AW.exit ?_
          exact AW.reach () ⟨trivial, Knows.app (.cons (VLe.refl _) (.cons (VLe.refl _) (.cons (VLe.refl _) .nil))) (.cons (VLe.bool (by rw [liveB, if_neg ha])) .nil), Owns.app (.cons rfl .nil) (.nil)⟩
        · have ha : 0 < o.sc.getD i 0 := by cases hd : decide (0 < o.sc.getD i 0) with | true => exact of_decide_eq_true hd | false => rw [hd] at ha; cases ha
          obtain ⟨m1, m2, _⟩ := hd.live i hi ha
          have hwl := (pathsF_mem m1).1
          have hlast := (atP_lt m1 (show o.t - 1 < o.t by omega)).2
          rw [m2] at hlast
          refine AW.skip ?_
          refine AW.seq ?_
          refine AW.region (by rw [hE]; rfl) ?_
          refine asD rfl ?_
          refine OL.nil ?_
          refine AW.seq ?_
          refine AW.region_draw 2 [0, 1, 2, 4, 5, 6, 7, 8, 3, 9, 10] order_free (by rw [hE]; rfl) (by kernel_rfl) (OI.of_OL (os := [_, _, _, _, _, _, _, _, _, _, _]) rfl ?_)
          refine lt0 sl.ints ?_
          refine faP fd.Online_4 rfl rfl ?_
          refine ldPC ce.ints rfl rfl rfl ?_
          refine faP fd.Online_3 rfl rfl ?_
          refine ldPC ce.intss rfl rfl rfl ?_
          refine mvD rfl ?_
          refine ixLn sl.intss [] rfl rfl (by omega) rfl rfl ?_
          refine ldRC ce.ints rfl ?_
          refine apM sl.ints rfl rfl (VC.d _) dI_len (by rw [List.length_map]; omega) (by rw [List.length_map]; omega) rfl fun b98 c98 => ?_
          refine apOD sl.ints rfl rfl rfl rfl (VC.d _) dI_len (by simp only [List.length_map]; omega) (by simp only [List.length_map]; omega) (.inl rfl) (ys := (o.dn ++ o.tl.getD i []).map dI) (by rw [List.map_append]) ?_
          refine asD rfl ?_
          refine OL.nil ?_
          refine AW.seq ?_
          refine AW.region (by rw [hE]; rfl) ?_
          refine mvD rfl ?_
          refine lnL sl.ints rfl rfl ?_
          refine faP fd.Online_1 rfl rfl ?_
          refine ldPC ce.int rfl rfl rfl ?_
          refine c_neq rfl rfl (c := false) (cne_f (by rw [hwl])) ?_
          refine mvD rfl ?_
          refine OL.yes rfl ?_
          refine mvD rfl ?_
          refine OL.yes rfl ?_
          refine mvD rfl ?_
          refine OL.yes rfl ?_
          refine lnL sl.ints rfl rfl ?_
          refine OL.yes rfl ?_
          refine bo rfl rfl (bin_sub (c := ((o.t - 1 : Nat) : Int)) (by omega) (wrap_i64 (by omega))) ?_
          refine OL.yes rfl ?_
          refine ixLn sl.ints 0 rfl rfl (by omega) rfl rfl ?_
          refine OL.yes rfl ?_
          refine ldRC ce.int rfl ?_
          rw [hlast]
          refine OL.yes rfl ?_
          refine mvD rfl ?_
          refine OL.yes rfl ?_
          refine c_neq rfl rfl (c := false) (by first | exact decide_eq_true (by omega) | exact decide_eq_false (by omega) | exact cne_f (by omega) | exact cne_t (by omega) | rfl) ?_
          refine pkF rfl rfl ?_
          refine OL.nil ?_
          refine AW.cond rfl (fun hno => absurd hno (by decide)) (fun _ => ?_)
          refine AW.skip ?_
          exact AW.reach () ⟨trivial, Knows.app (.cons (VLe.refl _) (.cons (VLe.refl _) (.cons (VLe.refl _) .nil))) (.cons (VLe.bool (by rw [liveB, if_pos ha])) .nil), Owns.app (.cons rfl .nil) (.nil)⟩
      rintro ⟨⟩ hφ
      refine AW.region (by rw [hE]; rfl) ?_
      refine mvD rfl ?_
      refine add_i64 rfl rfl (by omega) ?_
      refine asD rfl ?_
      refine OL.nil ?_
      exact AW.again (x := i) (i + 1) (by first | omega | (simp only []; omega)) ⟨by omega, Knows.app (.cons (VLe.refl _) (.cons (VLe.refl _) .nil)) (.cons (by first | exact VLe.refl _ | exact VLe.int (by omega) | exact VLe.mt | exact vle_q0 | exact VLe.osl | exact VLe.ptr) (.cons (by first | exact VLe.refl _ | exact VLe.int (by omega) | exact VLe.mt | exact vle_q0 | exact VLe.osl | exact VLe.ptr) .nil)), Owns.app (.cons rfl .nil) (.nil)⟩
    · first | (simp only [decide_eq_true_eq, decide_eq_false_iff_not, Bool.not_eq_true', Bool.not_eq_false', Bool.not_not, Bool.and_eq_true, Bool.and_eq_false_iff, Bool.or_eq_true, Bool.or_eq_false_iff] at h64) | skip
      refine AW.exit ?_
      refine AW.seq ?_
      obtain rfl : i = h.st := by omega
      rw [liveB_of hj0 hp0]
      refine AW.region (by rw [hE]; rfl) ?_
      refine mvD rfl ?_
      refine mvD rfl ?_
      refine OL.yes rfl ?_
      refine ldPA ag.Online rfl rfl (vs := [_, _, _, _, _, _, _, _, _, _, _, _, _, _, _]) rfl (Nat.le_of_ble_eq_true rfl) ?_
      refine OL.yes rfl ?_
      refine faP fd.Online_3 rfl rfl ?_
      refine OL.yes rfl ?_
      refine ldPC ce.intss rfl rfl rfl ?_
      refine OL.yes rfl ?_
      refine clv rfl (.cons (VLe.refl _) (.cons (VLe.refl _) (.nil))) (ref37_common hz hC l1 l2 (by omega) (fun j => by have := htl j; omega)) ?_
      refine OL.yes rfl ?_
      refine c_eql rfl rfl (c := true) (decide_eq_true (k.com h0)) ?_
      refine pkT rfl rfl ?_
      refine asD rfl ?_
      refine OL.nil ?_
      exact AW.ret (RetQ.r ⟨_, .tmp rfl .nil, .le (by first | exact VLe.refl _ | exact VLe.mt | exact vle_q0 | exact VLe.int (by omega) | exact VLe.bool (by simp_all))⟩)
set_option maxRecDepth 4000 in
set_option maxHeartbeats 1600000 in
theorem ref37_Open {h : HM} {B : Nat} (g : h.Good B) : FSpec P F.ref37_Open [vHM h] (.tup [vOn h ⟨0, [], [], []⟩, .d (dI 0)]) := by
  refine FSpec.intro fn.ref37_Open (by rfl) (by rfl) (Nat.le_of_ble_eq_true (by rfl)) fun E hE => ?_
  refine AW.seq ?_
  refine AW.region (by rw [hE]; rfl) ?_
  refine bxA rfl rfl fun b1 => ?_
  refine al z.Online rfl fun b2 => ?_
  refine asD rfl ?_
  refine OL.nil ?_
  refine AW.seq ?_
  refine AW.seq ?_
  refine AW.region (by rw [hE]; rfl) ?_
  refine ldPA ag.Hidden rfl rfl (vs := [_, _, _, _, _, _, _, _, _, _, _]) rfl (Nat.le_of_ble_eq_true rfl) ?_
  refine clv rfl (.cons (VLe.refl _) (.nil)) (ref33_Check g) ?_
  refine asD rfl ?_
  refine OL.nil ?_
  refine AW.seq ?_
  refine AW.region (by rw [hE]; rfl) ?_
  refine mvD rfl ?_
  refine c_neq rfl rfl (c := false) (by first | exact decide_eq_true (by omega) | exact decide_eq_false (by omega) | exact cne_f (by omega) | exact cne_t (by omega) | rfl) ?_
  refine OL.nil ?_
  refine AW.cond rfl (fun hno => absurd hno (by decide)) (fun _ => ?_)
  refine AW.skip ?_
  refine AW.seq ?_
  refine AW.region (by rw [hE]; rfl) ?_
  refine ldPA ag.Hidden rfl rfl (vs := [_, _, _, _, _, _, _, _, _, _, _]) rfl (Nat.le_of_ble_eq_true rfl) ?_
  refine bd z.Online pl.Online (cs := [_, _, _, _, _, _, _, _, _, _, _, _, _, _, _]) rfl ?_
  refine sto sz.Online rfl rfl rfl rfl rfl (Nat.le_of_ble_eq_true rfl) (cells2 := [_, _, _, _, _, _, _, _, _, _, _, _, _, _, _]) rfl ?_
  refine asD rfl ?_
  refine OL.nil ?_
  exact AW.ret (RetQ.r ⟨_, .cellA rfl rfl ag.Online (Nat.le_of_ble_eq_true rfl) (.tmp rfl .nil), _, .cons (.ag (.cons (.le (by first | exact VLe.refl _ | exact VLe.mt | exact vle_q0 | exact VLe.int (by omega) | exact VLe.bool (by simp_all))) (.cons (.le (by first | exact VLe.refl _ | exact VLe.mt | exact vle_q0 | exact VLe.int (by omega) | exact VLe.bool (by simp_all))) (.cons (.le (by first | exact VLe.refl _ | exact VLe.mt | exact vle_q0 | exact VLe.int (by omega) | exact VLe.bool (by simp_all))) (.cons (.le (by first | exact VLe.refl _ | exact VLe.mt | exact vle_q0 | exact VLe.int (by omega) | exact VLe.bool (by simp_all))) (.cons (.le (by first | exact VLe.refl _ | exact VLe.mt | exact vle_q0 | exact VLe.int (by omega) | exact VLe.bool (by simp_all))) (.cons (.le (by first | exact VLe.refl _ | exact VLe.mt | exact vle_q0 | exact VLe.int (by omega) | exact VLe.bool (by simp_all))) (.cons (.le (by first | exact VLe.refl _ | exact VLe.mt | exact vle_q0 | exact VLe.int (by omega) | exact VLe.bool (by simp_all))) (.cons (.le (by first | exact VLe.refl _ | exact VLe.mt | exact vle_q0 | exact VLe.int (by omega) | exact VLe.bool (by simp_all))) (.cons (.le (by first | exact VLe.refl _ | exact VLe.mt | exact vle_q0 | exact VLe.int (by omega) | exact VLe.bool (by simp_all))) (.cons (.le (by first | exact VLe.refl _ | exact VLe.mt | exact vle_q0 | exact VLe.int (by omega) | exact VLe.bool (by simp_all))) (.cons (.le (by first | exact VLe.refl _ | exact VLe.mt | exact vle_q0 | exact VLe.int (by omega) | exact VLe.bool (by simp_all))) (.cons (.le (by first | exact VLe.refl _ | exact VLe.mt | exact vle_q0 | exact VLe.int (by omega) | exact VLe.bool (by simp_all))) (.cons (.le (by first | exact VLe.refl _ | exact VLe.mt | exact vle_q0 | exact VLe.int (by omega) | exact VLe.bool (by simp_all))) (.cons (.le (by first | exact VLe.refl _ | exact VLe.mt | exact vle_q0 | exact VLe.int (by omega) | exact VLe.bool (by simp_all))) (.cons (.le (by first | exact VLe.refl _ | exact VLe.mt | exact vle_q0 | exact VLe.int (by omega) | exact VLe.bool (by simp_all))) .nil)))))))))))))))) (.cons (.le (by first | exact VLe.refl _ | exact VLe.mt | exact vle_q0 | exact VLe.int (by omega) | exact VLe.bool (by simp_all))) .nil), rfl⟩)
end Go.Proofs.YtcebciggodhmcaaGreat

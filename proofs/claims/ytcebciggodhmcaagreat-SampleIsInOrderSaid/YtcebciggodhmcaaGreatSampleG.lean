/-
  Walks of drawings, part 7: the runs of all lists of bits; the law SampleIsInOrder (printed by mk2.py).
-/
import Derived.Test.YtcebciggodhmcaaGreatSampleE
import Derived.Test.YtcebciggodhmcaaGreatMod40g
set_option linter.unusedVariables false
set_option linter.unusedSimpArgs false
namespace Go.Proofs.YtcebciggodhmcaaGreat
open Go Go.AL
abbrev dDr (x : DRun) : D := .ag [ints x.st, ints x.w, dI x.u]

theorem equal_ints {l m : List Int} (nl : l.length ≤ 9223372036854775807) : FSpec P F.slices_Equal_ints_int [.d (ints l), .d (ints m)] (.d (dB (decide (l = m)))) := by
  refine FSpec.intro fn.slices_Equal_ints_int (by rfl) (by rfl) (Nat.le_of_ble_eq_true (by rfl)) fun E hE => ?_
  refine AW.seq ?_
  refine AW.region (by rw [hE]; rfl) ?_
  refine asD rfl ?_
  refine OL.nil ?_
  refine AW.seq ?_
  refine AW.seq ?_
  refine AW.region (by rw [hE]; rfl) ?_
  first | refine mvD rfl ?_ | refine mvO rfl ?_ | refine mvM rfl ?_
  first | refine lnL sl.ints rfl rfl ?_ | refine lnO sl.ints rfl rfl ?_ | refine lnM sl.ints rfl rfl ?_ | refine lnD sl.ints rfl rfl rfl ?_
  first | refine mvD rfl ?_ | refine mvO rfl ?_ | refine mvM rfl ?_
  first | refine lnL sl.ints rfl rfl ?_ | refine lnO sl.ints rfl rfl ?_ | refine lnM sl.ints rfl rfl ?_ | refine lnD sl.ints rfl rfl rfl ?_
  refine c_neq rfl rfl rfl ?_
  refine OL.nil ?_
  refine AW.cond rfl (fun h10 => ?_) (fun h10 => ?_)
  · have hl : l.length ≠ m.length := by simp at h10; omega
    refine AW.seq ?_
    refine AW.region (by rw [hE]; rfl) ?_
    refine asD rfl ?_
    refine OL.nil ?_
    exact AW.ret (RetQ.r ⟨_, .tmp rfl .nil, .le (VLe.bool ((decide_eq_false fun e => hl (by rw [e])).symm))⟩)
  · have hl : l.length = m.length := by simp at h10; omega
    refine AW.skip ?_
    refine AW.seq ?_
    refine AW.seq ?_
    refine AW.region (by rw [hE]; rfl) ?_
    first | refine mvD rfl ?_ | refine mvO rfl ?_ | refine mvM rfl ?_
    first | refine lnL sl.ints rfl rfl ?_ | refine lnO sl.ints rfl rfl ?_ | refine lnM sl.ints rfl rfl ?_ | refine lnD sl.ints rfl rfl rfl ?_
    refine mvD rfl ?_
    refine OL.nil ?_
    refine AW.block ?_
    refine AW.whileK (α := Nat) [(0, _), (1, _), (12, _)] [] (fun i => [(13, .d (dI i))]) (fun i => []) (fun i => i ≤ l.length ∧ ∀ j, j < i → l.getD j 0 = m.getD j 0) (fun i => l.length - i) 0 (.cons (by first | exact knD rfl | exact knA rfl | exact knP rfl | exact knO rfl | exact knM rfl | exact knE rfl | exact knR rfl | exact knF rfl | exact knT rfl | exact knJ) (.cons (by first | exact knD rfl | exact knA rfl | exact knP rfl | exact knO rfl | exact knM rfl | exact knE rfl | exact knR rfl | exact knF rfl | exact knT rfl | exact knJ) (.cons (by first | exact knD rfl | exact knA rfl | exact knP rfl | exact knO rfl | exact knM rfl | exact knE rfl | exact knR rfl | exact knF rfl | exact knT rfl | exact knJ) .nil))) (.nil) ⟨⟨Nat.zero_le _, fun j hj => by omega⟩, .cons (by first | exact VLe.refl _ | exact VLe.int (by omega) | exact VLe.mt | exact vle_q0 | exact VLe.osl | exact VLe.ptr) .nil, .nil⟩ ?_
    rintro i ⟨h1, h2⟩
    refine AW.seq ?_
    refine AW.region (by rw [hE]; rfl) ?_
    refine c_lss rfl rfl rfl ?_
    refine OL.nil ?_
    refine AW.seq ?_
    refine AW.cond rfl (fun h14 => ?_) (fun h14 => ?_)
    · first | (simp only [decide_eq_true_eq, decide_eq_false_iff_not, Bool.not_eq_true', Bool.not_eq_false', Bool.not_not, Bool.and_eq_true, Bool.and_eq_false_iff, Bool.or_eq_true, Bool.or_eq_false_iff] at h14) | skip
      refine AW.skip ?_
      refine AW.seq ?_
      refine AW.block ?_
      refine AW.seq ?_
      refine AW.region (by rw [hE]; rfl) ?_
      refine mvD rfl ?_
      refine asD rfl ?_
      refine OL.nil ?_
      refine AW.seq ?_
      refine AW.region_draw 1 [0, 1, 2, 3, 4, 5, 6, 7, 8] order_free (by rw [hE]; rfl) (by kernel_rfl) (OI.of_OL (os := [_, _, _, _, _, _, _, _, _]) rfl ?_)
      first | refine mvD rfl ?_ | refine mvO rfl ?_ | refine mvM rfl ?_
      refine mvD rfl ?_
      first | refine ixO sl.ints rfl rfl (by omega) (by omega) rfl ?_ | refine ixLn sl.ints 0 rfl rfl (by omega) rfl rfl ?_ | refine ixL sl.ints 0 rfl rfl (by omega) (by omega) rfl rfl ?_
      first | refine ldRC ce.int rfl ?_ | refine ldPC ce.int rfl rfl rfl ?_
      first | refine mvD rfl ?_ | refine mvO rfl ?_ | refine mvM rfl ?_
      refine mvD rfl ?_
      first | refine ixO sl.ints rfl rfl (by omega) (by omega) rfl ?_ | refine ixLn sl.ints 0 rfl rfl (by omega) rfl rfl ?_ | refine ixL sl.ints 0 rfl rfl (by omega) (by omega) rfl rfl ?_
      first | refine ldRC ce.int rfl ?_ | refine ldPC ce.int rfl rfl rfl ?_
      refine c_neq rfl rfl rfl ?_
      refine OL.nil ?_
      refine AW.cond rfl (fun hc => ?_) (fun hc => ?_)
      · have hc : l.getD i 0 ≠ m.getD i 0 := fun e => by rw [e] at hc; simp at hc
        refine AW.seq ?_
        refine AW.region (by rw [hE]; rfl) ?_
        refine asD rfl ?_
        refine OL.nil ?_
        exact AW.ret (RetQ.r ⟨_, .tmp rfl .nil, .le (VLe.bool ((decide_eq_false fun e => hc (by rw [e])).symm))⟩)
      · have hc : l.getD i 0 = m.getD i 0 := nd_f hc
        refine AW.skip ?_
        refine AW.region (by rw [hE]; rfl) ?_
        refine add_i64 rfl rfl (by omega) ?_
        refine mvD rfl ?_
        refine OL.nil ?_
        exact AW.again (x := i) (i + 1) (by first | omega | (simp only []; omega)) ⟨⟨by omega, fun j hj => by rcases Nat.lt_or_ge j i with h | h; exact h2 j h; obtain rfl : j = i := (by omega); exact hc⟩, Knows.app (.cons (VLe.refl _) (.cons (VLe.refl _) (.cons (VLe.refl _) .nil))) (.cons (by first | exact VLe.refl _ | exact VLe.int (by omega) | exact VLe.mt | exact vle_q0 | exact VLe.osl | exact VLe.ptr) .nil), .nil⟩
    · first | (simp only [decide_eq_true_eq, decide_eq_false_iff_not, Bool.not_eq_true', Bool.not_eq_false', Bool.not_not, Bool.and_eq_true, Bool.and_eq_false_iff, Bool.or_eq_true, Bool.or_eq_false_iff] at h14) | skip
      refine AW.exit ?_
      refine AW.seq ?_
      refine AW.region (by rw [hE]; rfl) ?_
      refine asD rfl ?_
      refine OL.nil ?_
      exact AW.ret (RetQ.r ⟨_, .tmp rfl .nil, .le (VLe.bool ((decide_eq_true (list_eq_getD hl 0 fun j hj => h2 j (by omega))).symm))⟩)
theorem sample_All {h : HM} {B b : Nat} (g : h.Good B) (hb : b ≤ 10) : FSpec P F.sample_All [vHM h, .d (dI b)] (.tup [.d (.sl ((allF h b (2 ^ b)).map dDr)), .d (dI 0)]) := by
  obtain ⟨N, hN⟩ : ∃ N : Nat, N = 2 ^ b := ⟨_, rfl⟩
  have hp : 2 ^ b ≤ 2 ^ 10 := Nat.pow_le_pow_right (by decide) hb
  have hp : N ≤ 1024 := by rw [hN]; exact hp
  rw [← hN]
  refine FSpec.intro fn.sample_All (by rfl) (by rfl) (Nat.le_of_ble_eq_true (by rfl)) fun E hE => ?_
  refine AW.seq ?_
  refine AW.region (by rw [hE]; rfl) ?_
  first | refine bxA rfl rfl fun b2 => ?_ | refine bxD rfl rfl fun b2 => ?_
  refine asM rfl ?_
  refine asD rfl ?_
  refine OL.nil ?_
  refine AW.seq ?_
  refine AW.seq ?_
  refine AW.region (by rw [hE]; rfl) ?_
  first | refine ldPA ag.Hidden rfl rfl (vs := [_, _, _, _, _, _, _, _, _, _, _]) rfl (Nat.le_of_ble_eq_true rfl) ?_ | refine ldRA ag.Hidden rfl (vs := [_, _, _, _, _, _, _, _, _, _, _]) rfl (Nat.le_of_ble_eq_true rfl) ?_
  refine clv rfl (.cons (VLe.refl _) (.nil)) (sample_refuse g) ?_
  refine asD rfl ?_
  refine OL.nil ?_
  refine AW.seq ?_
  refine AW.region (by rw [hE]; rfl) ?_
  refine mvD rfl ?_
  refine c_neq rfl rfl (c := false) (by first | exact decide_eq_true (by omega) | exact decide_eq_false (by omega) | exact cne_f (by omega) | exact cne_t (by omega) | rfl) ?_
  refine OL.nil ?_
  refine AW.cond rfl (fun hno => absurd hno (by decide)) (fun _ => ?_)
  refine AW.skip ?_
  refine AW.seq ?_
  refine AW.seq ?_
  refine AW.region (by rw [hE]; rfl) ?_
  refine mvD rfl ?_
  refine c_lss rfl rfl (c := false) (by first | exact decide_eq_true (by omega) | exact decide_eq_false (by omega) | exact cne_f (by omega) | exact cne_t (by omega) | rfl) ?_
  refine mvD rfl ?_
  refine OL.yes rfl ?_
  refine mvD rfl ?_
  refine OL.yes rfl ?_
  refine c_gtr rfl rfl (c := false) (by first | exact decide_eq_true (by omega) | exact decide_eq_false (by omega) | exact cne_f (by omega) | exact cne_t (by omega) | rfl) ?_
  refine pkF rfl rfl ?_
  refine OL.nil ?_
  refine AW.cond rfl (fun hno => absurd hno (by decide)) (fun _ => ?_)
  refine AW.skip ?_
  refine AW.seq ?_
  refine AW.region (by rw [hE]; rfl) ?_
  refine asM rfl ?_
  refine OL.nil ?_
  refine AW.seq ?_
  refine AW.seq ?_
  refine AW.region (by rw [hE]; rfl) ?_
  refine mvD rfl ?_
  refine shlV rfl rfl (by show (0:Int) ≤ (b : Int) ∧ b ≤ 64; omega) (c := (N : Int)) (by rw [Int.toNat_natCast, Int.one_mul, show (2 : Int) ^ b = (N : Int) by rw [hN]; push_cast; rfl]; exact wrap_i64 (by omega)) ?_
  refine mvD rfl ?_
  refine OL.nil ?_
  refine AW.block ?_
  refine AW.own 7 84 T.Drawn 3 rfl rfl ?_
  refine AW.whileK (α := Nat × Nat × Nat) [(1, _), (2, _), (4, _), (5, _), (26, _)] [(2, _)] (fun (n, p, c) => [(7, .osl 84 p (allF h b n).length c), (27, .d (dI n))]) (fun (n, p, c) => [(84, .row p c T.Drawn 3 ((allF h b n).map dDr))]) (fun (n, p, c) => n ≤ N) (fun (n, p, c) => N - n) (0, 0, 0) (.cons (by first | exact knD rfl | exact knA rfl | exact knP rfl | exact knO rfl | exact knM rfl | exact knE rfl | exact knR rfl | exact knF rfl | exact knT rfl | exact knJ) (.cons (by first | exact knD rfl | exact knA rfl | exact knP rfl | exact knO rfl | exact knM rfl | exact knE rfl | exact knR rfl | exact knF rfl | exact knT rfl | exact knJ) (.cons (by first | exact knD rfl | exact knA rfl | exact knP rfl | exact knO rfl | exact knM rfl | exact knE rfl | exact knR rfl | exact knF rfl | exact knT rfl | exact knJ) (.cons (by first | exact knD rfl | exact knA rfl | exact knP rfl | exact knO rfl | exact knM rfl | exact knE rfl | exact knR rfl | exact knF rfl | exact knT rfl | exact knJ) (.cons (by first | exact knD rfl | exact knA rfl | exact knP rfl | exact knO rfl | exact knM rfl | exact knE rfl | exact knR rfl | exact knF rfl | exact knT rfl | exact knJ) .nil))))) (.cons (by first | exact owB rfl | exact owR rfl) .nil) ⟨Nat.zero_le _, .cons (by first | exact VLe.refl _ | exact VLe.int (by omega) | exact VLe.mt | exact vle_q0 | exact VLe.osl | exact VLe.ptr) (.cons (by first | exact VLe.refl _ | exact VLe.int (by omega) | exact VLe.mt | exact vle_q0 | exact VLe.osl | exact VLe.ptr) .nil), .cons rfl .nil⟩ ?_
  rintro ⟨n, p, c⟩ h1
  have h1 : n ≤ N := h1
  have hal := allF_len h b n
  refine AW.seq ?_
  refine AW.region (by rw [hE]; rfl) ?_
  refine c_lss rfl rfl rfl ?_
  refine OL.nil ?_
  refine AW.seq ?_
  refine AW.cond rfl (fun h28 => ?_) (fun h28 => ?_)
  · first | (simp only [decide_eq_true_eq, decide_eq_false_iff_not, Bool.not_eq_true', Bool.not_eq_false', Bool.not_not, Bool.and_eq_true, Bool.and_eq_false_iff, Bool.or_eq_true, Bool.or_eq_false_iff] at h28) | skip
    refine AW.skip ?_
    refine AW.midK (α := Nat × Nat) [(1, _), (2, _), (4, _), (5, _), (26, _), (27, _)] [(2, _)] (fun (p2, c2) => [(7, .osl 84 p2 (allF h b (n + 1)).length c2)]) (fun (p2, c2) => [(84, .row p2 c2 T.Drawn 3 ((allF h b (n + 1)).map dDr))]) (fun (p2, c2) => True) (.cons (by first | exact knD rfl | exact knA rfl | exact knP rfl | exact knO rfl | exact knM rfl | exact knE rfl | exact knR rfl | exact knF rfl | exact knT rfl | exact knJ) (.cons (by first | exact knD rfl | exact knA rfl | exact knP rfl | exact knO rfl | exact knM rfl | exact knE rfl | exact knR rfl | exact knF rfl | exact knT rfl | exact knJ) (.cons (by first | exact knD rfl | exact knA rfl | exact knP rfl | exact knO rfl | exact knM rfl | exact knE rfl | exact knR rfl | exact knF rfl | exact knT rfl | exact knJ) (.cons (by first | exact knD rfl | exact knA rfl | exact knP rfl | exact knO rfl | exact knM rfl | exact knE rfl | exact knR rfl | exact knF rfl | exact knT rfl | exact knJ) (.cons (by first | exact knD rfl | exact knA rfl | exact knP rfl | exact knO rfl | exact knM rfl | exact knE rfl | exact knR rfl | exact knF rfl | exact knT rfl | exact knJ) (.cons (by first | exact knD rfl | exact knA rfl | exact knP rfl | exact knO rfl | exact knM rfl | exact knE rfl | exact knR rfl | exact knF rfl | exact knT rfl | exact knJ) .nil)))))) (.cons (by first | exact owB rfl | exact owR rfl) .nil) ?_ ?_
    · refine AW.block ?_
      refine AW.seq ?_
      refine AW.region (by rw [hE]; rfl) ?_
      refine mvD rfl ?_
      refine asD rfl ?_
      refine OL.nil ?_
      refine AW.seq ?_
      refine AW.region (by rw [hE]; rfl) ?_
      refine mvD rfl ?_
      refine mkL dI 0 sl.ints z.int (.cons (VC.d _) .nil) rfl rfl (Nat.le_refl _) (by omega) (by omega) rfl fun b31 => ?_
      first | refine asD rfl ?_ | refine asO rfl ?_ | refine asM rfl ?_
      refine OL.nil ?_
      refine AW.seq ?_
      refine AW.seq ?_
      refine AW.region (by rw [hE]; rfl) ?_
      first | refine mvD rfl ?_ | refine mvO rfl ?_ | refine mvM rfl ?_
      first | refine lnL sl.ints rfl rfl ?_ | refine lnO sl.ints rfl rfl ?_ | refine lnM sl.ints rfl rfl ?_ | refine lnD sl.ints rfl rfl rfl ?_
      refine mvD rfl ?_
      refine OL.nil ?_
      refine AW.block ?_
      refine AW.whileK (α := Nat) [(1, _), (2, _), (4, _), (5, _), (7, _), (8, _), (9, _), (26, _), (27, _), (33, _)] [(2, _), (84, _)] (fun i => [(34, .d (dI i))]) (fun i => [(31, .row b31 b T.int 1 ((fillF 0 (fun i : Nat => ((n / 2 ^ (b - 1 - i) % 2 : Nat) : Int)) b i).map dI))]) (fun i => i ≤ b) (fun i => b - i) 0 (.cons (by first | exact knD rfl | exact knA rfl | exact knP rfl | exact knO rfl | exact knM rfl | exact knE rfl | exact knR rfl | exact knF rfl | exact knT rfl | exact knJ) (.cons (by first | exact knD rfl | exact knA rfl | exact knP rfl | exact knO rfl | exact knM rfl | exact knE rfl | exact knR rfl | exact knF rfl | exact knT rfl | exact knJ) (.cons (by first | exact knD rfl | exact knA rfl | exact knP rfl | exact knO rfl | exact knM rfl | exact knE rfl | exact knR rfl | exact knF rfl | exact knT rfl | exact knJ) (.cons (by first | exact knD rfl | exact knA rfl | exact knP rfl | exact knO rfl | exact knM rfl | exact knE rfl | exact knR rfl | exact knF rfl | exact knT rfl | exact knJ) (.cons (by first | exact knD rfl | exact knA rfl | exact knP rfl | exact knO rfl | exact knM rfl | exact knE rfl | exact knR rfl | exact knF rfl | exact knT rfl | exact knJ) (.cons (by first | exact knD rfl | exact knA rfl | exact knP rfl | exact knO rfl | exact knM rfl | exact knE rfl | exact knR rfl | exact knF rfl | exact knT rfl | exact knJ) (.cons (by first | exact knD rfl | exact knA rfl | exact knP rfl | exact knO rfl | exact knM rfl | exact knE rfl | exact knR rfl | exact knF rfl | exact knT rfl | exact knJ) (.cons (by first | exact knD rfl | exact knA rfl | exact knP rfl | exact knO rfl | exact knM rfl | exact knE rfl | exact knR rfl | exact knF rfl | exact knT rfl | exact knJ) (.cons (by first | exact knD rfl | exact knA rfl | exact knP rfl | exact knO rfl | exact knM rfl | exact knE rfl | exact knR rfl | exact knF rfl | exact knT rfl | exact knJ) (.cons (by first | exact knD rfl | exact knA rfl | exact knP rfl | exact knO rfl | exact knM rfl | exact knE rfl | exact knR rfl | exact knF rfl | exact knT rfl | exact knJ) .nil)))))))))) (.cons (by first | exact owB rfl | exact owR rfl) (.cons (by first | exact owB rfl | exact owR rfl) .nil)) ⟨Nat.zero_le _, .cons (by first | exact VLe.refl _ | exact VLe.int (by omega) | exact VLe.mt | exact vle_q0 | exact VLe.osl | exact VLe.ptr) .nil, .cons (by rw [fillF_zero]; rfl) .nil⟩ ?_
      intro i h2
      have h2 : i ≤ b := h2
      have hfl := fillF_len 0 (fun i : Nat => ((n / 2 ^ (b - 1 - i) % 2 : Nat) : Int)) b i
      refine AW.seq ?_
      refine AW.region (by rw [hE]; rfl) ?_
      refine c_lss rfl rfl rfl ?_
      refine OL.nil ?_
      refine AW.seq ?_
      refine AW.cond rfl (fun h35 => ?_) (fun h35 => ?_)
      · first | (simp only [decide_eq_true_eq, decide_eq_false_iff_not, Bool.not_eq_true', Bool.not_eq_false', Bool.not_not, Bool.and_eq_true, Bool.and_eq_false_iff, Bool.or_eq_true, Bool.or_eq_false_iff] at h35) | skip
        refine AW.skip ?_
        refine AW.seq ?_
        refine AW.block ?_
        refine AW.seq ?_
        refine AW.region (by rw [hE]; rfl) ?_
        refine mvD rfl ?_
        refine asD rfl ?_
        refine OL.nil ?_
        have hnd : n / 2 ^ (b - 1 - i) ≤ n := Nat.div_le_self ..
        refine AW.region (by rw [hE]; rfl) ?_
        first | refine mvD rfl ?_ | refine mvO rfl ?_ | refine mvM rfl ?_
        refine mvD rfl ?_
        refine mvD rfl ?_
        refine mvD rfl ?_
        refine sub_i64 rfl rfl (by omega) ?_
        refine mvD rfl ?_
        refine bo rfl rfl (bin_sub (c := ((b - 1 - i : Nat) : Int)) (by omega) (wrap_i64 (by omega))) ?_
        refine shrV rfl rfl (by show (0:Int) ≤ ((b - 1 - i : Nat) : Int) ∧ ((b - 1 - i : Nat) : Int).toNat ≤ 64; omega) (c := ((n / 2 ^ (b - 1 - i) : Nat) : Int)) (by rw [Int.toNat_natCast]; push_cast; rfl) ?_
        refine bo rfl rfl (and1_i64 (a := n / 2 ^ (b - 1 - i)) (by omega)) ?_
        refine ixOn sl.ints rfl rfl (by omega) ?_
        refine stE sz.int rfl (VC.d _).vd rfl rfl (by rw [List.length_map]; omega) (es2 := (fillF 0 (fun i : Nat => ((n / 2 ^ (b - 1 - i) % 2 : Nat) : Int)) b (i + 1)).map dI) (by rw [← fillF_set (by omega), List.map_set]) ?_
        refine OL.nil ?_
        refine AW.region (by rw [hE]; rfl) ?_
        refine add_i64 rfl rfl (by omega) ?_
        refine mvD rfl ?_
        refine OL.nil ?_
        exact AW.again (x := i) (i + 1) (by first | omega | (simp only []; omega)) ⟨by omega, Knows.app (.cons (VLe.refl _) (.cons (VLe.refl _) (.cons (VLe.refl _) (.cons (VLe.refl _) (.cons (VLe.refl _) (.cons (VLe.refl _) (.cons (VLe.refl _) (.cons (VLe.refl _) (.cons (VLe.refl _) (.cons (VLe.refl _) .nil)))))))))) (.cons (by first | exact VLe.refl _ | exact VLe.int (by omega) | exact VLe.mt | exact vle_q0 | exact VLe.osl | exact VLe.ptr) .nil), Owns.app (.cons rfl (.cons rfl .nil)) (.cons rfl .nil)⟩
      · first | (simp only [decide_eq_true_eq, decide_eq_false_iff_not, Bool.not_eq_true', Bool.not_eq_false', Bool.not_not, Bool.and_eq_true, Bool.and_eq_false_iff, Bool.or_eq_true, Bool.or_eq_false_iff] at h35) | skip
        refine AW.exit ?_
        refine AW.seq ?_
        have hib : i = b := by omega
        refine AW.freeze 31 rfl (AW.to [(1, .d (dI b)), (2, .ptr 2 b2 0), (4, .mt), (5, .d (.sc (.int .i64 0))), (7, .osl 84 p (allF h b n).length c), (9, .d (ints (bitsN b n))), (26, .d (dI N)), (27, .d (dI n))] [(2, .box b2 T.Hidden (cellsHM h)), (84, .row p c T.Drawn 3 ((allF h b n).map dDr))] (.cons (VLe.refl _) (.cons (VLe.refl _) (.cons (VLe.refl _) (.cons (VLe.refl _) (.cons (VLe.refl _) (.cons (frz_osl (by rw [List.length_map]; omega) (by rw [hib, fillF_all]; rfl)) (.cons (VLe.refl _) (.cons (VLe.refl _) .nil)))))))) (.cons rfl (.cons rfl .nil)) ?_)
        have hasc := allF_asc (b := b) g n (by rw [← hN]; exact h1)
        refine AW.region (by rw [hE]; rfl) ?_
        first | refine ldPA ag.Hidden rfl rfl (vs := [_, _, _, _, _, _, _, _, _, _, _]) rfl (Nat.le_of_ble_eq_true rfl) ?_ | refine ldRA ag.Hidden rfl (vs := [_, _, _, _, _, _, _, _, _, _, _]) rfl (Nat.le_of_ble_eq_true rfl) ?_
        first | refine mvD rfl ?_ | refine mvO rfl ?_ | refine mvM rfl ?_
        refine clv rfl (.cons (VLe.refl _) (.cons (VLe.refl _) (.nil))) (sample_draw g.form (by rw [bitsN_len]; omega)) ?_
        first | refine mvD rfl ?_ | refine mvT rfl ?_ | refine mvP rfl ?_ | refine mvR rfl ?_ | refine mvE rfl ?_ | refine mvF rfl ?_ | refine mvA rfl ?_ | refine mvO rfl ?_ | refine mvM rfl ?_ | refine mvJ rfl ?_
        refine ex rfl rfl ?_
        refine ex rfl rfl ?_
        refine al z.Drawn rfl fun b11 => ?_
        first | refine sto sz.Drawn rfl rfl rfl rfl rfl (Nat.le_of_ble_eq_true rfl) (cells2 := [_, _, _]) rfl ?_ | refine stE sz.Drawn rfl (VC.d _).vd rfl rfl (by omega) rfl ?_
        refine asD rfl ?_
        refine OL.nil ?_
        refine AW.seq ?_
        refine AW.seq ?_
        refine AW.region (by rw [hE]; rfl) ?_
        refine mvD rfl ?_
        refine c_neq rfl rfl rfl ?_
        refine OL.nil ?_
        refine AW.cond rfl (fun h55 => ?_) (fun h55 => ?_)
        · obtain ⟨e, hd⟩ : ∃ e, draw h (bitsN b n) = .err e := by
              cases hd : draw h (bitsN b n) with
              | err e => exact ⟨e, rfl⟩
              | run => rw [hd] at h55; cases h55
          have ha : allF h b (n + 1) = allF h b n := by rw [allF, hd]; rfl
          refine AW.exit ?_
          exact AW.reach (p, c) ⟨trivial, Knows.app (.cons (VLe.refl _) (.cons (VLe.refl _) (.cons (VLe.refl _) (.cons (VLe.refl _) (.cons (VLe.refl _) (.cons (VLe.refl _) .nil)))))) (.cons (vle_of_eq (by rw [ha]; rfl)) .nil), Owns.app (.cons rfl .nil) (.cons (by rw [ha]; rfl) .nil)⟩
        · obtain ⟨st, w, u, hd⟩ : ∃ st w u, draw h (bitsN b n) = .run st w u := by
              cases hd : draw h (bitsN b n) with
              | err e => rw [hd] at h55; rcases draw_err hd with rfl | rfl <;> cases h55
              | run st w u => exact ⟨st, w, u, rfl⟩
          rw [hd]
          refine AW.skip ?_
          refine AW.seq ?_
          refine AW.seq ?_
          refine AW.region (by rw [hE]; rfl) ?_
          first | refine mvD rfl ?_ | refine mvO rfl ?_ | refine mvM rfl ?_
          first | refine lnL sl.Drawns rfl rfl ?_ | refine lnO sl.Drawns rfl rfl ?_ | refine lnM sl.Drawns rfl rfl ?_ | refine lnD sl.Drawns rfl rfl rfl ?_
          refine sub_i64 rfl rfl (by omega) ?_
          refine asD rfl ?_
          refine OL.nil ?_
          refine AW.midK (α := Unit) [(1, _), (2, _), (4, _), (5, _), (7, _), (11, _), (26, _), (27, _)] [(2, _), (11, _), (84, _)] (fun _u => [(80, .d (dB (decide (LastIs (allF h b n) st w))))]) (fun _u => []) (fun _u => True) (.cons (by first | exact knD rfl | exact knA rfl | exact knP rfl | exact knO rfl | exact knM rfl | exact knE rfl | exact knR rfl | exact knF rfl | exact knT rfl | exact knJ) (.cons (by first | exact knD rfl | exact knA rfl | exact knP rfl | exact knO rfl | exact knM rfl | exact knE rfl | exact knR rfl | exact knF rfl | exact knT rfl | exact knJ) (.cons (by first | exact knD rfl | exact knA rfl | exact knP rfl | exact knO rfl | exact knM rfl | exact knE rfl | exact knR rfl | exact knF rfl | exact knT rfl | exact knJ) (.cons (by first | exact knD rfl | exact knA rfl | exact knP rfl | exact knO rfl | exact knM rfl | exact knE rfl | exact knR rfl | exact knF rfl | exact knT rfl | exact knJ) (.cons (by first | exact knD rfl | exact knA rfl | exact knP rfl | exact knO rfl | exact knM rfl | exact knE rfl | exact knR rfl | exact knF rfl | exact knT rfl | exact knJ) (.cons (by first | exact knD rfl | exact knA rfl | exact knP rfl | exact knO rfl | exact knM rfl | exact knE rfl | exact knR rfl | exact knF rfl | exact knT rfl | exact knJ) (.cons (by first | exact knD rfl | exact knA rfl | exact knP rfl | exact knO rfl | exact knM rfl | exact knE rfl | exact knR rfl | exact knF rfl | exact knT rfl | exact knJ) (.cons (by first | exact knD rfl | exact knA rfl | exact knP rfl | exact knO rfl | exact knM rfl | exact knE rfl | exact knR rfl | exact knF rfl | exact knT rfl | exact knJ) .nil)))))))) (.cons (by first | exact owB rfl | exact owR rfl) (.cons (by first | exact owB rfl | exact owR rfl) (.cons (by first | exact owB rfl | exact owR rfl) .nil))) ?_ ?_
          · refine AW.region_draw 1 [0, 1, 2, 3, 4, 5, 6, 7, 8, 9, 10, 11, 12, 13, 14, 15, 16, 17, 18, 19, 20, 21] order_free (by rw [hE]; rfl) (by kernel_rfl) (OI.of_OL (os := [_, _, _, _, _, _, _, _, _, _, _, _, _, _, _, _, _, _, _, _, _, _]) rfl ?_)
            refine mvD rfl ?_
            refine c_geq rfl rfl rfl ?_
            refine OL.split 60 rfl (fun g60 => ?_) (fun g60 => ?_)
            · have g60 : 0 < (allF h b n).length := by have := of_decide_eq_true g60; omega
              have hk := hasc.ok ((allF h b n).length - 1) (by omega)
              have hk1 := hk.1
              have hk2 := hk.2.1
              refine mvD rfl ?_
              refine OL.yes rfl ?_
              first | refine mvD rfl ?_ | refine mvO rfl ?_ | refine mvM rfl ?_
              refine OL.yes rfl ?_
              refine mvD rfl ?_
              refine OL.yes rfl ?_
              refine ixO sl.Drawns rfl rfl (by omega) (by omega) (i := (allF h b n).length - 1) (by omega) ?_
              refine OL.yes rfl ?_
              first | refine faP fd.Drawn_0 rfl rfl ?_ | refine faR fd.Drawn_0 rfl rfl ?_ | refine faE fd.Drawn_0 rfl rfl ?_
              refine OL.yes rfl ?_
              refine ldEL ce.ints dr0 (by decide) rfl rfl (by omega) rfl ?_
              refine OL.yes rfl ?_
              first | refine faP fd.Drawn_0 rfl rfl ?_ | refine faR fd.Drawn_0 rfl rfl ?_ | refine faE fd.Drawn_0 rfl rfl ?_
              refine OL.yes rfl ?_
              first | refine ldRC ce.ints rfl ?_ | refine ldPC ce.ints rfl rfl rfl ?_
              refine OL.yes rfl ?_
              refine clv rfl (.cons (VLe.refl _) (.cons (VLe.refl _) (.nil))) (equal_ints (l := ((allF h b n).getD ((allF h b n).length - 1) dr0).st) (m := st) (by omega)) ?_
              refine OL.split 69 rfl (fun g69 => ?_) (fun g69 => ?_)
              · have g69 := of_decide_eq_true g69
                refine pkT rfl rfl ?_
                refine mvD rfl ?_
                refine OL.yes rfl ?_
                first | refine mvD rfl ?_ | refine mvO rfl ?_ | refine mvM rfl ?_
                refine OL.yes rfl ?_
                refine mvD rfl ?_
                refine OL.yes rfl ?_
                refine ixO sl.Drawns rfl rfl (by omega) (by omega) (i := (allF h b n).length - 1) (by omega) ?_
                refine OL.yes rfl ?_
                first | refine faP fd.Drawn_1 rfl rfl ?_ | refine faR fd.Drawn_1 rfl rfl ?_ | refine faE fd.Drawn_1 rfl rfl ?_
                refine OL.yes rfl ?_
                refine ldEL ce.ints dr0 (by decide) rfl rfl (by omega) rfl ?_
                refine OL.yes rfl ?_
                first | refine faP fd.Drawn_1 rfl rfl ?_ | refine faR fd.Drawn_1 rfl rfl ?_ | refine faE fd.Drawn_1 rfl rfl ?_
                refine OL.yes rfl ?_
                first | refine ldRC ce.ints rfl ?_ | refine ldPC ce.ints rfl rfl rfl ?_
                refine OL.yes rfl ?_
                refine clv rfl (.cons (VLe.refl _) (.cons (VLe.refl _) (.nil))) (equal_ints (l := ((allF h b n).getD ((allF h b n).length - 1) dr0).w) (m := w) (by omega)) ?_
                refine pkT rfl rfl ?_
                refine OL.nil ?_
                exact AW.reach () ⟨trivial, Knows.app (.cons (VLe.refl _) (.cons (VLe.refl _) (.cons (VLe.refl _) (.cons (VLe.refl _) (.cons (VLe.refl _) (.cons (VLe.refl _) (.cons (VLe.refl _) (.cons (VLe.refl _) .nil)))))))) (.cons (VLe.bool (decide_eq_decide.2 ⟨fun e => ⟨g60, g69, e⟩, fun e => e.2.2⟩)) .nil), Owns.app (.cons rfl (.cons rfl (.cons rfl .nil))) (.nil)⟩
              · have g69 := of_decide_eq_false g69
                refine pkT rfl rfl ?_
                refine mvD rfl ?_
                refine OL.no rfl (by decide) ?_
                refine OL.no rfl (by decide) ?_
                refine OL.no rfl (by decide) ?_
                refine OL.no rfl (by decide) ?_
                refine OL.no rfl (by decide) ?_
                refine OL.no rfl (by decide) ?_
                refine OL.no rfl (by decide) ?_
                refine OL.no rfl (by decide) ?_
                refine pkF rfl rfl ?_
                refine OL.nil ?_
                exact AW.reach () ⟨trivial, Knows.app (.cons (VLe.refl _) (.cons (VLe.refl _) (.cons (VLe.refl _) (.cons (VLe.refl _) (.cons (VLe.refl _) (.cons (VLe.refl _) (.cons (VLe.refl _) (.cons (VLe.refl _) .nil)))))))) (.cons (VLe.bool ((decide_eq_false fun e => g69 e.2.1).symm)) .nil), Owns.app (.cons rfl (.cons rfl (.cons rfl .nil))) (.nil)⟩
            · have g60 : ¬ 0 < (allF h b n).length := fun e => of_decide_eq_false g60 (by omega)
              refine mvD rfl ?_
              refine OL.no rfl (by decide) ?_
              refine OL.no rfl (by decide) ?_
              refine OL.no rfl (by decide) ?_
              refine OL.no rfl (by decide) ?_
              refine OL.no rfl (by decide) ?_
              refine OL.no rfl (by decide) ?_
              refine OL.no rfl (by decide) ?_
              refine OL.no rfl (by decide) ?_
              refine pkF rfl rfl ?_
              refine mvD rfl ?_
              refine OL.no rfl (by decide) ?_
              refine OL.no rfl (by decide) ?_
              refine OL.no rfl (by decide) ?_
              refine OL.no rfl (by decide) ?_
              refine OL.no rfl (by decide) ?_
              refine OL.no rfl (by decide) ?_
              refine OL.no rfl (by decide) ?_
              refine OL.no rfl (by decide) ?_
              refine pkF rfl rfl ?_
              refine OL.nil ?_
              exact AW.reach () ⟨trivial, Knows.app (.cons (VLe.refl _) (.cons (VLe.refl _) (.cons (VLe.refl _) (.cons (VLe.refl _) (.cons (VLe.refl _) (.cons (VLe.refl _) (.cons (VLe.refl _) (.cons (VLe.refl _) .nil)))))))) (.cons (VLe.bool ((decide_eq_false fun e => g60 e.1).symm)) .nil), Owns.app (.cons rfl (.cons rfl (.cons rfl .nil))) (.nil)⟩
          rintro ⟨⟩ hφ
          refine AW.cond rfl (fun hl => ?_) (fun hl => ?_)
          · have hl := of_decide_eq_true hl
            have ha : allF h b (n + 1) = allF h b n := by rw [allF, hd]; exact if_pos hl
            refine AW.exit ?_
            exact AW.reach (p, c) ⟨trivial, Knows.app (.cons (VLe.refl _) (.cons (VLe.refl _) (.cons (VLe.refl _) (.cons (VLe.refl _) (.cons (VLe.refl _) (.cons (VLe.refl _) .nil)))))) (.cons (vle_of_eq (by rw [ha]; rfl)) .nil), Owns.app (.cons rfl .nil) (.cons (by rw [ha]; rfl) .nil)⟩
          · have hl := of_decide_eq_false hl
            have ha : allF h b (n + 1) = allF h b n ++ [⟨st, w, (u : Int)⟩] := by rw [allF, hd]; exact if_neg hl
            refine AW.skip ?_
            refine AW.region (by rw [hE]; rfl) ?_
            first | refine mvD rfl ?_ | refine mvO rfl ?_ | refine mvM rfl ?_
            first | refine ldPA ag.Drawn rfl rfl (vs := [_, _, _]) rfl (Nat.le_of_ble_eq_true rfl) ?_ | refine ldRA ag.Drawn rfl (vs := [_, _, _]) rfl (Nat.le_of_ble_eq_true rfl) ?_
            refine lt1 (y := dDr ⟨st, w, (u : Int)⟩) sl.Drawns (VD.ag (.cons (VC.d _) (.cons (VC.d _) (.cons (VC.d _) .nil)))) rfl (by decide) ?_
            refine apO sl.Drawns rfl rfl rfl (by rw [List.length_map]) (VC.d _) (fun y hy => by rw [List.mem_singleton.1 hy]; rfl) (by simp only [List.length_singleton]; omega) (by simp only [List.length_singleton]; omega) (.inr rfl) (ys := (allF h b (n + 1)).map dDr) (by rw [ha, List.map_append]; rfl) (n2 := (allF h b (n + 1)).length) (by rw [ha, List.length_append]; rfl) fun b2 c2 => ?_
            first | refine asD rfl ?_ | refine asO rfl ?_ | refine asM rfl ?_
            refine OL.nil ?_
            exact AW.reach (b2, c2) ⟨trivial, Knows.app (.cons (VLe.refl _) (.cons (VLe.refl _) (.cons (VLe.refl _) (.cons (VLe.refl _) (.cons (VLe.refl _) (.cons (VLe.refl _) .nil)))))) (.cons (by first | exact VLe.refl _ | exact VLe.int (by omega) | exact VLe.mt | exact vle_q0 | exact VLe.osl | exact VLe.ptr) .nil), Owns.app (.cons rfl .nil) (.cons rfl .nil)⟩
    rintro ⟨p2, c2⟩ hφ
    refine AW.region (by rw [hE]; rfl) ?_
    refine add_i64 rfl rfl (by omega) ?_
    refine mvD rfl ?_
    refine OL.nil ?_
    exact AW.again (x := (n, p, c)) (n + 1, p2, c2) (by first | omega | (simp only []; omega)) ⟨by omega, Knows.app (.cons (VLe.refl _) (.cons (VLe.refl _) (.cons (VLe.refl _) (.cons (VLe.refl _) (.cons (VLe.refl _) .nil))))) (.cons (by first | exact VLe.refl _ | exact VLe.int (by omega) | exact VLe.mt | exact vle_q0 | exact VLe.osl | exact VLe.ptr) (.cons (by first | exact VLe.refl _ | exact VLe.int (by omega) | exact VLe.mt | exact vle_q0 | exact VLe.osl | exact VLe.ptr) .nil)), Owns.app (.cons rfl .nil) (.cons rfl .nil)⟩
  · first | (simp only [decide_eq_true_eq, decide_eq_false_iff_not, Bool.not_eq_true', Bool.not_eq_false', Bool.not_not, Bool.and_eq_true, Bool.and_eq_false_iff, Bool.or_eq_true, Bool.or_eq_false_iff] at h28) | skip
    refine AW.exit ?_
    refine AW.seq ?_
    obtain rfl : n = N := by omega
    refine AW.region (by rw [hE]; rfl) ?_
    first | refine mvD rfl ?_ | refine mvO rfl ?_ | refine mvM rfl ?_
    first | refine asD rfl ?_ | refine asO rfl ?_ | refine asM rfl ?_
    refine asD rfl ?_
    refine OL.nil ?_
    exact AW.ret (RetQ.r ⟨_, .tmp rfl (.tmp rfl .nil), _, .cons (RO.row rfl (by rw [List.length_map]) rfl) (.cons (.le (by first | exact VLe.refl _ | exact VLe.mt | exact vle_q0 | exact VLe.int (by omega) | exact VLe.bool (by simp_all))) .nil), rfl⟩)
end Go.Proofs.YtcebciggodhmcaaGreat

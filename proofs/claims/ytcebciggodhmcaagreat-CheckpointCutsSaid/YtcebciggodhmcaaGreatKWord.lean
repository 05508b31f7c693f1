/-
  Walks: words out of plain numbers (printed by mk2.py).
-/
import Derived.Test.YtcebciggodhmcaaGreatKSampleA
import Derived.Test.YtcebciggodhmcaaGreatKMod36
set_option linter.unusedVariables false
set_option linter.unusedSimpArgs false
namespace Go.Proofs.YtcebciggodhmcaaGreat
open Go Go.AL
def wordF (l : List Int) (sym most : Nat) : List Int := (l.take most).map fun v => 1 + within v sym
theorem wordF_len (l : List Int) (sym most : Nat) : (wordF l sym most).length ≤ most := by simp [wordF]; omega
theorem wordF_ok {h : HM} {l : List Int} {most : Nat} (hs : 1 ≤ h.sym) (hm : most ≤ 256) : WordOK h (wordF l h.sym most) := by
  refine ⟨Nat.le_trans (wordF_len ..) hm, fun x hx => ?_⟩
  obtain ⟨v, _, rfl⟩ := List.mem_map.1 hx
  have := within_range (v := v) (m := (h.sym : Int)) (by omega)
  omega
theorem world_Word {l : List Int} {sym most : Nat} (hs : 1 ≤ sym ∧ sym ≤ 1000) (hm : most ≤ 1000) : FSpec P F.world_Word [.d (ints l), .d (dI sym), .d (dI most)] (.d (ints (wordF l sym most))) := by
  refine FSpec.intro fn.world_Word (by rfl) (by rfl) (Nat.le_of_ble_eq_true (by rfl)) fun E hE => ?_
  refine AW.seq ?_
  refine AW.region (by rw [hE]; rfl) ?_
  refine asM rfl ?_
  refine OL.nil ?_
  refine AW.seq ?_
  refine AW.region (by rw [hE]; rfl) ?_
  refine asM rfl ?_
  refine OL.nil ?_
  refine AW.seq ?_
  refine AW.seq ?_
  refine AW.region (by rw [hE]; rfl) ?_
  refine asD rfl ?_
  refine OL.nil ?_
  refine AW.own 7 29 T.int 1 rfl rfl ?_
  refine AW.block ?_
  refine AW.whileK (α := Nat × Nat × Nat) [(0, _), (1, _), (2, _), (6, _)] [] (fun (i, b, c) => [(7, .osl 29 b i c), (8, .d (dI i))]) (fun (i, b, c) => [(29, .row b c T.int 1 ((wordF l sym i).map dI))]) (fun (i, b, c) => i ≤ l.length ∧ i ≤ most) (fun (i, b, c) => most - i) (0, 0, 0) (by repeat (first | exact Knows.nil | refine Knows.cons (by first | exact knD rfl | exact knA rfl | exact knP rfl | exact knO rfl | exact knM rfl | exact knE rfl | exact knR rfl | exact knF rfl | exact knT rfl | exact knJ) ?_)) .nil ⟨⟨Nat.zero_le _, Nat.zero_le _⟩, .cons (by first | exact VLe.refl _ | exact VLe.int (by omega) | exact VLe.mt | exact vle_q0 | exact VLe.osl | exact VLe.ptr) (.cons (by first | exact VLe.refl _ | exact VLe.int (by omega) | exact VLe.mt | exact vle_q0 | exact VLe.osl | exact VLe.ptr) .nil), .cons rfl .nil⟩ ?_
  rintro ⟨i, b, c⟩ ⟨h1, h2⟩
  have h1 : i ≤ l.length := h1
  have h2 : i ≤ most := h2
  have hcl : (wordF l sym i).length = i := by simp [wordF]; omega
  refine AW.seq ?_
  refine AW.seq ?_
  refine AW.region (by rw [hE]; rfl) ?_
  refine mvD rfl ?_
  refine mvD rfl ?_
  refine lnL sl.ints rfl rfl ?_
  refine c_lss rfl rfl rfl ?_
  refine mvD rfl ?_
  refine OL.split 13 rfl (fun g13 => ?_) (fun g13 => ?_)
  · first | (simp only [decide_eq_true_eq, decide_eq_false_iff_not, Bool.not_eq_true', Bool.not_eq_false', Bool.not_not, Bool.and_eq_true, Bool.and_eq_false_iff, Bool.or_eq_true, Bool.or_eq_false_iff] at g13) | skip
    refine OL.yes rfl ?_
    refine mvD rfl ?_
    refine OL.yes rfl ?_
    refine mvD rfl ?_
    refine OL.yes rfl ?_
    refine c_lss rfl rfl rfl ?_
    refine pkT rfl rfl ?_
    refine OL.nil ?_
    refine AW.cond rfl (fun hc => ?_) (fun hc => ?_)
    · first | (simp only [decide_eq_true_eq, decide_eq_false_iff_not, Bool.not_eq_true', Bool.not_eq_false', Bool.not_not, Bool.and_eq_true, Bool.and_eq_false_iff, Bool.or_eq_true, Bool.or_eq_false_iff] at hc) | skip
      refine AW.skip ?_
      refine AW.seq ?_
      refine AW.block ?_
      refine AW.region (by rw [hE]; rfl) ?_
      refine mvO rfl ?_
      refine mvD rfl ?_
      refine mvD rfl ?_
      refine ixLn sl.ints 0 rfl rfl (by omega) rfl rfl ?_
      refine ldRC ce.int rfl ?_
      refine mvD rfl ?_
      refine clv rfl (.cons (VLe.refl _) (.cons (VLe.refl _) (.nil))) (world_Within (by omega)) ?_
      have hwr := within_range (v := l.getD i 0) (m := (sym : Int)) (by omega)
      refine add_i64 rfl rfl (by omega) ?_
      refine lt1 sl.ints (VC.d _).vd rfl (by decide) ?_
      refine apO sl.ints rfl rfl rfl (by rw [List.length_map, hcl]) (VC.d _) (by simp [D.cells]) (by simp; omega) (by simp; omega) (.inr rfl) (ys := (wordF l sym (i + 1)).map dI) (by unfold wordF; rw [take_succ_getD (by omega) 0, List.map_append, List.map_append]; rfl) (n2 := i + 1) (by simp) fun b2 c2 => ?_
      refine asO rfl ?_
      refine OL.nil ?_
      refine AW.region (by rw [hE]; rfl) ?_
      refine mvD rfl ?_
      refine add_i64 rfl rfl (by omega) ?_
      refine asD rfl ?_
      refine OL.nil ?_
      exact AW.again (x := (i, b, c)) (i + 1, b2, c2) (by first | omega | (simp only []; omega)) ⟨⟨by omega, by omega⟩, Knows.app (.cons (VLe.refl _) (.cons (VLe.refl _) (.cons (VLe.refl _) (.cons (VLe.refl _) .nil)))) (.cons (by first | exact VLe.refl _ | exact VLe.int (by omega) | exact VLe.mt | exact vle_q0 | exact VLe.osl | exact VLe.ptr) (.cons (by first | exact VLe.refl _ | exact VLe.int (by omega) | exact VLe.mt | exact vle_q0 | exact VLe.osl | exact VLe.ptr) .nil)), .cons rfl .nil⟩
    · first | (simp only [decide_eq_true_eq, decide_eq_false_iff_not, Bool.not_eq_true', Bool.not_eq_false', Bool.not_not, Bool.and_eq_true, Bool.and_eq_false_iff, Bool.or_eq_true, Bool.or_eq_false_iff] at hc) | skip
      refine AW.exit ?_
      refine AW.seq ?_
      have he : wordF l sym i = wordF l sym most := by unfold wordF; rcases Nat.lt_or_ge i l.length with h | h; (obtain rfl : i = most := (by omega)); rfl; rw [List.take_of_length_le (by omega), List.take_of_length_le (by omega)]
      refine AW.freeze 29 rfl (AW.to [(7, .d (ints (wordF l sym most)))] [] (.cons (frz_osl (by rw [List.length_map, hcl]) (by rw [he])) .nil) .nil ?_)
      refine AW.region (by rw [hE]; rfl) ?_
      refine mvD rfl ?_
      refine asD rfl ?_
      refine OL.nil ?_
      exact AW.ret (RetQ.r ⟨_, .tmp rfl .nil, .le (by first | exact VLe.refl _ | exact VLe.mt | exact vle_q0 | exact VLe.int (by omega) | exact VLe.bool (by simp_all))⟩)
  · first | (simp only [decide_eq_true_eq, decide_eq_false_iff_not, Bool.not_eq_true', Bool.not_eq_false', Bool.not_not, Bool.and_eq_true, Bool.and_eq_false_iff, Bool.or_eq_true, Bool.or_eq_false_iff] at g13) | skip
    refine OL.no rfl (by decide) ?_
    refine OL.no rfl (by decide) ?_
    refine OL.no rfl (by decide) ?_
    refine pkF rfl rfl ?_
    refine OL.nil ?_
    refine AW.cond rfl (fun hno => absurd hno (by decide)) (fun _ => ?_)
    refine AW.exit ?_
    refine AW.seq ?_
    have he : wordF l sym i = wordF l sym most := by unfold wordF; rcases Nat.lt_or_ge i l.length with h | h; (obtain rfl : i = most := (by omega)); rfl; rw [List.take_of_length_le (by omega), List.take_of_length_le (by omega)]
    refine AW.freeze 29 rfl (AW.to [(7, .d (ints (wordF l sym most)))] [] (.cons (frz_osl (by rw [List.length_map, hcl]) (by rw [he])) .nil) .nil ?_)
    refine AW.region (by rw [hE]; rfl) ?_
    refine mvD rfl ?_
    refine asD rfl ?_
    refine OL.nil ?_
    exact AW.ret (RetQ.r ⟨_, .tmp rfl .nil, .le (by first | exact VLe.refl _ | exact VLe.mt | exact vle_q0 | exact VLe.int (by omega) | exact VLe.bool (by simp_all))⟩)
end Go.Proofs.YtcebciggodhmcaaGreat

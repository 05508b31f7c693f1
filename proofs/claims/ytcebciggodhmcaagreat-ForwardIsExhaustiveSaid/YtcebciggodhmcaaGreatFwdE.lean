/-
  Walks of package forward, part 5: all paths, the joint probability, the law ForwardIsExhaustive (printed by mk2.py).
-/
import Derived.Test.YtcebciggodhmcaaGreatFwdK
import Derived.Test.YtcebciggodhmcaaGreatMul
import Derived.Test.YtcebciggodhmcaaGreatMod34d
set_option linter.unusedVariables false
set_option linter.unusedSimpArgs false
namespace Go.Proofs.YtcebciggodhmcaaGreat
open Go Go.AL
abbrev dPs (l : List (List Int)) : D := .sl (l.map ints)

theorem ref_Quo {x y : Raw} (hx : x.Ok) (hy : y.Ok) (h0 : y.q ≠ 0) : FSpec P F.ref01_Quo [vRaw x, vRaw y] (vQ (x.q / y.q)) := by
  have a1 := q_sz hx hx.ln hx.ld (by decide)
  have a2 := q_sz hy hy.ln hy.ld (by decide)
  have sn1 := sz_num x.q
  have sn2 := sz_num y.q
  have sd1 := sz_den x.q
  have sd2 := sz_den y.q
  have hn0 : y.q.num.natAbs ≠ 0 := fun e => h0 (Rat.num_eq_zero.1 (by omega))
  have m1 := len_mul x.q.num.natAbs y.q.den
  have m2 := len_mul x.q.den y.q.num.natAbs
  have dd0 := Nat.mul_ne_zero x.q.den_nz hn0
  have hp := fr_div (s := decide (x.q.num < 0)) (t := decide (y.q.num < 0)) (a := x.q.num.natAbs) x.q.den_nz y.q.den_nz hn0
  rw [fr_ofQ, fr_ofQ] at hp
  refine FSpec.intro fn.ref01_Quo (by rfl) (by rfl) (Nat.le_of_ble_eq_true (by rfl)) fun E hE => ?_
  refine AW.seq ?_
  refine AW.region (by rw [hE]; rfl) ?_
  first | refine bxA rfl rfl fun b2 => ?_ | refine bxD rfl rfl fun b2 => ?_
  first | refine bxA rfl rfl fun b3 => ?_ | refine bxD rfl rfl fun b3 => ?_
  refine al z.Rat rfl fun b4 => ?_
  refine OL.nil ?_
  refine AW.seq ?_
  refine AW.region_draw 1 [0, 1, 2, 3, 4, 5] order_free (by rw [hE]; rfl) (by kernel_rfl) (OI.of_OL (os := [_, _, _, _, _, _]) rfl ?_)
  first | refine ldPA ag.Rat rfl rfl (vs := [_, _, _]) rfl (Nat.le_of_ble_eq_true rfl) ?_ | refine ldRA ag.Rat rfl (vs := [_, _, _]) rfl (Nat.le_of_ble_eq_true rfl) ?_
  refine clv rfl (.cons (by first | exact VLe.refl _ | exact VLe.mt | exact vle_q0 | exact VLe.ptr) .nil) (ref_Take (by assumption)) ?_
  first | refine ldPA ag.Rat rfl rfl (vs := [_, _, _]) rfl (Nat.le_of_ble_eq_true rfl) ?_ | refine ldRA ag.Rat rfl (vs := [_, _, _]) rfl (Nat.le_of_ble_eq_true rfl) ?_
  refine clv rfl (.cons (by first | exact VLe.refl _ | exact VLe.mt | exact vle_q0 | exact VLe.ptr) .nil) (ref_Take (by assumption)) ?_
  first | refine sto sz.Rat rfl rfl rfl rfl rfl (Nat.le_of_ble_eq_true rfl) (cells2 := [_, _, _]) rfl ?_ | refine stE sz.Rat rfl (VC.d _).vd rfl rfl (by omega) rfl ?_
  first | refine sto sz.Rat rfl rfl rfl rfl rfl (Nat.le_of_ble_eq_true rfl) (cells2 := [_, _, _]) rfl ?_ | refine stE sz.Rat rfl (VC.d _).vd rfl rfl (by omega) rfl ?_
  refine OL.nil ?_
  refine AW.seq ?_
  refine AW.region_draw 1 [0, 1, 2, 3, 4, 5, 6, 7, 8, 9, 10, 11, 12, 13, 14, 15, 16] order_free (by rw [hE]; rfl) (by kernel_rfl) (OI.of_OL (os := [_, _, _, _, _, _, _, _, _, _, _, _, _, _, _, _, _]) rfl ?_)
  first | refine faP fd.Rat_0 rfl rfl ?_ | refine faR fd.Rat_0 rfl rfl ?_ | refine faE fd.Rat_0 rfl rfl ?_
  first | refine ldRC ce.bool rfl ?_ | refine ldPC ce.bool rfl rfl rfl ?_
  first | refine faP fd.Rat_0 rfl rfl ?_ | refine faR fd.Rat_0 rfl rfl ?_ | refine faE fd.Rat_0 rfl rfl ?_
  first | refine ldRC ce.bool rfl ?_ | refine ldPC ce.bool rfl rfl rfl ?_
  refine neb bt.bool rfl rfl ?_
  first | refine faP fd.Rat_1 rfl rfl ?_ | refine faR fd.Rat_1 rfl rfl ?_ | refine faE fd.Rat_1 rfl rfl ?_
  first | refine ldRC ce.u32s rfl ?_ | refine ldPC ce.u32s rfl rfl rfl ?_
  first | refine ldPA ag.Rat rfl rfl (vs := [_, _, _]) rfl (Nat.le_of_ble_eq_true rfl) ?_ | refine ldRA ag.Rat rfl (vs := [_, _, _]) rfl (Nat.le_of_ble_eq_true rfl) ?_
  refine clv rfl (.cons (by first | exact VLe.refl _ | exact VLe.mt | exact vle_q0 | exact VLe.ptr) .nil) (ref_den) ?_
  refine clv rfl (.cons (VLe.refl _) (.cons (VLe.refl _) (.nil))) (ref_timesN (a := x.q.num.natAbs) (b := y.q.den) (by omega) (by omega)) ?_
  first | refine ldPA ag.Rat rfl rfl (vs := [_, _, _]) rfl (Nat.le_of_ble_eq_true rfl) ?_ | refine ldRA ag.Rat rfl (vs := [_, _, _]) rfl (Nat.le_of_ble_eq_true rfl) ?_
  refine clv rfl (.cons (by first | exact VLe.refl _ | exact VLe.mt | exact vle_q0 | exact VLe.ptr) .nil) (ref_den) ?_
  first | refine faP fd.Rat_1 rfl rfl ?_ | refine faR fd.Rat_1 rfl rfl ?_ | refine faE fd.Rat_1 rfl rfl ?_
  first | refine ldRC ce.u32s rfl ?_ | refine ldPC ce.u32s rfl rfl rfl ?_
  refine clv rfl (.cons (VLe.refl _) (.cons (VLe.refl _) (.nil))) (ref_timesN (a := x.q.den) (b := y.q.num.natAbs) (by omega) (by omega)) ?_
  refine clv rfl (.cons (VLe.refl _) (.cons (VLe.refl _) (.cons (VLe.refl _) (.nil)))) (ref_over (s := (decide (x.q.num < 0) != decide (y.q.num < 0))) (by omega) (by omega) dd0) ?_
  rw [← hp]
  first | refine sto sz.Rat rfl rfl rfl rfl rfl (Nat.le_of_ble_eq_true rfl) (cells2 := [_, _, _]) rfl ?_ | refine stE sz.Rat rfl (VC.d _).vd rfl rfl (by omega) rfl ?_
  refine OL.nil ?_
  exact AW.ret (RetQ.r ⟨_, .cellA rfl rfl ag.Rat (Nat.le_of_ble_eq_true rfl) .nil, .ag (.cons (.le (by first | exact VLe.refl _ | exact VLe.mt | exact vle_q0 | exact VLe.int (by omega) | exact VLe.bool (by simp_all))) (.cons (.le (by first | exact VLe.refl _ | exact VLe.mt | exact vle_q0 | exact VLe.int (by omega) | exact VLe.bool (by simp_all))) (.cons (.le (by first | exact VLe.refl _ | exact VLe.mt | exact vle_q0 | exact VLe.int (by omega) | exact VLe.bool (by simp_all))) .nil)))⟩)
theorem ref_Div {x y : Raw} (hx : x.Ok) (hy : y.Ok) (h0 : y.q ≠ 0) : FSpec P F.ref01_Div [vRaw x, vRaw y] (.tup [vQ (x.q / y.q), .d (dI 0)]) := by
  refine FSpec.intro fn.ref01_Div (by rfl) (by rfl) (Nat.le_of_ble_eq_true (by rfl)) fun E hE => ?_
  refine AW.seq ?_
  refine AW.region (by rw [hE]; rfl) ?_
  first | refine bxA rfl rfl fun b2 => ?_ | refine bxD rfl rfl fun b2 => ?_
  first | refine bxA rfl rfl fun b3 => ?_ | refine bxD rfl rfl fun b3 => ?_
  refine al z.Rat rfl fun b4 => ?_
  refine asD rfl ?_
  refine OL.nil ?_
  refine AW.seq ?_
  refine AW.seq ?_
  refine AW.region (by rw [hE]; rfl) ?_
  first | refine ldPA ag.Rat rfl rfl (vs := [_, _, _]) rfl (Nat.le_of_ble_eq_true rfl) ?_ | refine ldRA ag.Rat rfl (vs := [_, _, _]) rfl (Nat.le_of_ble_eq_true rfl) ?_
  refine clv rfl (.cons (VLe.refl _) (.nil)) (ref_Sign hy) ?_
  refine c_eql rfl rfl rfl ?_
  refine OL.nil ?_
  refine AW.cond rfl (fun hno => absurd hno (by rw [decide_eq_false fun e => h0 (sgnQ_eq.1 e)]; decide)) (fun _ => ?_)
  refine AW.skip ?_
  refine AW.seq ?_
  refine AW.region (by rw [hE]; rfl) ?_
  first | refine ldPA ag.Rat rfl rfl (vs := [_, _, _]) rfl (Nat.le_of_ble_eq_true rfl) ?_ | refine ldRA ag.Rat rfl (vs := [_, _, _]) rfl (Nat.le_of_ble_eq_true rfl) ?_
  first | refine ldPA ag.Rat rfl rfl (vs := [_, _, _]) rfl (Nat.le_of_ble_eq_true rfl) ?_ | refine ldRA ag.Rat rfl (vs := [_, _, _]) rfl (Nat.le_of_ble_eq_true rfl) ?_
  refine clv rfl (.cons (VLe.refl _) (.cons (VLe.refl _) (.nil))) (ref_Quo hx hy h0) ?_
  first | refine sto sz.Rat rfl rfl rfl rfl rfl (Nat.le_of_ble_eq_true rfl) (cells2 := [_, _, _]) rfl ?_ | refine stE sz.Rat rfl (VC.d _).vd rfl rfl (by omega) rfl ?_
  refine asD rfl ?_
  refine OL.nil ?_
  exact AW.ret (RetQ.r ⟨_, .cellA rfl rfl ag.Rat (Nat.le_of_ble_eq_true rfl) (.tmp rfl .nil), _, .cons (.ag (.cons (.le (by first | exact VLe.refl _ | exact VLe.mt | exact vle_q0 | exact VLe.int (by omega) | exact VLe.bool (by simp_all))) (.cons (.le (by first | exact VLe.refl _ | exact VLe.mt | exact vle_q0 | exact VLe.int (by omega) | exact VLe.bool (by simp_all))) (.cons (.le (by first | exact VLe.refl _ | exact VLe.mt | exact vle_q0 | exact VLe.int (by omega) | exact VLe.bool (by simp_all))) .nil)))) (.cons (.le (by first | exact VLe.refl _ | exact VLe.mt | exact vle_q0 | exact VLe.int (by omega) | exact VLe.bool (by simp_all))) .nil), rfl⟩)
theorem ref_DivQ {x y : Rat} (hx : sz x ≤ 68719476736) (hy : sz y ≤ 68719476736) (h0 : y ≠ 0) : FSpec P F.ref01_Div [vQ x, vQ y] (.tup [vQ (x / y), .d (dI 0)]) := by
  have h := ref_Div (x := ofQ x) (y := ofQ y) (ofQ_ok (by omega)) (ofQ_ok (by omega)) (by rw [q_ofQ]; exact h0)
  rw [q_ofQ, q_ofQ] at h; exact h
theorem world_Paths {n k : Nat} (hn : n ≤ 3) (hk : k ≤ 4) : FSpec P F.world_Paths [.d (dI n), .d (dI k)] (.d (dPs (pathsF n k))) := by
  refine FSpec.intro fn.world_Paths (by rfl) (by rfl) (Nat.le_of_ble_eq_true (by rfl)) fun E hE => ?_
  refine AW.seq ?_
  refine AW.region (by rw [hE]; rfl) ?_
  refine asM rfl ?_
  refine OL.nil ?_
  refine AW.seq ?_
  refine AW.region (by rw [hE]; rfl) ?_
  refine lt1 (y := ints []) sl.intss VC.mt.vd rfl (by decide) ?_
  first | refine asD rfl ?_ | refine asO rfl ?_ | refine asM rfl ?_
  refine OL.nil ?_
  refine AW.seq ?_
  refine AW.seq ?_
  refine AW.region (by rw [hE]; rfl) ?_
  refine asD rfl ?_
  refine OL.nil ?_
  refine AW.block ?_
  refine AW.whileK (α := Nat) [(0, _), (1, _), (4, _)] [] (fun j => [(5, .d (dPs (pathsF n j))), (6, .d (dI j))]) (fun j => []) (fun j => j ≤ k) (fun j => k - j) 0 (by repeat (first | exact Knows.nil | refine Knows.cons (by first | exact knD rfl | exact knA rfl | exact knP rfl | exact knO rfl | exact knM rfl | exact knE rfl | exact knR rfl | exact knF rfl | exact knT rfl | exact knJ) ?_)) .nil ⟨Nat.zero_le _, .cons (by first | exact VLe.refl _ | exact VLe.int (by omega) | exact VLe.mt | exact vle_q0 | exact VLe.osl | exact VLe.ptr) (.cons (by first | exact VLe.refl _ | exact VLe.int (by omega) | exact VLe.mt | exact vle_q0 | exact VLe.osl | exact VLe.ptr) .nil), .nil⟩ ?_
  intro j h1
  have h1 : j ≤ k := h1
  have hpl := pathsF_len n j
  have hpw := pow_le (n := n) (k := j) hn (by omega)
  refine AW.seq ?_
  refine AW.seq ?_
  refine AW.region (by rw [hE]; rfl) ?_
  refine mvD rfl ?_
  refine mvD rfl ?_
  refine c_lss rfl rfl rfl ?_
  refine OL.nil ?_
  refine AW.cond rfl (fun h13 => ?_) (fun h13 => ?_)
  · first | (simp only [decide_eq_true_eq, decide_eq_false_iff_not, Bool.not_eq_true', Bool.not_eq_false', Bool.not_not, Bool.and_eq_true, Bool.and_eq_false_iff, Bool.or_eq_true, Bool.or_eq_false_iff] at h13) | skip
    refine AW.skip ?_
    refine AW.seq ?_
    refine AW.block ?_
    refine AW.seq ?_
    refine AW.region (by rw [hE]; rfl) ?_
    refine asM rfl ?_
    refine OL.nil ?_
    refine AW.seq ?_
    refine AW.seq ?_
    refine AW.region (by rw [hE]; rfl) ?_
    refine asD rfl ?_
    refine OL.nil ?_
    refine AW.block ?_
    refine AW.own 7 38 T.ints 1 rfl rfl ?_
    refine AW.whileK (α := Nat × Nat × Nat) [(0, _), (1, _), (4, _), (5, _), (6, _)] [] (fun (i, b, c) => [(7, .osl 38 b (pathsStep n (pathsF n j) i).length c), (8, .d (dI i))]) (fun (i, b, c) => [(38, .row b c T.ints 1 ((pathsStep n (pathsF n j) i).map ints))]) (fun (i, b, c) => i ≤ (pathsF n j).length) (fun (i, b, c) => (pathsF n j).length - i) (0, 0, 0) (by repeat (first | exact Knows.nil | refine Knows.cons (by first | exact knD rfl | exact knA rfl | exact knP rfl | exact knO rfl | exact knM rfl | exact knE rfl | exact knR rfl | exact knF rfl | exact knT rfl | exact knJ) ?_)) .nil ⟨Nat.zero_le _, .cons (by first | exact VLe.refl _ | exact VLe.int (by omega) | exact VLe.mt | exact vle_q0 | exact VLe.osl | exact VLe.ptr) (.cons (by first | exact VLe.refl _ | exact VLe.int (by omega) | exact VLe.mt | exact vle_q0 | exact VLe.osl | exact VLe.ptr) .nil), .cons rfl .nil⟩ ?_
    rintro ⟨i, b, c⟩ h2
    have h2 : i ≤ (pathsF n j).length := h2
    have hsl := pathsStep_len n (pathsF n j) h2
    have him : i * n ≤ 81 * 3 := Nat.mul_le_mul (by omega) hn
    refine AW.seq ?_
    refine AW.seq ?_
    refine AW.region (by rw [hE]; rfl) ?_
    refine mvD rfl ?_
    first | refine mvD rfl ?_ | refine mvO rfl ?_ | refine mvM rfl ?_
    first | refine lnL sl.intss rfl rfl ?_ | refine lnO sl.intss rfl rfl ?_ | refine lnM sl.intss rfl rfl ?_ | refine lnD sl.intss rfl rfl rfl ?_
    refine c_lss rfl rfl rfl ?_
    refine OL.nil ?_
    refine AW.cond rfl (fun h19 => ?_) (fun h19 => ?_)
    · first | (simp only [decide_eq_true_eq, decide_eq_false_iff_not, Bool.not_eq_true', Bool.not_eq_false', Bool.not_not, Bool.and_eq_true, Bool.and_eq_false_iff, Bool.or_eq_true, Bool.or_eq_false_iff] at h19) | skip
      refine AW.skip ?_
      refine AW.seq ?_
      refine AW.block ?_
      refine AW.seq ?_
      refine AW.region (by rw [hE]; rfl) ?_
      refine asD rfl ?_
      refine OL.nil ?_
      refine AW.block ?_
      refine AW.whileK (α := Nat × Nat × Nat) [(0, _), (1, _), (4, _), (5, _), (6, _), (8, _)] [] (fun (s, b2, c2) => [(7, .osl 38 b2 (pathsMid n (pathsF n j) i s).length c2), (9, .d (dI s))]) (fun (s, b2, c2) => [(38, .row b2 c2 T.ints 1 ((pathsMid n (pathsF n j) i s).map ints))]) (fun (s, b2, c2) => s ≤ n) (fun (s, b2, c2) => n - s) (0, b, c) (by repeat (first | exact Knows.nil | refine Knows.cons (by first | exact knD rfl | exact knA rfl | exact knP rfl | exact knO rfl | exact knM rfl | exact knE rfl | exact knR rfl | exact knF rfl | exact knT rfl | exact knJ) ?_)) .nil ⟨Nat.zero_le _, .cons (by rw [pathsMid_zero]; exact VLe.refl _) (.cons (by first | exact VLe.refl _ | exact VLe.int (by omega) | exact VLe.mt | exact vle_q0 | exact VLe.osl | exact VLe.ptr) .nil), .cons (by rw [pathsMid_zero]; rfl) .nil⟩ ?_
      rintro ⟨s, b2, c2⟩ h3
      have h3 : s ≤ n := h3
      have hml := pathsMid_len n (pathsF n j) (s := s) h2
      have hil : i < (pathsF n j).length := by omega
      have hgl := (pathsF_mem (getD_mem hil [])).1
      refine AW.seq ?_
      refine AW.seq ?_
      refine AW.region (by rw [hE]; rfl) ?_
      refine mvD rfl ?_
      refine mvD rfl ?_
      refine c_lss rfl rfl rfl ?_
      refine OL.nil ?_
      refine AW.cond rfl (fun h24 => ?_) (fun h24 => ?_)
      · first | (simp only [decide_eq_true_eq, decide_eq_false_iff_not, Bool.not_eq_true', Bool.not_eq_false', Bool.not_not, Bool.and_eq_true, Bool.and_eq_false_iff, Bool.or_eq_true, Bool.or_eq_false_iff] at h24) | skip
        refine AW.skip ?_
        refine AW.seq ?_
        refine AW.block ?_
        refine AW.region (by rw [hE]; rfl) ?_
        first | refine mvD rfl ?_ | refine mvO rfl ?_ | refine mvM rfl ?_
        refine lt0 sl.ints ?_
        first | refine mvD rfl ?_ | refine mvO rfl ?_ | refine mvM rfl ?_
        refine mvD rfl ?_
        refine ixLn sl.intss [] rfl rfl (by omega) rfl rfl ?_
        first | refine ldRC ce.ints rfl ?_ | refine ldPC ce.ints rfl rfl rfl ?_
        refine apM sl.ints rfl rfl (VC.d _) dI_len (by rw [List.length_map]; omega) (by rw [List.length_map]; omega) rfl fun b3 c3 => ?_
        refine mvD rfl ?_
        refine lt1 sl.ints (VC.d _).vd rfl (by decide) ?_
        refine apOD sl.ints rfl rfl rfl rfl (VC.d _) (by simp [D.cells]) (by simp only [List.length_map, hgl, List.length_singleton]; omega) (by simp only [List.length_map, hgl, List.length_singleton]; omega) (.inl rfl) (ys := ((pathsF n j).getD i [] ++ [(s : Int)]).map dI) (by rw [List.map_append]; rfl) ?_
        refine lt1 (y := ints ((pathsF n j).getD i [] ++ [(s : Int)])) sl.intss (VC.d _).vd rfl (by decide) ?_
        refine apO sl.intss rfl rfl rfl (by rw [List.length_map]) (VC.d _) (by simp [D.cells]) (by simp; omega) (by simp; omega) (.inr rfl) (ys := (pathsMid n (pathsF n j) i (s + 1)).map ints) (by rw [pathsMid_succ, List.map_append]; rfl) (n2 := (pathsMid n (pathsF n j) i (s + 1)).length) (by rw [pathsMid_succ]; simp) fun b4 c4 => ?_
        first | refine asD rfl ?_ | refine asO rfl ?_ | refine asM rfl ?_
        refine OL.nil ?_
        refine AW.region (by rw [hE]; rfl) ?_
        refine mvD rfl ?_
        refine add_i64 rfl rfl (by omega) ?_
        refine asD rfl ?_
        refine OL.nil ?_
        exact AW.again (x := (s, b2, c2)) (s + 1, b4, c4) (by first | omega | (simp only []; omega)) ⟨by omega, Knows.app (.cons (VLe.refl _) (.cons (VLe.refl _) (.cons (VLe.refl _) (.cons (VLe.refl _) (.cons (VLe.refl _) (.cons (VLe.refl _) .nil)))))) (.cons (by first | exact VLe.refl _ | exact VLe.int (by omega) | exact VLe.mt | exact vle_q0 | exact VLe.osl | exact VLe.ptr) (.cons (by first | exact VLe.refl _ | exact VLe.int (by omega) | exact VLe.mt | exact vle_q0 | exact VLe.osl | exact VLe.ptr) .nil)), .cons rfl .nil⟩
      · first | (simp only [decide_eq_true_eq, decide_eq_false_iff_not, Bool.not_eq_true', Bool.not_eq_false', Bool.not_not, Bool.and_eq_true, Bool.and_eq_false_iff, Bool.or_eq_true, Bool.or_eq_false_iff] at h24) | skip
        refine AW.exit ?_
        refine AW.region (by rw [hE]; rfl) ?_
        refine mvD rfl ?_
        refine add_i64 rfl rfl (by omega) ?_
        refine asD rfl ?_
        refine OL.nil ?_
        exact AW.again (x := (i, b, c)) (i + 1, b2, c2) (by first | omega | (simp only []; omega)) ⟨by omega, Knows.app (.cons (VLe.refl _) (.cons (VLe.refl _) (.cons (VLe.refl _) (.cons (VLe.refl _) (.cons (VLe.refl _) .nil))))) (.cons (vle_of_eq (by show V.osl 38 b2 (pathsMid n (pathsF n j) i s).length c2 = _; rw [show s = n by omega, pathsMid_all n (show i < (pathsF n j).length by omega)])) (.cons (by first | exact VLe.refl _ | exact VLe.int (by omega) | exact VLe.mt | exact vle_q0 | exact VLe.osl | exact VLe.ptr) .nil)), .cons (by show some (Blk.row b2 c2 T.ints 1 ((pathsMid n (pathsF n j) i s).map ints)) = _; rw [show s = n by omega, pathsMid_all n (show i < (pathsF n j).length by omega)]) .nil⟩
    · first | (simp only [decide_eq_true_eq, decide_eq_false_iff_not, Bool.not_eq_true', Bool.not_eq_false', Bool.not_not, Bool.and_eq_true, Bool.and_eq_false_iff, Bool.or_eq_true, Bool.or_eq_false_iff] at h19) | skip
      refine AW.exit ?_
      refine AW.freeze 38 rfl (AW.to [(0, .d (dI n)), (1, .d (dI k)), (4, .mt), (6, .d (dI j)), (7, .d (dPs (pathsStep n (pathsF n j) i)))] [] (.cons (VLe.refl _) (.cons (VLe.refl _) (.cons (VLe.refl _) (.cons (VLe.refl _) (.cons (frz_osl (by rw [List.length_map]) rfl) .nil))))) .nil ?_)
      refine AW.region (by rw [hE]; rfl) ?_
      first | refine mvD rfl ?_ | refine mvO rfl ?_ | refine mvM rfl ?_
      first | refine asD rfl ?_ | refine asO rfl ?_ | refine asM rfl ?_
      refine OL.nil ?_
      refine AW.region (by rw [hE]; rfl) ?_
      refine mvD rfl ?_
      refine add_i64 rfl rfl (by omega) ?_
      refine asD rfl ?_
      refine OL.nil ?_
      exact AW.again (x := j) (j + 1) (by first | omega | (simp only []; omega)) ⟨by omega, Knows.app (.cons (VLe.refl _) (.cons (VLe.refl _) (.cons (VLe.refl _) .nil))) (.cons (by have e := pathsStep_all n j; rw [show (pathsF n j).length = i by omega] at e; exact vle_of_eq (congrArg (fun z => V.d (dPs z)) e)) (.cons (by first | exact VLe.refl _ | exact VLe.int (by omega) | exact VLe.mt | exact vle_q0 | exact VLe.osl | exact VLe.ptr) .nil)), .nil⟩
  · first | (simp only [decide_eq_true_eq, decide_eq_false_iff_not, Bool.not_eq_true', Bool.not_eq_false', Bool.not_not, Bool.and_eq_true, Bool.and_eq_false_iff, Bool.or_eq_true, Bool.or_eq_false_iff] at h13) | skip
    refine AW.exit ?_
    refine AW.seq ?_
    obtain rfl : j = k := by omega
    refine AW.region (by rw [hE]; rfl) ?_
    first | refine mvD rfl ?_ | refine mvO rfl ?_ | refine mvM rfl ?_
    first | refine asD rfl ?_ | refine asO rfl ?_ | refine asM rfl ?_
    refine OL.nil ?_
    exact AW.ret (RetQ.r ⟨_, .tmp rfl .nil, .le (by first | exact VLe.refl _ | exact VLe.mt | exact vle_q0 | exact VLe.int (by omega) | exact VLe.bool (by simp_all))⟩)
theorem law34_joint {h : HM} {B : Nat} {w p : List Int} (f : h.Form B) (k : WordOK h w) (hw : w.length ≤ 6) (hp : p ∈ pathsF h.st w.length) : FSpec P F.law34_joint [vHM h, .d (ints w), .d (ints p)] (vQ (jointE h w p)) := by
  have n1 := f.st1
  have s1 := f.sym1
  have e1 := f.ini
  have e2 := f.trans
  have e3 := f.stop
  have e4 := f.emit
  have hpl := (pathsF_mem hp).1
  have zj := jointE_sz f hw p
  refine FSpec.intro fn.law34_joint (by rfl) (by rfl) (Nat.le_of_ble_eq_true (by rfl)) fun E hE => ?_
  refine AW.seq ?_
  refine AW.region (by rw [hE]; rfl) ?_
  first | refine bxA rfl rfl fun b3 => ?_ | refine bxD rfl rfl fun b3 => ?_
  refine al z.Rat rfl fun b6 => ?_
  refine OL.nil ?_
  refine AW.seq ?_
  refine AW.seq ?_
  refine AW.region (by rw [hE]; rfl) ?_
  first | refine mvD rfl ?_ | refine mvO rfl ?_ | refine mvM rfl ?_
  first | refine lnL sl.ints rfl rfl ?_ | refine lnO sl.ints rfl rfl ?_ | refine lnM sl.ints rfl rfl ?_ | refine lnD sl.ints rfl rfl rfl ?_
  refine c_eql rfl rfl rfl ?_
  refine OL.nil ?_
  refine AW.cond rfl (fun h0 => ?_) (fun h0 => ?_)
  · have h0 : w.length = 0 := by have := of_decide_eq_true h0; omega
    rw [show jointE h w p = h.empty from if_pos h0]
    refine AW.seq ?_
    refine AW.region (by rw [hE]; rfl) ?_
    first | refine faP fd.Hidden_2 rfl rfl ?_ | refine faR fd.Hidden_2 rfl rfl ?_ | refine faE fd.Hidden_2 rfl rfl ?_
    first | refine ldPA ag.Rat rfl rfl (vs := [_, _, _]) rfl (Nat.le_of_ble_eq_true rfl) ?_ | refine ldRA ag.Rat rfl (vs := [_, _, _]) rfl (Nat.le_of_ble_eq_true rfl) ?_
    first | refine sto sz.Rat rfl rfl rfl rfl rfl (Nat.le_of_ble_eq_true rfl) (cells2 := [_, _, _]) rfl ?_ | refine stE sz.Rat rfl (VC.d _).vd rfl rfl (by omega) rfl ?_
    refine OL.nil ?_
    exact AW.ret (RetQ.r ⟨_, .cellA rfl rfl ag.Rat (Nat.le_of_ble_eq_true rfl) .nil, .ag (.cons (.le (by first | exact VLe.refl _ | exact VLe.mt | exact vle_q0 | exact VLe.int (by omega) | exact VLe.bool (by simp_all))) (.cons (.le (by first | exact VLe.refl _ | exact VLe.mt | exact vle_q0 | exact VLe.int (by omega) | exact VLe.bool (by simp_all))) (.cons (.le (by first | exact VLe.refl _ | exact VLe.mt | exact vle_q0 | exact VLe.int (by omega) | exact VLe.bool (by simp_all))) .nil)))⟩)
  · have h0 : w.length ≠ 0 := fun e => of_decide_eq_false h0 (by omega)
    rw [show jointE h w p = wgt h w p w.length * h.stop.getD (atP p (w.length - 1)) 0 from if_neg h0]
    refine AW.skip ?_
    refine AW.seq ?_
    have h00 := atP_lt (t := 0) hp (by omega)
    refine AW.region_draw 1 [0, 1, 2, 3, 4, 5, 6, 7, 8] order_free (by rw [hE]; rfl) (by kernel_rfl) (OI.of_OL (os := [_, _, _, _, _, _, _, _, _]) rfl ?_)
    first | refine faP fd.Hidden_3 rfl rfl ?_ | refine faR fd.Hidden_3 rfl rfl ?_ | refine faE fd.Hidden_3 rfl rfl ?_
    first | refine ldRC ce.Rats rfl ?_ | refine ldPC ce.Rats rfl rfl rfl ?_
    first | refine mvD rfl ?_ | refine mvO rfl ?_ | refine mvM rfl ?_
    refine ixLe 0 sl.ints 0 rfl rfl (by omega) (by omega) rfl rfl ?_
    first | refine ldRC ce.int rfl ?_ | refine ldPC ce.int rfl rfl rfl ?_
    rw [h00.2]
    refine ixLn sl.Rats 0 rfl rfl (by omega) rfl rfl ?_
    first | refine ldPA ag.Rat rfl rfl (vs := [_, _, _]) rfl (Nat.le_of_ble_eq_true rfl) ?_ | refine ldRA ag.Rat rfl (vs := [_, _, _]) rfl (Nat.le_of_ble_eq_true rfl) ?_
    refine al z.Rat rfl fun b7 => ?_
    first | refine sto sz.Rat rfl rfl rfl rfl rfl (Nat.le_of_ble_eq_true rfl) (cells2 := [_, _, _]) rfl ?_ | refine stE sz.Rat rfl (VC.d _).vd rfl rfl (by omega) rfl ?_
    refine OL.nil ?_
    refine AW.seq ?_
    refine AW.seq ?_
    refine AW.region (by rw [hE]; rfl) ?_
    refine asD rfl ?_
    refine OL.nil ?_
    refine AW.block ?_
    refine AW.boxW 7 (cellsQ (wgt h w p 0)) rfl (VLes.refl _) ?_
    refine AW.whileK (α := Nat) [(1, _), (2, _), (3, _), (6, _), (7, _)] [(3, _), (6, _)] (fun t => [(8, .d (dI t))]) (fun t => [(7, .box b7 T.Rat (cellsQ (wgt h w p t)))]) (fun t => t ≤ w.length) (fun t => w.length - t) 0 (by repeat (first | exact Knows.nil | refine Knows.cons (by first | exact knD rfl | exact knA rfl | exact knP rfl | exact knO rfl | exact knM rfl | exact knE rfl | exact knR rfl | exact knF rfl | exact knT rfl | exact knJ) ?_)) (by repeat (first | exact Owns.nil | refine Owns.cons (by first | exact owB rfl | exact owR rfl | exact owL rfl | exact owT rfl) ?_)) ⟨Nat.zero_le _, .cons (by first | exact VLe.refl _ | exact VLe.int (by omega) | exact VLe.mt | exact vle_q0 | exact VLe.osl | exact VLe.ptr) .nil, .cons rfl .nil⟩ ?_
    intro t h1
    have h1 : t ≤ w.length := h1
    have zw := wgt_sz f w p t
    refine AW.seq ?_
    refine AW.seq ?_
    refine AW.region (by rw [hE]; rfl) ?_
    refine mvD rfl ?_
    first | refine mvD rfl ?_ | refine mvO rfl ?_ | refine mvM rfl ?_
    first | refine lnL sl.ints rfl rfl ?_ | refine lnO sl.ints rfl rfl ?_ | refine lnM sl.ints rfl rfl ?_ | refine lnD sl.ints rfl rfl rfl ?_
    refine c_lss rfl rfl rfl ?_
    refine OL.nil ?_
    refine AW.cond rfl (fun h24 => ?_) (fun h24 => ?_)
    · first | (simp only [decide_eq_true_eq, decide_eq_false_iff_not, Bool.not_eq_true', Bool.not_eq_false', Bool.not_not, Bool.and_eq_true, Bool.and_eq_false_iff, Bool.or_eq_true, Bool.or_eq_false_iff] at h24) | skip
      refine AW.skip ?_
      refine AW.seq ?_
      refine AW.block ?_
      have hx := k.symX (t := t) (by omega)
      have hat := atP_lt (t := t) hp (by omega)
      have ti := f.trow (atP p (t - 1)) (by have := (atP_lt (t := t - 1) hp (by omega)).1; omega)
      have ei := f.erow (atP p t) (by omega)
      have ht1 := atP_lt (t := t - 1) hp (by omega)
      have zt := tr_sz f (atP p (t - 1)) (atP p t)
      have ze := em_sz f (atP p t) (symX w t)
      have zm := sz_mul (wgt h w p t) (trQ h (atP p (t - 1)) (atP p t))
      refine AW.midK (α := Unit) [(1, _), (2, _), (3, _), (6, _), (7, _), (8, _)] [(3, _), (6, _)] (fun _u => []) (fun _u => [(7, .box b7 T.Rat (cellsQ (if t = 0 then wgt h w p t else wgt h w p t * trQ h (atP p (t - 1)) (atP p t))))]) (fun _u => True) (by repeat (first | exact Knows.nil | refine Knows.cons (by first | exact knD rfl | exact knA rfl | exact knP rfl | exact knO rfl | exact knM rfl | exact knE rfl | exact knR rfl | exact knF rfl | exact knT rfl | exact knJ) ?_)) (by repeat (first | exact Owns.nil | refine Owns.cons (by first | exact owB rfl | exact owR rfl | exact owL rfl | exact owT rfl) ?_)) ?_ ?_
      · refine AW.seq ?_
        refine AW.region (by rw [hE]; rfl) ?_
        refine mvD rfl ?_
        refine c_gtr rfl rfl rfl ?_
        refine OL.nil ?_
        refine AW.cond rfl (fun h2 => ?_) (fun h2 => ?_)
        · have h2 : t ≠ 0 := by have := of_decide_eq_true h2; omega
          refine AW.region_draw 1 [0, 1, 2, 3, 4, 5, 6, 7, 8, 9, 10, 11, 12, 13, 14, 15, 16, 17] order_free (by rw [hE]; rfl) (by kernel_rfl) (OI.of_OL (os := [_, _, _, _, _, _, _, _, _, _, _, _, _, _, _, _, _, _]) rfl ?_)
          first | refine ldPA ag.Rat rfl rfl (vs := [_, _, _]) rfl (Nat.le_of_ble_eq_true rfl) ?_ | refine ldRA ag.Rat rfl (vs := [_, _, _]) rfl (Nat.le_of_ble_eq_true rfl) ?_
          first | refine faP fd.Hidden_4 rfl rfl ?_ | refine faR fd.Hidden_4 rfl rfl ?_ | refine faE fd.Hidden_4 rfl rfl ?_
          first | refine ldRC ce.Ratss rfl ?_ | refine ldPC ce.Ratss rfl rfl rfl ?_
          first | refine mvD rfl ?_ | refine mvO rfl ?_ | refine mvM rfl ?_
          refine mvD rfl ?_
          refine bo rfl rfl (bin_sub (c := ((t - 1 : Nat) : Int)) (by omega) (wrap_i64 (by omega))) ?_
          refine ixLn sl.ints 0 rfl rfl (by omega) rfl rfl ?_
          first | refine ldRC ce.int rfl ?_ | refine ldPC ce.int rfl rfl rfl ?_
          rw [ht1.2]
          refine ixLn sl.Ratss [] rfl rfl (by omega) rfl rfl ?_
          first | refine ldRC ce.Rats rfl ?_ | refine ldPC ce.Rats rfl rfl rfl ?_
          first | refine mvD rfl ?_ | refine mvO rfl ?_ | refine mvM rfl ?_
          refine mvD rfl ?_
          refine ixLn sl.ints 0 rfl rfl (by omega) rfl rfl ?_
          first | refine ldRC ce.int rfl ?_ | refine ldPC ce.int rfl rfl rfl ?_
          rw [hat.2]
          refine ixLn sl.Rats 0 rfl rfl (by omega) rfl rfl ?_
          first | refine ldPA ag.Rat rfl rfl (vs := [_, _, _]) rfl (Nat.le_of_ble_eq_true rfl) ?_ | refine ldRA ag.Rat rfl (vs := [_, _, _]) rfl (Nat.le_of_ble_eq_true rfl) ?_
          refine clv rfl (.cons (VLe.refl _) (.cons (VLe.refl _) (.nil))) (ref_MulQ (x := wgt h w p t) (y := trQ h (atP p (t - 1)) (atP p t)) (by omega) (by omega)) ?_
          first | refine sto sz.Rat rfl rfl rfl rfl rfl (Nat.le_of_ble_eq_true rfl) (cells2 := [_, _, _]) rfl ?_ | refine stE sz.Rat rfl (VC.d _).vd rfl rfl (by omega) rfl ?_
          refine OL.nil ?_
          exact AW.reach () ⟨trivial, Knows.app (.cons (VLe.refl _) (.cons (VLe.refl _) (.cons (VLe.refl _) (.cons (VLe.refl _) (.cons (VLe.refl _) (.cons (VLe.refl _) .nil)))))) (.nil), Owns.app (.cons rfl (.cons rfl .nil)) (.cons (by rw [if_neg h2]; rfl) .nil)⟩
        · have h2 : t = 0 := by have := of_decide_eq_false h2; omega
          refine AW.skip ?_
          exact AW.reach () ⟨trivial, Knows.app (.cons (VLe.refl _) (.cons (VLe.refl _) (.cons (VLe.refl _) (.cons (VLe.refl _) (.cons (VLe.refl _) (.cons (VLe.refl _) .nil)))))) (.nil), Owns.app (.cons rfl (.cons rfl .nil)) (.cons (by rw [if_pos h2]; rfl) .nil)⟩
      rintro ⟨⟩ hφ
      have zi : sz (if t = 0 then wgt h w p t else wgt h w p t * trQ h (atP p (t - 1)) (atP p t)) ≤ 40000 := by
        split <;> omega
      refine AW.region_draw 1 [0, 1, 2, 3, 4, 5, 6, 7, 8, 9, 10, 11, 12, 13, 14, 15, 16, 17] order_free (by rw [hE]; rfl) (by kernel_rfl) (OI.of_OL (os := [_, _, _, _, _, _, _, _, _, _, _, _, _, _, _, _, _, _]) rfl ?_)
      first | refine ldPA ag.Rat rfl rfl (vs := [_, _, _]) rfl (Nat.le_of_ble_eq_true rfl) ?_ | refine ldRA ag.Rat rfl (vs := [_, _, _]) rfl (Nat.le_of_ble_eq_true rfl) ?_
      first | refine faP fd.Hidden_6 rfl rfl ?_ | refine faR fd.Hidden_6 rfl rfl ?_ | refine faE fd.Hidden_6 rfl rfl ?_
      first | refine ldRC ce.Ratss rfl ?_ | refine ldPC ce.Ratss rfl rfl rfl ?_
      first | refine mvD rfl ?_ | refine mvO rfl ?_ | refine mvM rfl ?_
      refine mvD rfl ?_
      refine ixLn sl.ints 0 rfl rfl (by omega) rfl rfl ?_
      first | refine ldRC ce.int rfl ?_ | refine ldPC ce.int rfl rfl rfl ?_
      rw [hat.2]
      refine ixLn sl.Ratss [] rfl rfl (by omega) rfl rfl ?_
      first | refine ldRC ce.Rats rfl ?_ | refine ldPC ce.Rats rfl rfl rfl ?_
      first | refine mvD rfl ?_ | refine mvO rfl ?_ | refine mvM rfl ?_
      refine mvD rfl ?_
      refine ixLn sl.ints 0 rfl rfl (by omega) rfl rfl ?_
      first | refine ldRC ce.int rfl ?_ | refine ldPC ce.int rfl rfl rfl ?_
      rw [hx.2]
      refine bo rfl rfl (bin_sub (c := (symX w t : Int)) (by omega) (wrap_i64 (by omega))) ?_
      refine ixLn sl.Rats 0 rfl rfl (by omega) rfl rfl ?_
      first | refine ldPA ag.Rat rfl rfl (vs := [_, _, _]) rfl (Nat.le_of_ble_eq_true rfl) ?_ | refine ldRA ag.Rat rfl (vs := [_, _, _]) rfl (Nat.le_of_ble_eq_true rfl) ?_
      refine clv rfl (.cons (VLe.refl _) (.cons (VLe.refl _) (.nil))) (ref_MulQ (x := if t = 0 then wgt h w p t else wgt h w p t * trQ h (atP p (t - 1)) (atP p t)) (y := emQ h (atP p t) (symX w t)) (by omega) (by omega)) ?_
      rw [show (if t = 0 then wgt h w p t else wgt h w p t * trQ h (atP p (t - 1)) (atP p t)) * emQ h (atP p t) (symX w t) = wgt h w p (t + 1) from rfl]
      first | refine sto sz.Rat rfl rfl rfl rfl rfl (Nat.le_of_ble_eq_true rfl) (cells2 := [_, _, _]) rfl ?_ | refine stE sz.Rat rfl (VC.d _).vd rfl rfl (by omega) rfl ?_
      refine OL.nil ?_
      refine AW.region (by rw [hE]; rfl) ?_
      refine mvD rfl ?_
      refine add_i64 rfl rfl (by omega) ?_
      refine asD rfl ?_
      refine OL.nil ?_
      exact AW.again (x := t) (t + 1) (by first | omega | (simp only []; omega)) ⟨by omega, Knows.app (.cons (VLe.refl _) (.cons (VLe.refl _) (.cons (VLe.refl _) (.cons (VLe.refl _) (.cons (VLe.refl _) .nil))))) (.cons (by first | exact VLe.refl _ | exact VLe.int (by omega) | exact VLe.mt | exact vle_q0 | exact VLe.osl | exact VLe.ptr) .nil), Owns.app (.cons rfl (.cons rfl .nil)) (.cons rfl .nil)⟩
    · first | (simp only [decide_eq_true_eq, decide_eq_false_iff_not, Bool.not_eq_true', Bool.not_eq_false', Bool.not_not, Bool.and_eq_true, Bool.and_eq_false_iff, Bool.or_eq_true, Bool.or_eq_false_iff] at h24) | skip
      refine AW.exit ?_
      refine AW.seq ?_
      obtain rfl : t = w.length := by omega
      have hle := atP_lt (t := w.length - 1) hp (by omega)
      have zs := stop_sz f (atP p (w.length - 1))
      refine AW.region_draw 1 [0, 1, 2, 3, 4, 5, 6, 7, 8, 9, 10, 11, 12] order_free (by rw [hE]; rfl) (by kernel_rfl) (OI.of_OL (os := [_, _, _, _, _, _, _, _, _, _, _, _, _]) rfl ?_)
      first | refine ldPA ag.Rat rfl rfl (vs := [_, _, _]) rfl (Nat.le_of_ble_eq_true rfl) ?_ | refine ldRA ag.Rat rfl (vs := [_, _, _]) rfl (Nat.le_of_ble_eq_true rfl) ?_
      first | refine faP fd.Hidden_5 rfl rfl ?_ | refine faR fd.Hidden_5 rfl rfl ?_ | refine faE fd.Hidden_5 rfl rfl ?_
      first | refine ldRC ce.Rats rfl ?_ | refine ldPC ce.Rats rfl rfl rfl ?_
      first | refine mvD rfl ?_ | refine mvO rfl ?_ | refine mvM rfl ?_
      first | refine mvD rfl ?_ | refine mvO rfl ?_ | refine mvM rfl ?_
      first | refine lnL sl.ints rfl rfl ?_ | refine lnO sl.ints rfl rfl ?_ | refine lnM sl.ints rfl rfl ?_ | refine lnD sl.ints rfl rfl rfl ?_
      refine bo rfl rfl (bin_sub (c := ((w.length - 1 : Nat) : Int)) (by omega) (wrap_i64 (by omega))) ?_
      refine ixLn sl.ints 0 rfl rfl (by omega) rfl rfl ?_
      first | refine ldRC ce.int rfl ?_ | refine ldPC ce.int rfl rfl rfl ?_
      rw [hle.2]
      refine ixLn sl.Rats 0 rfl rfl (by omega) rfl rfl ?_
      first | refine ldPA ag.Rat rfl rfl (vs := [_, _, _]) rfl (Nat.le_of_ble_eq_true rfl) ?_ | refine ldRA ag.Rat rfl (vs := [_, _, _]) rfl (Nat.le_of_ble_eq_true rfl) ?_
      refine clv rfl (.cons (VLe.refl _) (.cons (VLe.refl _) (.nil))) (ref_MulQ (x := wgt h w p w.length) (y := h.stop.getD (atP p (w.length - 1)) 0) (by omega) (by omega)) ?_
      first | refine sto sz.Rat rfl rfl rfl rfl rfl (Nat.le_of_ble_eq_true rfl) (cells2 := [_, _, _]) rfl ?_ | refine stE sz.Rat rfl (VC.d _).vd rfl rfl (by omega) rfl ?_
      refine OL.nil ?_
      exact AW.ret (RetQ.r ⟨_, .cellA rfl rfl ag.Rat (Nat.le_of_ble_eq_true rfl) .nil, .ag (.cons (.le (by first | exact VLe.refl _ | exact VLe.mt | exact vle_q0 | exact VLe.int (by omega) | exact VLe.bool (by simp_all))) (.cons (.le (by first | exact VLe.refl _ | exact VLe.mt | exact vle_q0 | exact VLe.int (by omega) | exact VLe.bool (by simp_all))) (.cons (.le (by first | exact VLe.refl _ | exact VLe.mt | exact vle_q0 | exact VLe.int (by omega) | exact VLe.bool (by simp_all))) .nil)))⟩)
set_option maxRecDepth 6000 in
set_option maxHeartbeats 3200000 in
theorem law_ForwardIsExhaustive {L l : List Int} {cs cy pv sx : Int} (nL : L.length ≤ 9223372036854775807) : FSpec P F.law34_ForwardIsExhaustive [.ag [.d (dI cs), .d (dI cy), .d (ints L)], .d (ints l), .d (dI pv), .d (dI sx)] (.d (dB true)) := by
  obtain ⟨h, hh⟩ : ∃ h, h = chainHM L cs cy 3 := ⟨_, rfl⟩
  have hg : h.Good 1 := by rw [hh]; exact chainHM_good L cs cy (by decide)
  have hst : (h.st : Int) ≤ 3 := by rw [hh]; exact chainHM_st L cs cy (by decide)
  have f := hg.form
  have s0 := f.sym0
  have s1 := f.sym1
  have n0 := f.st0
  obtain ⟨w, hw⟩ : ∃ w, w = wordF l h.sym 4 := ⟨_, rfl⟩
  have kw : WordOK h w := by rw [hw]; exact wordF_ok s0 (by decide)
  have wl : w.length ≤ 4 := by rw [hw]; exact wordF_len ..
  have fw : Few h w := ⟨by omega, by omega⟩
  have wp := within_range (v := pv) (m := (max (w.length : Int) 1)) (by omega)
  have ws := within_range (v := sx) (m := (h.st : Int)) (by omega)
  obtain ⟨a, ea⟩ : ∃ a : Nat, within pv (max (w.length : Int) 1) = (a : Int) := ⟨(within pv (max (w.length : Int) 1)).toNat, by omega⟩
  obtain ⟨j, ej⟩ : ∃ j : Nat, within sx (h.st : Int) = (j : Int) := ⟨(within sx (h.st : Int)).toNat, by omega⟩
  have hj : j < h.st := by omega
  have hpl := pathsF_len h.st w.length
  have hpw := pow_le (n := h.st) (k := w.length) (by omega) wl
  have zl := lik_sz f fw
  refine FSpec.intro fn.law34_ForwardIsExhaustive (by rfl) (by rfl) (Nat.le_of_ble_eq_true (by rfl)) fun E hE => ?_
  refine AW.seq ?_
  refine AW.region (by rw [hE]; rfl) ?_
  first | refine bxA rfl rfl fun b4 => ?_ | refine bxD rfl rfl fun b4 => ?_
  refine asD rfl ?_
  refine OL.nil ?_
  refine AW.seq ?_
  refine AW.region (by rw [hE]; rfl) ?_
  first | refine ldPA ag.Chain rfl rfl (vs := [_, _, _]) rfl (Nat.le_of_ble_eq_true rfl) ?_ | refine ldRA ag.Chain rfl (vs := [_, _, _]) rfl (Nat.le_of_ble_eq_true rfl) ?_
  refine clv rfl (.cons (VLe.refl _) (.cons (VLe.refl _) (.nil))) (chain_Hidden (by decide) nL) ?_
  rw [← hh]
  refine al z.Hidden rfl fun b9 => ?_
  first | refine sto sz.Hidden rfl rfl rfl rfl rfl (Nat.le_of_ble_eq_true rfl) (cells2 := [_, _, _, _, _, _, _, _, _, _, _]) rfl ?_ | refine stE sz.Hidden rfl (VC.d _).vd rfl rfl (by omega) rfl ?_
  refine OL.nil ?_
  refine AW.seq ?_
  refine AW.region (by rw [hE]; rfl) ?_
  first | refine mvD rfl ?_ | refine mvO rfl ?_ | refine mvM rfl ?_
  first | refine faP fd.Hidden_0 rfl rfl ?_ | refine faR fd.Hidden_0 rfl rfl ?_ | refine faE fd.Hidden_0 rfl rfl ?_
  first | refine ldRC ce.int rfl ?_ | refine ldPC ce.int rfl rfl rfl ?_
  refine clv rfl (.cons (VLe.refl _) (.cons (VLe.refl _) (.cons (VLe.refl _) (.nil)))) (world_Word (sym := h.sym) (most := 4) ⟨s0, by omega⟩ (by decide)) ?_
  rw [← hw]
  first | refine asD rfl ?_ | refine asO rfl ?_ | refine asM rfl ?_
  refine OL.nil ?_
  refine AW.seq ?_
  refine AW.region (by rw [hE]; rfl) ?_
  first | refine ldPA ag.Hidden rfl rfl (vs := [_, _, _, _, _, _, _, _, _, _, _]) rfl (Nat.le_of_ble_eq_true rfl) ?_ | refine ldRA ag.Hidden rfl (vs := [_, _, _, _, _, _, _, _, _, _, _]) rfl (Nat.le_of_ble_eq_true rfl) ?_
  first | refine mvD rfl ?_ | refine mvO rfl ?_ | refine mvM rfl ?_
  refine clv rfl (.cons (VLe.refl _) (.cons (VLe.refl _) (.nil))) (fwd_Likelihood hg kw fw) ?_
  first | refine mvD rfl ?_ | refine mvT rfl ?_ | refine mvP rfl ?_ | refine mvR rfl ?_ | refine mvE rfl ?_ | refine mvF rfl ?_ | refine mvA rfl ?_ | refine mvO rfl ?_ | refine mvM rfl ?_ | refine mvJ rfl ?_
  refine ex rfl rfl ?_
  refine ex rfl rfl ?_
  refine al z.Rat rfl fun b11 => ?_
  first | refine sto sz.Rat rfl rfl rfl rfl rfl (Nat.le_of_ble_eq_true rfl) (cells2 := [_, _, _]) rfl ?_ | refine stE sz.Rat rfl (VC.d _).vd rfl rfl (by omega) rfl ?_
  refine asD rfl ?_
  refine OL.nil ?_
  refine AW.seq ?_
  refine AW.region (by rw [hE]; rfl) ?_
  refine bd z.Rat pl.Rat (cs := [_, _, _]) rfl ?_
  refine bd z.Rat pl.Rat (cs := [_, _, _]) rfl ?_
  refine al z.Rat rfl fun b13 => ?_
  refine al z.Rat rfl fun b14 => ?_
  first | refine sto sz.Rat rfl rfl rfl rfl rfl (Nat.le_of_ble_eq_true rfl) (cells2 := [_, _, _]) rfl ?_ | refine stE sz.Rat rfl (VC.d _).vd rfl rfl (by omega) rfl ?_
  first | refine sto sz.Rat rfl rfl rfl rfl rfl (Nat.le_of_ble_eq_true rfl) (cells2 := [_, _, _]) rfl ?_ | refine stE sz.Rat rfl (VC.d _).vd rfl rfl (by omega) rfl ?_
  refine OL.nil ?_
  refine AW.seq ?_
  refine AW.region_draw 1 [0, 1, 2, 3, 4, 5, 6, 7, 8, 9, 10] order_free (by rw [hE]; rfl) (by kernel_rfl) (OI.of_OL (os := [_, _, _, _, _, _, _, _, _, _, _]) rfl ?_)
  refine mvD rfl ?_
  first | refine mvD rfl ?_ | refine mvO rfl ?_ | refine mvM rfl ?_
  first | refine lnL sl.ints rfl rfl ?_ | refine lnO sl.ints rfl rfl ?_ | refine lnM sl.ints rfl rfl ?_ | refine lnD sl.ints rfl rfl rfl ?_
  refine mx rfl rfl (c := (max (w.length : Int) 1)) rfl ?_
  refine clv rfl (.cons (VLe.refl _) (.cons (VLe.refl _) (.nil))) (world_Within (by omega)) ?_
  rw [ea]
  refine mvD rfl ?_
  first | refine faP fd.Hidden_1 rfl rfl ?_ | refine faR fd.Hidden_1 rfl rfl ?_ | refine faE fd.Hidden_1 rfl rfl ?_
  first | refine ldRC ce.int rfl ?_ | refine ldPC ce.int rfl rfl rfl ?_
  refine clv rfl (.cons (VLe.refl _) (.cons (VLe.refl _) (.nil))) (world_Within (by omega)) ?_
  rw [ej]
  refine asD rfl ?_
  refine asD rfl ?_
  refine OL.nil ?_
  refine AW.seq ?_
  refine AW.region (by rw [hE]; rfl) ?_
  first | refine faP fd.Hidden_1 rfl rfl ?_ | refine faR fd.Hidden_1 rfl rfl ?_ | refine faE fd.Hidden_1 rfl rfl ?_
  first | refine ldRC ce.int rfl ?_ | refine ldPC ce.int rfl rfl rfl ?_
  first | refine mvD rfl ?_ | refine mvO rfl ?_ | refine mvM rfl ?_
  first | refine lnL sl.ints rfl rfl ?_ | refine lnO sl.ints rfl rfl ?_ | refine lnM sl.ints rfl rfl ?_ | refine lnD sl.ints rfl rfl rfl ?_
  refine clv rfl (.cons (VLe.refl _) (.cons (VLe.refl _) (.nil))) (world_Paths (n := h.st) (k := w.length) (by omega) wl) ?_
  first | refine asD rfl ?_ | refine asO rfl ?_ | refine asM rfl ?_
  refine OL.nil ?_
  refine AW.seq ?_
  refine AW.seq ?_
  refine AW.region (by rw [hE]; rfl) ?_
  refine asD rfl ?_
  refine OL.nil ?_
  refine AW.block ?_
  refine AW.boxW 13 (cellsQ 0) rfl vles_q ?_
  refine AW.boxW 14 (cellsQ 0) rfl vles_q ?_
  refine AW.whileK (α := Nat) [(2, _), (3, _), (8, _), (9, _), (10, _), (11, _), (12, _), (13, _), (14, _), (15, _)] [(9, _), (11, _)] (fun i => [(16, .d (dI i))]) (fun i => [(13, .box b13 T.Rat (cellsQ (lsum (jointE h w) ((pathsF h.st w.length).take i)))), (14, .box b14 T.Rat (cellsQ (lsum (partF h w a j) ((pathsF h.st w.length).take i))))]) (fun i => i ≤ (pathsF h.st w.length).length) (fun i => (pathsF h.st w.length).length - i) 0 (by repeat (first | exact Knows.nil | refine Knows.cons (by first | exact knD rfl | exact knA rfl | exact knP rfl | exact knO rfl | exact knM rfl | exact knE rfl | exact knR rfl | exact knF rfl | exact knT rfl | exact knJ) ?_)) (by repeat (first | exact Owns.nil | refine Owns.cons (by first | exact owB rfl | exact owR rfl | exact owL rfl | exact owT rfl) ?_)) ⟨Nat.zero_le _, .cons (by first | exact VLe.refl _ | exact VLe.int (by omega) | exact VLe.mt | exact vle_q0 | exact VLe.osl | exact VLe.ptr) .nil, .cons rfl (.cons rfl .nil)⟩ ?_
  intro i h1
  have h1 : i ≤ (pathsF h.st w.length).length := h1
  have z1 := lsum_sz (f := jointE h w) (C := 20000) ((pathsF h.st w.length).take i) fun p _ => jointE_sz f (by omega) p
  have z2 := lsum_sz (f := partF h w a j) (C := 20000) ((pathsF h.st w.length).take i) fun p _ => partF_sz f (by omega) a j p
  rw [List.length_take, Nat.min_eq_left h1] at z1 z2
  refine AW.seq ?_
  refine AW.seq ?_
  refine AW.region (by rw [hE]; rfl) ?_
  refine mvD rfl ?_
  first | refine mvD rfl ?_ | refine mvO rfl ?_ | refine mvM rfl ?_
  first | refine lnL sl.intss rfl rfl ?_ | refine lnO sl.intss rfl rfl ?_ | refine lnM sl.intss rfl rfl ?_ | refine lnD sl.intss rfl rfl rfl ?_
  refine c_lss rfl rfl rfl ?_
  refine OL.nil ?_
  refine AW.cond rfl (fun h53 => ?_) (fun h53 => ?_)
  · first | (simp only [decide_eq_true_eq, decide_eq_false_iff_not, Bool.not_eq_true', Bool.not_eq_false', Bool.not_not, Bool.and_eq_true, Bool.and_eq_false_iff, Bool.or_eq_true, Bool.or_eq_false_iff] at h53) | skip
    refine AW.skip ?_
    refine AW.seq ?_
    refine AW.block ?_
    refine AW.seq ?_
    have hi : i < (pathsF h.st w.length).length := by omega
    have hm : ((pathsF h.st w.length).getD i []) ∈ (pathsF h.st w.length) := getD_mem hi []
    have hml := (pathsF_mem hm).1
    have zj := jointE_sz f (show w.length ≤ 6 by omega) ((pathsF h.st w.length).getD i [])
    have e1 := lsum_take_succ (jointE h w) [] hi
    have e2 := lsum_take_succ (partF h w a j) [] hi
    refine AW.region_draw 1 [0, 1, 2, 3, 4, 5, 6, 7, 8] order_free (by rw [hE]; rfl) (by kernel_rfl) (OI.of_OL (os := [_, _, _, _, _, _, _, _, _]) rfl ?_)
    first | refine ldPA ag.Hidden rfl rfl (vs := [_, _, _, _, _, _, _, _, _, _, _]) rfl (Nat.le_of_ble_eq_true rfl) ?_ | refine ldRA ag.Hidden rfl (vs := [_, _, _, _, _, _, _, _, _, _, _]) rfl (Nat.le_of_ble_eq_true rfl) ?_
    first | refine mvD rfl ?_ | refine mvO rfl ?_ | refine mvM rfl ?_
    first | refine mvD rfl ?_ | refine mvO rfl ?_ | refine mvM rfl ?_
    refine mvD rfl ?_
    refine ixLn sl.intss [] rfl rfl (by omega) rfl rfl ?_
    first | refine ldRC ce.ints rfl ?_ | refine ldPC ce.ints rfl rfl rfl ?_
    refine clv rfl (.cons (VLe.refl _) (.cons (VLe.refl _) (.cons (VLe.refl _) (.nil)))) (law34_joint f kw (by omega) hm) ?_
    refine al z.Rat rfl fun b17 => ?_
    first | refine sto sz.Rat rfl rfl rfl rfl rfl (Nat.le_of_ble_eq_true rfl) (cells2 := [_, _, _]) rfl ?_ | refine stE sz.Rat rfl (VC.d _).vd rfl rfl (by omega) rfl ?_
    refine OL.nil ?_
    refine AW.seq ?_
    refine AW.region (by rw [hE]; rfl) ?_
    first | refine ldPA ag.Rat rfl rfl (vs := [_, _, _]) rfl (Nat.le_of_ble_eq_true rfl) ?_ | refine ldRA ag.Rat rfl (vs := [_, _, _]) rfl (Nat.le_of_ble_eq_true rfl) ?_
    first | refine ldPA ag.Rat rfl rfl (vs := [_, _, _]) rfl (Nat.le_of_ble_eq_true rfl) ?_ | refine ldRA ag.Rat rfl (vs := [_, _, _]) rfl (Nat.le_of_ble_eq_true rfl) ?_
    refine clv rfl (.cons (VLe.refl _) (.cons (VLe.refl _) (.nil))) (ref_AddQ (x := (lsum (jointE h w) ((pathsF h.st w.length).take i))) (y := jointE h w ((pathsF h.st w.length).getD i [])) (by omega) (by omega)) ?_
    rw [← e1]
    first | refine sto sz.Rat rfl rfl rfl rfl rfl (Nat.le_of_ble_eq_true rfl) (cells2 := [_, _, _]) rfl ?_ | refine stE sz.Rat rfl (VC.d _).vd rfl rfl (by omega) rfl ?_
    refine OL.nil ?_
    refine AW.midK (α := Unit) [(2, _), (3, _), (8, _), (9, _), (10, _), (11, _), (12, _), (13, _), (14, _), (15, _), (16, _), (17, _)] [(9, _), (11, _), (13, _), (14, _), (17, _)] (fun _u => [(79, .d (dB (decide (w.length ≠ 0 ∧ atP ((pathsF h.st w.length).getD i []) a = j))))]) (fun _u => []) (fun _u => True) (by repeat (first | exact Knows.nil | refine Knows.cons (by first | exact knD rfl | exact knA rfl | exact knP rfl | exact knO rfl | exact knM rfl | exact knE rfl | exact knR rfl | exact knF rfl | exact knT rfl | exact knJ) ?_)) (by repeat (first | exact Owns.nil | refine Owns.cons (by first | exact owB rfl | exact owR rfl | exact owL rfl | exact owT rfl) ?_)) ?_ ?_
    · refine AW.region (by rw [hE]; rfl) ?_
      first | refine mvD rfl ?_ | refine mvO rfl ?_ | refine mvM rfl ?_
      first | refine lnL sl.ints rfl rfl ?_ | refine lnO sl.ints rfl rfl ?_ | refine lnM sl.ints rfl rfl ?_ | refine lnD sl.ints rfl rfl rfl ?_
      refine c_gtr rfl rfl rfl ?_
      refine mvD rfl ?_
      refine OL.split 69 rfl (fun hn => ?_) (fun hn => ?_)
      · have hn : w.length ≠ 0 := by have := of_decide_eq_true hn; omega
        have hat := atP_lt (t := a) hm (by omega)
        refine OL.yes rfl ?_
        first | refine mvD rfl ?_ | refine mvO rfl ?_ | refine mvM rfl ?_
        refine OL.yes rfl ?_
        refine mvD rfl ?_
        refine OL.yes rfl ?_
        refine ixLn sl.intss [] rfl rfl (by omega) rfl rfl ?_
        refine OL.yes rfl ?_
        first | refine ldRC ce.ints rfl ?_ | refine ldPC ce.ints rfl rfl rfl ?_
        refine OL.yes rfl ?_
        refine mvD rfl ?_
        refine OL.yes rfl ?_
        refine ixLn sl.ints 0 rfl rfl (by omega) rfl rfl ?_
        refine OL.yes rfl ?_
        first | refine ldRC ce.int rfl ?_ | refine ldPC ce.int rfl rfl rfl ?_
        rw [hat.2]
        refine OL.yes rfl ?_
        refine mvD rfl ?_
        refine OL.yes rfl ?_
        refine c_eql rfl rfl rfl ?_
        refine pkT rfl rfl ?_
        refine OL.nil ?_
        exact AW.reach () ⟨trivial, Knows.app (.cons (VLe.refl _) (.cons (VLe.refl _) (.cons (VLe.refl _) (.cons (VLe.refl _) (.cons (VLe.refl _) (.cons (VLe.refl _) (.cons (VLe.refl _) (.cons (VLe.refl _) (.cons (VLe.refl _) (.cons (VLe.refl _) (.cons (VLe.refl _) (.cons (VLe.refl _) .nil)))))))))))) (.cons (VLe.bool (decide_eq_decide.2 ⟨fun e => ⟨hn, by omega⟩, fun e => by rw [e.2]⟩)) .nil), Owns.app (.cons rfl (.cons rfl (.cons rfl (.cons rfl (.cons rfl .nil))))) (.nil)⟩
      · have hn : w.length = 0 := by have := of_decide_eq_false hn; omega
        refine OL.no rfl (by decide) ?_
        refine OL.no rfl (by decide) ?_
        refine OL.no rfl (by decide) ?_
        refine OL.no rfl (by decide) ?_
        refine OL.no rfl (by decide) ?_
        refine OL.no rfl (by decide) ?_
        refine OL.no rfl (by decide) ?_
        refine OL.no rfl (by decide) ?_
        refine OL.no rfl (by decide) ?_
        refine pkF rfl rfl ?_
        refine OL.nil ?_
        exact AW.reach () ⟨trivial, Knows.app (.cons (VLe.refl _) (.cons (VLe.refl _) (.cons (VLe.refl _) (.cons (VLe.refl _) (.cons (VLe.refl _) (.cons (VLe.refl _) (.cons (VLe.refl _) (.cons (VLe.refl _) (.cons (VLe.refl _) (.cons (VLe.refl _) (.cons (VLe.refl _) (.cons (VLe.refl _) .nil)))))))))))) (.cons (VLe.bool ((decide_eq_false fun e => e.1 hn).symm)) .nil), Owns.app (.cons rfl (.cons rfl (.cons rfl (.cons rfl (.cons rfl .nil))))) (.nil)⟩
    rintro ⟨⟩ hφ
    refine AW.cond rfl (fun hc => ?_) (fun hc => ?_)
    · have hc := of_decide_eq_true hc
      refine AW.region (by rw [hE]; rfl) ?_
      first | refine ldPA ag.Rat rfl rfl (vs := [_, _, _]) rfl (Nat.le_of_ble_eq_true rfl) ?_ | refine ldRA ag.Rat rfl (vs := [_, _, _]) rfl (Nat.le_of_ble_eq_true rfl) ?_
      first | refine ldPA ag.Rat rfl rfl (vs := [_, _, _]) rfl (Nat.le_of_ble_eq_true rfl) ?_ | refine ldRA ag.Rat rfl (vs := [_, _, _]) rfl (Nat.le_of_ble_eq_true rfl) ?_
      refine clv rfl (.cons (VLe.refl _) (.cons (VLe.refl _) (.nil))) (ref_AddQ (x := (lsum (partF h w a j) ((pathsF h.st w.length).take i))) (y := jointE h w ((pathsF h.st w.length).getD i [])) (by omega) (by omega)) ?_
      first | refine sto sz.Rat rfl rfl rfl rfl rfl (Nat.le_of_ble_eq_true rfl) (cells2 := [_, _, _]) rfl ?_ | refine stE sz.Rat rfl (VC.d _).vd rfl rfl (by omega) rfl ?_
      refine OL.nil ?_
      refine AW.region (by rw [hE]; rfl) ?_
      refine mvD rfl ?_
      refine add_i64 rfl rfl (by omega) ?_
      refine asD rfl ?_
      refine OL.nil ?_
      exact AW.again (x := i) (i + 1) (by first | omega | (simp only []; omega)) ⟨by omega, Knows.app (.cons (VLe.refl _) (.cons (VLe.refl _) (.cons (VLe.refl _) (.cons (VLe.refl _) (.cons (VLe.refl _) (.cons (VLe.refl _) (.cons (VLe.refl _) (.cons (VLe.refl _) (.cons (VLe.refl _) (.cons (VLe.refl _) .nil)))))))))) (.cons (by first | exact VLe.refl _ | exact VLe.int (by omega) | exact VLe.mt | exact vle_q0 | exact VLe.osl | exact VLe.ptr) .nil), Owns.app (.cons rfl (.cons rfl .nil)) (.cons rfl (.cons (by rw [e2, partF, if_pos hc]; rfl) .nil))⟩
    · have hc := of_decide_eq_false hc
      refine AW.skip ?_
      refine AW.region (by rw [hE]; rfl) ?_
      refine mvD rfl ?_
      refine add_i64 rfl rfl (by omega) ?_
      refine asD rfl ?_
      refine OL.nil ?_
      exact AW.again (x := i) (i + 1) (by first | omega | (simp only []; omega)) ⟨by omega, Knows.app (.cons (VLe.refl _) (.cons (VLe.refl _) (.cons (VLe.refl _) (.cons (VLe.refl _) (.cons (VLe.refl _) (.cons (VLe.refl _) (.cons (VLe.refl _) (.cons (VLe.refl _) (.cons (VLe.refl _) (.cons (VLe.refl _) .nil)))))))))) (.cons (by first | exact VLe.refl _ | exact VLe.int (by omega) | exact VLe.mt | exact vle_q0 | exact VLe.osl | exact VLe.ptr) .nil), Owns.app (.cons rfl (.cons rfl .nil)) (.cons rfl (.cons (by rw [e2, partF, if_neg hc, Rat.add_zero]; rfl) .nil))⟩
  · first | (simp only [decide_eq_true_eq, decide_eq_false_iff_not, Bool.not_eq_true', Bool.not_eq_false', Bool.not_not, Bool.and_eq_true, Bool.and_eq_false_iff, Bool.or_eq_true, Bool.or_eq_false_iff] at h53) | skip
    refine AW.exit ?_
    refine AW.seq ?_
    refine AW.seq ?_
    have hie : i = (pathsF h.st w.length).length := by omega
    subst hie
    rw [List.take_length] at z1 z2
    rw [List.take_length, joint_sum]
    refine AW.region (by rw [hE]; rfl) ?_
    refine mvD rfl ?_
    refine c_neq rfl rfl (c := false) (cne_f rfl) ?_
    refine mvD rfl ?_
    refine OL.yes rfl ?_
    first | refine ldPA ag.Rat rfl rfl (vs := [_, _, _]) rfl (Nat.le_of_ble_eq_true rfl) ?_ | refine ldRA ag.Rat rfl (vs := [_, _, _]) rfl (Nat.le_of_ble_eq_true rfl) ?_
    refine OL.yes rfl ?_
    first | refine ldPA ag.Rat rfl rfl (vs := [_, _, _]) rfl (Nat.le_of_ble_eq_true rfl) ?_ | refine ldRA ag.Rat rfl (vs := [_, _, _]) rfl (Nat.le_of_ble_eq_true rfl) ?_
    refine OL.yes rfl ?_
    refine clv rfl (.cons (VLe.refl _) (.cons (VLe.refl _) (.nil))) (ref_CompareQ (x := likF h w) (y := likF h w) (by omega) (by omega)) ?_
    rw [show cmpQ (likF h w) (likF h w) = 0 from cmpQ_eq.2 rfl]
    refine OL.yes rfl ?_
    refine c_neq rfl rfl (c := false) (by first | exact decide_eq_true (by omega) | exact decide_eq_false (by omega) | exact cne_f (by omega) | exact cne_t (by omega) | rfl) ?_
    refine pkF rfl rfl ?_
    refine OL.nil ?_
    refine AW.cond rfl (fun hno => absurd hno (by decide)) (fun _ => ?_)
    refine AW.skip ?_
    refine AW.seq ?_
    refine AW.region (by rw [hE]; rfl) ?_
    first | refine ldPA ag.Hidden rfl rfl (vs := [_, _, _, _, _, _, _, _, _, _, _]) rfl (Nat.le_of_ble_eq_true rfl) ?_ | refine ldRA ag.Hidden rfl (vs := [_, _, _, _, _, _, _, _, _, _, _]) rfl (Nat.le_of_ble_eq_true rfl) ?_
    first | refine mvD rfl ?_ | refine mvO rfl ?_ | refine mvM rfl ?_
    refine clv rfl (.cons (VLe.refl _) (.cons (VLe.refl _) (.nil))) (fwd_Posterior hg kw fw) ?_
    first | refine mvD rfl ?_ | refine mvT rfl ?_ | refine mvP rfl ?_ | refine mvR rfl ?_ | refine mvE rfl ?_ | refine mvF rfl ?_ | refine mvA rfl ?_ | refine mvO rfl ?_ | refine mvM rfl ?_ | refine mvJ rfl ?_
    refine ex rfl rfl ?_
    refine ex rfl rfl ?_
    first | refine asD rfl ?_ | refine asO rfl ?_ | refine asM rfl ?_
    refine asD rfl ?_
    refine OL.nil ?_
    refine AW.seq ?_
    refine AW.midK (α := Unit) [(2, _), (3, _), (8, _), (9, _), (10, _), (11, _), (14, _), (18, _), (19, _)] [(9, _), (11, _), (13, _), (14, _)] (fun _u => [(104, .d (dB (decide (likF h w = 0 ∨ w.length = 0))))]) (fun _u => []) (fun _u => True) (by repeat (first | exact Knows.nil | refine Knows.cons (by first | exact knD rfl | exact knA rfl | exact knP rfl | exact knO rfl | exact knM rfl | exact knE rfl | exact knR rfl | exact knF rfl | exact knT rfl | exact knJ) ?_)) (by repeat (first | exact Owns.nil | refine Owns.cons (by first | exact owB rfl | exact owR rfl | exact owL rfl | exact owT rfl) ?_)) ?_ ?_
    · refine AW.region (by rw [hE]; rfl) ?_
      first | refine ldPA ag.Rat rfl rfl (vs := [_, _, _]) rfl (Nat.le_of_ble_eq_true rfl) ?_ | refine ldRA ag.Rat rfl (vs := [_, _, _]) rfl (Nat.le_of_ble_eq_true rfl) ?_
      refine clv rfl (.cons (VLe.refl _) (.nil)) (ref_SignQ (x := likF h w) (by omega)) ?_
      refine c_eql rfl rfl rfl ?_
      refine OL.split 99 rfl (fun hz => ?_) (fun hz => ?_)
      · have hz : likF h w = 0 := sgnQ_eq.1 (of_decide_eq_true hz)
        refine mvD rfl ?_
        refine OL.no rfl (by decide) ?_
        refine OL.no rfl (by decide) ?_
        refine OL.no rfl (by decide) ?_
        refine pkT rfl rfl ?_
        refine OL.nil ?_
        exact AW.reach () ⟨trivial, Knows.app (.cons (VLe.refl _) (.cons (VLe.refl _) (.cons (VLe.refl _) (.cons (VLe.refl _) (.cons (VLe.refl _) (.cons (VLe.refl _) (.cons (VLe.refl _) (.cons (VLe.refl _) (.cons (VLe.refl _) .nil))))))))) (.cons (VLe.bool ((decide_eq_true (.inl hz)).symm)) .nil), Owns.app (.cons rfl (.cons rfl (.cons rfl (.cons rfl .nil)))) (.nil)⟩
      · have hz : likF h w ≠ 0 := fun e => of_decide_eq_false hz (sgnQ_eq.2 e)
        refine mvD rfl ?_
        refine OL.yes rfl ?_
        first | refine mvD rfl ?_ | refine mvO rfl ?_ | refine mvM rfl ?_
        refine OL.yes rfl ?_
        first | refine lnL sl.ints rfl rfl ?_ | refine lnO sl.ints rfl rfl ?_ | refine lnM sl.ints rfl rfl ?_ | refine lnD sl.ints rfl rfl rfl ?_
        refine OL.yes rfl ?_
        refine c_eql rfl rfl rfl ?_
        refine OL.split 103 rfl (fun h9 => ?_) (fun h9 => ?_)
        · have h9 : w.length = 0 := by have := of_decide_eq_true h9; omega
          refine pkF rfl rfl ?_
          refine OL.nil ?_
          exact AW.reach () ⟨trivial, Knows.app (.cons (VLe.refl _) (.cons (VLe.refl _) (.cons (VLe.refl _) (.cons (VLe.refl _) (.cons (VLe.refl _) (.cons (VLe.refl _) (.cons (VLe.refl _) (.cons (VLe.refl _) (.cons (VLe.refl _) .nil))))))))) (.cons (VLe.bool ((decide_eq_true (.inr h9)).symm)) .nil), Owns.app (.cons rfl (.cons rfl (.cons rfl (.cons rfl .nil)))) (.nil)⟩
        · have h9 : w.length ≠ 0 := fun e => of_decide_eq_false h9 (by omega)
          refine pkF rfl rfl ?_
          refine OL.nil ?_
          exact AW.reach () ⟨trivial, Knows.app (.cons (VLe.refl _) (.cons (VLe.refl _) (.cons (VLe.refl _) (.cons (VLe.refl _) (.cons (VLe.refl _) (.cons (VLe.refl _) (.cons (VLe.refl _) (.cons (VLe.refl _) (.cons (VLe.refl _) .nil))))))))) (.cons (VLe.bool ((decide_eq_false fun e => e.elim hz h9).symm)) .nil), Owns.app (.cons rfl (.cons rfl (.cons rfl (.cons rfl .nil)))) (.nil)⟩
    rintro ⟨⟩ hφ
    refine AW.cond rfl (fun hq => ?_) (fun hq => ?_)
    · have _hq := hq
      refine AW.seq ?_
      refine AW.region (by rw [hE]; rfl) ?_
      refine clv rfl .nil law34_known ?_
      refine mvD rfl ?_
      refine OL.yes rfl ?_
      refine mvD rfl ?_
      refine OL.yes rfl ?_
      refine c_eql rfl rfl rfl ?_
      refine OL.yes rfl ?_
      first | refine ldPA ag.Rat rfl rfl (vs := [_, _, _]) rfl (Nat.le_of_ble_eq_true rfl) ?_ | refine ldRA ag.Rat rfl (vs := [_, _, _]) rfl (Nat.le_of_ble_eq_true rfl) ?_
      refine OL.yes rfl ?_
      refine clv rfl (.cons (VLe.refl _) (.nil)) (ref_SignQ (x := likF h w) (by omega)) ?_
      refine OL.yes rfl ?_
      refine c_eql rfl rfl rfl ?_
      refine OL.yes rfl ?_
      refine eqb bt.bool rfl rfl ?_
      refine pkT rfl rfl ?_
      refine asD rfl ?_
      refine OL.nil ?_
      exact AW.ret (RetQ.r ⟨_, .tmp rfl .nil, .le (VLe.bool (by rw [post_sign]))⟩)
    · have hq := of_decide_eq_false hq
      have hz : likF h w ≠ 0 := fun e => hq (.inl e)
      have hn : w.length ≠ 0 := fun e => hq (.inr e)
      have hgt := got hz hn
      have hpl2 := hgt.pl
      have ha : a < w.length := by omega
      have hpg := hgt.pg a ha
      have hsh := part_share (a := a) (j := j) ha hj
      have zp := post_sz f fw ha j
      have hpfl := postF_len h w a
      refine AW.skip ?_
      refine AW.seq ?_
      refine AW.region (by rw [hE]; rfl) ?_
      first | refine ldPA ag.Rat rfl rfl (vs := [_, _, _]) rfl (Nat.le_of_ble_eq_true rfl) ?_ | refine ldRA ag.Rat rfl (vs := [_, _, _]) rfl (Nat.le_of_ble_eq_true rfl) ?_
      first | refine ldPA ag.Rat rfl rfl (vs := [_, _, _]) rfl (Nat.le_of_ble_eq_true rfl) ?_ | refine ldRA ag.Rat rfl (vs := [_, _, _]) rfl (Nat.le_of_ble_eq_true rfl) ?_
      refine clv rfl (.cons (VLe.refl _) (.cons (VLe.refl _) (.nil))) (ref_DivQ (x := lsum (partF h w a j) (pathsF h.st w.length)) (y := likF h w) (by omega) (by omega) hz) ?_
      rw [hsh]
      first | refine mvD rfl ?_ | refine mvT rfl ?_ | refine mvP rfl ?_ | refine mvR rfl ?_ | refine mvE rfl ?_ | refine mvF rfl ?_ | refine mvA rfl ?_ | refine mvO rfl ?_ | refine mvM rfl ?_ | refine mvJ rfl ?_
      refine ex rfl rfl ?_
      refine ex rfl rfl ?_
      refine al z.Rat rfl fun b20 => ?_
      first | refine sto sz.Rat rfl rfl rfl rfl rfl (Nat.le_of_ble_eq_true rfl) (cells2 := [_, _, _]) rfl ?_ | refine stE sz.Rat rfl (VC.d _).vd rfl rfl (by omega) rfl ?_
      refine asD rfl ?_
      refine OL.nil ?_
      refine AW.seq ?_
      refine AW.region_draw 1 [0, 1, 2, 3, 4, 5, 6, 7, 8, 9, 10, 11, 12, 13, 14, 15, 16, 17, 18, 19, 20, 21, 22, 23, 24, 25, 26, 27, 28, 29, 30, 31, 32, 33, 34] order_free (by rw [hE]; rfl) (by kernel_rfl) (OI.of_OL (os := [_, _, _, _, _, _, _, _, _, _, _, _, _, _, _, _, _, _, _, _, _, _, _, _, _, _, _, _, _, _, _, _, _, _, _]) rfl ?_)
      refine clv rfl .nil law34_known ?_
      refine mvD rfl ?_
      refine OL.yes rfl ?_
      refine mvD rfl ?_
      refine OL.yes rfl ?_
      refine c_eql rfl rfl (c := true) (decide_eq_true (if_neg hz)) ?_
      refine pkT rfl rfl ?_
      refine mvD rfl ?_
      refine OL.yes rfl ?_
      first | refine mvD rfl ?_ | refine mvO rfl ?_ | refine mvM rfl ?_
      refine OL.yes rfl ?_
      first | refine lnL sl.Ratss rfl rfl ?_ | refine lnO sl.Ratss rfl rfl ?_ | refine lnM sl.Ratss rfl rfl ?_ | refine lnD sl.Ratss rfl rfl rfl ?_
      refine OL.yes rfl ?_
      first | refine mvD rfl ?_ | refine mvO rfl ?_ | refine mvM rfl ?_
      refine OL.yes rfl ?_
      first | refine lnL sl.ints rfl rfl ?_ | refine lnO sl.ints rfl rfl ?_ | refine lnM sl.ints rfl rfl ?_ | refine lnD sl.ints rfl rfl rfl ?_
      refine OL.yes rfl ?_
      refine c_eql rfl rfl (c := true) (decide_eq_true (by rw [hpl2])) ?_
      refine pkT rfl rfl ?_
      refine mvD rfl ?_
      refine OL.yes rfl ?_
      first | refine mvD rfl ?_ | refine mvO rfl ?_ | refine mvM rfl ?_
      refine OL.yes rfl ?_
      refine mvD rfl ?_
      refine OL.yes rfl ?_
      refine ixLn sl.Ratss [] rfl rfl (by omega) rfl rfl ?_
      refine OL.yes rfl ?_
      first | refine ldRC ce.Rats rfl ?_ | refine ldPC ce.Rats rfl rfl rfl ?_
      rw [hpg]
      refine OL.yes rfl ?_
      first | refine lnL sl.Rats rfl rfl ?_ | refine lnO sl.Rats rfl rfl ?_ | refine lnM sl.Rats rfl rfl ?_ | refine lnD sl.Rats rfl rfl rfl ?_
      refine OL.yes rfl ?_
      first | refine faP fd.Hidden_1 rfl rfl ?_ | refine faR fd.Hidden_1 rfl rfl ?_ | refine faE fd.Hidden_1 rfl rfl ?_
      refine OL.yes rfl ?_
      first | refine ldRC ce.int rfl ?_ | refine ldPC ce.int rfl rfl rfl ?_
      refine OL.yes rfl ?_
      refine c_eql rfl rfl (c := true) (decide_eq_true (by rw [postF_len])) ?_
      refine pkT rfl rfl ?_
      refine mvD rfl ?_
      refine OL.yes rfl ?_
      first | refine mvD rfl ?_ | refine mvO rfl ?_ | refine mvM rfl ?_
      refine OL.yes rfl ?_
      refine mvD rfl ?_
      refine OL.yes rfl ?_
      refine ixLn sl.Ratss [] rfl rfl (by omega) rfl rfl ?_
      refine OL.yes rfl ?_
      first | refine ldRC ce.Rats rfl ?_ | refine ldPC ce.Rats rfl rfl rfl ?_
      rw [hpg]
      refine OL.yes rfl ?_
      refine mvD rfl ?_
      refine OL.yes rfl ?_
      refine ixLn sl.Rats 0 rfl rfl (by omega) rfl rfl ?_
      refine OL.yes rfl ?_
      first | refine ldPA ag.Rat rfl rfl (vs := [_, _, _]) rfl (Nat.le_of_ble_eq_true rfl) ?_ | refine ldRA ag.Rat rfl (vs := [_, _, _]) rfl (Nat.le_of_ble_eq_true rfl) ?_
      rw [postF_get hj]
      refine OL.yes rfl ?_
      first | refine ldPA ag.Rat rfl rfl (vs := [_, _, _]) rfl (Nat.le_of_ble_eq_true rfl) ?_ | refine ldRA ag.Rat rfl (vs := [_, _, _]) rfl (Nat.le_of_ble_eq_true rfl) ?_
      refine OL.yes rfl ?_
      refine clv rfl (.cons (VLe.refl _) (.cons (VLe.refl _) (.nil))) (ref_CompareQ (x := postQ h w a j) (y := postQ h w a j) (by omega) (by omega)) ?_
      rw [show cmpQ (postQ h w a j) (postQ h w a j) = 0 from cmpQ_eq.2 rfl]
      refine OL.yes rfl ?_
      refine c_eql rfl rfl (c := true) (by first | exact decide_eq_true (by omega) | exact decide_eq_false (by omega) | exact cne_f (by omega) | exact cne_t (by omega) | rfl) ?_
      refine pkT rfl rfl ?_
      refine asD rfl ?_
      refine OL.nil ?_
      exact AW.ret (RetQ.r ⟨_, .tmp rfl .nil, .le (by first | exact VLe.refl _ | exact VLe.mt | exact vle_q0 | exact VLe.int (by omega) | exact VLe.bool (by simp_all))⟩)
end Go.Proofs.YtcebciggodhmcaaGreat

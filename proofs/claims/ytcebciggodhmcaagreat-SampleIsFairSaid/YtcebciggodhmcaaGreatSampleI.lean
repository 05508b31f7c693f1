/-
  Walks of drawings, part 9: the law SampleIsFair (printed by mk2.py).
-/
import Derived.Test.YtcebciggodhmcaaGreatSampleE
import Derived.Test.YtcebciggodhmcaaGreatSampleD
import Derived.Test.YtcebciggodhmcaaGreatMod40h
set_option linter.unusedVariables false
set_option linter.unusedSimpArgs false
namespace Go.Proofs.YtcebciggodhmcaaGreat
open Go Go.AL

set_option maxRecDepth 4000 in
set_option maxHeartbeats 1600000 in
theorem law_SampleIsFair {L l : List Int} {cs cy m : Int} (nL : L.length ≤ 9223372036854775807) : FSpec P F.law40_SampleIsFair [.ag [.d (dI cs), .d (dI cy), .d (ints L)], .d (dI m), .d (ints l)] (.d (dB true)) := by
  have hg : (chainHM L cs cy 2).Good 1 := chainHM_good L cs cy (by decide)
  have wr := within_range (v := m) (m := 7) (by decide)
  obtain ⟨b, eb⟩ : ∃ b : Nat, within m 7 = (b : Int) := ⟨(within m 7).toNat, by omega⟩
  obtain ⟨N, hN⟩ : ∃ N : Nat, N = 2 ^ b := ⟨_, rfl⟩
  have hp : 2 ^ b ≤ 2 ^ 10 := Nat.pow_le_pow_right (by decide) (by omega)
  have hp : N ≤ 1024 := by rw [hN]; exact hp
  have hbl := coinsF_len l b
  have hb01 := coinsF_bit l b
  refine FSpec.intro fn.law40_SampleIsFair (by rfl) (by rfl) (Nat.le_of_ble_eq_true (by rfl)) fun E hE => ?_
  refine AW.seq ?_
  refine AW.region (by rw [hE]; rfl) ?_
  first | refine bxA rfl rfl fun b3 => ?_ | refine bxD rfl rfl fun b3 => ?_
  refine asD rfl ?_
  refine OL.nil ?_
  refine AW.seq ?_
  refine AW.region (by rw [hE]; rfl) ?_
  first | refine ldPA ag.Chain rfl rfl (vs := [_, _, _]) rfl (Nat.le_of_ble_eq_true rfl) ?_ | refine ldRA ag.Chain rfl (vs := [_, _, _]) rfl (Nat.le_of_ble_eq_true rfl) ?_
  refine clv rfl (.cons (VLe.refl _) (.cons (VLe.refl _) (.nil))) (chain_Hidden (by decide) nL) ?_
  refine al z.Hidden rfl fun b7 => ?_
  first | refine sto sz.Hidden rfl rfl rfl rfl rfl (Nat.le_of_ble_eq_true rfl) (cells2 := [_, _, _, _, _, _, _, _, _, _, _]) rfl ?_ | refine stE sz.Hidden rfl (VC.d _).vd rfl rfl (by omega) rfl ?_
  refine OL.nil ?_
  refine AW.seq ?_
  refine AW.region (by rw [hE]; rfl) ?_
  refine mvD rfl ?_
  refine clv rfl (.cons (VLe.refl _) (.cons (VLe.refl _) (.nil))) (world_Within (by decide)) ?_
  rw [eb]
  refine asD rfl ?_
  refine OL.nil ?_
  refine AW.seq ?_
  refine AW.region_draw 1 [0, 1, 2, 3, 4, 5, 6, 7, 8, 9, 10] order_free (by rw [hE]; rfl) (by kernel_rfl) (OI.of_OL (os := [_, _, _, _, _, _, _, _, _, _, _]) rfl ?_)
  first | refine ldPA ag.Hidden rfl rfl (vs := [_, _, _, _, _, _, _, _, _, _, _]) rfl (Nat.le_of_ble_eq_true rfl) ?_ | refine ldRA ag.Hidden rfl (vs := [_, _, _, _, _, _, _, _, _, _, _]) rfl (Nat.le_of_ble_eq_true rfl) ?_
  first | refine mvD rfl ?_ | refine mvO rfl ?_ | refine mvM rfl ?_
  refine mvD rfl ?_
  refine clv rfl (.cons (VLe.refl _) (.cons (VLe.refl _) (.nil))) (law40_coins (most := b) (by omega)) ?_
  refine clv rfl (.cons (VLe.refl _) (.cons (VLe.refl _) (.nil))) (sample_Draw (bits := (coinsF l b)) hg (by omega) hb01) ?_
  first | refine mvD rfl ?_ | refine mvT rfl ?_ | refine mvP rfl ?_ | refine mvR rfl ?_ | refine mvE rfl ?_ | refine mvF rfl ?_ | refine mvA rfl ?_ | refine mvO rfl ?_ | refine mvM rfl ?_ | refine mvJ rfl ?_
  refine ex rfl rfl ?_
  refine ex rfl rfl ?_
  refine al z.Drawn rfl fun b8 => ?_
  first | refine sto sz.Drawn rfl rfl rfl rfl rfl (Nat.le_of_ble_eq_true rfl) (cells2 := [_, _, _]) rfl ?_ | refine stE sz.Drawn rfl (VC.d _).vd rfl rfl (by omega) rfl ?_
  refine asD rfl ?_
  refine OL.nil ?_
  refine AW.seq ?_
  refine AW.seq ?_
  refine AW.region (by rw [hE]; rfl) ?_
  refine mvD rfl ?_
  refine c_neq rfl rfl rfl ?_
  refine OL.nil ?_
  refine AW.cond rfl (fun h32 => ?_) (fun h32 => ?_)
  · obtain ⟨e, hd, he⟩ : ∃ e, draw (chainHM L cs cy 2) (coinsF l b) = .err e ∧ (e = 17 ∨ e = 2) := by
        cases hd : draw (chainHM L cs cy 2) (coinsF l b) with
        | err e => exact ⟨e, rfl, draw_err hd⟩
        | run => rw [hd] at h32; cases h32
    rw [hd]
    refine AW.seq ?_
    refine AW.region (by rw [hE]; rfl) ?_
    refine clv rfl .nil law40_known ?_
    refine mvD rfl ?_
    refine OL.yes rfl ?_
    refine mvD rfl ?_
    refine OL.yes rfl ?_
    refine c_eql rfl rfl rfl ?_
    refine OL.yes rfl ?_
    refine mvD rfl ?_
    refine OL.split 37 rfl (fun g37 => ?_) (fun g37 => ?_)
    · first | (simp only [decide_eq_true_eq, decide_eq_false_iff_not, Bool.not_eq_true', Bool.not_eq_false', Bool.not_not, Bool.and_eq_true, Bool.and_eq_false_iff, Bool.or_eq_true, Bool.or_eq_false_iff] at g37) | skip
      refine OL.no rfl (by decide) ?_
      refine OL.no rfl (by decide) ?_
      refine OL.yes rfl ?_
      refine pkT rfl rfl ?_
      refine pkT rfl rfl ?_
      refine asD rfl ?_
      refine OL.nil ?_
      exact AW.ret (RetQ.r ⟨_, .tmp rfl .nil, .le (VLe.bool (by rfl))⟩)
    · first | (simp only [decide_eq_true_eq, decide_eq_false_iff_not, Bool.not_eq_true', Bool.not_eq_false', Bool.not_not, Bool.and_eq_true, Bool.and_eq_false_iff, Bool.or_eq_true, Bool.or_eq_false_iff] at g37) | skip
      refine OL.yes rfl ?_
      refine mvD rfl ?_
      refine OL.yes rfl ?_
      refine c_eql rfl rfl rfl ?_
      refine OL.yes rfl ?_
      refine pkF rfl rfl ?_
      refine pkT rfl rfl ?_
      refine asD rfl ?_
      refine OL.nil ?_
      exact AW.ret (RetQ.r ⟨_, .tmp rfl .nil, .le (VLe.bool (by rcases he with rfl | rfl; exact absurd rfl g37; rfl))⟩)
  · obtain ⟨st, w, u, hd⟩ : ∃ st w u, draw (chainHM L cs cy 2) (coinsF l b) = .run st w u := by
        cases hd : draw (chainHM L cs cy 2) (coinsF l b) with
        | err e => rw [hd] at h32; rcases draw_err hd with rfl | rfl <;> cases h32
        | run st w u => exact ⟨st, w, u, rfl⟩
    rw [hd]
    have kk := draw_ok hg.form hd
    have kk1 := kk.1
    have kk2 := kk.2.1
    obtain ⟨_, hB, _⟩ := draw_range hg hd
    have so2 := (range_ok hg.form kk).len
    have hlen := range_len hg.form kk
    have zJ : sz (jointQ (chainHM L cs cy 2) st w) ≤ 1 + 513 * 1024 := by rw [← hlen]; exact so2
    have hlaw := fair_law hg kk hB hN
    have hcN := cntF_le (hitsF (chainHM L cs cy 2) b st w) N
    refine AW.skip ?_
    refine AW.seq ?_
    refine AW.region (by rw [hE]; rfl) ?_
    refine asD rfl ?_
    refine OL.nil ?_
    refine AW.seq ?_
    refine AW.seq ?_
    refine AW.region (by rw [hE]; rfl) ?_
    refine asD rfl ?_
    refine OL.nil ?_
    refine AW.block ?_
    refine AW.whileK (α := Nat) [(1, _), (7, _), (8, _)] [(7, _), (8, _)] (fun k => [(10, .d (dI (cntF (hitsF (chainHM L cs cy 2) b st w) k : Nat))), (11, .d (dI k))]) (fun k => []) (fun k => k ≤ N) (fun k => N - k) 0 (.cons (by first | exact knD rfl | exact knA rfl | exact knP rfl | exact knO rfl | exact knM rfl | exact knE rfl | exact knR rfl | exact knF rfl | exact knT rfl | exact knJ) (.cons (by first | exact knD rfl | exact knA rfl | exact knP rfl | exact knO rfl | exact knM rfl | exact knE rfl | exact knR rfl | exact knF rfl | exact knT rfl | exact knJ) (.cons (by first | exact knD rfl | exact knA rfl | exact knP rfl | exact knO rfl | exact knM rfl | exact knE rfl | exact knR rfl | exact knF rfl | exact knT rfl | exact knJ) .nil))) (.cons (by first | exact owB rfl | exact owR rfl) (.cons (by first | exact owB rfl | exact owR rfl) .nil)) ⟨Nat.zero_le _, .cons (by first | exact VLe.refl _ | exact VLe.int (by omega) | exact VLe.mt | exact vle_q0 | exact VLe.osl | exact VLe.ptr) (.cons (by first | exact VLe.refl _ | exact VLe.int (by omega) | exact VLe.mt | exact vle_q0 | exact VLe.osl | exact VLe.ptr) .nil), .nil⟩ ?_
    intro k h1
    have h1 : k ≤ N := h1
    have hck := cntF_le (hitsF (chainHM L cs cy 2) b st w) k
    refine AW.seq ?_
    refine AW.seq ?_
    refine AW.region (by rw [hE]; rfl) ?_
    refine mvD rfl ?_
    refine mvD rfl ?_
    refine cv it.int it.uint rfl (wrap_u64 (by omega)) ?_
    refine shlV rfl rfl (by show (0:Int) ≤ (b : Int) ∧ b ≤ 64; omega) (c := (N : Int)) (by rw [Int.toNat_natCast, Int.one_mul, show (2 : Int) ^ b = (N : Int) by rw [hN]; push_cast; rfl]; exact wrap_i64 (by omega)) ?_
    refine c_lss rfl rfl rfl ?_
    refine OL.nil ?_
    refine AW.cond rfl (fun h46 => ?_) (fun h46 => ?_)
    · first | (simp only [decide_eq_true_eq, decide_eq_false_iff_not, Bool.not_eq_true', Bool.not_eq_false', Bool.not_not, Bool.and_eq_true, Bool.and_eq_false_iff, Bool.or_eq_true, Bool.or_eq_false_iff] at h46) | skip
      refine AW.skip ?_
      refine AW.midK (α := Unit) [(1, _), (7, _), (8, _), (11, _)] [(7, _), (8, _)] (fun _u => [(10, .d (dI (cntF (hitsF (chainHM L cs cy 2) b st w) (k + 1) : Nat)))]) (fun _u => []) (fun _u => True) (.cons (by first | exact knD rfl | exact knA rfl | exact knP rfl | exact knO rfl | exact knM rfl | exact knE rfl | exact knR rfl | exact knF rfl | exact knT rfl | exact knJ) (.cons (by first | exact knD rfl | exact knA rfl | exact knP rfl | exact knO rfl | exact knM rfl | exact knE rfl | exact knR rfl | exact knF rfl | exact knT rfl | exact knJ) (.cons (by first | exact knD rfl | exact knA rfl | exact knP rfl | exact knO rfl | exact knM rfl | exact knE rfl | exact knR rfl | exact knF rfl | exact knT rfl | exact knJ) (.cons (by first | exact knD rfl | exact knA rfl | exact knP rfl | exact knO rfl | exact knM rfl | exact knE rfl | exact knR rfl | exact knF rfl | exact knT rfl | exact knJ) .nil)))) (.cons (by first | exact owB rfl | exact owR rfl) (.cons (by first | exact owB rfl | exact owR rfl) .nil)) ?_ ?_
      · refine AW.block ?_
        refine AW.seq ?_
        refine AW.region (by rw [hE]; rfl) ?_
        refine asM rfl ?_
        refine OL.nil ?_
        refine AW.seq ?_
        refine AW.seq ?_
        refine AW.region (by rw [hE]; rfl) ?_
        refine mvD rfl ?_
        refine sub_i64 rfl rfl (by omega) ?_
        refine asD rfl ?_
        refine OL.nil ?_
        refine AW.block ?_
        refine AW.own 12 62 T.int 1 rfl rfl ?_
        refine AW.whileK (α := Nat × Nat × Nat) [(1, _), (7, _), (8, _), (10, _), (11, _)] [(7, _), (8, _)] (fun (e, p, c) => [(12, .osl 62 p e c), (13, .d (dI ((b : Int) - 1 - e)))]) (fun (e, p, c) => [(62, .row p c T.int 1 (((bitsN b k).take e).map dI))]) (fun (e, p, c) => e ≤ b) (fun (e, p, c) => b - e) (0, 0, 0) (.cons (by first | exact knD rfl | exact knA rfl | exact knP rfl | exact knO rfl | exact knM rfl | exact knE rfl | exact knR rfl | exact knF rfl | exact knT rfl | exact knJ) (.cons (by first | exact knD rfl | exact knA rfl | exact knP rfl | exact knO rfl | exact knM rfl | exact knE rfl | exact knR rfl | exact knF rfl | exact knT rfl | exact knJ) (.cons (by first | exact knD rfl | exact knA rfl | exact knP rfl | exact knO rfl | exact knM rfl | exact knE rfl | exact knR rfl | exact knF rfl | exact knT rfl | exact knJ) (.cons (by first | exact knD rfl | exact knA rfl | exact knP rfl | exact knO rfl | exact knM rfl | exact knE rfl | exact knR rfl | exact knF rfl | exact knT rfl | exact knJ) (.cons (by first | exact knD rfl | exact knA rfl | exact knP rfl | exact knO rfl | exact knM rfl | exact knE rfl | exact knR rfl | exact knF rfl | exact knT rfl | exact knJ) .nil))))) (.cons (by first | exact owB rfl | exact owR rfl) (.cons (by first | exact owB rfl | exact owR rfl) .nil)) ⟨Nat.zero_le _, .cons (by first | exact VLe.refl _ | exact VLe.int (by omega) | exact VLe.mt | exact vle_q0 | exact VLe.osl | exact VLe.ptr) (.cons (VLe.int (by omega)) .nil), .cons rfl .nil⟩ ?_
        rintro ⟨e, p, c⟩ h2
        have h2 : e ≤ b := h2
        have htk : ((bitsN b k).take e).length = e := by rw [List.length_take, bitsN_len]; omega
        refine AW.seq ?_
        refine AW.seq ?_
        refine AW.region (by rw [hE]; rfl) ?_
        refine mvD rfl ?_
        refine c_geq rfl rfl rfl ?_
        refine OL.nil ?_
        refine AW.cond rfl (fun h52 => ?_) (fun h52 => ?_)
        · first | (simp only [decide_eq_true_eq, decide_eq_false_iff_not, Bool.not_eq_true', Bool.not_eq_false', Bool.not_not, Bool.and_eq_true, Bool.and_eq_false_iff, Bool.or_eq_true, Bool.or_eq_false_iff] at h52) | skip
          refine AW.skip ?_
          refine AW.seq ?_
          refine AW.block ?_
          have hnd : k / 2 ^ (b - 1 - e) ≤ k := Nat.div_le_self ..
          refine AW.region (by rw [hE]; rfl) ?_
          first | refine mvD rfl ?_ | refine mvO rfl ?_ | refine mvM rfl ?_
          refine mvD rfl ?_
          refine mvD rfl ?_
          refine cv it.int it.uint rfl (wrap_u64 (by omega)) ?_
          refine shrV rfl rfl (by show (0:Int) ≤ (b : Int) - 1 - e ∧ ((b : Int) - 1 - e).toNat ≤ 64; omega) (c := ((k / 2 ^ (b - 1 - e) : Nat) : Int)) (by rw [show ((b : Int) - 1 - e).toNat = b - 1 - e by omega]; push_cast; rfl) ?_
          refine bo rfl rfl (and1_i64 (a := k / 2 ^ (b - 1 - e)) (by omega)) ?_
          refine lt1 sl.ints (VC.d _).vd rfl (by decide) ?_
          refine apO sl.ints rfl rfl rfl (by rw [List.length_map, htk]) (VC.d _) (by simp [D.cells]) (by simp; omega) (by simp; omega) (.inr rfl) (ys := ((bitsN b k).take (e + 1)).map dI) (by rw [take_succ_getD (by rw [bitsN_len]; omega) 0, List.map_append, bitsN_get (by omega)]; rfl) (n2 := e + 1) (by simp) fun p2 c2 => ?_
          first | refine asD rfl ?_ | refine asO rfl ?_ | refine asM rfl ?_
          refine OL.nil ?_
          refine AW.region (by rw [hE]; rfl) ?_
          refine mvD rfl ?_
          refine sub_i64 rfl rfl (by omega) ?_
          refine asD rfl ?_
          refine OL.nil ?_
          exact AW.again (x := (e, p, c)) (e + 1, p2, c2) (by first | omega | (simp only []; omega)) ⟨by omega, Knows.app (.cons (VLe.refl _) (.cons (VLe.refl _) (.cons (VLe.refl _) (.cons (VLe.refl _) (.cons (VLe.refl _) .nil))))) (.cons (by first | exact VLe.refl _ | exact VLe.int (by omega) | exact VLe.mt | exact vle_q0 | exact VLe.osl | exact VLe.ptr) (.cons (by first | exact VLe.refl _ | exact VLe.int (by omega) | exact VLe.mt | exact vle_q0 | exact VLe.osl | exact VLe.ptr) .nil)), Owns.app (.cons rfl (.cons rfl .nil)) (.cons rfl .nil)⟩
        · first | (simp only [decide_eq_true_eq, decide_eq_false_iff_not, Bool.not_eq_true', Bool.not_eq_false', Bool.not_not, Bool.and_eq_true, Bool.and_eq_false_iff, Bool.or_eq_true, Bool.or_eq_false_iff] at h52) | skip
          refine AW.exit ?_
          refine AW.seq ?_
          have heb : e = b := by omega
          refine AW.freeze 62 rfl (AW.to [(1, .d (dI b)), (7, .ptr 7 b7 0), (8, .ptr 8 b8 0), (10, .d (dI (cntF (hitsF (chainHM L cs cy 2) b st w) k : Nat))), (11, .d (dI k)), (12, .d (ints (bitsN b k)))] [(7, .box b7 T.Hidden (cellsHM (chainHM L cs cy 2))), (8, .box b8 T.Drawn [.d (ints st), .d (ints w), .d (dI u)])] (.cons (VLe.refl _) (.cons (VLe.refl _) (.cons (VLe.refl _) (.cons (VLe.refl _) (.cons (VLe.refl _) (.cons (frz_osl (by rw [List.length_map, htk]) (by rw [heb, List.take_of_length_le (by rw [bitsN_len]; exact Nat.le_refl _)])) .nil)))))) (.cons rfl (.cons rfl .nil)) ?_)
          refine AW.region (by rw [hE]; rfl) ?_
          first | refine ldPA ag.Hidden rfl rfl (vs := [_, _, _, _, _, _, _, _, _, _, _]) rfl (Nat.le_of_ble_eq_true rfl) ?_ | refine ldRA ag.Hidden rfl (vs := [_, _, _, _, _, _, _, _, _, _, _]) rfl (Nat.le_of_ble_eq_true rfl) ?_
          first | refine mvD rfl ?_ | refine mvO rfl ?_ | refine mvM rfl ?_
          refine clv rfl (.cons (VLe.refl _) (.cons (VLe.refl _) (.nil))) (sample_Draw (bits := bitsN b k) hg (by rw [bitsN_len]; omega) (bitsN_bit b k)) ?_
          first | refine mvD rfl ?_ | refine mvT rfl ?_ | refine mvP rfl ?_ | refine mvR rfl ?_ | refine mvE rfl ?_ | refine mvF rfl ?_ | refine mvA rfl ?_ | refine mvO rfl ?_ | refine mvM rfl ?_ | refine mvJ rfl ?_
          refine ex rfl rfl ?_
          refine ex rfl rfl ?_
          refine al z.Drawn rfl fun b14 => ?_
          first | refine sto sz.Drawn rfl rfl rfl rfl rfl (Nat.le_of_ble_eq_true rfl) (cells2 := [_, _, _]) rfl ?_ | refine stE sz.Drawn rfl (VC.d _).vd rfl rfl (by omega) rfl ?_
          refine asD rfl ?_
          refine OL.nil ?_
          refine AW.seq ?_
          refine AW.midK (α := Unit) [(1, _), (7, _), (8, _), (10, _), (11, _), (14, _), (15, _)] [(7, _), (8, _), (14, _)] (fun _u => [(78, .d (dB false))]) (fun _u => []) (fun _u => True) (.cons (by first | exact knD rfl | exact knA rfl | exact knP rfl | exact knO rfl | exact knM rfl | exact knE rfl | exact knR rfl | exact knF rfl | exact knT rfl | exact knJ) (.cons (by first | exact knD rfl | exact knA rfl | exact knP rfl | exact knO rfl | exact knM rfl | exact knE rfl | exact knR rfl | exact knF rfl | exact knT rfl | exact knJ) (.cons (by first | exact knD rfl | exact knA rfl | exact knP rfl | exact knO rfl | exact knM rfl | exact knE rfl | exact knR rfl | exact knF rfl | exact knT rfl | exact knJ) (.cons (by first | exact knD rfl | exact knA rfl | exact knP rfl | exact knO rfl | exact knM rfl | exact knE rfl | exact knR rfl | exact knF rfl | exact knT rfl | exact knJ) (.cons (by first | exact knD rfl | exact knA rfl | exact knP rfl | exact knO rfl | exact knM rfl | exact knE rfl | exact knR rfl | exact knF rfl | exact knT rfl | exact knJ) (.cons (by first | exact knD rfl | exact knA rfl | exact knP rfl | exact knO rfl | exact knM rfl | exact knE rfl | exact knR rfl | exact knF rfl | exact knT rfl | exact knJ) (.cons (by first | exact knD rfl | exact knA rfl | exact knP rfl | exact knO rfl | exact knM rfl | exact knE rfl | exact knR rfl | exact knF rfl | exact knT rfl | exact knJ) .nil))))))) (.cons (by first | exact owB rfl | exact owR rfl) (.cons (by first | exact owB rfl | exact owR rfl) (.cons (by first | exact owB rfl | exact owR rfl) .nil))) ?_ ?_
          · refine AW.region (by rw [hE]; rfl) ?_
            refine mvD rfl ?_
            refine c_neq rfl rfl rfl ?_
            refine OL.split 70 rfl (fun g16 => ?_) (fun g16 => ?_)
            · have he : drE (draw (chainHM L cs cy 2) (bitsN b k)) = 17 ∨ drE (draw (chainHM L cs cy 2) (bitsN b k)) = 2 := by
                  cases hd2 : (draw (chainHM L cs cy 2) (bitsN b k)) with
                  | err e => exact draw_err hd2
                  | run => rw [hd2] at g16; cases g16
              refine mvD rfl ?_
              refine OL.yes rfl ?_
              refine mvD rfl ?_
              refine OL.yes rfl ?_
              refine c_neq rfl rfl rfl ?_
              refine pkT rfl rfl ?_
              refine mvD rfl ?_
              refine OL.split 75 rfl (fun g75 => ?_) (fun g75 => ?_)
              · have g2 : drE (draw (chainHM L cs cy 2) (bitsN b k)) = 2 := he.resolve_left fun e => by rw [e] at g75; cases g75
                refine OL.yes rfl ?_
                refine mvD rfl ?_
                refine OL.yes rfl ?_
                refine c_neq rfl rfl (c := false) (cne_f g2) ?_
                refine pkT rfl rfl ?_
                refine OL.nil ?_
                exact AW.reach () ⟨trivial, Knows.app (.cons (VLe.refl _) (.cons (VLe.refl _) (.cons (VLe.refl _) (.cons (VLe.refl _) (.cons (VLe.refl _) (.cons (VLe.refl _) (.cons (VLe.refl _) .nil))))))) (.cons (by first | exact VLe.refl _ | exact VLe.int (by omega) | exact VLe.mt | exact vle_q0 | exact VLe.osl | exact VLe.ptr) .nil), Owns.app (.cons rfl (.cons rfl (.cons rfl .nil))) (.nil)⟩
              · have _g := g75
                refine OL.no rfl (by decide) ?_
                refine OL.no rfl (by decide) ?_
                refine pkF rfl rfl ?_
                refine OL.nil ?_
                exact AW.reach () ⟨trivial, Knows.app (.cons (VLe.refl _) (.cons (VLe.refl _) (.cons (VLe.refl _) (.cons (VLe.refl _) (.cons (VLe.refl _) (.cons (VLe.refl _) (.cons (VLe.refl _) .nil))))))) (.cons (by first | exact VLe.refl _ | exact VLe.int (by omega) | exact VLe.mt | exact vle_q0 | exact VLe.osl | exact VLe.ptr) .nil), Owns.app (.cons rfl (.cons rfl (.cons rfl .nil))) (.nil)⟩
            · have _g := g16
              refine mvD rfl ?_
              refine OL.no rfl (by decide) ?_
              refine OL.no rfl (by decide) ?_
              refine pkF rfl rfl ?_
              refine mvD rfl ?_
              refine OL.no rfl (by decide) ?_
              refine OL.no rfl (by decide) ?_
              refine pkF rfl rfl ?_
              refine OL.nil ?_
              exact AW.reach () ⟨trivial, Knows.app (.cons (VLe.refl _) (.cons (VLe.refl _) (.cons (VLe.refl _) (.cons (VLe.refl _) (.cons (VLe.refl _) (.cons (VLe.refl _) (.cons (VLe.refl _) .nil))))))) (.cons (by first | exact VLe.refl _ | exact VLe.int (by omega) | exact VLe.mt | exact vle_q0 | exact VLe.osl | exact VLe.ptr) .nil), Owns.app (.cons rfl (.cons rfl (.cons rfl .nil))) (.nil)⟩
          rintro ⟨⟩ hφ
          refine AW.cond rfl (fun hno => absurd hno (by decide)) (fun _ => ?_)
          refine AW.skip ?_
          refine AW.midK (α := Unit) [(1, _), (7, _), (8, _), (10, _), (11, _)] [(7, _), (8, _)] (fun _u => [(94, .d (dB ((hitsF (chainHM L cs cy 2) b st w) k)))]) (fun _u => []) (fun _u => True) (.cons (by first | exact knD rfl | exact knA rfl | exact knP rfl | exact knO rfl | exact knM rfl | exact knE rfl | exact knR rfl | exact knF rfl | exact knT rfl | exact knJ) (.cons (by first | exact knD rfl | exact knA rfl | exact knP rfl | exact knO rfl | exact knM rfl | exact knE rfl | exact knR rfl | exact knF rfl | exact knT rfl | exact knJ) (.cons (by first | exact knD rfl | exact knA rfl | exact knP rfl | exact knO rfl | exact knM rfl | exact knE rfl | exact knR rfl | exact knF rfl | exact knT rfl | exact knJ) (.cons (by first | exact knD rfl | exact knA rfl | exact knP rfl | exact knO rfl | exact knM rfl | exact knE rfl | exact knR rfl | exact knF rfl | exact knT rfl | exact knJ) (.cons (by first | exact knD rfl | exact knA rfl | exact knP rfl | exact knO rfl | exact knM rfl | exact knE rfl | exact knR rfl | exact knF rfl | exact knT rfl | exact knJ) .nil))))) (.cons (by first | exact owB rfl | exact owR rfl) (.cons (by first | exact owB rfl | exact owR rfl) .nil)) ?_ ?_
          · refine AW.region (by rw [hE]; rfl) ?_
            refine mvD rfl ?_
            refine c_eql rfl rfl rfl ?_
            refine OL.split 80 rfl (fun g18 => ?_) (fun g18 => ?_)
            · obtain ⟨st2, w2, u2, hd2⟩ : ∃ st2 w2 u2, (draw (chainHM L cs cy 2) (bitsN b k)) = .run st2 w2 u2 := by
                  cases hd2 : (draw (chainHM L cs cy 2) (bitsN b k)) with
                  | err e => rw [hd2] at g18; rcases draw_err hd2 with rfl | rfl <;> cases g18
                  | run st2 w2 u2 => exact ⟨st2, w2, u2, rfl⟩
              have kj := draw_ok hg.form hd2
              have kj1 := kj.1
              have kj2 := kj.2.1
              rw [hd2]
              refine mvD rfl ?_
              refine OL.yes rfl ?_
              first | refine faP fd.Drawn_0 rfl rfl ?_ | refine faR fd.Drawn_0 rfl rfl ?_ | refine faE fd.Drawn_0 rfl rfl ?_
              refine OL.yes rfl ?_
              first | refine ldRC ce.ints rfl ?_ | refine ldPC ce.ints rfl rfl rfl ?_
              refine OL.yes rfl ?_
              first | refine faP fd.Drawn_0 rfl rfl ?_ | refine faR fd.Drawn_0 rfl rfl ?_ | refine faE fd.Drawn_0 rfl rfl ?_
              refine OL.yes rfl ?_
              first | refine ldRC ce.ints rfl ?_ | refine ldPC ce.ints rfl rfl rfl ?_
              refine OL.yes rfl ?_
              refine clv rfl (.cons (VLe.refl _) (.cons (VLe.refl _) (.nil))) (law40_same (l := st2) (m := st) (by omega)) ?_
              refine OL.split 86 rfl (fun g86 => ?_) (fun g86 => ?_)
              · have g86 := of_decide_eq_true g86
                refine pkT rfl rfl ?_
                refine mvD rfl ?_
                refine OL.yes rfl ?_
                first | refine faP fd.Drawn_1 rfl rfl ?_ | refine faR fd.Drawn_1 rfl rfl ?_ | refine faE fd.Drawn_1 rfl rfl ?_
                refine OL.yes rfl ?_
                first | refine ldRC ce.ints rfl ?_ | refine ldPC ce.ints rfl rfl rfl ?_
                refine OL.yes rfl ?_
                first | refine faP fd.Drawn_1 rfl rfl ?_ | refine faR fd.Drawn_1 rfl rfl ?_ | refine faE fd.Drawn_1 rfl rfl ?_
                refine OL.yes rfl ?_
                first | refine ldRC ce.ints rfl ?_ | refine ldPC ce.ints rfl rfl rfl ?_
                refine OL.yes rfl ?_
                refine clv rfl (.cons (VLe.refl _) (.cons (VLe.refl _) (.nil))) (law40_same (l := w2) (m := w) (by omega)) ?_
                refine pkT rfl rfl ?_
                refine OL.nil ?_
                exact AW.reach () ⟨trivial, Knows.app (.cons (VLe.refl _) (.cons (VLe.refl _) (.cons (VLe.refl _) (.cons (VLe.refl _) (.cons (VLe.refl _) .nil))))) (.cons (VLe.bool (by unfold hitsF; rw [hd2]; exact decide_eq_decide.2 ⟨fun e => ⟨g86, e⟩, fun e => e.2⟩)) .nil), Owns.app (.cons rfl (.cons rfl .nil)) (.nil)⟩
              · have g86 := of_decide_eq_false g86
                refine pkT rfl rfl ?_
                refine mvD rfl ?_
                refine OL.no rfl (by decide) ?_
                refine OL.no rfl (by decide) ?_
                refine OL.no rfl (by decide) ?_
                refine OL.no rfl (by decide) ?_
                refine OL.no rfl (by decide) ?_
                refine pkF rfl rfl ?_
                refine OL.nil ?_
                exact AW.reach () ⟨trivial, Knows.app (.cons (VLe.refl _) (.cons (VLe.refl _) (.cons (VLe.refl _) (.cons (VLe.refl _) (.cons (VLe.refl _) .nil))))) (.cons (VLe.bool (by unfold hitsF; rw [hd2]; exact (decide_eq_false fun e => g86 e.1).symm)) .nil), Owns.app (.cons rfl (.cons rfl .nil)) (.nil)⟩
            · obtain ⟨e, hd2⟩ : ∃ e, (draw (chainHM L cs cy 2) (bitsN b k)) = .err e := by
                  cases hd2 : (draw (chainHM L cs cy 2) (bitsN b k)) with
                  | err e => exact ⟨e, rfl⟩
                  | run => rw [hd2] at g18; cases g18
              refine mvD rfl ?_
              refine OL.no rfl (by decide) ?_
              refine OL.no rfl (by decide) ?_
              refine OL.no rfl (by decide) ?_
              refine OL.no rfl (by decide) ?_
              refine OL.no rfl (by decide) ?_
              refine pkF rfl rfl ?_
              refine mvD rfl ?_
              refine OL.no rfl (by decide) ?_
              refine OL.no rfl (by decide) ?_
              refine OL.no rfl (by decide) ?_
              refine OL.no rfl (by decide) ?_
              refine OL.no rfl (by decide) ?_
              refine pkF rfl rfl ?_
              refine OL.nil ?_
              exact AW.reach () ⟨trivial, Knows.app (.cons (VLe.refl _) (.cons (VLe.refl _) (.cons (VLe.refl _) (.cons (VLe.refl _) (.cons (VLe.refl _) .nil))))) (.cons (VLe.bool (by unfold hitsF; rw [hd2])) .nil), Owns.app (.cons rfl (.cons rfl .nil)) (.nil)⟩
          rintro ⟨⟩ hφ
          refine AW.cond rfl (fun hl => ?_) (fun hl => ?_)
          · have hl := hl
            refine AW.region (by rw [hE]; rfl) ?_
            refine mvD rfl ?_
            refine add_i64 rfl rfl (by omega) ?_
            refine asD rfl ?_
            refine OL.nil ?_
            exact AW.reach () ⟨trivial, Knows.app (.cons (VLe.refl _) (.cons (VLe.refl _) (.cons (VLe.refl _) (.cons (VLe.refl _) .nil)))) (.cons (VLe.int (by rw [cntF, if_pos hl]; rfl)) .nil), Owns.app (.cons rfl (.cons rfl .nil)) (.nil)⟩
          · have hl : ¬ (hitsF (chainHM L cs cy 2) b st w) k = true := fun e => by rw [e] at hl; cases hl
            refine AW.skip ?_
            exact AW.reach () ⟨trivial, Knows.app (.cons (VLe.refl _) (.cons (VLe.refl _) (.cons (VLe.refl _) (.cons (VLe.refl _) .nil)))) (.cons (VLe.int (by rw [cntF, if_neg hl]; rfl)) .nil), Owns.app (.cons rfl (.cons rfl .nil)) (.nil)⟩
      rintro ⟨⟩ hφ
      refine AW.region (by rw [hE]; rfl) ?_
      refine mvD rfl ?_
      refine add_i64 rfl rfl (by omega) ?_
      refine asD rfl ?_
      refine OL.nil ?_
      exact AW.again (x := k) (k + 1) (by first | omega | (simp only []; omega)) ⟨by omega, Knows.app (.cons (VLe.refl _) (.cons (VLe.refl _) (.cons (VLe.refl _) .nil))) (.cons (by first | exact VLe.refl _ | exact VLe.int (by omega) | exact VLe.mt | exact vle_q0 | exact VLe.osl | exact VLe.ptr) (.cons (by first | exact VLe.refl _ | exact VLe.int (by omega) | exact VLe.mt | exact vle_q0 | exact VLe.osl | exact VLe.ptr) .nil)), Owns.app (.cons rfl (.cons rfl .nil)) (.nil)⟩
    · first | (simp only [decide_eq_true_eq, decide_eq_false_iff_not, Bool.not_eq_true', Bool.not_eq_false', Bool.not_not, Bool.and_eq_true, Bool.and_eq_false_iff, Bool.or_eq_true, Bool.or_eq_false_iff] at h46) | skip
      refine AW.exit ?_
      refine AW.seq ?_
      obtain rfl : k = N := by omega
      refine AW.region (by rw [hE]; rfl) ?_
      first | refine ldPA ag.Hidden rfl rfl (vs := [_, _, _, _, _, _, _, _, _, _, _]) rfl (Nat.le_of_ble_eq_true rfl) ?_ | refine ldRA ag.Hidden rfl (vs := [_, _, _, _, _, _, _, _, _, _, _]) rfl (Nat.le_of_ble_eq_true rfl) ?_
      first | refine faP fd.Drawn_1 rfl rfl ?_ | refine faR fd.Drawn_1 rfl rfl ?_ | refine faE fd.Drawn_1 rfl rfl ?_
      first | refine ldRC ce.ints rfl ?_ | refine ldPC ce.ints rfl rfl rfl ?_
      first | refine faP fd.Drawn_0 rfl rfl ?_ | refine faR fd.Drawn_0 rfl rfl ?_ | refine faE fd.Drawn_0 rfl rfl ?_
      first | refine ldRC ce.ints rfl ?_ | refine ldPC ce.ints rfl rfl rfl ?_
      refine clv rfl (.cons (VLe.refl _) (.cons (VLe.refl _) (.cons (VLe.refl _) (.nil)))) (viterbi_Joint hg kk) ?_
      first | refine mvD rfl ?_ | refine mvT rfl ?_ | refine mvP rfl ?_ | refine mvR rfl ?_ | refine mvE rfl ?_ | refine mvF rfl ?_ | refine mvA rfl ?_ | refine mvO rfl ?_ | refine mvM rfl ?_ | refine mvJ rfl ?_
      refine ex rfl rfl ?_
      refine ex rfl rfl ?_
      refine al z.Rat rfl fun b16 => ?_
      first | refine sto sz.Rat rfl rfl rfl rfl rfl (Nat.le_of_ble_eq_true rfl) (cells2 := [_, _, _]) rfl ?_ | refine stE sz.Rat rfl (VC.d _).vd rfl rfl (by omega) rfl ?_
      refine asD rfl ?_
      refine OL.nil ?_
      refine AW.seq ?_
      refine AW.region_draw 1 [0, 1, 2, 3, 4, 5, 6, 7] order_free (by rw [hE]; rfl) (by kernel_rfl) (OI.of_OL (os := [_, _, _, _, _, _, _, _]) rfl ?_)
      first | refine ldPA ag.Rat rfl rfl (vs := [_, _, _]) rfl (Nat.le_of_ble_eq_true rfl) ?_ | refine ldRA ag.Rat rfl (vs := [_, _, _]) rfl (Nat.le_of_ble_eq_true rfl) ?_
      refine mvD rfl ?_
      refine cv it.int it.uint rfl (wrap_u64 (by omega)) ?_
      refine shlV rfl rfl (by show (0:Int) ≤ (b : Int) ∧ b ≤ 64; omega) (c := (k : Int)) (by rw [Int.toNat_natCast, Int.one_mul, show (2 : Int) ^ b = (k : Int) by rw [hN]; push_cast; rfl]; exact wrap_i64 (by omega)) ?_
      refine clv rfl (.cons (VLe.refl _) (.nil)) (ref33_Whole (n := (k : Int)) (by omega)) ?_
      refine clv rfl (.cons (VLe.refl _) (.cons (VLe.refl _) (.nil))) (ref_MulQ (x := (jointQ (chainHM L cs cy 2) st w)) (y := ((k : Int) : Rat)) (by omega) (by have := int_sz (x := (k : Int)) (by omega); omega)) ?_
      refine al z.Rat rfl fun b18 => ?_
      first | refine sto sz.Rat rfl rfl rfl rfl rfl (Nat.le_of_ble_eq_true rfl) (cells2 := [_, _, _]) rfl ?_ | refine stE sz.Rat rfl (VC.d _).vd rfl rfl (by omega) rfl ?_
      refine OL.nil ?_
      refine AW.seq ?_
      have zk := int_sz (x := (k : Int)) (by omega)
      have zm := sz_mul (jointQ (chainHM L cs cy 2) st w) ((k : Int) : Rat)
      have zc := int_sz (x := ((cntF (hitsF (chainHM L cs cy 2) b st w) k : Nat) : Int)) (by omega)
      have zc2 := int_sz (x := ((cntF (hitsF (chainHM L cs cy 2) b st w) k : Nat) : Int) + 2) (by omega)
      obtain ⟨hlaw1, hlaw2⟩ := hlaw
      refine AW.region_draw 1 [0, 1, 2, 3, 4, 5, 6, 7, 8, 9, 10, 11, 12, 13, 14, 15, 16, 17, 18, 19, 20] order_free (by rw [hE]; rfl) (by kernel_rfl) (OI.of_OL (os := [_, _, _, _, _, _, _, _, _, _, _, _, _, _, _, _, _, _, _, _, _]) rfl ?_)
      refine clv rfl .nil law40_known ?_
      refine mvD rfl ?_
      refine OL.yes rfl ?_
      refine mvD rfl ?_
      refine OL.yes rfl ?_
      refine c_eql rfl rfl (c := true) (by first | exact decide_eq_true (by omega) | exact decide_eq_false (by omega) | exact cne_f (by omega) | exact cne_t (by omega) | rfl) ?_
      refine pkT rfl rfl ?_
      refine mvD rfl ?_
      refine OL.yes rfl ?_
      refine mvD rfl ?_
      refine OL.yes rfl ?_
      refine clv rfl (.cons (VLe.refl _) (.nil)) (ref33_Whole (n := ((cntF (hitsF (chainHM L cs cy 2) b st w) k : Nat) : Int)) (by omega)) ?_
      refine OL.yes rfl ?_
      first | refine ldPA ag.Rat rfl rfl (vs := [_, _, _]) rfl (Nat.le_of_ble_eq_true rfl) ?_ | refine ldRA ag.Rat rfl (vs := [_, _, _]) rfl (Nat.le_of_ble_eq_true rfl) ?_
      refine OL.yes rfl ?_
      refine clv rfl (.cons (VLe.refl _) (.cons (VLe.refl _) (.nil))) (ref_CompareQ (x := (((cntF (hitsF (chainHM L cs cy 2) b st w) k : Nat) : Int) : Rat)) (y := (jointQ (chainHM L cs cy 2) st w) * ((k : Int) : Rat)) (by omega) (by omega)) ?_
      refine OL.yes rfl ?_
      refine c_leq rfl rfl (c := true) (decide_eq_true (cmpQ_le.2 hlaw1)) ?_
      refine pkT rfl rfl ?_
      refine mvD rfl ?_
      refine OL.yes rfl ?_
      refine mvD rfl ?_
      refine OL.yes rfl ?_
      refine add_i64 rfl rfl (by omega) ?_
      refine OL.yes rfl ?_
      refine clv rfl (.cons (VLe.refl _) (.nil)) (ref33_Whole (n := ((cntF (hitsF (chainHM L cs cy 2) b st w) k : Nat) : Int) + 2) (by omega)) ?_
      refine OL.yes rfl ?_
      first | refine ldPA ag.Rat rfl rfl (vs := [_, _, _]) rfl (Nat.le_of_ble_eq_true rfl) ?_ | refine ldRA ag.Rat rfl (vs := [_, _, _]) rfl (Nat.le_of_ble_eq_true rfl) ?_
      refine OL.yes rfl ?_
      refine clv rfl (.cons (VLe.refl _) (.cons (VLe.refl _) (.nil))) (ref_CompareQ (x := ((((cntF (hitsF (chainHM L cs cy 2) b st w) k : Nat) : Int) + 2 : Int) : Rat)) (y := (jointQ (chainHM L cs cy 2) st w) * ((k : Int) : Rat)) (by omega) (by omega)) ?_
      refine OL.yes rfl ?_
      refine c_gtr rfl rfl (c := true) (decide_eq_true (cmpQ_gt.2 hlaw2)) ?_
      refine pkT rfl rfl ?_
      refine asD rfl ?_
      refine OL.nil ?_
      exact AW.ret (RetQ.r ⟨_, .tmp rfl .nil, .le (by first | exact VLe.refl _ | exact VLe.mt | exact vle_q0 | exact VLe.int (by omega) | exact VLe.bool (by simp_all))⟩)
end Go.Proofs.YtcebciggodhmcaaGreat

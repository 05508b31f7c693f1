/-
  Walks of drawings, part 4: the law SampleReadsNoMore (printed by mk2.py).
-/
import Derived.Test.YtcebciggodhmcaaSampleC
import Derived.Test.YtcebciggodhmcaaMod40c
import Derived.Test.YtcebciggodhmcaaAlgd
set_option linter.unusedVariables false
set_option linter.unusedSimpArgs false
namespace Go.Proofs.Ytcebciggodhmcaa
open Go Go.AL

theorem sample_Draw_1 {b : Int} : FSpec P F.sample_Draw_1 [.d (dI b)] (.d (dB (!decide (b = 0 ∨ b = 1)))) := by
  refine FSpec.intro fn.sample_Draw_1 (by rfl) (by rfl) (Nat.le_of_ble_eq_true (by rfl)) fun E hE => ?_
  refine AW.seq ?_
  refine AW.region (by rw [hE]; rfl) ?_
  refine asD rfl ?_
  refine OL.nil ?_
  refine AW.seq ?_
  refine AW.region (by rw [hE]; rfl) ?_
  refine mvD rfl ?_
  refine c_neq rfl rfl rfl ?_
  refine mvD rfl ?_
  refine OL.split 5 rfl (fun g5 => ?_) (fun g5 => ?_)
  · first | (simp only [decide_eq_true_eq, decide_eq_false_iff_not, Bool.not_eq_true', Bool.not_eq_false', Bool.not_not, Bool.and_eq_true, Bool.and_eq_false_iff, Bool.or_eq_true, Bool.or_eq_false_iff] at g5) | skip
    refine OL.yes rfl ?_
    refine mvD rfl ?_
    refine OL.yes rfl ?_
    refine c_neq rfl rfl rfl ?_
    refine pkT rfl rfl ?_
    refine asD rfl ?_
    refine OL.nil ?_
    exact AW.ret (RetQ.r ⟨_, .tmp rfl .nil, .le (VLe.bool (by rw [show decide (b = 0 ∨ b = 1) = decide (b = 1) from decide_eq_decide.2 (by omega)]))⟩)
  · first | (simp only [decide_eq_true_eq, decide_eq_false_iff_not, Bool.not_eq_true', Bool.not_eq_false', Bool.not_not, Bool.and_eq_true, Bool.and_eq_false_iff, Bool.or_eq_true, Bool.or_eq_false_iff] at g5) | skip
    refine OL.no rfl (by decide) ?_
    refine OL.no rfl (by decide) ?_
    refine pkF rfl rfl ?_
    refine asD rfl ?_
    refine OL.nil ?_
    exact AW.ret (RetQ.r ⟨_, .tmp rfl .nil, .le (VLe.bool (by rw [decide_eq_true (show b = 0 ∨ b = 1 by omega)]; rfl))⟩)
theorem sample_Draw {h : HM} {B : Nat} {bits : List Int} (g : h.Good B) (hb : bits.length ≤ 2000) (h01 : ∀ x, x ∈ bits → x = 0 ∨ x = 1) : FSpec P F.sample_Draw [vHM h, .d (ints bits)] (.tup [vDrawn (drS (draw h bits)) (drW (draw h bits)) (drU (draw h bits)), .d (dI (drE (draw h bits)))]) := by
  refine FSpec.intro fn.sample_Draw (by rfl) (by rfl) (Nat.le_of_ble_eq_true (by rfl)) fun E hE => ?_
  refine AW.seq ?_
  refine AW.region (by rw [hE]; rfl) ?_
  first | refine bxA rfl rfl fun b2 => ?_ | refine bxD rfl rfl fun b2 => ?_
  refine al z.Drawn rfl fun b4 => ?_
  refine asD rfl ?_
  refine OL.nil ?_
  refine AW.seq ?_
  refine AW.seq ?_
  refine AW.region (by rw [hE]; rfl) ?_
  first | refine ldPA ag.Hidden rfl rfl (vs := [_, _, _, _, _, _, _, _, _, _, _]) rfl (Nat.le_of_ble_eq_true rfl) ?_ | refine ldRA ag.Hidden rfl (vs := [_, _, _, _, _, _, _, _, _, _, _]) rfl (Nat.le_of_ble_eq_true rfl) ?_
  refine clv rfl (.cons (VLe.refl _) .nil) (sample_refuse g) ?_
  refine asD rfl ?_
  refine OL.nil ?_
  refine AW.seq ?_
  refine AW.region (by rw [hE]; rfl) ?_
  refine mvD rfl ?_
  refine c_neq rfl rfl (c := false) (by first | exact decide_eq_true (by omega) | exact decide_eq_false (by omega) | exact cne_f (by omega) | exact cne_t (by omega) | rfl) ?_
  refine OL.nil ?_
  refine AW.cond rfl (fun hno => absurd hno (by decide)) (fun _ => ?_)
  refine AW.skip ?_
  refine AW.seq ?_
  refine AW.seq ?_
  refine AW.region (by rw [hE]; rfl) ?_
  first | refine mvD rfl ?_ | refine mvO rfl ?_ | refine mvM rfl ?_
  first | refine lnL sl.ints rfl rfl ?_ | refine lnO sl.ints rfl rfl ?_ | refine lnM sl.ints rfl rfl ?_ | refine lnD sl.ints rfl rfl rfl ?_
  refine c_gtr rfl rfl (c := false) (by first | exact decide_eq_true (by omega) | exact decide_eq_false (by omega) | exact cne_f (by omega) | exact cne_t (by omega) | rfl) ?_
  refine mvD rfl ?_
  refine OL.yes rfl ?_
  first | refine mvD rfl ?_ | refine mvO rfl ?_ | refine mvM rfl ?_
  refine OL.yes rfl ?_
  refine clv rfl (.cons (VLe.refl _) (.cons (VLe.refl _) .nil)) (contains_ints (f := F.sample_Draw_1) (p := fun b => !decide (b = 0 ∨ b = 1)) (fun q _ => sample_Draw_1) (by omega)) ?_
  rw [any_false fun x hx => by rw [decide_eq_true (h01 x hx)]; rfl]
  refine pkF rfl rfl ?_
  refine OL.nil ?_
  refine AW.cond rfl (fun hno => absurd hno (by decide)) (fun _ => ?_)
  refine AW.skip ?_
  refine AW.seq ?_
  refine AW.region (by rw [hE]; rfl) ?_
  first | refine ldPA ag.Hidden rfl rfl (vs := [_, _, _, _, _, _, _, _, _, _, _]) rfl (Nat.le_of_ble_eq_true rfl) ?_ | refine ldRA ag.Hidden rfl (vs := [_, _, _, _, _, _, _, _, _, _, _]) rfl (Nat.le_of_ble_eq_true rfl) ?_
  first | refine mvD rfl ?_ | refine mvO rfl ?_ | refine mvM rfl ?_
  refine clv rfl (.cons (VLe.refl _) (.cons (VLe.refl _) .nil)) (sample_draw g.form hb) ?_
  refine ex rfl rfl ?_
  refine ex rfl rfl ?_
  first | refine sto sz.Drawn rfl rfl rfl rfl rfl (Nat.le_of_ble_eq_true rfl) (cells2 := [_, _, _]) rfl ?_ | refine stE sz.Drawn rfl (VC.d _).vd rfl rfl (by omega) rfl ?_
  refine asD rfl ?_
  refine OL.nil ?_
  exact AW.ret (RetQ.r ⟨_, .cellA rfl rfl ag.Drawn (Nat.le_of_ble_eq_true rfl) (.tmp rfl .nil), _, .cons (.ag (.cons (.le (by first | exact VLe.refl _ | exact VLe.mt | exact vle_q0 | exact VLe.int (by omega) | exact VLe.bool (by simp_all))) (.cons (.le (by first | exact VLe.refl _ | exact VLe.mt | exact vle_q0 | exact VLe.int (by omega) | exact VLe.bool (by simp_all))) (.cons (.le (by first | exact VLe.refl _ | exact VLe.mt | exact vle_q0 | exact VLe.int (by omega) | exact VLe.bool (by simp_all))) .nil)))) (.cons (.le (by first | exact VLe.refl _ | exact VLe.mt | exact vle_q0 | exact VLe.int (by omega) | exact VLe.bool (by simp_all))) .nil), rfl⟩)
theorem law40_known  : FSpec P F.law40_known [] (.d (dB true)) := by
  refine FSpec.intro fn.law40_known (by rfl) (by rfl) (Nat.le_of_ble_eq_true (by rfl)) fun E hE => ?_
  refine AW.seq ?_
  refine AW.region (by rw [hE]; rfl) ?_
  refine asD rfl ?_
  refine OL.nil ?_
  refine AW.seq ?_
  refine AW.region (by rw [hE]; rfl) ?_
  refine clv rfl .nil law40_coin ?_
  refine ltN (ys := [dI 0, dI 1, dI 1, dI 1]) sl.ints rfl (pdC (VC.d _).vd (pdC (VC.d _).vd (pdC (VC.d _).vd (pdC (VC.d _).vd pdN)))) rfl (by decide) (by decide) (by simp [D.cells]) ?_
  refine clv rfl (.cons (VLe.refl _) (.cons (VLe.refl _) .nil)) (sample_Draw (bits := [0, 1, 1, 1]) coin_good (by decide) (by decide)) ?_
  rw [draw_coin]
  first | refine mvD rfl ?_ | refine mvT rfl ?_ | refine mvP rfl ?_ | refine mvR rfl ?_ | refine mvE rfl ?_ | refine mvF rfl ?_ | refine mvA rfl ?_ | refine mvO rfl ?_ | refine mvM rfl ?_ | refine mvJ rfl ?_
  refine ex rfl rfl ?_
  refine ex rfl rfl ?_
  refine al z.Drawn rfl fun b1 => ?_
  first | refine sto sz.Drawn rfl rfl rfl rfl rfl (Nat.le_of_ble_eq_true rfl) (cells2 := [_, _, _]) rfl ?_ | refine stE sz.Drawn rfl (VC.d _).vd rfl rfl (by omega) rfl ?_
  refine asD rfl ?_
  refine OL.nil ?_
  refine AW.seq ?_
  refine AW.region (by rw [hE]; rfl) ?_
  refine mvD rfl ?_
  refine c_eql rfl rfl (c := true) (by first | exact decide_eq_true (by omega) | exact decide_eq_false (by omega) | exact cne_f (by omega) | exact cne_t (by omega) | rfl) ?_
  refine mvD rfl ?_
  refine OL.yes rfl ?_
  first | refine faP fd.Drawn_2 rfl rfl ?_ | refine faR fd.Drawn_2 rfl rfl ?_ | refine faE fd.Drawn_2 rfl rfl ?_
  refine OL.yes rfl ?_
  first | refine ldRC ce.int rfl ?_ | refine ldPC ce.int rfl rfl rfl ?_
  refine OL.yes rfl ?_
  refine c_eql rfl rfl (c := true) (by first | exact decide_eq_true (by omega) | exact decide_eq_false (by omega) | exact cne_f (by omega) | exact cne_t (by omega) | rfl) ?_
  refine pkT rfl rfl ?_
  refine mvD rfl ?_
  refine OL.yes rfl ?_
  first | refine faP fd.Drawn_1 rfl rfl ?_ | refine faR fd.Drawn_1 rfl rfl ?_ | refine faE fd.Drawn_1 rfl rfl ?_
  refine OL.yes rfl ?_
  first | refine ldRC ce.ints rfl ?_ | refine ldPC ce.ints rfl rfl rfl ?_
  refine OL.yes rfl ?_
  refine lt1 sl.ints (VC.d _).vd rfl (by decide) ?_
  refine OL.yes rfl ?_
  refine clv rfl (.cons (VLe.refl _) (.cons (VLe.refl _) .nil)) (law40_same (l := [1]) (m := [1]) (by decide)) ?_
  rw [decide_eq_true rfl]
  refine pkT rfl rfl ?_
  refine asD rfl ?_
  refine OL.nil ?_
  exact AW.ret (RetQ.r ⟨_, .tmp rfl .nil, .le (by first | exact VLe.refl _ | exact VLe.mt | exact vle_q0 | exact VLe.int (by omega) | exact VLe.bool (by simp_all))⟩)
theorem law_SampleReadsNoMore {L l more : List Int} {cs cy : Int} (nL : L.length ≤ 9223372036854775807) : FSpec P F.law40_SampleReadsNoMore [.ag [.d (dI cs), .d (dI cy), .d (ints L)], .d (ints l), .d (ints more)] (.d (dB true)) := by
  have hg : (chainHM L cs cy 3).Good 1 := chainHM_good L cs cy (by decide)
  have hbl := coinsF_len l 20
  have hb01 := coinsF_bit l 20
  have hcl := coinsF_len more 10
  have hc01 := coinsF_bit more 10
  refine FSpec.intro fn.law40_SampleReadsNoMore (by rfl) (by rfl) (Nat.le_of_ble_eq_true (by rfl)) fun E hE => ?_
  refine AW.seq ?_
  refine AW.region (by rw [hE]; rfl) ?_
  first | refine bxA rfl rfl fun b3 => ?_ | refine bxD rfl rfl fun b3 => ?_
  refine asD rfl ?_
  refine OL.nil ?_
  refine AW.seq ?_
  refine AW.region (by rw [hE]; rfl) ?_
  first | refine ldPA ag.Chain rfl rfl (vs := [_, _, _]) rfl (Nat.le_of_ble_eq_true rfl) ?_ | refine ldRA ag.Chain rfl (vs := [_, _, _]) rfl (Nat.le_of_ble_eq_true rfl) ?_
  refine clv rfl (.cons (VLe.refl _) (.cons (VLe.refl _) .nil)) (chain_Hidden (by decide) nL) ?_
  refine al z.Hidden rfl fun b7 => ?_
  first | refine sto sz.Hidden rfl rfl rfl rfl rfl (Nat.le_of_ble_eq_true rfl) (cells2 := [_, _, _, _, _, _, _, _, _, _, _]) rfl ?_ | refine stE sz.Hidden rfl (VC.d _).vd rfl rfl (by omega) rfl ?_
  refine OL.nil ?_
  refine AW.seq ?_
  refine AW.region (by rw [hE]; rfl) ?_
  first | refine mvD rfl ?_ | refine mvO rfl ?_ | refine mvM rfl ?_
  refine clv rfl (.cons (VLe.refl _) (.cons (VLe.refl _) .nil)) (law40_coins (most := 20) (by decide)) ?_
  first | refine asD rfl ?_ | refine asO rfl ?_ | refine asM rfl ?_
  refine OL.nil ?_
  refine AW.seq ?_
  refine AW.region (by rw [hE]; rfl) ?_
  first | refine ldPA ag.Hidden rfl rfl (vs := [_, _, _, _, _, _, _, _, _, _, _]) rfl (Nat.le_of_ble_eq_true rfl) ?_ | refine ldRA ag.Hidden rfl (vs := [_, _, _, _, _, _, _, _, _, _, _]) rfl (Nat.le_of_ble_eq_true rfl) ?_
  first | refine mvD rfl ?_ | refine mvO rfl ?_ | refine mvM rfl ?_
  refine clv rfl (.cons (VLe.refl _) (.cons (VLe.refl _) .nil)) (sample_Draw (bits := (coinsF l 20)) hg (by omega) hb01) ?_
  first | refine mvD rfl ?_ | refine mvT rfl ?_ | refine mvP rfl ?_ | refine mvR rfl ?_ | refine mvE rfl ?_ | refine mvF rfl ?_ | refine mvA rfl ?_ | refine mvO rfl ?_ | refine mvM rfl ?_ | refine mvJ rfl ?_
  refine ex rfl rfl ?_
  refine ex rfl rfl ?_
  refine al z.Drawn rfl fun b9 => ?_
  first | refine sto sz.Drawn rfl rfl rfl rfl rfl (Nat.le_of_ble_eq_true rfl) (cells2 := [_, _, _]) rfl ?_ | refine stE sz.Drawn rfl (VC.d _).vd rfl rfl (by omega) rfl ?_
  refine asD rfl ?_
  refine OL.nil ?_
  refine AW.seq ?_
  refine AW.seq ?_
  refine AW.region (by rw [hE]; rfl) ?_
  refine mvD rfl ?_
  refine c_neq rfl rfl rfl ?_
  refine OL.nil ?_
  refine AW.cond rfl (fun h26 => ?_) (fun h26 => ?_)
  · obtain ⟨e, hd, he⟩ : ∃ e, draw (chainHM L cs cy 3) (coinsF l 20) = .err e ∧ (e = 17 ∨ e = 2) := by
        cases hd : draw (chainHM L cs cy 3) (coinsF l 20) with
        | err e => exact ⟨e, rfl, draw_err hd⟩
        | run => rw [hd] at h26; cases h26
    rw [hd]
    refine AW.seq ?_
    refine AW.region (by rw [hE]; rfl) ?_
    refine clv rfl .nil law40_known ?_
    refine mvD rfl ?_
    refine OL.yes rfl ?_
    refine mvD rfl ?_
    refine OL.yes rfl ?_
    refine c_eql rfl rfl rfl ?_
    refine OL.yes rfl ?_
    refine mvD rfl ?_
    refine OL.split 31 rfl (fun g31 => ?_) (fun g31 => ?_)
    · first | (simp only [decide_eq_true_eq, decide_eq_false_iff_not, Bool.not_eq_true', Bool.not_eq_false', Bool.not_not, Bool.and_eq_true, Bool.and_eq_false_iff, Bool.or_eq_true, Bool.or_eq_false_iff] at g31) | skip
      refine OL.no rfl (by decide) ?_
      refine OL.no rfl (by decide) ?_
      refine OL.yes rfl ?_
      refine pkT rfl rfl ?_
      refine pkT rfl rfl ?_
      refine asD rfl ?_
      refine OL.nil ?_
      exact AW.ret (RetQ.r ⟨_, .tmp rfl .nil, .le (VLe.bool (by rfl))⟩)
    · first | (simp only [decide_eq_true_eq, decide_eq_false_iff_not, Bool.not_eq_true', Bool.not_eq_false', Bool.not_not, Bool.and_eq_true, Bool.and_eq_false_iff, Bool.or_eq_true, Bool.or_eq_false_iff] at g31) | skip
      refine OL.yes rfl ?_
      refine mvD rfl ?_
      refine OL.yes rfl ?_
      refine c_eql rfl rfl rfl ?_
      refine OL.yes rfl ?_
      refine pkF rfl rfl ?_
      refine pkT rfl rfl ?_
      refine asD rfl ?_
      refine OL.nil ?_
      exact AW.ret (RetQ.r ⟨_, .tmp rfl .nil, .le (VLe.bool (by rcases he with rfl | rfl; exact absurd rfl g31; rfl))⟩)
  · obtain ⟨st, w, u, hd⟩ : ∃ st w u, draw (chainHM L cs cy 3) (coinsF l 20) = .run st w u := by
        cases hd : draw (chainHM L cs cy 3) (coinsF l 20) with
        | err e => rw [hd] at h26; rcases draw_err hd with rfl | rfl <;> cases h26
        | run st w u => exact ⟨st, w, u, rfl⟩
    rw [hd]
    have hu := draw_used hd
    have htl : ((coinsF l 20).take u).length = u := take_len hu
    have htb : ∀ x, x ∈ (coinsF l 20).take u → x = 0 ∨ x = 1 := fun x hx => hb01 x (List.mem_of_mem_take hx)
    have hlen := drawF_len 257 hd rfl
    have hl1 : st.length = w.length := hlen.1
    have hl2 : w.length + 1 ≤ 0 + 257 := hlen.2
    refine AW.skip ?_
    refine AW.seq ?_
    refine AW.region_draw 2 [0, 1, 2, 3, 4, 5, 7, 6, 8, 9, 10, 11, 12, 13, 14, 15, 16] order_free (by rw [hE]; rfl) (by kernel_rfl) (OI.of_OL (os := [_, _, _, _, _, _, _, _, _, _, _, _, _, _, _, _, _]) rfl ?_)
    first | refine ldPA ag.Hidden rfl rfl (vs := [_, _, _, _, _, _, _, _, _, _, _]) rfl (Nat.le_of_ble_eq_true rfl) ?_ | refine ldRA ag.Hidden rfl (vs := [_, _, _, _, _, _, _, _, _, _, _]) rfl (Nat.le_of_ble_eq_true rfl) ?_
    refine lt0 sl.ints ?_
    first | refine mvD rfl ?_ | refine mvO rfl ?_ | refine mvM rfl ?_
    first | refine faP fd.Drawn_2 rfl rfl ?_ | refine faR fd.Drawn_2 rfl rfl ?_ | refine faE fd.Drawn_2 rfl rfl ?_
    first | refine ldRC ce.int rfl ?_ | refine ldPC ce.int rfl rfl rfl ?_
    refine slTo sl.ints rfl rfl (fun _ => rfl) (by show 0 ≤ (u : Int) ∧ (u : Int) ≤ _; omega) (l2 := (coinsF l 20).take u) (by show _ = _; rw [show (drU (.run st w u)).toNat = u from Int.toNat_natCast u]) ?_
    first | refine mvD rfl ?_ | refine mvO rfl ?_ | refine mvM rfl ?_
    refine apM sl.ints rfl rfl (VC.d _) dI_len (by rw [List.length_map]; omega) (by rw [List.length_map]; omega) rfl fun b43 c43 => ?_
    refine clv rfl (.cons (VLe.refl _) (.cons (VLe.refl _) .nil)) (law40_coins (most := 10) (by decide)) ?_
    refine apOD sl.ints rfl rfl rfl rfl (VC.d _) dI_len (by simp only [List.length_map]; omega) (by simp only [List.length_map]; omega) (.inl rfl) (ys := ((coinsF l 20).take u ++ coinsF more 10).map dI) (by rw [List.map_append]) ?_
    refine clv rfl (.cons (VLe.refl _) (.cons (VLe.refl _) .nil)) (sample_Draw (bits := (coinsF l 20).take u ++ coinsF more 10) hg (by rw [List.length_append]; omega) (fun x hx => (List.mem_append.1 hx).elim (htb x) (hc01 x))) ?_
    rw [draw_more hd]
    first | refine mvD rfl ?_ | refine mvT rfl ?_ | refine mvP rfl ?_ | refine mvR rfl ?_ | refine mvE rfl ?_ | refine mvF rfl ?_ | refine mvA rfl ?_ | refine mvO rfl ?_ | refine mvM rfl ?_ | refine mvJ rfl ?_
    refine ex rfl rfl ?_
    refine ex rfl rfl ?_
    refine al z.Drawn rfl fun b11 => ?_
    first | refine sto sz.Drawn rfl rfl rfl rfl rfl (Nat.le_of_ble_eq_true rfl) (cells2 := [_, _, _]) rfl ?_ | refine stE sz.Drawn rfl (VC.d _).vd rfl rfl (by omega) rfl ?_
    refine asD rfl ?_
    refine OL.nil ?_
    refine AW.seq ?_
    refine AW.seq ?_
    refine AW.region (by rw [hE]; rfl) ?_
    refine mvD rfl ?_
    refine c_neq rfl rfl (c := false) (by first | exact decide_eq_true (by omega) | exact decide_eq_false (by omega) | exact cne_f (by omega) | exact cne_t (by omega) | rfl) ?_
    refine mvD rfl ?_
    refine OL.yes rfl ?_
    first | refine ldPA ag.Drawn rfl rfl (vs := [_, _, _]) rfl (Nat.le_of_ble_eq_true rfl) ?_ | refine ldRA ag.Drawn rfl (vs := [_, _, _]) rfl (Nat.le_of_ble_eq_true rfl) ?_
    refine OL.yes rfl ?_
    first | refine ldPA ag.Drawn rfl rfl (vs := [_, _, _]) rfl (Nat.le_of_ble_eq_true rfl) ?_ | refine ldRA ag.Drawn rfl (vs := [_, _, _]) rfl (Nat.le_of_ble_eq_true rfl) ?_
    refine OL.yes rfl ?_
    refine clv rfl (.cons (VLe.refl _) (.cons (VLe.refl _) .nil)) (ref40_Same (s1 := st) (w1 := w) (s2 := st) (w2 := w) (u1 := (u : Int)) (u2 := (u : Int)) (by omega) (by omega)) ?_
    rw [show decide ((u : Int) = u ∧ st = st ∧ w = w) = true from decide_eq_true ⟨rfl, rfl, rfl⟩]
    refine OL.yes rfl ?_
    refine nt rfl ?_
    refine pkF rfl rfl ?_
    refine OL.nil ?_
    refine AW.cond rfl (fun hno => absurd hno (by decide)) (fun _ => ?_)
    refine AW.skip ?_
    refine AW.seq ?_
    refine AW.seq ?_
    refine AW.region (by rw [hE]; rfl) ?_
    first | refine faP fd.Drawn_2 rfl rfl ?_ | refine faR fd.Drawn_2 rfl rfl ?_ | refine faE fd.Drawn_2 rfl rfl ?_
    first | refine ldRC ce.int rfl ?_ | refine ldPC ce.int rfl rfl rfl ?_
    refine c_eql rfl rfl rfl ?_
    refine OL.nil ?_
    refine AW.cond rfl (fun h60 => ?_) (fun h60 => ?_)
    · have _h := h60
      refine AW.seq ?_
      refine AW.region (by rw [hE]; rfl) ?_
      refine clv rfl .nil law40_known ?_
      refine asD rfl ?_
      refine OL.nil ?_
      exact AW.ret (RetQ.r ⟨_, .tmp rfl .nil, .le (by first | exact VLe.refl _ | exact VLe.mt | exact vle_q0 | exact VLe.int (by omega) | exact VLe.bool (by simp_all))⟩)
    · have h60 : 0 < u := by have := of_decide_eq_false h60; change ¬ ((u : Int) = 0) at this; omega
      refine AW.skip ?_
      refine AW.seq ?_
      refine AW.region_draw 1 [0, 1, 2, 3, 4, 5, 6, 7, 8, 9, 10, 11, 12] order_free (by rw [hE]; rfl) (by kernel_rfl) (OI.of_OL (os := [_, _, _, _, _, _, _, _, _, _, _, _, _]) rfl ?_)
      first | refine ldPA ag.Hidden rfl rfl (vs := [_, _, _, _, _, _, _, _, _, _, _]) rfl (Nat.le_of_ble_eq_true rfl) ?_ | refine ldRA ag.Hidden rfl (vs := [_, _, _, _, _, _, _, _, _, _, _]) rfl (Nat.le_of_ble_eq_true rfl) ?_
      first | refine mvD rfl ?_ | refine mvO rfl ?_ | refine mvM rfl ?_
      first | refine faP fd.Drawn_2 rfl rfl ?_ | refine faR fd.Drawn_2 rfl rfl ?_ | refine faE fd.Drawn_2 rfl rfl ?_
      first | refine ldRC ce.int rfl ?_ | refine ldPC ce.int rfl rfl rfl ?_
      refine bo rfl rfl (bin_sub (c := ((u - 1 : Nat) : Int)) (by show (u : Int) - 1 = _; omega) (wrap_i64 (by omega))) ?_
      refine slTo sl.ints rfl rfl (fun _ => rfl) (by omega) (l2 := (coinsF l 20).take (u - 1)) (by rw [Int.toNat_natCast]) ?_
      refine clv rfl (.cons (VLe.refl _) (.cons (VLe.refl _) .nil)) (sample_Draw (bits := (coinsF l 20).take (u - 1)) hg (by rw [List.length_take]; omega) (fun x hx => hb01 x (List.mem_of_mem_take hx))) ?_
      rw [draw_less hd h60]
      first | refine mvD rfl ?_ | refine mvT rfl ?_ | refine mvP rfl ?_ | refine mvR rfl ?_ | refine mvE rfl ?_ | refine mvF rfl ?_ | refine mvA rfl ?_ | refine mvO rfl ?_ | refine mvM rfl ?_ | refine mvJ rfl ?_
      refine ex rfl rfl ?_
      refine ex rfl rfl ?_
      refine al z.Drawn rfl fun b13 => ?_
      first | refine sto sz.Drawn rfl rfl rfl rfl rfl (Nat.le_of_ble_eq_true rfl) (cells2 := [_, _, _]) rfl ?_ | refine stE sz.Drawn rfl (VC.d _).vd rfl rfl (by omega) rfl ?_
      refine asD rfl ?_
      refine OL.nil ?_
      refine AW.seq ?_
      refine AW.region (by rw [hE]; rfl) ?_
      refine clv rfl .nil law40_known ?_
      refine mvD rfl ?_
      refine OL.yes rfl ?_
      refine mvD rfl ?_
      refine OL.yes rfl ?_
      refine c_eql rfl rfl (c := true) (by first | exact decide_eq_true (by omega) | exact decide_eq_false (by omega) | exact cne_f (by omega) | exact cne_t (by omega) | rfl) ?_
      refine pkT rfl rfl ?_
      refine asD rfl ?_
      refine OL.nil ?_
      exact AW.ret (RetQ.r ⟨_, .tmp rfl .nil, .le (by first | exact VLe.refl _ | exact VLe.mt | exact vle_q0 | exact VLe.int (by omega) | exact VLe.bool (by simp_all))⟩)
end Go.Proofs.Ytcebciggodhmcaa

/-
  Walks of package checkpoint, part 3: the best path of any word; the law CheckpointIsViterbi (printed by mk2.py).
-/
import Derived.Test.YtcebciggodhmcaaGreatVitC
import Derived.Test.YtcebciggodhmcaaGreatCk36
set_option linter.unusedVariables false
set_option linter.unusedSimpArgs false
namespace Go.Proofs.YtcebciggodhmcaaGreat
open Go Go.AL

theorem checkpoint_Best0 {h : HM} {B b : Nat} (g : h.Good B) (hb : 1 ≤ b ∧ b ≤ 256) : FSpec P F.checkpoint_Best [vHM h, .d (ints []), .d (dI b)] (.tup [.d (ints []), vQ h.empty, .d (dI (if h.empty = 0 then 0 else ((numK 0 b + min b 0 : Nat) : Int))), .d (dI (if h.empty = 0 then 11 else 0))]) := by
  have k : WordOK h [] := ⟨by decide, fun x hx => by simp at hx⟩
  have zE := g.form.zE
  have bB := g.form.bB
  refine FSpec.intro fn.checkpoint_Best (by rfl) (by rfl) (Nat.le_of_ble_eq_true (by rfl)) fun E hE => ?_
  refine AW.seq ?_
  refine AW.region (by rw [hE]; rfl) ?_
  first | refine bxA rfl rfl fun b3 => ?_ | refine bxD rfl rfl fun b3 => ?_
  refine asM rfl ?_
  refine al z.Rat rfl fun b7 => ?_
  refine asD rfl ?_
  refine asD rfl ?_
  refine OL.nil ?_
  refine AW.seq ?_
  refine AW.seq ?_
  refine AW.region (by rw [hE]; rfl) ?_
  first | refine ldPA ag.Hidden rfl rfl (vs := [_, _, _, _, _, _, _, _, _, _, _]) rfl (Nat.le_of_ble_eq_true rfl) ?_ | refine ldRA ag.Hidden rfl (vs := [_, _, _, _, _, _, _, _, _, _, _]) rfl (Nat.le_of_ble_eq_true rfl) ?_
  first | refine mvD rfl ?_ | refine mvO rfl ?_ | refine mvM rfl ?_
  refine clv rfl (.cons (VLe.refl _) (.cons (VLe.refl _) (.nil))) (checkpoint_refuse g k) ?_
  refine asD rfl ?_
  refine OL.nil ?_
  refine AW.seq ?_
  refine AW.region (by rw [hE]; rfl) ?_
  refine mvD rfl ?_
  refine c_neq rfl rfl (c := false) (by first | exact decide_eq_true (by omega) | exact decide_eq_false (by omega) | exact cne_f (by omega) | exact cne_t (by omega) | rfl) ?_
  refine OL.nil ?_
  refine AW.cond rfl (fun hno => absurd hno (by decide)) (fun _ => ?_)
  refine AW.skip ?_
  refine AW.seq ?_
  refine AW.region (by rw [hE]; rfl) ?_
  first | refine mvD rfl ?_ | refine mvO rfl ?_ | refine mvM rfl ?_
  first | refine lnL sl.ints rfl rfl ?_ | refine lnO sl.ints rfl rfl ?_ | refine lnM sl.ints rfl rfl ?_ | refine lnD sl.ints rfl rfl rfl ?_
  refine mvD rfl ?_
  refine clv rfl (.cons (VLe.refl _) (.cons (VLe.refl _) (.nil))) (checkpoint_Stored (n := 0) (b := b) (by decide) hb) ?_
  first | refine mvD rfl ?_ | refine mvT rfl ?_ | refine mvP rfl ?_ | refine mvR rfl ?_ | refine mvE rfl ?_ | refine mvF rfl ?_ | refine mvA rfl ?_ | refine mvO rfl ?_ | refine mvM rfl ?_ | refine mvJ rfl ?_
  refine ex rfl rfl ?_
  refine ex rfl rfl ?_
  refine asD rfl ?_
  refine asD rfl ?_
  refine OL.nil ?_
  refine AW.seq ?_
  refine AW.seq ?_
  refine AW.region (by rw [hE]; rfl) ?_
  refine mvD rfl ?_
  refine c_neq rfl rfl (c := false) (by first | exact decide_eq_true (by omega) | exact decide_eq_false (by omega) | exact cne_f (by omega) | exact cne_t (by omega) | rfl) ?_
  refine OL.nil ?_
  refine AW.cond rfl (fun hno => absurd hno (by decide)) (fun _ => ?_)
  refine AW.skip ?_
  refine AW.seq ?_
  refine AW.seq ?_
  refine AW.region (by rw [hE]; rfl) ?_
  first | refine mvD rfl ?_ | refine mvO rfl ?_ | refine mvM rfl ?_
  first | refine lnL sl.ints rfl rfl ?_ | refine lnO sl.ints rfl rfl ?_ | refine lnM sl.ints rfl rfl ?_ | refine lnD sl.ints rfl rfl rfl ?_
  refine c_eql rfl rfl (c := true) (by rfl) ?_
  refine OL.nil ?_
  refine AW.cond rfl (fun _ => ?_) (fun hno => absurd hno (by decide))
  refine AW.seq ?_
  refine AW.seq ?_
  refine AW.region (by rw [hE]; rfl) ?_
  first | refine faP fd.Hidden_2 rfl rfl ?_ | refine faR fd.Hidden_2 rfl rfl ?_ | refine faE fd.Hidden_2 rfl rfl ?_
  first | refine ldPA ag.Rat rfl rfl (vs := [_, _, _]) rfl (Nat.le_of_ble_eq_true rfl) ?_ | refine ldRA ag.Rat rfl (vs := [_, _, _]) rfl (Nat.le_of_ble_eq_true rfl) ?_
  refine clv rfl (.cons (VLe.refl _) (.nil)) (rational_SignQ (x := h.empty) (by omega)) ?_
  refine c_eql rfl rfl rfl ?_
  refine OL.nil ?_
  refine AW.cond rfl (fun hz => ?_) (fun hz => ?_)
  · have hz : h.empty = 0 := sgnQ_eq.1 (of_decide_eq_true hz)
    refine AW.seq ?_
    refine AW.region (by rw [hE]; rfl) ?_
    refine bd z.Rat pl.Rat (cs := [_, _, _]) rfl ?_
    refine asM rfl ?_
    first | refine sto sz.Rat rfl rfl rfl rfl rfl (Nat.le_of_ble_eq_true rfl) (cells2 := [_, _, _]) rfl ?_ | refine stE sz.Rat rfl (VC.d _).vd rfl rfl (by omega) rfl ?_
    refine asD rfl ?_
    refine asD rfl ?_
    refine OL.nil ?_
    exact AW.ret (RetQ.r ⟨_, .tmp rfl (.cellA rfl rfl ag.Rat (Nat.le_of_ble_eq_true rfl) (.tmp rfl (.tmp rfl .nil))), _, .cons (.le (VLe.mt)) (.cons (.ag (.cons (.le (by rw [hz, ofQ_zero]; exact VLe.refl _)) (.cons (.le (by rw [hz, ofQ_zero]; exact VLe.mt)) (.cons (.le (by rw [hz, ofQ_zero]; exact VLe.mt)) .nil)))) (.cons (.le (VLe.int (by rw [if_pos hz]))) (.cons (.le (VLe.int (by rw [if_pos hz]))) .nil))), rfl⟩)
  · have hz : h.empty ≠ 0 := fun e => of_decide_eq_false hz (sgnQ_eq.2 e)
    refine AW.skip ?_
    refine AW.seq ?_
    refine AW.region (by rw [hE]; rfl) ?_
    first | refine faP fd.Hidden_2 rfl rfl ?_ | refine faR fd.Hidden_2 rfl rfl ?_ | refine faE fd.Hidden_2 rfl rfl ?_
    first | refine ldPA ag.Rat rfl rfl (vs := [_, _, _]) rfl (Nat.le_of_ble_eq_true rfl) ?_ | refine ldRA ag.Rat rfl (vs := [_, _, _]) rfl (Nat.le_of_ble_eq_true rfl) ?_
    refine clv rfl (.cons (VLe.refl _) (.nil)) (fresh_Rat (q := h.empty) (by omega)) ?_
    refine mvD rfl ?_
    refine asM rfl ?_
    first | refine sto sz.Rat rfl rfl rfl rfl rfl (Nat.le_of_ble_eq_true rfl) (cells2 := [_, _, _]) rfl ?_ | refine stE sz.Rat rfl (VC.d _).vd rfl rfl (by omega) rfl ?_
    refine asD rfl ?_
    refine asD rfl ?_
    refine OL.nil ?_
    exact AW.ret (RetQ.r ⟨_, .tmp rfl (.cellA rfl rfl ag.Rat (Nat.le_of_ble_eq_true rfl) (.tmp rfl (.tmp rfl .nil))), _, .cons (.le (VLe.mt)) (.cons (.ag (.cons (.le (by first | exact VLe.refl _ | exact VLe.mt | exact vle_q0 | exact VLe.int (by omega) | exact VLe.bool (by simp_all))) (.cons (.le (by first | exact VLe.refl _ | exact VLe.mt | exact vle_q0 | exact VLe.int (by omega) | exact VLe.bool (by simp_all))) (.cons (.le (by first | exact VLe.refl _ | exact VLe.mt | exact vle_q0 | exact VLe.int (by omega) | exact VLe.bool (by simp_all))) .nil)))) (.cons (.le (VLe.int (by rw [if_neg hz]))) (.cons (.le (VLe.int (by rw [if_neg hz]))) .nil))), rfl⟩)
def ckT (h : HM) (w : List Int) (b : Nat) : Int := if vitE h w every = 0 then ((numK w.length b + min b w.length : Nat) : Int) else 0
theorem checkpoint_any {h : HM} {B b : Nat} {w : List Int} (g : h.Good B) (k : WordOK h w) (hb : 1 ≤ b ∧ b ≤ 256) :
    FSpec P F.checkpoint_Best [vHM h, .d (ints w), .d (dI b)] (.tup [.d (ints (vitP h w every)), vQ (bestR h w every), .d (dI (ckT h w b)), .d (dI (vitE h w every))]) := by
  by_cases h0 : w = []
  · subst h0
    have e1 : vitP h [] every = [] := if_pos (.inl rfl)
    have e2 : bestR h [] every = h.empty := if_pos rfl
    have h1 := checkpoint_Best0 (b := b) g hb
    rw [e1, e2]
    have e3 : vitE h [] every = if h.empty = 0 then 11 else 0 := by unfold vitE; rw [e2]
    have e4 : ckT h [] b = if h.empty = 0 then 0 else ((numK 0 b + min b 0 : Nat) : Int) := by
      unfold ckT
      rw [e3]
      by_cases e : h.empty = 0
      · rw [if_pos e, if_pos e, if_neg (by decide)]
      · rw [if_neg e, if_neg e, if_pos rfl]; rfl
    rw [e3, e4]
    exact h1
  · have hl : w.length ≠ 0 := fun e => h0 (List.eq_nil_of_length_eq_zero e)
    have h1 := checkpoint_Best (b := b) g k h0 hb
    have e2 : bestR h w every = bestP h w := (if_neg hl).trans (bestG_every g.form w)
    have e1 : ckP h w = vitP h w every := by
      unfold ckP vitP
      rw [bestG_every g.form, pathG_every g.form]
      by_cases e : bestP h w = 0
      · rw [if_pos e, if_pos (.inr e)]
      · rw [if_neg e, if_neg fun x => x.elim hl e]
    have e3 : ckE h w = vitE h w every := by unfold ckE vitE; rw [e2]
    have e4 : ((ckS h w b : Nat) : Int) = ckT h w b := by
      unfold ckS ckT vitE
      rw [e2]
      by_cases e : bestP h w = 0
      · rw [if_pos e, if_pos e, if_neg (by decide)]; rfl
      · rw [if_neg e, if_neg e, if_pos rfl]
    have e5 : (if bestP h w = 0 then 0 else bestP h w) = bestR h w every := by
      rw [e2]; split
      · rename_i e; exact e.symm
      · rfl
    rw [e1, e3, e4, e5] at h1
    exact h1
theorem law_CheckpointIsViterbi {L l : List Int} {cs cy b o : Int} (nL : L.length ≤ 9223372036854775807) : FSpec P F.law36_CheckpointIsViterbi [.ag [.d (dI cs), .d (dI cy), .d (ints L)], .d (ints l), .d (dI b), .d (dI o)] (.d (dB true)) := by
  have hg : (chainHM L cs cy 4).Good 1 := chainHM_good L cs cy (by decide)
  have f := hg.form
  have s0 := f.sym0
  have s1 := f.sym1
  obtain ⟨w, hw⟩ : ∃ w, w = wordF l (chainHM L cs cy 4).sym 24 := ⟨_, rfl⟩
  have kw : WordOK (chainHM L cs cy 4) w := by rw [hw]; exact wordF_ok s0 (by decide)
  have wl : w.length ≤ 24 := by rw [hw]; exact wordF_len ..
  have zb := bestR_sz f (by omega) (w := w) every
  have wb := within_range (v := b) (m := 9) (by decide)
  have wo := within_range (v := o) (m := 9) (by decide)
  obtain ⟨b1, eb⟩ : ∃ b1 : Nat, 1 + within b 9 = (b1 : Int) := ⟨(1 + within b 9).toNat, by omega⟩
  obtain ⟨b2, eo⟩ : ∃ b2 : Nat, 1 + within o 9 = (b2 : Int) := ⟨(1 + within o 9).toNat, by omega⟩
  refine FSpec.intro fn.law36_CheckpointIsViterbi (by rfl) (by rfl) (Nat.le_of_ble_eq_true (by rfl)) fun E hE => ?_
  refine AW.seq ?_
  refine AW.region (by rw [hE]; rfl) ?_
  first | refine bxA rfl rfl fun b4 => ?_ | refine bxD rfl rfl fun b4 => ?_
  refine asD rfl ?_
  refine OL.nil ?_
  refine AW.seq ?_
  refine AW.region (by rw [hE]; rfl) ?_
  first | refine ldPA ag.Chain rfl rfl (vs := [_, _, _]) rfl (Nat.le_of_ble_eq_true rfl) ?_ | refine ldRA ag.Chain rfl (vs := [_, _, _]) rfl (Nat.le_of_ble_eq_true rfl) ?_
  refine clv rfl (.cons (VLe.refl _) (.cons (VLe.refl _) (.nil))) (chain_Hidden (by decide) nL) ?_
  refine al z.Hidden rfl fun b9 => ?_
  first | refine sto sz.Hidden rfl rfl rfl rfl rfl (Nat.le_of_ble_eq_true rfl) (cells2 := [_, _, _, _, _, _, _, _, _, _, _]) rfl ?_ | refine stE sz.Hidden rfl (VC.d _).vd rfl rfl (by omega) rfl ?_
  refine OL.nil ?_
  refine AW.seq ?_
  refine AW.region (by rw [hE]; rfl) ?_
  first | refine mvD rfl ?_ | refine mvO rfl ?_ | refine mvM rfl ?_
  first | refine faP fd.Hidden_0 rfl rfl ?_ | refine faR fd.Hidden_0 rfl rfl ?_ | refine faE fd.Hidden_0 rfl rfl ?_
  first | refine ldRC ce.int rfl ?_ | refine ldPC ce.int rfl rfl rfl ?_
  refine clv rfl (.cons (VLe.refl _) (.cons (VLe.refl _) (.cons (VLe.refl _) (.nil)))) (world_Word (sym := (chainHM L cs cy 4).sym) (most := 24) ⟨s0, by omega⟩ (by decide)) ?_
  rw [← hw]
  first | refine asD rfl ?_ | refine asO rfl ?_ | refine asM rfl ?_
  refine OL.nil ?_
  refine AW.seq ?_
  refine AW.region (by rw [hE]; rfl) ?_
  refine mvD rfl ?_
  refine clv rfl (.cons (VLe.refl _) (.cons (VLe.refl _) (.nil))) (world_Within (by decide)) ?_
  refine bo rfl rfl (bin_add (c := (b1 : Int)) eb (wrap_i64 (by omega))) ?_
  refine mvD rfl ?_
  refine clv rfl (.cons (VLe.refl _) (.cons (VLe.refl _) (.nil))) (world_Within (by decide)) ?_
  refine bo rfl rfl (bin_add (c := (b2 : Int)) eo (wrap_i64 (by omega))) ?_
  refine asD rfl ?_
  refine asD rfl ?_
  refine OL.nil ?_
  refine AW.seq ?_
  refine AW.region (by rw [hE]; rfl) ?_
  first | refine ldPA ag.Hidden rfl rfl (vs := [_, _, _, _, _, _, _, _, _, _, _]) rfl (Nat.le_of_ble_eq_true rfl) ?_ | refine ldRA ag.Hidden rfl (vs := [_, _, _, _, _, _, _, _, _, _, _]) rfl (Nat.le_of_ble_eq_true rfl) ?_
  first | refine mvD rfl ?_ | refine mvO rfl ?_ | refine mvM rfl ?_
  refine mvD rfl ?_
  refine clv rfl (.cons (VLe.refl _) (.cons (VLe.refl _) (.cons (VLe.refl _) (.nil)))) (checkpoint_any (b := b1) hg kw ⟨by omega, by omega⟩) ?_
  first | refine mvD rfl ?_ | refine mvT rfl ?_ | refine mvP rfl ?_ | refine mvR rfl ?_ | refine mvE rfl ?_ | refine mvF rfl ?_ | refine mvA rfl ?_ | refine mvO rfl ?_ | refine mvM rfl ?_ | refine mvJ rfl ?_
  refine ex rfl rfl ?_
  refine ex rfl rfl ?_
  refine ex rfl rfl ?_
  refine ex rfl rfl ?_
  refine al z.Rat rfl fun b12 => ?_
  first | refine asD rfl ?_ | refine asO rfl ?_ | refine asM rfl ?_
  first | refine sto sz.Rat rfl rfl rfl rfl rfl (Nat.le_of_ble_eq_true rfl) (cells2 := [_, _, _]) rfl ?_ | refine stE sz.Rat rfl (VC.d _).vd rfl rfl (by omega) rfl ?_
  refine asD rfl ?_
  refine asD rfl ?_
  refine OL.nil ?_
  refine AW.seq ?_
  refine AW.region (by rw [hE]; rfl) ?_
  first | refine ldPA ag.Hidden rfl rfl (vs := [_, _, _, _, _, _, _, _, _, _, _]) rfl (Nat.le_of_ble_eq_true rfl) ?_ | refine ldRA ag.Hidden rfl (vs := [_, _, _, _, _, _, _, _, _, _, _]) rfl (Nat.le_of_ble_eq_true rfl) ?_
  first | refine mvD rfl ?_ | refine mvO rfl ?_ | refine mvM rfl ?_
  refine mvD rfl ?_
  refine clv rfl (.cons (VLe.refl _) (.cons (VLe.refl _) (.cons (VLe.refl _) (.nil)))) (checkpoint_any (b := b2) hg kw ⟨by omega, by omega⟩) ?_
  first | refine mvD rfl ?_ | refine mvT rfl ?_ | refine mvP rfl ?_ | refine mvR rfl ?_ | refine mvE rfl ?_ | refine mvF rfl ?_ | refine mvA rfl ?_ | refine mvO rfl ?_ | refine mvM rfl ?_ | refine mvJ rfl ?_
  refine ex rfl rfl ?_
  refine ex rfl rfl ?_
  refine ex rfl rfl ?_
  refine ex rfl rfl ?_
  refine al z.Rat rfl fun b16 => ?_
  first | refine asD rfl ?_ | refine asO rfl ?_ | refine asM rfl ?_
  first | refine sto sz.Rat rfl rfl rfl rfl rfl (Nat.le_of_ble_eq_true rfl) (cells2 := [_, _, _]) rfl ?_ | refine stE sz.Rat rfl (VC.d _).vd rfl rfl (by omega) rfl ?_
  refine asD rfl ?_
  refine asD rfl ?_
  refine OL.nil ?_
  refine AW.seq ?_
  refine AW.region (by rw [hE]; rfl) ?_
  first | refine ldPA ag.Hidden rfl rfl (vs := [_, _, _, _, _, _, _, _, _, _, _]) rfl (Nat.le_of_ble_eq_true rfl) ?_ | refine ldRA ag.Hidden rfl (vs := [_, _, _, _, _, _, _, _, _, _, _]) rfl (Nat.le_of_ble_eq_true rfl) ?_
  first | refine mvD rfl ?_ | refine mvO rfl ?_ | refine mvM rfl ?_
  refine clv rfl (.cons (VLe.refl _) (.cons (VLe.refl _) (.nil))) (vit_Best hg kw) ?_
  first | refine mvD rfl ?_ | refine mvT rfl ?_ | refine mvP rfl ?_ | refine mvR rfl ?_ | refine mvE rfl ?_ | refine mvF rfl ?_ | refine mvA rfl ?_ | refine mvO rfl ?_ | refine mvM rfl ?_ | refine mvJ rfl ?_
  refine ex rfl rfl ?_
  refine ex rfl rfl ?_
  refine ex rfl rfl ?_
  refine al z.Rat rfl fun b20 => ?_
  first | refine asD rfl ?_ | refine asO rfl ?_ | refine asM rfl ?_
  first | refine sto sz.Rat rfl rfl rfl rfl rfl (Nat.le_of_ble_eq_true rfl) (cells2 := [_, _, _]) rfl ?_ | refine stE sz.Rat rfl (VC.d _).vd rfl rfl (by omega) rfl ?_
  refine asD rfl ?_
  refine OL.nil ?_
  refine AW.seq ?_
  have hlp : (vitP (chainHM L cs cy 4) w every).length ≤ 24 := by
      unfold vitP
      split
      · exact Nat.zero_le _
      · rw [pathG_len]; exact wl
  generalize vitP (chainHM L cs cy 4) w every = pp at hlp ⊢
  generalize bestR (chainHM L cs cy 4) w every = qq at zb ⊢
  generalize vitE (chainHM L cs cy 4) w every = ee
  refine AW.region (by rw [hE]; rfl) ?_
  refine clv rfl .nil law36_known ?_
  refine mvD rfl ?_
  refine OL.yes rfl ?_
  refine mvD rfl ?_
  refine OL.yes rfl ?_
  refine mvD rfl ?_
  refine OL.yes rfl ?_
  refine c_eql rfl rfl (c := true) (decide_eq_true rfl) ?_
  refine pkT rfl rfl ?_
  refine mvD rfl ?_
  refine OL.yes rfl ?_
  refine mvD rfl ?_
  refine OL.yes rfl ?_
  refine mvD rfl ?_
  refine OL.yes rfl ?_
  refine c_eql rfl rfl (c := true) (decide_eq_true rfl) ?_
  refine pkT rfl rfl ?_
  refine mvD rfl ?_
  refine OL.yes rfl ?_
  first | refine mvD rfl ?_ | refine mvO rfl ?_ | refine mvM rfl ?_
  refine OL.yes rfl ?_
  first | refine mvD rfl ?_ | refine mvO rfl ?_ | refine mvM rfl ?_
  refine OL.yes rfl ?_
  refine clv rfl (.cons (VLe.refl _) (.cons (VLe.refl _) (.nil))) (law36_same (l := pp) (m := pp) (by omega)) ?_
  rw [decide_eq_true rfl]
  refine pkT rfl rfl ?_
  refine mvD rfl ?_
  refine OL.yes rfl ?_
  first | refine mvD rfl ?_ | refine mvO rfl ?_ | refine mvM rfl ?_
  refine OL.yes rfl ?_
  first | refine mvD rfl ?_ | refine mvO rfl ?_ | refine mvM rfl ?_
  refine OL.yes rfl ?_
  refine clv rfl (.cons (VLe.refl _) (.cons (VLe.refl _) (.nil))) (law36_same (l := pp) (m := pp) (by omega)) ?_
  rw [decide_eq_true rfl]
  refine pkT rfl rfl ?_
  refine mvD rfl ?_
  refine OL.yes rfl ?_
  first | refine ldPA ag.Rat rfl rfl (vs := [_, _, _]) rfl (Nat.le_of_ble_eq_true rfl) ?_ | refine ldRA ag.Rat rfl (vs := [_, _, _]) rfl (Nat.le_of_ble_eq_true rfl) ?_
  refine OL.yes rfl ?_
  first | refine ldPA ag.Rat rfl rfl (vs := [_, _, _]) rfl (Nat.le_of_ble_eq_true rfl) ?_ | refine ldRA ag.Rat rfl (vs := [_, _, _]) rfl (Nat.le_of_ble_eq_true rfl) ?_
  refine OL.yes rfl ?_
  refine clv rfl (.cons (VLe.refl _) (.cons (VLe.refl _) (.nil))) (ref_CompareQ (x := qq) (y := qq) (by omega) (by omega)) ?_
  rw [show cmpQ qq qq = 0 from cmpQ_eq.2 rfl]
  refine OL.yes rfl ?_
  refine c_eql rfl rfl (c := true) (by first | exact decide_eq_true (by omega) | exact decide_eq_false (by omega) | exact cne_f (by omega) | exact cne_t (by omega) | rfl) ?_
  refine pkT rfl rfl ?_
  refine mvD rfl ?_
  refine OL.yes rfl ?_
  first | refine ldPA ag.Rat rfl rfl (vs := [_, _, _]) rfl (Nat.le_of_ble_eq_true rfl) ?_ | refine ldRA ag.Rat rfl (vs := [_, _, _]) rfl (Nat.le_of_ble_eq_true rfl) ?_
  refine OL.yes rfl ?_
  first | refine ldPA ag.Rat rfl rfl (vs := [_, _, _]) rfl (Nat.le_of_ble_eq_true rfl) ?_ | refine ldRA ag.Rat rfl (vs := [_, _, _]) rfl (Nat.le_of_ble_eq_true rfl) ?_
  refine OL.yes rfl ?_
  refine clv rfl (.cons (VLe.refl _) (.cons (VLe.refl _) (.nil))) (ref_CompareQ (x := qq) (y := qq) (by omega) (by omega)) ?_
  rw [show cmpQ qq qq = 0 from cmpQ_eq.2 rfl]
  refine OL.yes rfl ?_
  refine c_eql rfl rfl (c := true) (by first | exact decide_eq_true (by omega) | exact decide_eq_false (by omega) | exact cne_f (by omega) | exact cne_t (by omega) | rfl) ?_
  refine pkT rfl rfl ?_
  refine asD rfl ?_
  refine OL.nil ?_
  exact AW.ret (RetQ.r ⟨_, .tmp rfl .nil, .le (by first | exact VLe.refl _ | exact VLe.mt | exact vle_q0 | exact VLe.int (by omega) | exact VLe.bool (by simp_all))⟩)
end Go.Proofs.YtcebciggodhmcaaGreat

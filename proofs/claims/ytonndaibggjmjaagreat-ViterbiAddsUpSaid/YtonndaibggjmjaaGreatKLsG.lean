/-
  Walks: the law ViterbiAddsUp (printed by mk2.py).
-/
import Derived.Test.YtonndaibggjmjaaGreatKVwA
set_option linter.unusedVariables false
set_option linter.unusedSimpArgs false
namespace Go.Proofs.YtonndaibggjmjaaGreat
open Go Go.AL
set_option maxRecDepth 6000 in
set_option maxHeartbeats 3200000 in
theorem law_ViterbiAddsUp {L l : List Int} {cs cy : Int} (nL : L.length ≤ 9223372036854775807) : FSpec P F.law35_ViterbiAddsUp [.ag [.d (dI cs), .d (dI cy), .d (ints L)], .d (ints l)] (.d (dB true)) := by
 obtain ⟨h, hh⟩ : ∃ h, h = chainHM L cs cy 3 := ⟨_, rfl⟩
 have hg : h.Good 1 := by rw [hh]; exact chainHM_good L cs cy (by decide)
 have hst : (h.st : Int) ≤ 3 := by rw [hh]; exact chainHM_st L cs cy (by decide)
 have f := hg.form
 have s0 := f.sym0
 have s1 := f.sym1
 have n0 := f.st0
 obtain ⟨w, hw⟩ : ∃ w, w = wordF l h.sym 3 := ⟨_, rfl⟩
 have kw : WordOK h w := by rw [hw]; exact wordF_ok s0 (by decide)
 have wl : w.length ≤ 3 := by rw [hw]; exact wordF_len ..
 have fw : Few h w := ⟨by omega, by omega⟩
 have hN : (h.st + 1) ^ w.length ≤ 700000 := Nat.le_trans (Nat.pow_le_pow_left (show h.st + 1 ≤ 4 by omega) _) (Nat.le_trans (Nat.pow_le_pow_right (by decide) wl) (by decide))
 have h27 : h.st ^ w.length ≤ 27 := Nat.le_trans (Nat.pow_le_pow_left (show h.st ≤ 3 by omega) _) (Nat.le_trans (Nat.pow_le_pow_right (by decide) wl) (by decide))
 obtain ⟨R, r⟩ := rank_exists h w
 have hRl := rank_len r
 have htk : R.take 64 = R := List.take_of_length_le (by omega)
 have hsum : sumQ (R.map (jointE h w)) = likF h w := (sumQ_map (jointE h w) R).trans (rank_sum hg r)
 have hsm : Small 20000 (R.map (jointE h w)) := fun q hq => by
  obtain ⟨p, _, rfl⟩ := List.mem_map.1 hq
  exact jointE_sz f (by omega) p
 have zl : sz (likF h w) ≤ 68719476736 := Nat.le_trans (lik_sz f fw) (by decide)
 have hL := vit_List (k := 64) hg kw ⟨by decide, by decide⟩ r hN
 rw [htk] at hL
 refine FSpec.intro fn.law35_ViterbiAddsUp (by rfl) (by rfl) (nb9 (by rfl)) fun E hE => ?_
 refine AW.sg hE rfl ?_
 first | refine bxA rfl rfl fun b2 => ?_ | refine bxD rfl rfl fun b2 => ?_
 refine asD rfl ?_
 refine OL.nil ?_
 refine AW.sg hE rfl ?_
 first | refine ldPA ag.Chain rfl rfl (vs := [_,_,_]) rfl (nb9 rfl) ?_ | refine ldRA ag.Chain rfl (vs := [_,_,_]) rfl (nb9 rfl) ?_
 refine clv rfl (.cons (VLe.refl _) (.cons (VLe.refl _) (.nil))) (chain_Hidden (by decide) nL) ?_
 rw [← hh]
 refine al z.Hidden rfl fun b5 => ?_
 first | refine sto sz.Hidden rfl rfl rfl rfl rfl (nb9 rfl) (cells2 := [_,_,_,_,_,_,_,_,_,_,_]) rfl ?_ | refine stE sz.Hidden rfl (VC.d _).vd rfl rfl (by omega) rfl ?_
 refine OL.nil ?_
 refine AW.sg hE rfl ?_
 first | refine mvD rfl ?_ | refine mvO rfl ?_ | refine mvM rfl ?_ | refine mvB rfl ?_
 first | refine faP fd.Hidden_0 rfl rfl ?_ | refine faR fd.Hidden_0 rfl rfl ?_ | refine faE fd.Hidden_0 rfl rfl ?_
 first | refine ldRC ce.int rfl ?_ | refine ldPC ce.int rfl rfl rfl ?_
 refine clv rfl (.cons (VLe.refl _) (.cons (VLe.refl _) (.cons (VLe.refl _) (.nil)))) (world_Word (sym := h.sym) (most := 3) ⟨s0, by omega⟩ (by decide)) ?_
 rw [← hw]
 first | refine asD rfl ?_ | refine asO rfl ?_ | refine asM rfl ?_ | refine asB rfl ?_
 refine OL.nil ?_
 refine AW.sg hE rfl ?_
 first | refine ldPA ag.Hidden rfl rfl (vs := [_,_,_,_,_,_,_,_,_,_,_]) rfl (nb9 rfl) ?_ | refine ldRA ag.Hidden rfl (vs := [_,_,_,_,_,_,_,_,_,_,_]) rfl (nb9 rfl) ?_
 first | refine mvD rfl ?_ | refine mvO rfl ?_ | refine mvM rfl ?_ | refine mvB rfl ?_
 refine clv rfl (.cons (VLe.refl _) (.cons (VLe.refl _) (.nil))) (fwd_Likelihood hg kw fw) ?_
 first | refine mvD rfl ?_ | refine mvT rfl ?_ | refine mvP rfl ?_ | refine mvR rfl ?_ | refine mvE rfl ?_ | refine mvF rfl ?_ | refine mvI rfl ?_ | refine mvA rfl ?_ | refine mvO rfl ?_ | refine mvB rfl ?_ | refine mvM rfl ?_ | refine mvJ rfl ?_
 refine ex rfl rfl ?_
 refine ex rfl rfl ?_
 refine al z.Rat rfl fun b7 => ?_
 first | refine sto sz.Rat rfl rfl rfl rfl rfl (nb9 rfl) (cells2 := [_,_,_]) rfl ?_ | refine stE sz.Rat rfl (VC.d _).vd rfl rfl (by omega) rfl ?_
 refine asD rfl ?_
 refine OL.nil ?_
 refine AW.sg hE rfl ?_
 first | refine ldPA ag.Hidden rfl rfl (vs := [_,_,_,_,_,_,_,_,_,_,_]) rfl (nb9 rfl) ?_ | refine ldRA ag.Hidden rfl (vs := [_,_,_,_,_,_,_,_,_,_,_]) rfl (nb9 rfl) ?_
 first | refine mvD rfl ?_ | refine mvO rfl ?_ | refine mvM rfl ?_ | refine mvB rfl ?_
 refine clv rfl (.cons (VLe.refl _) (.cons (VLe.refl _) (.cons (VLe.refl _) (.nil)))) (hL) ?_
 first | refine mvD rfl ?_ | refine mvT rfl ?_ | refine mvP rfl ?_ | refine mvR rfl ?_ | refine mvE rfl ?_ | refine mvF rfl ?_ | refine mvI rfl ?_ | refine mvA rfl ?_ | refine mvO rfl ?_ | refine mvB rfl ?_ | refine mvM rfl ?_ | refine mvJ rfl ?_
 refine ex rfl rfl ?_
 refine ex rfl rfl ?_
 refine ex rfl rfl ?_
 first | refine asD rfl ?_ | refine asO rfl ?_ | refine asM rfl ?_ | refine asB rfl ?_
 first | refine asD rfl ?_ | refine asO rfl ?_ | refine asM rfl ?_ | refine asB rfl ?_
 refine asD rfl ?_
 refine OL.nil ?_
 refine AW.seq ?_
 refine AW.sg hE rfl ?_
 refine mvD rfl ?_
 refine c_neq rfl rfl (c := false) (by first | exact decide_eq_true (by omega) | exact decide_eq_false (by omega) | exact cne_f (by omega) | exact cne_t (by omega) | rfl) ?_
 refine mvD rfl ?_
 refine OL.yes rfl ?_
 refine mvD rfl ?_
 refine OL.yes rfl ?_
 refine c_neq rfl rfl rfl ?_
 refine OL.split 38 rfl (fun he => ?_) (fun he => ?_)
 ·have he : lstE R ≠ 0 := nd_t he
  have hR0 : R.length = 0 := Decidable.byContradiction fun e => he (if_neg e)
  have hE11 : lstE R = 11 := if_pos hR0
  have hl0 : likF h w = 0 := by rw [← rank_sum hg r, List.eq_nil_of_length_eq_zero hR0]; rfl
  refine pkF rfl rfl ?_
  refine OL.nil ?_
  refine AW.cond rfl (fun _ => ?_) (fun hno => absurd hno (by decide))
  refine AW.sg hE rfl ?_
  refine clv rfl .nil law35_known ?_
  refine mvD rfl ?_
  refine OL.yes rfl ?_
  refine mvD rfl ?_
  refine OL.yes rfl ?_
  refine c_eql rfl rfl (c := true) (decide_eq_true rfl) ?_
  refine pkT rfl rfl ?_
  refine mvD rfl ?_
  refine OL.yes rfl ?_
  refine mvD rfl ?_
  refine OL.yes rfl ?_
  refine c_eql rfl rfl (c := true) (decide_eq_true hE11) ?_
  refine pkT rfl rfl ?_
  refine mvD rfl ?_
  refine OL.yes rfl ?_
  first | refine ldPA ag.Rat rfl rfl (vs := [_,_,_]) rfl (nb9 rfl) ?_ | refine ldRA ag.Rat rfl (vs := [_,_,_]) rfl (nb9 rfl) ?_
  refine OL.yes rfl ?_
  refine clv rfl (.cons (VLe.refl _) (.nil)) (ref_SignQ (x := likF h w) (Nat.le_trans zl (by decide))) ?_
  refine OL.yes rfl ?_
  refine c_eql rfl rfl (c := true) (decide_eq_true (sgnQ_eq.2 hl0)) ?_
  refine pkT rfl rfl ?_
  refine asD rfl ?_
  refine OL.nil ?_
  exact AW.ret (RetQ.r ⟨_, .tmp rfl .nil, .le (by first | exact VLe.refl _ | exact VLe.mt | exact vle_q0 | exact VLe.int (by omega) | exact VLe.bool (by simp_all))⟩)
 ·have he : lstE R = 0 := nd_f he
  refine pkF rfl rfl ?_
  refine OL.nil ?_
  refine AW.cond rfl (fun hno => absurd hno (by decide)) (fun _ => ?_)
  refine AW.skip ?_
  refine AW.sg hE rfl ?_
  first | refine mvD rfl ?_ | refine mvO rfl ?_ | refine mvM rfl ?_ | refine mvB rfl ?_
  refine clv rfl (.cons (VLe.refl _) (.nil)) (ref33_SumJ hsm (by rw [List.length_map]; omega)) ?_
  rw [hsum]
  refine al z.Rat rfl fun b12 => ?_
  first | refine sto sz.Rat rfl rfl rfl rfl rfl (nb9 rfl) (cells2 := [_,_,_]) rfl ?_ | refine stE sz.Rat rfl (VC.d _).vd rfl rfl (by omega) rfl ?_
  refine OL.nil ?_
  refine AW.sg hE rfl ?_
  first | refine ldPA ag.Hidden rfl rfl (vs := [_,_,_,_,_,_,_,_,_,_,_]) rfl (nb9 rfl) ?_ | refine ldRA ag.Hidden rfl (vs := [_,_,_,_,_,_,_,_,_,_,_]) rfl (nb9 rfl) ?_
  first | refine mvD rfl ?_ | refine mvO rfl ?_ | refine mvM rfl ?_ | refine mvB rfl ?_
  refine clv rfl (.cons (VLe.refl _) (.cons (VLe.refl _) (.nil))) (ref34_Likelihood hg kw fw) ?_
  first | refine mvD rfl ?_ | refine mvT rfl ?_ | refine mvP rfl ?_ | refine mvR rfl ?_ | refine mvE rfl ?_ | refine mvF rfl ?_ | refine mvI rfl ?_ | refine mvA rfl ?_ | refine mvO rfl ?_ | refine mvB rfl ?_ | refine mvM rfl ?_ | refine mvJ rfl ?_
  refine ex rfl rfl ?_
  refine ex rfl rfl ?_
  refine al z.Rat rfl fun b13 => ?_
  first | refine sto sz.Rat rfl rfl rfl rfl rfl (nb9 rfl) (cells2 := [_,_,_]) rfl ?_ | refine stE sz.Rat rfl (VC.d _).vd rfl rfl (by omega) rfl ?_
  refine asD rfl ?_
  refine OL.nil ?_
  refine AW.sg hE rfl ?_
  refine clv rfl .nil law35_known ?_
  refine mvD rfl ?_
  refine OL.yes rfl ?_
  refine mvD rfl ?_
  refine OL.yes rfl ?_
  refine c_eql rfl rfl (c := true) (decide_eq_true rfl) ?_
  refine pkT rfl rfl ?_
  refine mvD rfl ?_
  refine OL.yes rfl ?_
  first | refine ldPA ag.Rat rfl rfl (vs := [_,_,_]) rfl (nb9 rfl) ?_ | refine ldRA ag.Rat rfl (vs := [_,_,_]) rfl (nb9 rfl) ?_
  refine OL.yes rfl ?_
  first | refine ldPA ag.Rat rfl rfl (vs := [_,_,_]) rfl (nb9 rfl) ?_ | refine ldRA ag.Rat rfl (vs := [_,_,_]) rfl (nb9 rfl) ?_
  refine OL.yes rfl ?_
  refine clv rfl (.cons (VLe.refl _) (.cons (VLe.refl _) (.nil))) (ref_CompareQ (x := likF h w) (y := likF h w) zl zl) ?_
  rw [show cmpQ (likF h w) (likF h w) = 0 from cmpQ_eq.2 rfl]
  refine OL.yes rfl ?_
  refine c_eql rfl rfl (c := true) (by first | exact decide_eq_true (by omega) | exact decide_eq_false (by omega) | exact cne_f (by omega) | exact cne_t (by omega) | rfl) ?_
  refine pkT rfl rfl ?_
  refine mvD rfl ?_
  refine OL.yes rfl ?_
  first | refine mvD rfl ?_ | refine mvO rfl ?_ | refine mvM rfl ?_ | refine mvB rfl ?_
  refine OL.yes rfl ?_
  refine lnL (l := R) (f := ints) sl.intss rfl rfl ?_
  refine OL.yes rfl ?_
  first | refine mvD rfl ?_ | refine mvO rfl ?_ | refine mvM rfl ?_ | refine mvB rfl ?_
  refine OL.yes rfl ?_
  refine lnL (l := R.map (jointE h w)) (f := dQ) sl.Rats rfl rfl ?_
  refine OL.yes rfl ?_
  refine c_eql rfl rfl (c := true) (decide_eq_true (by rw [List.length_map])) ?_
  refine pkT rfl rfl ?_
  refine mvD rfl ?_
  refine OL.yes rfl ?_
  first | refine mvD rfl ?_ | refine mvO rfl ?_ | refine mvM rfl ?_ | refine mvB rfl ?_
  refine OL.yes rfl ?_
  refine lnL (l := R) (f := ints) sl.intss rfl rfl ?_
  refine OL.yes rfl ?_
  refine c_leq rfl rfl (c := true) (by first | exact decide_eq_true (by omega) | exact decide_eq_false (by omega) | exact cne_f (by omega) | exact cne_t (by omega) | rfl) ?_
  refine pkT rfl rfl ?_
  refine mvD rfl ?_
  refine OL.yes rfl ?_
  first | refine ldPA ag.Rat rfl rfl (vs := [_,_,_]) rfl (nb9 rfl) ?_ | refine ldRA ag.Rat rfl (vs := [_,_,_]) rfl (nb9 rfl) ?_
  refine OL.yes rfl ?_
  first | refine ldPA ag.Rat rfl rfl (vs := [_,_,_]) rfl (nb9 rfl) ?_ | refine ldRA ag.Rat rfl (vs := [_,_,_]) rfl (nb9 rfl) ?_
  refine OL.yes rfl ?_
  refine clv rfl (.cons (VLe.refl _) (.cons (VLe.refl _) (.nil))) (ref_CompareQ (x := likF h w) (y := likF h w) zl zl) ?_
  rw [show cmpQ (likF h w) (likF h w) = 0 from cmpQ_eq.2 rfl]
  refine OL.yes rfl ?_
  refine c_eql rfl rfl rfl ?_
  refine pkT rfl rfl ?_
  refine asD rfl ?_
  refine OL.nil ?_
  exact AW.ret (RetQ.r ⟨_, .tmp rfl .nil, .le (by first | exact VLe.refl _ | exact VLe.mt | exact vle_q0 | exact VLe.int (by omega) | exact VLe.bool (by simp_all))⟩)
end Go.Proofs.YtonndaibggjmjaaGreat

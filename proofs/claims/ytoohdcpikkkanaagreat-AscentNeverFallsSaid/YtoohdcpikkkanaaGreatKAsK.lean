/-
  Walks for chapter 39, part 11: the statement that the exact reestimate is at least as likely (printed by mk2.py).
-/
import Derived.Test.YtoohdcpikkkanaaGreatKAsJ
import Derived.Test.YtoohdcpikkkanaaGreatKMod39n
set_option linter.unusedVariables false
set_option linter.unusedSimpArgs false
namespace Go.Proofs.YtoohdcpikkkanaaGreat
open Go Go.AL
set_option maxRecDepth 6000 in
set_option maxHeartbeats 3200000 in
theorem law_AscentNeverFalls {L l : List Int} {cs cy : Int} (nL : L.length ≤ 9223372036854775807) (nl : l.length ≤ 9223372036854775807) : FSpec P F.law39_AscentNeverFalls [.ag [.d (dI cs), .d (dI cy), .d (ints L)], .d (ints l)] (.d (dB true)) := by
 obtain ⟨h, hh⟩ : ∃ h, h = chainHM L cs cy 2 := ⟨_, rfl⟩
 have hg : h.Good 1 := by rw [hh]; exact chainHM_good L cs cy (by decide)
 have hst : (h.st : Int) ≤ 2 := by rw [hh]; exact chainHM_st L cs cy (by decide)
 have hsy : h.sym ≤ 3 := by rw [hh]; exact chain_sym3 ..
 have f := hg.form
 have s0 := f.sym0
 obtain ⟨X, hX⟩ : ∃ X, X = dataF l h.sym 3 := ⟨_, rfl⟩
 have k1 : Data1 h X := by rw [hX]; exact data1_ok s0 (by omega) (by decide)
 have k5 := k1.ok
 have kl := k5.len
 have y5 := lk_sz f k5 X.length (Nat.le_refl _)
 refine FSpec.intro fn.law39_AscentNeverFalls (by rfl) (by rfl) (nb9 (by rfl)) fun E hE => ?_
 refine AW.sg hE rfl ?_
 refine bxA rfl rfl fun b2 => ?_
 refine asD rfl ?_
 refine OL.nil ?_
 refine AW.sg hE rfl ?_
 refine ldPA ag.Chain rfl rfl (vs := [_,_,_]) rfl (nb9 rfl) ?_
 refine clv rfl (.cons (VLe.refl _) (.cons (VLe.refl _) (.nil))) (chain_Hidden (by decide) nL) ?_
 rw [← hh]
 refine al z.Hidden rfl fun b5 => ?_
 refine sto sz.Hidden rfl rfl rfl rfl rfl (nb9 rfl) (cells2 := [_,_,_,_,_,_,_,_,_,_,_]) rfl ?_
 refine OL.nil ?_
 refine AW.sg hE rfl ?_
 refine mvD rfl ?_
 refine faP fd.Hidden_0 rfl rfl ?_
 refine ldPC ce.int rfl rfl rfl ?_
 refine clv rfl (.cons (VLe.refl _) (.cons (VLe.refl _) (.cons (VLe.refl _) (.nil)))) (world_Data (L := l) (sym := h.sym) (most := 3) ⟨s0, by omega⟩ (by decide) nl) ?_
 rw [← hX]
 refine asD rfl ?_
 refine OL.nil ?_
 refine AW.sg hE rfl ?_
 refine ldPA ag.Hidden rfl rfl (vs := [_,_,_,_,_,_,_,_,_,_,_]) rfl (nb9 rfl) ?_
 refine mvD rfl ?_
 refine clv rfl (.cons (VLe.refl _) (.cons (VLe.refl _) (.nil))) (ascent_Likelihood hg k5) ?_
 refine mvT rfl ?_
 refine ex rfl rfl ?_
 refine ex rfl rfl ?_
 refine al z.Rat rfl fun b7 => ?_
 refine sto sz.Rat rfl rfl rfl rfl rfl (nb9 rfl) (cells2 := [_,_,_]) rfl ?_
 refine asD rfl ?_
 refine OL.nil ?_
 refine AW.seq ?_
 refine AW.sg hE rfl ?_
 refine mvD rfl ?_
 refine c_neq rfl rfl (c := false) (by exact cne_f (by omega)) ?_
 refine OL.nil ?_
 refine AW.cond rfl (fun hno => absurd hno (by decide)) (fun _ => ?_)
 refine AW.skip ?_
 refine AW.sg hE rfl ?_
 refine ldPA ag.Hidden rfl rfl (vs := [_,_,_,_,_,_,_,_,_,_,_]) rfl (nb9 rfl) ?_
 refine mvD rfl ?_
 refine clv rfl (.cons (VLe.refl _) (.cons (VLe.refl _) (.nil))) (ascent_ReestimateZ hg k5 (by omega)) ?_
 refine mvT rfl ?_
 refine ex rfl rfl ?_
 refine ex rfl rfl ?_
 refine al z.Hidden rfl fun b9 => ?_
 refine sto sz.Hidden rfl rfl rfl rfl rfl (nb9 rfl) (cells2 := [_,_,_,_,_,_,_,_,_,_,_]) rfl ?_
 refine asD rfl ?_
 refine OL.nil ?_
 refine AW.seq ?_
 refine AW.sg hE rfl ?_
 refine ldPA ag.Rat rfl rfl (vs := [_,_,_]) rfl (nb9 rfl) ?_
 refine clv rfl (.cons (VLe.refl _) (.nil)) (ref_SignQ (x := (lkN h X X.length)) (by omega)) ?_
 refine c_eql rfl rfl rfl ?_
 refine OL.nil ?_
 refine AW.cond rfl (fun hz => ?_) (fun hz => ?_)
 ·have hz : ¬ AllL h X := lk_zero.1 (sgnQ_eq.1 (of_decide_eq_true hz))
  have he : reE h X = 11 := if_neg hz
  rw [he]
  refine AW.sg hE rfl ?_
  refine clv rfl .nil law39_known ?_
  refine mvD rfl ?_
  refine OL.yes rfl ?_
  refine mvD rfl ?_
  refine OL.yes rfl ?_
  refine c_eql rfl rfl (c := true) (by exact decide_eq_true (by omega)) ?_
  refine pkT rfl rfl ?_
  refine asD rfl ?_
  refine OL.nil ?_
  exact AW.ret (RetQ.r ⟨_, .tmp rfl .nil, .le (VLe.refl _)⟩)
 ·have ha : AllL h X := Classical.byContradiction fun k => of_decide_eq_false hz (sgnQ_eq.2 (lk_zero.2 k))
  have he : reE h X = 0 := if_pos ha
  have hr : reZ h X = reHM h X := if_pos ha
  rw [he, hr]
  have gr := re_good hg k1 ha hsy
  have fr := gr.form
  have kr : DataOK (reHM h X) X := ⟨k5.len, fun w hw => ⟨(k5.word w hw).1, ⟨(k5.word w hw).2.st, (k5.word w hw).2.len⟩⟩⟩
  have hls := lk_szW (X := X) fr (show (reHM h X).st ≤ 2 by show h.st ≤ 2; omega) (by omega) k1.len
  have y6 := hls X.length (Nat.le_refl _)
  have up := em_rises hg k1 ha hsy
  refine AW.skip ?_
  refine AW.sg hE rfl ?_
  refine ldPA ag.Hidden rfl rfl (vs := [_,_,_,_,_,_,_,_,_,_,_]) rfl (nb9 rfl) ?_
  refine mvD rfl ?_
  refine clv rfl (.cons (VLe.refl _) (.cons (VLe.refl _) (.nil))) (ascent_LikelihoodW gr kr (fun w hw => let z := fwdSzW fr (show (reHM h X).st ≤ 2 by show h.st ≤ 2; omega) (k1.len w hw); ⟨z.1, Nat.le_trans z.2 (by decide)⟩) (fun k hk => by have := hls k hk; omega)) ?_
  refine mvT rfl ?_
  refine ex rfl rfl ?_
  refine ex rfl rfl ?_
  refine al z.Rat rfl fun b11 => ?_
  refine sto sz.Rat rfl rfl rfl rfl rfl (nb9 rfl) (cells2 := [_,_,_]) rfl ?_
  refine asD rfl ?_
  refine OL.nil ?_
  refine AW.sg hE rfl ?_
  refine clv rfl .nil law39_known ?_
  refine mvD rfl ?_
  refine OL.yes rfl ?_
  refine mvD rfl ?_
  refine OL.yes rfl ?_
  refine c_eql rfl rfl (c := true) (by exact decide_eq_true (by omega)) ?_
  refine pkT rfl rfl ?_
  refine mvD rfl ?_
  refine OL.yes rfl ?_
  refine mvD rfl ?_
  refine OL.yes rfl ?_
  refine c_eql rfl rfl (c := true) (by exact decide_eq_true (by omega)) ?_
  refine pkT rfl rfl ?_
  refine mvD rfl ?_
  refine OL.yes rfl ?_
  refine ldPA ag.Hidden rfl rfl (vs := [_,_,_,_,_,_,_,_,_,_,_]) rfl (nb9 rfl) ?_
  refine OL.yes rfl ?_
  refine clv rfl (.cons (VLe.refl _) (.nil)) (hmm_Valid_okW gr) ?_
  refine OL.yes rfl ?_
  refine c_eql rfl rfl (c := true) (by exact decide_eq_true (by omega)) ?_
  refine pkT rfl rfl ?_
  refine mvD rfl ?_
  refine OL.yes rfl ?_
  refine ldPA ag.Rat rfl rfl (vs := [_,_,_]) rfl (nb9 rfl) ?_
  refine OL.yes rfl ?_
  refine ldPA ag.Rat rfl rfl (vs := [_,_,_]) rfl (nb9 rfl) ?_
  refine OL.yes rfl ?_
  refine clv rfl (.cons (VLe.refl _) (.cons (VLe.refl _) (.nil))) (ref_CompareQ (x := (lkN (reHM h X) X X.length)) (y := (lkN h X X.length)) (by omega) (by omega)) ?_
  refine OL.yes rfl ?_
  refine c_geq rfl rfl (c := true) (decide_eq_true (cmpQ_ge.2 up)) ?_
  refine pkT rfl rfl ?_
  refine asD rfl ?_
  refine OL.nil ?_
  exact AW.ret (RetQ.r ⟨_, .tmp rfl .nil, .le (VLe.refl _)⟩)
end Go.Proofs.YtoohdcpikkkanaaGreat

/-
  Walks of drawings of any model: the law SampleActs (printed by mk2.py).
-/
import Derived.Test.YtjghehkgmanmbaaGreatKSaE
import Derived.Test.YtjghehkgmanmbaaGreatKMod43
set_option linter.unusedVariables false
set_option linter.unusedSimpArgs false
namespace Go.Proofs.YtjghehkgmanmbaaGreat
open Go Go.AL
theorem known_draw : drawR (rmOf coinHM) [0, 1, 1, 1] = .run [0] [1] 2 := by
 rw [drawR_0 (good_chkP coin_good.wide) ⟨by decide, by decide⟩, hm_rmOf, draw_coin]
theorem coin_lite : (rmOf coinHM).Lite := fun _ => by decide
theorem coin_vRM : vHM coinHM = vRM (rmOf coinHM) := rfl
theorem law40_light {h : RM} : FSpec P F.law40_light [vRM h] (.d (dB (liteB h))) := by
 refine FSpec.intro fn.law40_light (by rfl) (by rfl) (nb9 (by rfl)) fun E hE => ?_
 refine AW.sg hE rfl ?_
 first | refine bxA rfl rfl fun b1 => ?_ | refine bxD rfl rfl fun b1 => ?_
 refine asD rfl ?_
 refine OL.nil ?_
 refine AW.sg hE rfl ?_
 first | refine faP fd.Hidden_1 rfl rfl ?_ | refine faR fd.Hidden_1 rfl rfl ?_ | refine faE fd.Hidden_1 rfl rfl ?_
 first | refine ldRC ce.int rfl ?_ | refine ldPC ce.int rfl rfl rfl ?_
 refine c_leq rfl rfl rfl ?_
 refine mvD rfl ?_
 refine OL.split 6 rfl (fun g6 => ?_) (fun g6 => ?_)
 ·try simp only [dx9] at g6
  refine OL.no rfl (by decide) ?_
  refine OL.no rfl (by decide) ?_
  refine OL.no rfl (by decide) ?_
  refine pkT rfl rfl ?_
  refine mvD rfl ?_
  refine OL.yes rfl ?_
  first | refine faP fd.Hidden_3 rfl rfl ?_ | refine faR fd.Hidden_3 rfl rfl ?_ | refine faE fd.Hidden_3 rfl rfl ?_
  refine OL.yes rfl ?_
  first | refine ldRC ce.Rats rfl ?_ | refine ldPC ce.Rats rfl rfl rfl ?_
  refine OL.yes rfl ?_
  first | refine lnL sl.Rats rfl rfl ?_ | refine lnO sl.Rats rfl rfl ?_ | refine lnM sl.Rats rfl rfl ?_ | refine lnD sl.Rats rfl rfl rfl ?_
  refine OL.yes rfl ?_
  refine c_leq rfl rfl rfl ?_
  refine pkT rfl rfl ?_
  refine mvD rfl ?_
  refine OL.split 17 rfl (fun g17 => ?_) (fun g17 => ?_)
  ·try simp only [dx9] at g17
   refine OL.yes rfl ?_
   first | refine faP fd.Hidden_4 rfl rfl ?_ | refine faR fd.Hidden_4 rfl rfl ?_ | refine faE fd.Hidden_4 rfl rfl ?_
   refine OL.yes rfl ?_
   first | refine ldRC ce.Ratss rfl ?_ | refine ldPC ce.Ratss rfl rfl rfl ?_
   refine OL.yes rfl ?_
   first | refine lnL sl.Ratss rfl rfl ?_ | refine lnO sl.Ratss rfl rfl ?_ | refine lnM sl.Ratss rfl rfl ?_ | refine lnD sl.Ratss rfl rfl rfl ?_
   refine OL.yes rfl ?_
   refine c_leq rfl rfl rfl ?_
   refine pkT rfl rfl ?_
   refine mvD rfl ?_
   refine OL.split 23 rfl (fun g23 => ?_) (fun g23 => ?_)
   ·try simp only [dx9] at g23
    refine OL.yes rfl ?_
    first | refine faP fd.Hidden_6 rfl rfl ?_ | refine faR fd.Hidden_6 rfl rfl ?_ | refine faE fd.Hidden_6 rfl rfl ?_
    refine OL.yes rfl ?_
    first | refine ldRC ce.Ratss rfl ?_ | refine ldPC ce.Ratss rfl rfl rfl ?_
    refine OL.yes rfl ?_
    first | refine lnL sl.Ratss rfl rfl ?_ | refine lnO sl.Ratss rfl rfl ?_ | refine lnM sl.Ratss rfl rfl ?_ | refine lnD sl.Ratss rfl rfl rfl ?_
    refine OL.yes rfl ?_
    refine c_leq rfl rfl rfl ?_
    refine pkT rfl rfl ?_
    refine mvD rfl ?_
    refine OL.split 29 rfl (fun g29 => ?_) (fun g29 => ?_)
    ·try simp only [dx9] at g29
     refine OL.yes rfl ?_
     first | refine faP fd.Hidden_0 rfl rfl ?_ | refine faR fd.Hidden_0 rfl rfl ?_ | refine faE fd.Hidden_0 rfl rfl ?_
     refine OL.yes rfl ?_
     first | refine ldRC ce.int rfl ?_ | refine ldPC ce.int rfl rfl rfl ?_
     refine OL.yes rfl ?_
     refine c_leq rfl rfl rfl ?_
     refine OL.yes rfl ?_
     refine mvD rfl ?_
     refine OL.split 33 rfl (fun g33 => ?_) (fun g33 => ?_)
     ·try simp only [dx9] at g33
      refine OL.no rfl (by decide) ?_
      refine OL.no rfl (by decide) ?_
      refine OL.no rfl (by decide) ?_
      refine OL.yes rfl ?_
      refine pkT rfl rfl ?_
      refine pkT rfl rfl ?_
      refine asD rfl ?_
      refine OL.nil ?_
      exact AW.ret (RetQ.r ⟨_, .tmp rfl .nil, .le (VLe.bool (by unfold liteB; simp_all <;> omega))⟩)
     ·try simp only [dx9] at g33
      refine OL.yes rfl ?_
      first | refine faP fd.Hidden_0 rfl rfl ?_ | refine faR fd.Hidden_0 rfl rfl ?_ | refine faE fd.Hidden_0 rfl rfl ?_
      refine OL.yes rfl ?_
      first | refine ldRC ce.int rfl ?_ | refine ldPC ce.int rfl rfl rfl ?_
      refine OL.yes rfl ?_
      refine c_gtr rfl rfl rfl ?_
      refine OL.yes rfl ?_
      refine pkF rfl rfl ?_
      refine pkT rfl rfl ?_
      refine asD rfl ?_
      refine OL.nil ?_
      exact AW.ret (RetQ.r ⟨_, .tmp rfl .nil, .le (VLe.bool (by unfold liteB; simp_all <;> omega))⟩)
    ·try simp only [dx9] at g29
     refine OL.no rfl (by decide) ?_
     refine OL.no rfl (by decide) ?_
     refine OL.no rfl (by decide) ?_
     refine OL.no rfl (by decide) ?_
     refine OL.no rfl (by decide) ?_
     refine OL.no rfl (by decide) ?_
     refine OL.no rfl (by decide) ?_
     refine OL.no rfl (by decide) ?_
     refine pkF rfl rfl ?_
     refine asD rfl ?_
     refine OL.nil ?_
     exact AW.ret (RetQ.r ⟨_, .tmp rfl .nil, .le (VLe.bool (by unfold liteB; simp_all <;> omega))⟩)
   ·try simp only [dx9] at g23
    refine OL.no rfl (by decide) ?_
    refine OL.no rfl (by decide) ?_
    refine OL.no rfl (by decide) ?_
    refine OL.no rfl (by decide) ?_
    refine pkF rfl rfl ?_
    refine mvD rfl ?_
    refine OL.no rfl (by decide) ?_
    refine OL.no rfl (by decide) ?_
    refine OL.no rfl (by decide) ?_
    refine OL.no rfl (by decide) ?_
    refine OL.no rfl (by decide) ?_
    refine OL.no rfl (by decide) ?_
    refine OL.no rfl (by decide) ?_
    refine OL.no rfl (by decide) ?_
    refine pkF rfl rfl ?_
    refine asD rfl ?_
    refine OL.nil ?_
    exact AW.ret (RetQ.r ⟨_, .tmp rfl .nil, .le (VLe.bool (by unfold liteB; simp_all <;> omega))⟩)
  ·try simp only [dx9] at g17
   refine OL.no rfl (by decide) ?_
   refine OL.no rfl (by decide) ?_
   refine OL.no rfl (by decide) ?_
   refine OL.no rfl (by decide) ?_
   refine pkF rfl rfl ?_
   refine mvD rfl ?_
   refine OL.no rfl (by decide) ?_
   refine OL.no rfl (by decide) ?_
   refine OL.no rfl (by decide) ?_
   refine OL.no rfl (by decide) ?_
   refine pkF rfl rfl ?_
   refine mvD rfl ?_
   refine OL.no rfl (by decide) ?_
   refine OL.no rfl (by decide) ?_
   refine OL.no rfl (by decide) ?_
   refine OL.no rfl (by decide) ?_
   refine OL.no rfl (by decide) ?_
   refine OL.no rfl (by decide) ?_
   refine OL.no rfl (by decide) ?_
   refine OL.no rfl (by decide) ?_
   refine pkF rfl rfl ?_
   refine asD rfl ?_
   refine OL.nil ?_
   exact AW.ret (RetQ.r ⟨_, .tmp rfl .nil, .le (VLe.bool (by unfold liteB; simp_all <;> omega))⟩)
 ·try simp only [dx9] at g6
  refine OL.yes rfl ?_
  first | refine faP fd.Hidden_1 rfl rfl ?_ | refine faR fd.Hidden_1 rfl rfl ?_ | refine faE fd.Hidden_1 rfl rfl ?_
  refine OL.yes rfl ?_
  first | refine ldRC ce.int rfl ?_ | refine ldPC ce.int rfl rfl rfl ?_
  refine OL.yes rfl ?_
  refine c_gtr rfl rfl rfl ?_
  refine pkF rfl rfl ?_
  refine mvD rfl ?_
  refine OL.split 11 rfl (fun g11 => ?_) (fun g11 => ?_)
  ·try simp only [dx9] at g11
   refine OL.yes rfl ?_
   first | refine faP fd.Hidden_3 rfl rfl ?_ | refine faR fd.Hidden_3 rfl rfl ?_ | refine faE fd.Hidden_3 rfl rfl ?_
   refine OL.yes rfl ?_
   first | refine ldRC ce.Rats rfl ?_ | refine ldPC ce.Rats rfl rfl rfl ?_
   refine OL.yes rfl ?_
   first | refine lnL sl.Rats rfl rfl ?_ | refine lnO sl.Rats rfl rfl ?_ | refine lnM sl.Rats rfl rfl ?_ | refine lnD sl.Rats rfl rfl rfl ?_
   refine OL.yes rfl ?_
   refine c_leq rfl rfl rfl ?_
   refine pkT rfl rfl ?_
   refine mvD rfl ?_
   refine OL.split 17 rfl (fun g17 => ?_) (fun g17 => ?_)
   ·try simp only [dx9] at g17
    refine OL.yes rfl ?_
    first | refine faP fd.Hidden_4 rfl rfl ?_ | refine faR fd.Hidden_4 rfl rfl ?_ | refine faE fd.Hidden_4 rfl rfl ?_
    refine OL.yes rfl ?_
    first | refine ldRC ce.Ratss rfl ?_ | refine ldPC ce.Ratss rfl rfl rfl ?_
    refine OL.yes rfl ?_
    first | refine lnL sl.Ratss rfl rfl ?_ | refine lnO sl.Ratss rfl rfl ?_ | refine lnM sl.Ratss rfl rfl ?_ | refine lnD sl.Ratss rfl rfl rfl ?_
    refine OL.yes rfl ?_
    refine c_leq rfl rfl rfl ?_
    refine pkT rfl rfl ?_
    refine mvD rfl ?_
    refine OL.split 23 rfl (fun g23 => ?_) (fun g23 => ?_)
    ·try simp only [dx9] at g23
     refine OL.yes rfl ?_
     first | refine faP fd.Hidden_6 rfl rfl ?_ | refine faR fd.Hidden_6 rfl rfl ?_ | refine faE fd.Hidden_6 rfl rfl ?_
     refine OL.yes rfl ?_
     first | refine ldRC ce.Ratss rfl ?_ | refine ldPC ce.Ratss rfl rfl rfl ?_
     refine OL.yes rfl ?_
     first | refine lnL sl.Ratss rfl rfl ?_ | refine lnO sl.Ratss rfl rfl ?_ | refine lnM sl.Ratss rfl rfl ?_ | refine lnD sl.Ratss rfl rfl rfl ?_
     refine OL.yes rfl ?_
     refine c_leq rfl rfl rfl ?_
     refine pkT rfl rfl ?_
     refine mvD rfl ?_
     refine OL.split 29 rfl (fun g29 => ?_) (fun g29 => ?_)
     ·try simp only [dx9] at g29
      refine OL.yes rfl ?_
      first | refine faP fd.Hidden_0 rfl rfl ?_ | refine faR fd.Hidden_0 rfl rfl ?_ | refine faE fd.Hidden_0 rfl rfl ?_
      refine OL.yes rfl ?_
      first | refine ldRC ce.int rfl ?_ | refine ldPC ce.int rfl rfl rfl ?_
      refine OL.yes rfl ?_
      refine c_leq rfl rfl rfl ?_
      refine OL.yes rfl ?_
      refine mvD rfl ?_
      refine OL.split 33 rfl (fun g33 => ?_) (fun g33 => ?_)
      ·try simp only [dx9] at g33
       refine OL.no rfl (by decide) ?_
       refine OL.no rfl (by decide) ?_
       refine OL.no rfl (by decide) ?_
       refine OL.yes rfl ?_
       refine pkT rfl rfl ?_
       refine pkT rfl rfl ?_
       refine asD rfl ?_
       refine OL.nil ?_
       exact AW.ret (RetQ.r ⟨_, .tmp rfl .nil, .le (VLe.bool (by unfold liteB; simp_all <;> omega))⟩)
      ·try simp only [dx9] at g33
       refine OL.yes rfl ?_
       first | refine faP fd.Hidden_0 rfl rfl ?_ | refine faR fd.Hidden_0 rfl rfl ?_ | refine faE fd.Hidden_0 rfl rfl ?_
       refine OL.yes rfl ?_
       first | refine ldRC ce.int rfl ?_ | refine ldPC ce.int rfl rfl rfl ?_
       refine OL.yes rfl ?_
       refine c_gtr rfl rfl rfl ?_
       refine OL.yes rfl ?_
       refine pkF rfl rfl ?_
       refine pkT rfl rfl ?_
       refine asD rfl ?_
       refine OL.nil ?_
       exact AW.ret (RetQ.r ⟨_, .tmp rfl .nil, .le (VLe.bool (by unfold liteB; simp_all <;> omega))⟩)
     ·try simp only [dx9] at g29
      refine OL.no rfl (by decide) ?_
      refine OL.no rfl (by decide) ?_
      refine OL.no rfl (by decide) ?_
      refine OL.no rfl (by decide) ?_
      refine OL.no rfl (by decide) ?_
      refine OL.no rfl (by decide) ?_
      refine OL.no rfl (by decide) ?_
      refine OL.no rfl (by decide) ?_
      refine pkF rfl rfl ?_
      refine asD rfl ?_
      refine OL.nil ?_
      exact AW.ret (RetQ.r ⟨_, .tmp rfl .nil, .le (VLe.bool (by unfold liteB; simp_all <;> omega))⟩)
    ·try simp only [dx9] at g23
     refine OL.no rfl (by decide) ?_
     refine OL.no rfl (by decide) ?_
     refine OL.no rfl (by decide) ?_
     refine OL.no rfl (by decide) ?_
     refine pkF rfl rfl ?_
     refine mvD rfl ?_
     refine OL.no rfl (by decide) ?_
     refine OL.no rfl (by decide) ?_
     refine OL.no rfl (by decide) ?_
     refine OL.no rfl (by decide) ?_
     refine OL.no rfl (by decide) ?_
     refine OL.no rfl (by decide) ?_
     refine OL.no rfl (by decide) ?_
     refine OL.no rfl (by decide) ?_
     refine pkF rfl rfl ?_
     refine asD rfl ?_
     refine OL.nil ?_
     exact AW.ret (RetQ.r ⟨_, .tmp rfl .nil, .le (VLe.bool (by unfold liteB; simp_all <;> omega))⟩)
   ·try simp only [dx9] at g17
    refine OL.no rfl (by decide) ?_
    refine OL.no rfl (by decide) ?_
    refine OL.no rfl (by decide) ?_
    refine OL.no rfl (by decide) ?_
    refine pkF rfl rfl ?_
    refine mvD rfl ?_
    refine OL.no rfl (by decide) ?_
    refine OL.no rfl (by decide) ?_
    refine OL.no rfl (by decide) ?_
    refine OL.no rfl (by decide) ?_
    refine pkF rfl rfl ?_
    refine mvD rfl ?_
    refine OL.no rfl (by decide) ?_
    refine OL.no rfl (by decide) ?_
    refine OL.no rfl (by decide) ?_
    refine OL.no rfl (by decide) ?_
    refine OL.no rfl (by decide) ?_
    refine OL.no rfl (by decide) ?_
    refine OL.no rfl (by decide) ?_
    refine OL.no rfl (by decide) ?_
    refine pkF rfl rfl ?_
    refine asD rfl ?_
    refine OL.nil ?_
    exact AW.ret (RetQ.r ⟨_, .tmp rfl .nil, .le (VLe.bool (by unfold liteB; simp_all <;> omega))⟩)
  ·try simp only [dx9] at g11
   refine OL.no rfl (by decide) ?_
   refine OL.no rfl (by decide) ?_
   refine OL.no rfl (by decide) ?_
   refine OL.no rfl (by decide) ?_
   refine pkF rfl rfl ?_
   refine mvD rfl ?_
   refine OL.no rfl (by decide) ?_
   refine OL.no rfl (by decide) ?_
   refine OL.no rfl (by decide) ?_
   refine OL.no rfl (by decide) ?_
   refine pkF rfl rfl ?_
   refine mvD rfl ?_
   refine OL.no rfl (by decide) ?_
   refine OL.no rfl (by decide) ?_
   refine OL.no rfl (by decide) ?_
   refine OL.no rfl (by decide) ?_
   refine pkF rfl rfl ?_
   refine mvD rfl ?_
   refine OL.no rfl (by decide) ?_
   refine OL.no rfl (by decide) ?_
   refine OL.no rfl (by decide) ?_
   refine OL.no rfl (by decide) ?_
   refine OL.no rfl (by decide) ?_
   refine OL.no rfl (by decide) ?_
   refine OL.no rfl (by decide) ?_
   refine OL.no rfl (by decide) ?_
   refine pkF rfl rfl ?_
   refine asD rfl ?_
   refine OL.nil ?_
   exact AW.ret (RetQ.r ⟨_, .tmp rfl .nil, .le (VLe.bool (by unfold liteB; simp_all <;> omega))⟩)
theorem law40_known  : FSpec P F.law40_known [] (.d (dB true)) := by
 refine FSpec.intro fn.law40_known (by rfl) (by rfl) (nb9 (by rfl)) fun E hE => ?_
 refine AW.sg hE rfl ?_
 refine asD rfl ?_
 refine OL.nil ?_
 refine AW.sg hE rfl ?_
 refine clv rfl .nil law40_coin ?_
 refine ltN (ys := [dI 0, dI 1, dI 1, dI 1]) sl.ints rfl (pdC (VC.d _).vd (pdC (VC.d _).vd (pdC (VC.d _).vd (pdC (VC.d _).vd pdN)))) rfl (by decide) (by decide) (by simp [D.cells]) ?_
 refine clv rfl (.cons (vle_of_eq coin_vRM) (.cons (VLe.refl _) .nil)) (sample_DrawR (bits := [0, 1, 1, 1]) (good_sz coin_good.wide) coin_lite (by decide)) ?_
 rw [known_draw]
 first | refine mvD rfl ?_ | refine mvT rfl ?_ | refine mvP rfl ?_ | refine mvR rfl ?_ | refine mvE rfl ?_ | refine mvF rfl ?_ | refine mvA rfl ?_ | refine mvO rfl ?_ | refine mvM rfl ?_ | refine mvJ rfl ?_
 refine ex rfl rfl ?_
 refine ex rfl rfl ?_
 refine al z.Drawn rfl fun b1 => ?_
 first | refine sto sz.Drawn rfl rfl rfl rfl rfl (nb9 rfl) (cells2 := [_,_,_]) rfl ?_ | refine stE sz.Drawn rfl (VC.d _).vd rfl rfl (by omega) rfl ?_
 refine asD rfl ?_
 refine OL.nil ?_
 refine AW.sg hE rfl ?_
 refine mvD rfl ?_
 refine c_eql rfl rfl (c := true) (by first | exact decide_eq_true (by omega) | exact decide_eq_false (by omega) | exact cne_f (by omega) | exact cne_t (by omega) | rfl) ?_
 refine mvD rfl ?_
 refine OL.yes rfl ?_
 first | refine faP fd.Drawn_2 rfl rfl ?_ | refine faR fd.Drawn_2 rfl rfl ?_ | refine faE fd.Drawn_2 rfl rfl ?_
 refine OL.yes rfl ?_
 first | refine ldRC ce.int rfl ?_ | refine ldPC ce.int rfl rfl rfl ?_
 refine OL.yes rfl ?_
 refine c_eql rfl rfl (c := true) (by first | exact decide_eq_true (by omega) | exact decide_eq_false (by omega) | exact cne_f (by omega) | exact cne_t (by omega) | rfl) ?_
 refine pkT rfl rfl ?_
 refine mvD rfl ?_
 refine OL.yes rfl ?_
 first | refine faP fd.Drawn_1 rfl rfl ?_ | refine faR fd.Drawn_1 rfl rfl ?_ | refine faE fd.Drawn_1 rfl rfl ?_
 refine OL.yes rfl ?_
 first | refine ldRC ce.ints rfl ?_ | refine ldPC ce.ints rfl rfl rfl ?_
 refine OL.yes rfl ?_
 refine lt1 sl.ints (VC.d _).vd rfl (by decide) ?_
 refine OL.yes rfl ?_
 refine clv rfl (.cons (VLe.refl _) (.cons (VLe.refl _) .nil)) (law40_same (l := [1]) (m := [1]) (by decide)) ?_
 rw [decide_eq_true rfl]
 refine pkT rfl rfl ?_
 refine asD rfl ?_
 refine OL.nil ?_
 exact AW.ret (RetQ.r ⟨_, .tmp rfl .nil, .le (by first | exact VLe.refl _ | exact VLe.mt | exact vle_q0 | exact VLe.int (by omega) | exact VLe.bool (by simp_all))⟩)
set_option maxRecDepth 6000 in
set_option maxHeartbeats 3200000 in
theorem law_SampleActs {h : RM} {st w bits : List Int} {n : Int} (zz : h.Sz) (nst : st.length ≤ 1048576) (nw : w.length ≤ 1048576) (nb : bits.length ≤ 1048576) : FSpec P F.law40_SampleActs [vRM h, .d (ints st), .d (ints w), .d (ints bits), .d (dI n)] (.d (dB true)) := by
 refine FSpec.intro fn.law40_SampleActs (by rfl) (by rfl) (nb9 (by rfl)) fun E hE => ?_
 refine AW.sg hE rfl ?_
 first | refine bxA rfl rfl fun b5 => ?_ | refine bxD rfl rfl fun b5 => ?_
 refine asD rfl ?_
 refine OL.nil ?_
 refine AW.seq ?_
 refine AW.midK (α := Bool) [(1, _), (2, _), (3, _), (4, _), (5, _), (10, _)] [(5, _)] (fun x => [(51, .d (dB x))]) (fun x => []) (fun x => x = false → h.Lite) (by repeat (first | exact Knows.nil | refine Knows.cons (by first | exact knD rfl | exact knA rfl | exact knP rfl | exact knO rfl | exact knM rfl | exact knE rfl | exact knR rfl | exact knF rfl | exact knT rfl | exact knJ) ?_)) (.cons (by first | exact owB rfl | exact owR rfl | exact owL rfl | exact owT rfl) .nil) ?_ ?_
 ·refine AW.rg hE rfl ?_
  first | refine ldPA ag.Hidden rfl rfl (vs := [_,_,_,_,_,_,_,_,_,_,_]) rfl (nb9 rfl) ?_ | refine ldRA ag.Hidden rfl (vs := [_,_,_,_,_,_,_,_,_,_,_]) rfl (nb9 rfl) ?_
  refine clv rfl (.cons (VLe.refl _) (.nil)) (law40_light) ?_
  refine nt rfl ?_
  refine mvD rfl ?_
  refine OL.split 27 rfl (fun a1 => ?_) (fun a1 => ?_)
  ·have _a1 := a1
   refine OL.no rfl (by decide) ?_
   refine OL.no rfl (by decide) ?_
   refine OL.no rfl (by decide) ?_
   refine OL.no rfl (by decide) ?_
   refine OL.no rfl (by decide) ?_
   refine OL.no rfl (by decide) ?_
   refine OL.no rfl (by decide) ?_
   refine OL.no rfl (by decide) ?_
   refine pkT rfl rfl ?_
   refine mvD rfl ?_
   refine OL.no rfl (by decide) ?_
   refine OL.no rfl (by decide) ?_
   refine OL.no rfl (by decide) ?_
   refine pkT rfl rfl ?_
   refine mvD rfl ?_
   refine OL.no rfl (by decide) ?_
   refine OL.no rfl (by decide) ?_
   refine OL.no rfl (by decide) ?_
   refine OL.no rfl (by decide) ?_
   refine OL.no rfl (by decide) ?_
   refine OL.no rfl (by decide) ?_
   refine OL.no rfl (by decide) ?_
   refine OL.no rfl (by decide) ?_
   refine pkT rfl rfl ?_
   refine OL.nil ?_
   exact AW.reach true ⟨fun e => (by cases e), Knows.app (.cons (VLe.refl _) (.cons (VLe.refl _) (.cons (VLe.refl _) (.cons (VLe.refl _) (.cons (VLe.refl _) (.cons (VLe.refl _) .nil)))))) (.cons (by first | exact VLe.refl _ | exact VLe.int (by omega) | exact VLe.mt | exact vle_q0 | exact VLe.osl | exact VLe.ptr) .nil), Owns.app (.cons rfl .nil) (.nil)⟩
  ·have a1 : liteB h = true := by simpa using a1
   have lt := liteB_t a1
   refine OL.yes rfl ?_
   first | refine mvD rfl ?_ | refine mvO rfl ?_ | refine mvM rfl ?_
   refine OL.yes rfl ?_
   first | refine lnL sl.ints rfl rfl ?_ | refine lnO sl.ints rfl rfl ?_ | refine lnM sl.ints rfl rfl ?_ | refine lnD sl.ints rfl rfl rfl ?_
   refine OL.yes rfl ?_
   refine c_gtr rfl rfl rfl ?_
   refine OL.yes rfl ?_
   refine mvD rfl ?_
   refine OL.split 31 rfl (fun a2 => ?_) (fun a2 => ?_)
   ·have _a2 := a2
    refine OL.yes rfl ?_
    first | refine mvD rfl ?_ | refine mvO rfl ?_ | refine mvM rfl ?_
    refine OL.yes rfl ?_
    first | refine lnL sl.ints rfl rfl ?_ | refine lnO sl.ints rfl rfl ?_ | refine lnM sl.ints rfl rfl ?_ | refine lnD sl.ints rfl rfl rfl ?_
    refine OL.yes rfl ?_
    refine c_leq rfl rfl rfl ?_
    refine OL.yes rfl ?_
    refine pkT rfl rfl ?_
    refine pkF rfl rfl ?_
    refine mvD rfl ?_
    refine OL.split 37 rfl (fun a3 => ?_) (fun a3 => ?_)
    ·have _a3 := a3
     refine OL.no rfl (by decide) ?_
     refine OL.no rfl (by decide) ?_
     refine OL.no rfl (by decide) ?_
     refine pkT rfl rfl ?_
     refine mvD rfl ?_
     refine OL.no rfl (by decide) ?_
     refine OL.no rfl (by decide) ?_
     refine OL.no rfl (by decide) ?_
     refine OL.no rfl (by decide) ?_
     refine OL.no rfl (by decide) ?_
     refine OL.no rfl (by decide) ?_
     refine OL.no rfl (by decide) ?_
     refine OL.no rfl (by decide) ?_
     refine pkT rfl rfl ?_
     refine OL.nil ?_
     exact AW.reach true ⟨fun e => (by cases e), Knows.app (.cons (VLe.refl _) (.cons (VLe.refl _) (.cons (VLe.refl _) (.cons (VLe.refl _) (.cons (VLe.refl _) (.cons (VLe.refl _) .nil)))))) (.cons (by first | exact VLe.refl _ | exact VLe.int (by omega) | exact VLe.mt | exact vle_q0 | exact VLe.osl | exact VLe.ptr) .nil), Owns.app (.cons rfl .nil) (.nil)⟩
    ·have _a3 := a3
     refine OL.yes rfl ?_
     first | refine mvD rfl ?_ | refine mvO rfl ?_ | refine mvM rfl ?_
     refine OL.yes rfl ?_
     first | refine lnL sl.ints rfl rfl ?_ | refine lnO sl.ints rfl rfl ?_ | refine lnM sl.ints rfl rfl ?_ | refine lnD sl.ints rfl rfl rfl ?_
     refine OL.yes rfl ?_
     refine c_gtr rfl rfl rfl ?_
     refine pkF rfl rfl ?_
     refine mvD rfl ?_
     refine OL.split 42 rfl (fun a4 => ?_) (fun a4 => ?_)
     ·have _a4 := a4
      refine OL.no rfl (by decide) ?_
      refine OL.no rfl (by decide) ?_
      refine OL.no rfl (by decide) ?_
      refine OL.no rfl (by decide) ?_
      refine OL.no rfl (by decide) ?_
      refine OL.no rfl (by decide) ?_
      refine OL.no rfl (by decide) ?_
      refine OL.no rfl (by decide) ?_
      refine pkT rfl rfl ?_
      refine OL.nil ?_
      exact AW.reach true ⟨fun e => (by cases e), Knows.app (.cons (VLe.refl _) (.cons (VLe.refl _) (.cons (VLe.refl _) (.cons (VLe.refl _) (.cons (VLe.refl _) (.cons (VLe.refl _) .nil)))))) (.cons (by first | exact VLe.refl _ | exact VLe.int (by omega) | exact VLe.mt | exact vle_q0 | exact VLe.osl | exact VLe.ptr) .nil), Owns.app (.cons rfl .nil) (.nil)⟩
     ·have _a4 := a4
      refine OL.yes rfl ?_
      first | refine mvD rfl ?_ | refine mvO rfl ?_ | refine mvM rfl ?_
      refine OL.yes rfl ?_
      first | refine lnL sl.ints rfl rfl ?_ | refine lnO sl.ints rfl rfl ?_ | refine lnM sl.ints rfl rfl ?_ | refine lnD sl.ints rfl rfl rfl ?_
      refine OL.yes rfl ?_
      refine c_gtr rfl rfl rfl ?_
      refine OL.yes rfl ?_
      refine mvD rfl ?_
      refine OL.split 46 rfl (fun a5 => ?_) (fun a5 => ?_)
      ·have _a5 := a5
       refine OL.yes rfl ?_
       first | refine mvD rfl ?_ | refine mvO rfl ?_ | refine mvM rfl ?_
       refine OL.yes rfl ?_
       first | refine lnL sl.ints rfl rfl ?_ | refine lnO sl.ints rfl rfl ?_ | refine lnM sl.ints rfl rfl ?_ | refine lnD sl.ints rfl rfl rfl ?_
       refine OL.yes rfl ?_
       refine c_leq rfl rfl rfl ?_
       refine OL.yes rfl ?_
       refine pkT rfl rfl ?_
       refine pkF rfl rfl ?_
       refine OL.nil ?_
       exact AW.reach (decide ((bits.length : Int) ≤ 2000)) ⟨fun _ => lt, Knows.app (.cons (VLe.refl _) (.cons (VLe.refl _) (.cons (VLe.refl _) (.cons (VLe.refl _) (.cons (VLe.refl _) (.cons (VLe.refl _) .nil)))))) (.cons (by first | exact VLe.refl _ | exact VLe.int (by omega) | exact VLe.mt | exact vle_q0 | exact VLe.osl | exact VLe.ptr) .nil), Owns.app (.cons rfl .nil) (.nil)⟩
      ·have _a5 := a5
       refine OL.no rfl (by decide) ?_
       refine OL.no rfl (by decide) ?_
       refine OL.no rfl (by decide) ?_
       refine OL.yes rfl ?_
       refine pkF rfl rfl ?_
       refine pkF rfl rfl ?_
       refine OL.nil ?_
       exact AW.reach false ⟨fun _ => lt, Knows.app (.cons (VLe.refl _) (.cons (VLe.refl _) (.cons (VLe.refl _) (.cons (VLe.refl _) (.cons (VLe.refl _) (.cons (VLe.refl _) .nil)))))) (.cons (by first | exact VLe.refl _ | exact VLe.int (by omega) | exact VLe.mt | exact vle_q0 | exact VLe.osl | exact VLe.ptr) .nil), Owns.app (.cons rfl .nil) (.nil)⟩
   ·have _a2 := a2
    refine OL.no rfl (by decide) ?_
    refine OL.no rfl (by decide) ?_
    refine OL.no rfl (by decide) ?_
    refine OL.yes rfl ?_
    refine pkF rfl rfl ?_
    refine pkF rfl rfl ?_
    refine mvD rfl ?_
    refine OL.yes rfl ?_
    first | refine mvD rfl ?_ | refine mvO rfl ?_ | refine mvM rfl ?_
    refine OL.yes rfl ?_
    first | refine lnL sl.ints rfl rfl ?_ | refine lnO sl.ints rfl rfl ?_ | refine lnM sl.ints rfl rfl ?_ | refine lnD sl.ints rfl rfl rfl ?_
    refine OL.yes rfl ?_
    refine c_gtr rfl rfl rfl ?_
    refine pkF rfl rfl ?_
    refine mvD rfl ?_
    refine OL.split 42 rfl (fun a4 => ?_) (fun a4 => ?_)
    ·have _a4 := a4
     refine OL.no rfl (by decide) ?_
     refine OL.no rfl (by decide) ?_
     refine OL.no rfl (by decide) ?_
     refine OL.no rfl (by decide) ?_
     refine OL.no rfl (by decide) ?_
     refine OL.no rfl (by decide) ?_
     refine OL.no rfl (by decide) ?_
     refine OL.no rfl (by decide) ?_
     refine pkT rfl rfl ?_
     refine OL.nil ?_
     exact AW.reach true ⟨fun e => (by cases e), Knows.app (.cons (VLe.refl _) (.cons (VLe.refl _) (.cons (VLe.refl _) (.cons (VLe.refl _) (.cons (VLe.refl _) (.cons (VLe.refl _) .nil)))))) (.cons (by first | exact VLe.refl _ | exact VLe.int (by omega) | exact VLe.mt | exact vle_q0 | exact VLe.osl | exact VLe.ptr) .nil), Owns.app (.cons rfl .nil) (.nil)⟩
    ·have _a4 := a4
     refine OL.yes rfl ?_
     first | refine mvD rfl ?_ | refine mvO rfl ?_ | refine mvM rfl ?_
     refine OL.yes rfl ?_
     first | refine lnL sl.ints rfl rfl ?_ | refine lnO sl.ints rfl rfl ?_ | refine lnM sl.ints rfl rfl ?_ | refine lnD sl.ints rfl rfl rfl ?_
     refine OL.yes rfl ?_
     refine c_gtr rfl rfl rfl ?_
     refine OL.yes rfl ?_
     refine mvD rfl ?_
     refine OL.split 46 rfl (fun a5 => ?_) (fun a5 => ?_)
     ·have _a5 := a5
      refine OL.yes rfl ?_
      first | refine mvD rfl ?_ | refine mvO rfl ?_ | refine mvM rfl ?_
      refine OL.yes rfl ?_
      first | refine lnL sl.ints rfl rfl ?_ | refine lnO sl.ints rfl rfl ?_ | refine lnM sl.ints rfl rfl ?_ | refine lnD sl.ints rfl rfl rfl ?_
      refine OL.yes rfl ?_
      refine c_leq rfl rfl rfl ?_
      refine OL.yes rfl ?_
      refine pkT rfl rfl ?_
      refine pkF rfl rfl ?_
      refine OL.nil ?_
      exact AW.reach (decide ((bits.length : Int) ≤ 2000)) ⟨fun _ => lt, Knows.app (.cons (VLe.refl _) (.cons (VLe.refl _) (.cons (VLe.refl _) (.cons (VLe.refl _) (.cons (VLe.refl _) (.cons (VLe.refl _) .nil)))))) (.cons (by first | exact VLe.refl _ | exact VLe.int (by omega) | exact VLe.mt | exact vle_q0 | exact VLe.osl | exact VLe.ptr) .nil), Owns.app (.cons rfl .nil) (.nil)⟩
     ·have _a5 := a5
      refine OL.no rfl (by decide) ?_
      refine OL.no rfl (by decide) ?_
      refine OL.no rfl (by decide) ?_
      refine OL.yes rfl ?_
      refine pkF rfl rfl ?_
      refine pkF rfl rfl ?_
      refine OL.nil ?_
      exact AW.reach false ⟨fun _ => lt, Knows.app (.cons (VLe.refl _) (.cons (VLe.refl _) (.cons (VLe.refl _) (.cons (VLe.refl _) (.cons (VLe.refl _) (.cons (VLe.refl _) .nil)))))) (.cons (by first | exact VLe.refl _ | exact VLe.int (by omega) | exact VLe.mt | exact vle_q0 | exact VLe.osl | exact VLe.ptr) .nil), Owns.app (.cons rfl .nil) (.nil)⟩
 rintro x hx
 refine AW.cond rfl (fun c51 => ?_) (fun c51 => ?_)
 ·have _c51 := c51
  refine AW.sg hE rfl ?_
  refine clv rfl .nil law40_known ?_
  refine asD rfl ?_
  refine OL.nil ?_
  exact AW.ret (RetQ.r ⟨_, .tmp rfl .nil, .le (by first | exact VLe.refl _ | exact VLe.mt | exact vle_q0 | exact VLe.int (by omega) | exact VLe.bool (by simp_all))⟩)
 ·have lt := hx c51
  refine AW.skip ?_
  refine AW.midK (α := Int) [(1, _), (2, _), (3, _), (5, _), (10, _)] [(5, _)] (fun n2 => [(4, .d (dI n2))]) (fun n2 => []) (fun n2 => True) (by repeat (first | exact Knows.nil | refine Knows.cons (by first | exact knD rfl | exact knA rfl | exact knP rfl | exact knO rfl | exact knM rfl | exact knE rfl | exact knR rfl | exact knF rfl | exact knT rfl | exact knJ) ?_)) (.cons (by first | exact owB rfl | exact owR rfl | exact owL rfl | exact owT rfl) .nil) ?_ ?_
  ·refine AW.midK (α := Bool) [(1, _), (2, _), (3, _), (4, _), (5, _), (10, _)] [(5, _)] (fun x3 => [(58, .d (dB x3))]) (fun x3 => []) (fun x3 => True) (by repeat (first | exact Knows.nil | refine Knows.cons (by first | exact knD rfl | exact knA rfl | exact knP rfl | exact knO rfl | exact knM rfl | exact knE rfl | exact knR rfl | exact knF rfl | exact knT rfl | exact knJ) ?_)) (.cons (by first | exact owB rfl | exact owR rfl | exact owL rfl | exact owT rfl) .nil) ?_ ?_
   ·refine AW.rg hE rfl ?_
    refine mvD rfl ?_
    refine c_gtr rfl rfl rfl ?_
    refine mvD rfl ?_
    refine OL.split 55 rfl (fun a6 => ?_) (fun a6 => ?_)
    ·have _a6 := a6
     refine OL.yes rfl ?_
     refine mvD rfl ?_
     refine OL.yes rfl ?_
     refine c_leq rfl rfl rfl ?_
     refine pkT rfl rfl ?_
     refine OL.nil ?_
     exact AW.reach (decide (n ≤ 10)) ⟨trivial, Knows.app (.cons (VLe.refl _) (.cons (VLe.refl _) (.cons (VLe.refl _) (.cons (VLe.refl _) (.cons (VLe.refl _) (.cons (VLe.refl _) .nil)))))) (.cons (by first | exact VLe.refl _ | exact VLe.int (by omega) | exact VLe.mt | exact vle_q0 | exact VLe.osl | exact VLe.ptr) .nil), Owns.app (.cons rfl .nil) (.nil)⟩
    ·have _a6 := a6
     refine OL.no rfl (by decide) ?_
     refine OL.no rfl (by decide) ?_
     refine pkF rfl rfl ?_
     refine OL.nil ?_
     exact AW.reach false ⟨trivial, Knows.app (.cons (VLe.refl _) (.cons (VLe.refl _) (.cons (VLe.refl _) (.cons (VLe.refl _) (.cons (VLe.refl _) (.cons (VLe.refl _) .nil)))))) (.cons (by first | exact VLe.refl _ | exact VLe.int (by omega) | exact VLe.mt | exact vle_q0 | exact VLe.osl | exact VLe.ptr) .nil), Owns.app (.cons rfl .nil) (.nil)⟩
   rintro x3 -
   refine AW.cond rfl (fun c58 => ?_) (fun c58 => ?_)
   ·have _c58 := c58
    refine AW.rg hE rfl ?_
    refine asD rfl ?_
    refine OL.nil ?_
    exact AW.reach 4 ⟨trivial, Knows.app (.cons (VLe.refl _) (.cons (VLe.refl _) (.cons (VLe.refl _) (.cons (VLe.refl _) (.cons (VLe.refl _) .nil))))) (.cons (by first | exact VLe.refl _ | exact VLe.int (by omega) | exact VLe.mt | exact vle_q0 | exact VLe.osl | exact VLe.ptr) .nil), Owns.app (.cons rfl .nil) (.nil)⟩
   ·have _c58 := c58
    refine AW.skip ?_
    exact AW.reach n ⟨trivial, Knows.app (.cons (VLe.refl _) (.cons (VLe.refl _) (.cons (VLe.refl _) (.cons (VLe.refl _) (.cons (VLe.refl _) .nil))))) (.cons (by first | exact VLe.refl _ | exact VLe.int (by omega) | exact VLe.mt | exact vle_q0 | exact VLe.osl | exact VLe.ptr) .nil), Owns.app (.cons rfl .nil) (.nil)⟩
  rintro n2 -
  refine AW.seq ?_
  have hal := allR_len zz n2
  obtain ⟨hz1, hz2⟩ := rangeR_sz zz lt st w
  obtain ⟨hd1, hd2⟩ := drawR_len zz bits
  refine AW.rg hE rfl ?_
  first | refine ldPA ag.Hidden rfl rfl (vs := [_,_,_,_,_,_,_,_,_,_,_]) rfl (nb9 rfl) ?_ | refine ldRA ag.Hidden rfl (vs := [_,_,_,_,_,_,_,_,_,_,_]) rfl (nb9 rfl) ?_
  first | refine mvD rfl ?_ | refine mvO rfl ?_ | refine mvM rfl ?_
  first | refine mvD rfl ?_ | refine mvO rfl ?_ | refine mvM rfl ?_
  refine clv rfl (.cons (VLe.refl _) (.cons (VLe.refl _) (.cons (VLe.refl _) (.nil)))) (sample_RangeR zz lt nst nw) ?_
  first | refine mvD rfl ?_ | refine mvT rfl ?_ | refine mvP rfl ?_ | refine mvR rfl ?_ | refine mvE rfl ?_ | refine mvF rfl ?_ | refine mvA rfl ?_ | refine mvO rfl ?_ | refine mvM rfl ?_ | refine mvJ rfl ?_
  refine ex rfl rfl ?_
  refine ex rfl rfl ?_
  refine al z.Interval rfl fun b11 => ?_
  first | refine sto sz.Interval rfl rfl rfl rfl rfl (nb9 rfl) (cells2 := [_,_,_,_,_,_]) rfl ?_ | refine stE sz.Interval rfl (VC.d _).vd rfl rfl (by omega) rfl ?_
  refine asD rfl ?_
  refine OL.nil ?_
  refine AW.sg hE rfl ?_
  first | refine ldPA ag.Hidden rfl rfl (vs := [_,_,_,_,_,_,_,_,_,_,_]) rfl (nb9 rfl) ?_ | refine ldRA ag.Hidden rfl (vs := [_,_,_,_,_,_,_,_,_,_,_]) rfl (nb9 rfl) ?_
  first | refine mvD rfl ?_ | refine mvO rfl ?_ | refine mvM rfl ?_
  first | refine mvD rfl ?_ | refine mvO rfl ?_ | refine mvM rfl ?_
  refine clv rfl (.cons (VLe.refl _) (.cons (VLe.refl _) (.cons (VLe.refl _) (.nil)))) (ref40_RangeR zz lt nst nw) ?_
  first | refine mvD rfl ?_ | refine mvT rfl ?_ | refine mvP rfl ?_ | refine mvR rfl ?_ | refine mvE rfl ?_ | refine mvF rfl ?_ | refine mvA rfl ?_ | refine mvO rfl ?_ | refine mvM rfl ?_ | refine mvJ rfl ?_
  refine ex rfl rfl ?_
  refine ex rfl rfl ?_
  refine al z.Interval rfl fun b13 => ?_
  first | refine sto sz.Interval rfl rfl rfl rfl rfl (nb9 rfl) (cells2 := [_,_,_,_,_,_]) rfl ?_ | refine stE sz.Interval rfl (VC.d _).vd rfl rfl (by omega) rfl ?_
  refine asD rfl ?_
  refine OL.nil ?_
  refine AW.sg hE rfl ?_
  first | refine ldPA ag.Hidden rfl rfl (vs := [_,_,_,_,_,_,_,_,_,_,_]) rfl (nb9 rfl) ?_ | refine ldRA ag.Hidden rfl (vs := [_,_,_,_,_,_,_,_,_,_,_]) rfl (nb9 rfl) ?_
  first | refine mvD rfl ?_ | refine mvO rfl ?_ | refine mvM rfl ?_
  refine clv rfl (.cons (VLe.refl _) (.cons (VLe.refl _) (.nil))) (sample_DrawR zz lt nb) ?_
  first | refine mvD rfl ?_ | refine mvT rfl ?_ | refine mvP rfl ?_ | refine mvR rfl ?_ | refine mvE rfl ?_ | refine mvF rfl ?_ | refine mvA rfl ?_ | refine mvO rfl ?_ | refine mvM rfl ?_ | refine mvJ rfl ?_
  refine ex rfl rfl ?_
  refine ex rfl rfl ?_
  refine al z.Drawn rfl fun b15 => ?_
  first | refine sto sz.Drawn rfl rfl rfl rfl rfl (nb9 rfl) (cells2 := [_,_,_]) rfl ?_ | refine stE sz.Drawn rfl (VC.d _).vd rfl rfl (by omega) rfl ?_
  refine asD rfl ?_
  refine OL.nil ?_
  refine AW.sg hE rfl ?_
  first | refine ldPA ag.Hidden rfl rfl (vs := [_,_,_,_,_,_,_,_,_,_,_]) rfl (nb9 rfl) ?_ | refine ldRA ag.Hidden rfl (vs := [_,_,_,_,_,_,_,_,_,_,_]) rfl (nb9 rfl) ?_
  first | refine mvD rfl ?_ | refine mvO rfl ?_ | refine mvM rfl ?_
  refine clv rfl (.cons (VLe.refl _) (.cons (VLe.refl _) (.nil))) (ref40_DrawR zz lt nb) ?_
  first | refine mvD rfl ?_ | refine mvT rfl ?_ | refine mvP rfl ?_ | refine mvR rfl ?_ | refine mvE rfl ?_ | refine mvF rfl ?_ | refine mvA rfl ?_ | refine mvO rfl ?_ | refine mvM rfl ?_ | refine mvJ rfl ?_
  refine ex rfl rfl ?_
  refine ex rfl rfl ?_
  refine al z.Drawn rfl fun b17 => ?_
  first | refine sto sz.Drawn rfl rfl rfl rfl rfl (nb9 rfl) (cells2 := [_,_,_]) rfl ?_ | refine stE sz.Drawn rfl (VC.d _).vd rfl rfl (by omega) rfl ?_
  refine asD rfl ?_
  refine OL.nil ?_
  refine AW.sg hE rfl ?_
  first | refine ldPA ag.Hidden rfl rfl (vs := [_,_,_,_,_,_,_,_,_,_,_]) rfl (nb9 rfl) ?_ | refine ldRA ag.Hidden rfl (vs := [_,_,_,_,_,_,_,_,_,_,_]) rfl (nb9 rfl) ?_
  refine mvD rfl ?_
  refine clv rfl (.cons (VLe.refl _) (.cons (VLe.refl _) (.nil))) (sample_AllR zz lt) ?_
  first | refine mvD rfl ?_ | refine mvT rfl ?_ | refine mvP rfl ?_ | refine mvR rfl ?_ | refine mvE rfl ?_ | refine mvF rfl ?_ | refine mvA rfl ?_ | refine mvO rfl ?_ | refine mvM rfl ?_ | refine mvJ rfl ?_
  refine ex rfl rfl ?_
  refine ex rfl rfl ?_
  first | refine asD rfl ?_ | refine asO rfl ?_ | refine asM rfl ?_
  refine asD rfl ?_
  refine OL.nil ?_
  refine AW.sg hE rfl ?_
  first | refine ldPA ag.Hidden rfl rfl (vs := [_,_,_,_,_,_,_,_,_,_,_]) rfl (nb9 rfl) ?_ | refine ldRA ag.Hidden rfl (vs := [_,_,_,_,_,_,_,_,_,_,_]) rfl (nb9 rfl) ?_
  refine mvD rfl ?_
  refine clv rfl (.cons (VLe.refl _) (.cons (VLe.refl _) (.nil))) (ref40_AllR zz lt) ?_
  first | refine mvD rfl ?_ | refine mvT rfl ?_ | refine mvP rfl ?_ | refine mvR rfl ?_ | refine mvE rfl ?_ | refine mvF rfl ?_ | refine mvA rfl ?_ | refine mvO rfl ?_ | refine mvM rfl ?_ | refine mvJ rfl ?_
  refine ex rfl rfl ?_
  refine ex rfl rfl ?_
  first | refine asD rfl ?_ | refine asO rfl ?_ | refine asM rfl ?_
  refine asD rfl ?_
  refine OL.nil ?_
  refine AW.seq ?_
  refine AW.sg hE rfl ?_
  refine mvD rfl ?_
  refine mvD rfl ?_
  refine c_neq rfl rfl (c := false) (by first | exact decide_eq_true (by omega) | exact decide_eq_false (by omega) | exact cne_f (by omega) | exact cne_t (by omega) | rfl) ?_
  refine mvD rfl ?_
  refine OL.yes rfl ?_
  refine mvD rfl ?_
  refine OL.yes rfl ?_
  refine mvD rfl ?_
  refine OL.yes rfl ?_
  refine c_neq rfl rfl (c := false) (by first | exact decide_eq_true (by omega) | exact decide_eq_false (by omega) | exact cne_f (by omega) | exact cne_t (by omega) | rfl) ?_
  refine pkF rfl rfl ?_
  refine mvD rfl ?_
  refine OL.yes rfl ?_
  refine mvD rfl ?_
  refine OL.yes rfl ?_
  refine mvD rfl ?_
  refine OL.yes rfl ?_
  refine c_neq rfl rfl (c := false) (by first | exact decide_eq_true (by omega) | exact decide_eq_false (by omega) | exact cne_f (by omega) | exact cne_t (by omega) | rfl) ?_
  refine pkF rfl rfl ?_
  refine mvD rfl ?_
  refine OL.yes rfl ?_
  first | refine faP fd.Interval_0 rfl rfl ?_ | refine faR fd.Interval_0 rfl rfl ?_ | refine faE fd.Interval_0 rfl rfl ?_
  refine OL.yes rfl ?_
  first | refine ldPA ag.Rat rfl rfl (vs := [_,_,_]) rfl (nb9 rfl) ?_ | refine ldRA ag.Rat rfl (vs := [_,_,_]) rfl (nb9 rfl) ?_
  refine OL.yes rfl ?_
  first | refine faP fd.Interval_0 rfl rfl ?_ | refine faR fd.Interval_0 rfl rfl ?_ | refine faE fd.Interval_0 rfl rfl ?_
  refine OL.yes rfl ?_
  first | refine ldPA ag.Rat rfl rfl (vs := [_,_,_]) rfl (nb9 rfl) ?_ | refine ldRA ag.Rat rfl (vs := [_,_,_]) rfl (nb9 rfl) ?_
  refine OL.yes rfl ?_
  refine clv rfl (.cons (VLe.refl _) (.cons (VLe.refl _) (.nil))) (ref_CompareQ (x := (rangeR h st w).2.1) (y := (rangeR h st w).2.1) (by omega) (by omega)) ?_
  rw [show cmpQ ((rangeR h st w).2.1) ((rangeR h st w).2.1) = 0 from cmpQ_eq.2 rfl]
  refine OL.yes rfl ?_
  refine c_neq rfl rfl (c := false) (by first | exact decide_eq_true (by omega) | exact decide_eq_false (by omega) | exact cne_f (by omega) | exact cne_t (by omega) | rfl) ?_
  refine pkF rfl rfl ?_
  refine mvD rfl ?_
  refine OL.yes rfl ?_
  first | refine faP fd.Interval_1 rfl rfl ?_ | refine faR fd.Interval_1 rfl rfl ?_ | refine faE fd.Interval_1 rfl rfl ?_
  refine OL.yes rfl ?_
  first | refine ldPA ag.Rat rfl rfl (vs := [_,_,_]) rfl (nb9 rfl) ?_ | refine ldRA ag.Rat rfl (vs := [_,_,_]) rfl (nb9 rfl) ?_
  refine OL.yes rfl ?_
  first | refine faP fd.Interval_1 rfl rfl ?_ | refine faR fd.Interval_1 rfl rfl ?_ | refine faE fd.Interval_1 rfl rfl ?_
  refine OL.yes rfl ?_
  first | refine ldPA ag.Rat rfl rfl (vs := [_,_,_]) rfl (nb9 rfl) ?_ | refine ldRA ag.Rat rfl (vs := [_,_,_]) rfl (nb9 rfl) ?_
  refine OL.yes rfl ?_
  refine clv rfl (.cons (VLe.refl _) (.cons (VLe.refl _) (.nil))) (ref_CompareQ (x := (rangeR h st w).2.2) (y := (rangeR h st w).2.2) (by omega) (by omega)) ?_
  rw [show cmpQ ((rangeR h st w).2.2) ((rangeR h st w).2.2) = 0 from cmpQ_eq.2 rfl]
  refine OL.yes rfl ?_
  refine c_neq rfl rfl (c := false) (by first | exact decide_eq_true (by omega) | exact decide_eq_false (by omega) | exact cne_f (by omega) | exact cne_t (by omega) | rfl) ?_
  refine pkF rfl rfl ?_
  refine mvD rfl ?_
  refine OL.yes rfl ?_
  first | refine ldPA ag.Drawn rfl rfl (vs := [_,_,_]) rfl (nb9 rfl) ?_ | refine ldRA ag.Drawn rfl (vs := [_,_,_]) rfl (nb9 rfl) ?_
  refine OL.yes rfl ?_
  first | refine ldPA ag.Drawn rfl rfl (vs := [_,_,_]) rfl (nb9 rfl) ?_ | refine ldRA ag.Drawn rfl (vs := [_,_,_]) rfl (nb9 rfl) ?_
  refine OL.yes rfl ?_
  refine clv rfl (.cons (VLe.refl _) (.cons (VLe.refl _) (.nil))) (ref40_Same (s1 := drS (drawR h bits)) (w1 := drW (drawR h bits)) (s2 := drS (drawR h bits)) (w2 := drW (drawR h bits)) (u1 := drU (drawR h bits)) (u2 := drU (drawR h bits)) (by omega) (by omega)) ?_
  rw [show decide (drU (drawR h bits) = drU (drawR h bits) ∧ drS (drawR h bits) = drS (drawR h bits) ∧ drW (drawR h bits) = drW (drawR h bits)) = true from decide_eq_true ⟨rfl, rfl, rfl⟩]
  refine OL.yes rfl ?_
  refine nt rfl ?_
  refine pkF rfl rfl ?_
  refine mvD rfl ?_
  refine OL.yes rfl ?_
  first | refine mvD rfl ?_ | refine mvO rfl ?_ | refine mvM rfl ?_
  refine OL.yes rfl ?_
  first | refine lnL sl.Drawns rfl rfl ?_ | refine lnO sl.Drawns rfl rfl ?_ | refine lnM sl.Drawns rfl rfl ?_ | refine lnD sl.Drawns rfl rfl rfl ?_
  refine OL.yes rfl ?_
  first | refine mvD rfl ?_ | refine mvO rfl ?_ | refine mvM rfl ?_
  refine OL.yes rfl ?_
  first | refine lnL sl.Drawns rfl rfl ?_ | refine lnO sl.Drawns rfl rfl ?_ | refine lnM sl.Drawns rfl rfl ?_ | refine lnD sl.Drawns rfl rfl rfl ?_
  refine OL.yes rfl ?_
  refine c_neq rfl rfl (c := false) (by first | exact decide_eq_true (by omega) | exact decide_eq_false (by omega) | exact cne_f (by omega) | exact cne_t (by omega) | rfl) ?_
  refine pkF rfl rfl ?_
  refine OL.nil ?_
  refine AW.cond rfl (fun hno => absurd hno (by decide)) (fun _ => ?_)
  refine AW.skip ?_
  refine AW.seq ?_
  refine AW.sg hE rfl ?_
  refine asD rfl ?_
  refine OL.nil ?_
  refine AW.block ?_
  refine AW.whileK (α := Nat) [(19, _), (21, _)] [] (fun i => [(23, .d (dI i))]) (fun i => []) (fun i => i ≤ (allR h n2).2.length) (fun i => (allR h n2).2.length - i) 0 (by repeat (first | exact Knows.nil | refine Knows.cons (by first | exact knD rfl | exact knA rfl | exact knP rfl | exact knO rfl | exact knM rfl | exact knE rfl | exact knR rfl | exact knF rfl | exact knT rfl | exact knJ) ?_)) .nil ⟨Nat.zero_le _, .cons (by first | exact VLe.refl _ | exact VLe.int (by omega) | exact VLe.mt | exact vle_q0 | exact VLe.osl | exact VLe.ptr) .nil, .nil⟩ ?_
  intro i h1
  refine AW.seq ?_
  refine AW.sg hE rfl ?_
  refine mvD rfl ?_
  first | refine mvD rfl ?_ | refine mvO rfl ?_ | refine mvM rfl ?_
  first | refine lnL sl.Drawns rfl rfl ?_ | refine lnO sl.Drawns rfl rfl ?_ | refine lnM sl.Drawns rfl rfl ?_ | refine lnD sl.Drawns rfl rfl rfl ?_
  refine c_lss rfl rfl rfl ?_
  refine OL.nil ?_
  refine AW.cond rfl (fun h142 => ?_) (fun h142 => ?_)
  ·try simp only [dx9] at h142
   refine AW.skip ?_
   refine AW.seq ?_
   refine AW.block ?_
   refine AW.seq ?_
   obtain ⟨q1, q2⟩ := hal.2 i (by omega)
   refine AW.dg 1 [0,1,2,3,4,5,6,7,8,9] order_free hE rfl (by kernel_rfl) (OI.of_OL (os := [_,_,_,_,_,_,_,_,_,_]) rfl ?_)
   first | refine mvD rfl ?_ | refine mvO rfl ?_ | refine mvM rfl ?_
   refine mvD rfl ?_
   refine ixLn sl.Drawns dr0 rfl rfl (by omega) rfl rfl ?_
   first | refine ldPA ag.Drawn rfl rfl (vs := [_,_,_]) rfl (nb9 rfl) ?_ | refine ldRA ag.Drawn rfl (vs := [_,_,_]) rfl (nb9 rfl) ?_
   first | refine mvD rfl ?_ | refine mvO rfl ?_ | refine mvM rfl ?_
   refine mvD rfl ?_
   refine ixLn sl.Drawns dr0 rfl rfl (by omega) rfl rfl ?_
   first | refine ldPA ag.Drawn rfl rfl (vs := [_,_,_]) rfl (nb9 rfl) ?_ | refine ldRA ag.Drawn rfl (vs := [_,_,_]) rfl (nb9 rfl) ?_
   refine clv rfl (.cons (VLe.refl _) (.cons (VLe.refl _) (.nil))) (ref40_Same (s1 := ((allR h n2).2.getD i dr0).st) (w1 := ((allR h n2).2.getD i dr0).w) (s2 := ((allR h n2).2.getD i dr0).st) (w2 := ((allR h n2).2.getD i dr0).w) (u1 := ((allR h n2).2.getD i dr0).u) (u2 := ((allR h n2).2.getD i dr0).u) (by omega) (by omega)) ?_
   rw [show decide (((allR h n2).2.getD i dr0).u = ((allR h n2).2.getD i dr0).u ∧ ((allR h n2).2.getD i dr0).st = ((allR h n2).2.getD i dr0).st ∧ ((allR h n2).2.getD i dr0).w = ((allR h n2).2.getD i dr0).w) = true from decide_eq_true ⟨rfl, rfl, rfl⟩]
   refine nt rfl ?_
   refine OL.nil ?_
   refine AW.cond rfl (fun hno => absurd hno (by decide)) (fun _ => ?_)
   refine AW.skip ?_
   refine AW.rg hE rfl ?_
   refine mvD rfl ?_
   refine add_i64 rfl rfl (by omega) ?_
   refine asD rfl ?_
   refine OL.nil ?_
   exact AW.again (x := i) (i + 1) (by first | omega | (simp only []; omega)) ⟨by omega, Knows.app (.cons (VLe.refl _) (.cons (VLe.refl _) .nil)) (.cons (by first | exact VLe.refl _ | exact VLe.int (by omega) | exact VLe.mt | exact vle_q0 | exact VLe.osl | exact VLe.ptr) .nil), .nil⟩
  ·try simp only [dx9] at h142
   refine AW.exit ?_
   refine AW.sg hE rfl ?_
   refine clv rfl .nil law40_known ?_
   refine asD rfl ?_
   refine OL.nil ?_
   exact AW.ret (RetQ.r ⟨_, .tmp rfl .nil, .le (by first | exact VLe.refl _ | exact VLe.mt | exact vle_q0 | exact VLe.int (by omega) | exact VLe.bool (by simp_all))⟩)
end Go.Proofs.YtjghehkgmanmbaaGreat

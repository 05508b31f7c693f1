/-
  Walks of the specification of drawings, for any model, part 2 (printed by mk2.py).
-/
import Derived.Test.YtjghehkgmanmbaaGreatKSaC
set_option linter.unusedVariables false
set_option linter.unusedSimpArgs false
namespace Go.Proofs.YtjghehkgmanmbaaGreat
open Go Go.AL
abbrev cellsIv (a b : Rat) : List V := [.d (dB (ofQ a).neg), .d (u32s (ofQ a).num), .d (u32s (ofQ a).den), .d (dB (ofQ b).neg), .d (u32s (ofQ b).num), .d (u32s (ofQ b).den)]
theorem chI_neg {o : Option (Nat × Rd)} (h : chI o < 0) : o = none := by
 cases o with
 | none => rfl
 | some p => obtain ⟨k, r⟩ := p; exact absurd h (by show ¬ ((k : Nat) : Int) < 0; omega)
theorem chI_some {o : Option (Nat × Rd)} (h : ¬ chI o < 0) : ∃ k r, o = some (k, r) := by
 cases o with
 | none => exact absurd (by decide : (-1 : Int) < 0) h
 | some p => exact ⟨p.1, p.2, rfl⟩
theorem ref05_Alphabet {n : Nat} (hs : 1 ≤ n ∧ n ≤ 32) : FSpec P F.ref05_Alphabet [.d (dI n)] (.d (dB true)) := by
 refine FSpec.intro fn.ref05_Alphabet (by rfl) (by rfl) (nb9 (by rfl)) fun E hE => ?_
 refine AW.sg hE rfl ?_
 refine asD rfl ?_
 refine OL.nil ?_
 refine AW.sg hE rfl ?_
 refine mvD rfl ?_
 refine c_geq rfl rfl (c := true) (by first | exact decide_eq_true (by omega) | exact decide_eq_false (by omega) | exact cne_f (by omega) | exact cne_t (by omega) | rfl) ?_
 refine mvD rfl ?_
 refine OL.yes rfl ?_
 refine mvD rfl ?_
 refine OL.yes rfl ?_
 refine c_leq rfl rfl (c := true) (by first | exact decide_eq_true (by omega) | exact decide_eq_false (by omega) | exact cne_f (by omega) | exact cne_t (by omega) | rfl) ?_
 refine pkT rfl rfl ?_
 refine asD rfl ?_
 refine OL.nil ?_
 exact AW.ret (RetQ.r ⟨_, .tmp rfl .nil, .le (by first | exact VLe.refl _ | exact VLe.mt | exact vle_q0 | exact VLe.int (by omega) | exact VLe.bool (by simp_all))⟩)
theorem ref05_ValidA {h : HM} {w : List Int} (nw : w.length ≤ 1048576) (hs : 1 ≤ h.sym ∧ h.sym ≤ 32) : FSpec P F.ref05_Valid [.d (ints w), .d (dI h.sym)] (.d (dB (wokB h w))) := by
 refine FSpec.intro fn.ref05_Valid (by rfl) (by rfl) (nb9 (by rfl)) fun E hE => ?_
 refine AW.sg hE rfl ?_
 refine asD rfl ?_
 refine OL.nil ?_
 refine AW.seq ?_
 refine AW.sg hE rfl ?_
 refine mvD rfl ?_
 refine clv rfl (.cons (VLe.refl _) (.nil)) (ref05_Alphabet hs) ?_
 refine nt rfl ?_
 refine mvD rfl ?_
 refine OL.yes rfl ?_
 first | refine mvD rfl ?_ | refine mvO rfl ?_ | refine mvM rfl ?_
 refine OL.yes rfl ?_
 first | refine lnL sl.ints rfl rfl ?_ | refine lnO sl.ints rfl rfl ?_ | refine lnM sl.ints rfl rfl ?_ | refine lnD sl.ints rfl rfl rfl ?_
 refine OL.yes rfl ?_
 refine c_gtr rfl rfl rfl ?_
 refine pkF rfl rfl ?_
 refine OL.nil ?_
 refine AW.cond rfl (fun c13 => ?_) (fun c13 => ?_)
 ·have c13 := of_decide_eq_true c13
  refine AW.sg hE rfl ?_
  refine asD rfl ?_
  refine OL.nil ?_
  exact AW.ret (RetQ.r ⟨_, .tmp rfl .nil, .le (VLe.bool (wokB_f fun k => by have := k.1; omega))⟩)
 ·have c13 := of_decide_eq_false c13
  refine AW.skip ?_
  refine AW.seq ?_
  refine AW.sg hE rfl ?_
  refine asD rfl ?_
  refine OL.nil ?_
  refine AW.block ?_
  refine AW.whileK (α := Nat) [(0, _), (1, _)] [] (fun i => [(5, .d (dI i))]) (fun i => []) (fun i => i ≤ w.length ∧ ∀ j, j < i → 1 ≤ w.getD j 0 ∧ w.getD j 0 ≤ h.sym) (fun i => w.length - i) 0 (by repeat (first | exact Knows.nil | refine Knows.cons (by first | exact knD rfl | exact knA rfl | exact knP rfl | exact knO rfl | exact knM rfl | exact knE rfl | exact knR rfl | exact knF rfl | exact knT rfl | exact knJ) ?_)) .nil ⟨⟨Nat.zero_le _, fun j hj => absurd hj (Nat.not_lt_zero j)⟩, .cons (by first | exact VLe.refl _ | exact VLe.int (by omega) | exact VLe.mt | exact vle_q0 | exact VLe.osl | exact VLe.ptr) .nil, .nil⟩ ?_
  rintro i ⟨h1, h2⟩
  refine AW.seq ?_
  refine AW.sg hE rfl ?_
  refine mvD rfl ?_
  first | refine mvD rfl ?_ | refine mvO rfl ?_ | refine mvM rfl ?_
  first | refine lnL sl.ints rfl rfl ?_ | refine lnO sl.ints rfl rfl ?_ | refine lnM sl.ints rfl rfl ?_ | refine lnD sl.ints rfl rfl rfl ?_
  refine c_lss rfl rfl rfl ?_
  refine OL.nil ?_
  refine AW.cond rfl (fun h17 => ?_) (fun h17 => ?_)
  ·try simp only [dx9] at h17
   refine AW.skip ?_
   refine AW.seq ?_
   refine AW.block ?_
   refine AW.sg hE rfl ?_
   first | refine mvD rfl ?_ | refine mvO rfl ?_ | refine mvM rfl ?_
   refine mvD rfl ?_
   first | refine ixO sl.ints rfl rfl (by omega) (by omega) rfl ?_ | refine ixLn sl.ints 0 rfl rfl (by omega) rfl rfl ?_ | refine ixL sl.ints 0 rfl rfl (by omega) (by omega) rfl rfl ?_
   first | refine ldRC ce.int rfl ?_ | refine ldPC ce.int rfl rfl rfl ?_
   refine c_lss rfl rfl rfl ?_
   refine mvD rfl ?_
   refine OL.split 25 rfl (fun a1 => ?_) (fun a1 => ?_)
   ·have a1 : w.getD i 0 < 1 := of_decide_eq_true a1
    refine OL.no rfl (by decide) ?_
    refine OL.no rfl (by decide) ?_
    refine OL.no rfl (by decide) ?_
    refine OL.no rfl (by decide) ?_
    refine OL.no rfl (by decide) ?_
    refine OL.no rfl (by decide) ?_
    refine pkT rfl rfl ?_
    refine OL.nil ?_
    refine AW.cond rfl (fun _ => ?_) (fun hno => absurd hno (by decide))
    refine AW.sg hE rfl ?_
    refine asD rfl ?_
    refine OL.nil ?_
    exact AW.ret (RetQ.r ⟨_, .tmp rfl .nil, .le (VLe.bool (wokB_f fun k => by have := k.2 _ (getD_mem (show i < w.length by omega) 0); omega))⟩)
   ·have a1 : 1 ≤ w.getD i 0 := Int.not_lt.1 (of_decide_eq_false a1)
    refine OL.yes rfl ?_
    first | refine mvD rfl ?_ | refine mvO rfl ?_ | refine mvM rfl ?_
    refine OL.yes rfl ?_
    refine mvD rfl ?_
    refine OL.yes rfl ?_
    first | refine ixO sl.ints rfl rfl (by omega) (by omega) rfl ?_ | refine ixLn sl.ints 0 rfl rfl (by omega) rfl rfl ?_ | refine ixL sl.ints 0 rfl rfl (by omega) (by omega) rfl rfl ?_
    refine OL.yes rfl ?_
    first | refine ldRC ce.int rfl ?_ | refine ldPC ce.int rfl rfl rfl ?_
    refine OL.yes rfl ?_
    refine mvD rfl ?_
    refine OL.yes rfl ?_
    refine c_gtr rfl rfl rfl ?_
    refine pkF rfl rfl ?_
    refine OL.nil ?_
    refine AW.cond rfl (fun a2 => ?_) (fun a2 => ?_)
    ·have a2 : (h.sym : Int) < w.getD i 0 := of_decide_eq_true a2
     refine AW.sg hE rfl ?_
     refine asD rfl ?_
     refine OL.nil ?_
     exact AW.ret (RetQ.r ⟨_, .tmp rfl .nil, .le (VLe.bool (wokB_f fun k => by have := k.2 _ (getD_mem (show i < w.length by omega) 0); omega))⟩)
    ·have a2 : w.getD i 0 ≤ h.sym := Int.not_lt.1 (of_decide_eq_false a2)
     refine AW.skip ?_
     refine AW.rg hE rfl ?_
     refine mvD rfl ?_
     refine add_i64 rfl rfl (by omega) ?_
     refine asD rfl ?_
     refine OL.nil ?_
     exact AW.again (x := i) (i + 1) (by first | omega | (simp only []; omega)) ⟨⟨by omega, upto_step h2 ⟨a1, a2⟩⟩, Knows.app (.cons (VLe.refl _) (.cons (VLe.refl _) .nil)) (.cons (by first | exact VLe.refl _ | exact VLe.int (by omega) | exact VLe.mt | exact vle_q0 | exact VLe.osl | exact VLe.ptr) .nil), .nil⟩
  ·try simp only [dx9] at h17
   refine AW.exit ?_
   refine AW.sg hE rfl ?_
   refine asD rfl ?_
   refine OL.nil ?_
   exact AW.ret (RetQ.r ⟨_, .tmp rfl .nil, .le (VLe.bool (wokB_t ⟨by omega, fun x hx => by obtain ⟨j, hj, rfl⟩ := mem_ix 0 hx; exact h2 j (by omega)⟩))⟩)
theorem ref40_RangeR {h : RM} {st w : List Int} (zz : h.Sz) (lt : h.Lite) (nst : st.length ≤ 1048576) (nw : w.length ≤ 1048576) : FSpec P F.ref40_Range [vRM h, .d (ints st), .d (ints w)] (.tup [vIv (rangeR h st w).2.1 (rangeR h st w).2.2, .d (dI (rangeR h st w).1)]) := by
 refine FSpec.intro fn.ref40_Range (by rfl) (by rfl) (nb9 (by rfl)) fun E hE => ?_
 refine AW.sg hE rfl ?_
 first | refine bxA rfl rfl fun b3 => ?_ | refine bxD rfl rfl fun b3 => ?_
 refine al z.Interval rfl fun b6 => ?_
 refine asD rfl ?_
 refine OL.nil ?_
 refine AW.seq ?_
 refine AW.sg hE rfl ?_
 first | refine ldPA ag.Hidden rfl rfl (vs := [_,_,_,_,_,_,_,_,_,_,_]) rfl (nb9 rfl) ?_ | refine ldRA ag.Hidden rfl (vs := [_,_,_,_,_,_,_,_,_,_,_]) rfl (nb9 rfl) ?_
 refine clv rfl (.cons (VLe.refl _) (.nil)) (ref33_CheckR zz) ?_
 refine asD rfl ?_
 refine OL.nil ?_
 refine AW.sg hE rfl ?_
 refine mvD rfl ?_
 refine c_neq rfl rfl rfl ?_
 refine OL.nil ?_
 refine AW.cond rfl (fun cp => ?_) (fun cp => ?_)
 ·have cp : ¬ chkP h = 0 := by simpa using cp
  have hdr := rangeR_e (h := h) (st := st) (w := w) cp
  refine AW.sg hE rfl ?_
  refine bd z.Interval pl.Interval (cs := [_,_,_,_,_,_]) rfl ?_
  refine mvD rfl ?_
  first | refine sto sz.Interval rfl rfl rfl rfl rfl (nb9 rfl) (cells2 := [_,_,_,_,_,_]) rfl ?_ | refine stE sz.Interval rfl (VC.d _).vd rfl rfl (by omega) rfl ?_
  refine asD rfl ?_
  refine OL.nil ?_
  exact AW.ret (RetQ.r ⟨_, .cellA rfl rfl ag.Interval (nb9 rfl) (.tmp rfl .nil), _, .cons (.ag (.cons (.le (by show VLe _ (.d (dB (ofQ (rangeR h st w).2.1).neg)); rw [hdr, ofQ_zero]; exact VLe.refl _)) (.cons (.le (by show VLe _ (.d (u32s (ofQ (rangeR h st w).2.1).num)); rw [hdr, ofQ_zero]; exact VLe.mt)) (.cons (.le (by show VLe _ (.d (u32s (ofQ (rangeR h st w).2.1).den)); rw [hdr, ofQ_zero]; exact VLe.mt)) (.cons (.le (by show VLe _ (.d (dB (ofQ (rangeR h st w).2.2).neg)); rw [hdr, ofQ_zero]; exact VLe.refl _)) (.cons (.le (by show VLe _ (.d (u32s (ofQ (rangeR h st w).2.2).num)); rw [hdr, ofQ_zero]; exact VLe.mt)) (.cons (.le (by show VLe _ (.d (u32s (ofQ (rangeR h st w).2.2).den)); rw [hdr, ofQ_zero]; exact VLe.mt)) .nil))))))) (.cons (.le (VLe.int (by rw [hdr]))) .nil), rfl⟩)
 ·have cp : chkP h = 0 := by simpa using cp
  obtain ⟨g, hv⟩ := chkP_good zz cp
  have hQ := (hm h).den
  have hl := lt.ll zz cp
  have s0 := g.form.sym0
  have s1 := g.form.sym1
  refine AW.boxW 3 (cellsHM (hm h)) rfl (vles_of_eq (V.ag.inj hv)) ?_
  refine AW.skip ?_
  refine AW.seq ?_
  refine AW.sg hE rfl ?_
  first | refine mvD rfl ?_ | refine mvO rfl ?_ | refine mvM rfl ?_
  first | refine faP fd.Hidden_0 rfl rfl ?_ | refine faR fd.Hidden_0 rfl rfl ?_ | refine faE fd.Hidden_0 rfl rfl ?_
  first | refine ldRC ce.int rfl ?_ | refine ldPC ce.int rfl rfl rfl ?_
  refine clv rfl (.cons (VLe.refl _) (.cons (VLe.refl _) (.nil))) (ref05_ValidA (h := hm h) nw ⟨s0, s1⟩) ?_
  refine nt rfl ?_
  refine mvD rfl ?_
  refine OL.split 24 rfl (fun a1 => ?_) (fun a1 => ?_)
  ·have a1 : ¬ WordOK (hm h) w := wokB_ff (by simpa using a1)
   have hdr := rangeR_1 cp (st := st) (w := w) fun k => a1 k.word
   refine OL.no rfl (by decide) ?_
   refine OL.no rfl (by decide) ?_
   refine OL.no rfl (by decide) ?_
   refine OL.no rfl (by decide) ?_
   refine OL.no rfl (by decide) ?_
   refine pkT rfl rfl ?_
   refine OL.nil ?_
   refine AW.cond rfl (fun _ => ?_) (fun hno => absurd hno (by decide))
   refine AW.sg hE rfl ?_
   refine bd z.Interval pl.Interval (cs := [_,_,_,_,_,_]) rfl ?_
   first | refine sto sz.Interval rfl rfl rfl rfl rfl (nb9 rfl) (cells2 := [_,_,_,_,_,_]) rfl ?_ | refine stE sz.Interval rfl (VC.d _).vd rfl rfl (by omega) rfl ?_
   refine asD rfl ?_
   refine OL.nil ?_
   exact AW.ret (RetQ.r ⟨_, .cellA rfl rfl ag.Interval (nb9 rfl) (.tmp rfl .nil), _, .cons (.ag (.cons (.le (by show VLe _ (.d (dB (ofQ (rangeR h st w).2.1).neg)); rw [hdr, ofQ_zero]; exact VLe.refl _)) (.cons (.le (by show VLe _ (.d (u32s (ofQ (rangeR h st w).2.1).num)); rw [hdr, ofQ_zero]; exact VLe.mt)) (.cons (.le (by show VLe _ (.d (u32s (ofQ (rangeR h st w).2.1).den)); rw [hdr, ofQ_zero]; exact VLe.mt)) (.cons (.le (by show VLe _ (.d (dB (ofQ (rangeR h st w).2.2).neg)); rw [hdr, ofQ_zero]; exact VLe.refl _)) (.cons (.le (by show VLe _ (.d (u32s (ofQ (rangeR h st w).2.2).num)); rw [hdr, ofQ_zero]; exact VLe.mt)) (.cons (.le (by show VLe _ (.d (u32s (ofQ (rangeR h st w).2.2).den)); rw [hdr, ofQ_zero]; exact VLe.mt)) .nil))))))) (.cons (.le (VLe.int (by rw [hdr]))) .nil), rfl⟩)
  ·have a1 : WordOK (hm h) w := wokB_tt (by simpa using a1)
   refine OL.yes rfl ?_
   first | refine mvD rfl ?_ | refine mvO rfl ?_ | refine mvM rfl ?_
   refine OL.yes rfl ?_
   first | refine lnL sl.ints rfl rfl ?_ | refine lnO sl.ints rfl rfl ?_ | refine lnM sl.ints rfl rfl ?_ | refine lnD sl.ints rfl rfl rfl ?_
   refine OL.yes rfl ?_
   first | refine mvD rfl ?_ | refine mvO rfl ?_ | refine mvM rfl ?_
   refine OL.yes rfl ?_
   first | refine lnL sl.ints rfl rfl ?_ | refine lnO sl.ints rfl rfl ?_ | refine lnM sl.ints rfl rfl ?_ | refine lnD sl.ints rfl rfl rfl ?_
   refine OL.yes rfl ?_
   refine c_neq rfl rfl rfl ?_
   refine pkF rfl rfl ?_
   refine OL.nil ?_
   refine AW.cond rfl (fun a2 => ?_) (fun a2 => ?_)
   ·have a2 : st.length ≠ w.length := by simp at a2; omega
    have hdr := rangeR_1 cp (st := st) (w := w) fun k => a2 k.1
    refine AW.sg hE rfl ?_
    refine bd z.Interval pl.Interval (cs := [_,_,_,_,_,_]) rfl ?_
    first | refine sto sz.Interval rfl rfl rfl rfl rfl (nb9 rfl) (cells2 := [_,_,_,_,_,_]) rfl ?_ | refine stE sz.Interval rfl (VC.d _).vd rfl rfl (by omega) rfl ?_
    refine asD rfl ?_
    refine OL.nil ?_
    exact AW.ret (RetQ.r ⟨_, .cellA rfl rfl ag.Interval (nb9 rfl) (.tmp rfl .nil), _, .cons (.ag (.cons (.le (by show VLe _ (.d (dB (ofQ (rangeR h st w).2.1).neg)); rw [hdr, ofQ_zero]; exact VLe.refl _)) (.cons (.le (by show VLe _ (.d (u32s (ofQ (rangeR h st w).2.1).num)); rw [hdr, ofQ_zero]; exact VLe.mt)) (.cons (.le (by show VLe _ (.d (u32s (ofQ (rangeR h st w).2.1).den)); rw [hdr, ofQ_zero]; exact VLe.mt)) (.cons (.le (by show VLe _ (.d (dB (ofQ (rangeR h st w).2.2).neg)); rw [hdr, ofQ_zero]; exact VLe.refl _)) (.cons (.le (by show VLe _ (.d (u32s (ofQ (rangeR h st w).2.2).num)); rw [hdr, ofQ_zero]; exact VLe.mt)) (.cons (.le (by show VLe _ (.d (u32s (ofQ (rangeR h st w).2.2).den)); rw [hdr, ofQ_zero]; exact VLe.mt)) .nil))))))) (.cons (.le (VLe.int (by rw [hdr]))) .nil), rfl⟩)
   ·have a2 : st.length = w.length := by simp at a2; omega
    refine AW.skip ?_
    refine AW.seq ?_
    refine AW.sg hE rfl ?_
    refine asD rfl ?_
    refine OL.nil ?_
    refine AW.block ?_
    refine AW.whileK (α := Nat) [(1, _), (2, _), (3, _), (6, _)] [(3, _)] (fun i => [(9, .d (dI i))]) (fun i => [(6, .box b6 T.Interval [.d (dB false), .mt, .mt, .d (dB false), .mt, .mt])]) (fun i => i ≤ st.length ∧ ∀ j, j < i → 0 ≤ st.getD j 0 ∧ st.getD j 0 < (hm h).st) (fun i => st.length - i) 0 (by repeat (first | exact Knows.nil | refine Knows.cons (by first | exact knD rfl | exact knA rfl | exact knP rfl | exact knO rfl | exact knM rfl | exact knE rfl | exact knR rfl | exact knF rfl | exact knT rfl | exact knJ) ?_)) (.cons (by first | exact owB rfl | exact owR rfl | exact owL rfl | exact owT rfl) .nil) ⟨⟨Nat.zero_le _, fun j hj => absurd hj (Nat.not_lt_zero j)⟩, .cons (by first | exact VLe.refl _ | exact VLe.int (by omega) | exact VLe.mt | exact vle_q0 | exact VLe.osl | exact VLe.ptr) .nil, .cons rfl .nil⟩ ?_
    rintro i ⟨h1, h2⟩
    refine AW.seq ?_
    refine AW.sg hE rfl ?_
    refine mvD rfl ?_
    first | refine mvD rfl ?_ | refine mvO rfl ?_ | refine mvM rfl ?_
    first | refine lnL sl.ints rfl rfl ?_ | refine lnO sl.ints rfl rfl ?_ | refine lnM sl.ints rfl rfl ?_ | refine lnD sl.ints rfl rfl rfl ?_
    refine c_lss rfl rfl rfl ?_
    refine OL.nil ?_
    refine AW.cond rfl (fun h35 => ?_) (fun h35 => ?_)
    ·try simp only [dx9] at h35
     refine AW.skip ?_
     refine AW.seq ?_
     refine AW.block ?_
     refine AW.seq ?_
     refine AW.dg 1 [0,1,2,3,4,5,6,7,8,9,10,11,12,13] order_free hE rfl (by kernel_rfl) (OI.of_OL (os := [_,_,_,_,_,_,_,_,_,_,_,_,_,_]) rfl ?_)
     first | refine mvD rfl ?_ | refine mvO rfl ?_ | refine mvM rfl ?_
     refine mvD rfl ?_
     first | refine ixO sl.ints rfl rfl (by omega) (by omega) rfl ?_ | refine ixLn sl.ints 0 rfl rfl (by omega) rfl rfl ?_ | refine ixL sl.ints 0 rfl rfl (by omega) (by omega) rfl rfl ?_
     first | refine ldRC ce.int rfl ?_ | refine ldPC ce.int rfl rfl rfl ?_
     refine c_lss rfl rfl rfl ?_
     refine mvD rfl ?_
     refine OL.split 43 rfl (fun b1 => ?_) (fun b1 => ?_)
     ·have b1 : st.getD i 0 < 0 := of_decide_eq_true b1
      have hdr := rangeR_1 cp (st := st) (w := w) fun k => by
        have := k.2.2.1 _ (getD_mem (show i < st.length by omega) 0); omega
      refine OL.no rfl (by decide) ?_
      refine OL.no rfl (by decide) ?_
      refine OL.no rfl (by decide) ?_
      refine OL.no rfl (by decide) ?_
      refine OL.no rfl (by decide) ?_
      refine OL.no rfl (by decide) ?_
      refine OL.no rfl (by decide) ?_
      refine pkT rfl rfl ?_
      refine OL.nil ?_
      refine AW.cond rfl (fun _ => ?_) (fun hno => absurd hno (by decide))
      refine AW.sg hE rfl ?_
      refine bd z.Interval pl.Interval (cs := [_,_,_,_,_,_]) rfl ?_
      first | refine sto sz.Interval rfl rfl rfl rfl rfl (nb9 rfl) (cells2 := [_,_,_,_,_,_]) rfl ?_ | refine stE sz.Interval rfl (VC.d _).vd rfl rfl (by omega) rfl ?_
      refine asD rfl ?_
      refine OL.nil ?_
      exact AW.ret (RetQ.r ⟨_, .cellA rfl rfl ag.Interval (nb9 rfl) (.tmp rfl .nil), _, .cons (.ag (.cons (.le (by show VLe _ (.d (dB (ofQ (rangeR h st w).2.1).neg)); rw [hdr, ofQ_zero]; exact VLe.refl _)) (.cons (.le (by show VLe _ (.d (u32s (ofQ (rangeR h st w).2.1).num)); rw [hdr, ofQ_zero]; exact VLe.mt)) (.cons (.le (by show VLe _ (.d (u32s (ofQ (rangeR h st w).2.1).den)); rw [hdr, ofQ_zero]; exact VLe.mt)) (.cons (.le (by show VLe _ (.d (dB (ofQ (rangeR h st w).2.2).neg)); rw [hdr, ofQ_zero]; exact VLe.refl _)) (.cons (.le (by show VLe _ (.d (u32s (ofQ (rangeR h st w).2.2).num)); rw [hdr, ofQ_zero]; exact VLe.mt)) (.cons (.le (by show VLe _ (.d (u32s (ofQ (rangeR h st w).2.2).den)); rw [hdr, ofQ_zero]; exact VLe.mt)) .nil))))))) (.cons (.le (VLe.int (by rw [hdr]))) .nil), rfl⟩)
     ·have b1 : 0 ≤ st.getD i 0 := Int.not_lt.1 (of_decide_eq_false b1)
      refine OL.yes rfl ?_
      first | refine mvD rfl ?_ | refine mvO rfl ?_ | refine mvM rfl ?_
      refine OL.yes rfl ?_
      refine mvD rfl ?_
      refine OL.yes rfl ?_
      first | refine ixO sl.ints rfl rfl (by omega) (by omega) rfl ?_ | refine ixLn sl.ints 0 rfl rfl (by omega) rfl rfl ?_ | refine ixL sl.ints 0 rfl rfl (by omega) (by omega) rfl rfl ?_
      refine OL.yes rfl ?_
      first | refine ldRC ce.int rfl ?_ | refine ldPC ce.int rfl rfl rfl ?_
      refine OL.yes rfl ?_
      first | refine faP fd.Hidden_1 rfl rfl ?_ | refine faR fd.Hidden_1 rfl rfl ?_ | refine faE fd.Hidden_1 rfl rfl ?_
      refine OL.yes rfl ?_
      first | refine ldRC ce.int rfl ?_ | refine ldPC ce.int rfl rfl rfl ?_
      refine OL.yes rfl ?_
      refine c_geq rfl rfl rfl ?_
      refine pkF rfl rfl ?_
      refine OL.nil ?_
      refine AW.cond rfl (fun b2 => ?_) (fun b2 => ?_)
      ·have b2 : ((hm h).st : Int) ≤ st.getD i 0 := of_decide_eq_true b2
       have hdr := rangeR_1 cp (st := st) (w := w) fun k => by
         have := k.2.2.1 _ (getD_mem (show i < st.length by omega) 0); omega
       refine AW.sg hE rfl ?_
       refine bd z.Interval pl.Interval (cs := [_,_,_,_,_,_]) rfl ?_
       first | refine sto sz.Interval rfl rfl rfl rfl rfl (nb9 rfl) (cells2 := [_,_,_,_,_,_]) rfl ?_ | refine stE sz.Interval rfl (VC.d _).vd rfl rfl (by omega) rfl ?_
       refine asD rfl ?_
       refine OL.nil ?_
       exact AW.ret (RetQ.r ⟨_, .cellA rfl rfl ag.Interval (nb9 rfl) (.tmp rfl .nil), _, .cons (.ag (.cons (.le (by show VLe _ (.d (dB (ofQ (rangeR h st w).2.1).neg)); rw [hdr, ofQ_zero]; exact VLe.refl _)) (.cons (.le (by show VLe _ (.d (u32s (ofQ (rangeR h st w).2.1).num)); rw [hdr, ofQ_zero]; exact VLe.mt)) (.cons (.le (by show VLe _ (.d (u32s (ofQ (rangeR h st w).2.1).den)); rw [hdr, ofQ_zero]; exact VLe.mt)) (.cons (.le (by show VLe _ (.d (dB (ofQ (rangeR h st w).2.2).neg)); rw [hdr, ofQ_zero]; exact VLe.refl _)) (.cons (.le (by show VLe _ (.d (u32s (ofQ (rangeR h st w).2.2).num)); rw [hdr, ofQ_zero]; exact VLe.mt)) (.cons (.le (by show VLe _ (.d (u32s (ofQ (rangeR h st w).2.2).den)); rw [hdr, ofQ_zero]; exact VLe.mt)) .nil))))))) (.cons (.le (VLe.int (by rw [hdr]))) .nil), rfl⟩)
      ·have b2 : st.getD i 0 < (hm h).st := Int.not_le.1 (of_decide_eq_false b2)
       refine AW.skip ?_
       refine AW.rg hE rfl ?_
       refine mvD rfl ?_
       refine add_i64 rfl rfl (by omega) ?_
       refine asD rfl ?_
       refine OL.nil ?_
       exact AW.again (x := i) (i + 1) (by first | omega | (simp only []; omega)) ⟨⟨by omega, upto_step h2 ⟨b1, b2⟩⟩, Knows.app (.cons (VLe.refl _) (.cons (VLe.refl _) (.cons (VLe.refl _) (.cons (VLe.refl _) .nil)))) (.cons (by first | exact VLe.refl _ | exact VLe.int (by omega) | exact VLe.mt | exact vle_q0 | exact VLe.osl | exact VLe.ptr) .nil), Owns.app (.cons rfl .nil) (.cons rfl .nil)⟩
    ·try simp only [dx9] at h35
     refine AW.exit ?_
     refine AW.seq ?_
     have k : RunOK (hm h) st w := ⟨a2, a1.1, fun x hx => by obtain ⟨j, hj, rfl⟩ := mem_ix 0 hx; exact h2 j (by omega), a1.2⟩
     rw [rangeR_0 cp k]
     generalize hm h = h at *
     have f := g.form
     have k1 := k.1
     have k2 := k.2.1
     have n0 := f.st0
     have n1 := f.st1
     have e4 := f.emit
     refine AW.dg 1 [0,1,2,3,4,5] order_free hE rfl (by kernel_rfl) (OI.of_OL (os := [_,_,_,_,_,_]) rfl ?_)
     refine clv rfl .nil ref40_unit ?_
     first | refine ldPA ag.Hidden rfl rfl (vs := [_,_,_,_,_,_,_,_,_,_,_]) rfl (nb9 rfl) ?_ | refine ldRA ag.Hidden rfl (vs := [_,_,_,_,_,_,_,_,_,_,_]) rfl (nb9 rfl) ?_
     refine clv rfl (.cons (VLe.refl _) (.nil)) (ref40_beginnings f) ?_
     refine al z.Interval rfl fun b10 => ?_
     first | refine sto sz.Interval rfl rfl rfl rfl rfl (nb9 rfl) (cells2 := [_,_,_,_,_,_]) rfl ?_ | refine stE sz.Interval rfl (VC.d _).vd rfl rfl (by omega) rfl ?_
     first | refine asD rfl ?_ | refine asO rfl ?_ | refine asM rfl ?_
     refine OL.nil ?_
     refine AW.seq ?_
     refine AW.sg hE rfl ?_
     refine asD rfl ?_
     refine OL.nil ?_
     refine AW.block ?_
     refine AW.whileK (α := Nat) [(1, _), (2, _), (3, _), (6, _), (10, _)] [(3, _), (6, _)] (fun t => [(12, .d (dI t)), (11, .d (dQs (h.next (spF h st w t).2)))]) (fun t => [(10, .box b10 T.Interval (cellsIv (spF h st w t).1.lo ((spF h st w t).1.lo + (spF h st w t).1.len)))]) (fun t => t ≤ w.length) (fun t => w.length - t) 0 (by repeat (first | exact Knows.nil | refine Knows.cons (by first | exact knD rfl | exact knA rfl | exact knP rfl | exact knO rfl | exact knM rfl | exact knE rfl | exact knR rfl | exact knF rfl | exact knT rfl | exact knJ) ?_)) (by repeat (first | exact Owns.nil | refine Owns.cons (by first | exact owB rfl | exact owR rfl | exact owL rfl | exact owT rfl) ?_)) ⟨Nat.zero_le _, .cons (by first | exact VLe.refl _ | exact VLe.int (by omega) | exact VLe.mt | exact vle_q0 | exact VLe.osl | exact VLe.ptr) (.cons (by first | exact VLe.refl _ | exact VLe.int (by omega) | exact VLe.mt | exact vle_q0 | exact VLe.osl | exact VLe.ptr) .nil), .cons rfl .nil⟩ ?_
     intro t h1
     have h1 : t ≤ w.length := h1
     have so := spF_okW g hQ k t h1
     have nl := next_len f (spF_fr k h1)
     have ns := next_row g hQ (spF_fr k h1)
     refine AW.seq ?_
     refine AW.sg hE rfl ?_
     refine mvD rfl ?_
     first | refine mvD rfl ?_ | refine mvO rfl ?_ | refine mvM rfl ?_
     first | refine lnL sl.ints rfl rfl ?_ | refine lnO sl.ints rfl rfl ?_ | refine lnM sl.ints rfl rfl ?_ | refine lnD sl.ints rfl rfl rfl ?_
     refine c_lss rfl rfl rfl ?_
     refine OL.nil ?_
     refine AW.cond rfl (fun h59 => ?_) (fun h59 => ?_)
     ·try simp only [dx9] at h59
      refine AW.skip ?_
      refine AW.seq ?_
      refine AW.block ?_
      refine AW.seq ?_
      have hs := k.state (t := t) (by omega)
      have hx := k.word.symX (t := t) (by omega)
      obtain ⟨i, hi⟩ : ∃ i : Nat, st.getD t 0 = (i : Int) := ⟨(st.getD t 0).toNat, by omega⟩
      have hi2 : (st.getD t 0).toNat = i := by omega
      have er := f.erow i (by omega)
      have hsp : spF h st w (t + 1) = (((spF h st w t).1.part (h.next (spF h st w t).2) i).part (h.emit.getD i []) (symX w t), some i) := by rw [spF, hi2]; rfl
      have so1 := so.part (l := h.next (spF h st w t).2) hQ.ne ns i (by omega)
      refine AW.dg 1 [0,1,2,3,4,5,6,7] order_free hE rfl (by kernel_rfl) (OI.of_OL (os := [_,_,_,_,_,_,_,_]) rfl ?_)
      first | refine ldPA ag.Interval rfl rfl (vs := [_,_,_,_,_,_]) rfl (nb9 rfl) ?_ | refine ldRA ag.Interval rfl (vs := [_,_,_,_,_,_]) rfl (nb9 rfl) ?_
      first | refine mvD rfl ?_ | refine mvO rfl ?_ | refine mvM rfl ?_
      first | refine mvD rfl ?_ | refine mvO rfl ?_ | refine mvM rfl ?_
      refine mvD rfl ?_
      first | refine ixO sl.ints rfl rfl (by omega) (by omega) rfl ?_ | refine ixLn sl.ints 0 rfl rfl (by omega) rfl rfl ?_ | refine ixL sl.ints 0 rfl rfl (by omega) (by omega) rfl rfl ?_
      first | refine ldRC ce.int rfl ?_ | refine ldPC ce.int rfl rfl rfl ?_
      rw [hi]
      refine clv rfl (.cons (VLe.refl _) (.cons (VLe.refl _) (.cons (VLe.refl _) (.nil)))) (ref40_part ⟨hQ.ne, hl⟩ so (by omega) ns (by omega) (by omega)) ?_
      first | refine sto sz.Interval rfl rfl rfl rfl rfl (nb9 rfl) (cells2 := [_,_,_,_,_,_]) rfl ?_ | refine stE sz.Interval rfl (VC.d _).vd rfl rfl (by omega) rfl ?_
      refine OL.nil ?_
      refine AW.seq ?_
      refine AW.dg 1 [0,1,2,3,4,5,6,7,8,9,10,11,12,13] order_free hE rfl (by kernel_rfl) (OI.of_OL (os := [_,_,_,_,_,_,_,_,_,_,_,_,_,_]) rfl ?_)
      first | refine ldPA ag.Interval rfl rfl (vs := [_,_,_,_,_,_]) rfl (nb9 rfl) ?_ | refine ldRA ag.Interval rfl (vs := [_,_,_,_,_,_]) rfl (nb9 rfl) ?_
      first | refine ldPA ag.Hidden rfl rfl (vs := [_,_,_,_,_,_,_,_,_,_,_]) rfl (nb9 rfl) ?_ | refine ldRA ag.Hidden rfl (vs := [_,_,_,_,_,_,_,_,_,_,_]) rfl (nb9 rfl) ?_
      first | refine mvD rfl ?_ | refine mvO rfl ?_ | refine mvM rfl ?_
      refine mvD rfl ?_
      first | refine ixO sl.ints rfl rfl (by omega) (by omega) rfl ?_ | refine ixLn sl.ints 0 rfl rfl (by omega) rfl rfl ?_ | refine ixL sl.ints 0 rfl rfl (by omega) (by omega) rfl rfl ?_
      first | refine ldRC ce.int rfl ?_ | refine ldPC ce.int rfl rfl rfl ?_
      rw [hi]
      refine clv rfl (.cons (VLe.refl _) (.cons (VLe.refl _) (.nil))) (ref40_symbols f (by omega)) ?_
      first | refine mvD rfl ?_ | refine mvO rfl ?_ | refine mvM rfl ?_
      refine mvD rfl ?_
      first | refine ixO sl.ints rfl rfl (by omega) (by omega) rfl ?_ | refine ixLn sl.ints 0 rfl rfl (by omega) rfl rfl ?_ | refine ixL sl.ints 0 rfl rfl (by omega) (by omega) rfl rfl ?_
      first | refine ldRC ce.int rfl ?_ | refine ldPC ce.int rfl rfl rfl ?_
      rw [hx.2]
      refine bo rfl rfl (bin_sub (c := (symX w t : Int)) (by omega) (wrap_i64 (by omega))) ?_
      refine clv rfl (.cons (VLe.refl _) (.cons (VLe.refl _) (.cons (VLe.refl _) (.nil)))) (ref40_part ⟨hQ.ne, hl⟩ so1 (by omega) (emit_row g hQ (show i < h.st by omega)) (by omega) (by rw [er]; exact hx.1)) ?_
      first | refine sto sz.Interval rfl rfl rfl rfl rfl (nb9 rfl) (cells2 := [_,_,_,_,_,_]) rfl ?_ | refine stE sz.Interval rfl (VC.d _).vd rfl rfl (by omega) rfl ?_
      refine OL.nil ?_
      refine AW.dg 1 [0,1,2,3,4,5,6] order_free hE rfl (by kernel_rfl) (OI.of_OL (os := [_,_,_,_,_,_,_]) rfl ?_)
      first | refine ldPA ag.Hidden rfl rfl (vs := [_,_,_,_,_,_,_,_,_,_,_]) rfl (nb9 rfl) ?_ | refine ldRA ag.Hidden rfl (vs := [_,_,_,_,_,_,_,_,_,_,_]) rfl (nb9 rfl) ?_
      first | refine mvD rfl ?_ | refine mvO rfl ?_ | refine mvM rfl ?_
      refine mvD rfl ?_
      first | refine ixO sl.ints rfl rfl (by omega) (by omega) rfl ?_ | refine ixLn sl.ints 0 rfl rfl (by omega) rfl rfl ?_ | refine ixL sl.ints 0 rfl rfl (by omega) (by omega) rfl rfl ?_
      first | refine ldRC ce.int rfl ?_ | refine ldPC ce.int rfl rfl rfl ?_
      rw [hi]
      refine clv rfl (.cons (VLe.refl _) (.cons (VLe.refl _) (.nil))) (ref40_moves f (by omega)) ?_
      first | refine asD rfl ?_ | refine asO rfl ?_ | refine asM rfl ?_
      refine OL.nil ?_
      refine AW.rg hE rfl ?_
      refine mvD rfl ?_
      refine add_i64 rfl rfl (by omega) ?_
      refine asD rfl ?_
      refine OL.nil ?_
      exact AW.again (x := t) (t + 1) (by first | omega | (simp only []; omega)) ⟨by omega, Knows.app (.cons (VLe.refl _) (.cons (VLe.refl _) (.cons (VLe.refl _) (.cons (VLe.refl _) (.cons (VLe.refl _) .nil))))) (.cons (by first | exact VLe.refl _ | exact VLe.int (by omega) | exact VLe.mt | exact vle_q0 | exact VLe.osl | exact VLe.ptr) (.cons (by rw [hsp]; exact VLe.refl _) .nil)), Owns.app (.cons rfl (.cons rfl .nil)) (.cons (by rw [hsp]; rfl) .nil)⟩
     ·try simp only [dx9] at h59
      refine AW.exit ?_
      refine AW.seq ?_
      obtain rfl : t = w.length := by omega
      refine AW.rg hE rfl ?_
      first | refine ldPA ag.Interval rfl rfl (vs := [_,_,_,_,_,_]) rfl (nb9 rfl) ?_ | refine ldRA ag.Interval rfl (vs := [_,_,_,_,_,_]) rfl (nb9 rfl) ?_
      first | refine mvD rfl ?_ | refine mvO rfl ?_ | refine mvM rfl ?_
      first | refine mvD rfl ?_ | refine mvO rfl ?_ | refine mvM rfl ?_
      first | refine lnL sl.choice rfl rfl ?_ | refine lnO sl.choice rfl rfl ?_ | refine lnM sl.choice rfl rfl ?_ | refine lnD sl.choice rfl rfl rfl ?_
      refine bo rfl rfl (bin_sub (c := (h.st : Int)) (by omega) (wrap_i64 (by omega))) ?_
      refine clv rfl (.cons (VLe.refl _) (.cons (VLe.refl _) (.cons (VLe.refl _) (.nil)))) (ref40_part ⟨hQ.ne, hl⟩ so (by omega) ns (by omega) (by omega)) ?_
      rw [show (spF h st w w.length).1.part (h.next (spF h st w w.length).2) h.st = rangeS h st w from rfl]
      first | refine sto sz.Interval rfl rfl rfl rfl rfl (nb9 rfl) (cells2 := [_,_,_,_,_,_]) rfl ?_ | refine stE sz.Interval rfl (VC.d _).vd rfl rfl (by omega) rfl ?_
      refine asD rfl ?_
      refine OL.nil ?_
      exact AW.ret (RetQ.r ⟨_, .cellA rfl rfl ag.Interval (nb9 rfl) (.tmp rfl .nil), _, .cons (.ag (.cons (.le (by first | exact VLe.refl _ | exact VLe.mt | exact vle_q0 | exact VLe.int (by omega) | exact VLe.bool (by simp_all))) (.cons (.le (by first | exact VLe.refl _ | exact VLe.mt | exact vle_q0 | exact VLe.int (by omega) | exact VLe.bool (by simp_all))) (.cons (.le (by first | exact VLe.refl _ | exact VLe.mt | exact vle_q0 | exact VLe.int (by omega) | exact VLe.bool (by simp_all))) (.cons (.le (by first | exact VLe.refl _ | exact VLe.mt | exact vle_q0 | exact VLe.int (by omega) | exact VLe.bool (by simp_all))) (.cons (.le (by first | exact VLe.refl _ | exact VLe.mt | exact vle_q0 | exact VLe.int (by omega) | exact VLe.bool (by simp_all))) (.cons (.le (by first | exact VLe.refl _ | exact VLe.mt | exact vle_q0 | exact VLe.int (by omega) | exact VLe.bool (by simp_all))) .nil))))))) (.cons (.le (by first | exact VLe.refl _ | exact VLe.mt | exact vle_q0 | exact VLe.int (by omega) | exact VLe.bool (by simp_all))) .nil), rfl⟩)
end Go.Proofs.YtjghehkgmanmbaaGreat

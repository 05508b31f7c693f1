/-
  Walks of package rational, part 4: numbers (printed by mk.py).
-/
import Derived.Test.YtjghehkgmanmbaaGreatKLimbsC
import Derived.Test.YtjghehkgmanmbaaGreatKNuma
set_option linter.unusedVariables false
set_option linter.unusedSimpArgs false
namespace Go.Proofs.YtjghehkgmanmbaaGreat
open Go Go.AL
theorem rational_one  : FSpec P F.rational_one [] (.d (u32s (lim 1))) := by
 refine FSpec.intro fn.rational_one (by rfl) (by rfl) (nb9 (by rfl)) fun E hE => ?_
 refine AW.sg hE rfl ?_
 refine asM rfl ?_
 refine OL.nil ?_
 refine AW.sg hE rfl ?_
 refine lt1 (y := d32 1) sl.limbs (VC.d _).vd rfl (by decide) ?_
 first | refine asD rfl ?_ | refine asO rfl ?_ | refine asM rfl ?_
 refine OL.nil ?_
 exact AW.ret (RetQ.r ⟨_, .tmp rfl .nil, .le (vle_of_eq (by rw [lim_small (by decide) (by decide)]; rfl))⟩)
theorem rational_proper {L : List Nat} (nL : L.length ≤ 8796093022208) : FSpec P F.rational_proper [.d (u32s L)] (.d (dB (canon L))) := by
 refine FSpec.intro fn.rational_proper (by rfl) (by rfl) (nb9 (by rfl)) fun E hE => ?_
 refine AW.sg hE rfl ?_
 refine asD rfl ?_
 refine OL.nil ?_
 refine AW.sg hE rfl ?_
 first | refine mvD rfl ?_ | refine mvO rfl ?_ | refine mvM rfl ?_
 first | refine lnL sl.u32s rfl rfl ?_ | refine lnO sl.u32s rfl rfl ?_ | refine lnM sl.u32s rfl rfl ?_ | refine lnD sl.u32s rfl rfl rfl ?_
 refine c_eql rfl rfl rfl ?_
 refine OL.split 5 rfl (fun h => ?_) (fun h => ?_)
 ·have h := of_decide_eq_true h
  refine mvD rfl ?_
  refine OL.no rfl (by decide) ?_
  refine OL.no rfl (by decide) ?_
  refine OL.no rfl (by decide) ?_
  refine OL.no rfl (by decide) ?_
  refine OL.no rfl (by decide) ?_
  refine OL.no rfl (by decide) ?_
  refine OL.no rfl (by decide) ?_
  refine pkT rfl rfl ?_
  refine asD rfl ?_
  refine OL.nil ?_
  exact AW.ret (RetQ.r ⟨_, .tmp rfl .nil, .le (VLe.bool (by rw [List.eq_nil_of_length_eq_zero (l := L) (by omega)]; rfl))⟩)
 ·have h := of_decide_eq_false h
  refine mvD rfl ?_
  refine OL.yes rfl ?_
  first | refine mvD rfl ?_ | refine mvO rfl ?_ | refine mvM rfl ?_
  refine OL.yes rfl ?_
  first | refine mvD rfl ?_ | refine mvO rfl ?_ | refine mvM rfl ?_
  refine OL.yes rfl ?_
  first | refine lnL sl.u32s rfl rfl ?_ | refine lnO sl.u32s rfl rfl ?_ | refine lnM sl.u32s rfl rfl ?_ | refine lnD sl.u32s rfl rfl rfl ?_
  refine OL.yes rfl ?_
  refine sub_i64 rfl rfl (by omega) ?_
  refine OL.yes rfl ?_
  refine ixL sl.u32s 0 rfl rfl (by omega) (by omega) rfl rfl ?_
  refine OL.yes rfl ?_
  first | refine ldRC ce.u32 rfl ?_ | refine ldPC ce.u32 rfl rfl rfl ?_
  refine OL.yes rfl ?_
  refine c_neq rfl rfl rfl ?_
  refine pkF rfl rfl ?_
  refine asD rfl ?_
  refine OL.nil ?_
  exact AW.ret (RetQ.r ⟨_, .tmp rfl .nil, .le (VLe.bool (canon_last (by omega)))⟩)
theorem clone_limbs {L : List Nat} (nL : L.length ≤ 8796093022208) : FSpec P F.slices_Clone_rational_limbs_uint32 [.d (u32s L)] (.d (u32s L)) := by
 refine FSpec.intro fn.slices_Clone_rational_limbs_uint32 (by rfl) (by rfl) (nb9 (by rfl)) fun E hE => ?_
 refine AW.sg hE rfl ?_
 refine asM rfl ?_
 refine OL.nil ?_
 refine AW.seq ?_
 refine AW.sg hE rfl ?_
 first | refine mvD rfl ?_ | refine mvO rfl ?_ | refine mvM rfl ?_
 refine isNil sl.limbs.u rfl (fun y hy => by obtain ⟨a, _, rfl⟩ := List.mem_map.1 hy; exact Nat.one_pos) rfl fun b hb => ?_
 refine OL.nil ?_
 refine AW.cond rfl (fun h => ?_) (fun h => ?_)
 ·have hL : L = [] := by have := hb h; simpa using this
  refine AW.sg hE rfl ?_
  refine asM rfl ?_
  refine OL.nil ?_
  exact AW.ret (RetQ.r ⟨_, .tmp rfl .nil, .le (hL ▸ VLe.mt)⟩)
 ·have _h := h
  refine AW.skip ?_
  refine AW.sg hE rfl ?_
  refine lt0 sl.limbs ?_
  first | refine mvD rfl ?_ | refine mvO rfl ?_ | refine mvM rfl ?_
  refine apMD sl.limbs rfl rfl (VC.d _) (fun y hy => by obtain ⟨a, _, rfl⟩ := List.mem_map.1 hy; rfl) (by simp; omega) (by simp; omega) ?_
  first | refine asD rfl ?_ | refine asO rfl ?_ | refine asM rfl ?_
  refine OL.nil ?_
  exact AW.ret (RetQ.r ⟨_, .tmp rfl .nil, .le (VLe.refl _)⟩)
theorem rational_Valid {r : Raw} (hr : r.Ok) : FSpec P F.rational_Valid [vRaw r] (.d (dB r.good)) := by
 have n1 := hr.ln
 have n2 := hr.ld
 refine FSpec.intro fn.rational_Valid (by rfl) (by rfl) (nb9 (by rfl)) fun E hE => ?_
 refine AW.sg hE rfl ?_
 first | refine bxA rfl rfl fun b1 => ?_ | refine bxD rfl rfl fun b1 => ?_
 refine asD rfl ?_
 refine OL.nil ?_
 refine AW.seq ?_
 refine AW.block ?_
 refine AW.sg hE rfl ?_
 first | refine faP fd.Rat_1 rfl rfl ?_ | refine faR fd.Rat_1 rfl rfl ?_ | refine faE fd.Rat_1 rfl rfl ?_
 first | refine ldRC ce.u32s rfl ?_ | refine ldPC ce.u32s rfl rfl rfl ?_
 refine cl (rational_proper (by omega)) rfl (VLes.refl _) ?_
 refine nt rfl ?_
 refine OL.split 7 rfl (fun h1 => ?_) (fun h1 => ?_)
 ·have h1 : canon r.num = false := by simpa using h1
  refine mvD rfl ?_
  refine OL.no rfl (by decide) ?_
  refine OL.no rfl (by decide) ?_
  refine OL.no rfl (by decide) ?_
  refine OL.no rfl (by decide) ?_
  refine pkT rfl rfl ?_
  refine asD rfl ?_
  refine OL.nil ?_
  refine AW.cond rfl (fun _ => ?_) (fun hno => absurd hno (by decide))
  refine AW.sg hE rfl ?_
  refine asD rfl ?_
  refine OL.nil ?_
  exact AW.ret (RetQ.r ⟨_, .tmp rfl .nil, .le (VLe.bool (by simp [Raw.good, h1]))⟩)
 ·have h1 : canon r.num = true := by simpa using h1
  refine mvD rfl ?_
  refine OL.yes rfl ?_
  first | refine faP fd.Rat_2 rfl rfl ?_ | refine faR fd.Rat_2 rfl rfl ?_ | refine faE fd.Rat_2 rfl rfl ?_
  refine OL.yes rfl ?_
  first | refine ldRC ce.u32s rfl ?_ | refine ldPC ce.u32s rfl rfl rfl ?_
  refine OL.yes rfl ?_
  refine cl (rational_proper (by omega)) rfl (VLes.refl _) ?_
  refine OL.yes rfl ?_
  refine nt rfl ?_
  refine pkF rfl rfl ?_
  refine asD rfl ?_
  refine OL.nil ?_
  refine AW.cond rfl (fun h2 => ?_) (fun h2 => ?_)
  ·have h2 : canon r.den = false := by simpa using h2
   refine AW.sg hE rfl ?_
   refine asD rfl ?_
   refine OL.nil ?_
   exact AW.ret (RetQ.r ⟨_, .tmp rfl .nil, .le (VLe.bool (by simp [Raw.good, h2]))⟩)
  ·have h2 : canon r.den = true := by simpa using h2
   have hL := canon_eq hr.num h1
   have hD := canon_eq hr.den h2
   refine AW.sg hE rfl ?_
   first | refine faP fd.Rat_1 rfl rfl ?_ | refine faR fd.Rat_1 rfl rfl ?_ | refine faE fd.Rat_1 rfl rfl ?_
   first | refine ldRC ce.u32s rfl ?_ | refine ldPC ce.u32s rfl rfl rfl ?_
   first | refine lnL sl.u32s rfl rfl ?_ | refine lnO sl.u32s rfl rfl ?_ | refine lnM sl.u32s rfl rfl ?_ | refine lnD sl.u32s rfl rfl rfl ?_
   refine c_eql rfl rfl rfl ?_
   refine asD rfl ?_
   refine OL.nil ?_
   refine AW.cond rfl (fun h3 => ?_) (fun h3 => ?_)
   ·have h3 : r.num = [] := List.eq_nil_of_length_eq_zero (by have := of_decide_eq_true h3; omega)
    refine AW.sg hE rfl ?_
    first | refine faP fd.Rat_0 rfl rfl ?_ | refine faR fd.Rat_0 rfl rfl ?_ | refine faE fd.Rat_0 rfl rfl ?_
    first | refine ldRC ce.bool rfl ?_ | refine ldPC ce.bool rfl rfl rfl ?_
    refine nt rfl ?_
    refine OL.split 21 rfl (fun h4 => ?_) (fun h4 => ?_)
    ·have h4 : r.neg = false := by simpa using h4
     refine mvD rfl ?_
     refine OL.yes rfl ?_
     first | refine faP fd.Rat_2 rfl rfl ?_ | refine faR fd.Rat_2 rfl rfl ?_ | refine faE fd.Rat_2 rfl rfl ?_
     refine OL.yes rfl ?_
     first | refine ldRC ce.u32s rfl ?_ | refine ldPC ce.u32s rfl rfl rfl ?_
     refine OL.yes rfl ?_
     first | refine lnL sl.u32s rfl rfl ?_ | refine lnO sl.u32s rfl rfl ?_ | refine lnM sl.u32s rfl rfl ?_ | refine lnD sl.u32s rfl rfl rfl ?_
     refine OL.yes rfl ?_
     refine c_eql rfl rfl rfl ?_
     refine pkT rfl rfl ?_
     refine asD rfl ?_
     refine OL.nil ?_
     exact AW.ret (RetQ.r ⟨_, .tmp rfl .nil, .le (VLe.bool (by rw [show r.good = decide (r.den = []) by simp [Raw.good, canon_nil, h2, h3, h4]]; exact decide_eq_decide.2 (by rw [← List.length_eq_zero_iff]; omega)))⟩)
    ·have h4 : r.neg = true := by simpa using h4
     refine mvD rfl ?_
     refine OL.no rfl (by decide) ?_
     refine OL.no rfl (by decide) ?_
     refine OL.no rfl (by decide) ?_
     refine OL.no rfl (by decide) ?_
     refine pkF rfl rfl ?_
     refine asD rfl ?_
     refine OL.nil ?_
     exact AW.ret (RetQ.r ⟨_, .tmp rfl .nil, .le (VLe.bool (by simp [Raw.good, h3, h4]))⟩)
   ·have h3 : r.num ≠ [] := fun e => by have := of_decide_eq_false h3; rw [e] at this; exact this rfl
    refine AW.sg hE rfl ?_
    first | refine faP fd.Rat_2 rfl rfl ?_ | refine faR fd.Rat_2 rfl rfl ?_ | refine faE fd.Rat_2 rfl rfl ?_
    first | refine ldRC ce.u32s rfl ?_ | refine ldPC ce.u32s rfl rfl rfl ?_
    first | refine lnL sl.u32s rfl rfl ?_ | refine lnO sl.u32s rfl rfl ?_ | refine lnM sl.u32s rfl rfl ?_ | refine lnD sl.u32s rfl rfl rfl ?_
    refine c_eql rfl rfl rfl ?_
    refine asD rfl ?_
    refine OL.nil ?_
    refine AW.cond rfl (fun h5 => ?_) (fun h5 => ?_)
    ·have h5 : r.den = [] := List.eq_nil_of_length_eq_zero (by have := of_decide_eq_true h5; omega)
     refine AW.sg hE rfl ?_
     refine asD rfl ?_
     refine OL.nil ?_
     exact AW.ret (RetQ.r ⟨_, .tmp rfl .nil, .le (VLe.bool (by simp [Raw.good, canon_nil, h1, h3, h5]))⟩)
    ·have h5 : r.den ≠ [] := fun e => by have := of_decide_eq_false h5; rw [e] at this; exact this rfl
     have hn0 : val r.num ≠ 0 := fun e => h3 (by rw [← hL, e, lim_zero])
     have hgl := len_le (Nat.gcd_le_left (val r.den) (Nat.pos_of_ne_zero hn0))
     rw [hL] at hgl
     refine AW.skip ?_
     refine AW.seq ?_
     refine AW.dg 1 [0,1,2,3,4,5,6,7,8,9,10,11,12,13,14,15] order_free hE rfl (by kernel_rfl) (OI.of_OL (os := [_,_,_,_,_,_,_,_,_,_,_,_,_,_,_,_]) rfl ?_)
     first | refine faP fd.Rat_2 rfl rfl ?_ | refine faR fd.Rat_2 rfl rfl ?_ | refine faE fd.Rat_2 rfl rfl ?_
     first | refine ldRC ce.u32s rfl ?_ | refine ldPC ce.u32s rfl rfl rfl ?_
     refine cl rational_one rfl (VLes.refl _) ?_
     refine cl (limbs_cmp hr.den (lim_Lim 1) (by omega) (by have := len_small (g := 1) (by decide); omega)) rfl (VLes.refl _) ?_
     rw [val_lim]
     refine c_neq rfl rfl rfl ?_
     refine OL.split 37 rfl (fun h6 => ?_) (fun h6 => ?_)
     ·have h6 : val r.den ≠ 1 := fun e => nd_t h6 (cmpN_zero.2 e)
      refine mvD rfl ?_
      refine OL.yes rfl ?_
      first | refine faP fd.Rat_1 rfl rfl ?_ | refine faR fd.Rat_1 rfl rfl ?_ | refine faE fd.Rat_1 rfl rfl ?_
      refine OL.yes rfl ?_
      first | refine ldRC ce.u32s rfl ?_ | refine ldPC ce.u32s rfl rfl rfl ?_
      refine OL.yes rfl ?_
      first | refine faP fd.Rat_2 rfl rfl ?_ | refine faR fd.Rat_2 rfl rfl ?_ | refine faE fd.Rat_2 rfl rfl ?_
      refine OL.yes rfl ?_
      first | refine ldRC ce.u32s rfl ?_ | refine ldPC ce.u32s rfl rfl rfl ?_
      refine OL.yes rfl ?_
      refine cl (limbs_gcd (a := val r.num) (b := val r.den) (by rw [hL]; omega) (by rw [hD]; omega)) rfl (by rw [hL, hD]; exact VLes.refl _) ?_
      refine OL.yes rfl ?_
      refine cl rational_one rfl (VLes.refl _) ?_
      refine OL.yes rfl ?_
      refine cl (limbs_cmp (lim_Lim _) (lim_Lim 1) (by omega) (by have := len_small (g := 1) (by decide); omega)) rfl (VLes.refl _) ?_
      rw [val_lim, val_lim]
      refine OL.yes rfl ?_
      refine c_eql rfl rfl rfl ?_
      refine pkT rfl rfl ?_
      refine asD rfl ?_
      refine OL.nil ?_
      exact AW.ret (RetQ.r ⟨_, .tmp rfl .nil, .le (VLe.bool (by simp [Raw.good, h1, h2, h3, h5, h6, cmpN_zero]))⟩)
     ·have h6 : val r.den = 1 := cmpN_zero.1 (nd_f h6)
      refine mvD rfl ?_
      refine OL.no rfl (by decide) ?_
      refine OL.no rfl (by decide) ?_
      refine OL.no rfl (by decide) ?_
      refine OL.no rfl (by decide) ?_
      refine OL.no rfl (by decide) ?_
      refine OL.no rfl (by decide) ?_
      refine OL.no rfl (by decide) ?_
      refine OL.no rfl (by decide) ?_
      refine pkF rfl rfl ?_
      refine asD rfl ?_
      refine OL.nil ?_
      exact AW.ret (RetQ.r ⟨_, .tmp rfl .nil, .le (VLe.bool (by simp [Raw.good, h3, h5, h6]))⟩)
theorem rational_of {r : Raw} (hr : r.Ok) : FSpec P F.rational_of [vRaw r] (qFr r.q) := by
 have n1 := hr.ln
 have n2 := hr.ld
 refine FSpec.intro fn.rational_of (by rfl) (by rfl) (nb9 (by rfl)) fun E hE => ?_
 refine AW.sg hE rfl ?_
 first | refine bxA rfl rfl fun b1 => ?_ | refine bxD rfl rfl fun b1 => ?_
 refine al z.fraction rfl fun b2 => ?_
 refine OL.nil ?_
 refine AW.seq ?_
 refine AW.block ?_
 refine AW.sg hE rfl ?_
 first | refine ldPA ag.Rat rfl rfl (vs := [_,_,_]) rfl (nb9 rfl) ?_ | refine ldRA ag.Rat rfl (vs := [_,_,_]) rfl (nb9 rfl) ?_
 refine cl (rational_Valid hr) rfl (VLes.refl _) ?_
 refine nt rfl ?_
 refine asD rfl ?_
 refine OL.nil ?_
 refine AW.cond rfl (fun h1 => ?_) (fun h1 => ?_)
 ·have h1 : r.good = false := by simpa using h1
  have hq := q_bad h1
  refine AW.sg hE rfl ?_
  refine cl rational_one rfl (VLes.refl _) ?_
  refine bd z.fraction pl.fraction (cs := [_,_,_]) rfl ?_
  first | refine sto sz.fraction rfl rfl rfl rfl rfl (nb9 rfl) (cells2 := [_,_,_]) rfl ?_ | refine stE sz.fraction rfl (VC.d _).vd rfl rfl (by omega) rfl ?_
  refine OL.nil ?_
  exact AW.ret (RetQ.r ⟨_, .cellA rfl rfl ag.fraction (nb9 rfl) .nil, .ag (.cons (.le (vle_of_eq (by rw [hq]; rfl))) (.cons (.le (by rw [hq, show (0 : Rat).num.natAbs = 0 from rfl, lim_zero]; exact VLe.mt)) (.cons (.le (vle_of_eq (by rw [hq]; rfl))) (.nil))))⟩)
 ·have h1 : r.good = true := by simpa using h1
  obtain ⟨f1, f2, f3, f4⟩ := good_fields hr h1
  refine AW.sg hE rfl ?_
  first | refine faP fd.Rat_2 rfl rfl ?_ | refine faR fd.Rat_2 rfl rfl ?_ | refine faE fd.Rat_2 rfl rfl ?_
  first | refine ldRC ce.u32s rfl ?_ | refine ldPC ce.u32s rfl rfl rfl ?_
  first | refine lnL sl.u32s rfl rfl ?_ | refine lnO sl.u32s rfl rfl ?_ | refine lnM sl.u32s rfl rfl ?_ | refine lnD sl.u32s rfl rfl rfl ?_
  refine c_eql rfl rfl rfl ?_
  refine asD rfl ?_
  refine OL.nil ?_
  refine AW.cond rfl (fun h2 => ?_) (fun h2 => ?_)
  ·have h2 : r.den = [] := List.eq_nil_of_length_eq_zero (by have := of_decide_eq_true h2; omega)
   refine AW.seq ?_
   refine AW.dg 1 [0,1,2,3,4,5,6] order_free hE rfl (by kernel_rfl) (OI.of_OL (os := [_,_,_,_,_,_,_]) rfl ?_)
   first | refine faP fd.Rat_0 rfl rfl ?_ | refine faR fd.Rat_0 rfl rfl ?_ | refine faE fd.Rat_0 rfl rfl ?_
   first | refine ldRC ce.bool rfl ?_ | refine ldPC ce.bool rfl rfl rfl ?_
   first | refine faP fd.Rat_1 rfl rfl ?_ | refine faR fd.Rat_1 rfl rfl ?_ | refine faE fd.Rat_1 rfl rfl ?_
   first | refine ldRC ce.u32s rfl ?_ | refine ldPC ce.u32s rfl rfl rfl ?_
   refine cl rational_one rfl (VLes.refl _) ?_
   refine bd z.fraction pl.fraction (cs := [_,_,_]) rfl ?_
   first | refine sto sz.fraction rfl rfl rfl rfl rfl (nb9 rfl) (cells2 := [_,_,_]) rfl ?_ | refine stE sz.fraction rfl (VC.d _).vd rfl rfl (by omega) rfl ?_
   refine OL.nil ?_
   exact AW.ret (RetQ.r ⟨_, .cellA rfl rfl ag.fraction (nb9 rfl) .nil, .ag (.cons (.le (vle_of_eq (congrArg (fun b => V.d (dB b)) f1))) (.cons (.le (vle_of_eq (congrArg (fun L => V.d (u32s L)) f2))) (.cons (.le (vle_of_eq (congrArg (fun d => V.d (u32s (lim d))) (f3 h2).symm))) (.nil))))⟩)
  ·have h2 : r.den ≠ [] := fun e => by have := of_decide_eq_false h2; rw [e] at this; exact this rfl
   refine AW.skip ?_
   refine AW.sg hE rfl ?_
   first | refine faP fd.Rat_0 rfl rfl ?_ | refine faR fd.Rat_0 rfl rfl ?_ | refine faE fd.Rat_0 rfl rfl ?_
   first | refine ldRC ce.bool rfl ?_ | refine ldPC ce.bool rfl rfl rfl ?_
   first | refine faP fd.Rat_1 rfl rfl ?_ | refine faR fd.Rat_1 rfl rfl ?_ | refine faE fd.Rat_1 rfl rfl ?_
   first | refine ldRC ce.u32s rfl ?_ | refine ldPC ce.u32s rfl rfl rfl ?_
   first | refine faP fd.Rat_2 rfl rfl ?_ | refine faR fd.Rat_2 rfl rfl ?_ | refine faE fd.Rat_2 rfl rfl ?_
   first | refine ldRC ce.u32s rfl ?_ | refine ldPC ce.u32s rfl rfl rfl ?_
   refine bd z.fraction pl.fraction (cs := [_,_,_]) rfl ?_
   first | refine sto sz.fraction rfl rfl rfl rfl rfl (nb9 rfl) (cells2 := [_,_,_]) rfl ?_ | refine stE sz.fraction rfl (VC.d _).vd rfl rfl (by omega) rfl ?_
   refine OL.nil ?_
   exact AW.ret (RetQ.r ⟨_, .cellA rfl rfl ag.fraction (nb9 rfl) .nil, .ag (.cons (.le (vle_of_eq (congrArg (fun b => V.d (dB b)) f1))) (.cons (.le (vle_of_eq (congrArg (fun L => V.d (u32s L)) f2))) (.cons (.le (vle_of_eq (congrArg (fun L => V.d (u32s L)) (f4 h2)))) (.nil))))⟩)
theorem fraction_negative {s : Bool} {n d : Nat} : FSpec P F.rational_fraction_negative [vFr s n d] (vFr (!s) n d) := by
 refine FSpec.intro fn.rational_fraction_negative (by rfl) (by rfl) (nb9 (by rfl)) fun E hE => ?_
 refine AW.sg hE rfl ?_
 first | refine bxA rfl rfl fun b1 => ?_ | refine bxD rfl rfl fun b1 => ?_
 refine al z.fraction rfl fun b2 => ?_
 refine OL.nil ?_
 refine AW.sg hE rfl ?_
 first | refine faP fd.fraction_0 rfl rfl ?_ | refine faR fd.fraction_0 rfl rfl ?_ | refine faE fd.fraction_0 rfl rfl ?_
 first | refine ldRC ce.bool rfl ?_ | refine ldPC ce.bool rfl rfl rfl ?_
 refine nt rfl ?_
 first | refine faP fd.fraction_1 rfl rfl ?_ | refine faR fd.fraction_1 rfl rfl ?_ | refine faE fd.fraction_1 rfl rfl ?_
 first | refine ldRC ce.limbs rfl ?_ | refine ldPC ce.limbs rfl rfl rfl ?_
 first | refine faP fd.fraction_2 rfl rfl ?_ | refine faR fd.fraction_2 rfl rfl ?_ | refine faE fd.fraction_2 rfl rfl ?_
 first | refine ldRC ce.limbs rfl ?_ | refine ldPC ce.limbs rfl rfl rfl ?_
 refine bd z.fraction pl.fraction (cs := [_,_,_]) rfl ?_
 first | refine sto sz.fraction rfl rfl rfl rfl rfl (nb9 rfl) (cells2 := [_,_,_]) rfl ?_ | refine stE sz.fraction rfl (VC.d _).vd rfl rfl (by omega) rfl ?_
 refine OL.nil ?_
 exact AW.ret (RetQ.r ⟨_, .cellA rfl rfl ag.fraction (nb9 rfl) .nil, .ag (.cons (.le (VLe.refl _)) (.cons (.le (VLe.refl _)) (.cons (.le (VLe.refl _)) (.nil))))⟩)
theorem fraction_plus {s t : Bool} {a b d1 d2 : Nat} (na : (lim a).length ≤ 1099511627776) (nb : (lim b).length ≤ 1099511627776) (n1 : (lim d1).length ≤ 1099511627776) (n2 : (lim d2).length ≤ 1099511627776) : FSpec P F.rational_fraction_plus [vFr s a d1, vFr t b d2] (vFr (if s = t then s else if b * d1 ≤ a * d2 then s else t) (if s = t then a * d2 + b * d1 else if b * d1 ≤ a * d2 then a * d2 - b * d1 else b * d1 - a * d2) (d1 * d2)) := by
 have e1 := len_mul a d2
 have e2 := len_mul b d1
 have e3 := len_mul d1 d2
 refine FSpec.intro fn.rational_fraction_plus (by rfl) (by rfl) (nb9 (by rfl)) fun E hE => ?_
 refine AW.sg hE rfl ?_
 first | refine bxA rfl rfl fun b2 => ?_ | refine bxD rfl rfl fun b2 => ?_
 first | refine bxA rfl rfl fun b3 => ?_ | refine bxD rfl rfl fun b3 => ?_
 refine al z.fraction rfl fun b4 => ?_
 refine OL.nil ?_
 refine AW.seq ?_
 refine AW.dg 1 [0,1,2,3,4,5,6,7,8,9,10,11,12,13,14,15,16,17] order_free hE rfl (by kernel_rfl) (OI.of_OL (os := [_,_,_,_,_,_,_,_,_,_,_,_,_,_,_,_,_,_]) rfl ?_)
 first | refine faP fd.fraction_1 rfl rfl ?_ | refine faR fd.fraction_1 rfl rfl ?_ | refine faE fd.fraction_1 rfl rfl ?_
 first | refine ldRC ce.limbs rfl ?_ | refine ldPC ce.limbs rfl rfl rfl ?_
 first | refine faP fd.fraction_2 rfl rfl ?_ | refine faR fd.fraction_2 rfl rfl ?_ | refine faE fd.fraction_2 rfl rfl ?_
 first | refine ldRC ce.limbs rfl ?_ | refine ldPC ce.limbs rfl rfl rfl ?_
 refine cl (limbs_times (lim_Lim a) (lim_Lim d2) (by omega) (by omega)) rfl (VLes.refl _) ?_
 rw [val_lim, val_lim]
 first | refine faP fd.fraction_1 rfl rfl ?_ | refine faR fd.fraction_1 rfl rfl ?_ | refine faE fd.fraction_1 rfl rfl ?_
 first | refine ldRC ce.limbs rfl ?_ | refine ldPC ce.limbs rfl rfl rfl ?_
 first | refine faP fd.fraction_2 rfl rfl ?_ | refine faR fd.fraction_2 rfl rfl ?_ | refine faE fd.fraction_2 rfl rfl ?_
 first | refine ldRC ce.limbs rfl ?_ | refine ldPC ce.limbs rfl rfl rfl ?_
 refine cl (limbs_times (lim_Lim b) (lim_Lim d1) (by omega) (by omega)) rfl (VLes.refl _) ?_
 rw [val_lim, val_lim]
 first | refine faP fd.fraction_2 rfl rfl ?_ | refine faR fd.fraction_2 rfl rfl ?_ | refine faE fd.fraction_2 rfl rfl ?_
 first | refine ldRC ce.limbs rfl ?_ | refine ldPC ce.limbs rfl rfl rfl ?_
 first | refine faP fd.fraction_2 rfl rfl ?_ | refine faR fd.fraction_2 rfl rfl ?_ | refine faE fd.fraction_2 rfl rfl ?_
 first | refine ldRC ce.limbs rfl ?_ | refine ldPC ce.limbs rfl rfl rfl ?_
 refine cl (limbs_times (lim_Lim d1) (lim_Lim d2) (by omega) (by omega)) rfl (VLes.refl _) ?_
 rw [val_lim, val_lim]
 first | refine asD rfl ?_ | refine asO rfl ?_ | refine asM rfl ?_
 first | refine asD rfl ?_ | refine asO rfl ?_ | refine asM rfl ?_
 first | refine asD rfl ?_ | refine asO rfl ?_ | refine asM rfl ?_
 refine OL.nil ?_
 refine AW.seq ?_
 refine AW.sg hE rfl ?_
 first | refine faP fd.fraction_0 rfl rfl ?_ | refine faR fd.fraction_0 rfl rfl ?_ | refine faE fd.fraction_0 rfl rfl ?_
 first | refine ldRC ce.bool rfl ?_ | refine ldPC ce.bool rfl rfl rfl ?_
 first | refine faP fd.fraction_0 rfl rfl ?_ | refine faR fd.fraction_0 rfl rfl ?_ | refine faE fd.fraction_0 rfl rfl ?_
 first | refine ldRC ce.bool rfl ?_ | refine ldPC ce.bool rfl rfl rfl ?_
 refine eqb bt.bool rfl rfl ?_
 refine OL.nil ?_
 refine AW.cond rfl (fun h => ?_) (fun h => ?_)
 ·have h : s = t := by simpa using h
  refine AW.seq ?_
  refine AW.dg 1 [0,1,2,3,4,5,6,7] order_free hE rfl (by kernel_rfl) (OI.of_OL (os := [_,_,_,_,_,_,_,_]) rfl ?_)
  first | refine faP fd.fraction_0 rfl rfl ?_ | refine faR fd.fraction_0 rfl rfl ?_ | refine faE fd.fraction_0 rfl rfl ?_
  first | refine ldRC ce.bool rfl ?_ | refine ldPC ce.bool rfl rfl rfl ?_
  first | refine mvD rfl ?_ | refine mvO rfl ?_ | refine mvM rfl ?_
  first | refine mvD rfl ?_ | refine mvO rfl ?_ | refine mvM rfl ?_
  refine cl (limbs_plus (lim_Lim _) (lim_Lim _) (by omega) (by omega)) rfl (VLes.refl _) ?_
  rw [val_lim, val_lim]
  first | refine mvD rfl ?_ | refine mvO rfl ?_ | refine mvM rfl ?_
  refine bd z.fraction pl.fraction (cs := [_,_,_]) rfl ?_
  first | refine sto sz.fraction rfl rfl rfl rfl rfl (nb9 rfl) (cells2 := [_,_,_]) rfl ?_ | refine stE sz.fraction rfl (VC.d _).vd rfl rfl (by omega) rfl ?_
  refine OL.nil ?_
  exact AW.ret (RetQ.r ⟨_, .cellA rfl rfl ag.fraction (nb9 rfl) .nil, .ag (.cons (.le (vle_of_eq (by rw [if_pos h]))) (.cons (.le (vle_of_eq (by rw [if_pos h]))) (.cons (.le (VLe.refl _)) (.nil))))⟩)
 ·have h : s ≠ t := by simpa using h
  refine AW.skip ?_
  refine AW.seq ?_
  refine AW.sg hE rfl ?_
  first | refine mvD rfl ?_ | refine mvO rfl ?_ | refine mvM rfl ?_
  first | refine mvD rfl ?_ | refine mvO rfl ?_ | refine mvM rfl ?_
  refine cl (limbs_cmp (lim_Lim _) (lim_Lim _) (by omega) (by omega)) rfl (VLes.refl _) ?_
  rw [val_lim, val_lim]
  refine c_geq rfl rfl rfl ?_
  refine OL.nil ?_
  refine AW.cond rfl (fun h2 => ?_) (fun h2 => ?_)
  ·have h2 : b * d1 ≤ a * d2 := cmp_nneg (by have := of_decide_eq_true h2; omega)
   refine AW.seq ?_
   refine AW.dg 1 [0,1,2,3,4,5,6,7] order_free hE rfl (by kernel_rfl) (OI.of_OL (os := [_,_,_,_,_,_,_,_]) rfl ?_)
   first | refine faP fd.fraction_0 rfl rfl ?_ | refine faR fd.fraction_0 rfl rfl ?_ | refine faE fd.fraction_0 rfl rfl ?_
   first | refine ldRC ce.bool rfl ?_ | refine ldPC ce.bool rfl rfl rfl ?_
   first | refine mvD rfl ?_ | refine mvO rfl ?_ | refine mvM rfl ?_
   first | refine mvD rfl ?_ | refine mvO rfl ?_ | refine mvM rfl ?_
   refine cl (limbs_minus (lim_Lim _) (lim_Lim _) (by omega) (by rw [val_lim, val_lim]; exact h2)) rfl (VLes.refl _) ?_
   rw [val_lim, val_lim]
   first | refine mvD rfl ?_ | refine mvO rfl ?_ | refine mvM rfl ?_
   refine bd z.fraction pl.fraction (cs := [_,_,_]) rfl ?_
   first | refine sto sz.fraction rfl rfl rfl rfl rfl (nb9 rfl) (cells2 := [_,_,_]) rfl ?_ | refine stE sz.fraction rfl (VC.d _).vd rfl rfl (by omega) rfl ?_
   refine OL.nil ?_
   exact AW.ret (RetQ.r ⟨_, .cellA rfl rfl ag.fraction (nb9 rfl) .nil, .ag (.cons (.le (vle_of_eq (by rw [if_neg h, if_pos h2]))) (.cons (.le (vle_of_eq (by rw [if_neg h, if_pos h2]))) (.cons (.le (VLe.refl _)) (.nil))))⟩)
  ·have h2 : ¬ b * d1 ≤ a * d2 := fun e => of_decide_eq_false h2 (cmp_ge e)
   refine AW.skip ?_
   refine AW.seq ?_
   refine AW.dg 1 [0,1,2,3,4,5,6,7] order_free hE rfl (by kernel_rfl) (OI.of_OL (os := [_,_,_,_,_,_,_,_]) rfl ?_)
   first | refine faP fd.fraction_0 rfl rfl ?_ | refine faR fd.fraction_0 rfl rfl ?_ | refine faE fd.fraction_0 rfl rfl ?_
   first | refine ldRC ce.bool rfl ?_ | refine ldPC ce.bool rfl rfl rfl ?_
   first | refine mvD rfl ?_ | refine mvO rfl ?_ | refine mvM rfl ?_
   first | refine mvD rfl ?_ | refine mvO rfl ?_ | refine mvM rfl ?_
   refine cl (limbs_minus (lim_Lim _) (lim_Lim _) (by omega) (by rw [val_lim, val_lim]; omega)) rfl (VLes.refl _) ?_
   rw [val_lim, val_lim]
   first | refine mvD rfl ?_ | refine mvO rfl ?_ | refine mvM rfl ?_
   refine bd z.fraction pl.fraction (cs := [_,_,_]) rfl ?_
   first | refine sto sz.fraction rfl rfl rfl rfl rfl (nb9 rfl) (cells2 := [_,_,_]) rfl ?_ | refine stE sz.fraction rfl (VC.d _).vd rfl rfl (by omega) rfl ?_
   refine OL.nil ?_
   exact AW.ret (RetQ.r ⟨_, .cellA rfl rfl ag.fraction (nb9 rfl) .nil, .ag (.cons (.le (vle_of_eq (by rw [if_neg h, if_neg h2]))) (.cons (.le (vle_of_eq (by rw [if_neg h, if_neg h2]))) (.cons (.le (VLe.refl _)) (.nil))))⟩)
end Go.Proofs.YtjghehkgmanmbaaGreat

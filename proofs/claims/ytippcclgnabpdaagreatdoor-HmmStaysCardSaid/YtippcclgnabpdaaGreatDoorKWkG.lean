/-
  Walks of package automaton, part 5: Tidy (printed by mk2.py).
-/
import Derived.Test.YtippcclgnabpdaaGreatDoorKWkF
set_option linter.unusedVariables false
set_option linter.unusedSimpArgs false
namespace Go.Proofs.YtippcclgnabpdaaGreatDoor
open Go Go.AL
def outA (S : List Arc9) (i : Nat) : List Arc9 := (S.take i).foldl mergeA []
theorem outA_succ {S : List Arc9} {i : Nat} (hi : i < S.length) : outA S (i + 1) = mergeA (outA S i) (S.getD i default) := fold_take hi
theorem outA_all {S : List Arc9} {i : Nat} (hi : S.length ≤ i) : outA S i = S.foldl mergeA [] := by unfold outA; rw [List.take_of_length_le hi]
theorem outA_len (S : List Arc9) : ∀ i, (outA S i).length ≤ i
 | 0 => Nat.le_refl _
 | i + 1 => by
  rcases Nat.lt_or_ge i S.length with h | h
  ·rw [outA_succ h]
   have := mergeA_len (outA S i) (S.getD i default)
   have := outA_len S i
   omega
  ·rw [outA_all (Nat.le_succ_of_le h), ← outA_all h]
   have := outA_len S i
   omega
theorem outA_sz {S : List Arc9} (hz : ∀ x, x ∈ S → sz x.q ≤ 134217728) : ∀ i, SumZ i (outA S i)
 | 0 => fun x hx => by cases hx
 | i + 1 => by
  rcases Nat.lt_or_ge i S.length with h | h
  ·rw [outA_succ h]
   exact mergeA_sz (outA_sz hz i) (hz _ (getD_mem h default))
  ·rw [outA_all (Nat.le_succ_of_le h), ← outA_all h]
   exact fun x hx => Nat.le_trans (outA_sz hz i x hx) (Nat.mul_le_mul_right _ (Nat.le_succ _))
set_option maxRecDepth 4000 in
set_option maxHeartbeats 1600000 in
theorem TidyR {l : List Arc9} (nl : l.length ≤ 20) (hz : ∀ x, x ∈ l → sz x.q ≤ 134217728) : FSpec P F.automaton_Tidy [vRing, .d (dArcs l)] (.d (dArcs (tidyA l))) := by
 have hS : (sortA l).length = l.length := sortG_len ..
 have hzS : ∀ x, x ∈ sortA l → sz x.q ≤ 134217728 := fun x hx => hz x ((sortA_perm l).mem_iff.1 hx)
 refine FSpec.intro fn.automaton_Tidy (by rfl) (by rfl) (nb9 (by rfl)) fun E hE => (AW.sg hE rfl (bxA rfl rfl fun b2 => (asM rfl (OL.nil (AW.seq (AW.freezeBox 2 [dI 1, .sl []] rfl (VCs.map_d [dI 1, .sl []]) (AW.to [(1, .d (dArcs l)), (2, rRing), (4, .mt)] [] (.cons (VLe.refl _) (.cons (vle_of_eq (show V.frb 2 b2 [dI 1, .sl []] (.ptr 2 b2 0) = rRing from frb_self)) .rq1)) .nil ?_)))))))
 refine AW.rg hE rfl (mvD rfl (clR rfl .rq1 (cloneAR (by omega)) rfl fun b11 c11 => (asO rfl (OL.nil (AW.seq (AW.rename 11 1000 rfl (AW.to [(2, rRing), (4, .mt), (5, .osl 1000 b11 l.length c11)] [(1000, rowA b11 c11 l)] (.cons (VLe.refl _) (.cons (VLe.refl _) (.cons VLe.osl .nil))) (.cons rfl .nil) ?_)))))))
 refine AW.rg hE rfl (mvO rfl (OL.callM (v := .tup []) (.mk (args' := [.osl 1000 b11 l.length c11, .fn F.automaton_order []]) rfl (.cons (VLe.refl _) (.cons (VLe.refl _) (.nil))) (mem1_keep (id := 1000) (blk := rowA b11 c11 l) rfl) mem1_sub (sortStableX rfl nl)) (OL.nil (AW.sg hE rfl (asM rfl (OL.nil (AW.seq ?_)))))))
 refine AW.seq (AW.own 6 59 T.Arc 11 rfl rfl (AW.rg hE rfl (mvO rfl (lnO sl.Arcs rfl rfl (mvD rfl (OL.nil (AW.block ?_)))))))
 refine AW.whileK (α := Nat × Nat × Nat) [(2, _), (4, _), (14, _), (15, _)] [(1000, _)] (fun (i, bq, cq) => [(6, .osl 59 bq (outA (sortA l) i).length cq), (16, .d (dI i))]) (fun (i, bq, cq) => [(59, rowA bq cq (outA (sortA l) i))]) (fun (i, bq, cq) => i ≤ l.length) (fun (i, bq, cq) => l.length - i) (0, 0, 0) (.cons (knR rfl) (.cons (knM rfl) (.cons (knO rfl) (.cons (knD rfl) .nil)))) (.cons (owR rfl) .nil) ⟨Nat.zero_le _, .rq2, .cons rfl .nil⟩ ?_
 rintro ⟨i, bq, cq⟩ h1
 have h1 : i ≤ l.length := h1
 have hlo := outA_len (sortA l) i
 have hzo := outA_sz hzS i
 refine AW.sg hE rfl (c_lss rfl rfl rfl (OL.nil (AW.seq (AW.cond rfl (fun h17 => ?_) (fun h17 => ?_)))))
 ·try simp only [dx9] at h17
  refine AW.skip (AW.seq (AW.block (AW.sg hE rfl (ixOn sl.Arcs rfl rfl (by omega) (ldEA ag.Arc (by decide) rfl rfl (rowA_el (show i < (sortA l).length by omega)) (vs := cellsArc ((sortA l).getD i default)) rfl (nb9 rfl) (al z.Arc rfl fun b8 => (sto sz.Arc rfl rfl rfl rfl rfl (nb9 rfl) (cells2 := [_,_,_,_,_,_,_,_,_,_,_]) rfl ?_)))))))
  refine OL.nil (AW.seq (AW.sg hE rfl (mvO rfl (lnO sl.Arcs rfl rfl (asD rfl (OL.nil (AW.seq ?_)))))))
  have hxz := hzS ((sortA l).getD i default) (getD_mem (by omega) default)
  refine AW.dg 1 [0,1,2,3,4,5,6,7,8,9,10,11] order_free hE rfl (by kernel_rfl) (OI.of_OL (os := [_,_,_,_,_,_,_,_,_,_,_,_]) rfl ?_)
  refine mvD rfl (c_gtr rfl rfl rfl (mvD rfl (OL.split 24 rfl (fun hn => ?_) (fun hn => ?_))))
  ·have hn : 0 < (outA (sortA l) i).length := by have := of_decide_eq_true hn; omega
   have hyz := hzo ((outA (sortA l) i).getD ((outA (sortA l) i).length - 1) default) (getD_mem (by omega) default)
   refine OL.yes rfl (mvO rfl (OL.yes rfl (mvD rfl (OL.yes rfl (bo rfl rfl (bin_sub (c := (((outA (sortA l) i).length - 1 : Nat) : Int)) (by omega) (wrap_i64 (by omega))) (OL.yes rfl (ixOn sl.Arcs rfl rfl (by omega) ?_)))))))
   refine OL.yes rfl (ldEA ag.Arc (by decide) rfl rfl (rowA_el (show (outA (sortA l) i).length - 1 < (outA (sortA l) i).length by omega)) (vs := cellsArc ((outA (sortA l) i).getD ((outA (sortA l) i).length - 1) default)) rfl (nb9 rfl) (OL.yes rfl (ldPA ag.Arc rfl rfl (vs := [_,_,_,_,_,_,_,_,_,_,_]) rfl (nb9 rfl) (OL.yes rfl (clv rfl (.cons (VLe.refl _) (.cons (VLe.refl _) (.nil))) (orderA (x := ((outA (sortA l) i).getD ((outA (sortA l) i).length - 1) default)) (y := ((sortA l).getD i default))) (OL.yes rfl (c_eql rfl rfl rfl ?_)))))))
   refine pkT rfl rfl (OL.nil (AW.cond rfl (fun hc => ?_) (fun hc => ?_)))
   ·have hc : ordA ((outA (sortA l) i).getD ((outA (sortA l) i).length - 1) default) ((sortA l).getD i default) = 0 := of_decide_eq_true hc
    refine AW.seq (AW.dg 1 [0,1,2,3,4,5,6,7,8,9,10,11,12,13,14,15] order_free hE rfl (by kernel_rfl) (OI.of_OL (os := [_,_,_,_,_,_,_,_,_,_,_,_,_,_,_,_]) rfl ?_))
    refine mvO rfl (mvD rfl (bo rfl rfl (bin_sub (c := (((outA (sortA l) i).length - 1 : Nat) : Int)) (by omega) (wrap_i64 (by omega))) (ldRA ag.Ring rfl (vs := [_,_]) rfl (nb9 rfl) (mvO rfl (mvD rfl (bo rfl rfl (bin_sub (c := (((outA (sortA l) i).length - 1 : Nat) : Int)) (by omega) (wrap_i64 (by omega))) (ixOn sl.Arcs rfl rfl (by omega) ?_)))))))
    refine faE fd.Arc_3 rfl rfl ?_
    refine ldEA ag.Weight (by decide) rfl rfl (rowA_el (show (outA (sortA l) i).length - 1 < (outA (sortA l) i).length by omega)) (vs := [.d (dB (ofQ ((outA (sortA l) i).getD ((outA (sortA l) i).length - 1) default).q).neg), .d (u32s (ofQ ((outA (sortA l) i).getD ((outA (sortA l) i).length - 1) default).q).num), .d (u32s (ofQ ((outA (sortA l) i).getD ((outA (sortA l) i).length - 1) default).q).den), .d (dI 0), .d (dB false), .d (dU 0), .d (.sl []), .d (.sl [])]) rfl (nb9 rfl) ?_
    refine faP fd.Arc_3 rfl rfl (ldPA ag.Weight rfl rfl (vs := [_,_,_,_,_,_,_,_]) rfl (nb9 rfl) (clv rfl (.cons (VLe.refl _) (.cons (VLe.refl _) (.cons (VLe.refl _) (.nil)))) (PlusR (p := ((outA (sortA l) i).getD ((outA (sortA l) i).length - 1) default).q) (q := ((sortA l).getD i default).q) (by omega) (by omega)) (ixOn sl.Arcs rfl rfl (by omega) (faE fd.Arc_3 rfl rfl ?_))))
    refine stF sz.Weight rfl (d := dW (((outA (sortA l) i).getD ((outA (sortA l) i).length - 1) default).q + ((sortA l).getD i default).q)) vd_w rfl rfl (rowA_el (show (outA (sortA l) i).length - 1 < (outA (sortA l) i).length by omega)) (by decide) (el2 := dArc { ((outA (sortA l) i).getD ((outA (sortA l) i).length - 1) default) with q := ((outA (sortA l) i).getD ((outA (sortA l) i).length - 1) default).q + ((sortA l).getD i default).q }) rfl (es2 := ((outA (sortA l) i).set ((outA (sortA l) i).length - 1) { ((outA (sortA l) i).getD ((outA (sortA l) i).length - 1) default) with q := ((outA (sortA l) i).getD ((outA (sortA l) i).length - 1) default).q + ((sortA l).getD i default).q }).map dArc) (by rw [List.map_set]) ?_
    refine OL.nil (AW.exit (AW.rg hE rfl (add_i64 rfl rfl (by omega) (mvD rfl (OL.nil ?_)))))
    exact AW.again (x := (i, bq, cq)) (i + 1, bq, cq) (by (simp only []; omega)) ⟨by omega, Knows.app .rq4 (.cons (by rw [outA_succ (by omega), mergeA, if_pos ⟨hn, hc⟩, List.length_set]; exact VLe.refl _) .rq1), Owns.app (.cons rfl .nil) (.cons (by rw [outA_succ (by omega), mergeA, if_pos ⟨hn, hc⟩]; rfl) .nil)⟩
   ·have hc : ¬ ordA ((outA (sortA l) i).getD ((outA (sortA l) i).length - 1) default) ((sortA l).getD i default) = 0 := of_decide_eq_false hc
    refine AW.skip (AW.seq (AW.dg 1 [0,1,2,3,4,5,6,7] order_free hE rfl (by kernel_rfl) (OI.of_OL (os := [_,_,_,_,_,_,_,_]) rfl ?_)))
    refine ldRA ag.Ring rfl (vs := [_,_]) rfl (nb9 rfl) (faP fd.Arc_3 rfl rfl (ldPA ag.Weight rfl rfl (vs := [_,_,_,_,_,_,_,_]) rfl (nb9 rfl) (ldRA ag.Ring rfl (vs := [_,_]) rfl (nb9 rfl) (clv rfl (.cons (VLe.refl _) (.nil)) (ZeroR) (clv rfl (.cons (VLe.refl _) (.cons (VLe.refl _) (.cons (VLe.refl _) (.nil)))) (PlusR (p := ((sortA l).getD i default).q) (q := 0) (by omega) z0K) ?_)))))
    rw [Rat.add_zero]
    refine faP fd.Arc_3 rfl rfl (sto sz.Weight rfl rfl rfl rfl rfl (nb9 rfl) (cells2 := [_,_,_,_,_,_,_,_,_,_,_]) rfl (OL.nil (AW.rg hE rfl (mvO rfl (ldPA ag.Arc rfl rfl (vs := [_,_,_,_,_,_,_,_,_,_,_]) rfl (nb9 rfl) (lt1 (y := dArc ((sortA l).getD i default)) sl.Arcs vd_arc rfl (by decide) ?_))))))
    refine apO sl.Arcs rfl rfl rfl (by rw [List.length_map]) (VC.d _) (fun y hy => by rw [List.mem_singleton.1 hy]; rfl) (by simp; omega) (by simp; omega) (.inr rfl) (ys := ((outA (sortA l) i) ++ [((sortA l).getD i default)]).map dArc) (by rw [List.map_append]; rfl) (n2 := (outA (sortA l) i).length + 1) rfl fun b2 c2 => ?_
    refine asO rfl (OL.nil (AW.rg hE rfl (add_i64 rfl rfl (by omega) (mvD rfl (OL.nil ?_)))))
    exact AW.again (x := (i, bq, cq)) (i + 1, b2, c2) (by (simp only []; omega)) ⟨by omega, Knows.app .rq4 (.cons (by rw [outA_succ (by omega), mergeA, if_neg (fun e => hc e.2), List.length_append]; exact VLe.refl _) .rq1), Owns.app (.cons rfl .nil) (.cons (by rw [outA_succ (by omega), mergeA, if_neg (fun e => hc e.2)]; rfl) .nil)⟩
  ·have hn : ¬ 0 < (outA (sortA l) i).length := fun e => of_decide_eq_false hn (by omega)
   refine OL.nd rfl (OL.nd rfl (OL.nd rfl (OL.nd rfl (OL.nd rfl (OL.nd rfl (OL.nd rfl (OL.nd rfl ?_)))))))
   refine pkF rfl rfl (OL.nil (AW.cond rfl (fun hno => absurd hno (by decide)) (fun _ => ?_)))
   refine AW.skip (AW.seq (AW.dg 1 [0,1,2,3,4,5,6,7] order_free hE rfl (by kernel_rfl) (OI.of_OL (os := [_,_,_,_,_,_,_,_]) rfl ?_)))
   refine ldRA ag.Ring rfl (vs := [_,_]) rfl (nb9 rfl) (faP fd.Arc_3 rfl rfl (ldPA ag.Weight rfl rfl (vs := [_,_,_,_,_,_,_,_]) rfl (nb9 rfl) (ldRA ag.Ring rfl (vs := [_,_]) rfl (nb9 rfl) (clv rfl (.cons (VLe.refl _) (.nil)) (ZeroR) (clv rfl (.cons (VLe.refl _) (.cons (VLe.refl _) (.cons (VLe.refl _) (.nil)))) (PlusR (p := ((sortA l).getD i default).q) (q := 0) (by omega) z0K) ?_)))))
   rw [Rat.add_zero]
   refine faP fd.Arc_3 rfl rfl (sto sz.Weight rfl rfl rfl rfl rfl (nb9 rfl) (cells2 := [_,_,_,_,_,_,_,_,_,_,_]) rfl (OL.nil (AW.rg hE rfl (mvO rfl (ldPA ag.Arc rfl rfl (vs := [_,_,_,_,_,_,_,_,_,_,_]) rfl (nb9 rfl) (lt1 (y := dArc ((sortA l).getD i default)) sl.Arcs vd_arc rfl (by decide) ?_))))))
   refine apO sl.Arcs rfl rfl rfl (by rw [List.length_map]) (VC.d _) (fun y hy => by rw [List.mem_singleton.1 hy]; rfl) (by simp; omega) (by simp; omega) (.inr rfl) (ys := ((outA (sortA l) i) ++ [((sortA l).getD i default)]).map dArc) (by rw [List.map_append]; rfl) (n2 := (outA (sortA l) i).length + 1) rfl fun b2 c2 => ?_
   refine asO rfl (OL.nil (AW.rg hE rfl (add_i64 rfl rfl (by omega) (mvD rfl (OL.nil ?_)))))
   exact AW.again (x := (i, bq, cq)) (i + 1, b2, c2) (by (simp only []; omega)) ⟨by omega, Knows.app .rq4 (.cons (by rw [outA_succ (by omega), mergeA, if_neg (fun e => hn e.1), List.length_append]; exact VLe.refl _) .rq1), Owns.app (.cons rfl .nil) (.cons (by rw [outA_succ (by omega), mergeA, if_neg (fun e => hn e.1)]; rfl) .nil)⟩
 ·try simp only [dx9] at h17
  refine AW.exit (AW.seq ?_)
  obtain rfl : i = l.length := by omega
  have ho : (outA (sortA l) l.length).filter (fun x => !decide (x.q = 0)) = tidyA l := by
   unfold tidyA nzA
   rw [outA_all (by omega)]
   congr 1
   funext x
   by_cases hx : x.q = 0 <;> simp [hx]
  refine AW.regionS (by rw [hE]; rfl) (SL.ofOL (mvO rfl (OL.nil ?_)))
  refine SL.ofOL (mkF (vs := [_]) rfl (OL.nil ?_))
  refine SL.ofSO rfl (SO.callO (id := 59) (b := bq) (n := (outA (sortA l) l.length).length) (c := cq) (es := (outA (sortA l) l.length).map dArc) (argsF := fun s => [s, .fn F.automaton_Tidy_1 [rRing]]) (show 63 < E.n by rw [hE]; exact Nat.le_of_ble_eq_true (by rfl)) rfl rfl (.cons VLe.osl .rq1) (deleteA (l := (outA (sortA l) l.length)) (p := fun x => decide (x.q = 0)) (fun x hx => tidy_1 (Nat.le_trans (hzo x hx) (by omega))) rfl (by omega)) fun b63 c63 => ?_)
  refine SL.ofOL (asO rfl (OL.nil ?_))
  rw [ho]
  refine AW.freeze 59 rfl (AW.to [(4, .d (dArcs (tidyA l)))] [] (.cons (frz_osl (by rw [List.length_map]) (by rfl)) .nil) .nil ?_)
  exact AW.ret (RetQ.r ⟨_, .tmp rfl .nil, .le (VLe.refl _)⟩)
end Go.Proofs.YtippcclgnabpdaaGreatDoor

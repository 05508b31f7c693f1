/-
  AL, part 40: a struct of five cells by value, opened and laid as data.
-/
import Derived.Test.YthhnlbfiilofjaaGreatDoorKWkW
import Derived.Test.YthhnlbfiilofjaaGreatDoorKAlgd
import Derived.Lib.SmallJoins
set_option linter.unusedVariables false
set_option linter.unusedSimpArgs false
namespace Go.Proofs.YthhnlbfiilofjaaGreatDoor
open Go Go.AL
theorem take_scale {m : MModel} {q : Rat} (hq : sz q ≤ 1) : Au.Take (scaleOf (autoOf m 2 3) q) 2 :=
 have t := take_auto (m := m)
 ⟨⟨t.fit.ok.scale q, (auto_sz.scale hq).up (by decide) (by decide), rfl, (show 2 ≤ 32 by decide), t.fit.st⟩, t.few.scale (fun y hy => Nat.le_trans (auto_sz.ini y hy) (by decide)) hq, t.st1⟩
theorem take_rev {m : MModel} : Au.Take (revOf (autoOf m 2 3)) 2 :=
 have t := take_auto (m := m)
 ⟨⟨t.fit.ok.rev, auto_sz.rev.up (by decide) (by decide), rfl, (show 2 ≤ 32 by decide), t.fit.st⟩, t.few.rev, t.st1⟩
theorem auto_n64 {m n : MModel} : (autoOf m 2 3).st + (autoOf n 2 3).st ≤ 64 := Nat.le_trans auto6 (by decide)
theorem take_union {m n : MModel} : Au.Take (unionOf (autoOf m 2 3) (autoOf n 2 3)) 2 :=
 have t := take_auto (m := m)
 have u := take_auto (m := n)
 ⟨⟨t.fit.ok.union u.fit.ok rfl, auto_sz.union auto_sz (by decide) (by decide), rfl, (show 2 ≤ 32 by decide), auto_n64⟩, t.few.union u.few t.fit.ok auto6, Nat.le_trans t.st1 (Nat.le_add_right ..)⟩
theorem arcs20 {m n : MModel} : (autoOf m 2 3).arcs.length + (autoOf n 2 3).arcs.length ≤ 20 := Nat.add_le_add auto_sz.num auto_sz.num
set_option maxRecDepth 8000 in
set_option maxHeartbeats 3200000 in
theorem law_EqualRankBoundsSums {m n : MModel} {e1 e2 : Bool} {v : Int} (ha1 : m.ini.length ≤ 9223372036854775807) (ha2 : m.fin.length ≤ 9223372036854775807) (ha3 : m.arcs.length ≤ 9223372036854775807) (hb1 : n.ini.length ≤ 9223372036854775807) (hb2 : n.fin.length ≤ 9223372036854775807) (hb3 : n.arcs.length ≤ 9223372036854775807) : FSpec P F.law23_EqualRankBoundsSums [vModelE m e1, vModelE n e2, .d (dI v)] (.d (dB true)) := by
 have oa := (take_auto (m := m)).fit.ok
 have ob := (take_auto (m := n)).fit.ok
 have hle := rkA_le (autoOf m 2 3)
 have hle2 := rkA_le (autoOf n 2 3)
 have ht3 := (take_auto (m := m)).few.st
 have ht4 := (take_auto (m := n)).few.st
 have hpl := rkA_plus oa ob rfl
 have qz := numQ_sz v
 refine FSpec.intro fn.law23_EqualRankBoundsSums (by rfl) (by rfl) (nb9 (by rfl)) fun E hE => (AW.sg hE rfl (bxA rfl rfl fun b3 => (bxA rfl rfl fun b4 => (asD rfl (OL.nil (AW.seq (AW.dg 1 [0,1,2,3,4,5,6,7] order_free hE rfl (by kernel_rfl) (OI.of_OL (os := [_,_,_,_,_,_,_,_]) rfl ?_))))))))
 refine ldPA ag.Model rfl rfl (vs := [_,_,_,_,_]) rfl (nb9 rfl) (clv rfl (.cons (VLe.refl _) (.nil)) (law23_plain (m := m) ha1 ha2 ha3) (ldPA ag.Model rfl rfl (vs := [_,_,_,_,_]) rfl (nb9 rfl) (clv rfl (.cons (VLe.refl _) (.nil)) (law23_plain (m := n) hb1 hb2 hb3) (al z.Auto rfl fun b7 => (al z.Auto rfl fun b8 => (sto sz.Auto rfl rfl rfl rfl rfl (nb9 rfl) (cells2 := [_,_,_,_,_,_,_]) rfl (sto sz.Auto rfl rfl rfl rfl rfl (nb9 rfl) (cells2 := [_,_,_,_,_,_,_]) rfl ?_)))))))
 refine OL.nil (AW.sg hE rfl (ldPA ag.Auto rfl rfl (vs := [_,_,_,_,_,_,_]) rfl (nb9 rfl) (ldPA ag.Auto rfl rfl (vs := [_,_,_,_,_,_,_]) rfl (nb9 rfl) (clv rfl (.cons (VLe.refl _) (.cons (VLe.refl _) (.nil))) (r15Union (a := (autoOf m 2 3)) (b := (autoOf n 2 3)) take_auto.fit take_auto.fit arcs20 auto_n64) (mvT rfl (ex rfl rfl (ex rfl rfl ?_)))))))
 refine al z.Auto rfl fun b9 => (sto sz.Auto rfl rfl rfl rfl rfl (nb9 rfl) (cells2 := [_,_,_,_,_,_,_]) rfl (asD rfl (OL.nil (AW.sg hE rfl (ldPA ag.Auto rfl rfl (vs := [_,_,_,_,_,_,_]) rfl (nb9 rfl) (clv rfl (.cons (VLe.refl _) (.nil)) (r15Reverse (a := (autoOf m 2 3)) take_auto.fit) (mvT rfl ?_)))))))
 refine ex rfl rfl (ex rfl rfl (al z.Auto rfl fun b11 => (sto sz.Auto rfl rfl rfl rfl rfl (nb9 rfl) (cells2 := [_,_,_,_,_,_,_]) rfl (asD rfl (OL.nil (AW.sg hE rfl (ldPA ag.Auto rfl rfl (vs := [_,_,_,_,_,_,_]) rfl (nb9 rfl) ?_)))))))
 refine clv rfl (.cons (VLe.refl _) (.nil)) (RankA (a := (autoOf m 2 3)) take_auto (by decide)) (mvT rfl (ex rfl rfl (ex rfl rfl (asD rfl (asD rfl (OL.nil (AW.sg hE rfl ?_)))))))
 refine ldPA ag.Auto rfl rfl (vs := [_,_,_,_,_,_,_]) rfl (nb9 rfl) (clv rfl (.cons (VLe.refl _) (.nil)) (RankA (a := (autoOf n 2 3)) take_auto (by decide)) (mvT rfl (ex rfl rfl (ex rfl rfl (asD rfl (asD rfl (OL.nil ?_)))))))
 refine AW.sg hE rfl (ldPA ag.Auto rfl rfl (vs := [_,_,_,_,_,_,_]) rfl (nb9 rfl) (clv rfl (.cons (VLe.refl _) (.nil)) (RankA (a := unionOf (autoOf m 2 3) (autoOf n 2 3)) take_union (by decide)) (mvT rfl (ex rfl rfl (ex rfl rfl (asD rfl (asD rfl ?_)))))))
 refine OL.nil (AW.sg hE rfl (ldPA ag.Auto rfl rfl (vs := [_,_,_,_,_,_,_]) rfl (nb9 rfl) (clv rfl (.cons (VLe.refl _) (.nil)) (RankA (a := revOf (autoOf m 2 3)) take_rev (by decide)) ?_)))
 rw [rkA_rev]
 refine mvT rfl (ex rfl rfl (ex rfl rfl (asD rfl (asD rfl (OL.nil (AW.sg hE rfl (mvD rfl ?_)))))))
 refine clv rfl (.cons (VLe.refl _) (.nil)) (NumberI (v := v)) (al z.Rat rfl fun b21 => (sto sz.Rat rfl rfl rfl rfl rfl (nb9 rfl) (cells2 := [_,_,_]) rfl (OL.nil (AW.sg hE rfl (ldPA ag.Auto rfl rfl (vs := [_,_,_,_,_,_,_]) rfl (nb9 rfl) (ldPA ag.Rat rfl rfl (vs := [_,_,_]) rfl (nb9 rfl) (bd z.Weight pl.Weight (cs := [_,_,_,_,_,_,_,_]) rfl ?_)))))))
 refine clv rfl (.cons (VLe.refl _) (.cons (vle_wq) .nil)) (r15Scale (a := (autoOf m 2 3)) (q := (numQ v)) take_auto.fit (Nat.le_trans qz (by decide))) (mvT rfl (ex rfl rfl (ex rfl rfl (al z.Auto rfl fun b22 => (sto sz.Auto rfl rfl rfl rfl rfl (nb9 rfl) (cells2 := [_,_,_,_,_,_,_]) rfl (asD rfl (OL.nil ?_)))))))
 refine AW.sg hE rfl (ldPA ag.Auto rfl rfl (vs := [_,_,_,_,_,_,_]) rfl (nb9 rfl) (clv rfl (.cons (VLe.refl _) (.nil)) (RankA (a := scaleOf (autoOf m 2 3) (numQ v)) (take_scale qz) (by decide)) (mvT rfl (ex rfl rfl (ex rfl rfl (asD rfl (asD rfl ?_)))))))
 refine OL.nil (AW.sg hE rfl (clv rfl (.nil) (law23_awake) (mvD rfl (OL.yes rfl (mvD rfl (OL.yes rfl (c_eql rfl rfl (c := true) (decide_eq_true rfl) ?_)))))))
 refine pkT rfl rfl (mvD rfl (OL.yes rfl (mvD rfl (OL.yes rfl (c_eql rfl rfl (c := true) (decide_eq_true rfl) (pkT rfl rfl (mvD rfl ?_)))))))
 refine OL.yes rfl (mvD rfl (OL.yes rfl (c_eql rfl rfl (c := true) (decide_eq_true rfl) (pkT rfl rfl (mvD rfl (OL.yes rfl (mvD rfl ?_)))))))
 refine OL.yes rfl (c_eql rfl rfl (c := true) (decide_eq_true rfl) (pkT rfl rfl (mvD rfl (OL.yes rfl (mvD rfl (OL.yes rfl (c_eql rfl rfl (c := true) (decide_eq_true rfl) ?_)))))))
 refine pkT rfl rfl (mvD rfl (OL.yes rfl (mvD rfl (OL.yes rfl (mvD rfl (OL.yes rfl (mvD rfl ?_)))))))
 refine OL.yes rfl (bo rfl rfl (bin_add (c := ((rkA (autoOf m 2 3) + rkA (autoOf n 2 3) : Nat) : Int)) (by omega) (wrap_i64 (by omega))) (OL.yes rfl (c_leq rfl rfl (c := true) (decide_eq_true (by omega)) (pkT rfl rfl (mvD rfl (OL.yes rfl (mvD rfl ?_)))))))
 refine OL.yes rfl (mvD rfl (OL.yes rfl (c_eql rfl rfl (c := true) (decide_eq_true rfl) (pkT rfl rfl (mvD rfl (OL.yes rfl (ldPA ag.Rat rfl rfl (vs := [_,_,_]) rfl (nb9 rfl) ?_)))))))
 refine OL.yes rfl (clv rfl (.cons (VLe.refl _) (.nil)) (ref_SignQ (x := (numQ v)) (by omega)) (OL.yes rfl (c_eql rfl rfl rfl (OL.split 111 rfl (fun hq => ?_) (fun hq => ?_)))))
 ·have hq : sgnQ (numQ v) = 0 := of_decide_eq_true hq
  have h0 : rkA (scaleOf (autoOf m 2 3) (numQ v)) = 0 := by rw [sgnQ_eq.1 hq]; exact rkA_scale0 oa
  refine OL.yes rfl (mvD rfl (OL.yes rfl (mvD rfl (OL.yes rfl (c_eql rfl rfl (c := true) (decide_eq_true (by omega)) (OL.yes rfl (pkT rfl rfl ?_)))))))
  refine OL.yes rfl (mvD rfl (OL.nd rfl (OL.nd rfl (OL.nd rfl (OL.yes rfl (pkT rfl rfl (pkT rfl rfl ?_)))))))
  exact asD rfl (OL.nil (AW.ret (RetQ.r ⟨_, .tmp rfl .nil, .le (VLe.refl _)⟩)))
 ·have hq : ¬ sgnQ (numQ v) = 0 := of_decide_eq_false hq
  have h0 : rkA (scaleOf (autoOf m 2 3) (numQ v)) = rkA (autoOf m 2 3) := rkA_scale oa fun e => hq (by rw [e]; rfl)
  refine OL.yes rfl (mvD rfl (OL.nd rfl (OL.nd rfl (OL.yes rfl (pkF rfl rfl (OL.yes rfl (mvD rfl ?_)))))))
  refine OL.yes rfl (mvD rfl (OL.yes rfl (mvD rfl (OL.yes rfl (c_eql rfl rfl (c := true) (decide_eq_true (by omega)) (OL.yes rfl (pkF rfl rfl ?_)))))))
  exact pkT rfl rfl (asD rfl (OL.nil (AW.ret (RetQ.r ⟨_, .tmp rfl .nil, .le (VLe.refl _)⟩))))
end Go.Proofs.YthhnlbfiilofjaaGreatDoor

set_option linter.unusedVariables false
set_option linter.unusedSimpArgs false
set_option linter.unusedVariables false
set_option linter.unusedSimpArgs false
namespace Go.AL
open Go Go.BigFrame Go.RowKit Go.ChangeShapes Go.WideShapes Go.ChangeAt Go.Joins Go.Deep
theorem array5 {α : Type} {cs : Array α} (h : cs.size = 5) : ∃ c0 c1 c2 c3 c4, cs = #[c0, c1, c2, c3, c4] := by
 obtain ⟨l⟩ := cs
 match l, h with
 | [c0, c1, c2, c3, c4], _ => exact ⟨c0, c1, c2, c3, c4, rfl⟩
section
variable {H : Type} {enc : TypeId × Value → H} {P : Program} {w : World} {base : Nat} {spare : Nat → Bool} {held : Bool}
theorem trod_struct5 {t : TypeId} {f0 f1 f2 f3 f4 : Field} {fuel : Nat} {cs : List Value} {x : DataW H × List MemPlace} (ht : P.underlying t = some (.struct #[f0, f1, f2, f3, f4])) (h : DataW.trod enc P w base spare held fuel t cs = some x) :
  ∃ y0 y1 y2 y3 y4 n, x = (.agg [y0.1, y1.1, y2.1, y3.1, y4.1], y0.2 ++ (y1.2 ++ (y2.2 ++ (y3.2 ++ y4.2)))) ∧ cs.length = P.cellsOf t ∧ DataW.trod enc P w base spare held n f0.type ((cs.drop f0.offset).take (P.cellsOf f0.type)) = some y0 ∧
   DataW.trod enc P w base spare held n f1.type ((cs.drop f1.offset).take (P.cellsOf f1.type)) = some y1 ∧ DataW.trod enc P w base spare held n f2.type ((cs.drop f2.offset).take (P.cellsOf f2.type)) = some y2 ∧
   DataW.trod enc P w base spare held n f3.type ((cs.drop f3.offset).take (P.cellsOf f3.type)) = some y3 ∧ DataW.trod enc P w base spare held n f4.type ((cs.drop f4.offset).take (P.cellsOf f4.type)) = some y4 := by
 obtain ⟨xs, n, _, rfl, hl, hlen, hf⟩ := DataW.trod_struct ht h
 match xs, hlen with
 | [y0, y1, y2, y3, y4], _ => exact ⟨y0, y1, y2, y3, y4, n, by simp, hl, by simpa using hf 0 f0 rfl, by simpa using hf 1 f1 rfl, by simpa using hf 2 f2 rfl, by simpa using hf 3 f3 rfl, by simpa using hf 4 f4 rfl⟩
theorem open_agg5 {r : Reach} {b0 : Nat} {t : TypeId} {f0 f1 f2 f3 f4 : Field} {v : Value} {d : DataW H} {p : List MemPlace} (hs : P.underlying t = some (.struct #[f0, f1, f2, f3, f4])) (hone : oneCellFields P #[f0, f1, f2, f3, f4] = true) (hC : P.cellsOf t = 5)
  (hv : Value.okWide P w r b0 t v) (h : DataW.Trod enc P w base spare held t v d p) :
  ∃ (v0 v1 v2 v3 v4 : Value) (y0 y1 y2 y3 y4 : DataW H × List MemPlace) (n : Nat), v = .agg #[v0, v1, v2, v3, v4] ∧
   DataW.trod enc P w base spare held n f0.type [v0] = some y0 ∧ DataW.trod enc P w base spare held n f1.type [v1] = some y1 ∧ DataW.trod enc P w base spare held n f2.type [v2] = some y2 ∧ DataW.trod enc P w base spare held n f3.type [v3] = some y3 ∧ DataW.trod enc P w base spare held n f4.type [v4] = some y4 := by
 obtain ⟨cs, rfl, hsz⟩ := okWide_struct hs hv
 obtain ⟨c0, c1, c2, c3, c4, rfl⟩ := array5 (hsz.trans hC)
 obtain ⟨fuel, hf⟩ := h
 obtain ⟨y0, y1, y2, y3, y4, n, hx, _, h0, h1, h2, h3, h4⟩ := trod_struct5 hs hf
 obtain ⟨o0, k0⟩ := hone_of hone 0 f0 rfl
 obtain ⟨o1, k1⟩ := hone_of hone 1 f1 rfl
 obtain ⟨o2, k2⟩ := hone_of hone 2 f2 rfl
 obtain ⟨o3, k3⟩ := hone_of hone 3 f3 rfl
 obtain ⟨o4, k4⟩ := hone_of hone 4 f4 rfl
 exact ⟨c0, c1, c2, c3, c4, y0, y1, y2, y3, y4, n, rfl, by simpa [Value.cells, o0, k0] using h0, by simpa [Value.cells, o1, k1] using h1, by simpa [Value.cells, o2, k2] using h2, by simpa [Value.cells, o3, k3] using h3, by simpa [Value.cells, o4, k4] using h4⟩
end
theorem bool_open {P : Program} {H : Type} {enc : TypeId × Value → H} {w : World} {base fuel : Nat} {spare : Nat → Bool} {held : Bool} {t : TypeId} {v : Value} {x : DataW H × List MemPlace} (ht : P.underlying t = some .bool)
  (h : DataW.trod enc P w base spare held fuel t [v] = some x) : ∃ b, v = .bool b := by
 obtain ⟨b, h1, _⟩ := DataW.trod_bool ht h
 simp at h1
 exact ⟨b, h1⟩
theorem simv_agg5 {F : Hp} {u0 u1 u2 u3 u4 : Value} {x0 x1 x2 x3 x4 : D} (h0 : SimV F u0 (.d x0)) (h1 : SimV F u1 (.d x1)) (h2 : SimV F u2 (.d x2)) (h3 : SimV F u3 (.d x3)) (h4 : SimV F u4 (.d x4)) : SimV F (.agg #[u0, u1, u2, u3, u4]) (.ag [.d x0, .d x1, .d x2, .d x3, .d x4]) := by
 have h := simvs_cons h0 (simvs_cons h1 (simvs_cons h2 (simvs_cons h3 (simvs_cons h4 simvs_nil))))
 refine .ag (us := [u0, u1, u2, u3, u4]) h.1 (fun u hu => ?_) h.2
 simp only [List.mem_cons, List.not_mem_nil, or_false] at hu
 rcases hu with rfl | rfl | rfl | rfl | rfl
 ·exact h0.one
 ·exact h1.one
 ·exact h2.one
 ·exact h3.one
 ·exact h4.one
end Go.AL

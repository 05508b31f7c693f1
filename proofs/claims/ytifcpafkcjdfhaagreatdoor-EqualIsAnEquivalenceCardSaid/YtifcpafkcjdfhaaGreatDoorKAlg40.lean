/-
  AL, part 40: a struct of five cells by value, opened and laid as data.
-/
import Derived.Test.YtifcpafkcjdfhaaGreatDoorKWkU
import Derived.Test.YtifcpafkcjdfhaaGreatDoorKAlgd
import Derived.Lib.SmallJoins
set_option linter.unusedVariables false
set_option linter.unusedSimpArgs false
namespace Go.Proofs.YtifcpafkcjdfhaaGreatDoor
open Go Go.AL
theorem eqbS {m : Nat} {ops : Array Oper} {K : S → Prop} {s : S} {dst : Option Nat} {ty : Nat} {pos : String} {after : Array Edge} {r : List Oper} {t yt : Nat} {x y : Operand} {a b : Bool} (hT : BoolT P t) (hx : s.ev x = .d (.sc (.bool a))) (hy : s.ev y = .d (.sc (.bool b))) (e : a = b) (h : OL P m ops K r (s.put dst (.d (.sc (.bool true))))) : OL P m ops K (⟨dst, .binOp .eql t x y yt, ty, pos, after, none⟩ :: r) s :=
 eqb hT hx hy (by subst e; rw [beq_self_eq_true]; exact h)
theorem r5SameT {l m : List Int} (nl : l.length ≤ 1099511627776) (e : l = m) : FSpec P F.ref05_Same [.d (ints l), .d (ints m)] (.d (dB true)) := by
 have h := r5Same (l := l) (m := m) nl
 rwa [decide_eq_true e] at h
theorem take_auto {m : MModel} : Au.Take (autoOf m 2 3) 2 :=
 have ok := auto_ok (m := m) (sym := 2) (most := 3) (by decide) (by decide)
 have hs := stOf_le (m := m) (most := 3) (by decide)
 ⟨⟨ok, auto_sz.wide, rfl, (show 2 ≤ 32 by decide), (by show stOf m 3 ≤ 64; omega)⟩, auto_sz.few hs.2, hs.1⟩
theorem take_form {m : MModel} : Au.Take (formOf (autoOf m 2 3)) 2 :=
 have t := take_auto (m := m)
 ⟨⟨t.fit.ok.form, auto_sz.form, rfl, (show 2 ≤ 32 by decide), t.fit.st⟩, t.few.form, t.st1⟩
theorem take_letter {q : Rat} (hz : sz q ≤ 1) : Au.Take (letterOf q) 2 :=
 ⟨⟨letter_ok q, (letter_sz hz).wide, rfl, (show 2 ≤ 32 by decide), (show 2 ≤ 64 by decide)⟩, (letter_sz hz).few (show 2 ≤ 3 by decide), (show 1 ≤ 2 by decide)⟩
theorem eq_len {a b : Au} (t : Au.Take a 2) (u : Au.Take b 2) : ((eqA a b).getD []).length ≤ 1099511627776 := by
 cases h : eqA a b with
 | none => exact Nat.zero_le _
 | some w =>
  have h1 := (eqA_first t.fit.ok u.fit.ok (t.fit.sym.trans u.fit.sym.symm) h).2.2.2
  have := t.few.st
  have := u.few.st
  show w.length ≤ _
  omega
theorem law23_ring  : FSpec P F.law23_ring [] (vRing) := by
 refine FSpec.intro fn.law23_ring (by rfl) (by rfl) (nb9 (by rfl)) fun E hE => (AW.sg hE rfl (al z.Ring rfl fun b0 => (OL.nil (AW.sg hE rfl (bd z.Ring pl.Ring (cs := [_,_]) rfl (sto sz.Ring rfl rfl rfl rfl rfl (nb9 rfl) (cells2 := [_,_]) rfl (OL.nil ?_)))))))
 exact AW.ret (RetQ.r ⟨_, .cellA rfl rfl ag.Ring (nb9 rfl) .nil, .ag (.cons (.le (VLe.refl _)) (.cons (.le (VLe.mt)) .nil))⟩)
theorem law23_plain {m : MModel} {e : Bool} (n1 : m.ini.length ≤ 9223372036854775807) (n2 : m.fin.length ≤ 9223372036854775807) (n3 : m.arcs.length ≤ 9223372036854775807) : FSpec P F.law23_plain [vModelE m e] (vAu (autoOf m 2 3)) := by
 refine FSpec.intro fn.law23_plain (by rfl) (by rfl) (nb9 (by rfl)) fun E hE => (AW.sg hE rfl (bxA rfl rfl fun b1 => (al z.Auto rfl fun b2 => (OL.nil (AW.sg hE rfl (faP fd.Model_4 rfl rfl (sto sz.bool rfl rfl rfl rfl rfl (nb9 rfl) (cells2 := [_,_,_,_,_]) rfl ?_)))))))
 refine OL.nil (AW.seq (AW.dg 1 [0,1,2,3] order_free hE rfl (by kernel_rfl) (OI.of_OL (os := [_,_,_,_]) rfl ?_)))
 exact ldPA ag.Model rfl rfl (vs := [_,_,_,_,_]) rfl (nb9 rfl) (clv rfl (.nil) (law23_ring) (clv rfl (.cons (VLe.refl _) (.cons (VLe.refl _) (.cons (VLe.refl _) (.cons (VLe.refl _) (.nil))))) (AutoI (m := m) (sym := 2) (most := 3) (by decide) (by decide) n1 n2 n3) (sto sz.Auto rfl rfl rfl rfl rfl (nb9 rfl) (cells2 := [_,_,_,_,_,_,_]) rfl (OL.nil (AW.ret (RetQ.r ⟨_, .cellA rfl rfl ag.Auto (nb9 rfl) .nil, .ag (.cons (.le (VLe.refl _)) (.cons (.le (VLe.refl _)) (.cons (.le (VLe.refl _)) (.cons (.le (VLe.refl _)) (.cons (.le (VLe.refl _)) (.cons (.le (VLe.refl _)) (.cons (.le (VLe.refl _)) .nil)))))))⟩))))))
theorem law23_awake  : FSpec P F.law23_awake [] (.d (dB true)) := by
 refine FSpec.intro fn.law23_awake (by rfl) (by rfl) (nb9 (by rfl)) fun E hE => (AW.sg hE rfl (asD rfl (OL.nil (AW.sg hE rfl (clv rfl (.nil) (law23_ring) (clv rfl .rq2 (ref_OfQ (n := 1) (d := 2) (by decide) (by decide) (by decide)) ?_))))))
 rw [half_q]
 refine bd z.Weight pl.Weight (cs := [_,_,_,_,_,_,_,_]) rfl (clv rfl (.cons (VLe.refl _) (.cons (VLe.refl _) (.cons (VLe.refl _) (.cons (vle_wq) .nil)))) (r6Letter (q := 1 / 2) half_szL half_n0) (mvT rfl (ex rfl rfl (ex rfl rfl (al z.Auto rfl fun b1 => (sto sz.Auto rfl rfl rfl rfl rfl (nb9 rfl) (cells2 := [_,_,_,_,_,_,_]) rfl (asD rfl ?_)))))))
 refine OL.nil (AW.sg hE rfl (clv rfl (.nil) (law23_ring) (clv rfl .rq2 (ref_OfQ (n := 1) (d := 3) (by decide) (by decide) (by decide)) ?_)))
 rw [third_q]
 refine bd z.Weight pl.Weight (cs := [_,_,_,_,_,_,_,_]) rfl (clv rfl (.cons (VLe.refl _) (.cons (VLe.refl _) (.cons (VLe.refl _) (.cons (vle_wq) .nil)))) (r6Letter (q := 1 / 3) third_szL third_n0) (mvT rfl (ex rfl rfl (ex rfl rfl (al z.Auto rfl fun b3 => (sto sz.Auto rfl rfl rfl rfl rfl (nb9 rfl) (cells2 := [_,_,_,_,_,_,_]) rfl (asD rfl ?_)))))))
 refine OL.nil (AW.sg hE rfl (ldPA ag.Auto rfl rfl (vs := [_,_,_,_,_,_,_]) rfl (nb9 rfl) (ldPA ag.Auto rfl rfl (vs := [_,_,_,_,_,_,_]) rfl (nb9 rfl) (clv rfl (.cons (VLe.refl _) (.cons (VLe.refl _) (.nil))) (EqualA (a := letterOf (1 / 2)) (b := letterOf (1 / 3)) (take_letter half_szL) (take_letter third_szL) (by decide)) ?_))))
 rw [let_eq]
 refine mvT rfl (ex rfl rfl (ex rfl rfl (ex rfl rfl (asD rfl (asD rfl (asD rfl (OL.nil ?_)))))))
 refine AW.sg hE rfl (ldPA ag.Auto rfl rfl (vs := [_,_,_,_,_,_,_]) rfl (nb9 rfl) (clv rfl (.cons (VLe.refl _) (.nil)) (RankA (a := letterOf (1 / 2)) (take_letter half_szL) (by decide)) ?_))
 rw [let_rank]
 refine mvT rfl (ex rfl rfl (ex rfl rfl (asD rfl (asD rfl (OL.nil (AW.sg hE rfl (mvD rfl ?_)))))))
 refine c_eql rfl rfl (c := true) (decide_eq_true rfl) (mvD rfl (OL.yes rfl (mvD (y := dB false) rfl (OL.yes rfl (nt rfl (pkT rfl rfl (mvD rfl ?_)))))))
 refine OL.yes rfl (mvD rfl (OL.yes rfl (lt1 (y := dI 1) sl.ints (VC.d _).vd rfl (by decide) (OL.yes rfl (clv rfl (.cons (VLe.refl _) (.cons (VLe.refl _) (.nil))) (r5SameT (l := [1]) (m := [1]) (by decide) rfl) (pkT rfl rfl (mvD rfl ?_)))))))
 refine OL.yes rfl (mvD rfl (OL.yes rfl (c_eql rfl rfl (c := true) (decide_eq_true rfl) (pkT rfl rfl (mvD rfl (OL.yes rfl (mvD rfl ?_)))))))
 exact OL.yes rfl (c_eql rfl rfl (c := true) (decide_eq_true rfl) (pkT rfl rfl (asD rfl (OL.nil (AW.ret (RetQ.r ⟨_, .tmp rfl .nil, .le (VLe.refl _)⟩))))))
set_option maxHeartbeats 1600000 in
theorem law_EqualIsAnEquivalence {l m n : MModel} {e1 e2 e3 : Bool} (ha1 : l.ini.length ≤ 9223372036854775807) (ha2 : l.fin.length ≤ 9223372036854775807) (ha3 : l.arcs.length ≤ 9223372036854775807) (hb1 : m.ini.length ≤ 9223372036854775807) (hb2 : m.fin.length ≤ 9223372036854775807) (hb3 : m.arcs.length ≤ 9223372036854775807) (hc1 : n.ini.length ≤ 9223372036854775807) (hc2 : n.fin.length ≤ 9223372036854775807) (hc3 : n.arcs.length ≤ 9223372036854775807) : FSpec P F.law23_EqualIsAnEquivalence [vModelE l e1, vModelE m e2, vModelE n e3] (.d (dB true)) := by
 have oa := (take_auto (m := l)).fit.ok
 have ob := (take_auto (m := m)).fit.ok
 have oc := (take_auto (m := n)).fit.ok
 have hs : eqA (autoOf m 2 3) (autoOf l 2 3) = eqA (autoOf l 2 3) (autoOf m 2 3) := eqA_sym oa ob rfl
 refine FSpec.intro fn.law23_EqualIsAnEquivalence (by rfl) (by rfl) (nb9 (by rfl)) fun E hE => (AW.sg hE rfl (bxA rfl rfl fun b3 => (bxA rfl rfl fun b4 => (bxA rfl rfl fun b5 => (asD rfl (OL.nil (AW.seq ?_)))))))
 refine AW.dg 1 [0,1,2,3,4,5,6,7,8,9,10,11] order_free hE rfl (by kernel_rfl) (OI.of_OL (os := [_,_,_,_,_,_,_,_,_,_,_,_]) rfl ?_)
 refine ldPA ag.Model rfl rfl (vs := [_,_,_,_,_]) rfl (nb9 rfl) (clv rfl (.cons (VLe.refl _) (.nil)) (law23_plain (m := l) ha1 ha2 ha3) (ldPA ag.Model rfl rfl (vs := [_,_,_,_,_]) rfl (nb9 rfl) (clv rfl (.cons (VLe.refl _) (.nil)) (law23_plain (m := m) hb1 hb2 hb3) (ldPA ag.Model rfl rfl (vs := [_,_,_,_,_]) rfl (nb9 rfl) (clv rfl (.cons (VLe.refl _) (.nil)) (law23_plain (m := n) hc1 hc2 hc3) (al z.Auto rfl fun b7 => (al z.Auto rfl fun b8 => ?_)))))))
 refine al z.Auto rfl fun b9 => (sto sz.Auto rfl rfl rfl rfl rfl (nb9 rfl) (cells2 := [_,_,_,_,_,_,_]) rfl (sto sz.Auto rfl rfl rfl rfl rfl (nb9 rfl) (cells2 := [_,_,_,_,_,_,_]) rfl (sto sz.Auto rfl rfl rfl rfl rfl (nb9 rfl) (cells2 := [_,_,_,_,_,_,_]) rfl (OL.nil (AW.seq (AW.dg 1 [0,1,2,3,4,5,6,7,8,9,10] order_free hE rfl (by kernel_rfl) (OI.of_OL (os := [_,_,_,_,_,_,_,_,_,_,_]) rfl ?_)))))))
 refine ldPA ag.Auto rfl rfl (vs := [_,_,_,_,_,_,_]) rfl (nb9 rfl) (ldPA ag.Auto rfl rfl (vs := [_,_,_,_,_,_,_]) rfl (nb9 rfl) (clv rfl (.cons (VLe.refl _) (.nil)) (r6Form (a := (autoOf l 2 3)) oa take_auto.fit.sz take_auto.fit.st) (clv rfl (.cons (VLe.refl _) (.cons (VLe.refl _) (.nil))) (EqualA (a := (autoOf l 2 3)) (b := formOf (autoOf l 2 3)) take_auto take_form (by decide)) ?_)))
 rw [eqA_form oa]
 refine mvT rfl (ex rfl rfl (ex rfl rfl (ex rfl rfl (asD rfl (asD rfl (asD rfl (OL.nil ?_)))))))
 refine AW.sg hE rfl (ldPA ag.Auto rfl rfl (vs := [_,_,_,_,_,_,_]) rfl (nb9 rfl) (ldPA ag.Auto rfl rfl (vs := [_,_,_,_,_,_,_]) rfl (nb9 rfl) (clv rfl (.cons (VLe.refl _) (.cons (VLe.refl _) (.nil))) (EqualA (a := (autoOf l 2 3)) (b := (autoOf m 2 3)) take_auto take_auto (by decide)) (mvT rfl (ex rfl rfl (ex rfl rfl (ex rfl rfl ?_)))))))
 refine asD rfl (asD rfl (asD rfl (OL.nil (AW.sg hE rfl (ldPA ag.Auto rfl rfl (vs := [_,_,_,_,_,_,_]) rfl (nb9 rfl) (ldPA ag.Auto rfl rfl (vs := [_,_,_,_,_,_,_]) rfl (nb9 rfl) (clv rfl (.cons (VLe.refl _) (.cons (VLe.refl _) (.nil))) (EqualA (a := (autoOf m 2 3)) (b := (autoOf l 2 3)) take_auto take_auto (by decide)) ?_)))))))
 rw [hs]
 refine mvT rfl (ex rfl rfl (ex rfl rfl (ex rfl rfl (asD rfl (asD rfl (asD rfl (OL.nil ?_)))))))
 refine AW.sg hE rfl (ldPA ag.Auto rfl rfl (vs := [_,_,_,_,_,_,_]) rfl (nb9 rfl) (ldPA ag.Auto rfl rfl (vs := [_,_,_,_,_,_,_]) rfl (nb9 rfl) (clv rfl (.cons (VLe.refl _) (.cons (VLe.refl _) (.nil))) (EqualA (a := (autoOf m 2 3)) (b := (autoOf n 2 3)) take_auto take_auto (by decide)) (mvT rfl (ex rfl rfl (ex rfl rfl (ex rfl rfl ?_)))))))
 refine asD rfl (asD rfl (asD rfl (OL.nil (AW.sg hE rfl (ldPA ag.Auto rfl rfl (vs := [_,_,_,_,_,_,_]) rfl (nb9 rfl) (ldPA ag.Auto rfl rfl (vs := [_,_,_,_,_,_,_]) rfl (nb9 rfl) (clv rfl (.cons (VLe.refl _) (.cons (VLe.refl _) (.nil))) (EqualA (a := (autoOf l 2 3)) (b := (autoOf n 2 3)) take_auto take_auto (by decide)) ?_)))))))
 refine mvT rfl (ex rfl rfl (ex rfl rfl (ex rfl rfl (asD rfl (asD rfl (asD rfl (OL.nil ?_)))))))
 refine AW.sg hE rfl (clv rfl (.nil) (law23_awake) (mvD rfl (OL.yes rfl (mvD rfl (OL.yes rfl (c_eql rfl rfl (c := true) (decide_eq_true rfl) (pkT rfl rfl ?_)))))))
 refine mvD rfl (OL.yes rfl (mvD rfl (OL.yes rfl (c_eql rfl rfl (c := true) (decide_eq_true rfl) (pkT rfl rfl (mvD rfl (OL.yes rfl ?_)))))))
 refine mvD rfl (OL.yes rfl (c_eql rfl rfl (c := true) (decide_eq_true rfl) (pkT rfl rfl (mvD rfl (OL.yes rfl (mvD rfl (OL.yes rfl ?_)))))))
 refine c_eql rfl rfl (c := true) (decide_eq_true rfl) (pkT rfl rfl (mvD rfl (OL.yes rfl (mvD rfl (OL.yes rfl (c_eql rfl rfl (c := true) (decide_eq_true rfl) (pkT rfl rfl ?_)))))))
 refine mvD rfl (OL.yes rfl (mvD (y := dB true) rfl (pkT rfl rfl (mvD rfl (OL.yes rfl (mvD rfl (OL.yes rfl ?_)))))))
 refine mvD rfl (OL.yes rfl (eqbS bt.bool rfl rfl rfl (pkT rfl rfl (mvD rfl (OL.yes rfl (mvD rfl (OL.yes rfl ?_)))))))
 refine mvD rfl (OL.yes rfl (clv rfl (.cons (VLe.refl _) (.cons (VLe.refl _) (.nil))) (r5SameT (eq_len take_auto take_auto) rfl) (pkT rfl rfl (mvD rfl (OL.yes rfl (mvD rfl (OL.yes rfl ?_)))))))
 refine nt rfl (OL.yes rfl (mvD rfl (OL.split 104 rfl (fun hu => ?_) (fun hu => ?_))))
 ·have _hu := hu
  refine OL.nd rfl (OL.nd rfl (OL.yes rfl (pkT rfl rfl (OL.yes rfl (mvD rfl (OL.nd rfl (OL.yes rfl ?_)))))))
  exact pkT rfl rfl (pkT rfl rfl (asD rfl (OL.nil (AW.ret (RetQ.r ⟨_, .tmp rfl .nil, .le (VLe.refl _)⟩)))))
 ·have hu : (eqA (autoOf l 2 3) (autoOf m 2 3)).isNone = true := by simpa using hu
  refine OL.yes rfl (mvD rfl (OL.yes rfl (nt rfl (OL.yes rfl (pkF rfl rfl (OL.yes rfl (mvD rfl ?_)))))))
  refine OL.split 108 rfl (fun hx => ?_) (fun hx => ?_)
  ·have _hx := hx
   exact OL.nd rfl (OL.yes rfl (pkT rfl rfl (pkT rfl rfl (asD rfl (OL.nil (AW.ret (RetQ.r ⟨_, .tmp rfl .nil, .le (VLe.refl _)⟩)))))))
  ·have hx : (eqA (autoOf m 2 3) (autoOf n 2 3)).isNone = true := by simpa using hx
   have hy : (eqA (autoOf l 2 3) (autoOf n 2 3)).isNone = true := by rw [eqA_trans oa ob oc rfl rfl (Option.isNone_iff_eq_none.1 hu) (Option.isNone_iff_eq_none.1 hx)]; rfl
   exact OL.yes rfl (mvD rfl (OL.yes rfl (pkF rfl rfl (pkT rfl rfl (asD rfl (OL.nil (AW.ret (RetQ.r ⟨_, .tmp rfl .nil, .le (VLe.bool (hy))⟩))))))))
end Go.Proofs.YtifcpafkcjdfhaaGreatDoor

set_option linter.unusedVariables false
set_option linter.unusedSimpArgs false
set_option linter.unusedVariables false
set_option linter.unusedSimpArgs false
namespace Go.AL
open Go Go.BigFrame Go.RowKit Go.ChangeShapes Go.WideShapes Go.ChangeAt Go.Joins Go.Deep
theorem array5 {α : Type} {cs : Array α} (h : cs.size = 5) : ∃ c0 c1 c2 c3 c4, cs = #[c0, c1, c2, c3, c4] := by
 obtain ⟨l⟩ := cs
 match l, h with
 | [c0, c1, c2, c3, c4], _ => exact ⟨c0, c1, c2, c3, c4, rfl⟩
section
variable {H : Type} {enc : TypeId × Value → H} {P : Program} {w : World} {base : Nat} {spare : Nat → Bool} {held : Bool}
theorem trod_struct5 {t : TypeId} {f0 f1 f2 f3 f4 : Field} {fuel : Nat} {cs : List Value} {x : DataW H × List MemPlace} (ht : P.underlying t = some (.struct #[f0, f1, f2, f3, f4])) (h : DataW.trod enc P w base spare held fuel t cs = some x) :
  ∃ y0 y1 y2 y3 y4 n, x = (.agg [y0.1, y1.1, y2.1, y3.1, y4.1], y0.2 ++ (y1.2 ++ (y2.2 ++ (y3.2 ++ y4.2)))) ∧ cs.length = P.cellsOf t ∧ DataW.trod enc P w base spare held n f0.type ((cs.drop f0.offset).take (P.cellsOf f0.type)) = some y0 ∧
   DataW.trod enc P w base spare held n f1.type ((cs.drop f1.offset).take (P.cellsOf f1.type)) = some y1 ∧ DataW.trod enc P w base spare held n f2.type ((cs.drop f2.offset).take (P.cellsOf f2.type)) = some y2 ∧
   DataW.trod enc P w base spare held n f3.type ((cs.drop f3.offset).take (P.cellsOf f3.type)) = some y3 ∧ DataW.trod enc P w base spare held n f4.type ((cs.drop f4.offset).take (P.cellsOf f4.type)) = some y4 := by
 obtain ⟨xs, n, _, rfl, hl, hlen, hf⟩ := DataW.trod_struct ht h
 match xs, hlen with
 | [y0, y1, y2, y3, y4], _ => exact ⟨y0, y1, y2, y3, y4, n, by simp, hl, by simpa using hf 0 f0 rfl, by simpa using hf 1 f1 rfl, by simpa using hf 2 f2 rfl, by simpa using hf 3 f3 rfl, by simpa using hf 4 f4 rfl⟩
theorem open_agg5 {r : Reach} {b0 : Nat} {t : TypeId} {f0 f1 f2 f3 f4 : Field} {v : Value} {d : DataW H} {p : List MemPlace} (hs : P.underlying t = some (.struct #[f0, f1, f2, f3, f4])) (hone : oneCellFields P #[f0, f1, f2, f3, f4] = true) (hC : P.cellsOf t = 5)
  (hv : Value.okWide P w r b0 t v) (h : DataW.Trod enc P w base spare held t v d p) :
  ∃ (v0 v1 v2 v3 v4 : Value) (y0 y1 y2 y3 y4 : DataW H × List MemPlace) (n : Nat), v = .agg #[v0, v1, v2, v3, v4] ∧
   DataW.trod enc P w base spare held n f0.type [v0] = some y0 ∧ DataW.trod enc P w base spare held n f1.type [v1] = some y1 ∧ DataW.trod enc P w base spare held n f2.type [v2] = some y2 ∧ DataW.trod enc P w base spare held n f3.type [v3] = some y3 ∧ DataW.trod enc P w base spare held n f4.type [v4] = some y4 := by
 obtain ⟨cs, rfl, hsz⟩ := okWide_struct hs hv
 obtain ⟨c0, c1, c2, c3, c4, rfl⟩ := array5 (hsz.trans hC)
 obtain ⟨fuel, hf⟩ := h
 obtain ⟨y0, y1, y2, y3, y4, n, hx, _, h0, h1, h2, h3, h4⟩ := trod_struct5 hs hf
 obtain ⟨o0, k0⟩ := hone_of hone 0 f0 rfl
 obtain ⟨o1, k1⟩ := hone_of hone 1 f1 rfl
 obtain ⟨o2, k2⟩ := hone_of hone 2 f2 rfl
 obtain ⟨o3, k3⟩ := hone_of hone 3 f3 rfl
 obtain ⟨o4, k4⟩ := hone_of hone 4 f4 rfl
 exact ⟨c0, c1, c2, c3, c4, y0, y1, y2, y3, y4, n, rfl, by simpa [Value.cells, o0, k0] using h0, by simpa [Value.cells, o1, k1] using h1, by simpa [Value.cells, o2, k2] using h2, by simpa [Value.cells, o3, k3] using h3, by simpa [Value.cells, o4, k4] using h4⟩
end
theorem bool_open {P : Program} {H : Type} {enc : TypeId × Value → H} {w : World} {base fuel : Nat} {spare : Nat → Bool} {held : Bool} {t : TypeId} {v : Value} {x : DataW H × List MemPlace} (ht : P.underlying t = some .bool)
  (h : DataW.trod enc P w base spare held fuel t [v] = some x) : ∃ b, v = .bool b := by
 obtain ⟨b, h1, _⟩ := DataW.trod_bool ht h
 simp at h1
 exact ⟨b, h1⟩
theorem simv_agg5 {F : Hp} {u0 u1 u2 u3 u4 : Value} {x0 x1 x2 x3 x4 : D} (h0 : SimV F u0 (.d x0)) (h1 : SimV F u1 (.d x1)) (h2 : SimV F u2 (.d x2)) (h3 : SimV F u3 (.d x3)) (h4 : SimV F u4 (.d x4)) : SimV F (.agg #[u0, u1, u2, u3, u4]) (.ag [.d x0, .d x1, .d x2, .d x3, .d x4]) := by
 have h := simvs_cons h0 (simvs_cons h1 (simvs_cons h2 (simvs_cons h3 (simvs_cons h4 simvs_nil))))
 refine .ag (us := [u0, u1, u2, u3, u4]) h.1 (fun u hu => ?_) h.2
 simp only [List.mem_cons, List.not_mem_nil, or_false] at hu
 rcases hu with rfl | rfl | rfl | rfl | rfl
 ·exact h0.one
 ·exact h1.one
 ·exact h2.one
 ·exact h3.one
 ·exact h4.one
end Go.AL

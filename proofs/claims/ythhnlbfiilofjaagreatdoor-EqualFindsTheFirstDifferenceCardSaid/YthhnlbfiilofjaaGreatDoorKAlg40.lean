/-
  AL, part 40: a struct of five cells by value, opened and laid as data.
-/
import Derived.Test.YthhnlbfiilofjaaGreatDoorKWkY
import Derived.Test.YthhnlbfiilofjaaGreatDoorKAlgd
import Derived.Lib.SmallJoins
set_option linter.unusedVariables false
set_option linter.unusedSimpArgs false
namespace Go.Proofs.YthhnlbfiilofjaaGreatDoor
open Go Go.AL
theorem take_auto2 {m : MModel} : Au.Take (autoOf m 2 2) 2 :=
 have ok := auto_ok (m := m) (sym := 2) (most := 2) (by decide) (by decide)
 have hs := stOf_le (m := m) (most := 2) (by decide)
 ⟨⟨ok, auto_sz.wide, rfl, (show 2 ≤ 32 by decide), (by show stOf m 2 ≤ 64; omega)⟩, auto_sz.few (by show stOf m 2 ≤ 6; omega), hs.1⟩
theorem wt_auto2 {m : MModel} : Au.Wt (autoOf m 2 2) := ⟨take_auto2.fit.ok, auto_sz, (show 2 ≤ 32 by decide), take_auto2.fit.st⟩
theorem auto4 {m n : MModel} : (autoOf m 2 2).st + (autoOf n 2 2).st ≤ 4 := by
 have h1 := stOf_le (m := m) (most := 2) (by decide)
 have h2 := stOf_le (m := n) (most := 2) (by decide)
 show stOf m 2 + stOf n 2 ≤ 4
 omega
theorem ser_sz {a : Au} {w : List Int} (f : Au.Wt a) (hw : InW a.sym w) (hl : w.length ≤ 4) : sz (serA a w) ≤ 68719476736 := by
 rw [← dotF_ser f.ok hw]
 have h := dotF_sz (v := fwA a w) (w := a.fin) (B := 33331) (i := a.st) (fun j => by
  have h := fwA_sz f.ok f.sz w w.length (Nat.le_refl _) j
  rw [List.take_length] at h
  exact Nat.le_trans h (fB_le hl)) (fun i => small_get f.sz.fin (Nat.le_refl _) i)
 have h2 := Nat.mul_le_mul_right (33331 + 1 + 1) f.st
 omega
theorem in4 {l : List Int} : InW 2 (wordW l 2 4) := wordW_in (by decide)
theorem word4 {l : List Int} : (wordW l 2 4).length ≤ 4 := by rw [wordW_len]; exact Nat.min_le_left ..
set_option maxRecDepth 8000 in
set_option maxHeartbeats 3200000 in
theorem law_EqualFindsTheFirstDifference {m n : MModel} {e1 e2 : Bool} {l : List Int} (ha1 : m.ini.length ≤ 9223372036854775807) (ha2 : m.fin.length ≤ 9223372036854775807) (ha3 : m.arcs.length ≤ 9223372036854775807) (hb1 : n.ini.length ≤ 9223372036854775807) (hb2 : n.fin.length ≤ 9223372036854775807) (hb3 : n.arcs.length ≤ 9223372036854775807) (nl : l.length ≤ 9223372036854775807) : FSpec P F.law23_EqualFindsTheFirstDifference [vModelE m e1, vModelE n e2, .d (ints l)] (.d (dB true)) := by
 have oa := (take_auto2 (m := m)).fit.ok
 have ob := (take_auto2 (m := n)).fit.ok
 have h4 := auto4 (m := m) (n := n)
 have hwk := wordsK_len 15
 refine FSpec.intro fn.law23_EqualFindsTheFirstDifference (by rfl) (by rfl) (nb9 (by rfl)) fun E hE => (AW.sg hE rfl (bxA rfl rfl fun b3 => (bxA rfl rfl fun b4 => (asD rfl (OL.nil (AW.sg hE rfl (faP fd.Model_4 rfl rfl ?_)))))))
 refine sto sz.bool rfl rfl rfl rfl rfl (nb9 rfl) (cells2 := [_,_,_,_,_]) rfl (faP fd.Model_4 rfl rfl (sto sz.bool rfl rfl rfl rfl rfl (nb9 rfl) (cells2 := [_,_,_,_,_]) rfl (OL.nil (AW.seq (AW.dg 1 [0,1,2,3,4,5,6,7,8,9] order_free hE rfl (by kernel_rfl) (OI.of_OL (os := [_,_,_,_,_,_,_,_,_,_]) rfl ?_))))))
 refine ldPA ag.Model rfl rfl (vs := [_,_,_,_,_]) rfl (nb9 rfl) (clv rfl (.nil) (law23_ring) (clv rfl (.cons (VLe.refl _) (.cons (VLe.refl _) (.cons (VLe.refl _) (.cons (VLe.refl _) (.nil))))) (AutoI (m := m) (sym := 2) (most := 2) (by decide) (by decide) ha1 ha2 ha3) (ldPA ag.Model rfl rfl (vs := [_,_,_,_,_]) rfl (nb9 rfl) (clv rfl (.nil) (law23_ring) (clv rfl (.cons (VLe.refl _) (.cons (VLe.refl _) (.cons (VLe.refl _) (.cons (VLe.refl _) (.nil))))) (AutoI (m := n) (sym := 2) (most := 2) (by decide) (by decide) hb1 hb2 hb3) (al z.Auto rfl fun b7 => (al z.Auto rfl fun b8 => ?_)))))))
 refine sto sz.Auto rfl rfl rfl rfl rfl (nb9 rfl) (cells2 := [_,_,_,_,_,_,_]) rfl (sto sz.Auto rfl rfl rfl rfl rfl (nb9 rfl) (cells2 := [_,_,_,_,_,_,_]) rfl (OL.nil (AW.sg hE rfl (ldPA ag.Auto rfl rfl (vs := [_,_,_,_,_,_,_]) rfl (nb9 rfl) (ldPA ag.Auto rfl rfl (vs := [_,_,_,_,_,_,_]) rfl (nb9 rfl) (clv rfl (.cons (VLe.refl _) (.cons (VLe.refl _) (.nil))) (EqualA (a := (autoOf m 2 2)) (b := (autoOf n 2 2)) take_auto2 take_auto2 (by decide) (Nat.le_trans auto4 (by decide))) (mvT rfl ?_)))))))
 refine ex rfl rfl (ex rfl rfl (ex rfl rfl (asD rfl (asD rfl (asD rfl (OL.nil (AW.seq ?_)))))))
 refine AW.sg hE rfl (mvD rfl (c_neq rfl rfl (c := false) (by exact cne_f (by omega)) (OL.nil (AW.cond rfl (fun hno => absurd hno (by decide)) (fun _ => ?_)))))
 refine AW.skip (AW.seq (AW.sg hE rfl (mvD rfl (OL.nil (AW.cond rfl (fun hs => ?_) (fun hs => ?_))))))
 ·have hn : (eqA (autoOf m 2 2) (autoOf n 2 2)) = none := Option.isNone_iff_eq_none.1 hs
  have hser := (eqA_none oa ob rfl).1 hn (wordW l 2 4) in4
  have hz0 : (eqA (autoOf m 2 2) (autoOf n 2 2)).getD [] = [] := by rw [hn]; rfl
  have hz1 : ((eqA (autoOf m 2 2) (autoOf n 2 2)).getD []).length = 0 := by rw [hz0]; rfl
  refine AW.sg hE rfl (mvD rfl (clv rfl (.cons (VLe.refl _) (.cons (VLe.refl _) (.cons (VLe.refl _) (.nil)))) (WordI (l := l) (sym := 2) (most := 4) (by decide) (by decide) nl) (asD rfl (OL.nil (AW.sg hE rfl (ldPA ag.Auto rfl rfl (vs := [_,_,_,_,_,_,_]) rfl (nb9 rfl) (mvD rfl ?_)))))))
  refine clv rfl (.cons (VLe.refl _) (.cons (VLe.refl _) (.nil))) (r8Weight (a := (autoOf m 2 2)) (w := wordW l 2 4) wt_auto2 in4 word4) (mvT rfl (ex rfl rfl (ex rfl rfl (al z.Weight rfl fun b13 => (sto sz.Weight rfl rfl rfl rfl rfl (nb9 rfl) (cells2 := [_,_,_,_,_,_,_,_]) rfl (asD rfl (OL.nil ?_)))))))
  refine AW.sg hE rfl (ldPA ag.Auto rfl rfl (vs := [_,_,_,_,_,_,_]) rfl (nb9 rfl) (mvD rfl (clv rfl (.cons (VLe.refl _) (.cons (VLe.refl _) (.nil))) (r8Weight (a := (autoOf n 2 2)) (w := wordW l 2 4) wt_auto2 in4 word4) (mvT rfl (ex rfl rfl (ex rfl rfl (al z.Weight rfl fun b15 => ?_)))))))
  refine sto sz.Weight rfl rfl rfl rfl rfl (nb9 rfl) (cells2 := [_,_,_,_,_,_,_,_]) rfl (asD rfl (OL.nil (AW.sg hE rfl (clv rfl (.nil) (law23_awake) (mvD rfl (OL.yes rfl (mvD rfl ?_)))))))
  refine OL.yes rfl (lnL sl.ints rfl rfl (OL.yes rfl (c_eql rfl rfl (c := true) (decide_eq_true (by omega)) (pkT rfl rfl (mvD rfl (OL.yes rfl (faP fd.Weight_0 rfl rfl ?_)))))))
  refine OL.yes rfl (ldPA ag.Rat rfl rfl (vs := [_,_,_]) rfl (nb9 rfl) (OL.yes rfl (faP fd.Weight_0 rfl rfl (OL.yes rfl (ldPA ag.Rat rfl rfl (vs := [_,_,_]) rfl (nb9 rfl) (OL.yes rfl (clv rfl (.cons (VLe.refl _) (.cons (VLe.refl _) (.nil))) (ref_SameQ (p := serA (autoOf m 2 2) (wordW l 2 4)) (q := serA (autoOf n 2 2) (wordW l 2 4)) (ser_sz wt_auto2 in4 word4) (ser_sz wt_auto2 in4 word4)) ?_)))))))
  rw [decide_eq_true hser]
  exact pkT rfl rfl (asD rfl (OL.nil (AW.ret (RetQ.r ⟨_, .tmp rfl .nil, .le (VLe.refl _)⟩))))
 ·have hne : (eqA (autoOf m 2 2) (autoOf n 2 2)) ≠ none := fun h => by rw [h] at hs; cases hs
  obtain ⟨w, hw⟩ := Option.ne_none_iff_exists'.1 hne
  have hwl := (eqA_first oa ob rfl hw).2.2.2
  refine AW.skip (AW.sg hE rfl (clv rfl (.cons (VLe.refl _) (.cons (VLe.refl _) (.nil))) (r5Words) (asD rfl (OL.nil (AW.seq (AW.sg hE rfl (asD rfl ?_)))))))
  refine OL.nil (AW.block ?_)
  refine AW.whileK (α := Nat) [(7, _), (8, _), (10, _), (17, _)] [(7, _), (8, _)] (fun i => [(18, .d (dI i))]) (fun i => []) (fun i => i ≤ 15 ∧ ∀ j, j < i → serA (autoOf m 2 2) (itW j) = serA (autoOf n 2 2) (itW j)) (fun i => 15 - i) 0 (.cons (knP rfl) (.cons (knP rfl) (.cons (knD rfl) (.cons (knD rfl) .nil)))) (.cons (owB rfl) (.cons (owB rfl) .nil)) ⟨⟨Nat.zero_le _, fun j hj => by omega⟩, .rq1, .nil⟩ ?_
  rintro i ⟨h1, h2⟩
  have h1 : i ≤ 15 := h1
  have h2 : ∀ j, j < i → serA (autoOf m 2 2) (itW j) = serA (autoOf n 2 2) (itW j) := h2
  refine AW.seq (AW.sg hE rfl (mvD rfl (mvD rfl (lnL sl.intss rfl rfl (c_lss rfl rfl rfl (OL.nil (AW.cond rfl (fun h72 => ?_) (fun h72 => ?_))))))))
  ·try simp only [dx9] at h72
   refine AW.skip (AW.seq (AW.block (AW.seq ?_)))
   have hi : i < 15 := by omega
   have hin := itW_in i hi
   have hil : (itW i).length ≤ 4 := Nat.le_trans (itW_small i hi) (by decide)
   refine AW.dg 1 [0,1,2,3,4,5,6,7,8,9,10,11] order_free hE rfl (by kernel_rfl) (OI.of_OL (os := [_,_,_,_,_,_,_,_,_,_,_,_]) rfl ?_)
   refine ldPA ag.Auto rfl rfl (vs := [_,_,_,_,_,_,_]) rfl (nb9 rfl) (mvD rfl (mvD rfl (ixLn sl.intss [] rfl rfl (by omega) rfl rfl (ldRC ce.ints rfl ?_))))
   rw [wordsK_get hi]
   refine clv rfl (.cons (VLe.refl _) (.cons (VLe.refl _) (.nil))) (r8Weight (a := (autoOf m 2 2)) (w := itW i) wt_auto2 hin hil) (mvT rfl (ex rfl rfl (ex rfl rfl (al z.Weight rfl fun b19 => (sto sz.Weight rfl rfl rfl rfl rfl (nb9 rfl) (cells2 := [_,_,_,_,_,_,_,_]) rfl (asD rfl (OL.nil ?_)))))))
   refine AW.seq (AW.dg 1 [0,1,2,3,4,5,6,7,8,9,10,11] order_free hE rfl (by kernel_rfl) (OI.of_OL (os := [_,_,_,_,_,_,_,_,_,_,_,_]) rfl ?_))
   refine ldPA ag.Auto rfl rfl (vs := [_,_,_,_,_,_,_]) rfl (nb9 rfl) (mvD rfl (mvD rfl (ixLn sl.intss [] rfl rfl (by omega) rfl rfl (ldRC ce.ints rfl ?_))))
   rw [wordsK_get hi]
   refine clv rfl (.cons (VLe.refl _) (.cons (VLe.refl _) (.nil))) (r8Weight (a := (autoOf n 2 2)) (w := itW i) wt_auto2 hin hil) (mvT rfl (ex rfl rfl (ex rfl rfl (al z.Weight rfl fun b21 => (sto sz.Weight rfl rfl rfl rfl rfl (nb9 rfl) (cells2 := [_,_,_,_,_,_,_,_]) rfl (asD rfl (OL.nil ?_)))))))
   refine AW.sg hE rfl (faP fd.Weight_0 rfl rfl (ldPA ag.Rat rfl rfl (vs := [_,_,_]) rfl (nb9 rfl) (faP fd.Weight_0 rfl rfl (ldPA ag.Rat rfl rfl (vs := [_,_,_]) rfl (nb9 rfl) (clv rfl (.cons (VLe.refl _) (.cons (VLe.refl _) (.nil))) (ref_SameQ (p := serA (autoOf m 2 2) (itW i)) (q := serA (autoOf n 2 2) (itW i)) (ser_sz wt_auto2 hin hil) (ser_sz wt_auto2 hin hil)) (nt rfl (OL.nil ?_)))))))
   refine AW.cond rfl (fun hd => ?_) (fun hd => ?_)
   ·have hd : serA (autoOf m 2 2) (itW i) ≠ serA (autoOf n 2 2) (itW i) := nd_t hd
    have hwi : w = itW i := first_word oa ob rfl rfl hw hi h4 hd h2
    have hgw : (eqA (autoOf m 2 2) (autoOf n 2 2)).getD [] = itW i := by rw [hw, hwi]; rfl
    have hgl : ((eqA (autoOf m 2 2) (autoOf n 2 2)).getD []).length < (autoOf m 2 2).st + (autoOf n 2 2).st := by rw [hw]; exact hwl
    have hg5 : ((eqA (autoOf m 2 2) (autoOf n 2 2)).getD []).length ≤ 1099511627776 := by omega
    refine AW.sg hE rfl (clv rfl (.nil) (law23_awake) (mvD rfl (OL.yes rfl (mvD rfl (OL.yes rfl (mvD rfl (OL.yes rfl ?_)))))))
    refine mvD rfl (OL.yes rfl (ixLn sl.intss [] rfl rfl (by omega) rfl rfl (OL.yes rfl (ldRC ce.ints rfl ?_))))
    rw [wordsK_get hi]
    refine OL.yes rfl (clv rfl (.cons (VLe.refl _) (.cons (VLe.refl _) (.nil))) (r5SameT hg5 hgw) (pkT rfl rfl (mvD rfl (OL.yes rfl (mvD rfl (OL.yes rfl (lnL sl.ints rfl rfl ?_)))))))
    refine OL.yes rfl (faP fd.Auto_2 rfl rfl (OL.yes rfl (ldPC ce.int rfl rfl rfl (OL.yes rfl (faP fd.Auto_2 rfl rfl (OL.yes rfl (ldPC ce.int rfl rfl rfl ?_)))))))
    exact OL.yes rfl (bo rfl rfl (bin_add (c := (((autoOf m 2 2).st + (autoOf n 2 2).st : Nat) : Int)) (by omega) (wrap_i64 (by omega))) (OL.yes rfl (c_lss rfl rfl (c := true) (decide_eq_true (by omega)) (pkT rfl rfl (asD rfl (OL.nil (AW.ret (RetQ.r ⟨_, .tmp rfl .nil, .le (VLe.refl _)⟩))))))))
   ·have hd : serA (autoOf m 2 2) (itW i) = serA (autoOf n 2 2) (itW i) := nd_f hd
    refine AW.skip (AW.rg hE rfl (mvD rfl (add_i64 rfl rfl (by omega) (asD rfl (OL.nil ?_)))))
    exact AW.again (x := i) (i + 1) (by omega) ⟨⟨by omega, fun j hj => (Nat.lt_or_ge j i).elim (fun h => h2 j h) fun h => by obtain rfl : j = i := (by omega); exact hd⟩, Knows.app .rq4 .rq1, Owns.app (.cons rfl (.cons rfl .nil)) (.nil)⟩
  ·try simp only [dx9] at h72
   refine AW.exit (AW.seq ?_)
   have hF : False := by
     obtain ⟨j, hj, hne9⟩ := some_word oa ob rfl rfl hw h4
     exact hne9 (h2 j (by omega))
   exact AW.rg hE rfl (asD rfl (OL.nil (AW.ret (RetQ.r ⟨_, .tmp rfl .nil, .le (hF.elim)⟩))))
end Go.Proofs.YthhnlbfiilofjaaGreatDoor

set_option linter.unusedVariables false
set_option linter.unusedSimpArgs false
set_option linter.unusedVariables false
set_option linter.unusedSimpArgs false
namespace Go.AL
open Go Go.BigFrame Go.RowKit Go.ChangeShapes Go.WideShapes Go.ChangeAt Go.Joins Go.Deep
theorem array5 {α : Type} {cs : Array α} (h : cs.size = 5) : ∃ c0 c1 c2 c3 c4, cs = #[c0, c1, c2, c3, c4] := by
 obtain ⟨l⟩ := cs
 match l, h with
 | [c0, c1, c2, c3, c4], _ => exact ⟨c0, c1, c2, c3, c4, rfl⟩
section
variable {H : Type} {enc : TypeId × Value → H} {P : Program} {w : World} {base : Nat} {spare : Nat → Bool} {held : Bool}
theorem trod_struct5 {t : TypeId} {f0 f1 f2 f3 f4 : Field} {fuel : Nat} {cs : List Value} {x : DataW H × List MemPlace} (ht : P.underlying t = some (.struct #[f0, f1, f2, f3, f4])) (h : DataW.trod enc P w base spare held fuel t cs = some x) :
  ∃ y0 y1 y2 y3 y4 n, x = (.agg [y0.1, y1.1, y2.1, y3.1, y4.1], y0.2 ++ (y1.2 ++ (y2.2 ++ (y3.2 ++ y4.2)))) ∧ cs.length = P.cellsOf t ∧ DataW.trod enc P w base spare held n f0.type ((cs.drop f0.offset).take (P.cellsOf f0.type)) = some y0 ∧
   DataW.trod enc P w base spare held n f1.type ((cs.drop f1.offset).take (P.cellsOf f1.type)) = some y1 ∧ DataW.trod enc P w base spare held n f2.type ((cs.drop f2.offset).take (P.cellsOf f2.type)) = some y2 ∧
   DataW.trod enc P w base spare held n f3.type ((cs.drop f3.offset).take (P.cellsOf f3.type)) = some y3 ∧ DataW.trod enc P w base spare held n f4.type ((cs.drop f4.offset).take (P.cellsOf f4.type)) = some y4 := by
 obtain ⟨xs, n, _, rfl, hl, hlen, hf⟩ := DataW.trod_struct ht h
 match xs, hlen with
 | [y0, y1, y2, y3, y4], _ => exact ⟨y0, y1, y2, y3, y4, n, by simp, hl, by simpa using hf 0 f0 rfl, by simpa using hf 1 f1 rfl, by simpa using hf 2 f2 rfl, by simpa using hf 3 f3 rfl, by simpa using hf 4 f4 rfl⟩
theorem open_agg5 {r : Reach} {b0 : Nat} {t : TypeId} {f0 f1 f2 f3 f4 : Field} {v : Value} {d : DataW H} {p : List MemPlace} (hs : P.underlying t = some (.struct #[f0, f1, f2, f3, f4])) (hone : oneCellFields P #[f0, f1, f2, f3, f4] = true) (hC : P.cellsOf t = 5)
  (hv : Value.okWide P w r b0 t v) (h : DataW.Trod enc P w base spare held t v d p) :
  ∃ (v0 v1 v2 v3 v4 : Value) (y0 y1 y2 y3 y4 : DataW H × List MemPlace) (n : Nat), v = .agg #[v0, v1, v2, v3, v4] ∧
   DataW.trod enc P w base spare held n f0.type [v0] = some y0 ∧ DataW.trod enc P w base spare held n f1.type [v1] = some y1 ∧ DataW.trod enc P w base spare held n f2.type [v2] = some y2 ∧ DataW.trod enc P w base spare held n f3.type [v3] = some y3 ∧ DataW.trod enc P w base spare held n f4.type [v4] = some y4 := by
 obtain ⟨cs, rfl, hsz⟩ := okWide_struct hs hv
 obtain ⟨c0, c1, c2, c3, c4, rfl⟩ := array5 (hsz.trans hC)
 obtain ⟨fuel, hf⟩ := h
 obtain ⟨y0, y1, y2, y3, y4, n, hx, _, h0, h1, h2, h3, h4⟩ := trod_struct5 hs hf
 obtain ⟨o0, k0⟩ := hone_of hone 0 f0 rfl
 obtain ⟨o1, k1⟩ := hone_of hone 1 f1 rfl
 obtain ⟨o2, k2⟩ := hone_of hone 2 f2 rfl
 obtain ⟨o3, k3⟩ := hone_of hone 3 f3 rfl
 obtain ⟨o4, k4⟩ := hone_of hone 4 f4 rfl
 exact ⟨c0, c1, c2, c3, c4, y0, y1, y2, y3, y4, n, rfl, by simpa [Value.cells, o0, k0] using h0, by simpa [Value.cells, o1, k1] using h1, by simpa [Value.cells, o2, k2] using h2, by simpa [Value.cells, o3, k3] using h3, by simpa [Value.cells, o4, k4] using h4⟩
end
theorem bool_open {P : Program} {H : Type} {enc : TypeId × Value → H} {w : World} {base fuel : Nat} {spare : Nat → Bool} {held : Bool} {t : TypeId} {v : Value} {x : DataW H × List MemPlace} (ht : P.underlying t = some .bool)
  (h : DataW.trod enc P w base spare held fuel t [v] = some x) : ∃ b, v = .bool b := by
 obtain ⟨b, h1, _⟩ := DataW.trod_bool ht h
 simp at h1
 exact ⟨b, h1⟩
theorem simv_agg5 {F : Hp} {u0 u1 u2 u3 u4 : Value} {x0 x1 x2 x3 x4 : D} (h0 : SimV F u0 (.d x0)) (h1 : SimV F u1 (.d x1)) (h2 : SimV F u2 (.d x2)) (h3 : SimV F u3 (.d x3)) (h4 : SimV F u4 (.d x4)) : SimV F (.agg #[u0, u1, u2, u3, u4]) (.ag [.d x0, .d x1, .d x2, .d x3, .d x4]) := by
 have h := simvs_cons h0 (simvs_cons h1 (simvs_cons h2 (simvs_cons h3 (simvs_cons h4 simvs_nil))))
 refine .ag (us := [u0, u1, u2, u3, u4]) h.1 (fun u hu => ?_) h.2
 simp only [List.mem_cons, List.not_mem_nil, or_false] at hu
 rcases hu with rfl | rfl | rfl | rfl | rfl
 ·exact h0.one
 ·exact h1.one
 ·exact h2.one
 ·exact h3.one
 ·exact h4.one
end Go.AL

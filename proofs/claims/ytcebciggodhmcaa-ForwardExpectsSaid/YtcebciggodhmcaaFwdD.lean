/-
  Walks of package forward, part 4: sums, the sanity check, the law ForwardExpects (printed by mk2.py).
-/
import Derived.Test.YtcebciggodhmcaaFwdC
import Derived.Test.YtcebciggodhmcaaWord
import Derived.Test.YtcebciggodhmcaaMod34c
set_option linter.unusedVariables false
set_option linter.unusedSimpArgs false
namespace Go.Proofs.Ytcebciggodhmcaa
open Go Go.AL
theorem pS_keep {s0 : S} {val : Nat → (Nat → Nat × Nat) → V} {blk : Nat → (Nat → Nat × Nat) → Option Blk} {own : Nat → Option Nat} {β : Nat → Nat × Nat} {L : Array Bool} {d i j : Nat} {b : Blk} (hi : i < L.size) (hno : ∀ t, own t ≠ some i) (hd : own d = some j) (hj : L.getD j false = true) (hb : blk d β = some b) :
    (⟨(pS s0 val blk own β L).ρ, upd (pS s0 val blk own β L).M d (some b)⟩ : S) = pS s0 val blk own β (L.setIfInBounds i true) := by
  refine S_ext (fun t => (pS_other hi (hno t)).1) (fun t => ?_)
  show upd _ d (some b) t = _
  by_cases ht : t = d
  · subst ht; rw [upd_same, ← (pS_other hi (hno t)).2, pS_M hd hj hb]
  · rw [upd_ne _ _ ht]; exact (pS_other hi (hno t)).2
/-! ### The region that opens the sums of a state -/
def own18 : Nat → Option Nat
  | 130 => some 0 | 131 => some 1 | 132 => some 2 | 133 => some 3 | 134 => some 4 | 135 => some 5 | 14 => some 6 | 15 => some 7
  | _ => none
theorem own18_inj {t i : Nat} (h : own18 t = some i) : t = [130, 131, 132, 133, 134, 135, 14, 15].getD i 0 := by
  unfold own18 at h
  split at h <;> first | (cases h; rfl) | cases h
theorem own18_8 (t : Nat) : own18 t ≠ some 8 := fun h => by unfold own18 at h; split at h <;> cases h
noncomputable def val18 (l : List Rat) (b9 i : Nat) (t : Nat) (β : Nat → Nat × Nat) : V :=
  match t with
  | 130 => .ag [.d (dB false), .mt, .mt]
  | 131 => .ptr 9 b9 0
  | 132 => .d (dQs l)
  | 133 => .d (dI i)
  | 134 => .ref (dQ (l.getD i 0)).cells
  | 135 => vQ (l.getD i 0)
  | 14 => .ptr 14 (β 14).1 0
  | 15 => .ptr 15 (β 15).1 0
  | _ => .junk
def blk18 (t : Nat) (β : Nat → Nat × Nat) : Option Blk :=
  match t with
  | 14 => some (.box (β 14).1 T.Rat [.d (dB false), .mt, .mt])
  | 15 => some (.box (β 15).1 T.Rat [.d (dB false), .mt, .mt])
  | _ => none
theorem cases9 {p : Nat → Prop} (h0 : p 0) (h1 : p 1) (h2 : p 2) (h3 : p 3) (h4 : p 4) (h5 : p 5) (h6 : p 6) (h7 : p 7) (h8 : p 8) : ∀ i, i < 9 → p i := fun i hi => by
  have : i = 0 ∨ i = 1 ∨ i = 2 ∨ i = 3 ∨ i = 4 ∨ i = 5 ∨ i = 6 ∨ i = 7 ∨ i = 8 := by omega
  rcases this with rfl | rfl | rfl | rfl | rfl | rfl | rfl | rfl | rfl <;> assumption

theorem ref33_Sum {l : List Rat} {C : Nat} (hl : Small C l) (h1 : 1 ≤ C) (hC1 : C ≤ 68719476736) (hC : 1 + l.length * (C + 1) ≤ 68719476736) (hn : l.length ≤ 1099511627776) : FSpec P F.ref33_Sum [.d (dQs l)] (vQ (sumL l)) := by
  refine FSpec.intro fn.ref33_Sum (by rfl) (by rfl) (Nat.le_of_ble_eq_true (by rfl)) fun E hE => ?_
  refine AW.seq ?_
  refine AW.region (by rw [hE]; rfl) ?_
  refine al z.Rat rfl fun b2 => ?_
  refine OL.nil ?_
  refine AW.seq ?_
  refine AW.region (by rw [hE]; rfl) ?_
  refine bd z.Rat pl.Rat (cs := [_, _, _]) rfl ?_
  refine al z.Rat rfl fun b3 => ?_
  first | refine sto sz.Rat rfl rfl rfl rfl rfl (Nat.le_of_ble_eq_true rfl) (cells2 := [_, _, _]) rfl ?_ | refine stE sz.Rat rfl (VC.d _).vd rfl rfl (by omega) rfl ?_
  refine OL.nil ?_
  refine AW.seq ?_
  refine AW.seq ?_
  refine AW.region (by rw [hE]; rfl) ?_
  refine asD rfl ?_
  refine OL.nil ?_
  refine AW.block ?_
  refine AW.boxW 3 (cellsQ 0) rfl vles_q ?_
  refine AW.whileK (α := Nat) [(0, _), (2, _), (3, _)] [(2, _)] (fun i => [(4, .d (dI i))]) (fun i => [(3, .box b3 T.Rat (cellsQ (sumN (fun i => l.getD i 0) i)))]) (fun i => i ≤ l.length) (fun i => l.length - i) 0 (by repeat (first | exact Knows.nil | refine Knows.cons (by first | exact knD rfl | exact knA rfl | exact knP rfl | exact knO rfl | exact knM rfl | exact knE rfl | exact knR rfl | exact knF rfl | exact knT rfl | exact knJ) ?_)) (.cons (by first | exact owB rfl | exact owR rfl | exact owL rfl | exact owT rfl) .nil) ⟨Nat.zero_le _, .cons (by first | exact VLe.refl _ | exact VLe.int (by omega) | exact VLe.mt | exact vle_q0 | exact VLe.osl | exact VLe.ptr) .nil, .cons rfl .nil⟩ ?_
  intro i h2
  have h2 : i ≤ l.length := h2
  have zl := sumL_sz hl h1 h2 hC
  have zi := hl.get h1 i
  refine AW.seq ?_
  refine AW.seq ?_
  refine AW.region (by rw [hE]; rfl) ?_
  refine mvD rfl ?_
  first | refine mvD rfl ?_ | refine mvO rfl ?_ | refine mvM rfl ?_
  first | refine lnL sl.Rats rfl rfl ?_ | refine lnO sl.Rats rfl rfl ?_ | refine lnM sl.Rats rfl rfl ?_ | refine lnD sl.Rats rfl rfl rfl ?_
  refine c_lss rfl rfl rfl ?_
  refine OL.nil ?_
  refine AW.cond rfl (fun h9 => ?_) (fun h9 => ?_)
  · first | (simp only [decide_eq_true_eq, decide_eq_false_iff_not, Bool.not_eq_true', Bool.not_eq_false', Bool.not_not, Bool.and_eq_true, Bool.and_eq_false_iff, Bool.or_eq_true, Bool.or_eq_false_iff] at h9) | skip
    refine AW.skip ?_
    refine AW.seq ?_
    refine AW.block ?_
    refine AW.region_draw 1 [0, 1, 2, 3, 4, 5, 6] order_free (by rw [hE]; rfl) (by kernel_rfl) (OI.of_OL (os := [_, _, _, _, _, _, _]) rfl ?_)
    first | refine ldPA ag.Rat rfl rfl (vs := [_, _, _]) rfl (Nat.le_of_ble_eq_true rfl) ?_ | refine ldRA ag.Rat rfl (vs := [_, _, _]) rfl (Nat.le_of_ble_eq_true rfl) ?_
    first | refine mvD rfl ?_ | refine mvO rfl ?_ | refine mvM rfl ?_
    refine mvD rfl ?_
    first | refine ixO sl.Rats rfl rfl (by omega) (by omega) rfl ?_ | refine ixLn sl.Rats 0 rfl rfl (by omega) rfl rfl ?_ | refine ixL sl.Rats 0 rfl rfl (by omega) (by omega) rfl rfl ?_
    first | refine ldPA ag.Rat rfl rfl (vs := [_, _, _]) rfl (Nat.le_of_ble_eq_true rfl) ?_ | refine ldRA ag.Rat rfl (vs := [_, _, _]) rfl (Nat.le_of_ble_eq_true rfl) ?_
    refine clv rfl (.cons (VLe.refl _) (.cons (VLe.refl _) (.nil))) (ref_AddQ (x := (sumN (fun i => l.getD i 0) i)) (y := l.getD i 0) (by omega) (by omega)) ?_
    rw [show (sumN (fun i => l.getD i 0) i) + l.getD i 0 = sumN (fun i => l.getD i 0) (i + 1) from rfl]
    first | refine sto sz.Rat rfl rfl rfl rfl rfl (Nat.le_of_ble_eq_true rfl) (cells2 := [_, _, _]) rfl ?_ | refine stE sz.Rat rfl (VC.d _).vd rfl rfl (by omega) rfl ?_
    refine OL.nil ?_
    refine AW.region (by rw [hE]; rfl) ?_
    refine mvD rfl ?_
    refine add_i64 rfl rfl (by omega) ?_
    refine asD rfl ?_
    refine OL.nil ?_
    exact AW.again (x := i) (i + 1) (by first | omega | (simp only []; omega)) ⟨by omega, Knows.app (.cons (VLe.refl _) (.cons (VLe.refl _) (.cons (VLe.refl _) .nil))) (.cons (by first | exact VLe.refl _ | exact VLe.int (by omega) | exact VLe.mt | exact vle_q0 | exact VLe.osl | exact VLe.ptr) .nil), Owns.app (.cons rfl .nil) (.cons rfl .nil)⟩
  · first | (simp only [decide_eq_true_eq, decide_eq_false_iff_not, Bool.not_eq_true', Bool.not_eq_false', Bool.not_not, Bool.and_eq_true, Bool.and_eq_false_iff, Bool.or_eq_true, Bool.or_eq_false_iff] at h9) | skip
    refine AW.exit ?_
    refine AW.seq ?_
    obtain rfl : i = l.length := by omega
    rw [show sumN (fun i => l.getD i 0) l.length = sumL l from rfl]
    refine AW.region (by rw [hE]; rfl) ?_
    first | refine ldPA ag.Rat rfl rfl (vs := [_, _, _]) rfl (Nat.le_of_ble_eq_true rfl) ?_ | refine ldRA ag.Rat rfl (vs := [_, _, _]) rfl (Nat.le_of_ble_eq_true rfl) ?_
    first | refine sto sz.Rat rfl rfl rfl rfl rfl (Nat.le_of_ble_eq_true rfl) (cells2 := [_, _, _]) rfl ?_ | refine stE sz.Rat rfl (VC.d _).vd rfl rfl (by omega) rfl ?_
    refine OL.nil ?_
    exact AW.ret (RetQ.r ⟨_, .cellA rfl rfl ag.Rat (Nat.le_of_ble_eq_true rfl) .nil, .ag (.cons (.le (by first | exact VLe.refl _ | exact VLe.mt | exact vle_q0 | exact VLe.int (by omega) | exact VLe.bool (by simp_all))) (.cons (.le (by first | exact VLe.refl _ | exact VLe.mt | exact vle_q0 | exact VLe.int (by omega) | exact VLe.bool (by simp_all))) (.cons (.le (by first | exact VLe.refl _ | exact VLe.mt | exact vle_q0 | exact VLe.int (by omega) | exact VLe.bool (by simp_all))) .nil)))⟩)
theorem law34_knownQ {q o p : Rat} {h : HM} (hh : h = ⟨2, 1, 0, [o], [[q]], [q], [[q, q]], [false], [0]⟩) (g : h.Good 1) (k : WordOK h [1, 2]) (fw : Few h [1, 2]) (hp : likF h [1, 2] = p) (zp : sz p ≤ 68719476736) (zo : sz o ≤ 68719476736) (hx : FSpec P F.ref01_Make [.d (dI 1), .d (dI 16)] (.tup [vQ p, .d (dI 0)])) (hm : exM h [1, 2] = [[o]]) (he : postE h [1, 2] = 0) (hq : FSpec P F.ref01_Make [.d (dI 1), .d (dI 2)] (.tup [vQ q, .d (dI 0)])) (ho : FSpec P F.ref33_Whole [.d (dI 1)] (vQ o)) : FSpec P F.law34_known [] (.d (dB true)) := by
  refine FSpec.intro fn.law34_known (by rfl) (by rfl) (Nat.le_of_ble_eq_true (by rfl)) fun E hE => ?_
  refine AW.seq ?_
  refine AW.region (by rw [hE]; rfl) ?_
  refine asD rfl ?_
  refine OL.nil ?_
  refine AW.seq ?_
  refine AW.region (by rw [hE]; rfl) ?_
  refine clv rfl (.cons (VLe.refl _) (.cons (VLe.refl _) (.nil))) (hq) ?_
  first | refine mvD rfl ?_ | refine mvT rfl ?_ | refine mvP rfl ?_ | refine mvR rfl ?_ | refine mvE rfl ?_ | refine mvF rfl ?_ | refine mvA rfl ?_ | refine mvO rfl ?_ | refine mvM rfl ?_ | refine mvJ rfl ?_
  refine ex rfl rfl ?_
  refine ex rfl rfl ?_
  refine al z.Rat rfl fun b1 => ?_
  first | refine sto sz.Rat rfl rfl rfl rfl rfl (Nat.le_of_ble_eq_true rfl) (cells2 := [_, _, _]) rfl ?_ | refine stE sz.Rat rfl (VC.d _).vd rfl rfl (by omega) rfl ?_
  refine asD rfl ?_
  refine OL.nil ?_
  refine AW.seq ?_
  refine AW.region_draw 1 [0, 1, 2, 3, 4, 5, 6, 7, 8, 9, 10, 11, 12, 13, 14, 15] order_free (by rw [hE]; rfl) (by kernel_rfl) (OI.of_OL (os := [_, _, _, _, _, _, _, _, _, _, _, _, _, _, _, _]) rfl ?_)
  refine clv rfl (.cons (VLe.refl _) (.nil)) (ho) ?_
  refine lt1 (y := dQ o) sl.Rats vd_q rfl (by decide) ?_
  first | refine ldPA ag.Rat rfl rfl (vs := [_, _, _]) rfl (Nat.le_of_ble_eq_true rfl) ?_ | refine ldRA ag.Rat rfl (vs := [_, _, _]) rfl (Nat.le_of_ble_eq_true rfl) ?_
  refine lt1 (y := dQ q) sl.Rats vd_q rfl (by decide) ?_
  refine lt1 (y := dQs [q]) sl.Ratss (VC.d _).vd rfl (by decide) ?_
  first | refine ldPA ag.Rat rfl rfl (vs := [_, _, _]) rfl (Nat.le_of_ble_eq_true rfl) ?_ | refine ldRA ag.Rat rfl (vs := [_, _, _]) rfl (Nat.le_of_ble_eq_true rfl) ?_
  refine lt1 (y := dQ q) sl.Rats vd_q rfl (by decide) ?_
  first | refine ldPA ag.Rat rfl rfl (vs := [_, _, _]) rfl (Nat.le_of_ble_eq_true rfl) ?_ | refine ldRA ag.Rat rfl (vs := [_, _, _]) rfl (Nat.le_of_ble_eq_true rfl) ?_
  first | refine ldPA ag.Rat rfl rfl (vs := [_, _, _]) rfl (Nat.le_of_ble_eq_true rfl) ?_ | refine ldRA ag.Rat rfl (vs := [_, _, _]) rfl (Nat.le_of_ble_eq_true rfl) ?_
  refine lt2 (y := dQ q) (y2 := dQ q) sl.Rats vd_q vd_q ⟨rfl, rfl⟩ (by decide) ?_
  refine lt1 (y := dQs [q, q]) sl.Ratss (VC.d _).vd rfl (by decide) ?_
  refine lt1 sl.bools (VC.d _).vd rfl (by decide) ?_
  refine lt1 sl.ints (VC.d _).vd rfl (by decide) ?_
  refine bd2 (cs := [_, _, _, _, _, _, _, _, _, _, _]) z.Hidden pl.Hidden (pvC (by first | exact evD rfl | exact evA rfl | exact evM rfl | exact evO rfl | exact evP rfl) (pvC (by first | exact evD rfl | exact evA rfl | exact evM rfl | exact evO rfl | exact evP rfl) (pvC (by first | exact evD rfl | exact evA rfl | exact evM rfl | exact evO rfl | exact evP rfl) (pvC (by first | exact evD rfl | exact evA rfl | exact evM rfl | exact evO rfl | exact evP rfl) (pvC (by first | exact evD rfl | exact evA rfl | exact evM rfl | exact evO rfl | exact evP rfl) (pvC (by first | exact evD rfl | exact evA rfl | exact evM rfl | exact evO rfl | exact evP rfl) (pvC (by first | exact evD rfl | exact evA rfl | exact evM rfl | exact evO rfl | exact evP rfl) (pvC (by first | exact evD rfl | exact evA rfl | exact evM rfl | exact evO rfl | exact evP rfl) (pvN))))))))) (by rfl) ?_
  refine al z.Hidden rfl fun b3 => ?_
  first | refine sto sz.Hidden rfl rfl rfl rfl rfl (Nat.le_of_ble_eq_true rfl) (cells2 := [_, _, _, _, _, _, _, _, _, _, _]) rfl ?_ | refine stE sz.Hidden rfl (VC.d _).vd rfl rfl (by omega) rfl ?_
  refine OL.nil ?_
  refine AW.seq ?_
  refine AW.boxW 3 (cellsHM h) rfl (by rw [hh]; exact .cons (VLe.refl _) (.cons (VLe.refl _) (.cons (vle_of_eq (by show _ = V.d (dB (ofQ 0).neg); rw [ofQ_zero])) (.cons (by show VLe _ (.d (u32s (ofQ 0).num)); rw [ofQ_zero]; exact VLe.mt) (.cons (by show VLe _ (.d (u32s (ofQ 0).den)); rw [ofQ_zero]; exact VLe.mt) (.cons (VLe.refl _) (.cons (VLe.refl _) (.cons (VLe.refl _) (.cons (VLe.refl _) (.cons (VLe.refl _) (.cons (VLe.refl _) .nil))))))))))) ?_
  refine AW.region (by rw [hE]; rfl) ?_
  first | refine ldPA ag.Hidden rfl rfl (vs := [_, _, _, _, _, _, _, _, _, _, _]) rfl (Nat.le_of_ble_eq_true rfl) ?_ | refine ldRA ag.Hidden rfl (vs := [_, _, _, _, _, _, _, _, _, _, _]) rfl (Nat.le_of_ble_eq_true rfl) ?_
  refine lt2 sl.ints (VC.d _).vd (VC.d _).vd ⟨rfl, rfl⟩ (by decide) ?_
  refine clv rfl (.cons (VLe.refl _) (.cons (VLe.refl _) (.nil))) (fwd_Likelihood g k fw) ?_
  rw [hp]
  first | refine mvD rfl ?_ | refine mvT rfl ?_ | refine mvP rfl ?_ | refine mvR rfl ?_ | refine mvE rfl ?_ | refine mvF rfl ?_ | refine mvA rfl ?_ | refine mvO rfl ?_ | refine mvM rfl ?_ | refine mvJ rfl ?_
  refine ex rfl rfl ?_
  refine ex rfl rfl ?_
  refine al z.Rat rfl fun b4 => ?_
  first | refine sto sz.Rat rfl rfl rfl rfl rfl (Nat.le_of_ble_eq_true rfl) (cells2 := [_, _, _]) rfl ?_ | refine stE sz.Rat rfl (VC.d _).vd rfl rfl (by omega) rfl ?_
  refine asD rfl ?_
  refine OL.nil ?_
  refine AW.seq ?_
  refine AW.region (by rw [hE]; rfl) ?_
  refine clv rfl (.cons (VLe.refl _) (.cons (VLe.refl _) (.nil))) (hx) ?_
  first | refine mvD rfl ?_ | refine mvT rfl ?_ | refine mvP rfl ?_ | refine mvR rfl ?_ | refine mvE rfl ?_ | refine mvF rfl ?_ | refine mvA rfl ?_ | refine mvO rfl ?_ | refine mvM rfl ?_ | refine mvJ rfl ?_
  refine ex rfl rfl ?_
  refine ex rfl rfl ?_
  refine al z.Rat rfl fun b6 => ?_
  first | refine sto sz.Rat rfl rfl rfl rfl rfl (Nat.le_of_ble_eq_true rfl) (cells2 := [_, _, _]) rfl ?_ | refine stE sz.Rat rfl (VC.d _).vd rfl rfl (by omega) rfl ?_
  refine asD rfl ?_
  refine OL.nil ?_
  refine AW.seq ?_
  refine AW.region (by rw [hE]; rfl) ?_
  first | refine ldPA ag.Hidden rfl rfl (vs := [_, _, _, _, _, _, _, _, _, _, _]) rfl (Nat.le_of_ble_eq_true rfl) ?_ | refine ldRA ag.Hidden rfl (vs := [_, _, _, _, _, _, _, _, _, _, _]) rfl (Nat.le_of_ble_eq_true rfl) ?_
  refine lt2 sl.ints (VC.d _).vd (VC.d _).vd ⟨rfl, rfl⟩ (by decide) ?_
  refine clv rfl (.cons (VLe.refl _) (.cons (VLe.refl _) (.nil))) (fwd_Expected g k fw) ?_
  rw [hm, he]
  first | refine mvD rfl ?_ | refine mvT rfl ?_ | refine mvP rfl ?_ | refine mvR rfl ?_ | refine mvE rfl ?_ | refine mvF rfl ?_ | refine mvA rfl ?_ | refine mvO rfl ?_ | refine mvM rfl ?_ | refine mvJ rfl ?_
  refine ex rfl rfl ?_
  refine ex rfl rfl ?_
  refine al z.Counts rfl fun b8 => ?_
  first | refine sto sz.Counts rfl rfl rfl rfl rfl (Nat.le_of_ble_eq_true rfl) (cells2 := [_, _, _, _]) rfl ?_ | refine stE sz.Counts rfl (VC.d _).vd rfl rfl (by omega) rfl ?_
  refine asD rfl ?_
  refine OL.nil ?_
  refine AW.seq ?_
  refine AW.region_draw 1 [0, 1, 2, 3, 4, 5, 6, 7, 8, 9, 10, 11, 12, 13, 14, 15, 16, 17, 18, 19, 20, 21, 22, 23, 24, 25, 26, 27, 28, 29] order_free (by rw [hE]; rfl) (by kernel_rfl) (OI.of_OL (os := [_, _, _, _, _, _, _, _, _, _, _, _, _, _, _, _, _, _, _, _, _, _, _, _, _, _, _, _, _, _]) rfl ?_)
  refine mvD rfl ?_
  refine c_eql rfl rfl (c := true) (by first | exact decide_eq_true (by omega) | exact decide_eq_false (by omega) | exact cne_f (by omega) | exact cne_t (by omega) | rfl) ?_
  refine mvD rfl ?_
  refine OL.yes rfl ?_
  refine mvD rfl ?_
  refine OL.yes rfl ?_
  refine c_eql rfl rfl (c := true) (by first | exact decide_eq_true (by omega) | exact decide_eq_false (by omega) | exact cne_f (by omega) | exact cne_t (by omega) | rfl) ?_
  refine pkT rfl rfl ?_
  refine mvD rfl ?_
  refine OL.yes rfl ?_
  first | refine ldPA ag.Rat rfl rfl (vs := [_, _, _]) rfl (Nat.le_of_ble_eq_true rfl) ?_ | refine ldRA ag.Rat rfl (vs := [_, _, _]) rfl (Nat.le_of_ble_eq_true rfl) ?_
  refine OL.yes rfl ?_
  first | refine ldPA ag.Rat rfl rfl (vs := [_, _, _]) rfl (Nat.le_of_ble_eq_true rfl) ?_ | refine ldRA ag.Rat rfl (vs := [_, _, _]) rfl (Nat.le_of_ble_eq_true rfl) ?_
  refine OL.yes rfl ?_
  refine clv rfl (.cons (VLe.refl _) (.cons (VLe.refl _) (.nil))) (ref_CompareQ (x := p) (y := p) (by omega) (by omega)) ?_
  rw [show cmpQ (p) (p) = 0 from cmpQ_eq.2 rfl]
  refine OL.yes rfl ?_
  refine c_eql rfl rfl (c := true) (by first | exact decide_eq_true (by omega) | exact decide_eq_false (by omega) | exact cne_f (by omega) | exact cne_t (by omega) | rfl) ?_
  refine pkT rfl rfl ?_
  refine mvD rfl ?_
  refine OL.yes rfl ?_
  first | refine faP fd.Counts_1 rfl rfl ?_ | refine faR fd.Counts_1 rfl rfl ?_ | refine faE fd.Counts_1 rfl rfl ?_
  refine OL.yes rfl ?_
  first | refine ldRC ce.Ratss rfl ?_ | refine ldPC ce.Ratss rfl rfl rfl ?_
  refine OL.yes rfl ?_
  first | refine lnL sl.Ratss rfl rfl ?_ | refine lnO sl.Ratss rfl rfl ?_ | refine lnM sl.Ratss rfl rfl ?_ | refine lnD sl.Ratss rfl rfl rfl ?_
  refine OL.yes rfl ?_
  refine c_eql rfl rfl (c := true) (by first | exact decide_eq_true (by omega) | exact decide_eq_false (by omega) | exact cne_f (by omega) | exact cne_t (by omega) | rfl) ?_
  refine pkT rfl rfl ?_
  refine mvD rfl ?_
  refine OL.yes rfl ?_
  first | refine faP fd.Counts_1 rfl rfl ?_ | refine faR fd.Counts_1 rfl rfl ?_ | refine faE fd.Counts_1 rfl rfl ?_
  refine OL.yes rfl ?_
  first | refine ldRC ce.Ratss rfl ?_ | refine ldPC ce.Ratss rfl rfl rfl ?_
  refine OL.yes rfl ?_
  refine ixLe 0 sl.Ratss [] rfl rfl (by decide) (Nat.le_refl 1) rfl rfl ?_
  refine OL.yes rfl ?_
  first | refine ldRC ce.Rats rfl ?_ | refine ldPC ce.Rats rfl rfl rfl ?_
  refine OL.yes rfl ?_
  refine ixLe 0 sl.Rats 0 rfl rfl (by decide) (Nat.le_refl 1) rfl rfl ?_
  refine OL.yes rfl ?_
  first | refine ldPA ag.Rat rfl rfl (vs := [_, _, _]) rfl (Nat.le_of_ble_eq_true rfl) ?_ | refine ldRA ag.Rat rfl (vs := [_, _, _]) rfl (Nat.le_of_ble_eq_true rfl) ?_
  refine OL.yes rfl ?_
  refine clv rfl (.cons (VLe.refl _) (.nil)) (ho) ?_
  refine OL.yes rfl ?_
  refine clv rfl (.cons (VLe.refl _) (.cons (VLe.refl _) (.nil))) (ref_CompareQ (x := o) (y := o) (by omega) (by omega)) ?_
  rw [show cmpQ (o) (o) = 0 from cmpQ_eq.2 rfl]
  refine OL.yes rfl ?_
  refine c_eql rfl rfl (c := true) (by first | exact decide_eq_true (by omega) | exact decide_eq_false (by omega) | exact cne_f (by omega) | exact cne_t (by omega) | rfl) ?_
  refine pkT rfl rfl ?_
  refine asD rfl ?_
  refine OL.nil ?_
  exact AW.ret (RetQ.r ⟨_, .tmp rfl .nil, .le (by first | exact VLe.refl _ | exact VLe.mt | exact vle_q0 | exact VLe.int (by omega) | exact VLe.bool (by simp_all))⟩)
theorem q16 : ((1 : Int) : Rat) / ((16 : Int) : Rat) = 1 / 16 := rfl
theorem law34_known : FSpec P F.law34_known [] (.d (dB true)) := by
  have h16 := ref_Make (n := 1) (d := 16) (by decide) (by decide) (by decide)
  rw [q16] at h16
  have z16 : sz (1 / 16) ≤ 1 := by rw [← q16]; exact div_sz (by decide) (by decide) (by decide)
  exact law34_knownQ rfl coin_good coin_word coin_few coin_lik (Nat.le_trans z16 (by decide)) (by rw [sz_one]; decide) h16 coin_exM coin_post ref_half ref33_Whole1
set_option maxRecDepth 6000 in
set_option maxHeartbeats 3200000 in
theorem law_ForwardExpects {L l : List Int} {cs cy : Int} (nL : L.length ≤ 9223372036854775807) : FSpec P F.law34_ForwardExpects [.ag [.d (dI cs), .d (dI cy), .d (ints L)], .d (ints l)] (.d (dB true)) := by
  obtain ⟨h, hh⟩ : ∃ h, h = chainHM L cs cy 3 := ⟨_, rfl⟩
  have hg : h.Good 1 := by rw [hh]; exact chainHM_good L cs cy (by decide)
  have hst : (h.st : Int) ≤ 3 := by rw [hh]; exact chainHM_st L cs cy (by decide)
  have hsy : h.sym ≤ 3 := by rw [hh]; exact (chSym_range cy).2.1
  have f := hg.form
  have s0 := f.sym0
  have n0 := f.st0
  obtain ⟨w, hw⟩ : ∃ w, w = wordF l h.sym 5 := ⟨_, rfl⟩
  have kw : WordOK h w := by rw [hw]; exact wordF_ok s0 (by decide)
  have wl : w.length ≤ 5 := by rw [hw]; exact wordF_len ..
  have fw : Few h w := ⟨by omega, by omega⟩
  have hpe : postE h w = 0 ∨ postE h w = 11 := by unfold postE; split <;> simp
  have z1 : sz 1 ≤ 68719476736 := by rw [sz_one]; decide
  refine FSpec.intro fn.law34_ForwardExpects (by rfl) (by rfl) (Nat.le_of_ble_eq_true (by rfl)) fun E hE => ?_
  refine AW.seq ?_
  refine AW.region (by rw [hE]; rfl) ?_
  first | refine bxA rfl rfl fun b2 => ?_ | refine bxD rfl rfl fun b2 => ?_
  refine asD rfl ?_
  refine OL.nil ?_
  refine AW.seq ?_
  refine AW.region (by rw [hE]; rfl) ?_
  first | refine ldPA ag.Chain rfl rfl (vs := [_, _, _]) rfl (Nat.le_of_ble_eq_true rfl) ?_ | refine ldRA ag.Chain rfl (vs := [_, _, _]) rfl (Nat.le_of_ble_eq_true rfl) ?_
  refine clv rfl (.cons (VLe.refl _) (.cons (VLe.refl _) (.nil))) (chain_Hidden (by decide) nL) ?_
  rw [← hh]
  refine al z.Hidden rfl fun b5 => ?_
  first | refine sto sz.Hidden rfl rfl rfl rfl rfl (Nat.le_of_ble_eq_true rfl) (cells2 := [_, _, _, _, _, _, _, _, _, _, _]) rfl ?_ | refine stE sz.Hidden rfl (VC.d _).vd rfl rfl (by omega) rfl ?_
  refine OL.nil ?_
  refine AW.seq ?_
  refine AW.region (by rw [hE]; rfl) ?_
  first | refine mvD rfl ?_ | refine mvO rfl ?_ | refine mvM rfl ?_
  first | refine faP fd.Hidden_0 rfl rfl ?_ | refine faR fd.Hidden_0 rfl rfl ?_ | refine faE fd.Hidden_0 rfl rfl ?_
  first | refine ldRC ce.int rfl ?_ | refine ldPC ce.int rfl rfl rfl ?_
  refine clv rfl (.cons (VLe.refl _) (.cons (VLe.refl _) (.cons (VLe.refl _) (.nil)))) (world_Word (sym := h.sym) (most := 5) ⟨s0, by omega⟩ (by decide)) ?_
  rw [← hw]
  first | refine asD rfl ?_ | refine asO rfl ?_ | refine asM rfl ?_
  refine OL.nil ?_
  refine AW.seq ?_
  refine AW.region (by rw [hE]; rfl) ?_
  first | refine ldPA ag.Hidden rfl rfl (vs := [_, _, _, _, _, _, _, _, _, _, _]) rfl (Nat.le_of_ble_eq_true rfl) ?_ | refine ldRA ag.Hidden rfl (vs := [_, _, _, _, _, _, _, _, _, _, _]) rfl (Nat.le_of_ble_eq_true rfl) ?_
  first | refine mvD rfl ?_ | refine mvO rfl ?_ | refine mvM rfl ?_
  refine clv rfl (.cons (VLe.refl _) (.cons (VLe.refl _) (.nil))) (fwd_Posterior hg kw fw) ?_
  first | refine mvD rfl ?_ | refine mvT rfl ?_ | refine mvP rfl ?_ | refine mvR rfl ?_ | refine mvE rfl ?_ | refine mvF rfl ?_ | refine mvA rfl ?_ | refine mvO rfl ?_ | refine mvM rfl ?_ | refine mvJ rfl ?_
  refine ex rfl rfl ?_
  refine ex rfl rfl ?_
  first | refine asD rfl ?_ | refine asO rfl ?_ | refine asM rfl ?_
  refine asD rfl ?_
  refine OL.nil ?_
  refine AW.seq ?_
  refine AW.region (by rw [hE]; rfl) ?_
  first | refine ldPA ag.Hidden rfl rfl (vs := [_, _, _, _, _, _, _, _, _, _, _]) rfl (Nat.le_of_ble_eq_true rfl) ?_ | refine ldRA ag.Hidden rfl (vs := [_, _, _, _, _, _, _, _, _, _, _]) rfl (Nat.le_of_ble_eq_true rfl) ?_
  first | refine mvD rfl ?_ | refine mvO rfl ?_ | refine mvM rfl ?_
  refine clv rfl (.cons (VLe.refl _) (.cons (VLe.refl _) (.nil))) (fwd_Expected hg kw fw) ?_
  first | refine mvD rfl ?_ | refine mvT rfl ?_ | refine mvP rfl ?_ | refine mvR rfl ?_ | refine mvE rfl ?_ | refine mvF rfl ?_ | refine mvA rfl ?_ | refine mvO rfl ?_ | refine mvM rfl ?_ | refine mvJ rfl ?_
  refine ex rfl rfl ?_
  refine ex rfl rfl ?_
  refine al z.Counts rfl fun b9 => ?_
  first | refine sto sz.Counts rfl rfl rfl rfl rfl (Nat.le_of_ble_eq_true rfl) (cells2 := [_, _, _, _]) rfl ?_ | refine stE sz.Counts rfl (VC.d _).vd rfl rfl (by omega) rfl ?_
  refine asD rfl ?_
  refine OL.nil ?_
  refine AW.seq ?_
  refine AW.midK (α := Unit) [(4, _), (5, _), (6, _), (7, _), (8, _), (9, _), (10, _)] [(5, _), (9, _)] (fun _u => [(47, .d (dB (decide (postE h w ≠ 0 ∨ w.length = 0))))]) (fun _u => []) (fun _u => True) (by repeat (first | exact Knows.nil | refine Knows.cons (by first | exact knD rfl | exact knA rfl | exact knP rfl | exact knO rfl | exact knM rfl | exact knE rfl | exact knR rfl | exact knF rfl | exact knT rfl | exact knJ) ?_)) (by repeat (first | exact Owns.nil | refine Owns.cons (by first | exact owB rfl | exact owR rfl | exact owL rfl | exact owT rfl) ?_)) ?_ ?_
  · refine AW.region (by rw [hE]; rfl) ?_
    refine mvD rfl ?_
    refine c_neq rfl rfl rfl ?_
    refine OL.split 38 rfl (fun he => ?_) (fun he => ?_)
    · have he := nd_t he
      refine mvD rfl ?_
      refine OL.no rfl (by decide) ?_
      refine OL.no rfl (by decide) ?_
      refine pkT rfl rfl ?_
      refine mvD rfl ?_
      refine OL.no rfl (by decide) ?_
      refine OL.no rfl (by decide) ?_
      refine OL.no rfl (by decide) ?_
      refine pkT rfl rfl ?_
      refine OL.nil ?_
      exact AW.reach () ⟨trivial, Knows.app (.cons (VLe.refl _) (.cons (VLe.refl _) (.cons (VLe.refl _) (.cons (VLe.refl _) (.cons (VLe.refl _) (.cons (VLe.refl _) (.cons (VLe.refl _) .nil))))))) (.cons (VLe.bool ((decide_eq_true (.inl he)).symm)) .nil), Owns.app (.cons rfl (.cons rfl .nil)) (.nil)⟩
    · have he := nd_f he
      refine mvD rfl ?_
      refine OL.yes rfl ?_
      refine mvD rfl ?_
      refine OL.yes rfl ?_
      refine c_neq rfl rfl (c := false) (cne_f he) ?_
      refine pkF rfl rfl ?_
      refine mvD rfl ?_
      refine OL.yes rfl ?_
      first | refine mvD rfl ?_ | refine mvO rfl ?_ | refine mvM rfl ?_
      refine OL.yes rfl ?_
      first | refine lnL sl.ints rfl rfl ?_ | refine lnO sl.ints rfl rfl ?_ | refine lnM sl.ints rfl rfl ?_ | refine lnD sl.ints rfl rfl rfl ?_
      refine OL.yes rfl ?_
      refine c_eql rfl rfl rfl ?_
      refine OL.split 46 rfl (fun h9 => ?_) (fun h9 => ?_)
      · have h9 : w.length = 0 := by have := of_decide_eq_true h9; omega
        refine pkF rfl rfl ?_
        refine OL.nil ?_
        exact AW.reach () ⟨trivial, Knows.app (.cons (VLe.refl _) (.cons (VLe.refl _) (.cons (VLe.refl _) (.cons (VLe.refl _) (.cons (VLe.refl _) (.cons (VLe.refl _) (.cons (VLe.refl _) .nil))))))) (.cons (VLe.bool ((decide_eq_true (.inr h9)).symm)) .nil), Owns.app (.cons rfl (.cons rfl .nil)) (.nil)⟩
      · have h9 : w.length ≠ 0 := fun e => of_decide_eq_false h9 (by omega)
        refine pkF rfl rfl ?_
        refine OL.nil ?_
        exact AW.reach () ⟨trivial, Knows.app (.cons (VLe.refl _) (.cons (VLe.refl _) (.cons (VLe.refl _) (.cons (VLe.refl _) (.cons (VLe.refl _) (.cons (VLe.refl _) (.cons (VLe.refl _) .nil))))))) (.cons (VLe.bool ((decide_eq_false fun e => e.elim (fun e => e he) h9).symm)) .nil), Owns.app (.cons rfl (.cons rfl .nil)) (.nil)⟩
  rintro ⟨⟩ hφ
  refine AW.cond rfl (fun hq => ?_) (fun hq => ?_)
  · have _hq := hq
    refine AW.seq ?_
    refine AW.region (by rw [hE]; rfl) ?_
    refine clv rfl .nil law34_known ?_
    refine mvD rfl ?_
    refine OL.yes rfl ?_
    refine mvD rfl ?_
    refine OL.yes rfl ?_
    refine mvD rfl ?_
    refine OL.yes rfl ?_
    refine c_eql rfl rfl (c := true) (decide_eq_true rfl) ?_
    refine pkT rfl rfl ?_
    refine mvD rfl ?_
    refine OL.yes rfl ?_
    refine mvD rfl ?_
    refine OL.yes rfl ?_
    refine c_eql rfl rfl rfl ?_
    refine OL.split 56 rfl (fun h8 => ?_) (fun h8 => ?_)
    · have _h8 := h8
      refine OL.yes rfl ?_
      refine mvD rfl ?_
      refine OL.no rfl (by decide) ?_
      refine OL.no rfl (by decide) ?_
      refine OL.yes rfl ?_
      refine pkT rfl rfl ?_
      refine pkT rfl rfl ?_
      refine asD rfl ?_
      refine OL.nil ?_
      exact AW.ret (RetQ.r ⟨_, .tmp rfl .nil, .le (by first | exact VLe.refl _ | exact VLe.mt | exact vle_q0 | exact VLe.int (by omega) | exact VLe.bool (by simp_all))⟩)
    · have h8 := of_decide_eq_false h8
      refine OL.yes rfl ?_
      refine mvD rfl ?_
      refine OL.yes rfl ?_
      refine mvD rfl ?_
      refine OL.yes rfl ?_
      refine c_eql rfl rfl (c := true) (decide_eq_true (hpe.resolve_left h8)) ?_
      refine OL.yes rfl ?_
      refine pkF rfl rfl ?_
      refine pkT rfl rfl ?_
      refine asD rfl ?_
      refine OL.nil ?_
      exact AW.ret (RetQ.r ⟨_, .tmp rfl .nil, .le (by first | exact VLe.refl _ | exact VLe.mt | exact vle_q0 | exact VLe.int (by omega) | exact VLe.bool (by simp_all))⟩)
  · have hq := of_decide_eq_false hq
    have he : postE h w = 0 := Decidable.of_not_not fun e => hq (.inl e)
    have hn : w.length ≠ 0 := fun e => hq (.inr e)
    have hz : likF h w ≠ 0 := fun e => by rw [postE, if_pos e] at he; exact absurd he (by decide)
    have hf := fit (fun t ht => (kw.symX ht).1) hz hn
    have hgt := got hz hn
    have hpl := hgt.pl
    have hlM := hgt.lM
    have hlO := hgt.lO
    refine AW.skip ?_
    refine AW.seq ?_
    refine AW.seq ?_
    rw [hgt.sS, hgt.sE]
    refine AW.region (by rw [hE]; rfl) ?_
    first | refine mvD rfl ?_ | refine mvO rfl ?_ | refine mvM rfl ?_
    first | refine lnL sl.Ratss rfl rfl ?_ | refine lnO sl.Ratss rfl rfl ?_ | refine lnM sl.Ratss rfl rfl ?_ | refine lnD sl.Ratss rfl rfl rfl ?_
    first | refine mvD rfl ?_ | refine mvO rfl ?_ | refine mvM rfl ?_
    first | refine lnL sl.ints rfl rfl ?_ | refine lnO sl.ints rfl rfl ?_ | refine lnM sl.ints rfl rfl ?_ | refine lnD sl.ints rfl rfl rfl ?_
    refine c_neq rfl rfl (c := false) (cne_f (by omega)) ?_
    refine mvD rfl ?_
    refine OL.yes rfl ?_
    first | refine faP fd.Counts_3 rfl rfl ?_ | refine faR fd.Counts_3 rfl rfl ?_ | refine faE fd.Counts_3 rfl rfl ?_
    refine OL.yes rfl ?_
    first | refine ldRC ce.Ratss rfl ?_ | refine ldPC ce.Ratss rfl rfl rfl ?_
    refine OL.yes rfl ?_
    first | refine lnL sl.Ratss rfl rfl ?_ | refine lnO sl.Ratss rfl rfl ?_ | refine lnM sl.Ratss rfl rfl ?_ | refine lnD sl.Ratss rfl rfl rfl ?_
    refine OL.yes rfl ?_
    first | refine faP fd.Hidden_1 rfl rfl ?_ | refine faR fd.Hidden_1 rfl rfl ?_ | refine faE fd.Hidden_1 rfl rfl ?_
    refine OL.yes rfl ?_
    first | refine ldRC ce.int rfl ?_ | refine ldPC ce.int rfl rfl rfl ?_
    refine OL.yes rfl ?_
    refine c_neq rfl rfl (c := false) (cne_f (by omega)) ?_
    refine pkF rfl rfl ?_
    refine mvD rfl ?_
    refine OL.yes rfl ?_
    first | refine faP fd.Counts_1 rfl rfl ?_ | refine faR fd.Counts_1 rfl rfl ?_ | refine faE fd.Counts_1 rfl rfl ?_
    refine OL.yes rfl ?_
    first | refine ldRC ce.Ratss rfl ?_ | refine ldPC ce.Ratss rfl rfl rfl ?_
    refine OL.yes rfl ?_
    first | refine lnL sl.Ratss rfl rfl ?_ | refine lnO sl.Ratss rfl rfl ?_ | refine lnM sl.Ratss rfl rfl ?_ | refine lnD sl.Ratss rfl rfl rfl ?_
    refine OL.yes rfl ?_
    first | refine faP fd.Hidden_1 rfl rfl ?_ | refine faR fd.Hidden_1 rfl rfl ?_ | refine faE fd.Hidden_1 rfl rfl ?_
    refine OL.yes rfl ?_
    first | refine ldRC ce.int rfl ?_ | refine ldPC ce.int rfl rfl rfl ?_
    refine OL.yes rfl ?_
    refine c_neq rfl rfl (c := false) (cne_f (by omega)) ?_
    refine pkF rfl rfl ?_
    refine mvD rfl ?_
    refine OL.yes rfl ?_
    first | refine faP fd.Counts_0 rfl rfl ?_ | refine faR fd.Counts_0 rfl rfl ?_ | refine faE fd.Counts_0 rfl rfl ?_
    refine OL.yes rfl ?_
    first | refine ldRC ce.Rats rfl ?_ | refine ldPC ce.Rats rfl rfl rfl ?_
    refine OL.yes rfl ?_
    first | refine lnL sl.Rats rfl rfl ?_ | refine lnO sl.Rats rfl rfl ?_ | refine lnM sl.Rats rfl rfl ?_ | refine lnD sl.Rats rfl rfl rfl ?_
    refine OL.yes rfl ?_
    first | refine faP fd.Hidden_1 rfl rfl ?_ | refine faR fd.Hidden_1 rfl rfl ?_ | refine faE fd.Hidden_1 rfl rfl ?_
    refine OL.yes rfl ?_
    first | refine ldRC ce.int rfl ?_ | refine ldPC ce.int rfl rfl rfl ?_
    refine OL.yes rfl ?_
    refine c_neq rfl rfl (c := false) (cne_f (by rw [postF_len])) ?_
    refine pkF rfl rfl ?_
    refine mvD rfl ?_
    refine OL.yes rfl ?_
    first | refine faP fd.Counts_2 rfl rfl ?_ | refine faR fd.Counts_2 rfl rfl ?_ | refine faE fd.Counts_2 rfl rfl ?_
    refine OL.yes rfl ?_
    first | refine ldRC ce.Rats rfl ?_ | refine ldPC ce.Rats rfl rfl rfl ?_
    refine OL.yes rfl ?_
    first | refine lnL sl.Rats rfl rfl ?_ | refine lnO sl.Rats rfl rfl ?_ | refine lnM sl.Rats rfl rfl ?_ | refine lnD sl.Rats rfl rfl rfl ?_
    refine OL.yes rfl ?_
    first | refine faP fd.Hidden_1 rfl rfl ?_ | refine faR fd.Hidden_1 rfl rfl ?_ | refine faE fd.Hidden_1 rfl rfl ?_
    refine OL.yes rfl ?_
    first | refine ldRC ce.int rfl ?_ | refine ldPC ce.int rfl rfl rfl ?_
    refine OL.yes rfl ?_
    refine c_neq rfl rfl (c := false) (cne_f (by rw [postF_len])) ?_
    refine pkF rfl rfl ?_
    refine OL.nil ?_
    refine AW.cond rfl (fun hno => absurd hno (by decide)) (fun _ => ?_)
    refine AW.skip ?_
    refine AW.seq ?_
    refine AW.region (by rw [hE]; rfl) ?_
    refine clv rfl (.cons (VLe.refl _) (.nil)) (ref33_Whole1) ?_
    refine al z.Rat rfl fun b11 => ?_
    first | refine sto sz.Rat rfl rfl rfl rfl rfl (Nat.le_of_ble_eq_true rfl) (cells2 := [_, _, _]) rfl ?_ | refine stE sz.Rat rfl (VC.d _).vd rfl rfl (by omega) rfl ?_
    refine OL.nil ?_
    refine AW.seq ?_
    refine AW.seq ?_
    refine AW.region (by rw [hE]; rfl) ?_
    refine asD rfl ?_
    refine OL.nil ?_
    refine AW.block ?_
    refine AW.whileK (α := Nat) [(5, _), (6, _), (7, _), (9, _), (11, _)] [(5, _), (9, _), (11, _)] (fun t => [(12, .d (dI t))]) (fun t => []) (fun t => t ≤ w.length) (fun t => w.length - t) 0 (by repeat (first | exact Knows.nil | refine Knows.cons (by first | exact knD rfl | exact knA rfl | exact knP rfl | exact knO rfl | exact knM rfl | exact knE rfl | exact knR rfl | exact knF rfl | exact knT rfl | exact knJ) ?_)) (by repeat (first | exact Owns.nil | refine Owns.cons (by first | exact owB rfl | exact owR rfl | exact owL rfl | exact owT rfl) ?_)) ⟨Nat.zero_le _, .cons (by first | exact VLe.refl _ | exact VLe.int (by omega) | exact VLe.mt | exact vle_q0 | exact VLe.osl | exact VLe.ptr) .nil, .nil⟩ ?_
    intro t h1
    have h1 : t ≤ w.length := h1
    refine AW.seq ?_
    refine AW.seq ?_
    refine AW.region (by rw [hE]; rfl) ?_
    refine mvD rfl ?_
    first | refine mvD rfl ?_ | refine mvO rfl ?_ | refine mvM rfl ?_
    first | refine lnL sl.ints rfl rfl ?_ | refine lnO sl.ints rfl rfl ?_ | refine lnM sl.ints rfl rfl ?_ | refine lnD sl.ints rfl rfl rfl ?_
    refine c_lss rfl rfl rfl ?_
    refine OL.nil ?_
    refine AW.cond rfl (fun h103 => ?_) (fun h103 => ?_)
    · first | (simp only [decide_eq_true_eq, decide_eq_false_iff_not, Bool.not_eq_true', Bool.not_eq_false', Bool.not_not, Bool.and_eq_true, Bool.and_eq_false_iff, Bool.or_eq_true, Bool.or_eq_false_iff] at h103) | skip
      refine AW.skip ?_
      refine AW.seq ?_
      refine AW.block ?_
      refine AW.seq ?_
      have ht : t < w.length := by omega
      have hpg := hgt.pg t ht
      refine AW.region_draw 1 [0, 1, 2, 3, 4, 5, 6, 7, 8, 9, 10, 11, 12, 13, 14, 15, 16, 17] order_free (by rw [hE]; rfl) (by kernel_rfl) (OI.of_OL (os := [_, _, _, _, _, _, _, _, _, _, _, _, _, _, _, _, _, _]) rfl ?_)
      first | refine mvD rfl ?_ | refine mvO rfl ?_ | refine mvM rfl ?_
      refine mvD rfl ?_
      refine ixLn sl.Ratss [] rfl rfl (by omega) rfl rfl ?_
      first | refine ldRC ce.Rats rfl ?_ | refine ldPC ce.Rats rfl rfl rfl ?_
      rw [hpg]
      refine clv rfl (.cons (VLe.refl _) (.nil)) (ref33_Sum (l := postF h w t) (post_small f fw ht) (by decide) (by decide) (by first | (rw [postF_len]; omega) | (rw [showRow_len]; omega) | (rw [moveRow_len]; omega)) (by first | (rw [postF_len]; omega) | (rw [showRow_len]; omega) | (rw [moveRow_len]; omega))) ?_
      rw [hf.row t ht]
      first | refine ldPA ag.Rat rfl rfl (vs := [_, _, _]) rfl (Nat.le_of_ble_eq_true rfl) ?_ | refine ldRA ag.Rat rfl (vs := [_, _, _]) rfl (Nat.le_of_ble_eq_true rfl) ?_
      refine clv rfl (.cons (VLe.refl _) (.cons (VLe.refl _) (.nil))) (ref_CompareQ (x := 1) (y := 1) (by omega) (by omega)) ?_
      rw [show cmpQ 1 1 = 0 from cmpQ_eq.2 rfl]
      refine c_neq rfl rfl (c := false) (by first | exact decide_eq_true (by omega) | exact decide_eq_false (by omega) | exact cne_f (by omega) | exact cne_t (by omega) | rfl) ?_
      refine mvD rfl ?_
      refine OL.yes rfl ?_
      first | refine mvD rfl ?_ | refine mvO rfl ?_ | refine mvM rfl ?_
      refine OL.yes rfl ?_
      refine mvD rfl ?_
      refine OL.yes rfl ?_
      refine ixLn sl.Ratss [] rfl rfl (by omega) rfl rfl ?_
      refine OL.yes rfl ?_
      first | refine ldRC ce.Rats rfl ?_ | refine ldPC ce.Rats rfl rfl rfl ?_
      rw [hpg]
      refine OL.yes rfl ?_
      first | refine lnL sl.Rats rfl rfl ?_ | refine lnO sl.Rats rfl rfl ?_ | refine lnM sl.Rats rfl rfl ?_ | refine lnD sl.Rats rfl rfl rfl ?_
      refine OL.yes rfl ?_
      first | refine faP fd.Hidden_1 rfl rfl ?_ | refine faR fd.Hidden_1 rfl rfl ?_ | refine faE fd.Hidden_1 rfl rfl ?_
      refine OL.yes rfl ?_
      first | refine ldRC ce.int rfl ?_ | refine ldPC ce.int rfl rfl rfl ?_
      refine OL.yes rfl ?_
      refine c_neq rfl rfl (c := false) (cne_f (by rw [postF_len])) ?_
      refine pkF rfl rfl ?_
      refine OL.nil ?_
      refine AW.cond rfl (fun hno => absurd hno (by decide)) (fun _ => ?_)
      refine AW.skip ?_
      refine AW.region (by rw [hE]; rfl) ?_
      refine mvD rfl ?_
      refine add_i64 rfl rfl (by omega) ?_
      refine asD rfl ?_
      refine OL.nil ?_
      exact AW.again (x := t) (t + 1) (by first | omega | (simp only []; omega)) ⟨by omega, Knows.app (.cons (VLe.refl _) (.cons (VLe.refl _) (.cons (VLe.refl _) (.cons (VLe.refl _) (.cons (VLe.refl _) .nil))))) (.cons (by first | exact VLe.refl _ | exact VLe.int (by omega) | exact VLe.mt | exact vle_q0 | exact VLe.osl | exact VLe.ptr) .nil), Owns.app (.cons rfl (.cons rfl (.cons rfl .nil))) (.nil)⟩
    · first | (simp only [decide_eq_true_eq, decide_eq_false_iff_not, Bool.not_eq_true', Bool.not_eq_false', Bool.not_not, Bool.and_eq_true, Bool.and_eq_false_iff, Bool.or_eq_true, Bool.or_eq_false_iff] at h103) | skip
      refine AW.exit ?_
      refine AW.seq ?_
      refine AW.seq ?_
      refine AW.region (by rw [hE]; rfl) ?_
      refine asD rfl ?_
      refine OL.nil ?_
      refine AW.block ?_
      refine AW.whileK (α := Nat) [(5, _), (6, _), (7, _), (9, _), (11, _)] [(5, _), (9, _), (11, _)] (fun i => [(13, .d (dI i))]) (fun i => []) (fun i => i ≤ h.st) (fun i => h.st - i) 0 (by repeat (first | exact Knows.nil | refine Knows.cons (by first | exact knD rfl | exact knA rfl | exact knP rfl | exact knO rfl | exact knM rfl | exact knE rfl | exact knR rfl | exact knF rfl | exact knT rfl | exact knJ) ?_)) (by repeat (first | exact Owns.nil | refine Owns.cons (by first | exact owB rfl | exact owR rfl | exact owL rfl | exact owT rfl) ?_)) ⟨Nat.zero_le _, .cons (by first | exact VLe.refl _ | exact VLe.int (by omega) | exact VLe.mt | exact vle_q0 | exact VLe.osl | exact VLe.ptr) .nil, .nil⟩ ?_
      intro i h2
      have h2 : i ≤ h.st := h2
      refine AW.seq ?_
      refine AW.seq ?_
      refine AW.region (by rw [hE]; rfl) ?_
      refine mvD rfl ?_
      first | refine faP fd.Hidden_1 rfl rfl ?_ | refine faR fd.Hidden_1 rfl rfl ?_ | refine faE fd.Hidden_1 rfl rfl ?_
      first | refine ldRC ce.int rfl ?_ | refine ldPC ce.int rfl rfl rfl ?_
      refine c_lss rfl rfl rfl ?_
      refine OL.nil ?_
      refine AW.cond rfl (fun h127 => ?_) (fun h127 => ?_)
      · first | (simp only [decide_eq_true_eq, decide_eq_false_iff_not, Bool.not_eq_true', Bool.not_eq_false', Bool.not_not, Bool.and_eq_true, Bool.and_eq_false_iff, Bool.or_eq_true, Bool.or_eq_false_iff] at h127) | skip
        refine AW.skip ?_
        refine AW.seq ?_
        refine AW.block ?_
        refine AW.seq ?_
        have hi : i < h.st := by omega
        have hpi := fun t => postF_get (h := h) (w := w) (t := t) hi
        have hpfl := postF_len h w 0
        have hpfe := postF_len h w (w.length - 1)
        have hgM := hgt.gM i hi
        have hgO := hgt.gO i hi
        refine AW.region_plan (val18 (postF h w 0) b9 i) blk18 own18 9 order_free (by rw [hE]; rfl) (by rfl) (by kernel_rfl) (by kernel_rfl) ?_ ?_
        · refine cases9 ?_ ?_ ?_ ?_ ?_ ?_ ?_ ?_ ?_
          · exact fun β L c => ⟨_, rfl, OG.of_OL (bd z.Rat pl.Rat (cs := [_, _, _]) rfl ⟨β, pS_put (d := 130) (i := 0) rfl (fun t ht => own18_inj ht) (lt_size 10 c.size rfl (by decide)) rfl⟩)⟩
          · exact fun β L c => ⟨_, rfl, OG.of_OL (faP fd.Counts_0 (b := b9) (o := 0) (id := 9) ((pS_old rfl).trans rfl) rfl ⟨β, pS_put (d := 131) (i := 1) rfl (fun t ht => own18_inj ht) (lt_size 10 c.size rfl (by decide)) rfl⟩)⟩
          · exact fun β L c => ⟨_, rfl, OG.of_OL (ldPC ce.Rats (pS_new rfl (c.dep 1 (by kernel_rfl))) (((pS_Mold rfl).trans rfl : _ = some (.box b9 T.Counts [.d (dQs (postF h w 0)), .d (dQss (exM h w)), .d (dQs (postF h w (w.length - 1))), .d (dQss (exO h w))]))) (v := .d (dQs (postF h w 0))) rfl ⟨β, pS_put (d := 132) (i := 2) rfl (fun t ht => own18_inj ht) (lt_size 10 c.size rfl (by decide)) rfl⟩)⟩
          · exact fun β L c => ⟨_, rfl, OG.of_OL (mvD (y := dI i) ((pS_old rfl).trans rfl) ⟨β, pS_put (d := 133) (i := 3) rfl (fun t ht => own18_inj ht) (lt_size 10 c.size rfl (by decide)) rfl⟩)⟩
          · exact fun β L c => ⟨_, rfl, OG.of_OL (ixLn sl.Rats 0 (l := (postF h w 0)) (f := dQ) (i := i) (pS_new rfl (c.dep 2 (by kernel_rfl))) (pS_new rfl (c.dep 3 (by kernel_rfl))) (by omega) (cs := (dQ ((postF h w 0).getD i 0)).cells) rfl rfl ⟨β, pS_put (d := 134) (i := 4) rfl (fun t ht => own18_inj ht) (lt_size 10 c.size rfl (by decide)) rfl⟩)⟩
          · exact fun β L c => ⟨_, rfl, OG.of_OL (ldRA ag.Rat (pS_new rfl (c.dep 4 (by kernel_rfl))) (vs := cellsQ ((postF h w 0).getD i 0)) rfl (Nat.le_of_ble_eq_true rfl) ⟨β, pS_put (d := 135) (i := 5) rfl (fun t ht => own18_inj ht) (lt_size 10 c.size rfl (by decide)) rfl⟩)⟩
          · exact fun β L c => ⟨_, rfl, OG.of_OL (al z.Rat ((pS_M0 (t := 14) (i := 6) rfl c.no).trans rfl) fun b => ⟨upd β 14 (b, 0), pS_add (d := 14) (i := 6) (x := (b, 0)) rfl (fun t ht => own18_inj ht) (lt_size 10 c.size rfl (by decide)) rfl rfl (fun t j ho hl => by unfold own18 at ho; split at ho <;> cases ho <;> first | exact ⟨rfl, rfl⟩ | (rw [c.no] at hl; cases hl))⟩)⟩
          · exact fun β L c => ⟨_, rfl, OG.of_OL (al z.Rat ((pS_M0 (t := 15) (i := 7) rfl c.no).trans rfl) fun b => ⟨upd β 15 (b, 0), pS_add (d := 15) (i := 7) (x := (b, 0)) rfl (fun t ht => own18_inj ht) (lt_size 10 c.size rfl (by decide)) rfl rfl (fun t j ho hl => by unfold own18 at ho; split at ho <;> cases ho <;> first | exact ⟨rfl, rfl⟩ | (rw [c.no] at hl; cases hl))⟩)⟩
          · exact fun β L c => ⟨_, rfl, OG.of_OL (sto sz.Rat (pS_new rfl (c.dep 6 (by kernel_rfl))) (pS_new rfl (c.dep 0 (by kernel_rfl))) rfl (pS_M rfl (c.dep 6 (by kernel_rfl)) rfl) rfl (Nat.le_of_ble_eq_true rfl) (cells2 := [.d (dB false), .mt, .mt]) rfl ⟨β, pS_keep (d := 14) (i := 8) (j := 6) (lt_size 10 c.size rfl (by decide)) own18_8 rfl (c.dep 6 (by kernel_rfl)) rfl⟩)⟩
        refine fun β L c => ⟨_, rfl, OG.of_OL (sto sz.Rat (pS_new rfl (c.dep 7 (by kernel_rfl))) (pS_new rfl (c.dep 5 (by kernel_rfl))) rfl (pS_M rfl (c.dep 7 (by kernel_rfl)) rfl) rfl (Nat.le_of_ble_eq_true rfl) (cells2 := cellsQ ((postF h w 0).getD i 0)) rfl ?_)⟩
        refine AW.to [(5, .ptr 5 b5 0), (6, .d (ints w)), (7, .d (dQss (postR h w))), (9, .ptr 9 b9 0), (11, .ptr 11 b11 0), (13, .d (dI i)), (14, .ptr 14 (β 14).1 0), (15, .ptr 15 (β 15).1 0)] [(5, .box b5 T.Hidden (cellsHM h)), (9, .box b9 T.Counts [.d (dQs (postF h w 0)), .d (dQss (exM h w)), .d (dQs (postF h w (w.length - 1))), .d (dQss (exO h w))]), (11, .box b11 T.Rat (cellsQ 1)), (14, .box (β 14).1 T.Rat [.d (dB false), .mt, .mt]), (15, .box (β 15).1 T.Rat (cellsQ ((postF h w 0).getD i 0)))] (.cons (vle_of_eq (ρ_S ((pS_old rfl).trans rfl))) (.cons (vle_of_eq (ρ_S ((pS_old rfl).trans rfl))) (.cons (vle_of_eq (ρ_S ((pS_old rfl).trans rfl))) (.cons (vle_of_eq (ρ_S ((pS_old rfl).trans rfl))) (.cons (vle_of_eq (ρ_S ((pS_old rfl).trans rfl))) (.cons (vle_of_eq (ρ_S ((pS_old rfl).trans rfl))) (.cons (vle_of_eq (ρ_S (pS_new rfl (c.dep 6 (by kernel_rfl))))) (.cons (vle_of_eq (ρ_S (pS_new rfl (c.dep 7 (by kernel_rfl))))) .nil)))))))) (.cons (upd_ne_S (show (5:Nat) ≠ 15 by decide) ((pS_Mold (t := 5) rfl).trans rfl)) (.cons (upd_ne_S (show (9:Nat) ≠ 15 by decide) ((pS_Mold (t := 9) rfl).trans rfl)) (.cons (upd_ne_S (show (11:Nat) ≠ 15 by decide) ((pS_Mold (t := 11) rfl).trans rfl)) (.cons (upd_ne_S (show (14:Nat) ≠ 15 by decide) (pS_M (t := 14) (i := 6) rfl (c.dep 6 (by kernel_rfl)) rfl)) (.cons upd_same_S .nil))))) ?_
        generalize (β 14).1 = b14
        generalize (β 15).1 = b15
        rw [hpi]
        refine AW.seq ?_
        refine AW.seq ?_
        refine AW.region (by rw [hE]; rfl) ?_
        refine asD rfl ?_
        refine OL.nil ?_
        refine AW.block ?_
        refine AW.boxW 14 (cellsQ 0) rfl vles_q ?_
        refine AW.whileK (α := Nat) [(5, _), (6, _), (7, _), (9, _), (11, _), (13, _), (14, _), (15, _)] [(5, _), (9, _), (11, _), (15, _)] (fun t => [(16, .d (dI t))]) (fun t => [(14, .box b14 T.Rat (cellsQ (sumN (fun t => postQ h w t i) t)))]) (fun t => t ≤ w.length) (fun t => w.length - t) 0 (by repeat (first | exact Knows.nil | refine Knows.cons (by first | exact knD rfl | exact knA rfl | exact knP rfl | exact knO rfl | exact knM rfl | exact knE rfl | exact knR rfl | exact knF rfl | exact knT rfl | exact knJ) ?_)) (by repeat (first | exact Owns.nil | refine Owns.cons (by first | exact owB rfl | exact owR rfl | exact owL rfl | exact owT rfl) ?_)) ⟨Nat.zero_le _, .cons (by first | exact VLe.refl _ | exact VLe.int (by omega) | exact VLe.mt | exact vle_q0 | exact VLe.osl | exact VLe.ptr) .nil, .cons rfl .nil⟩ ?_
        intro t h3
        have h3 : t ≤ w.length := h3
        have zc := post_sum_sz (n := t) f fw h3 i
        refine AW.seq ?_
        refine AW.seq ?_
        refine AW.region (by rw [hE]; rfl) ?_
        refine mvD rfl ?_
        first | refine mvD rfl ?_ | refine mvO rfl ?_ | refine mvM rfl ?_
        first | refine lnL sl.ints rfl rfl ?_ | refine lnO sl.ints rfl rfl ?_ | refine lnM sl.ints rfl rfl ?_ | refine lnD sl.ints rfl rfl rfl ?_
        refine c_lss rfl rfl rfl ?_
        refine OL.nil ?_
        refine AW.cond rfl (fun h139 => ?_) (fun h139 => ?_)
        · first | (simp only [decide_eq_true_eq, decide_eq_false_iff_not, Bool.not_eq_true', Bool.not_eq_false', Bool.not_not, Bool.and_eq_true, Bool.and_eq_false_iff, Bool.or_eq_true, Bool.or_eq_false_iff] at h139) | skip
          refine AW.skip ?_
          refine AW.seq ?_
          refine AW.block ?_
          have ht : t < w.length := by omega
          have hpg := hgt.pg t ht
          have zp := post_sz f fw ht i
          have hpfl2 := postF_len h w t
          refine AW.region_draw 1 [0, 1, 2, 3, 4, 5, 6, 7, 8, 9] order_free (by rw [hE]; rfl) (by kernel_rfl) (OI.of_OL (os := [_, _, _, _, _, _, _, _, _, _]) rfl ?_)
          first | refine ldPA ag.Rat rfl rfl (vs := [_, _, _]) rfl (Nat.le_of_ble_eq_true rfl) ?_ | refine ldRA ag.Rat rfl (vs := [_, _, _]) rfl (Nat.le_of_ble_eq_true rfl) ?_
          first | refine mvD rfl ?_ | refine mvO rfl ?_ | refine mvM rfl ?_
          refine mvD rfl ?_
          refine ixLn sl.Ratss [] rfl rfl (by omega) rfl rfl ?_
          first | refine ldRC ce.Rats rfl ?_ | refine ldPC ce.Rats rfl rfl rfl ?_
          rw [hpg]
          refine mvD rfl ?_
          refine ixLn sl.Rats 0 rfl rfl (by omega) rfl rfl ?_
          first | refine ldPA ag.Rat rfl rfl (vs := [_, _, _]) rfl (Nat.le_of_ble_eq_true rfl) ?_ | refine ldRA ag.Rat rfl (vs := [_, _, _]) rfl (Nat.le_of_ble_eq_true rfl) ?_
          rw [hpi]
          refine clv rfl (.cons (VLe.refl _) (.cons (VLe.refl _) (.nil))) (ref_AddQ (x := (sumN (fun t => postQ h w t i) t)) (y := postQ h w t i) (by omega) (by omega)) ?_
          rw [show (sumN (fun t => postQ h w t i) t) + postQ h w t i = (sumN (fun t => postQ h w t i) (t + 1)) from rfl]
          first | refine sto sz.Rat rfl rfl rfl rfl rfl (Nat.le_of_ble_eq_true rfl) (cells2 := [_, _, _]) rfl ?_ | refine stE sz.Rat rfl (VC.d _).vd rfl rfl (by omega) rfl ?_
          refine OL.nil ?_
          refine AW.region (by rw [hE]; rfl) ?_
          refine mvD rfl ?_
          refine add_i64 rfl rfl (by omega) ?_
          refine asD rfl ?_
          refine OL.nil ?_
          exact AW.again (x := t) (t + 1) (by first | omega | (simp only []; omega)) ⟨by omega, Knows.app (.cons (VLe.refl _) (.cons (VLe.refl _) (.cons (VLe.refl _) (.cons (VLe.refl _) (.cons (VLe.refl _) (.cons (VLe.refl _) (.cons (VLe.refl _) (.cons (VLe.refl _) .nil)))))))) (.cons (by first | exact VLe.refl _ | exact VLe.int (by omega) | exact VLe.mt | exact vle_q0 | exact VLe.osl | exact VLe.ptr) .nil), Owns.app (.cons rfl (.cons rfl (.cons rfl (.cons rfl .nil)))) (.cons rfl .nil)⟩
        · first | (simp only [decide_eq_true_eq, decide_eq_false_iff_not, Bool.not_eq_true', Bool.not_eq_false', Bool.not_not, Bool.and_eq_true, Bool.and_eq_false_iff, Bool.or_eq_true, Bool.or_eq_false_iff] at h139) | skip
          refine AW.exit ?_
          refine AW.seq ?_
          refine AW.seq ?_
          obtain rfl : t = w.length := by omega
          have zp0 := post_sz f fw (t := 0) (by omega) i
          have zpe := post_sz f fw (t := w.length - 1) (by omega) i
          refine AW.region (by rw [hE]; rfl) ?_
          refine asD rfl ?_
          refine OL.nil ?_
          refine AW.block ?_
          refine AW.whileK (α := Nat) [(5, _), (6, _), (7, _), (9, _), (11, _), (13, _), (14, _), (15, _)] [(5, _), (9, _), (11, _), (14, _)] (fun j => [(17, .d (dI j))]) (fun j => [(15, .box b15 T.Rat (cellsQ (postQ h w 0 i + (sumN (fun j => moveQ h w (w.length - 1) j i) j))))]) (fun j => j ≤ h.st) (fun j => h.st - j) 0 (by repeat (first | exact Knows.nil | refine Knows.cons (by first | exact knD rfl | exact knA rfl | exact knP rfl | exact knO rfl | exact knM rfl | exact knE rfl | exact knR rfl | exact knF rfl | exact knT rfl | exact knJ) ?_)) (by repeat (first | exact Owns.nil | refine Owns.cons (by first | exact owB rfl | exact owR rfl | exact owL rfl | exact owT rfl) ?_)) ⟨Nat.zero_le _, .cons (by first | exact VLe.refl _ | exact VLe.int (by omega) | exact VLe.mt | exact vle_q0 | exact VLe.osl | exact VLe.ptr) .nil, .cons (by rw [show (sumN (fun j => moveQ h w (w.length - 1) j i) 0) = 0 from rfl, Rat.add_zero]; rfl) .nil⟩ ?_
          intro j h4
          have h4 : j ≤ h.st := h4
          have zm := into_sum_sz (n := j) f fw hn i
          have za := sz_add (postQ h w 0 i) (sumN (fun j => moveQ h w (w.length - 1) j i) j)
          refine AW.seq ?_
          refine AW.seq ?_
          refine AW.region (by rw [hE]; rfl) ?_
          refine mvD rfl ?_
          first | refine faP fd.Hidden_1 rfl rfl ?_ | refine faR fd.Hidden_1 rfl rfl ?_ | refine faE fd.Hidden_1 rfl rfl ?_
          first | refine ldRC ce.int rfl ?_ | refine ldPC ce.int rfl rfl rfl ?_
          refine c_lss rfl rfl rfl ?_
          refine OL.nil ?_
          refine AW.cond rfl (fun h154 => ?_) (fun h154 => ?_)
          · first | (simp only [decide_eq_true_eq, decide_eq_false_iff_not, Bool.not_eq_true', Bool.not_eq_false', Bool.not_not, Bool.and_eq_true, Bool.and_eq_false_iff, Bool.or_eq_true, Bool.or_eq_false_iff] at h154) | skip
            refine AW.skip ?_
            refine AW.seq ?_
            refine AW.block ?_
            refine AW.seq ?_
            refine AW.seq ?_
            have hj : j < h.st := by omega
            have hgj := hgt.gM j hj
            have hml := moveRow_len h w (w.length - 1) j
            refine AW.region_draw 1 [0, 1, 2, 3, 4, 5, 6, 7, 8] order_free (by rw [hE]; rfl) (by kernel_rfl) (OI.of_OL (os := [_, _, _, _, _, _, _, _, _]) rfl ?_)
            first | refine faP fd.Counts_1 rfl rfl ?_ | refine faR fd.Counts_1 rfl rfl ?_ | refine faE fd.Counts_1 rfl rfl ?_
            first | refine ldRC ce.Ratss rfl ?_ | refine ldPC ce.Ratss rfl rfl rfl ?_
            refine mvD rfl ?_
            refine ixLn sl.Ratss [] rfl rfl (by omega) rfl rfl ?_
            first | refine ldRC ce.Rats rfl ?_ | refine ldPC ce.Rats rfl rfl rfl ?_
            rw [hgj]
            first | refine lnL sl.Rats rfl rfl ?_ | refine lnO sl.Rats rfl rfl ?_ | refine lnM sl.Rats rfl rfl ?_ | refine lnD sl.Rats rfl rfl rfl ?_
            first | refine faP fd.Hidden_1 rfl rfl ?_ | refine faR fd.Hidden_1 rfl rfl ?_ | refine faE fd.Hidden_1 rfl rfl ?_
            first | refine ldRC ce.int rfl ?_ | refine ldPC ce.int rfl rfl rfl ?_
            refine c_neq rfl rfl (c := false) (cne_f (by rw [moveRow_len])) ?_
            refine OL.nil ?_
            refine AW.cond rfl (fun hno => absurd hno (by decide)) (fun _ => ?_)
            refine AW.skip ?_
            have zmj := move_sz f fw (n := w.length - 1) (by omega) j i
            refine AW.region_draw 1 [0, 1, 2, 3, 4, 5, 6, 7, 8, 9, 10] order_free (by rw [hE]; rfl) (by kernel_rfl) (OI.of_OL (os := [_, _, _, _, _, _, _, _, _, _, _]) rfl ?_)
            first | refine ldPA ag.Rat rfl rfl (vs := [_, _, _]) rfl (Nat.le_of_ble_eq_true rfl) ?_ | refine ldRA ag.Rat rfl (vs := [_, _, _]) rfl (Nat.le_of_ble_eq_true rfl) ?_
            first | refine faP fd.Counts_1 rfl rfl ?_ | refine faR fd.Counts_1 rfl rfl ?_ | refine faE fd.Counts_1 rfl rfl ?_
            first | refine ldRC ce.Ratss rfl ?_ | refine ldPC ce.Ratss rfl rfl rfl ?_
            refine mvD rfl ?_
            refine ixLn sl.Ratss [] rfl rfl (by omega) rfl rfl ?_
            first | refine ldRC ce.Rats rfl ?_ | refine ldPC ce.Rats rfl rfl rfl ?_
            rw [hgj]
            refine mvD rfl ?_
            refine ixLn sl.Rats 0 rfl rfl (by omega) rfl rfl ?_
            first | refine ldPA ag.Rat rfl rfl (vs := [_, _, _]) rfl (Nat.le_of_ble_eq_true rfl) ?_ | refine ldRA ag.Rat rfl (vs := [_, _, _]) rfl (Nat.le_of_ble_eq_true rfl) ?_
            rw [moveRow_get hi]
            refine clv rfl (.cons (VLe.refl _) (.cons (VLe.refl _) (.nil))) (ref_AddQ (x := postQ h w 0 i + (sumN (fun j => moveQ h w (w.length - 1) j i) j)) (y := moveQ h w (w.length - 1) j i) (by omega) (by omega)) ?_
            rw [show postQ h w 0 i + (sumN (fun j => moveQ h w (w.length - 1) j i) j) + moveQ h w (w.length - 1) j i = postQ h w 0 i + (sumN (fun j => moveQ h w (w.length - 1) j i) (j + 1)) from Rat.add_assoc ..]
            first | refine sto sz.Rat rfl rfl rfl rfl rfl (Nat.le_of_ble_eq_true rfl) (cells2 := [_, _, _]) rfl ?_ | refine stE sz.Rat rfl (VC.d _).vd rfl rfl (by omega) rfl ?_
            refine OL.nil ?_
            refine AW.region (by rw [hE]; rfl) ?_
            refine mvD rfl ?_
            refine add_i64 rfl rfl (by omega) ?_
            refine asD rfl ?_
            refine OL.nil ?_
            exact AW.again (x := j) (j + 1) (by first | omega | (simp only []; omega)) ⟨by omega, Knows.app (.cons (VLe.refl _) (.cons (VLe.refl _) (.cons (VLe.refl _) (.cons (VLe.refl _) (.cons (VLe.refl _) (.cons (VLe.refl _) (.cons (VLe.refl _) (.cons (VLe.refl _) .nil)))))))) (.cons (by first | exact VLe.refl _ | exact VLe.int (by omega) | exact VLe.mt | exact vle_q0 | exact VLe.osl | exact VLe.ptr) .nil), Owns.app (.cons rfl (.cons rfl (.cons rfl (.cons rfl .nil)))) (.cons rfl .nil)⟩
          · first | (simp only [decide_eq_true_eq, decide_eq_false_iff_not, Bool.not_eq_true', Bool.not_eq_false', Bool.not_not, Bool.and_eq_true, Bool.and_eq_false_iff, Bool.or_eq_true, Bool.or_eq_false_iff] at h154) | skip
            refine AW.exit ?_
            refine AW.seq ?_
            obtain rfl : j = h.st := by omega
            rw [hf.into i hi]
            have zms := sumL_sz (move_small f fw hn i) (by decide) (Nat.le_refl _) (by rw [moveRow_len]; omega)
            change sz (sumL (moveRow h w (w.length - 1) i)) ≤ _ at zms
            refine AW.region_draw 1 [0, 1, 2, 3, 4, 5, 6, 7, 8, 9, 10, 11, 12, 13] order_free (by rw [hE]; rfl) (by kernel_rfl) (OI.of_OL (os := [_, _, _, _, _, _, _, _, _, _, _, _, _, _]) rfl ?_)
            first | refine faP fd.Counts_1 rfl rfl ?_ | refine faR fd.Counts_1 rfl rfl ?_ | refine faE fd.Counts_1 rfl rfl ?_
            first | refine ldRC ce.Ratss rfl ?_ | refine ldPC ce.Ratss rfl rfl rfl ?_
            refine mvD rfl ?_
            refine ixLn sl.Ratss [] rfl rfl (by omega) rfl rfl ?_
            first | refine ldRC ce.Rats rfl ?_ | refine ldPC ce.Rats rfl rfl rfl ?_
            rw [hgM]
            refine clv rfl (.cons (VLe.refl _) (.nil)) (ref33_Sum (l := (moveRow h w (w.length - 1) i)) (move_small f fw hn i) (by decide) (by decide) (by first | (rw [postF_len]; omega) | (rw [showRow_len]; omega) | (rw [moveRow_len]; omega)) (by first | (rw [postF_len]; omega) | (rw [showRow_len]; omega) | (rw [moveRow_len]; omega))) ?_
            first | refine faP fd.Counts_2 rfl rfl ?_ | refine faR fd.Counts_2 rfl rfl ?_ | refine faE fd.Counts_2 rfl rfl ?_
            first | refine ldRC ce.Rats rfl ?_ | refine ldPC ce.Rats rfl rfl rfl ?_
            refine mvD rfl ?_
            refine ixLn sl.Rats 0 rfl rfl (by omega) rfl rfl ?_
            first | refine ldPA ag.Rat rfl rfl (vs := [_, _, _]) rfl (Nat.le_of_ble_eq_true rfl) ?_ | refine ldRA ag.Rat rfl (vs := [_, _, _]) rfl (Nat.le_of_ble_eq_true rfl) ?_
            rw [hpi]
            refine clv rfl (.cons (VLe.refl _) (.cons (VLe.refl _) (.nil))) (ref_AddQ (x := sumL (moveRow h w (w.length - 1) i)) (y := (postQ h w (w.length - 1) i)) (by omega) (by omega)) ?_
            rw [hf.out i hi]
            refine al z.Rat rfl fun b18 => ?_
            first | refine sto sz.Rat rfl rfl rfl rfl rfl (Nat.le_of_ble_eq_true rfl) (cells2 := [_, _, _]) rfl ?_ | refine stE sz.Rat rfl (VC.d _).vd rfl rfl (by omega) rfl ?_
            refine OL.nil ?_
            refine AW.seq ?_
            refine AW.region_draw 1 [0, 1, 2, 3, 4, 5, 6, 7, 8, 9, 10, 11, 12, 13, 14, 15, 16, 17, 18, 19, 20] order_free (by rw [hE]; rfl) (by kernel_rfl) (OI.of_OL (os := [_, _, _, _, _, _, _, _, _, _, _, _, _, _, _, _, _, _, _, _, _]) rfl ?_)
            first | refine ldPA ag.Rat rfl rfl (vs := [_, _, _]) rfl (Nat.le_of_ble_eq_true rfl) ?_ | refine ldRA ag.Rat rfl (vs := [_, _, _]) rfl (Nat.le_of_ble_eq_true rfl) ?_
            first | refine faP fd.Counts_3 rfl rfl ?_ | refine faR fd.Counts_3 rfl rfl ?_ | refine faE fd.Counts_3 rfl rfl ?_
            first | refine ldRC ce.Ratss rfl ?_ | refine ldPC ce.Ratss rfl rfl rfl ?_
            refine mvD rfl ?_
            refine ixLn sl.Ratss [] rfl rfl (by omega) rfl rfl ?_
            first | refine ldRC ce.Rats rfl ?_ | refine ldPC ce.Rats rfl rfl rfl ?_
            rw [hgO]
            refine clv rfl (.cons (VLe.refl _) (.nil)) (ref33_Sum (l := showRow h w w.length i) (show_small f fw i) (by decide) (by decide) (by first | (rw [postF_len]; omega) | (rw [showRow_len]; omega) | (rw [moveRow_len]; omega)) (by first | (rw [postF_len]; omega) | (rw [showRow_len]; omega) | (rw [moveRow_len]; omega))) ?_
            rw [hf.show_ i]
            refine clv rfl (.cons (VLe.refl _) (.cons (VLe.refl _) (.nil))) (ref_CompareQ (x := (sumN (fun t => postQ h w t i) w.length)) (y := (sumN (fun t => postQ h w t i) w.length)) (by omega) (by omega)) ?_
            rw [show cmpQ ((sumN (fun t => postQ h w t i) w.length)) ((sumN (fun t => postQ h w t i) w.length)) = 0 from cmpQ_eq.2 rfl]
            refine c_neq rfl rfl (c := false) (by first | exact decide_eq_true (by omega) | exact decide_eq_false (by omega) | exact cne_f (by omega) | exact cne_t (by omega) | rfl) ?_
            refine mvD rfl ?_
            refine OL.yes rfl ?_
            first | refine ldPA ag.Rat rfl rfl (vs := [_, _, _]) rfl (Nat.le_of_ble_eq_true rfl) ?_ | refine ldRA ag.Rat rfl (vs := [_, _, _]) rfl (Nat.le_of_ble_eq_true rfl) ?_
            refine OL.yes rfl ?_
            first | refine ldPA ag.Rat rfl rfl (vs := [_, _, _]) rfl (Nat.le_of_ble_eq_true rfl) ?_ | refine ldRA ag.Rat rfl (vs := [_, _, _]) rfl (Nat.le_of_ble_eq_true rfl) ?_
            refine OL.yes rfl ?_
            refine clv rfl (.cons (VLe.refl _) (.cons (VLe.refl _) (.nil))) (ref_CompareQ (x := (sumN (fun t => postQ h w t i) w.length)) (y := (sumN (fun t => postQ h w t i) w.length)) (by omega) (by omega)) ?_
            rw [show cmpQ ((sumN (fun t => postQ h w t i) w.length)) ((sumN (fun t => postQ h w t i) w.length)) = 0 from cmpQ_eq.2 rfl]
            refine OL.yes rfl ?_
            refine c_neq rfl rfl (c := false) (by first | exact decide_eq_true (by omega) | exact decide_eq_false (by omega) | exact cne_f (by omega) | exact cne_t (by omega) | rfl) ?_
            refine pkF rfl rfl ?_
            refine mvD rfl ?_
            refine OL.yes rfl ?_
            first | refine ldPA ag.Rat rfl rfl (vs := [_, _, _]) rfl (Nat.le_of_ble_eq_true rfl) ?_ | refine ldRA ag.Rat rfl (vs := [_, _, _]) rfl (Nat.le_of_ble_eq_true rfl) ?_
            refine OL.yes rfl ?_
            first | refine ldPA ag.Rat rfl rfl (vs := [_, _, _]) rfl (Nat.le_of_ble_eq_true rfl) ?_ | refine ldRA ag.Rat rfl (vs := [_, _, _]) rfl (Nat.le_of_ble_eq_true rfl) ?_
            refine OL.yes rfl ?_
            refine clv rfl (.cons (VLe.refl _) (.cons (VLe.refl _) (.nil))) (ref_CompareQ (x := (sumN (fun t => postQ h w t i) w.length)) (y := (sumN (fun t => postQ h w t i) w.length)) (by omega) (by omega)) ?_
            rw [show cmpQ ((sumN (fun t => postQ h w t i) w.length)) ((sumN (fun t => postQ h w t i) w.length)) = 0 from cmpQ_eq.2 rfl]
            refine OL.yes rfl ?_
            refine c_neq rfl rfl (c := false) (by first | exact decide_eq_true (by omega) | exact decide_eq_false (by omega) | exact cne_f (by omega) | exact cne_t (by omega) | rfl) ?_
            refine pkF rfl rfl ?_
            refine OL.nil ?_
            refine AW.cond rfl (fun hno => absurd hno (by decide)) (fun _ => ?_)
            refine AW.skip ?_
            refine AW.region (by rw [hE]; rfl) ?_
            refine mvD rfl ?_
            refine add_i64 rfl rfl (by omega) ?_
            refine asD rfl ?_
            refine OL.nil ?_
            exact AW.again (x := i) (i + 1) (by first | omega | (simp only []; omega)) ⟨by omega, Knows.app (.cons (VLe.refl _) (.cons (VLe.refl _) (.cons (VLe.refl _) (.cons (VLe.refl _) (.cons (VLe.refl _) .nil))))) (.cons (by first | exact VLe.refl _ | exact VLe.int (by omega) | exact VLe.mt | exact vle_q0 | exact VLe.osl | exact VLe.ptr) .nil), Owns.app (.cons rfl (.cons rfl (.cons rfl .nil))) (.nil)⟩
      · first | (simp only [decide_eq_true_eq, decide_eq_false_iff_not, Bool.not_eq_true', Bool.not_eq_false', Bool.not_not, Bool.and_eq_true, Bool.and_eq_false_iff, Bool.or_eq_true, Bool.or_eq_false_iff] at h127) | skip
        refine AW.exit ?_
        refine AW.seq ?_
        refine AW.region_draw 1 [0, 1, 2, 3, 4, 5, 6, 7, 8, 9, 10, 11, 12, 13, 14, 15, 16, 17] order_free (by rw [hE]; rfl) (by kernel_rfl) (OI.of_OL (os := [_, _, _, _, _, _, _, _, _, _, _, _, _, _, _, _, _, _]) rfl ?_)
        refine clv rfl .nil law34_known ?_
        refine mvD rfl ?_
        refine OL.yes rfl ?_
        first | refine faP fd.Counts_0 rfl rfl ?_ | refine faR fd.Counts_0 rfl rfl ?_ | refine faE fd.Counts_0 rfl rfl ?_
        refine OL.yes rfl ?_
        first | refine ldRC ce.Rats rfl ?_ | refine ldPC ce.Rats rfl rfl rfl ?_
        refine OL.yes rfl ?_
        refine clv rfl (.cons (VLe.refl _) (.nil)) (ref33_Sum (l := postF h w 0) (post_small f fw (by omega)) (by decide) (by decide) (by first | (rw [postF_len]; omega) | (rw [showRow_len]; omega) | (rw [moveRow_len]; omega)) (by first | (rw [postF_len]; omega) | (rw [showRow_len]; omega) | (rw [moveRow_len]; omega))) ?_
        rw [hf.row 0 (by omega)]
        refine OL.yes rfl ?_
        first | refine ldPA ag.Rat rfl rfl (vs := [_, _, _]) rfl (Nat.le_of_ble_eq_true rfl) ?_ | refine ldRA ag.Rat rfl (vs := [_, _, _]) rfl (Nat.le_of_ble_eq_true rfl) ?_
        refine OL.yes rfl ?_
        refine clv rfl (.cons (VLe.refl _) (.cons (VLe.refl _) (.nil))) (ref_CompareQ (x := 1) (y := 1) (by omega) (by omega)) ?_
        rw [show cmpQ 1 1 = 0 from cmpQ_eq.2 rfl]
        refine OL.yes rfl ?_
        refine c_eql rfl rfl (c := true) (by first | exact decide_eq_true (by omega) | exact decide_eq_false (by omega) | exact cne_f (by omega) | exact cne_t (by omega) | rfl) ?_
        refine pkT rfl rfl ?_
        refine mvD rfl ?_
        refine OL.yes rfl ?_
        first | refine faP fd.Counts_2 rfl rfl ?_ | refine faR fd.Counts_2 rfl rfl ?_ | refine faE fd.Counts_2 rfl rfl ?_
        refine OL.yes rfl ?_
        first | refine ldRC ce.Rats rfl ?_ | refine ldPC ce.Rats rfl rfl rfl ?_
        refine OL.yes rfl ?_
        refine clv rfl (.cons (VLe.refl _) (.nil)) (ref33_Sum (l := postF h w (w.length - 1)) (post_small f fw (by omega)) (by decide) (by decide) (by first | (rw [postF_len]; omega) | (rw [showRow_len]; omega) | (rw [moveRow_len]; omega)) (by first | (rw [postF_len]; omega) | (rw [showRow_len]; omega) | (rw [moveRow_len]; omega))) ?_
        rw [hf.row (w.length - 1) (by omega)]
        refine OL.yes rfl ?_
        first | refine ldPA ag.Rat rfl rfl (vs := [_, _, _]) rfl (Nat.le_of_ble_eq_true rfl) ?_ | refine ldRA ag.Rat rfl (vs := [_, _, _]) rfl (Nat.le_of_ble_eq_true rfl) ?_
        refine OL.yes rfl ?_
        refine clv rfl (.cons (VLe.refl _) (.cons (VLe.refl _) (.nil))) (ref_CompareQ (x := 1) (y := 1) (by omega) (by omega)) ?_
        rw [show cmpQ 1 1 = 0 from cmpQ_eq.2 rfl]
        refine OL.yes rfl ?_
        refine c_eql rfl rfl (c := true) (by first | exact decide_eq_true (by omega) | exact decide_eq_false (by omega) | exact cne_f (by omega) | exact cne_t (by omega) | rfl) ?_
        refine pkT rfl rfl ?_
        refine asD rfl ?_
        refine OL.nil ?_
        exact AW.ret (RetQ.r ⟨_, .tmp rfl .nil, .le (by first | exact VLe.refl _ | exact VLe.mt | exact vle_q0 | exact VLe.int (by omega) | exact VLe.bool (by simp_all))⟩)
end Go.Proofs.Ytcebciggodhmcaa

/-
  Walks of package online, part 6: the end of a word (printed by mk2.py).
-/
import Derived.Test.YtcebciggodhmcaaGreatKOnD
import Derived.Test.YtcebciggodhmcaaGreatKOnH
set_option linter.unusedVariables false
set_option linter.unusedSimpArgs false
namespace Go.Proofs.YtcebciggodhmcaaGreat
open Go Go.AL
def own13 : Nat → Option Nat
  | 62 => some 0 | 63 => some 1 | 64 => some 2 | 65 => some 3 | 66 => some 4 | 67 => some 5 | 5 => some 6
  | _ => none
theorem own13_inj {t i : Nat} (h : own13 t = some i) : t = [62, 63, 64, 65, 66, 67, 5].getD i 0 := by
  unfold own13 at h
  split at h <;> first | (cases h; rfl) | cases h
noncomputable def val13 (o : Dec) (c : Rat) (b1 b5 i : Nat) (t : Nat) (_ : Nat → Nat × Nat) : V :=
  match t with
  | 62 => vQ c
  | 63 => .ptr 1 b1 13
  | 64 => .d (dIss o.tl)
  | 65 => .d (dI i)
  | 66 => .ref (ints (o.tl.getD i [])).cells
  | 67 => .d (ints (o.tl.getD i []))
  | 5 => .ptr 5 b5 0
  | _ => .junk
noncomputable def blk13 (c : Rat) (b5 : Nat) (t : Nat) (_ : Nat → Nat × Nat) : Option Blk :=
  match t with
  | 5 => some (.box b5 T.Rat (cellsQ c))
  | _ => none
set_option maxRecDepth 8000 in
set_option maxHeartbeats 6400000 in
theorem on_Finish {h : HM} {B : Nat} {u : List Int} {o : Dec} (g : h.Good B) (k : InvD h u o) (hu : u.length ≤ 255) : FSpec P F.online_Finish [vOn h o] (.tup [.d (ints (finP h o)), vQ (finF h o o.sc.length).1, .d (dI (finE h o))]) := by
  have f := g.form
  have n0 := f.st0
  have n1 := f.st1
  have htl := tails_len k (by omega)
  have hdl := done_len k (by omega)
  have hle := k.le
  have hscl : o.sc.length ≤ 12 := by
      by_cases h0 : o.t = 0
      · rw [(k.zero h0).1]; exact Nat.zero_le _
      · rw [(k.len h0).1]; exact n1
  have zn := fin_sz f k
  refine FSpec.intro fn.online_Finish (by rfl) (by rfl) (Nat.le_of_ble_eq_true (by rfl)) fun E hE => ?_
  refine AW.seq ?_
  refine AW.region (by rw [hE]; rfl) ?_
  refine bxA rfl rfl fun b1 => ?_
  refine asM rfl ?_
  refine al z.Rat rfl fun b3 => ?_
  refine asD rfl ?_
  refine OL.nil ?_
  refine AW.seq ?_
  refine AW.seq ?_
  refine AW.region (by rw [hE]; rfl) ?_
  refine ldPA ag.Online rfl rfl (vs := [_, _, _, _, _, _, _, _, _, _, _, _, _, _, _]) rfl (Nat.le_of_ble_eq_true rfl) ?_
  refine clv rfl (.cons (VLe.refl _) (.nil)) (on_Valid g k (by omega)) ?_
  refine nt rfl ?_
  refine OL.nil ?_
  refine AW.cond rfl (fun hno => absurd hno (by decide)) (fun _ => ?_)
  refine AW.skip ?_
  refine AW.seq ?_
  refine AW.region (by rw [hE]; rfl) ?_
  refine al z.Rat rfl fun b5 => ?_
  refine OL.nil ?_
  refine AW.seq ?_
  refine AW.region (by rw [hE]; rfl) ?_
  refine asM rfl ?_
  refine OL.nil ?_
  refine AW.midK (α := Unit) [(1, _), (2, _), (3, _), (4, _), (5, _)] [(1, _), (3, _)] (fun _u => [(6, .d (ints []))]) (fun _u => [(5, .box b5 T.Rat (cellsQ (finF h o 0).1))]) (fun _u => True) (by repeat (first | exact Knows.nil | refine Knows.cons (by first | exact knD rfl | exact knA rfl | exact knP rfl | exact knO rfl | exact knM rfl | exact knE rfl | exact knR rfl | exact knF rfl | exact knT rfl | exact knJ) ?_)) (by repeat (first | exact Owns.nil | refine Owns.cons (by first | exact owB rfl | exact owR rfl | exact owL rfl | exact owT rfl) ?_)) ?_ ?_
  · refine AW.seq ?_
    refine AW.region (by rw [hE]; rfl) ?_
    refine faP fd.Online_1 rfl rfl ?_
    refine ldPC ce.int rfl rfl rfl ?_
    refine c_eql rfl rfl rfl ?_
    refine OL.nil ?_
    refine AW.cond rfl (fun h0 => ?_) (fun h0 => ?_)
    · have h0 : o.t = 0 := by have := of_decide_eq_true h0; omega
      refine AW.region (by rw [hE]; rfl) ?_
      refine faP fd.Online_0 rfl rfl ?_
      refine faP fd.Hidden_2 rfl rfl ?_
      refine ldPA ag.Rat rfl rfl (vs := [_, _, _]) rfl (Nat.le_of_ble_eq_true rfl) ?_
      refine clv rfl (.cons (VLe.refl _) (.nil)) (fresh_Rat (q := h.empty) (by have := f.zE; have := f.bB; omega)) ?_
      refine sto sz.Rat rfl rfl rfl rfl rfl (Nat.le_of_ble_eq_true rfl) (cells2 := [_, _, _]) rfl ?_
      refine OL.nil ?_
      exact AW.reach () ⟨trivial, Knows.app (.cons (VLe.refl _) (.cons (VLe.refl _) (.cons (VLe.refl _) (.cons (VLe.refl _) (.cons (VLe.refl _) .nil))))) (.cons (by first | exact VLe.refl _ | exact VLe.int (by omega) | exact VLe.mt | exact vle_q0 | exact VLe.osl | exact VLe.ptr) .nil), Owns.app (.cons rfl (.cons rfl .nil)) (.cons (by rw [finF, if_pos h0]; rfl) .nil)⟩
    · have h0 : o.t ≠ 0 := fun e => of_decide_eq_false h0 (by omega)
      refine AW.boxW 5 (cellsQ 0) rfl vles_q ?_
      refine AW.skip ?_
      exact AW.reach () ⟨trivial, Knows.app (.cons (VLe.refl _) (.cons (VLe.refl _) (.cons (VLe.refl _) (.cons (VLe.refl _) (.cons (VLe.refl _) .nil))))) (.cons (by first | exact VLe.refl _ | exact VLe.int (by omega) | exact VLe.mt | exact vle_q0 | exact VLe.osl | exact VLe.ptr) .nil), Owns.app (.cons rfl (.cons rfl .nil)) (.cons (by rw [finF, if_neg h0]; rfl) .nil)⟩
  rintro ⟨⟩ hφ
  refine AW.seq ?_
  refine AW.seq ?_
  refine AW.region (by rw [hE]; rfl) ?_
  refine faP fd.Online_2 rfl rfl ?_
  refine ldPC ce.Rats rfl rfl rfl ?_
  refine lnL sl.Rats rfl rfl ?_
  refine mvD rfl ?_
  refine OL.nil ?_
  refine AW.block ?_
  refine AW.whileK (α := Nat) [(1, _), (2, _), (3, _), (4, _), (5, _), (23, _), (24, _)] [(1, _), (3, _)] (fun i => [(6, .d (ints (finF h o i).2)), (25, .d (dI i))]) (fun i => [(5, .box b5 T.Rat (cellsQ (finF h o i).1))]) (fun i => i ≤ o.sc.length) (fun i => o.sc.length - i) 0 (by repeat (first | exact Knows.nil | refine Knows.cons (by first | exact knD rfl | exact knA rfl | exact knP rfl | exact knO rfl | exact knM rfl | exact knE rfl | exact knR rfl | exact knF rfl | exact knT rfl | exact knJ) ?_)) (by repeat (first | exact Owns.nil | refine Owns.cons (by first | exact owB rfl | exact owR rfl | exact owL rfl | exact owT rfl) ?_)) ⟨Nat.zero_le _, .cons (by first | exact VLe.refl _ | exact VLe.int (by omega) | exact VLe.mt | exact vle_q0 | exact VLe.osl | exact VLe.ptr) (.cons (by first | exact VLe.refl _ | exact VLe.int (by omega) | exact VLe.mt | exact vle_q0 | exact VLe.osl | exact VLe.ptr) .nil), .cons rfl .nil⟩ ?_
  intro i h3
  have h3 : i ≤ o.sc.length := h3
  have zp := zn i
  have zs := k.small.get (by omega) i
  have zt := stop_sz f i
  have zc : sz (endQ h o i) ≤ sz (o.sc.getD i 0) + sz (h.stop.getD i 0) := sz_mul (o.sc.getD i 0) (h.stop.getD i 0)
  have hpkl := fin_len (h := h) htl i
  refine AW.seq ?_
  refine AW.region (by rw [hE]; rfl) ?_
  refine c_lss rfl rfl rfl ?_
  refine OL.nil ?_
  refine AW.seq ?_
  refine AW.cond rfl (fun h26 => ?_) (fun h26 => ?_)
  · first | (simp only [decide_eq_true_eq, decide_eq_false_iff_not, Bool.not_eq_true', Bool.not_eq_false', Bool.not_not, Bool.and_eq_true, Bool.and_eq_false_iff, Bool.or_eq_true, Bool.or_eq_false_iff] at h26) | skip
    refine AW.skip ?_
    refine AW.midK (α := Unit) [(1, _), (2, _), (3, _), (4, _), (5, _), (23, _), (24, _), (25, _)] [(1, _), (3, _)] (fun _u => [(6, .d (ints (finF h o (i + 1)).2))]) (fun _u => [(5, .box b5 T.Rat (cellsQ (finF h o (i + 1)).1))]) (fun _u => True) (by repeat (first | exact Knows.nil | refine Knows.cons (by first | exact knD rfl | exact knA rfl | exact knP rfl | exact knO rfl | exact knM rfl | exact knE rfl | exact knR rfl | exact knF rfl | exact knT rfl | exact knJ) ?_)) (by repeat (first | exact Owns.nil | refine Owns.cons (by first | exact owB rfl | exact owR rfl | exact owL rfl | exact owT rfl) ?_)) ?_ ?_
    · refine AW.block ?_
      refine AW.seq ?_
      have hn0 : o.t ≠ 0 := fun e => by have h6 := congrArg List.length (k.zero e).1; rw [List.length_nil] at h6; omega
      obtain ⟨l1, l2⟩ := k.len hn0
      have e3 := f.stop
      refine AW.region (by rw [hE]; rfl) ?_
      refine mvD rfl ?_
      refine ixLn sl.Rats 0 rfl rfl (by omega) rfl rfl ?_
      refine ldRA ag.Rat rfl (vs := [_, _, _]) rfl (Nat.le_of_ble_eq_true rfl) ?_
      refine al z.Rat rfl fun b8 => ?_
      refine asD rfl ?_
      refine sto sz.Rat rfl rfl rfl rfl rfl (Nat.le_of_ble_eq_true rfl) (cells2 := [_, _, _]) rfl ?_
      refine OL.nil ?_
      refine AW.seq ?_
      refine AW.region_draw 1 [0, 1, 2, 3, 4, 5, 6, 7, 8, 9] order_free (by rw [hE]; rfl) (by kernel_rfl) (OI.of_OL (os := [_, _, _, _, _, _, _, _, _, _]) rfl ?_)
      refine ldPA ag.Rat rfl rfl (vs := [_, _, _]) rfl (Nat.le_of_ble_eq_true rfl) ?_
      refine faP fd.Online_0 rfl rfl ?_
      refine faP fd.Hidden_5 rfl rfl ?_
      refine ldPC ce.Rats rfl rfl rfl ?_
      refine mvD rfl ?_
      refine ixLn sl.Rats 0 rfl rfl (by omega) rfl rfl ?_
      refine ldRA ag.Rat rfl (vs := [_, _, _]) rfl (Nat.le_of_ble_eq_true rfl) ?_
      refine clv rfl (.cons (VLe.refl _) (.cons (VLe.refl _) (.nil))) (rational_MulQ (x := o.sc.getD i 0) (y := h.stop.getD i 0) (by omega) (by omega)) ?_
      rw [show o.sc.getD i 0 * h.stop.getD i 0 = (endQ h o i) from rfl]
      refine al z.Rat rfl fun b9 => ?_
      refine sto sz.Rat rfl rfl rfl rfl rfl (Nat.le_of_ble_eq_true rfl) (cells2 := [_, _, _]) rfl ?_
      refine OL.nil ?_
      refine AW.seq ?_
      refine AW.region (by rw [hE]; rfl) ?_
      refine ldPA ag.Rat rfl rfl (vs := [_, _, _]) rfl (Nat.le_of_ble_eq_true rfl) ?_
      refine ldPA ag.Rat rfl rfl (vs := [_, _, _]) rfl (Nat.le_of_ble_eq_true rfl) ?_
      refine clv rfl (.cons (VLe.refl _) (.cons (VLe.refl _) (.nil))) (rational_CompareQ (x := (endQ h o i)) (y := (finF h o i).1) (by omega) (by omega)) ?_
      refine asD rfl ?_
      refine OL.nil ?_
      refine AW.midK (α := Unit) [(1, _), (2, _), (3, _), (4, _), (5, _), (6, _), (7, _), (9, _), (23, _), (24, _), (25, _)] [(1, _), (3, _), (5, _), (9, _)] (fun _u => [(61, .d (dB (decide (betterP (endQ h o i) (o.tl.getD i []) (finF h o i)))))]) (fun _u => []) (fun _u => True) (by repeat (first | exact Knows.nil | refine Knows.cons (by first | exact knD rfl | exact knA rfl | exact knP rfl | exact knO rfl | exact knM rfl | exact knE rfl | exact knR rfl | exact knF rfl | exact knT rfl | exact knJ) ?_)) (by repeat (first | exact Owns.nil | refine Owns.cons (by first | exact owB rfl | exact owR rfl | exact owL rfl | exact owT rfl) ?_)) ?_ ?_
      · refine AW.region (by rw [hE]; rfl) ?_
        refine mvD rfl ?_
        refine c_gtr rfl rfl rfl ?_
        refine mvD rfl ?_
        refine OL.split 43 rfl (fun g1 => ?_) (fun g1 => ?_)
        · have g1 := cmpQ_gt.1 (of_decide_eq_true g1)
          refine OL.no rfl (by decide) ?_
          refine OL.no rfl (by decide) ?_
          refine OL.no rfl (by decide) ?_
          refine OL.no rfl (by decide) ?_
          refine OL.no rfl (by decide) ?_
          refine OL.no rfl (by decide) ?_
          refine OL.no rfl (by decide) ?_
          refine OL.no rfl (by decide) ?_
          refine OL.no rfl (by decide) ?_
          refine OL.no rfl (by decide) ?_
          refine OL.no rfl (by decide) ?_
          refine OL.no rfl (by decide) ?_
          refine OL.no rfl (by decide) ?_
          refine OL.no rfl (by decide) ?_
          refine OL.no rfl (by decide) ?_
          refine OL.no rfl (by decide) ?_
          refine OL.no rfl (by decide) ?_
          refine pkT rfl rfl ?_
          refine OL.nil ?_
          exact AW.reach () ⟨trivial, Knows.app (.cons (VLe.refl _) (.cons (VLe.refl _) (.cons (VLe.refl _) (.cons (VLe.refl _) (.cons (VLe.refl _) (.cons (VLe.refl _) (.cons (VLe.refl _) (.cons (VLe.refl _) (.cons (VLe.refl _) (.cons (VLe.refl _) (.cons (VLe.refl _) .nil))))))))))) (.cons (VLe.bool ((decide_eq_true (.inl g1)).symm)) .nil), Owns.app (.cons rfl (.cons rfl (.cons rfl (.cons rfl .nil)))) (.nil)⟩
        · have g1 : ¬ (finF h o i).1 < (endQ h o i) := fun e => of_decide_eq_false g1 (cmpQ_gt.2 e)
          refine OL.yes rfl ?_
          refine mvD rfl ?_
          refine OL.yes rfl ?_
          refine c_eql rfl rfl rfl ?_
          refine OL.yes rfl ?_
          refine mvD rfl ?_
          refine OL.split 46 rfl (fun g2 => ?_) (fun g2 => ?_)
          · have g2 : (endQ h o i) = (finF h o i).1 := cmpQ_eq.1 (of_decide_eq_true g2)
            refine OL.yes rfl ?_
            refine ldPA ag.Rat rfl rfl (vs := [_, _, _]) rfl (Nat.le_of_ble_eq_true rfl) ?_
            refine OL.yes rfl ?_
            refine clv rfl (.cons (VLe.refl _) (.nil)) (rational_SignQ (x := (endQ h o i)) (by omega)) ?_
            refine OL.yes rfl ?_
            refine c_gtr rfl rfl rfl ?_
            refine OL.yes rfl ?_
            refine pkT rfl rfl ?_
            refine OL.yes rfl ?_
            refine mvD rfl ?_
            refine OL.split 51 rfl (fun g3 => ?_) (fun g3 => ?_)
            · have g3 : 0 < (endQ h o i) := sgn_gt.1 (of_decide_eq_true g3)
              refine OL.yes rfl ?_
              refine faP fd.Online_3 rfl rfl ?_
              refine OL.yes rfl ?_
              refine ldPC ce.intss rfl rfl rfl ?_
              refine OL.yes rfl ?_
              refine mvD rfl ?_
              refine OL.yes rfl ?_
              refine ixLn sl.intss [] rfl rfl (by omega) rfl rfl ?_
              refine OL.yes rfl ?_
              refine ldRC ce.ints rfl ?_
              refine OL.yes rfl ?_
              refine mvD rfl ?_
              refine OL.yes rfl ?_
              refine clv rfl (.cons (VLe.refl _) (.cons (VLe.refl _) (.nil))) (compare_ints (by have := htl i; omega)) ?_
              refine OL.yes rfl ?_
              refine c_lss rfl rfl rfl ?_
              refine OL.yes rfl ?_
              refine pkT rfl rfl ?_
              refine pkF rfl rfl ?_
              refine OL.nil ?_
              exact AW.reach () ⟨trivial, Knows.app (.cons (VLe.refl _) (.cons (VLe.refl _) (.cons (VLe.refl _) (.cons (VLe.refl _) (.cons (VLe.refl _) (.cons (VLe.refl _) (.cons (VLe.refl _) (.cons (VLe.refl _) (.cons (VLe.refl _) (.cons (VLe.refl _) (.cons (VLe.refl _) .nil))))))))))) (.cons (VLe.bool (decide_eq_decide.2 ⟨fun e => .inr ⟨g2, g3, e⟩, fun e => (e.resolve_left g1).2.2⟩)) .nil), Owns.app (.cons rfl (.cons rfl (.cons rfl (.cons rfl .nil)))) (.nil)⟩
            · have g3 : ¬ 0 < (endQ h o i) := fun e => of_decide_eq_false g3 (sgn_gt.2 e)
              refine OL.no rfl (by decide) ?_
              refine OL.no rfl (by decide) ?_
              refine OL.no rfl (by decide) ?_
              refine OL.no rfl (by decide) ?_
              refine OL.no rfl (by decide) ?_
              refine OL.no rfl (by decide) ?_
              refine OL.no rfl (by decide) ?_
              refine OL.no rfl (by decide) ?_
              refine OL.yes rfl ?_
              refine pkF rfl rfl ?_
              refine pkF rfl rfl ?_
              refine OL.nil ?_
              exact AW.reach () ⟨trivial, Knows.app (.cons (VLe.refl _) (.cons (VLe.refl _) (.cons (VLe.refl _) (.cons (VLe.refl _) (.cons (VLe.refl _) (.cons (VLe.refl _) (.cons (VLe.refl _) (.cons (VLe.refl _) (.cons (VLe.refl _) (.cons (VLe.refl _) (.cons (VLe.refl _) .nil))))))))))) (.cons (VLe.bool ((decide_eq_false fun e => g3 (e.resolve_left g1).2.1).symm)) .nil), Owns.app (.cons rfl (.cons rfl (.cons rfl (.cons rfl .nil)))) (.nil)⟩
          · have g2 : (endQ h o i) ≠ (finF h o i).1 := fun e => of_decide_eq_false g2 (cmpQ_eq.2 e)
            refine OL.no rfl (by decide) ?_
            refine OL.no rfl (by decide) ?_
            refine OL.no rfl (by decide) ?_
            refine OL.yes rfl ?_
            refine pkF rfl rfl ?_
            refine OL.yes rfl ?_
            refine mvD rfl ?_
            refine OL.no rfl (by decide) ?_
            refine OL.no rfl (by decide) ?_
            refine OL.no rfl (by decide) ?_
            refine OL.no rfl (by decide) ?_
            refine OL.no rfl (by decide) ?_
            refine OL.no rfl (by decide) ?_
            refine OL.no rfl (by decide) ?_
            refine OL.no rfl (by decide) ?_
            refine OL.yes rfl ?_
            refine pkF rfl rfl ?_
            refine pkF rfl rfl ?_
            refine OL.nil ?_
            exact AW.reach () ⟨trivial, Knows.app (.cons (VLe.refl _) (.cons (VLe.refl _) (.cons (VLe.refl _) (.cons (VLe.refl _) (.cons (VLe.refl _) (.cons (VLe.refl _) (.cons (VLe.refl _) (.cons (VLe.refl _) (.cons (VLe.refl _) (.cons (VLe.refl _) (.cons (VLe.refl _) .nil))))))))))) (.cons (VLe.bool ((decide_eq_false fun e => g2 (e.resolve_left g1).1).symm)) .nil), Owns.app (.cons rfl (.cons rfl (.cons rfl (.cons rfl .nil)))) (.nil)⟩
      rintro ⟨⟩ hφ
      refine AW.cond rfl (fun gb => ?_) (fun gb => ?_)
      · have gb := of_decide_eq_true gb
        have hpk : (finF h o (i + 1)) = ((endQ h o i), o.tl.getD i []) := if_pos gb
        refine AW.region_plan (val13 o (endQ h o i) b1 b5 i) (blk13 (endQ h o i) b5) own13 7 order_free (by rw [hE]; rfl) (by rfl) (by kernel_rfl) (by kernel_rfl) ?_ ?_
        · refine cases7 ?_ ?_ ?_ ?_ ?_ ?_ ?_
          · exact fun β L c => ⟨_, rfl, OG.of_OL (ldPA ag.Rat ((pS_old rfl).trans rfl) ((pS_Mold rfl).trans rfl) (vs := cellsQ (endQ h o i)) rfl (Nat.le_of_ble_eq_true rfl) ⟨β, pS_put (d := 62) (i := 0) rfl (fun t ht => own13_inj ht) (lt_size 8 c.size rfl (by decide)) rfl⟩)⟩
          · exact fun β L c => ⟨_, rfl, OG.of_OL (faP fd.Online_3 (b := b1) (o := 0) (id := 1) ((pS_old rfl).trans rfl) rfl ⟨β, pS_put (d := 63) (i := 1) rfl (fun t ht => own13_inj ht) (lt_size 8 c.size rfl (by decide)) rfl⟩)⟩
          · exact fun β L c => ⟨_, rfl, OG.of_OL (ldPC ce.intss (pS_new rfl (c.dep 1 (by kernel_rfl))) (((pS_Mold rfl).trans rfl : _ = some (.box b1 T.Online (cellsOn h o)))) (v := .d (dIss o.tl)) rfl ⟨β, pS_put (d := 64) (i := 2) rfl (fun t ht => own13_inj ht) (lt_size 8 c.size rfl (by decide)) rfl⟩)⟩
          · exact fun β L c => ⟨_, rfl, OG.of_OL (mvD (y := dI i) ((pS_old rfl).trans rfl) ⟨β, pS_put (d := 65) (i := 3) rfl (fun t ht => own13_inj ht) (lt_size 8 c.size rfl (by decide)) rfl⟩)⟩
          · exact fun β L c => ⟨_, rfl, OG.of_OL (ixLn sl.intss [] (l := o.tl) (f := ints) (i := i) (pS_new rfl (c.dep 2 (by kernel_rfl))) (pS_new rfl (c.dep 3 (by kernel_rfl))) (by omega) (cs := (ints (o.tl.getD i [])).cells) rfl rfl ⟨β, pS_put (d := 66) (i := 4) rfl (fun t ht => own13_inj ht) (lt_size 8 c.size rfl (by decide)) rfl⟩)⟩
          · exact fun β L c => ⟨_, rfl, OG.of_OL (ldRC ce.ints (pS_new rfl (c.dep 4 (by kernel_rfl))) ⟨β, pS_put (d := 67) (i := 5) rfl (fun t ht => own13_inj ht) (lt_size 8 c.size rfl (by decide)) rfl⟩)⟩
          · exact fun β L c => ⟨_, rfl, OG.of_OL (sto sz.Rat ((pS_rho0 (t := 5) (i := 6) rfl c.no).trans rfl) (pS_new rfl (c.dep 0 (by kernel_rfl))) rfl ((pS_M0 (t := 5) (i := 6) rfl c.no).trans rfl) rfl (Nat.le_of_ble_eq_true rfl) (cells2 := cellsQ (endQ h o i)) rfl ⟨β, pS_sto (d := 5) (i := 6) rfl (fun t ht => own13_inj ht) (lt_size 8 c.size rfl (by decide)) c.no rfl rfl⟩)⟩
        refine fun β L c => ⟨_, rfl, OG.of_OL (asD (y := ints (o.tl.getD i [])) (pS_new rfl (c.dep 5 (by kernel_rfl))) ?_)⟩
        refine OL.nil ?_
        exact AW.reach () ⟨trivial, Knows.app (.cons (vle_of_eq (putneS (show (1:Nat) ≠ 6 by decide) ((pS_old rfl).trans rfl))) (.cons (vle_of_eq (putneS (show (2:Nat) ≠ 6 by decide) ((pS_old rfl).trans rfl))) (.cons (vle_of_eq (putneS (show (3:Nat) ≠ 6 by decide) ((pS_old rfl).trans rfl))) (.cons (vle_of_eq (putneS (show (4:Nat) ≠ 6 by decide) ((pS_old rfl).trans rfl))) (.cons (vle_of_eq (putneS (show (5:Nat) ≠ 6 by decide) (pS_new (t := 5) (i := 6) rfl (c.dep 6 (by kernel_rfl))))) (.cons (vle_of_eq (putneS (show (23:Nat) ≠ 6 by decide) ((pS_old rfl).trans rfl))) (.cons (vle_of_eq (putneS (show (24:Nat) ≠ 6 by decide) ((pS_old rfl).trans rfl))) (.cons (vle_of_eq (putneS (show (25:Nat) ≠ 6 by decide) ((pS_old rfl).trans rfl))) (.nil))))))))) (.cons (vle_of_eq (putsmS.trans (by rw [hpk]))) .nil), Owns.app (.cons (putM ((pS_Mold (t := 1) rfl).trans rfl)) (.cons (putM ((pS_Mold (t := 3) rfl).trans rfl)) (.nil))) (.cons (putM ((pS_M (t := 5) (i := 6) rfl (c.dep 6 (by kernel_rfl)) rfl).trans (by rw [hpk]))) .nil)⟩
      · have gb := of_decide_eq_false gb
        have hpk : (finF h o (i + 1)) = (finF h o i) := if_neg gb
        refine AW.skip ?_
        exact AW.reach () ⟨trivial, Knows.app (.cons (VLe.refl _) (.cons (VLe.refl _) (.cons (VLe.refl _) (.cons (VLe.refl _) (.cons (VLe.refl _) (.cons (VLe.refl _) (.cons (VLe.refl _) (.cons (VLe.refl _) .nil)))))))) (.cons (vle_of_eq (by rw [hpk]; rfl)) .nil), Owns.app (.cons rfl (.cons rfl .nil)) (.cons (by rw [hpk]; rfl) .nil)⟩
    rintro ⟨⟩ hφ
    refine AW.region (by rw [hE]; rfl) ?_
    refine add_i64 rfl rfl (by omega) ?_
    refine mvD rfl ?_
    refine OL.nil ?_
    exact AW.again (x := i) (i + 1) (by first | omega | (simp only []; omega)) ⟨by omega, Knows.app (.cons (VLe.refl _) (.cons (VLe.refl _) (.cons (VLe.refl _) (.cons (VLe.refl _) (.cons (VLe.refl _) (.cons (VLe.refl _) (.cons (VLe.refl _) .nil))))))) (.cons (by first | exact VLe.refl _ | exact VLe.int (by omega) | exact VLe.mt | exact vle_q0 | exact VLe.osl | exact VLe.ptr) (.cons (by first | exact VLe.refl _ | exact VLe.int (by omega) | exact VLe.mt | exact vle_q0 | exact VLe.osl | exact VLe.ptr) .nil)), Owns.app (.cons rfl (.cons rfl .nil)) (.cons rfl .nil)⟩
  · first | (simp only [decide_eq_true_eq, decide_eq_false_iff_not, Bool.not_eq_true', Bool.not_eq_false', Bool.not_not, Bool.and_eq_true, Bool.and_eq_false_iff, Bool.or_eq_true, Bool.or_eq_false_iff] at h26) | skip
    refine AW.exit ?_
    refine AW.seq ?_
    refine AW.seq ?_
    obtain rfl : i = o.sc.length := by omega
    refine AW.region (by rw [hE]; rfl) ?_
    refine ldPA ag.Rat rfl rfl (vs := [_, _, _]) rfl (Nat.le_of_ble_eq_true rfl) ?_
    refine clv rfl (.cons (VLe.refl _) (.nil)) (rational_SignQ (x := (finF h o o.sc.length).1) (by omega)) ?_
    refine c_eql rfl rfl rfl ?_
    refine OL.nil ?_
    refine AW.cond rfl (fun hz => ?_) (fun hz => ?_)
    · have hz : (finF h o o.sc.length).1 = 0 := sgnQ_eq.1 (of_decide_eq_true hz)
      refine AW.seq ?_
      refine AW.region (by rw [hE]; rfl) ?_
      refine bd z.Rat pl.Rat (cs := [_, _, _]) rfl ?_
      refine asM rfl ?_
      refine sto sz.Rat rfl rfl rfl rfl rfl (Nat.le_of_ble_eq_true rfl) (cells2 := [_, _, _]) rfl ?_
      refine asD rfl ?_
      refine OL.nil ?_
      exact AW.ret (RetQ.r ⟨_, .tmp rfl (.cellA rfl rfl ag.Rat (Nat.le_of_ble_eq_true rfl) (.tmp rfl .nil)), _, .cons (.le (by rw [finP, if_pos hz]; exact VLe.mt)) (.cons (.ag (.cons (.le (by rw [hz, ofQ_zero]; exact VLe.refl _)) (.cons (.le (by rw [hz, ofQ_zero]; exact VLe.mt)) (.cons (.le (by rw [hz, ofQ_zero]; exact VLe.mt)) .nil)))) (.cons (.le (VLe.int (by rw [finE, if_pos hz]))) .nil)), rfl⟩)
    · have hz : (finF h o o.sc.length).1 ≠ 0 := fun e => of_decide_eq_false hz (sgnQ_eq.2 e)
      refine AW.skip ?_
      refine AW.seq ?_
      refine AW.region_tree order_free (by rw [hE]; rfl) ?_
      refine OT.node [0, 2, 5] (os := [_, _, _]) (by kernel_rfl) (by decide) rfl ⟨?_, ?_, ?_, trivial⟩
      · refine faP fd.Online_4 rfl rfl ?_
        refine OL.nil ?_
        refine OT.node [1, 2, 5] (os := [_, _, _]) (by kernel_rfl) (by decide) rfl ⟨?_, ?_, ?_, trivial⟩
        · refine ldPC ce.ints rfl rfl rfl ?_
          refine OL.nil ?_
          refine OT.node [2, 5] (os := [_, _]) (by kernel_rfl) (by decide) rfl ⟨?_, ?_, trivial⟩
          · refine mvD rfl ?_
            refine OL.nil ?_
            refine OT.node [3, 5] (os := [_, _]) (by kernel_rfl) (by decide) rfl ⟨?_, ?_, trivial⟩
            · refine lt2 (y := ints o.dn) (y2 := ints (finF h o o.sc.length).2) sl.intss (VC.d _).vd (VC.d _).vd ⟨rfl, rfl⟩ (by decide) ?_
              refine OL.nil ?_
              refine OT.node [4, 5] (os := [_, _]) (by kernel_rfl) (by decide) rfl ⟨?_, ?_, trivial⟩
              · refine clv rfl (.cons (VLe.refl _) (.nil)) (concat_ints (L := [o.dn, (finF h o o.sc.length).2]) (by simp) (by rw [show List.flatten [o.dn, (finF h o o.sc.length).2] = o.dn ++ (finF h o o.sc.length).2 by simp, List.length_append]; omega)) ?_
                rw [show List.flatten [o.dn, (finF h o o.sc.length).2] = o.dn ++ (finF h o o.sc.length).2 by simp]
                refine OL.nil ?_
                refine OT.node [5, 6] (os := [_, _]) (by kernel_rfl) (by decide) rfl ⟨?_, ?_, trivial⟩
                · refine ldPA ag.Rat rfl rfl (vs := [_, _, _]) rfl (Nat.le_of_ble_eq_true rfl) ?_
                  refine OL.nil ?_
                  refine OT.node [6] (os := [_]) (by kernel_rfl) (by decide) rfl ⟨?_, trivial⟩
                  refine asD rfl ?_
                  refine OL.nil ?_
                  refine OT.node [7] (os := [_]) (by kernel_rfl) (by decide) rfl ⟨?_, trivial⟩
                  refine sto sz.Rat rfl rfl rfl rfl rfl (Nat.le_of_ble_eq_true rfl) (cells2 := [_, _, _]) rfl ?_
                  refine OL.nil ?_
                  refine OT.node [8] (os := [_]) (by kernel_rfl) (by decide) rfl ⟨?_, trivial⟩
                  refine asD rfl ?_
                  refine OL.nil ?_
                  refine OT.leaf (by kernel_rfl) ?_
                  exact AW.ret (RetQ.r ⟨_, .tmp rfl (.cellA rfl rfl ag.Rat (Nat.le_of_ble_eq_true rfl) (.tmp rfl .nil)), _, .cons (.le (vle_of_eq (by rw [finP, if_neg hz]; rfl))) (.cons (.ag (.cons (.le (by first | exact VLe.refl _ | exact VLe.mt | exact vle_q0 | exact VLe.int (by omega) | exact VLe.bool (by simp_all))) (.cons (.le (by first | exact VLe.refl _ | exact VLe.mt | exact vle_q0 | exact VLe.int (by omega) | exact VLe.bool (by simp_all))) (.cons (.le (by first | exact VLe.refl _ | exact VLe.mt | exact vle_q0 | exact VLe.int (by omega) | exact VLe.bool (by simp_all))) .nil)))) (.cons (.le (VLe.int (by rw [finE, if_neg hz]))) .nil)), rfl⟩)
                · refine asD rfl ?_
                  refine OL.nil ?_
                  refine OT.node [5] (os := [_]) (by kernel_rfl) (by decide) rfl ⟨?_, trivial⟩
                  refine ldPA ag.Rat rfl rfl (vs := [_, _, _]) rfl (Nat.le_of_ble_eq_true rfl) ?_
                  refine OL.nil ?_
                  refine OT.node [7] (os := [_]) (by kernel_rfl) (by decide) rfl ⟨?_, trivial⟩
                  refine sto sz.Rat rfl rfl rfl rfl rfl (Nat.le_of_ble_eq_true rfl) (cells2 := [_, _, _]) rfl ?_
                  refine OL.nil ?_
                  refine OT.node [8] (os := [_]) (by kernel_rfl) (by decide) rfl ⟨?_, trivial⟩
                  refine asD rfl ?_
                  refine OL.nil ?_
                  refine OT.leaf (by kernel_rfl) ?_
                  exact AW.ret (RetQ.r ⟨_, .tmp rfl (.cellA rfl rfl ag.Rat (Nat.le_of_ble_eq_true rfl) (.tmp rfl .nil)), _, .cons (.le (vle_of_eq (by rw [finP, if_neg hz]; rfl))) (.cons (.ag (.cons (.le (by first | exact VLe.refl _ | exact VLe.mt | exact vle_q0 | exact VLe.int (by omega) | exact VLe.bool (by simp_all))) (.cons (.le (by first | exact VLe.refl _ | exact VLe.mt | exact vle_q0 | exact VLe.int (by omega) | exact VLe.bool (by simp_all))) (.cons (.le (by first | exact VLe.refl _ | exact VLe.mt | exact vle_q0 | exact VLe.int (by omega) | exact VLe.bool (by simp_all))) .nil)))) (.cons (.le (VLe.int (by rw [finE, if_neg hz]))) .nil)), rfl⟩)
              · refine ldPA ag.Rat rfl rfl (vs := [_, _, _]) rfl (Nat.le_of_ble_eq_true rfl) ?_
                refine OL.nil ?_
                refine OT.node [4] (os := [_]) (by kernel_rfl) (by decide) rfl ⟨?_, trivial⟩
                refine clv rfl (.cons (VLe.refl _) (.nil)) (concat_ints (L := [o.dn, (finF h o o.sc.length).2]) (by simp) (by rw [show List.flatten [o.dn, (finF h o o.sc.length).2] = o.dn ++ (finF h o o.sc.length).2 by simp, List.length_append]; omega)) ?_
                rw [show List.flatten [o.dn, (finF h o o.sc.length).2] = o.dn ++ (finF h o o.sc.length).2 by simp]
                refine OL.nil ?_
                refine OT.node [6] (os := [_]) (by kernel_rfl) (by decide) rfl ⟨?_, trivial⟩
                refine asD rfl ?_
                refine OL.nil ?_
                refine OT.node [7] (os := [_]) (by kernel_rfl) (by decide) rfl ⟨?_, trivial⟩
                refine sto sz.Rat rfl rfl rfl rfl rfl (Nat.le_of_ble_eq_true rfl) (cells2 := [_, _, _]) rfl ?_
                refine OL.nil ?_
                refine OT.node [8] (os := [_]) (by kernel_rfl) (by decide) rfl ⟨?_, trivial⟩
                refine asD rfl ?_
                refine OL.nil ?_
                refine OT.leaf (by kernel_rfl) ?_
                exact AW.ret (RetQ.r ⟨_, .tmp rfl (.cellA rfl rfl ag.Rat (Nat.le_of_ble_eq_true rfl) (.tmp rfl .nil)), _, .cons (.le (vle_of_eq (by rw [finP, if_neg hz]; rfl))) (.cons (.ag (.cons (.le (by first | exact VLe.refl _ | exact VLe.mt | exact vle_q0 | exact VLe.int (by omega) | exact VLe.bool (by simp_all))) (.cons (.le (by first | exact VLe.refl _ | exact VLe.mt | exact vle_q0 | exact VLe.int (by omega) | exact VLe.bool (by simp_all))) (.cons (.le (by first | exact VLe.refl _ | exact VLe.mt | exact vle_q0 | exact VLe.int (by omega) | exact VLe.bool (by simp_all))) .nil)))) (.cons (.le (VLe.int (by rw [finE, if_neg hz]))) .nil)), rfl⟩)
            · refine ldPA ag.Rat rfl rfl (vs := [_, _, _]) rfl (Nat.le_of_ble_eq_true rfl) ?_
              refine OL.nil ?_
              refine OT.node [3] (os := [_]) (by kernel_rfl) (by decide) rfl ⟨?_, trivial⟩
              refine lt2 (y := ints o.dn) (y2 := ints (finF h o o.sc.length).2) sl.intss (VC.d _).vd (VC.d _).vd ⟨rfl, rfl⟩ (by decide) ?_
              refine OL.nil ?_
              refine OT.node [4] (os := [_]) (by kernel_rfl) (by decide) rfl ⟨?_, trivial⟩
              refine clv rfl (.cons (VLe.refl _) (.nil)) (concat_ints (L := [o.dn, (finF h o o.sc.length).2]) (by simp) (by rw [show List.flatten [o.dn, (finF h o o.sc.length).2] = o.dn ++ (finF h o o.sc.length).2 by simp, List.length_append]; omega)) ?_
              rw [show List.flatten [o.dn, (finF h o o.sc.length).2] = o.dn ++ (finF h o o.sc.length).2 by simp]
              refine OL.nil ?_
              refine OT.node [6] (os := [_]) (by kernel_rfl) (by decide) rfl ⟨?_, trivial⟩
              refine asD rfl ?_
              refine OL.nil ?_
              refine OT.node [7] (os := [_]) (by kernel_rfl) (by decide) rfl ⟨?_, trivial⟩
              refine sto sz.Rat rfl rfl rfl rfl rfl (Nat.le_of_ble_eq_true rfl) (cells2 := [_, _, _]) rfl ?_
              refine OL.nil ?_
              refine OT.node [8] (os := [_]) (by kernel_rfl) (by decide) rfl ⟨?_, trivial⟩
              refine asD rfl ?_
              refine OL.nil ?_
              refine OT.leaf (by kernel_rfl) ?_
              exact AW.ret (RetQ.r ⟨_, .tmp rfl (.cellA rfl rfl ag.Rat (Nat.le_of_ble_eq_true rfl) (.tmp rfl .nil)), _, .cons (.le (vle_of_eq (by rw [finP, if_neg hz]; rfl))) (.cons (.ag (.cons (.le (by first | exact VLe.refl _ | exact VLe.mt | exact vle_q0 | exact VLe.int (by omega) | exact VLe.bool (by simp_all))) (.cons (.le (by first | exact VLe.refl _ | exact VLe.mt | exact vle_q0 | exact VLe.int (by omega) | exact VLe.bool (by simp_all))) (.cons (.le (by first | exact VLe.refl _ | exact VLe.mt | exact vle_q0 | exact VLe.int (by omega) | exact VLe.bool (by simp_all))) .nil)))) (.cons (.le (VLe.int (by rw [finE, if_neg hz]))) .nil)), rfl⟩)
          · refine ldPA ag.Rat rfl rfl (vs := [_, _, _]) rfl (Nat.le_of_ble_eq_true rfl) ?_
            refine OL.nil ?_
            refine OT.node [2] (os := [_]) (by kernel_rfl) (by decide) rfl ⟨?_, trivial⟩
            refine mvD rfl ?_
            refine OL.nil ?_
            refine OT.node [3] (os := [_]) (by kernel_rfl) (by decide) rfl ⟨?_, trivial⟩
            refine lt2 (y := ints o.dn) (y2 := ints (finF h o o.sc.length).2) sl.intss (VC.d _).vd (VC.d _).vd ⟨rfl, rfl⟩ (by decide) ?_
            refine OL.nil ?_
            refine OT.node [4] (os := [_]) (by kernel_rfl) (by decide) rfl ⟨?_, trivial⟩
            refine clv rfl (.cons (VLe.refl _) (.nil)) (concat_ints (L := [o.dn, (finF h o o.sc.length).2]) (by simp) (by rw [show List.flatten [o.dn, (finF h o o.sc.length).2] = o.dn ++ (finF h o o.sc.length).2 by simp, List.length_append]; omega)) ?_
            rw [show List.flatten [o.dn, (finF h o o.sc.length).2] = o.dn ++ (finF h o o.sc.length).2 by simp]
            refine OL.nil ?_
            refine OT.node [6] (os := [_]) (by kernel_rfl) (by decide) rfl ⟨?_, trivial⟩
            refine asD rfl ?_
            refine OL.nil ?_
            refine OT.node [7] (os := [_]) (by kernel_rfl) (by decide) rfl ⟨?_, trivial⟩
            refine sto sz.Rat rfl rfl rfl rfl rfl (Nat.le_of_ble_eq_true rfl) (cells2 := [_, _, _]) rfl ?_
            refine OL.nil ?_
            refine OT.node [8] (os := [_]) (by kernel_rfl) (by decide) rfl ⟨?_, trivial⟩
            refine asD rfl ?_
            refine OL.nil ?_
            refine OT.leaf (by kernel_rfl) ?_
            exact AW.ret (RetQ.r ⟨_, .tmp rfl (.cellA rfl rfl ag.Rat (Nat.le_of_ble_eq_true rfl) (.tmp rfl .nil)), _, .cons (.le (vle_of_eq (by rw [finP, if_neg hz]; rfl))) (.cons (.ag (.cons (.le (by first | exact VLe.refl _ | exact VLe.mt | exact vle_q0 | exact VLe.int (by omega) | exact VLe.bool (by simp_all))) (.cons (.le (by first | exact VLe.refl _ | exact VLe.mt | exact vle_q0 | exact VLe.int (by omega) | exact VLe.bool (by simp_all))) (.cons (.le (by first | exact VLe.refl _ | exact VLe.mt | exact vle_q0 | exact VLe.int (by omega) | exact VLe.bool (by simp_all))) .nil)))) (.cons (.le (VLe.int (by rw [finE, if_neg hz]))) .nil)), rfl⟩)
        · refine mvD rfl ?_
          refine OL.nil ?_
          refine OT.node [1, 5] (os := [_, _]) (by kernel_rfl) (by decide) rfl ⟨?_, ?_, trivial⟩
          · refine ldPC ce.ints rfl rfl rfl ?_
            refine OL.nil ?_
            refine OT.node [3, 5] (os := [_, _]) (by kernel_rfl) (by decide) rfl ⟨?_, ?_, trivial⟩
            · refine lt2 (y := ints o.dn) (y2 := ints (finF h o o.sc.length).2) sl.intss (VC.d _).vd (VC.d _).vd ⟨rfl, rfl⟩ (by decide) ?_
              refine OL.nil ?_
              refine OT.node [4, 5] (os := [_, _]) (by kernel_rfl) (by decide) rfl ⟨?_, ?_, trivial⟩
              · refine clv rfl (.cons (VLe.refl _) (.nil)) (concat_ints (L := [o.dn, (finF h o o.sc.length).2]) (by simp) (by rw [show List.flatten [o.dn, (finF h o o.sc.length).2] = o.dn ++ (finF h o o.sc.length).2 by simp, List.length_append]; omega)) ?_
                rw [show List.flatten [o.dn, (finF h o o.sc.length).2] = o.dn ++ (finF h o o.sc.length).2 by simp]
                refine OL.nil ?_
                refine OT.node [5, 6] (os := [_, _]) (by kernel_rfl) (by decide) rfl ⟨?_, ?_, trivial⟩
                · refine ldPA ag.Rat rfl rfl (vs := [_, _, _]) rfl (Nat.le_of_ble_eq_true rfl) ?_
                  refine OL.nil ?_
                  refine OT.node [6] (os := [_]) (by kernel_rfl) (by decide) rfl ⟨?_, trivial⟩
                  refine asD rfl ?_
                  refine OL.nil ?_
                  refine OT.node [7] (os := [_]) (by kernel_rfl) (by decide) rfl ⟨?_, trivial⟩
                  refine sto sz.Rat rfl rfl rfl rfl rfl (Nat.le_of_ble_eq_true rfl) (cells2 := [_, _, _]) rfl ?_
                  refine OL.nil ?_
                  refine OT.node [8] (os := [_]) (by kernel_rfl) (by decide) rfl ⟨?_, trivial⟩
                  refine asD rfl ?_
                  refine OL.nil ?_
                  refine OT.leaf (by kernel_rfl) ?_
                  exact AW.ret (RetQ.r ⟨_, .tmp rfl (.cellA rfl rfl ag.Rat (Nat.le_of_ble_eq_true rfl) (.tmp rfl .nil)), _, .cons (.le (vle_of_eq (by rw [finP, if_neg hz]; rfl))) (.cons (.ag (.cons (.le (by first | exact VLe.refl _ | exact VLe.mt | exact vle_q0 | exact VLe.int (by omega) | exact VLe.bool (by simp_all))) (.cons (.le (by first | exact VLe.refl _ | exact VLe.mt | exact vle_q0 | exact VLe.int (by omega) | exact VLe.bool (by simp_all))) (.cons (.le (by first | exact VLe.refl _ | exact VLe.mt | exact vle_q0 | exact VLe.int (by omega) | exact VLe.bool (by simp_all))) .nil)))) (.cons (.le (VLe.int (by rw [finE, if_neg hz]))) .nil)), rfl⟩)
                · refine asD rfl ?_
                  refine OL.nil ?_
                  refine OT.node [5] (os := [_]) (by kernel_rfl) (by decide) rfl ⟨?_, trivial⟩
                  refine ldPA ag.Rat rfl rfl (vs := [_, _, _]) rfl (Nat.le_of_ble_eq_true rfl) ?_
                  refine OL.nil ?_
                  refine OT.node [7] (os := [_]) (by kernel_rfl) (by decide) rfl ⟨?_, trivial⟩
                  refine sto sz.Rat rfl rfl rfl rfl rfl (Nat.le_of_ble_eq_true rfl) (cells2 := [_, _, _]) rfl ?_
                  refine OL.nil ?_
                  refine OT.node [8] (os := [_]) (by kernel_rfl) (by decide) rfl ⟨?_, trivial⟩
                  refine asD rfl ?_
                  refine OL.nil ?_
                  refine OT.leaf (by kernel_rfl) ?_
                  exact AW.ret (RetQ.r ⟨_, .tmp rfl (.cellA rfl rfl ag.Rat (Nat.le_of_ble_eq_true rfl) (.tmp rfl .nil)), _, .cons (.le (vle_of_eq (by rw [finP, if_neg hz]; rfl))) (.cons (.ag (.cons (.le (by first | exact VLe.refl _ | exact VLe.mt | exact vle_q0 | exact VLe.int (by omega) | exact VLe.bool (by simp_all))) (.cons (.le (by first | exact VLe.refl _ | exact VLe.mt | exact vle_q0 | exact VLe.int (by omega) | exact VLe.bool (by simp_all))) (.cons (.le (by first | exact VLe.refl _ | exact VLe.mt | exact vle_q0 | exact VLe.int (by omega) | exact VLe.bool (by simp_all))) .nil)))) (.cons (.le (VLe.int (by rw [finE, if_neg hz]))) .nil)), rfl⟩)
              · refine ldPA ag.Rat rfl rfl (vs := [_, _, _]) rfl (Nat.le_of_ble_eq_true rfl) ?_
                refine OL.nil ?_
                refine OT.node [4] (os := [_]) (by kernel_rfl) (by decide) rfl ⟨?_, trivial⟩
                refine clv rfl (.cons (VLe.refl _) (.nil)) (concat_ints (L := [o.dn, (finF h o o.sc.length).2]) (by simp) (by rw [show List.flatten [o.dn, (finF h o o.sc.length).2] = o.dn ++ (finF h o o.sc.length).2 by simp, List.length_append]; omega)) ?_
                rw [show List.flatten [o.dn, (finF h o o.sc.length).2] = o.dn ++ (finF h o o.sc.length).2 by simp]
                refine OL.nil ?_
                refine OT.node [6] (os := [_]) (by kernel_rfl) (by decide) rfl ⟨?_, trivial⟩
                refine asD rfl ?_
                refine OL.nil ?_
                refine OT.node [7] (os := [_]) (by kernel_rfl) (by decide) rfl ⟨?_, trivial⟩
                refine sto sz.Rat rfl rfl rfl rfl rfl (Nat.le_of_ble_eq_true rfl) (cells2 := [_, _, _]) rfl ?_
                refine OL.nil ?_
                refine OT.node [8] (os := [_]) (by kernel_rfl) (by decide) rfl ⟨?_, trivial⟩
                refine asD rfl ?_
                refine OL.nil ?_
                refine OT.leaf (by kernel_rfl) ?_
                exact AW.ret (RetQ.r ⟨_, .tmp rfl (.cellA rfl rfl ag.Rat (Nat.le_of_ble_eq_true rfl) (.tmp rfl .nil)), _, .cons (.le (vle_of_eq (by rw [finP, if_neg hz]; rfl))) (.cons (.ag (.cons (.le (by first | exact VLe.refl _ | exact VLe.mt | exact vle_q0 | exact VLe.int (by omega) | exact VLe.bool (by simp_all))) (.cons (.le (by first | exact VLe.refl _ | exact VLe.mt | exact vle_q0 | exact VLe.int (by omega) | exact VLe.bool (by simp_all))) (.cons (.le (by first | exact VLe.refl _ | exact VLe.mt | exact vle_q0 | exact VLe.int (by omega) | exact VLe.bool (by simp_all))) .nil)))) (.cons (.le (VLe.int (by rw [finE, if_neg hz]))) .nil)), rfl⟩)
            · refine ldPA ag.Rat rfl rfl (vs := [_, _, _]) rfl (Nat.le_of_ble_eq_true rfl) ?_
              refine OL.nil ?_
              refine OT.node [3] (os := [_]) (by kernel_rfl) (by decide) rfl ⟨?_, trivial⟩
              refine lt2 (y := ints o.dn) (y2 := ints (finF h o o.sc.length).2) sl.intss (VC.d _).vd (VC.d _).vd ⟨rfl, rfl⟩ (by decide) ?_
              refine OL.nil ?_
              refine OT.node [4] (os := [_]) (by kernel_rfl) (by decide) rfl ⟨?_, trivial⟩
              refine clv rfl (.cons (VLe.refl _) (.nil)) (concat_ints (L := [o.dn, (finF h o o.sc.length).2]) (by simp) (by rw [show List.flatten [o.dn, (finF h o o.sc.length).2] = o.dn ++ (finF h o o.sc.length).2 by simp, List.length_append]; omega)) ?_
              rw [show List.flatten [o.dn, (finF h o o.sc.length).2] = o.dn ++ (finF h o o.sc.length).2 by simp]
              refine OL.nil ?_
              refine OT.node [6] (os := [_]) (by kernel_rfl) (by decide) rfl ⟨?_, trivial⟩
              refine asD rfl ?_
              refine OL.nil ?_
              refine OT.node [7] (os := [_]) (by kernel_rfl) (by decide) rfl ⟨?_, trivial⟩
              refine sto sz.Rat rfl rfl rfl rfl rfl (Nat.le_of_ble_eq_true rfl) (cells2 := [_, _, _]) rfl ?_
              refine OL.nil ?_
              refine OT.node [8] (os := [_]) (by kernel_rfl) (by decide) rfl ⟨?_, trivial⟩
              refine asD rfl ?_
              refine OL.nil ?_
              refine OT.leaf (by kernel_rfl) ?_
              exact AW.ret (RetQ.r ⟨_, .tmp rfl (.cellA rfl rfl ag.Rat (Nat.le_of_ble_eq_true rfl) (.tmp rfl .nil)), _, .cons (.le (vle_of_eq (by rw [finP, if_neg hz]; rfl))) (.cons (.ag (.cons (.le (by first | exact VLe.refl _ | exact VLe.mt | exact vle_q0 | exact VLe.int (by omega) | exact VLe.bool (by simp_all))) (.cons (.le (by first | exact VLe.refl _ | exact VLe.mt | exact vle_q0 | exact VLe.int (by omega) | exact VLe.bool (by simp_all))) (.cons (.le (by first | exact VLe.refl _ | exact VLe.mt | exact vle_q0 | exact VLe.int (by omega) | exact VLe.bool (by simp_all))) .nil)))) (.cons (.le (VLe.int (by rw [finE, if_neg hz]))) .nil)), rfl⟩)
          · refine ldPA ag.Rat rfl rfl (vs := [_, _, _]) rfl (Nat.le_of_ble_eq_true rfl) ?_
            refine OL.nil ?_
            refine OT.node [1] (os := [_]) (by kernel_rfl) (by decide) rfl ⟨?_, trivial⟩
            refine ldPC ce.ints rfl rfl rfl ?_
            refine OL.nil ?_
            refine OT.node [3] (os := [_]) (by kernel_rfl) (by decide) rfl ⟨?_, trivial⟩
            refine lt2 (y := ints o.dn) (y2 := ints (finF h o o.sc.length).2) sl.intss (VC.d _).vd (VC.d _).vd ⟨rfl, rfl⟩ (by decide) ?_
            refine OL.nil ?_
            refine OT.node [4] (os := [_]) (by kernel_rfl) (by decide) rfl ⟨?_, trivial⟩
            refine clv rfl (.cons (VLe.refl _) (.nil)) (concat_ints (L := [o.dn, (finF h o o.sc.length).2]) (by simp) (by rw [show List.flatten [o.dn, (finF h o o.sc.length).2] = o.dn ++ (finF h o o.sc.length).2 by simp, List.length_append]; omega)) ?_
            rw [show List.flatten [o.dn, (finF h o o.sc.length).2] = o.dn ++ (finF h o o.sc.length).2 by simp]
            refine OL.nil ?_
            refine OT.node [6] (os := [_]) (by kernel_rfl) (by decide) rfl ⟨?_, trivial⟩
            refine asD rfl ?_
            refine OL.nil ?_
            refine OT.node [7] (os := [_]) (by kernel_rfl) (by decide) rfl ⟨?_, trivial⟩
            refine sto sz.Rat rfl rfl rfl rfl rfl (Nat.le_of_ble_eq_true rfl) (cells2 := [_, _, _]) rfl ?_
            refine OL.nil ?_
            refine OT.node [8] (os := [_]) (by kernel_rfl) (by decide) rfl ⟨?_, trivial⟩
            refine asD rfl ?_
            refine OL.nil ?_
            refine OT.leaf (by kernel_rfl) ?_
            exact AW.ret (RetQ.r ⟨_, .tmp rfl (.cellA rfl rfl ag.Rat (Nat.le_of_ble_eq_true rfl) (.tmp rfl .nil)), _, .cons (.le (vle_of_eq (by rw [finP, if_neg hz]; rfl))) (.cons (.ag (.cons (.le (by first | exact VLe.refl _ | exact VLe.mt | exact vle_q0 | exact VLe.int (by omega) | exact VLe.bool (by simp_all))) (.cons (.le (by first | exact VLe.refl _ | exact VLe.mt | exact vle_q0 | exact VLe.int (by omega) | exact VLe.bool (by simp_all))) (.cons (.le (by first | exact VLe.refl _ | exact VLe.mt | exact vle_q0 | exact VLe.int (by omega) | exact VLe.bool (by simp_all))) .nil)))) (.cons (.le (VLe.int (by rw [finE, if_neg hz]))) .nil)), rfl⟩)
        · refine ldPA ag.Rat rfl rfl (vs := [_, _, _]) rfl (Nat.le_of_ble_eq_true rfl) ?_
          refine OL.nil ?_
          refine OT.node [1, 2] (os := [_, _]) (by kernel_rfl) (by decide) rfl ⟨?_, ?_, trivial⟩
          · refine ldPC ce.ints rfl rfl rfl ?_
            refine OL.nil ?_
            refine OT.node [2] (os := [_]) (by kernel_rfl) (by decide) rfl ⟨?_, trivial⟩
            refine mvD rfl ?_
            refine OL.nil ?_
            refine OT.node [3] (os := [_]) (by kernel_rfl) (by decide) rfl ⟨?_, trivial⟩
            refine lt2 (y := ints o.dn) (y2 := ints (finF h o o.sc.length).2) sl.intss (VC.d _).vd (VC.d _).vd ⟨rfl, rfl⟩ (by decide) ?_
            refine OL.nil ?_
            refine OT.node [4] (os := [_]) (by kernel_rfl) (by decide) rfl ⟨?_, trivial⟩
            refine clv rfl (.cons (VLe.refl _) (.nil)) (concat_ints (L := [o.dn, (finF h o o.sc.length).2]) (by simp) (by rw [show List.flatten [o.dn, (finF h o o.sc.length).2] = o.dn ++ (finF h o o.sc.length).2 by simp, List.length_append]; omega)) ?_
            rw [show List.flatten [o.dn, (finF h o o.sc.length).2] = o.dn ++ (finF h o o.sc.length).2 by simp]
            refine OL.nil ?_
            refine OT.node [6] (os := [_]) (by kernel_rfl) (by decide) rfl ⟨?_, trivial⟩
            refine asD rfl ?_
            refine OL.nil ?_
            refine OT.node [7] (os := [_]) (by kernel_rfl) (by decide) rfl ⟨?_, trivial⟩
            refine sto sz.Rat rfl rfl rfl rfl rfl (Nat.le_of_ble_eq_true rfl) (cells2 := [_, _, _]) rfl ?_
            refine OL.nil ?_
            refine OT.node [8] (os := [_]) (by kernel_rfl) (by decide) rfl ⟨?_, trivial⟩
            refine asD rfl ?_
            refine OL.nil ?_
            refine OT.leaf (by kernel_rfl) ?_
            exact AW.ret (RetQ.r ⟨_, .tmp rfl (.cellA rfl rfl ag.Rat (Nat.le_of_ble_eq_true rfl) (.tmp rfl .nil)), _, .cons (.le (vle_of_eq (by rw [finP, if_neg hz]; rfl))) (.cons (.ag (.cons (.le (by first | exact VLe.refl _ | exact VLe.mt | exact vle_q0 | exact VLe.int (by omega) | exact VLe.bool (by simp_all))) (.cons (.le (by first | exact VLe.refl _ | exact VLe.mt | exact vle_q0 | exact VLe.int (by omega) | exact VLe.bool (by simp_all))) (.cons (.le (by first | exact VLe.refl _ | exact VLe.mt | exact vle_q0 | exact VLe.int (by omega) | exact VLe.bool (by simp_all))) .nil)))) (.cons (.le (VLe.int (by rw [finE, if_neg hz]))) .nil)), rfl⟩)
          · refine mvD rfl ?_
            refine OL.nil ?_
            refine OT.node [1] (os := [_]) (by kernel_rfl) (by decide) rfl ⟨?_, trivial⟩
            refine ldPC ce.ints rfl rfl rfl ?_
            refine OL.nil ?_
            refine OT.node [3] (os := [_]) (by kernel_rfl) (by decide) rfl ⟨?_, trivial⟩
            refine lt2 (y := ints o.dn) (y2 := ints (finF h o o.sc.length).2) sl.intss (VC.d _).vd (VC.d _).vd ⟨rfl, rfl⟩ (by decide) ?_
            refine OL.nil ?_
            refine OT.node [4] (os := [_]) (by kernel_rfl) (by decide) rfl ⟨?_, trivial⟩
            refine clv rfl (.cons (VLe.refl _) (.nil)) (concat_ints (L := [o.dn, (finF h o o.sc.length).2]) (by simp) (by rw [show List.flatten [o.dn, (finF h o o.sc.length).2] = o.dn ++ (finF h o o.sc.length).2 by simp, List.length_append]; omega)) ?_
            rw [show List.flatten [o.dn, (finF h o o.sc.length).2] = o.dn ++ (finF h o o.sc.length).2 by simp]
            refine OL.nil ?_
            refine OT.node [6] (os := [_]) (by kernel_rfl) (by decide) rfl ⟨?_, trivial⟩
            refine asD rfl ?_
            refine OL.nil ?_
            refine OT.node [7] (os := [_]) (by kernel_rfl) (by decide) rfl ⟨?_, trivial⟩
            refine sto sz.Rat rfl rfl rfl rfl rfl (Nat.le_of_ble_eq_true rfl) (cells2 := [_, _, _]) rfl ?_
            refine OL.nil ?_
            refine OT.node [8] (os := [_]) (by kernel_rfl) (by decide) rfl ⟨?_, trivial⟩
            refine asD rfl ?_
            refine OL.nil ?_
            refine OT.leaf (by kernel_rfl) ?_
            exact AW.ret (RetQ.r ⟨_, .tmp rfl (.cellA rfl rfl ag.Rat (Nat.le_of_ble_eq_true rfl) (.tmp rfl .nil)), _, .cons (.le (vle_of_eq (by rw [finP, if_neg hz]; rfl))) (.cons (.ag (.cons (.le (by first | exact VLe.refl _ | exact VLe.mt | exact vle_q0 | exact VLe.int (by omega) | exact VLe.bool (by simp_all))) (.cons (.le (by first | exact VLe.refl _ | exact VLe.mt | exact vle_q0 | exact VLe.int (by omega) | exact VLe.bool (by simp_all))) (.cons (.le (by first | exact VLe.refl _ | exact VLe.mt | exact vle_q0 | exact VLe.int (by omega) | exact VLe.bool (by simp_all))) .nil)))) (.cons (.le (VLe.int (by rw [finE, if_neg hz]))) .nil)), rfl⟩)
      · refine mvD rfl ?_
        refine OL.nil ?_
        refine OT.node [0, 5] (os := [_, _]) (by kernel_rfl) (by decide) rfl ⟨?_, ?_, trivial⟩
        · refine faP fd.Online_4 rfl rfl ?_
          refine OL.nil ?_
          refine OT.node [1, 5] (os := [_, _]) (by kernel_rfl) (by decide) rfl ⟨?_, ?_, trivial⟩
          · refine ldPC ce.ints rfl rfl rfl ?_
            refine OL.nil ?_
            refine OT.node [3, 5] (os := [_, _]) (by kernel_rfl) (by decide) rfl ⟨?_, ?_, trivial⟩
            · refine lt2 (y := ints o.dn) (y2 := ints (finF h o o.sc.length).2) sl.intss (VC.d _).vd (VC.d _).vd ⟨rfl, rfl⟩ (by decide) ?_
              refine OL.nil ?_
              refine OT.node [4, 5] (os := [_, _]) (by kernel_rfl) (by decide) rfl ⟨?_, ?_, trivial⟩
              · refine clv rfl (.cons (VLe.refl _) (.nil)) (concat_ints (L := [o.dn, (finF h o o.sc.length).2]) (by simp) (by rw [show List.flatten [o.dn, (finF h o o.sc.length).2] = o.dn ++ (finF h o o.sc.length).2 by simp, List.length_append]; omega)) ?_
                rw [show List.flatten [o.dn, (finF h o o.sc.length).2] = o.dn ++ (finF h o o.sc.length).2 by simp]
                refine OL.nil ?_
                refine OT.node [5, 6] (os := [_, _]) (by kernel_rfl) (by decide) rfl ⟨?_, ?_, trivial⟩
                · refine ldPA ag.Rat rfl rfl (vs := [_, _, _]) rfl (Nat.le_of_ble_eq_true rfl) ?_
                  refine OL.nil ?_
                  refine OT.node [6] (os := [_]) (by kernel_rfl) (by decide) rfl ⟨?_, trivial⟩
                  refine asD rfl ?_
                  refine OL.nil ?_
                  refine OT.node [7] (os := [_]) (by kernel_rfl) (by decide) rfl ⟨?_, trivial⟩
                  refine sto sz.Rat rfl rfl rfl rfl rfl (Nat.le_of_ble_eq_true rfl) (cells2 := [_, _, _]) rfl ?_
                  refine OL.nil ?_
                  refine OT.node [8] (os := [_]) (by kernel_rfl) (by decide) rfl ⟨?_, trivial⟩
                  refine asD rfl ?_
                  refine OL.nil ?_
                  refine OT.leaf (by kernel_rfl) ?_
                  exact AW.ret (RetQ.r ⟨_, .tmp rfl (.cellA rfl rfl ag.Rat (Nat.le_of_ble_eq_true rfl) (.tmp rfl .nil)), _, .cons (.le (vle_of_eq (by rw [finP, if_neg hz]; rfl))) (.cons (.ag (.cons (.le (by first | exact VLe.refl _ | exact VLe.mt | exact vle_q0 | exact VLe.int (by omega) | exact VLe.bool (by simp_all))) (.cons (.le (by first | exact VLe.refl _ | exact VLe.mt | exact vle_q0 | exact VLe.int (by omega) | exact VLe.bool (by simp_all))) (.cons (.le (by first | exact VLe.refl _ | exact VLe.mt | exact vle_q0 | exact VLe.int (by omega) | exact VLe.bool (by simp_all))) .nil)))) (.cons (.le (VLe.int (by rw [finE, if_neg hz]))) .nil)), rfl⟩)
                · refine asD rfl ?_
                  refine OL.nil ?_
                  refine OT.node [5] (os := [_]) (by kernel_rfl) (by decide) rfl ⟨?_, trivial⟩
                  refine ldPA ag.Rat rfl rfl (vs := [_, _, _]) rfl (Nat.le_of_ble_eq_true rfl) ?_
                  refine OL.nil ?_
                  refine OT.node [7] (os := [_]) (by kernel_rfl) (by decide) rfl ⟨?_, trivial⟩
                  refine sto sz.Rat rfl rfl rfl rfl rfl (Nat.le_of_ble_eq_true rfl) (cells2 := [_, _, _]) rfl ?_
                  refine OL.nil ?_
                  refine OT.node [8] (os := [_]) (by kernel_rfl) (by decide) rfl ⟨?_, trivial⟩
                  refine asD rfl ?_
                  refine OL.nil ?_
                  refine OT.leaf (by kernel_rfl) ?_
                  exact AW.ret (RetQ.r ⟨_, .tmp rfl (.cellA rfl rfl ag.Rat (Nat.le_of_ble_eq_true rfl) (.tmp rfl .nil)), _, .cons (.le (vle_of_eq (by rw [finP, if_neg hz]; rfl))) (.cons (.ag (.cons (.le (by first | exact VLe.refl _ | exact VLe.mt | exact vle_q0 | exact VLe.int (by omega) | exact VLe.bool (by simp_all))) (.cons (.le (by first | exact VLe.refl _ | exact VLe.mt | exact vle_q0 | exact VLe.int (by omega) | exact VLe.bool (by simp_all))) (.cons (.le (by first | exact VLe.refl _ | exact VLe.mt | exact vle_q0 | exact VLe.int (by omega) | exact VLe.bool (by simp_all))) .nil)))) (.cons (.le (VLe.int (by rw [finE, if_neg hz]))) .nil)), rfl⟩)
              · refine ldPA ag.Rat rfl rfl (vs := [_, _, _]) rfl (Nat.le_of_ble_eq_true rfl) ?_
                refine OL.nil ?_
                refine OT.node [4] (os := [_]) (by kernel_rfl) (by decide) rfl ⟨?_, trivial⟩
                refine clv rfl (.cons (VLe.refl _) (.nil)) (concat_ints (L := [o.dn, (finF h o o.sc.length).2]) (by simp) (by rw [show List.flatten [o.dn, (finF h o o.sc.length).2] = o.dn ++ (finF h o o.sc.length).2 by simp, List.length_append]; omega)) ?_
                rw [show List.flatten [o.dn, (finF h o o.sc.length).2] = o.dn ++ (finF h o o.sc.length).2 by simp]
                refine OL.nil ?_
                refine OT.node [6] (os := [_]) (by kernel_rfl) (by decide) rfl ⟨?_, trivial⟩
                refine asD rfl ?_
                refine OL.nil ?_
                refine OT.node [7] (os := [_]) (by kernel_rfl) (by decide) rfl ⟨?_, trivial⟩
                refine sto sz.Rat rfl rfl rfl rfl rfl (Nat.le_of_ble_eq_true rfl) (cells2 := [_, _, _]) rfl ?_
                refine OL.nil ?_
                refine OT.node [8] (os := [_]) (by kernel_rfl) (by decide) rfl ⟨?_, trivial⟩
                refine asD rfl ?_
                refine OL.nil ?_
                refine OT.leaf (by kernel_rfl) ?_
                exact AW.ret (RetQ.r ⟨_, .tmp rfl (.cellA rfl rfl ag.Rat (Nat.le_of_ble_eq_true rfl) (.tmp rfl .nil)), _, .cons (.le (vle_of_eq (by rw [finP, if_neg hz]; rfl))) (.cons (.ag (.cons (.le (by first | exact VLe.refl _ | exact VLe.mt | exact vle_q0 | exact VLe.int (by omega) | exact VLe.bool (by simp_all))) (.cons (.le (by first | exact VLe.refl _ | exact VLe.mt | exact vle_q0 | exact VLe.int (by omega) | exact VLe.bool (by simp_all))) (.cons (.le (by first | exact VLe.refl _ | exact VLe.mt | exact vle_q0 | exact VLe.int (by omega) | exact VLe.bool (by simp_all))) .nil)))) (.cons (.le (VLe.int (by rw [finE, if_neg hz]))) .nil)), rfl⟩)
            · refine ldPA ag.Rat rfl rfl (vs := [_, _, _]) rfl (Nat.le_of_ble_eq_true rfl) ?_
              refine OL.nil ?_
              refine OT.node [3] (os := [_]) (by kernel_rfl) (by decide) rfl ⟨?_, trivial⟩
              refine lt2 (y := ints o.dn) (y2 := ints (finF h o o.sc.length).2) sl.intss (VC.d _).vd (VC.d _).vd ⟨rfl, rfl⟩ (by decide) ?_
              refine OL.nil ?_
              refine OT.node [4] (os := [_]) (by kernel_rfl) (by decide) rfl ⟨?_, trivial⟩
              refine clv rfl (.cons (VLe.refl _) (.nil)) (concat_ints (L := [o.dn, (finF h o o.sc.length).2]) (by simp) (by rw [show List.flatten [o.dn, (finF h o o.sc.length).2] = o.dn ++ (finF h o o.sc.length).2 by simp, List.length_append]; omega)) ?_
              rw [show List.flatten [o.dn, (finF h o o.sc.length).2] = o.dn ++ (finF h o o.sc.length).2 by simp]
              refine OL.nil ?_
              refine OT.node [6] (os := [_]) (by kernel_rfl) (by decide) rfl ⟨?_, trivial⟩
              refine asD rfl ?_
              refine OL.nil ?_
              refine OT.node [7] (os := [_]) (by kernel_rfl) (by decide) rfl ⟨?_, trivial⟩
              refine sto sz.Rat rfl rfl rfl rfl rfl (Nat.le_of_ble_eq_true rfl) (cells2 := [_, _, _]) rfl ?_
              refine OL.nil ?_
              refine OT.node [8] (os := [_]) (by kernel_rfl) (by decide) rfl ⟨?_, trivial⟩
              refine asD rfl ?_
              refine OL.nil ?_
              refine OT.leaf (by kernel_rfl) ?_
              exact AW.ret (RetQ.r ⟨_, .tmp rfl (.cellA rfl rfl ag.Rat (Nat.le_of_ble_eq_true rfl) (.tmp rfl .nil)), _, .cons (.le (vle_of_eq (by rw [finP, if_neg hz]; rfl))) (.cons (.ag (.cons (.le (by first | exact VLe.refl _ | exact VLe.mt | exact vle_q0 | exact VLe.int (by omega) | exact VLe.bool (by simp_all))) (.cons (.le (by first | exact VLe.refl _ | exact VLe.mt | exact vle_q0 | exact VLe.int (by omega) | exact VLe.bool (by simp_all))) (.cons (.le (by first | exact VLe.refl _ | exact VLe.mt | exact vle_q0 | exact VLe.int (by omega) | exact VLe.bool (by simp_all))) .nil)))) (.cons (.le (VLe.int (by rw [finE, if_neg hz]))) .nil)), rfl⟩)
          · refine ldPA ag.Rat rfl rfl (vs := [_, _, _]) rfl (Nat.le_of_ble_eq_true rfl) ?_
            refine OL.nil ?_
            refine OT.node [1] (os := [_]) (by kernel_rfl) (by decide) rfl ⟨?_, trivial⟩
            refine ldPC ce.ints rfl rfl rfl ?_
            refine OL.nil ?_
            refine OT.node [3] (os := [_]) (by kernel_rfl) (by decide) rfl ⟨?_, trivial⟩
            refine lt2 (y := ints o.dn) (y2 := ints (finF h o o.sc.length).2) sl.intss (VC.d _).vd (VC.d _).vd ⟨rfl, rfl⟩ (by decide) ?_
            refine OL.nil ?_
            refine OT.node [4] (os := [_]) (by kernel_rfl) (by decide) rfl ⟨?_, trivial⟩
            refine clv rfl (.cons (VLe.refl _) (.nil)) (concat_ints (L := [o.dn, (finF h o o.sc.length).2]) (by simp) (by rw [show List.flatten [o.dn, (finF h o o.sc.length).2] = o.dn ++ (finF h o o.sc.length).2 by simp, List.length_append]; omega)) ?_
            rw [show List.flatten [o.dn, (finF h o o.sc.length).2] = o.dn ++ (finF h o o.sc.length).2 by simp]
            refine OL.nil ?_
            refine OT.node [6] (os := [_]) (by kernel_rfl) (by decide) rfl ⟨?_, trivial⟩
            refine asD rfl ?_
            refine OL.nil ?_
            refine OT.node [7] (os := [_]) (by kernel_rfl) (by decide) rfl ⟨?_, trivial⟩
            refine sto sz.Rat rfl rfl rfl rfl rfl (Nat.le_of_ble_eq_true rfl) (cells2 := [_, _, _]) rfl ?_
            refine OL.nil ?_
            refine OT.node [8] (os := [_]) (by kernel_rfl) (by decide) rfl ⟨?_, trivial⟩
            refine asD rfl ?_
            refine OL.nil ?_
            refine OT.leaf (by kernel_rfl) ?_
            exact AW.ret (RetQ.r ⟨_, .tmp rfl (.cellA rfl rfl ag.Rat (Nat.le_of_ble_eq_true rfl) (.tmp rfl .nil)), _, .cons (.le (vle_of_eq (by rw [finP, if_neg hz]; rfl))) (.cons (.ag (.cons (.le (by first | exact VLe.refl _ | exact VLe.mt | exact vle_q0 | exact VLe.int (by omega) | exact VLe.bool (by simp_all))) (.cons (.le (by first | exact VLe.refl _ | exact VLe.mt | exact vle_q0 | exact VLe.int (by omega) | exact VLe.bool (by simp_all))) (.cons (.le (by first | exact VLe.refl _ | exact VLe.mt | exact vle_q0 | exact VLe.int (by omega) | exact VLe.bool (by simp_all))) .nil)))) (.cons (.le (VLe.int (by rw [finE, if_neg hz]))) .nil)), rfl⟩)
        · refine ldPA ag.Rat rfl rfl (vs := [_, _, _]) rfl (Nat.le_of_ble_eq_true rfl) ?_
          refine OL.nil ?_
          refine OT.node [0] (os := [_]) (by kernel_rfl) (by decide) rfl ⟨?_, trivial⟩
          refine faP fd.Online_4 rfl rfl ?_
          refine OL.nil ?_
          refine OT.node [1] (os := [_]) (by kernel_rfl) (by decide) rfl ⟨?_, trivial⟩
          refine ldPC ce.ints rfl rfl rfl ?_
          refine OL.nil ?_
          refine OT.node [3] (os := [_]) (by kernel_rfl) (by decide) rfl ⟨?_, trivial⟩
          refine lt2 (y := ints o.dn) (y2 := ints (finF h o o.sc.length).2) sl.intss (VC.d _).vd (VC.d _).vd ⟨rfl, rfl⟩ (by decide) ?_
          refine OL.nil ?_
          refine OT.node [4] (os := [_]) (by kernel_rfl) (by decide) rfl ⟨?_, trivial⟩
          refine clv rfl (.cons (VLe.refl _) (.nil)) (concat_ints (L := [o.dn, (finF h o o.sc.length).2]) (by simp) (by rw [show List.flatten [o.dn, (finF h o o.sc.length).2] = o.dn ++ (finF h o o.sc.length).2 by simp, List.length_append]; omega)) ?_
          rw [show List.flatten [o.dn, (finF h o o.sc.length).2] = o.dn ++ (finF h o o.sc.length).2 by simp]
          refine OL.nil ?_
          refine OT.node [6] (os := [_]) (by kernel_rfl) (by decide) rfl ⟨?_, trivial⟩
          refine asD rfl ?_
          refine OL.nil ?_
          refine OT.node [7] (os := [_]) (by kernel_rfl) (by decide) rfl ⟨?_, trivial⟩
          refine sto sz.Rat rfl rfl rfl rfl rfl (Nat.le_of_ble_eq_true rfl) (cells2 := [_, _, _]) rfl ?_
          refine OL.nil ?_
          refine OT.node [8] (os := [_]) (by kernel_rfl) (by decide) rfl ⟨?_, trivial⟩
          refine asD rfl ?_
          refine OL.nil ?_
          refine OT.leaf (by kernel_rfl) ?_
          exact AW.ret (RetQ.r ⟨_, .tmp rfl (.cellA rfl rfl ag.Rat (Nat.le_of_ble_eq_true rfl) (.tmp rfl .nil)), _, .cons (.le (vle_of_eq (by rw [finP, if_neg hz]; rfl))) (.cons (.ag (.cons (.le (by first | exact VLe.refl _ | exact VLe.mt | exact vle_q0 | exact VLe.int (by omega) | exact VLe.bool (by simp_all))) (.cons (.le (by first | exact VLe.refl _ | exact VLe.mt | exact vle_q0 | exact VLe.int (by omega) | exact VLe.bool (by simp_all))) (.cons (.le (by first | exact VLe.refl _ | exact VLe.mt | exact vle_q0 | exact VLe.int (by omega) | exact VLe.bool (by simp_all))) .nil)))) (.cons (.le (VLe.int (by rw [finE, if_neg hz]))) .nil)), rfl⟩)
      · refine ldPA ag.Rat rfl rfl (vs := [_, _, _]) rfl (Nat.le_of_ble_eq_true rfl) ?_
        refine OL.nil ?_
        refine OT.node [0, 2] (os := [_, _]) (by kernel_rfl) (by decide) rfl ⟨?_, ?_, trivial⟩
        · refine faP fd.Online_4 rfl rfl ?_
          refine OL.nil ?_
          refine OT.node [1, 2] (os := [_, _]) (by kernel_rfl) (by decide) rfl ⟨?_, ?_, trivial⟩
          · refine ldPC ce.ints rfl rfl rfl ?_
            refine OL.nil ?_
            refine OT.node [2] (os := [_]) (by kernel_rfl) (by decide) rfl ⟨?_, trivial⟩
            refine mvD rfl ?_
            refine OL.nil ?_
            refine OT.node [3] (os := [_]) (by kernel_rfl) (by decide) rfl ⟨?_, trivial⟩
            refine lt2 (y := ints o.dn) (y2 := ints (finF h o o.sc.length).2) sl.intss (VC.d _).vd (VC.d _).vd ⟨rfl, rfl⟩ (by decide) ?_
            refine OL.nil ?_
            refine OT.node [4] (os := [_]) (by kernel_rfl) (by decide) rfl ⟨?_, trivial⟩
            refine clv rfl (.cons (VLe.refl _) (.nil)) (concat_ints (L := [o.dn, (finF h o o.sc.length).2]) (by simp) (by rw [show List.flatten [o.dn, (finF h o o.sc.length).2] = o.dn ++ (finF h o o.sc.length).2 by simp, List.length_append]; omega)) ?_
            rw [show List.flatten [o.dn, (finF h o o.sc.length).2] = o.dn ++ (finF h o o.sc.length).2 by simp]
            refine OL.nil ?_
            refine OT.node [6] (os := [_]) (by kernel_rfl) (by decide) rfl ⟨?_, trivial⟩
            refine asD rfl ?_
            refine OL.nil ?_
            refine OT.node [7] (os := [_]) (by kernel_rfl) (by decide) rfl ⟨?_, trivial⟩
            refine sto sz.Rat rfl rfl rfl rfl rfl (Nat.le_of_ble_eq_true rfl) (cells2 := [_, _, _]) rfl ?_
            refine OL.nil ?_
            refine OT.node [8] (os := [_]) (by kernel_rfl) (by decide) rfl ⟨?_, trivial⟩
            refine asD rfl ?_
            refine OL.nil ?_
            refine OT.leaf (by kernel_rfl) ?_
            exact AW.ret (RetQ.r ⟨_, .tmp rfl (.cellA rfl rfl ag.Rat (Nat.le_of_ble_eq_true rfl) (.tmp rfl .nil)), _, .cons (.le (vle_of_eq (by rw [finP, if_neg hz]; rfl))) (.cons (.ag (.cons (.le (by first | exact VLe.refl _ | exact VLe.mt | exact vle_q0 | exact VLe.int (by omega) | exact VLe.bool (by simp_all))) (.cons (.le (by first | exact VLe.refl _ | exact VLe.mt | exact vle_q0 | exact VLe.int (by omega) | exact VLe.bool (by simp_all))) (.cons (.le (by first | exact VLe.refl _ | exact VLe.mt | exact vle_q0 | exact VLe.int (by omega) | exact VLe.bool (by simp_all))) .nil)))) (.cons (.le (VLe.int (by rw [finE, if_neg hz]))) .nil)), rfl⟩)
          · refine mvD rfl ?_
            refine OL.nil ?_
            refine OT.node [1] (os := [_]) (by kernel_rfl) (by decide) rfl ⟨?_, trivial⟩
            refine ldPC ce.ints rfl rfl rfl ?_
            refine OL.nil ?_
            refine OT.node [3] (os := [_]) (by kernel_rfl) (by decide) rfl ⟨?_, trivial⟩
            refine lt2 (y := ints o.dn) (y2 := ints (finF h o o.sc.length).2) sl.intss (VC.d _).vd (VC.d _).vd ⟨rfl, rfl⟩ (by decide) ?_
            refine OL.nil ?_
            refine OT.node [4] (os := [_]) (by kernel_rfl) (by decide) rfl ⟨?_, trivial⟩
            refine clv rfl (.cons (VLe.refl _) (.nil)) (concat_ints (L := [o.dn, (finF h o o.sc.length).2]) (by simp) (by rw [show List.flatten [o.dn, (finF h o o.sc.length).2] = o.dn ++ (finF h o o.sc.length).2 by simp, List.length_append]; omega)) ?_
            rw [show List.flatten [o.dn, (finF h o o.sc.length).2] = o.dn ++ (finF h o o.sc.length).2 by simp]
            refine OL.nil ?_
            refine OT.node [6] (os := [_]) (by kernel_rfl) (by decide) rfl ⟨?_, trivial⟩
            refine asD rfl ?_
            refine OL.nil ?_
            refine OT.node [7] (os := [_]) (by kernel_rfl) (by decide) rfl ⟨?_, trivial⟩
            refine sto sz.Rat rfl rfl rfl rfl rfl (Nat.le_of_ble_eq_true rfl) (cells2 := [_, _, _]) rfl ?_
            refine OL.nil ?_
            refine OT.node [8] (os := [_]) (by kernel_rfl) (by decide) rfl ⟨?_, trivial⟩
            refine asD rfl ?_
            refine OL.nil ?_
            refine OT.leaf (by kernel_rfl) ?_
            exact AW.ret (RetQ.r ⟨_, .tmp rfl (.cellA rfl rfl ag.Rat (Nat.le_of_ble_eq_true rfl) (.tmp rfl .nil)), _, .cons (.le (vle_of_eq (by rw [finP, if_neg hz]; rfl))) (.cons (.ag (.cons (.le (by first | exact VLe.refl _ | exact VLe.mt | exact vle_q0 | exact VLe.int (by omega) | exact VLe.bool (by simp_all))) (.cons (.le (by first | exact VLe.refl _ | exact VLe.mt | exact vle_q0 | exact VLe.int (by omega) | exact VLe.bool (by simp_all))) (.cons (.le (by first | exact VLe.refl _ | exact VLe.mt | exact vle_q0 | exact VLe.int (by omega) | exact VLe.bool (by simp_all))) .nil)))) (.cons (.le (VLe.int (by rw [finE, if_neg hz]))) .nil)), rfl⟩)
        · refine mvD rfl ?_
          refine OL.nil ?_
          refine OT.node [0] (os := [_]) (by kernel_rfl) (by decide) rfl ⟨?_, trivial⟩
          refine faP fd.Online_4 rfl rfl ?_
          refine OL.nil ?_
          refine OT.node [1] (os := [_]) (by kernel_rfl) (by decide) rfl ⟨?_, trivial⟩
          refine ldPC ce.ints rfl rfl rfl ?_
          refine OL.nil ?_
          refine OT.node [3] (os := [_]) (by kernel_rfl) (by decide) rfl ⟨?_, trivial⟩
          refine lt2 (y := ints o.dn) (y2 := ints (finF h o o.sc.length).2) sl.intss (VC.d _).vd (VC.d _).vd ⟨rfl, rfl⟩ (by decide) ?_
          refine OL.nil ?_
          refine OT.node [4] (os := [_]) (by kernel_rfl) (by decide) rfl ⟨?_, trivial⟩
          refine clv rfl (.cons (VLe.refl _) (.nil)) (concat_ints (L := [o.dn, (finF h o o.sc.length).2]) (by simp) (by rw [show List.flatten [o.dn, (finF h o o.sc.length).2] = o.dn ++ (finF h o o.sc.length).2 by simp, List.length_append]; omega)) ?_
          rw [show List.flatten [o.dn, (finF h o o.sc.length).2] = o.dn ++ (finF h o o.sc.length).2 by simp]
          refine OL.nil ?_
          refine OT.node [6] (os := [_]) (by kernel_rfl) (by decide) rfl ⟨?_, trivial⟩
          refine asD rfl ?_
          refine OL.nil ?_
          refine OT.node [7] (os := [_]) (by kernel_rfl) (by decide) rfl ⟨?_, trivial⟩
          refine sto sz.Rat rfl rfl rfl rfl rfl (Nat.le_of_ble_eq_true rfl) (cells2 := [_, _, _]) rfl ?_
          refine OL.nil ?_
          refine OT.node [8] (os := [_]) (by kernel_rfl) (by decide) rfl ⟨?_, trivial⟩
          refine asD rfl ?_
          refine OL.nil ?_
          refine OT.leaf (by kernel_rfl) ?_
          exact AW.ret (RetQ.r ⟨_, .tmp rfl (.cellA rfl rfl ag.Rat (Nat.le_of_ble_eq_true rfl) (.tmp rfl .nil)), _, .cons (.le (vle_of_eq (by rw [finP, if_neg hz]; rfl))) (.cons (.ag (.cons (.le (by first | exact VLe.refl _ | exact VLe.mt | exact vle_q0 | exact VLe.int (by omega) | exact VLe.bool (by simp_all))) (.cons (.le (by first | exact VLe.refl _ | exact VLe.mt | exact vle_q0 | exact VLe.int (by omega) | exact VLe.bool (by simp_all))) (.cons (.le (by first | exact VLe.refl _ | exact VLe.mt | exact vle_q0 | exact VLe.int (by omega) | exact VLe.bool (by simp_all))) .nil)))) (.cons (.le (VLe.int (by rw [finE, if_neg hz]))) .nil)), rfl⟩)
end Go.Proofs.YtcebciggodhmcaaGreat

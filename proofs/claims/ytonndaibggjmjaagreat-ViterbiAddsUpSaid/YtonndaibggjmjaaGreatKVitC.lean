/-
  Walks of package viterbi, part 3: the best path, Best, Within; words; sanity checks (printed by mk2.py).
-/
import Derived.Test.YtonndaibggjmjaaGreatKVitB
import Derived.Test.YtonndaibggjmjaaGreatKMod35b
set_option linter.unusedVariables false
set_option linter.unusedSimpArgs false
namespace Go.Proofs.YtonndaibggjmjaaGreat
open Go Go.AL
abbrev dIss (l : List (List Int)) : D := .sl (l.map ints)
abbrev dHM (h : HM) : List D := [dI h.sym, dI h.st, dB (ofQ h.empty).neg, u32s (ofQ h.empty).num, u32s (ofQ h.empty).den, dQs h.ini, dQss h.trans, dQs h.stop, dQss h.emit, bools h.silent, ints h.ties]
theorem law35_same {l m : List Int} (nl : l.length ≤ 9223372036854775807) : FSpec P F.law35_same [.d (ints l), .d (ints m)] (.d (dB (decide (l = m)))) := by
 refine FSpec.intro fn.law35_same (by rfl) (by rfl) (nb9 (by rfl)) fun E hE => (AW.sg hE rfl (asD rfl (OL.nil (AW.seq (AW.sg hE rfl (mvD rfl (lnL sl.ints rfl rfl ?_)))))))
 refine mvD rfl (lnL sl.ints rfl rfl (c_neq rfl rfl rfl (OL.nil (AW.cond rfl (fun h10 => ?_) (fun h10 => ?_)))))
 ·have hl : l.length ≠ m.length := by simp at h10; omega
  exact AW.sg hE rfl (asD rfl (OL.nil (AW.ret (RetQ.r ⟨_, .tmp rfl .nil, .le (VLe.bool ((decide_eq_false fun e => hl (by rw [e])).symm))⟩))))
 ·have hl : l.length = m.length := by simp at h10; omega
  refine AW.skip (AW.seq (AW.sg hE rfl (asD rfl (OL.nil (AW.block ?_)))))
  refine AW.whileK (α := Nat) [(0, _), (1, _)] [] (fun i => [(5, .d (dI i))]) (fun i => []) (fun i => i ≤ l.length ∧ ∀ j, j < i → l.getD j 0 = m.getD j 0) (fun i => l.length - i) 0 (.cons (knD rfl) (.cons (knD rfl) .nil)) .nil ⟨⟨Nat.zero_le _, fun j hj => by omega⟩, .rq1, .nil⟩ ?_
  rintro i ⟨h1, h2⟩
  refine AW.seq (AW.sg hE rfl (mvD rfl (mvD rfl (lnL sl.ints rfl rfl (c_lss rfl rfl rfl (OL.nil (AW.cond rfl (fun h14 => ?_) (fun h14 => ?_))))))))
  ·try simp only [dx9] at h14
   refine AW.skip (AW.seq (AW.block (AW.seq (AW.dg 1 [0,1,2,3,4,5,6,7,8] order_free hE rfl (by kernel_rfl) (OI.of_OL (os := [_,_,_,_,_,_,_,_,_]) rfl ?_)))))
   refine mvD rfl (mvD rfl (ixLn sl.ints 0 rfl rfl (by omega) rfl rfl (ldRC ce.int rfl (mvD rfl (mvD rfl (ixLn sl.ints 0 rfl rfl (by omega) rfl rfl (ldRC ce.int rfl ?_)))))))
   refine c_neq rfl rfl rfl (OL.nil (AW.cond rfl (fun hc => ?_) (fun hc => ?_)))
   ·have hc : l.getD i 0 ≠ m.getD i 0 := fun e => by rw [e] at hc; simp at hc
    exact AW.sg hE rfl (asD rfl (OL.nil (AW.ret (RetQ.r ⟨_, .tmp rfl .nil, .le (VLe.bool ((decide_eq_false fun e => hc (by rw [e])).symm))⟩))))
   ·have hc : l.getD i 0 = m.getD i 0 := nd_f hc
    exact AW.skip (AW.rg hE rfl (mvD rfl (add_i64 rfl rfl (by omega) (asD rfl (OL.nil (AW.again (x := i) (i + 1) (by omega) ⟨⟨by omega, fun j hj => by rcases Nat.lt_or_ge j i with h | h; exact h2 j h; obtain rfl : j = i := (by omega); exact hc⟩, Knows.app .rq2 .rq1, .nil⟩))))))
  ·try simp only [dx9] at h14
   exact AW.exit (AW.sg hE rfl (asD rfl (OL.nil (AW.ret (RetQ.r ⟨_, .tmp rfl .nil, .le (VLe.bool ((decide_eq_true (list_eq_getD hl 0 fun j hj => h2 j (by omega))).symm))⟩)))))
theorem vd_q0B : VD (.ag [.d (dB false), .mt, .mt]) (dQ 0) := VD.ag vcs_q0
theorem law35_pairQ {q o : Rat} (hq : FSpec P F.ref01_Make [.d (dI 1), .d (dI 2)] (.tup [vQ q, .d (dI 0)])) (ho : FSpec P F.ref33_Whole [.d (dI 1)] (vQ o)) : FSpec P F.law35_pair [] (vHM ⟨2, 2, 0, [q, q], [[0, q], [0, 0]], [q, o], [[o, 0], [0, o]], [false, false], [0, 1]⟩) := by
 refine FSpec.intro fn.law35_pair (by rfl) (by rfl) (nb9 (by rfl)) fun E hE => (AW.sg hE rfl (al z.Hidden rfl fun b0 => (OL.nil (AW.sg hE rfl (clv rfl .rq2 hq (mvT rfl (ex rfl rfl ?_)))))))
 refine ex rfl rfl (al z.Rat rfl fun b1 => (sto sz.Rat rfl rfl rfl rfl rfl (nb9 rfl) (cells2 := [_,_,_]) rfl (asD rfl (OL.nil (AW.sg hE rfl (clv rfl .rq1 ho (al z.Rat rfl fun b3 => ?_)))))))
 refine sto sz.Rat rfl rfl rfl rfl rfl (nb9 rfl) (cells2 := [_,_,_]) rfl (OL.nil (AW.sg hE rfl (ldPA ag.Rat rfl rfl (vs := [_,_,_]) rfl (nb9 rfl) (ldPA ag.Rat rfl rfl (vs := [_,_,_]) rfl (nb9 rfl) (lt2 (y := dQ q) (y2 := dQ q) sl.Rats vd_q vd_q ⟨rfl, rfl⟩ (by decide) (bd z.Rat pl.Rat (cs := [_,_,_]) rfl (ldPA ag.Rat rfl rfl (vs := [_,_,_]) rfl (nb9 rfl) ?_)))))))
 refine lt2 (y := dQ 0) (y2 := dQ q) sl.Rats vd_q0B vd_q ⟨rfl, rfl⟩ (by decide) (bd z.Rat pl.Rat (cs := [_,_,_]) rfl (bd z.Rat pl.Rat (cs := [_,_,_]) rfl (lt2 (y := dQ 0) (y2 := dQ 0) sl.Rats vd_q0B vd_q0B ⟨rfl, rfl⟩ (by decide) (lt2 sl.Ratss (VC.d _).vd (VC.d _).vd ⟨rfl, rfl⟩ (by decide) (ldPA ag.Rat rfl rfl (vs := [_,_,_]) rfl (nb9 rfl) (ldPA ag.Rat rfl rfl (vs := [_,_,_]) rfl (nb9 rfl) (lt2 (y := dQ q) (y2 := dQ o) sl.Rats vd_q vd_q ⟨rfl, rfl⟩ (by decide) ?_)))))))
 refine ldPA ag.Rat rfl rfl (vs := [_,_,_]) rfl (nb9 rfl) (bd z.Rat pl.Rat (cs := [_,_,_]) rfl (lt2 (y := dQ o) (y2 := dQ 0) sl.Rats vd_q vd_q0B ⟨rfl, rfl⟩ (by decide) (bd z.Rat pl.Rat (cs := [_,_,_]) rfl (ldPA ag.Rat rfl rfl (vs := [_,_,_]) rfl (nb9 rfl) (lt2 (y := dQ 0) (y2 := dQ o) sl.Rats vd_q0B vd_q ⟨rfl, rfl⟩ (by decide) (lt2 sl.Ratss (VC.d _).vd (VC.d _).vd ⟨rfl, rfl⟩ (by decide) (lt2 sl.bools (VC.d _).vd (VC.d _).vd ⟨rfl, rfl⟩ (by decide) ?_)))))))
 refine lt2 sl.ints (VC.d _).vd (VC.d _).vd ⟨rfl, rfl⟩ (by decide) ?_
 refine bd2 (cs := [_,_,_,_,_,_,_,_,_,_,_]) z.Hidden pl.Hidden (pvC (by exact evD rfl) (pvC (by exact evD rfl) (pvC (by exact evD rfl) (pvC (by exact evD rfl) (pvC (by exact evD rfl) (pvC (by exact evD rfl) (pvC (by exact evD rfl) (pvC (by exact evD rfl) (pvN))))))))) (by rfl) ?_
 refine sto sz.Hidden rfl rfl rfl rfl rfl (nb9 rfl) (cells2 := [_,_,_,_,_,_,_,_,_,_,_]) rfl (OL.nil ?_)
 exact AW.ret (RetQ.r ⟨_, .cellA rfl rfl ag.Hidden (nb9 rfl) .nil, .ag (.cons (.le (VLe.refl _)) (.cons (.le (VLe.refl _)) (.cons (.le (vle_of_eq (by show _ = V.d (dB (ofQ 0).neg); rw [ofQ_zero]))) (.cons (.le (by show VLe _ (.d (u32s (ofQ 0).num)); rw [ofQ_zero]; exact VLe.mt)) (.cons (.le (by show VLe _ (.d (u32s (ofQ 0).den)); rw [ofQ_zero]; exact VLe.mt)) (.cons (.le (VLe.refl _)) (.cons (.le (VLe.refl _)) (.cons (.le (VLe.refl _)) (.cons (.le (VLe.refl _)) (.cons (.le (VLe.refl _)) (.cons (.le (VLe.refl _)) .nil)))))))))))⟩)
theorem law35_pair : FSpec P F.law35_pair [] (vHM pairHM) := law35_pairQ ref_half ref33_Whole1
theorem vit_path {h : HM} {B : Nat} {w : List Int} {p : Nat → Nat → Bool} (g : h.Good B) (k : WordOK h w) : FSpec P F.viterbi_table_path [.ref (cellsT h w (colsG h w p w.length))] (.tup [.d (ints (vitP h w p)), vQ (bestR h w p), .d (dI (vitE h w p))]) := by
 have f := g.form
 have n0 := f.st0
 have n1 := f.st1
 have k1 := k.1
 have zE := f.zE
 have bB := f.bB
 have zR := bestR_sz f k1 p
 refine FSpec.intro fn.viterbi_table_path (by rfl) (by rfl) (nb9 (by rfl)) fun E hE => (AW.sg hE rfl (asM rfl (al z.Rat rfl fun b3 => (asD rfl (OL.nil (AW.seq (AW.sg hE rfl ?_)))))))
 refine mvR rfl (ncR rfl (faR fd.table_1 rfl rfl (ldRC ce.ints rfl (lnL sl.ints rfl rfl (c_eql rfl rfl rfl (OL.nil (AW.cond rfl (fun h0 => ?_) (fun h0 => ?_))))))))
 ·have h0 : w.length = 0 := by have := of_decide_eq_true h0; omega
  have hbe : bestR h w p = h.empty := if_pos h0
  refine AW.seq (AW.sg hE rfl (mvR rfl (ncR rfl (faR fd.table_0 rfl rfl (faR fd.Hidden_2 rfl rfl (ldRA ag.Rat rfl (vs := [_,_,_]) rfl (nb9 rfl) (clv rfl (.cons (VLe.refl _) (.nil)) (rational_SignQ (x := h.empty) (by omega)) ?_)))))))
  refine c_eql rfl rfl rfl (OL.nil (AW.cond rfl (fun hz => ?_) (fun hz => ?_)))
  ·have hz : h.empty = 0 := sgnQ_eq.1 (of_decide_eq_true hz)
   have hbr : bestR h w p = 0 := hbe.trans hz
   refine AW.sg hE rfl (bd z.Rat pl.Rat (cs := [_,_,_]) rfl (asM rfl (sto sz.Rat rfl rfl rfl rfl rfl (nb9 rfl) (cells2 := [_,_,_]) rfl (asD rfl (OL.nil ?_)))))
   exact AW.ret (RetQ.r ⟨_, .tmp rfl (.cellA rfl rfl ag.Rat (nb9 rfl) (.tmp rfl .nil)), _, .cons (.le (by rw [vitP, if_pos (.inl h0)]; exact VLe.mt)) (.cons (.ag (.cons (.le (by rw [hbr, ofQ_zero]; exact VLe.refl _)) (.cons (.le (by rw [hbr, ofQ_zero]; exact VLe.mt)) (.cons (.le (by rw [hbr, ofQ_zero]; exact VLe.mt)) .nil)))) (.cons (.le (VLe.int (by rw [vitE, if_pos hbr]))) .nil)), rfl⟩)
  ·have hbr : bestR h w p ≠ 0 := fun e => of_decide_eq_false hz (sgnQ_eq.2 (hbe.symm.trans e))
   refine AW.skip (AW.sg hE rfl (mvR rfl (ncR rfl (faR fd.table_0 rfl rfl (faR fd.Hidden_2 rfl rfl (ldRA ag.Rat rfl (vs := [_,_,_]) rfl (nb9 rfl) (clv rfl (.cons (VLe.refl _) (.nil)) (fresh_Rat (q := h.empty) (by omega)) ?_)))))))
   refine asM rfl (sto sz.Rat rfl rfl rfl rfl rfl (nb9 rfl) (cells2 := [_,_,_]) rfl (asD rfl (OL.nil ?_)))
   exact AW.ret (RetQ.r ⟨_, .tmp rfl (.cellA rfl rfl ag.Rat (nb9 rfl) (.tmp rfl .nil)), _, .cons (.le (by rw [vitP, if_pos (.inl h0)]; exact VLe.mt)) (.cons (.ag (.cons (.le (vle_of_eq (congrArg (fun z : Rat => V.d (dB (ofQ z).neg)) hbe.symm))) (.cons (.le (vle_of_eq (congrArg (fun z : Rat => V.d (u32s (ofQ z).num)) hbe.symm))) (.cons (.le (vle_of_eq (congrArg (fun z : Rat => V.d (u32s (ofQ z).den)) hbe.symm))) .nil)))) (.cons (.le (VLe.int (by rw [vitE, if_neg hbr]))) .nil)), rfl⟩)
 ·have h0 : w.length ≠ 0 := fun e => of_decide_eq_false h0 (by omega)
  have hbe : bestR h w p = bestG h w p := if_neg h0
  refine AW.skip (AW.sg hE rfl (mvR rfl ?_))
  refine clv rfl (.cons (VLe.refl _) (.cons (VLe.refl _) (.cons (VLe.refl _) (.nil)))) (vit_best (rows := colsG h w p w.length) (a := 0) (fr := -1) (rest := restG h w p (w.length - 1 - 0)) f k (by omega) ⟨by omega, by omega⟩ (restG_len ..) (restG_szB f w p (by omega)) (by rw [colsG_len]; omega) (colsG_get (by omega) (by omega))) ?_
  rw [show aheadF h (-1) (symX w 0) (restG h w p (w.length - 1 - 0)) h.st = ahdG h w p (-1) 0 from rfl, show (ahdG h w p (-1) 0).1 = bestG h w p from rfl]
  refine mvT rfl (ex rfl rfl (ex rfl rfl (al z.Rat rfl fun b5 => (sto sz.Rat rfl rfl rfl rfl rfl (nb9 rfl) (cells2 := [_,_,_]) rfl (asD rfl (OL.nil (AW.seq ?_)))))))
  refine AW.sg hE rfl (ldPA ag.Rat rfl rfl (vs := [_,_,_]) rfl (nb9 rfl) (clv rfl (.cons (VLe.refl _) (.nil)) (rational_SignQ (x := bestG h w p) (by rw [← hbe]; omega)) (c_eql rfl rfl rfl (OL.nil (AW.cond rfl (fun hz => ?_) (fun hz => ?_))))))
  ·have hz : bestG h w p = 0 := sgnQ_eq.1 (of_decide_eq_true hz)
   have hbr : bestR h w p = 0 := hbe.trans hz
   refine AW.sg hE rfl (bd z.Rat pl.Rat (cs := [_,_,_]) rfl (asM rfl (sto sz.Rat rfl rfl rfl rfl rfl (nb9 rfl) (cells2 := [_,_,_]) rfl (asD rfl (OL.nil ?_)))))
   exact AW.ret (RetQ.r ⟨_, .tmp rfl (.cellA rfl rfl ag.Rat (nb9 rfl) (.tmp rfl .nil)), _, .cons (.le (by rw [vitP, if_pos (.inr hz)]; exact VLe.mt)) (.cons (.ag (.cons (.le (by rw [hbr, ofQ_zero]; exact VLe.refl _)) (.cons (.le (by rw [hbr, ofQ_zero]; exact VLe.mt)) (.cons (.le (by rw [hbr, ofQ_zero]; exact VLe.mt)) .nil)))) (.cons (.le (VLe.int (by rw [vitE, if_pos hbr]))) .nil)), rfl⟩)
  ·have hz : bestG h w p ≠ 0 := fun e => of_decide_eq_false hz (sgnQ_eq.2 e)
   have hbr : bestR h w p ≠ 0 := fun e => hz (hbe.symm.trans e)
   refine AW.skip (AW.sg hE rfl (mvD rfl (lt1O (y := dI (toG h w p 1)) sl.ints (VC.d _).vd rfl (by decide) rfl fun b39 => (asO rfl (OL.nil (AW.seq (AW.sg hE rfl ?_)))))))
   refine asD rfl (OL.nil (AW.block (AW.rename 39 59 rfl ?_)))
   refine AW.whileK (α := Nat × Nat × Nat) [(0, _), (2, _), (3, _), (4, _), (5, _)] [(3, _), (5, _)] (fun (t, q, c) => [(7, .osl 59 q t c), (8, .d (dI t)), (6, .d (dI (toG h w p t)))]) (fun (t, q, c) => [(59, .row q c T.int 1 ((pathG h w p t).map dI))]) (fun (t, q, c) => 1 ≤ t ∧ t ≤ w.length) (fun (t, q, c) => w.length - t) (1, b39, 1) (.cons (knR rfl) (.cons (knM rfl) (.cons (knP rfl) (.cons (knD rfl) (.cons (knP rfl) .nil))))) (.cons (owB rfl) (.cons (owB rfl) .nil)) ⟨⟨by decide, by omega⟩, .cons (VLe.osl) .rq2, .cons rfl .nil⟩ ?_
   rintro ⟨t, q, c⟩ ⟨ht1, ht2⟩
   have ht1 : 1 ≤ t := ht1
   have ht2 : t ≤ w.length := ht2
   have hpl := pathG_len h w p t
   have htr := toG_range n0 w p t
   refine AW.seq (AW.sg hE rfl (mvD rfl (mvR rfl (ncR rfl (faR fd.table_1 rfl rfl (ldRC ce.ints rfl (lnL sl.ints rfl rfl ?_)))))))
   refine c_lss rfl rfl rfl (OL.nil (AW.cond rfl (fun h46 => ?_) (fun h46 => ?_)))
   ·try simp only [dx9] at h46
    refine AW.skip (AW.seq (AW.block (AW.sg hE rfl (mvR rfl (mvD rfl (mvD rfl ?_))))))
    refine clv rfl (.cons (VLe.refl _) (.cons (VLe.refl _) (.cons (VLe.refl _) (.nil)))) (vit_best (rows := colsG h w p w.length) (a := t) (fr := toG h w p t) (rest := restG h w p (w.length - 1 - t)) f k (by omega) htr (restG_len ..) (restG_szB f w p (by omega)) (by rw [colsG_len]; omega) (colsG_get (by omega) (by omega))) ?_
    rw [show aheadF h (toG h w p t) (symX w t) (restG h w p (w.length - 1 - t)) h.st = ahdG h w p (toG h w p t) t from rfl, show (((ahdG h w p (toG h w p t) t).2 : Nat) : Int) = toG h w p (t + 1) from rfl]
    refine mvT rfl (ex rfl rfl (ex rfl rfl (asD rfl (OL.nil (AW.rg hE rfl (mvO rfl (mvD rfl ?_)))))))
    refine lt1 sl.ints (VC.d _).vd rfl (by decide) (apO sl.ints rfl rfl rfl (by rw [List.length_map, hpl]) (VC.d _) (by simp [D.cells]) (by simp; omega) (by simp; omega) (.inr rfl) (ys := (pathG h w p (t + 1)).map dI) (by rw [pathG_succ, List.map_append]; rfl) (n2 := t + 1) (by simp) fun q2 c2 => (asO rfl (OL.nil (AW.rg hE rfl (mvD rfl (add_i64 rfl rfl (by omega) (asD rfl ?_)))))))
    refine OL.nil ?_
    exact AW.again (x := (t, q, c)) (t + 1, q2, c2) (by (simp only []; omega)) ⟨⟨by omega, by omega⟩, Knows.app .rq5 .rq3, Owns.app (.cons rfl (.cons rfl .nil)) (.cons rfl .nil)⟩
   ·try simp only [dx9] at h46
    refine AW.exit (AW.seq ?_)
    obtain rfl : t = w.length := by omega
    refine AW.dg 1 [0,1,2,3,4] order_free hE rfl (by kernel_rfl) (OI.of_OL (os := [_,_,_,_,_]) rfl ?_)
    refine mvO rfl (ldPA ag.Rat rfl rfl (vs := [_,_,_]) rfl (nb9 rfl) (asO rfl (sto sz.Rat rfl rfl rfl rfl rfl (nb9 rfl) (cells2 := [_,_,_]) rfl (asD rfl (OL.nil ?_)))))
    exact AW.ret (RetQ.r ⟨_, .tmp rfl (.cellA rfl rfl ag.Rat (nb9 rfl) (.tmp rfl .nil)), _, .cons (RO.row rfl (by rw [List.length_map, hpl]) (by rw [vitP, if_neg fun x => x.elim h0 hz])) (.cons (.ag (.cons (.le (vle_of_eq (congrArg (fun z : Rat => V.d (dB (ofQ z).neg)) hbe.symm))) (.cons (.le (vle_of_eq (congrArg (fun z : Rat => V.d (u32s (ofQ z).num)) hbe.symm))) (.cons (.le (vle_of_eq (congrArg (fun z : Rat => V.d (u32s (ofQ z).den)) hbe.symm))) .nil)))) (.cons (.le (VLe.int (by rw [vitE, if_neg hbr]))) .nil)), rfl⟩)
theorem vit_Best {h : HM} {B : Nat} {w : List Int} (g : h.Good B) (k : WordOK h w) : FSpec P F.viterbi_Best [vHM h, .d (ints w)] (.tup [.d (ints (vitP h w every)), vQ (bestR h w every), .d (dI (vitE h w every))]) := by
 refine FSpec.intro fn.viterbi_Best (by rfl) (by rfl) (nb9 (by rfl)) fun E hE => (AW.sg hE rfl (bxA rfl rfl fun b2 => (asM rfl (al z.Rat rfl fun b5 => (asD rfl (OL.nil (AW.seq ?_)))))))
 refine AW.sg hE rfl (ldPA ag.Hidden rfl rfl (vs := [_,_,_,_,_,_,_,_,_,_,_]) rfl (nb9 rfl) (mvD rfl (clv rfl (.cons (VLe.refl _) (.cons (VLe.refl _) (.nil))) (viterbi_refuse g k) (asD rfl (OL.nil (AW.sg hE rfl (mvD rfl ?_)))))))
 refine c_neq rfl rfl (c := false) (by exact cne_f (by omega)) (OL.nil (AW.cond rfl (fun hno => absurd hno (by decide)) (fun _ => ?_)))
 refine AW.skip (AW.sg hE rfl (ldPA ag.Hidden rfl rfl (vs := [_,_,_,_,_,_,_,_,_,_,_]) rfl (nb9 rfl) (mvD rfl (clv rfl (.cons (VLe.refl _) (.cons (VLe.refl _) (.cons (VLe.refl _) (.nil)))) (vit_newTable (fp := F.viterbi_every) (caps := []) (p := every) g k fun t i _ _ => viterbi_every) (clv rfl (.cons (VLe.refl _) (.nil)) (vit_path g k) (ex rfl rfl (ex rfl rfl ?_)))))))
 exact ex rfl rfl (asD rfl (sto sz.Rat rfl rfl rfl rfl rfl (nb9 rfl) (cells2 := [_,_,_]) rfl (asD rfl (OL.nil (AW.ret (RetQ.r ⟨_, .tmp rfl (.cellA rfl rfl ag.Rat (nb9 rfl) (.tmp rfl .nil)), _, .cons (.le (VLe.refl _)) (.cons (.ag (.cons (.le (VLe.refl _)) (.cons (.le (VLe.refl _)) (.cons (.le (VLe.refl _)) .nil)))) (.cons (.le (VLe.refl _)) .nil)), rfl⟩))))))
theorem pair_vit : vitP pairHM [1, 2] every = [0, 1] ∧ bestR pairHM [1, 2] every = 1 / 4 ∧ vitE pairHM [1, 2] every = 0 := by decide +kernel
theorem q14 : ((1 : Int) : Rat) / ((4 : Int) : Rat) = 1 / 4 := rfl
theorem law35_known  : FSpec P F.law35_known [] (.d (dB true)) := by
 have zq : sz (1 / 4) ≤ 1 := by rw [← q14]; exact div_sz (by decide) (by decide) (by decide)
 refine FSpec.intro fn.law35_known (by rfl) (by rfl) (nb9 (by rfl)) fun E hE => ?_
 refine AW.sg hE rfl ?_
 refine asD rfl ?_
 refine OL.nil ?_
 refine AW.sg hE rfl ?_
 refine clv rfl .nil law35_pair ?_
 refine lt2 sl.ints (VC.d _).vd (VC.d _).vd ⟨rfl, rfl⟩ (by decide) ?_
 refine clv rfl (.cons (VLe.refl _) (.cons (VLe.refl _) (.nil))) (vit_Best pair_good pair_word) ?_
 rw [pair_vit.1, pair_vit.2.1, pair_vit.2.2]
 have hgen : ∃ q : Rat, q = 1 / 4 := ⟨_, rfl⟩
 obtain ⟨qq, eqq⟩ := hgen
 rw [← eqq] at zq ⊢
 refine mvT rfl (ex rfl rfl (ex rfl rfl (ex rfl rfl (al z.Rat rfl fun b2 => (asD rfl (sto sz.Rat rfl rfl rfl rfl rfl (nb9 rfl) (cells2 := [_,_,_]) rfl (asD rfl ?_)))))))
 refine OL.nil (AW.sg hE rfl (clv rfl (.cons (VLe.refl _) (.cons (VLe.refl _) (.nil))) (ref_Make (n := 1) (d := 4) (by decide) (by decide) (by decide)) ?_))
 rw [q14, ← eqq]
 refine mvT rfl (ex rfl rfl (ex rfl rfl (al z.Rat rfl fun b4 => (sto sz.Rat rfl rfl rfl rfl rfl (nb9 rfl) (cells2 := [_,_,_]) rfl (asD rfl (OL.nil (AW.sg hE rfl ?_)))))))
 refine mvD rfl (c_eql rfl rfl (c := true) (by exact decide_eq_true (by omega)) (mvD rfl (OL.yes rfl (mvD rfl (OL.yes rfl (lt2 sl.ints (VC.d _).vd (VC.d _).vd ⟨rfl, rfl⟩ (by decide) (OL.yes rfl ?_)))))))
 refine clv rfl (.cons (VLe.refl _) (.cons (VLe.refl _) (.nil))) (law35_same (l := [0, 1]) (m := [0, 1]) (by decide)) ?_
 rw [decide_eq_true rfl]
 refine pkT rfl rfl (mvD rfl (OL.yes rfl (ldPA ag.Rat rfl rfl (vs := [_,_,_]) rfl (nb9 rfl) (OL.yes rfl (ldPA ag.Rat rfl rfl (vs := [_,_,_]) rfl (nb9 rfl) (OL.yes rfl (clv rfl (.cons (VLe.refl _) (.cons (VLe.refl _) (.nil))) (ref_CompareQ (x := qq) (y := qq) (by omega) (by omega)) ?_)))))))
 rw [show cmpQ qq qq = 0 from cmpQ_eq.2 rfl]
 exact OL.yes rfl (c_eql rfl rfl rfl (pkT rfl rfl (asD rfl (OL.nil (AW.ret (RetQ.r ⟨_, .tmp rfl .nil, .le (VLe.refl _)⟩))))))
end Go.Proofs.YtonndaibggjmjaaGreat

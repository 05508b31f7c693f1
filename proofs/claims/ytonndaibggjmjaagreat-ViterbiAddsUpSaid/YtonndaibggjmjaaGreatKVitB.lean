/-
  Walks of package viterbi, part 2: the table of what follows, the best path (printed by mk2.py).
-/
import Derived.Test.YtonndaibggjmjaaGreatKMod35
import Derived.Test.YtonndaibggjmjaaGreatKAlg26
set_option linter.unusedVariables false
set_option linter.unusedSimpArgs false
namespace Go.Proofs.YtonndaibggjmjaaGreat
open Go Go.AL
theorem vcs_mt_rowB : VCs [.mt] (dQs []).cells := .cons VC.mt .nil
abbrev cellsT (h : HM) (w : List Int) (rows : List (List Rat)) : List D := [dI h.sym, dI h.st, dB (ofQ h.empty).neg, u32s (ofQ h.empty).num, u32s (ofQ h.empty).den, dQs h.ini, dQss h.trans, dQs h.stop, dQss h.emit, bools h.silent, ints h.ties, ints w, dQss rows]
abbrev cellsTO (h : HM) (w : List Int) (id b n : Nat) : List V := [.d (dI h.sym), .d (dI h.st), .d (dB (ofQ h.empty).neg), .d (u32s (ofQ h.empty).num), .d (u32s (ofQ h.empty).den), .d (dQs h.ini), .d (dQss h.trans), .d (dQs h.stop), .d (dQss h.emit), .d (bools h.silent), .d (ints h.ties), .d (ints w), .osl id b n n]
def colsG (h : HM) (w : List Int) (p : Nat → Nat → Bool) (d : Nat) : List (List Rat) := (List.range w.length).map fun j => if w.length ≤ j + d then restG h w p (w.length - 1 - j) else []
theorem colsG_len (h : HM) (w : List Int) (p : Nat → Nat → Bool) (d : Nat) : (colsG h w p d).length = w.length := by simp [colsG]
theorem colsG_zero (h : HM) (w : List Int) (p : Nat → Nat → Bool) : colsG h w p 0 = List.replicate w.length [] := by
 refine List.ext_getElem (by simp [colsG]) fun k h1 h2 => ?_
 have hk : k < w.length := by simpa [colsG] using h1
 simp only [colsG, List.getElem_map, List.getElem_range, List.getElem_replicate]
 rw [if_neg (by omega)]
theorem colsG_set {h : HM} {w : List Int} {p : Nat → Nat → Bool} {d a : Nat} (hd : d < w.length) (ha : a = w.length - 1 - d) : (colsG h w p d).set a (restG h w p d) = colsG h w p (d + 1) := by
 refine List.ext_getElem (by simp [colsG]) fun k h1 h2 => ?_
 have hk : k < w.length := by simpa [colsG] using h2
 rw [List.getElem_set]
 simp only [colsG, List.getElem_map, List.getElem_range]
 by_cases hq : a = k
 ·rw [if_pos hq, if_pos (by omega), show w.length - 1 - k = d by omega]
 ·rw [if_neg hq]
  by_cases h3 : w.length ≤ k + d
  ·rw [if_pos h3, if_pos (by omega)]
  ·rw [if_neg h3, if_neg (by omega)]
theorem colsG_get {h : HM} {w : List Int} {p : Nat → Nat → Bool} {d j : Nat} (hj : j < w.length) (hd : w.length ≤ j + d) : (colsG h w p d).getD j [] = restG h w p (w.length - 1 - j) := by
 unfold colsG
 rw [map_getD_range _ _ hj, if_pos hd]
theorem fillF_skip {α : Type} {d : α} {g : Nat → α} {n i : Nat} (hg : g i = d) : fillF d g n (i + 1) = fillF d g n i := by
 refine List.map_congr_left fun j hj => ?_
 by_cases h1 : j < i
 ·rw [if_pos h1, if_pos (by omega)]
 ·rw [if_neg h1]
  by_cases h2 : j < i + 1
  ·obtain rfl : j = i := by omega
   rw [if_pos h2, hg]
  ·rw [if_neg h2]
theorem fill_rest {h : HM} {w : List Int} {p : Nat → Nat → Bool} {d : Nat} : fillF 0 (fun j => (restG h w p d).getD j 0) h.st h.st = restG h w p d := by
 rw [fillF_all]
 refine list_eq_getD (by rw [restG_len]; simp) 0 fun i hi => ?_
 rw [List.length_map, List.length_range] at hi
 exact map_getD_range _ _ hi
theorem restG_no {h : HM} {w : List Int} {p : Nat → Nat → Bool} {d a i : Nat} (hi : i < h.st) (ha : a = w.length - 1 - d) (hp : p a i = false) : (restG h w p d).getD i 0 = 0 := by
 subst ha
 cases d with
 | zero => rw [restG, rowG_get hi, if_neg (by rw [show w.length - 1 = w.length - 1 - 0 by omega, hp]; decide)]
 | succ d => rw [restG, rowG_get hi, if_neg (by rw [hp]; decide)]
theorem restG_stop {h : HM} {w : List Int} {p : Nat → Nat → Bool} {d a i : Nat} (hi : i < h.st) (ha : a = w.length - 1 - d) (hd : d = 0) (hp : p a i = true) : (restG h w p d).getD i 0 = h.stop.getD i 0 := by
 subst ha
 subst hd
 rw [restG, rowG_get hi]
 exact if_pos hp
theorem restG_more {h : HM} {w : List Int} {p : Nat → Nat → Bool} {d a i : Nat} (hi : i < h.st) (ha : a = w.length - 1 - d) (hd : 0 < d) (hdl : d < w.length) (hp : p a i = true) : (restG h w p d).getD i 0 = (ahdG h w p (i : Nat) (a + 1)).1 := by
 obtain ⟨e, rfl⟩ : ∃ e, d = e + 1 := ⟨d - 1, by omega⟩
 subst ha
 rw [restG, rowG_get hi, if_pos hp, ahdG, show w.length - 1 - (e + 1) + 1 = w.length - 1 - e by omega, show w.length - 1 - (w.length - 1 - e) = e by omega]
theorem frz_table {h : HM} {w : List Int} {b : Nat} {rows : List (List Rat)} (hl : rows.length = w.length) : (cellsTO h w 14 b w.length).map (V.frz 14 b w.length (rows.map dQs)) = (cellsT h w rows).map .d := by
 have e : V.frz 14 b w.length (rows.map dQs) (.osl 14 b w.length w.length) = .d (dQss rows) := by
  show (if 14 = 14 ∧ b = b ∧ w.length = w.length ∧ w.length ≤ (rows.map dQs).length then V.d (.sl ((rows.map dQs).take w.length)) else _) = _
  rw [if_pos ⟨rfl, rfl, rfl, by rw [List.length_map, hl]; exact Nat.le_refl _⟩, List.take_of_length_le (by rw [List.length_map, hl]; exact Nat.le_refl _)]
 simp only [cellsTO, cellsT, List.map_cons, List.map_nil, e]
 rfl
theorem frz_outer {h : HM} {w : List Int} {p : Nat → Nat → Bool} {d a b c e : Nat} {x : D} (hd : d < w.length) (ha : a = w.length - 1 - d) (hfl : (fillF 0 (fun j => (restG h w p d).getD j 0) h.st h.st).length = h.st) :
  some (Blk.row b c e 1 ((((colsG h w p d).map dQs).set a x).set a (.sl (((fillF 0 (fun j => (restG h w p d).getD j 0) h.st h.st).map dQ).take h.st)))) = some (Blk.row b c e 1 ((colsG h w p (d + 1)).map dQs)) := by
 rw [List.set_set, List.take_of_length_le (by rw [List.length_map, hfl]; exact Nat.le_refl _), fill_rest, ← colsG_set hd ha, List.map_set]
theorem viterbi_every {t i : Int} : FSpec P F.viterbi_every [.d (dI t), .d (dI i)] (.d (dB true)) := by
 exact FSpec.intro fn.viterbi_every (by rfl) (by rfl) (nb9 (by rfl)) fun E hE => (AW.sg hE rfl (asD rfl (OL.nil (AW.sg hE rfl (asD rfl (OL.nil (AW.ret (RetQ.r ⟨_, .tmp rfl .nil, .le (VLe.refl _)⟩))))))))
theorem vit_best {h : HM} {B a : Nat} {w : List Int} {fr : Int} {rest : List Rat} (f : h.Form B) (k : WordOK h w) (ha : a < w.length) (hf : -1 ≤ fr ∧ fr < h.st) (hl : rest.length = h.st) (hz : Small 1048576 rest) {rows : List (List Rat)} (hr : a < rows.length) (hrow : rows.getD a [] = rest) : FSpec P F.viterbi_table_best [.ref (cellsT h w rows), .d (dI a), .d (dI fr)] (.tup [vQ (aheadF h fr (symX w a) rest h.st).1, .d (dI ((aheadF h fr (symX w a) rest h.st).2 : Nat))]) := by
 have s1 := f.sym1
 have n0 := f.st0
 have n1 := f.st1
 refine FSpec.intro fn.viterbi_table_best (by rfl) (by rfl) (nb9 (by rfl)) fun E hE => (AW.sg hE rfl (al z.Rat rfl fun b6 => (asD rfl (OL.nil (AW.sg hE rfl (al z.Rat rfl fun b8 => (OL.nil ?_)))))))
 refine AW.sg hE rfl (asD rfl (OL.nil (AW.seq (AW.seq ?_))))
 have hx := k.symX (t := a) ha
 have k1 := k.1
 refine AW.rg hE rfl (mvR rfl (ncR rfl (faR fd.table_2 rfl rfl (ldRC ce.Ratss rfl (mvD rfl (ixLn sl.Ratss [] rfl rfl (by omega) rfl rfl (ldRC ce.Rats rfl ?_)))))))
 rw [hrow]
 refine lnL sl.Rats rfl rfl (mvD rfl (OL.nil (AW.block (AW.boxW 8 (cellsQ 0) rfl vles_q ?_))))
 refine AW.whileK (α := Nat) [(0, _), (1, _), (2, _), (6, _), (7, _), (8, _), (19, _), (20, _)] [(6, _)] (fun i => [(21, .d (dI i)), (9, .d (dI ((aheadF h fr (symX w a) rest i).2 : Nat)))]) (fun i => [(8, .box b8 T.Rat (cellsQ (aheadF h fr (symX w a) rest i).1))]) (fun i => i ≤ h.st) (fun i => h.st - i) 0 (.cons (knR rfl) (.cons (knD rfl) (.cons (knD rfl) (.cons (knP rfl) (.cons (knD rfl) (.cons (knP rfl) (.cons (knD rfl) (.cons (knD rfl) .nil)))))))) (.cons (owB rfl) .nil) ⟨Nat.zero_le _, .rq2, .cons rfl .nil⟩ ?_
 intro i h1
 have h1 : i ≤ h.st := h1
 have hbs := aheadF_sz f fr (symX w a) hz (by decide) i
 refine AW.sg hE rfl (c_lss rfl rfl rfl (OL.nil (AW.seq (AW.cond rfl (fun h22 => ?_) (fun h22 => ?_)))))
 ·try simp only [dx9] at h22
  refine AW.skip (AW.seq (AW.block (AW.seq ?_)))
  have hv := viaQ_sz f fr (symX w a) hz (by decide) i
  have hzi := hz.get (by decide) i
  have hez := entQ_sz f fr i (symX w a)
  refine AW.rg hE rfl (mvD rfl (ixLn sl.Rats 0 rfl rfl (by omega) rfl rfl (ldRA ag.Rat rfl (vs := [_,_,_]) rfl (nb9 rfl) (al z.Rat rfl fun b11 => (asD rfl (sto sz.Rat rfl rfl rfl rfl rfl (nb9 rfl) (cells2 := [_,_,_]) rfl (OL.nil ?_)))))))
  refine AW.seq (AW.dg 1 [0,1,2,3,4,5,6,7,8,9,10,11,12,13,14,15,16,17] order_free hE rfl (by kernel_rfl) (OI.of_OL (os := [_,_,_,_,_,_,_,_,_,_,_,_,_,_,_,_,_,_]) rfl ?_))
  refine mvR rfl (ncR rfl (faR fd.table_0 rfl rfl (ldRA ag.Hidden rfl (vs := [_,_,_,_,_,_,_,_,_,_,_]) rfl (nb9 rfl) (mvD rfl (mvD rfl (mvR rfl (ncR rfl ?_)))))))
  refine faR fd.table_1 rfl rfl (ldRC ce.ints rfl (mvD rfl (ixLn sl.ints 0 rfl rfl (by omega) rfl rfl (ldRC ce.int rfl ?_))))
  rw [hx.2]
  refine clv rfl (.cons (VLe.refl _) (.cons (VLe.refl _) (.cons (VLe.refl _) (.cons (VLe.refl _) (.nil))))) (viterbi_enter f hf (by omega) hx.1) (ldPA ag.Rat rfl rfl (vs := [_,_,_]) rfl (nb9 rfl) (clv rfl .rq2 (rational_MulQ (by omega) (by omega)) ?_))
  rw [show entQ h fr i (symX w a) * rest.getD i 0 = viaQ h fr (symX w a) rest i from rfl]
  refine al z.Rat rfl fun b12 => (sto sz.Rat rfl rfl rfl rfl rfl (nb9 rfl) (cells2 := [_,_,_]) rfl (OL.nil (AW.sg hE rfl (ldPA ag.Rat rfl rfl (vs := [_,_,_]) rfl (nb9 rfl) (ldPA ag.Rat rfl rfl (vs := [_,_,_]) rfl (nb9 rfl) (clv rfl .rq2 (rational_CompareQ (by omega) (by omega)) (c_gtr rfl rfl rfl ?_)))))))
  refine OL.nil (AW.cond rfl (fun hc => ?_) (fun hc => ?_))
  ·have hc : (aheadF h fr (symX w a) rest i).1 < viaQ h fr (symX w a) rest i := cmpQ_gt.1 (of_decide_eq_true hc)
   have hah : aheadF h fr (symX w a) rest (i + 1) = (viaQ h fr (symX w a) rest i, i) := if_pos hc
   refine AW.rg hE rfl (ldPA ag.Rat rfl rfl (vs := [_,_,_]) rfl (nb9 rfl) (mvD rfl (sto sz.Rat rfl rfl rfl rfl rfl (nb9 rfl) (cells2 := [_,_,_]) rfl (asD rfl (OL.nil (AW.rg hE rfl (add_i64 rfl rfl (by omega) ?_)))))))
   refine mvD rfl (OL.nil ?_)
   exact AW.again (x := i) (i + 1) (by omega) ⟨by omega, Knows.app .rq8 (.cons (VLe.refl _) (.cons (VLe.int (by rw [hah])) .nil)), Owns.app (.cons rfl .nil) (.cons (by rw [hah]; rfl) .nil)⟩
  ·have hc : ¬ (aheadF h fr (symX w a) rest i).1 < viaQ h fr (symX w a) rest i := fun e => of_decide_eq_false hc (cmpQ_gt.2 e)
   have hah : aheadF h fr (symX w a) rest (i + 1) = (aheadF h fr (symX w a) rest i) := if_neg hc
   refine AW.skip (AW.rg hE rfl (add_i64 rfl rfl (by omega) (mvD rfl (OL.nil ?_))))
   exact AW.again (x := i) (i + 1) (by omega) ⟨by omega, Knows.app .rq8 (.cons (VLe.refl _) (.cons (VLe.int (by rw [hah])) .nil)), Owns.app (.cons rfl .nil) (.cons (by rw [hah]; rfl) .nil)⟩
 ·try simp only [dx9] at h22
  refine AW.exit (AW.seq ?_)
  obtain rfl : i = h.st := by omega
  exact AW.rg hE rfl (ldPA ag.Rat rfl rfl (vs := [_,_,_]) rfl (nb9 rfl) (mvD rfl (sto sz.Rat rfl rfl rfl rfl rfl (nb9 rfl) (cells2 := [_,_,_]) rfl (asD rfl (OL.nil (AW.ret (RetQ.r ⟨_, .cellA rfl rfl ag.Rat (nb9 rfl) (.tmp rfl .nil), _, .cons (.ag (.cons (.le (VLe.refl _)) (.cons (.le (VLe.refl _)) (.cons (.le (VLe.refl _)) .nil)))) (.cons (.le (VLe.refl _)) .nil), rfl⟩)))))))
theorem vit_bestM {h : HM} {B a : Nat} {w : List Int} {fr : Int} {rest : List Rat} (f : h.Form B) (k : WordOK h w) (ha : a < w.length) (hf : -1 ≤ fr ∧ fr < h.st) (hl : rest.length = h.st) (hz : Small 1048576 rest) {b1 b2 n : Nat} {es : List D} (hn : a < n) (hel : es[a]? = some (dQs rest)) : FSpecM P F.viterbi_table_best [.ptr 16 b1 0, .d (dI a), .d (dI fr)] (mem2 16 (.box b1 T.table (cellsTO h w 14 b2 n)) 14 (.row b2 n T.Rats 1 es)) (.tup [vQ (aheadF h fr (symX w a) rest h.st).1, .d (dI ((aheadF h fr (symX w a) rest h.st).2 : Nat))]) (mem2 16 (.box b1 T.table (cellsTO h w 14 b2 n)) 14 (.row b2 n T.Rats 1 es)) := by
 have s1 := f.sym1
 have n0 := f.st0
 have n1 := f.st1
 refine FSpecM.intro fn.viterbi_table_best (by rfl) (by rfl) (nb9 (by rfl)) fun E hE => (AW.sg hE rfl (al z.Rat rfl fun b6 => (asD rfl (OL.nil (AW.sg hE rfl (al z.Rat rfl fun b8 => (OL.nil ?_)))))))
 refine AW.sg hE rfl (asD rfl (OL.nil (AW.seq (AW.seq ?_))))
 have hx := k.symX (t := a) ha
 have k1 := k.1
 refine AW.rg hE rfl (mvP rfl (ncP rfl (faP fd.table_2 rfl rfl (ldPC ce.Ratss rfl rfl rfl (mvD rfl (ixOn sl.Ratss rfl rfl hn (ldEC ce.Rats (by decide) rfl rfl hel rfl ?_)))))))
 refine lnL sl.Rats rfl rfl (mvD rfl (OL.nil (AW.block (AW.boxW 8 (cellsQ 0) rfl vles_q ?_))))
 refine AW.whileK (α := Nat) [(0, _), (1, _), (2, _), (6, _), (7, _), (8, _), (19, _), (20, _)] [(6, _), (14, _), (16, _)] (fun i => [(21, .d (dI i)), (9, .d (dI ((aheadF h fr (symX w a) rest i).2 : Nat)))]) (fun i => [(8, .box b8 T.Rat (cellsQ (aheadF h fr (symX w a) rest i).1))]) (fun i => i ≤ h.st) (fun i => h.st - i) 0 (.cons (knP rfl) (.cons (knD rfl) (.cons (knD rfl) (.cons (knP rfl) (.cons (knD rfl) (.cons (knP rfl) (.cons (knD rfl) (.cons (knD rfl) .nil)))))))) (.cons (owB rfl) (.cons (owR rfl) (.cons (owB rfl) .nil))) ⟨Nat.zero_le _, .rq2, .cons rfl .nil⟩ ?_
 intro i h1
 have h1 : i ≤ h.st := h1
 have hbs := aheadF_sz f fr (symX w a) hz (by decide) i
 refine AW.sg hE rfl (c_lss rfl rfl rfl (OL.nil (AW.seq (AW.cond rfl (fun h22 => ?_) (fun h22 => ?_)))))
 ·try simp only [dx9] at h22
  refine AW.skip (AW.seq (AW.block (AW.seq ?_)))
  have hv := viaQ_sz f fr (symX w a) hz (by decide) i
  have hzi := hz.get (by decide) i
  have hez := entQ_sz f fr i (symX w a)
  refine AW.rg hE rfl (mvD rfl (ixLn sl.Rats 0 rfl rfl (by omega) rfl rfl (ldRA ag.Rat rfl (vs := [_,_,_]) rfl (nb9 rfl) (al z.Rat rfl fun b11 => (asD rfl (sto sz.Rat rfl rfl rfl rfl rfl (nb9 rfl) (cells2 := [_,_,_]) rfl (OL.nil ?_)))))))
  refine AW.seq (AW.dg 1 [0,1,2,3,4,5,6,7,8,9,10,11,12,13,14,15,16,17] order_free hE rfl (by kernel_rfl) (OI.of_OL (os := [_,_,_,_,_,_,_,_,_,_,_,_,_,_,_,_,_,_]) rfl ?_))
  refine mvP rfl (ncP rfl (faP fd.table_0 rfl rfl (ldPA ag.Hidden rfl rfl (vs := [_,_,_,_,_,_,_,_,_,_,_]) rfl (nb9 rfl) (mvD rfl (mvD rfl (mvP rfl (ncP rfl ?_)))))))
  refine faP fd.table_1 rfl rfl (ldPC ce.ints rfl rfl rfl (mvD rfl (ixLn sl.ints 0 rfl rfl (by omega) rfl rfl (ldRC ce.int rfl ?_))))
  rw [hx.2]
  refine clv rfl (.cons (VLe.refl _) (.cons (VLe.refl _) (.cons (VLe.refl _) (.cons (VLe.refl _) (.nil))))) (viterbi_enter f hf (by omega) hx.1) (ldPA ag.Rat rfl rfl (vs := [_,_,_]) rfl (nb9 rfl) (clv rfl .rq2 (rational_MulQ (by omega) (by omega)) ?_))
  rw [show entQ h fr i (symX w a) * rest.getD i 0 = viaQ h fr (symX w a) rest i from rfl]
  refine al z.Rat rfl fun b12 => (sto sz.Rat rfl rfl rfl rfl rfl (nb9 rfl) (cells2 := [_,_,_]) rfl (OL.nil (AW.sg hE rfl (ldPA ag.Rat rfl rfl (vs := [_,_,_]) rfl (nb9 rfl) (ldPA ag.Rat rfl rfl (vs := [_,_,_]) rfl (nb9 rfl) (clv rfl .rq2 (rational_CompareQ (by omega) (by omega)) (c_gtr rfl rfl rfl ?_)))))))
  refine OL.nil (AW.cond rfl (fun hc => ?_) (fun hc => ?_))
  ·have hc : (aheadF h fr (symX w a) rest i).1 < viaQ h fr (symX w a) rest i := cmpQ_gt.1 (of_decide_eq_true hc)
   have hah : aheadF h fr (symX w a) rest (i + 1) = (viaQ h fr (symX w a) rest i, i) := if_pos hc
   refine AW.rg hE rfl (ldPA ag.Rat rfl rfl (vs := [_,_,_]) rfl (nb9 rfl) (mvD rfl (sto sz.Rat rfl rfl rfl rfl rfl (nb9 rfl) (cells2 := [_,_,_]) rfl (asD rfl (OL.nil (AW.rg hE rfl (add_i64 rfl rfl (by omega) ?_)))))))
   refine mvD rfl (OL.nil ?_)
   exact AW.again (x := i) (i + 1) (by omega) ⟨by omega, Knows.app .rq8 (.cons (VLe.refl _) (.cons (VLe.int (by rw [hah])) .nil)), Owns.app (.cons rfl (.cons rfl (.cons rfl .nil))) (.cons (by rw [hah]; rfl) .nil)⟩
  ·have hc : ¬ (aheadF h fr (symX w a) rest i).1 < viaQ h fr (symX w a) rest i := fun e => of_decide_eq_false hc (cmpQ_gt.2 e)
   have hah : aheadF h fr (symX w a) rest (i + 1) = (aheadF h fr (symX w a) rest i) := if_neg hc
   refine AW.skip (AW.rg hE rfl (add_i64 rfl rfl (by omega) (mvD rfl (OL.nil ?_))))
   exact AW.again (x := i) (i + 1) (by omega) ⟨by omega, Knows.app .rq8 (.cons (VLe.refl _) (.cons (VLe.int (by rw [hah])) .nil)), Owns.app (.cons rfl (.cons rfl (.cons rfl .nil))) (.cons (by rw [hah]; rfl) .nil)⟩
 ·try simp only [dx9] at h22
  refine AW.exit (AW.seq ?_)
  obtain rfl : i = h.st := by omega
  exact AW.rg hE rfl (ldPA ag.Rat rfl rfl (vs := [_,_,_]) rfl (nb9 rfl) (mvD rfl (sto sz.Rat rfl rfl rfl rfl rfl (nb9 rfl) (cells2 := [_,_,_]) rfl (asD rfl (OL.nil (AW.ret ⟨⟨_, .cellA rfl rfl ag.Rat (nb9 rfl) (.tmp rfl .nil), _, .cons (.ag (.cons (.le (VLe.refl _)) (.cons (.le (VLe.refl _)) (.cons (.le (VLe.refl _)) .nil)))) (.cons (.le (VLe.refl _)) .nil), rfl⟩, mem2_keep rfl rfl⟩))))))
theorem vit_newTable {h : HM} {B : Nat} {w : List Int} {p : Nat → Nat → Bool} {fp : Nat} {caps : List V} (g : h.Good B) (k : WordOK h w) (hp : ∀ t i, t < w.length → i < h.st → FSpec P fp ([.d (dI t), .d (dI i)] ++ caps) (.d (dB (p t i)))) : FSpec P F.viterbi_newTable [vHM h, .d (ints w), .fn fp caps] (.ref (cellsT h w (colsG h w p w.length))) := by
 have f := g.form
 have n0 := f.st0
 have n1 := f.st1
 have s1 := f.sym1
 have k1 := k.1
 have e3 := f.stop
 refine FSpec.intro fn.viterbi_newTable (by rfl) (by rfl) (nb9 (by rfl)) fun E hE => (AW.sg hE rfl (bxA rfl rfl fun b3 => (asD rfl (OL.nil ?_))))
 refine AW.midK (α := Nat × Nat) [(1, _), (2, _), (3, _), (6, _)] [(3, _)] (fun (b14, b16) => [(7, .ptr 16 b16 0)]) (fun (b14, b16) => [(14, .row b14 w.length T.Rats 1 ((List.replicate w.length []).map dQs)), (16, .box b16 T.table (cellsTO h w 14 b14 w.length))]) (fun (b14, b16) => True) (.cons (knD rfl) (.cons (knF rfl) (.cons (knP rfl) (.cons (knD rfl) .nil)))) (.cons (owB rfl) .nil) ?_ ?_
 ·refine AW.region_tree order_free (by rw [hE]; rfl) (OT.node [0, 1, 2] (os := [_,_,_]) (by kernel_rfl) (by decide) rfl ⟨?_, ?_, ?_, trivial⟩)
  ·refine ldPA ag.Hidden rfl rfl (vs := [_,_,_,_,_,_,_,_,_,_,_]) rfl (nb9 rfl) (OL.nil (OT.node [1, 2] (os := [_,_]) (by kernel_rfl) (by decide) rfl ⟨?_, ?_, trivial⟩))
   ·refine mvD rfl (OL.nil (OT.node [2] (os := [_]) (by kernel_rfl) (by decide) rfl ⟨?_, trivial⟩))
    refine mvD rfl (OL.nil (OT.node [3] (os := [_]) (by kernel_rfl) (by decide) rfl ⟨?_, trivial⟩))
    refine lnL sl.ints rfl rfl (OL.nil (OT.node [4] (os := [_]) (by kernel_rfl) (by decide) rfl ⟨?_, trivial⟩))
    refine mkL dQs [] sl.Ratss z.Rats vcs_mt_rowB rfl rfl (Nat.le_refl _) (by omega) (by omega) rfl fun b14 => (OL.nil (OT.node [5] (os := [_]) (by kernel_rfl) (by decide) rfl ⟨?_, trivial⟩))
    refine bd2 (cs := [_,_,_,_,_,_,_,_,_,_,_,_,_]) z.table pl.table (pvC (by exact evA rfl) (pvC (by exact evD rfl) (pvC (by exact evO rfl) (pvN)))) (by rfl) (OL.nil (OT.node [6] (os := [_]) (by kernel_rfl) (by decide) rfl ⟨?_, trivial⟩))
    refine bxA rfl rfl fun b16 => (OL.nil (OT.node [7] (os := [_]) (by kernel_rfl) (by decide) rfl ⟨?_, trivial⟩))
    exact asP rfl (OL.nil (OT.leaf (by kernel_rfl) (AW.reach (b14, b16) ⟨trivial, Knows.app .rq4 .rq1, Owns.app (.cons rfl .nil) (.cons rfl (.cons rfl .nil))⟩)))
   ·refine mvD rfl (OL.nil (OT.node [1, 3] (os := [_,_]) (by kernel_rfl) (by decide) rfl ⟨?_, ?_, trivial⟩))
    ·refine mvD rfl (OL.nil (OT.node [3] (os := [_]) (by kernel_rfl) (by decide) rfl ⟨?_, trivial⟩))
     refine lnL sl.ints rfl rfl (OL.nil (OT.node [4] (os := [_]) (by kernel_rfl) (by decide) rfl ⟨?_, trivial⟩))
     refine mkL dQs [] sl.Ratss z.Rats vcs_mt_rowB rfl rfl (Nat.le_refl _) (by omega) (by omega) rfl fun b14 => (OL.nil (OT.node [5] (os := [_]) (by kernel_rfl) (by decide) rfl ⟨?_, trivial⟩))
     refine bd2 (cs := [_,_,_,_,_,_,_,_,_,_,_,_,_]) z.table pl.table (pvC (by exact evA rfl) (pvC (by exact evD rfl) (pvC (by exact evO rfl) (pvN)))) (by rfl) (OL.nil (OT.node [6] (os := [_]) (by kernel_rfl) (by decide) rfl ⟨?_, trivial⟩))
     refine bxA rfl rfl fun b16 => (OL.nil (OT.node [7] (os := [_]) (by kernel_rfl) (by decide) rfl ⟨?_, trivial⟩))
     exact asP rfl (OL.nil (OT.leaf (by kernel_rfl) (AW.reach (b14, b16) ⟨trivial, Knows.app .rq4 .rq1, Owns.app (.cons rfl .nil) (.cons rfl (.cons rfl .nil))⟩)))
    ·refine lnL sl.ints rfl rfl (OL.nil (OT.node [1, 4] (os := [_,_]) (by kernel_rfl) (by decide) rfl ⟨?_, ?_, trivial⟩))
     ·refine mvD rfl (OL.nil (OT.node [4] (os := [_]) (by kernel_rfl) (by decide) rfl ⟨?_, trivial⟩))
      refine mkL dQs [] sl.Ratss z.Rats vcs_mt_rowB rfl rfl (Nat.le_refl _) (by omega) (by omega) rfl fun b14 => (OL.nil (OT.node [5] (os := [_]) (by kernel_rfl) (by decide) rfl ⟨?_, trivial⟩))
      refine bd2 (cs := [_,_,_,_,_,_,_,_,_,_,_,_,_]) z.table pl.table (pvC (by exact evA rfl) (pvC (by exact evD rfl) (pvC (by exact evO rfl) (pvN)))) (by rfl) (OL.nil (OT.node [6] (os := [_]) (by kernel_rfl) (by decide) rfl ⟨?_, trivial⟩))
      refine bxA rfl rfl fun b16 => (OL.nil (OT.node [7] (os := [_]) (by kernel_rfl) (by decide) rfl ⟨?_, trivial⟩))
      exact asP rfl (OL.nil (OT.leaf (by kernel_rfl) (AW.reach (b14, b16) ⟨trivial, Knows.app .rq4 .rq1, Owns.app (.cons rfl .nil) (.cons rfl (.cons rfl .nil))⟩)))
     ·refine mkL dQs [] sl.Ratss z.Rats vcs_mt_rowB rfl rfl (Nat.le_refl _) (by omega) (by omega) rfl fun b14 => (OL.nil (OT.node [1] (os := [_]) (by kernel_rfl) (by decide) rfl ⟨?_, trivial⟩))
      refine mvD rfl (OL.nil (OT.node [5] (os := [_]) (by kernel_rfl) (by decide) rfl ⟨?_, trivial⟩))
      refine bd2 (cs := [_,_,_,_,_,_,_,_,_,_,_,_,_]) z.table pl.table (pvC (by exact evA rfl) (pvC (by exact evD rfl) (pvC (by exact evO rfl) (pvN)))) (by rfl) (OL.nil (OT.node [6] (os := [_]) (by kernel_rfl) (by decide) rfl ⟨?_, trivial⟩))
      refine bxA rfl rfl fun b16 => (OL.nil (OT.node [7] (os := [_]) (by kernel_rfl) (by decide) rfl ⟨?_, trivial⟩))
      exact asP rfl (OL.nil (OT.leaf (by kernel_rfl) (AW.reach (b14, b16) ⟨trivial, Knows.app .rq4 .rq1, Owns.app (.cons rfl .nil) (.cons rfl (.cons rfl .nil))⟩)))
  ·refine mvD rfl (OL.nil (OT.node [0, 2] (os := [_,_]) (by kernel_rfl) (by decide) rfl ⟨?_, ?_, trivial⟩))
   ·refine ldPA ag.Hidden rfl rfl (vs := [_,_,_,_,_,_,_,_,_,_,_]) rfl (nb9 rfl) (OL.nil (OT.node [2] (os := [_]) (by kernel_rfl) (by decide) rfl ⟨?_, trivial⟩))
    refine mvD rfl (OL.nil (OT.node [3] (os := [_]) (by kernel_rfl) (by decide) rfl ⟨?_, trivial⟩))
    refine lnL sl.ints rfl rfl (OL.nil (OT.node [4] (os := [_]) (by kernel_rfl) (by decide) rfl ⟨?_, trivial⟩))
    refine mkL dQs [] sl.Ratss z.Rats vcs_mt_rowB rfl rfl (Nat.le_refl _) (by omega) (by omega) rfl fun b14 => (OL.nil (OT.node [5] (os := [_]) (by kernel_rfl) (by decide) rfl ⟨?_, trivial⟩))
    refine bd2 (cs := [_,_,_,_,_,_,_,_,_,_,_,_,_]) z.table pl.table (pvC (by exact evA rfl) (pvC (by exact evD rfl) (pvC (by exact evO rfl) (pvN)))) (by rfl) (OL.nil (OT.node [6] (os := [_]) (by kernel_rfl) (by decide) rfl ⟨?_, trivial⟩))
    refine bxA rfl rfl fun b16 => (OL.nil (OT.node [7] (os := [_]) (by kernel_rfl) (by decide) rfl ⟨?_, trivial⟩))
    exact asP rfl (OL.nil (OT.leaf (by kernel_rfl) (AW.reach (b14, b16) ⟨trivial, Knows.app .rq4 .rq1, Owns.app (.cons rfl .nil) (.cons rfl (.cons rfl .nil))⟩)))
   ·refine mvD rfl (OL.nil (OT.node [0, 3] (os := [_,_]) (by kernel_rfl) (by decide) rfl ⟨?_, ?_, trivial⟩))
    ·refine ldPA ag.Hidden rfl rfl (vs := [_,_,_,_,_,_,_,_,_,_,_]) rfl (nb9 rfl) (OL.nil (OT.node [3] (os := [_]) (by kernel_rfl) (by decide) rfl ⟨?_, trivial⟩))
     refine lnL sl.ints rfl rfl (OL.nil (OT.node [4] (os := [_]) (by kernel_rfl) (by decide) rfl ⟨?_, trivial⟩))
     refine mkL dQs [] sl.Ratss z.Rats vcs_mt_rowB rfl rfl (Nat.le_refl _) (by omega) (by omega) rfl fun b14 => (OL.nil (OT.node [5] (os := [_]) (by kernel_rfl) (by decide) rfl ⟨?_, trivial⟩))
     refine bd2 (cs := [_,_,_,_,_,_,_,_,_,_,_,_,_]) z.table pl.table (pvC (by exact evA rfl) (pvC (by exact evD rfl) (pvC (by exact evO rfl) (pvN)))) (by rfl) (OL.nil (OT.node [6] (os := [_]) (by kernel_rfl) (by decide) rfl ⟨?_, trivial⟩))
     refine bxA rfl rfl fun b16 => (OL.nil (OT.node [7] (os := [_]) (by kernel_rfl) (by decide) rfl ⟨?_, trivial⟩))
     exact asP rfl (OL.nil (OT.leaf (by kernel_rfl) (AW.reach (b14, b16) ⟨trivial, Knows.app .rq4 .rq1, Owns.app (.cons rfl .nil) (.cons rfl (.cons rfl .nil))⟩)))
    ·refine lnL sl.ints rfl rfl (OL.nil (OT.node [0, 4] (os := [_,_]) (by kernel_rfl) (by decide) rfl ⟨?_, ?_, trivial⟩))
     ·refine ldPA ag.Hidden rfl rfl (vs := [_,_,_,_,_,_,_,_,_,_,_]) rfl (nb9 rfl) (OL.nil (OT.node [4] (os := [_]) (by kernel_rfl) (by decide) rfl ⟨?_, trivial⟩))
      refine mkL dQs [] sl.Ratss z.Rats vcs_mt_rowB rfl rfl (Nat.le_refl _) (by omega) (by omega) rfl fun b14 => (OL.nil (OT.node [5] (os := [_]) (by kernel_rfl) (by decide) rfl ⟨?_, trivial⟩))
      refine bd2 (cs := [_,_,_,_,_,_,_,_,_,_,_,_,_]) z.table pl.table (pvC (by exact evA rfl) (pvC (by exact evD rfl) (pvC (by exact evO rfl) (pvN)))) (by rfl) (OL.nil (OT.node [6] (os := [_]) (by kernel_rfl) (by decide) rfl ⟨?_, trivial⟩))
      refine bxA rfl rfl fun b16 => (OL.nil (OT.node [7] (os := [_]) (by kernel_rfl) (by decide) rfl ⟨?_, trivial⟩))
      exact asP rfl (OL.nil (OT.leaf (by kernel_rfl) (AW.reach (b14, b16) ⟨trivial, Knows.app .rq4 .rq1, Owns.app (.cons rfl .nil) (.cons rfl (.cons rfl .nil))⟩)))
     ·refine mkL dQs [] sl.Ratss z.Rats vcs_mt_rowB rfl rfl (Nat.le_refl _) (by omega) (by omega) rfl fun b14 => (OL.nil (OT.node [0] (os := [_]) (by kernel_rfl) (by decide) rfl ⟨?_, trivial⟩))
      refine ldPA ag.Hidden rfl rfl (vs := [_,_,_,_,_,_,_,_,_,_,_]) rfl (nb9 rfl) (OL.nil (OT.node [5] (os := [_]) (by kernel_rfl) (by decide) rfl ⟨?_, trivial⟩))
      refine bd2 (cs := [_,_,_,_,_,_,_,_,_,_,_,_,_]) z.table pl.table (pvC (by exact evA rfl) (pvC (by exact evD rfl) (pvC (by exact evO rfl) (pvN)))) (by rfl) (OL.nil (OT.node [6] (os := [_]) (by kernel_rfl) (by decide) rfl ⟨?_, trivial⟩))
      refine bxA rfl rfl fun b16 => (OL.nil (OT.node [7] (os := [_]) (by kernel_rfl) (by decide) rfl ⟨?_, trivial⟩))
      exact asP rfl (OL.nil (OT.leaf (by kernel_rfl) (AW.reach (b14, b16) ⟨trivial, Knows.app .rq4 .rq1, Owns.app (.cons rfl .nil) (.cons rfl (.cons rfl .nil))⟩)))
  ·refine mvD rfl (OL.nil (OT.node [0, 1, 3] (os := [_,_,_]) (by kernel_rfl) (by decide) rfl ⟨?_, ?_, ?_, trivial⟩))
   ·refine ldPA ag.Hidden rfl rfl (vs := [_,_,_,_,_,_,_,_,_,_,_]) rfl (nb9 rfl) (OL.nil (OT.node [1, 3] (os := [_,_]) (by kernel_rfl) (by decide) rfl ⟨?_, ?_, trivial⟩))
    ·refine mvD rfl (OL.nil (OT.node [3] (os := [_]) (by kernel_rfl) (by decide) rfl ⟨?_, trivial⟩))
     refine lnL sl.ints rfl rfl (OL.nil (OT.node [4] (os := [_]) (by kernel_rfl) (by decide) rfl ⟨?_, trivial⟩))
     refine mkL dQs [] sl.Ratss z.Rats vcs_mt_rowB rfl rfl (Nat.le_refl _) (by omega) (by omega) rfl fun b14 => (OL.nil (OT.node [5] (os := [_]) (by kernel_rfl) (by decide) rfl ⟨?_, trivial⟩))
     refine bd2 (cs := [_,_,_,_,_,_,_,_,_,_,_,_,_]) z.table pl.table (pvC (by exact evA rfl) (pvC (by exact evD rfl) (pvC (by exact evO rfl) (pvN)))) (by rfl) (OL.nil (OT.node [6] (os := [_]) (by kernel_rfl) (by decide) rfl ⟨?_, trivial⟩))
     refine bxA rfl rfl fun b16 => (OL.nil (OT.node [7] (os := [_]) (by kernel_rfl) (by decide) rfl ⟨?_, trivial⟩))
     exact asP rfl (OL.nil (OT.leaf (by kernel_rfl) (AW.reach (b14, b16) ⟨trivial, Knows.app .rq4 .rq1, Owns.app (.cons rfl .nil) (.cons rfl (.cons rfl .nil))⟩)))
    ·refine lnL sl.ints rfl rfl (OL.nil (OT.node [1, 4] (os := [_,_]) (by kernel_rfl) (by decide) rfl ⟨?_, ?_, trivial⟩))
     ·refine mvD rfl (OL.nil (OT.node [4] (os := [_]) (by kernel_rfl) (by decide) rfl ⟨?_, trivial⟩))
      refine mkL dQs [] sl.Ratss z.Rats vcs_mt_rowB rfl rfl (Nat.le_refl _) (by omega) (by omega) rfl fun b14 => (OL.nil (OT.node [5] (os := [_]) (by kernel_rfl) (by decide) rfl ⟨?_, trivial⟩))
      refine bd2 (cs := [_,_,_,_,_,_,_,_,_,_,_,_,_]) z.table pl.table (pvC (by exact evA rfl) (pvC (by exact evD rfl) (pvC (by exact evO rfl) (pvN)))) (by rfl) (OL.nil (OT.node [6] (os := [_]) (by kernel_rfl) (by decide) rfl ⟨?_, trivial⟩))
      refine bxA rfl rfl fun b16 => (OL.nil (OT.node [7] (os := [_]) (by kernel_rfl) (by decide) rfl ⟨?_, trivial⟩))
      exact asP rfl (OL.nil (OT.leaf (by kernel_rfl) (AW.reach (b14, b16) ⟨trivial, Knows.app .rq4 .rq1, Owns.app (.cons rfl .nil) (.cons rfl (.cons rfl .nil))⟩)))
     ·refine mkL dQs [] sl.Ratss z.Rats vcs_mt_rowB rfl rfl (Nat.le_refl _) (by omega) (by omega) rfl fun b14 => (OL.nil (OT.node [1] (os := [_]) (by kernel_rfl) (by decide) rfl ⟨?_, trivial⟩))
      refine mvD rfl (OL.nil (OT.node [5] (os := [_]) (by kernel_rfl) (by decide) rfl ⟨?_, trivial⟩))
      refine bd2 (cs := [_,_,_,_,_,_,_,_,_,_,_,_,_]) z.table pl.table (pvC (by exact evA rfl) (pvC (by exact evD rfl) (pvC (by exact evO rfl) (pvN)))) (by rfl) (OL.nil (OT.node [6] (os := [_]) (by kernel_rfl) (by decide) rfl ⟨?_, trivial⟩))
      refine bxA rfl rfl fun b16 => (OL.nil (OT.node [7] (os := [_]) (by kernel_rfl) (by decide) rfl ⟨?_, trivial⟩))
      exact asP rfl (OL.nil (OT.leaf (by kernel_rfl) (AW.reach (b14, b16) ⟨trivial, Knows.app .rq4 .rq1, Owns.app (.cons rfl .nil) (.cons rfl (.cons rfl .nil))⟩)))
   ·refine mvD rfl (OL.nil (OT.node [0, 3] (os := [_,_]) (by kernel_rfl) (by decide) rfl ⟨?_, ?_, trivial⟩))
    ·refine ldPA ag.Hidden rfl rfl (vs := [_,_,_,_,_,_,_,_,_,_,_]) rfl (nb9 rfl) (OL.nil (OT.node [3] (os := [_]) (by kernel_rfl) (by decide) rfl ⟨?_, trivial⟩))
     refine lnL sl.ints rfl rfl (OL.nil (OT.node [4] (os := [_]) (by kernel_rfl) (by decide) rfl ⟨?_, trivial⟩))
     refine mkL dQs [] sl.Ratss z.Rats vcs_mt_rowB rfl rfl (Nat.le_refl _) (by omega) (by omega) rfl fun b14 => (OL.nil (OT.node [5] (os := [_]) (by kernel_rfl) (by decide) rfl ⟨?_, trivial⟩))
     refine bd2 (cs := [_,_,_,_,_,_,_,_,_,_,_,_,_]) z.table pl.table (pvC (by exact evA rfl) (pvC (by exact evD rfl) (pvC (by exact evO rfl) (pvN)))) (by rfl) (OL.nil (OT.node [6] (os := [_]) (by kernel_rfl) (by decide) rfl ⟨?_, trivial⟩))
     refine bxA rfl rfl fun b16 => (OL.nil (OT.node [7] (os := [_]) (by kernel_rfl) (by decide) rfl ⟨?_, trivial⟩))
     exact asP rfl (OL.nil (OT.leaf (by kernel_rfl) (AW.reach (b14, b16) ⟨trivial, Knows.app .rq4 .rq1, Owns.app (.cons rfl .nil) (.cons rfl (.cons rfl .nil))⟩)))
    ·refine lnL sl.ints rfl rfl (OL.nil (OT.node [0, 4] (os := [_,_]) (by kernel_rfl) (by decide) rfl ⟨?_, ?_, trivial⟩))
     ·refine ldPA ag.Hidden rfl rfl (vs := [_,_,_,_,_,_,_,_,_,_,_]) rfl (nb9 rfl) (OL.nil (OT.node [4] (os := [_]) (by kernel_rfl) (by decide) rfl ⟨?_, trivial⟩))
      refine mkL dQs [] sl.Ratss z.Rats vcs_mt_rowB rfl rfl (Nat.le_refl _) (by omega) (by omega) rfl fun b14 => (OL.nil (OT.node [5] (os := [_]) (by kernel_rfl) (by decide) rfl ⟨?_, trivial⟩))
      refine bd2 (cs := [_,_,_,_,_,_,_,_,_,_,_,_,_]) z.table pl.table (pvC (by exact evA rfl) (pvC (by exact evD rfl) (pvC (by exact evO rfl) (pvN)))) (by rfl) (OL.nil (OT.node [6] (os := [_]) (by kernel_rfl) (by decide) rfl ⟨?_, trivial⟩))
      refine bxA rfl rfl fun b16 => (OL.nil (OT.node [7] (os := [_]) (by kernel_rfl) (by decide) rfl ⟨?_, trivial⟩))
      exact asP rfl (OL.nil (OT.leaf (by kernel_rfl) (AW.reach (b14, b16) ⟨trivial, Knows.app .rq4 .rq1, Owns.app (.cons rfl .nil) (.cons rfl (.cons rfl .nil))⟩)))
     ·refine mkL dQs [] sl.Ratss z.Rats vcs_mt_rowB rfl rfl (Nat.le_refl _) (by omega) (by omega) rfl fun b14 => (OL.nil (OT.node [0] (os := [_]) (by kernel_rfl) (by decide) rfl ⟨?_, trivial⟩))
      refine ldPA ag.Hidden rfl rfl (vs := [_,_,_,_,_,_,_,_,_,_,_]) rfl (nb9 rfl) (OL.nil (OT.node [5] (os := [_]) (by kernel_rfl) (by decide) rfl ⟨?_, trivial⟩))
      refine bd2 (cs := [_,_,_,_,_,_,_,_,_,_,_,_,_]) z.table pl.table (pvC (by exact evA rfl) (pvC (by exact evD rfl) (pvC (by exact evO rfl) (pvN)))) (by rfl) (OL.nil (OT.node [6] (os := [_]) (by kernel_rfl) (by decide) rfl ⟨?_, trivial⟩))
      refine bxA rfl rfl fun b16 => (OL.nil (OT.node [7] (os := [_]) (by kernel_rfl) (by decide) rfl ⟨?_, trivial⟩))
      exact asP rfl (OL.nil (OT.leaf (by kernel_rfl) (AW.reach (b14, b16) ⟨trivial, Knows.app .rq4 .rq1, Owns.app (.cons rfl .nil) (.cons rfl (.cons rfl .nil))⟩)))
   ·refine lnL sl.ints rfl rfl (OL.nil (OT.node [0, 1, 4] (os := [_,_,_]) (by kernel_rfl) (by decide) rfl ⟨?_, ?_, ?_, trivial⟩))
    ·refine ldPA ag.Hidden rfl rfl (vs := [_,_,_,_,_,_,_,_,_,_,_]) rfl (nb9 rfl) (OL.nil (OT.node [1, 4] (os := [_,_]) (by kernel_rfl) (by decide) rfl ⟨?_, ?_, trivial⟩))
     ·refine mvD rfl (OL.nil (OT.node [4] (os := [_]) (by kernel_rfl) (by decide) rfl ⟨?_, trivial⟩))
      refine mkL dQs [] sl.Ratss z.Rats vcs_mt_rowB rfl rfl (Nat.le_refl _) (by omega) (by omega) rfl fun b14 => (OL.nil (OT.node [5] (os := [_]) (by kernel_rfl) (by decide) rfl ⟨?_, trivial⟩))
      refine bd2 (cs := [_,_,_,_,_,_,_,_,_,_,_,_,_]) z.table pl.table (pvC (by exact evA rfl) (pvC (by exact evD rfl) (pvC (by exact evO rfl) (pvN)))) (by rfl) (OL.nil (OT.node [6] (os := [_]) (by kernel_rfl) (by decide) rfl ⟨?_, trivial⟩))
      refine bxA rfl rfl fun b16 => (OL.nil (OT.node [7] (os := [_]) (by kernel_rfl) (by decide) rfl ⟨?_, trivial⟩))
      exact asP rfl (OL.nil (OT.leaf (by kernel_rfl) (AW.reach (b14, b16) ⟨trivial, Knows.app .rq4 .rq1, Owns.app (.cons rfl .nil) (.cons rfl (.cons rfl .nil))⟩)))
     ·refine mkL dQs [] sl.Ratss z.Rats vcs_mt_rowB rfl rfl (Nat.le_refl _) (by omega) (by omega) rfl fun b14 => (OL.nil (OT.node [1] (os := [_]) (by kernel_rfl) (by decide) rfl ⟨?_, trivial⟩))
      refine mvD rfl (OL.nil (OT.node [5] (os := [_]) (by kernel_rfl) (by decide) rfl ⟨?_, trivial⟩))
      refine bd2 (cs := [_,_,_,_,_,_,_,_,_,_,_,_,_]) z.table pl.table (pvC (by exact evA rfl) (pvC (by exact evD rfl) (pvC (by exact evO rfl) (pvN)))) (by rfl) (OL.nil (OT.node [6] (os := [_]) (by kernel_rfl) (by decide) rfl ⟨?_, trivial⟩))
      refine bxA rfl rfl fun b16 => (OL.nil (OT.node [7] (os := [_]) (by kernel_rfl) (by decide) rfl ⟨?_, trivial⟩))
      exact asP rfl (OL.nil (OT.leaf (by kernel_rfl) (AW.reach (b14, b16) ⟨trivial, Knows.app .rq4 .rq1, Owns.app (.cons rfl .nil) (.cons rfl (.cons rfl .nil))⟩)))
    ·refine mvD rfl (OL.nil (OT.node [0, 4] (os := [_,_]) (by kernel_rfl) (by decide) rfl ⟨?_, ?_, trivial⟩))
     ·refine ldPA ag.Hidden rfl rfl (vs := [_,_,_,_,_,_,_,_,_,_,_]) rfl (nb9 rfl) (OL.nil (OT.node [4] (os := [_]) (by kernel_rfl) (by decide) rfl ⟨?_, trivial⟩))
      refine mkL dQs [] sl.Ratss z.Rats vcs_mt_rowB rfl rfl (Nat.le_refl _) (by omega) (by omega) rfl fun b14 => (OL.nil (OT.node [5] (os := [_]) (by kernel_rfl) (by decide) rfl ⟨?_, trivial⟩))
      refine bd2 (cs := [_,_,_,_,_,_,_,_,_,_,_,_,_]) z.table pl.table (pvC (by exact evA rfl) (pvC (by exact evD rfl) (pvC (by exact evO rfl) (pvN)))) (by rfl) (OL.nil (OT.node [6] (os := [_]) (by kernel_rfl) (by decide) rfl ⟨?_, trivial⟩))
      refine bxA rfl rfl fun b16 => (OL.nil (OT.node [7] (os := [_]) (by kernel_rfl) (by decide) rfl ⟨?_, trivial⟩))
      exact asP rfl (OL.nil (OT.leaf (by kernel_rfl) (AW.reach (b14, b16) ⟨trivial, Knows.app .rq4 .rq1, Owns.app (.cons rfl .nil) (.cons rfl (.cons rfl .nil))⟩)))
     ·refine mkL dQs [] sl.Ratss z.Rats vcs_mt_rowB rfl rfl (Nat.le_refl _) (by omega) (by omega) rfl fun b14 => (OL.nil (OT.node [0] (os := [_]) (by kernel_rfl) (by decide) rfl ⟨?_, trivial⟩))
      refine ldPA ag.Hidden rfl rfl (vs := [_,_,_,_,_,_,_,_,_,_,_]) rfl (nb9 rfl) (OL.nil (OT.node [5] (os := [_]) (by kernel_rfl) (by decide) rfl ⟨?_, trivial⟩))
      refine bd2 (cs := [_,_,_,_,_,_,_,_,_,_,_,_,_]) z.table pl.table (pvC (by exact evA rfl) (pvC (by exact evD rfl) (pvC (by exact evO rfl) (pvN)))) (by rfl) (OL.nil (OT.node [6] (os := [_]) (by kernel_rfl) (by decide) rfl ⟨?_, trivial⟩))
      refine bxA rfl rfl fun b16 => (OL.nil (OT.node [7] (os := [_]) (by kernel_rfl) (by decide) rfl ⟨?_, trivial⟩))
      exact asP rfl (OL.nil (OT.leaf (by kernel_rfl) (AW.reach (b14, b16) ⟨trivial, Knows.app .rq4 .rq1, Owns.app (.cons rfl .nil) (.cons rfl (.cons rfl .nil))⟩)))
    ·refine mkL dQs [] sl.Ratss z.Rats vcs_mt_rowB rfl rfl (Nat.le_refl _) (by omega) (by omega) rfl fun b14 => (OL.nil (OT.node [0, 1] (os := [_,_]) (by kernel_rfl) (by decide) rfl ⟨?_, ?_, trivial⟩))
     ·refine ldPA ag.Hidden rfl rfl (vs := [_,_,_,_,_,_,_,_,_,_,_]) rfl (nb9 rfl) (OL.nil (OT.node [1] (os := [_]) (by kernel_rfl) (by decide) rfl ⟨?_, trivial⟩))
      refine mvD rfl (OL.nil (OT.node [5] (os := [_]) (by kernel_rfl) (by decide) rfl ⟨?_, trivial⟩))
      refine bd2 (cs := [_,_,_,_,_,_,_,_,_,_,_,_,_]) z.table pl.table (pvC (by exact evA rfl) (pvC (by exact evD rfl) (pvC (by exact evO rfl) (pvN)))) (by rfl) (OL.nil (OT.node [6] (os := [_]) (by kernel_rfl) (by decide) rfl ⟨?_, trivial⟩))
      refine bxA rfl rfl fun b16 => (OL.nil (OT.node [7] (os := [_]) (by kernel_rfl) (by decide) rfl ⟨?_, trivial⟩))
      exact asP rfl (OL.nil (OT.leaf (by kernel_rfl) (AW.reach (b14, b16) ⟨trivial, Knows.app .rq4 .rq1, Owns.app (.cons rfl .nil) (.cons rfl (.cons rfl .nil))⟩)))
     ·refine mvD rfl (OL.nil (OT.node [0] (os := [_]) (by kernel_rfl) (by decide) rfl ⟨?_, trivial⟩))
      refine ldPA ag.Hidden rfl rfl (vs := [_,_,_,_,_,_,_,_,_,_,_]) rfl (nb9 rfl) (OL.nil (OT.node [5] (os := [_]) (by kernel_rfl) (by decide) rfl ⟨?_, trivial⟩))
      refine bd2 (cs := [_,_,_,_,_,_,_,_,_,_,_,_,_]) z.table pl.table (pvC (by exact evA rfl) (pvC (by exact evD rfl) (pvC (by exact evO rfl) (pvN)))) (by rfl) (OL.nil (OT.node [6] (os := [_]) (by kernel_rfl) (by decide) rfl ⟨?_, trivial⟩))
      refine bxA rfl rfl fun b16 => (OL.nil (OT.node [7] (os := [_]) (by kernel_rfl) (by decide) rfl ⟨?_, trivial⟩))
      exact asP rfl (OL.nil (OT.leaf (by kernel_rfl) (AW.reach (b14, b16) ⟨trivial, Knows.app .rq4 .rq1, Owns.app (.cons rfl .nil) (.cons rfl (.cons rfl .nil))⟩)))
 rintro ⟨b14, b16⟩ _
 refine AW.seq (AW.sg hE rfl (mvD rfl (lnL sl.ints rfl rfl (sub_i64 rfl rfl (by omega) (asD rfl (OL.nil (AW.block ?_)))))))
 refine AW.whileK (α := Nat) [(1, _), (2, _), (3, _), (6, _), (7, _)] [(3, _)] (fun d => [(8, .d (dI ((w.length : Int) - 1 - d)))]) (fun d => [(14, .row b14 w.length T.Rats 1 ((colsG h w p (d)).map dQs)), (16, .box b16 T.table (cellsTO h w 14 b14 w.length))]) (fun d => d ≤ w.length) (fun d => w.length - d) 0 (.cons (knD rfl) (.cons (knF rfl) (.cons (knP rfl) (.cons (knD rfl) (.cons (knP rfl) .nil))))) (.cons (owB rfl) .nil) ⟨Nat.zero_le _, .cons (VLe.int (by omega)) .nil, .cons (by rw [colsG_zero]; rfl) (.cons rfl .nil)⟩ ?_
 intro d h1
 have h1 : d ≤ w.length := h1
 have hcl := colsG_len h w p d
 refine AW.seq (AW.sg hE rfl (mvD rfl (c_geq rfl rfl rfl (OL.nil (AW.cond rfl (fun h21 => ?_) (fun h21 => ?_))))))
 ·try simp only [dx9] at h21
  refine AW.skip (AW.seq (AW.block (AW.seq ?_)))
  obtain ⟨a, ha⟩ : ∃ a, a = w.length - 1 - d := ⟨_, rfl⟩
  have hzr := restG_szB f w p (d := d) (by omega)
  have hzp := restG_szB f w p (d := d - 1) (by omega)
  refine AW.dg 66 [0,1,2,3,4,5,6,7,8,9] order_free hE rfl (by kernel_rfl) (OI.of_OL (os := [_,_,_,_,_,_,_,_,_,_]) rfl ?_)
  refine mvP rfl (ncP rfl (faP fd.table_2 rfl rfl (ldPC ce.Ratss rfl rfl rfl (mvD rfl (faP fd.Hidden_1 rfl rfl (ldPC ce.int rfl rfl rfl (mkLd dQ 0 sl.Rats z.Rat vcs_q0 rfl rfl (Nat.le_refl _) (by omega) (by omega) rfl rfl fun b31 => ?_)))))))
  refine ixO sl.Ratss rfl rfl (by omega) (by omega) (i := a) (by omega) (stE sz.Rats rfl (vd_head (by omega)) rfl rfl (by rw [List.length_map]; omega) (es2 := ((colsG h w p (d)).map dQs).set a (hdC b31 h.st h.st)) rfl (OL.nil (AW.sg hE rfl (faP fd.Hidden_1 rfl rfl (ldPC ce.int rfl rfl rfl (mvD rfl (OL.nil ?_)))))))
  refine AW.block ?_
  refine AW.whileK (α := Nat) [(1, _), (2, _), (3, _), (6, _), (7, _), (8, _), (34, _)] [(3, _), (14, _)] (fun i => [(35, .d (dI i))]) (fun i => [(31, .row b31 h.st T.Rat 3 ((fillF 0 (fun j => (restG h w p d).getD j 0) h.st i).map dQ)), (16, .box b16 T.table (cellsTO h w 14 b14 w.length))]) (fun i => i ≤ h.st) (fun i => h.st - i) 0 (.cons (knD rfl) (.cons (knF rfl) (.cons (knP rfl) (.cons (knD rfl) (.cons (knP rfl) (.cons (knD rfl) (.cons (knD rfl) .nil))))))) (.cons (owB rfl) (.cons (owR rfl) .nil)) ⟨Nat.zero_le _, .rq1, .cons (by rw [fillF_zero]; rfl) (.cons rfl .nil)⟩ ?_
  intro i h2
  have h2 : i ≤ h.st := h2
  have hfl := fillF_len 0 (fun j => (restG h w p d).getD j 0) h.st i
  have hel : (((colsG h w p (d)).map dQs).set a (hdC b31 h.st h.st))[a]? = some (hdC b31 h.st h.st) := by rw [List.getElem?_set_self (by rw [List.length_map]; omega)]
  refine AW.sg hE rfl (c_lss rfl rfl rfl (OL.nil (AW.seq (AW.cond rfl (fun h36 => ?_) (fun h36 => ?_)))))
  ·try simp only [dx9] at h36
   refine AW.skip ?_
   refine AW.midK (α := Unit) [(1, _), (2, _), (3, _), (6, _), (7, _), (8, _), (34, _), (35, _)] [(3, _), (14, _)] (fun _u => []) (fun _u => [(31, .row b31 h.st T.Rat 3 ((fillF 0 (fun j => (restG h w p d).getD j 0) h.st (i + 1)).map dQ)), (16, .box b16 T.table (cellsTO h w 14 b14 w.length))]) (fun _u => True) (.cons (knD rfl) (.cons (knF rfl) (.cons (knP rfl) (.cons (knD rfl) (.cons (knP rfl) (.cons (knD rfl) (.cons (knD rfl) (.cons (knD rfl) .nil)))))))) (.cons (owB rfl) (.cons (owR rfl) .nil)) ?_ ?_
   ·refine AW.block (AW.sg hE rfl (mvD rfl (asD rfl (OL.nil (AW.block (AW.seq ?_))))))
    have hpa := hp a i (by omega) (by omega)
    rw [show ((a : Nat) : Int) = (w.length : Int) - 1 - d by omega] at hpa
    refine AW.rg hE rfl (mvF rfl (mvD rfl (mvD rfl (clv rfl (.cons (VLe.refl _) (.cons (VLe.refl _) (VLes.refl _))) hpa (nt rfl (asD rfl (OL.nil ?_)))))))
    refine AW.cond rfl (fun hc => ?_) (fun hc => ?_)
    ·have hc : p a i = false := by simpa using hc
     have hno := restG_no (show i < h.st by omega) ha hc
     refine AW.skip ?_
     exact AW.reach () ⟨trivial, Knows.app .rq8 (.nil), Owns.app (.cons rfl (.cons rfl .nil)) (.cons (by rw [fillF_skip hno]; rfl) (.cons rfl .nil))⟩
    ·have hc : p a i = true := by simpa using hc
     refine AW.sg hE rfl (mvD rfl (mvD rfl (lnL sl.ints rfl rfl (sub_i64 rfl rfl (by omega) (c_eql rfl rfl rfl (asD rfl (OL.nil ?_)))))))
     refine AW.cond rfl (fun hd => ?_) (fun hd => ?_)
     ·have hd : d = 0 := by have := of_decide_eq_true hd; omega
      have hst := restG_stop (show i < h.st by omega) ha hd hc
      refine AW.dg 1 [0,1,2,3,4,5,6,7,8,9,10,11,12,13,14] order_free hE rfl (by kernel_rfl) (OI.of_OL (os := [_,_,_,_,_,_,_,_,_,_,_,_,_,_,_]) rfl ?_)
      refine mvP rfl (ncP rfl (faP fd.table_2 rfl rfl (ldPC ce.Ratss rfl rfl rfl (mvD rfl (ixO sl.Ratss rfl rfl (by omega) (by omega) (i := a) (by omega) (ldLe (.rowC (by decide) rfl rfl hel ce.Rats rfl) (vle_head 31 (Nat.le_refl _)) (mvD rfl ?_)))))))
      refine faP fd.Hidden_5 rfl rfl (ldPC ce.Rats rfl rfl rfl (mvD rfl (ixLn sl.Rats 0 rfl rfl (by omega) rfl rfl (ldRA ag.Rat rfl (vs := [_,_,_]) rfl (nb9 rfl) (ixOn sl.Rats rfl rfl (by omega) (stE sz.Rat rfl vd_q rfl rfl (by rw [List.length_map]; omega) (es2 := (fillF 0 (fun j => (restG h w p d).getD j 0) h.st (i + 1)).map dQ) (by rw [← fillF_set (show i < h.st by omega), List.map_set, hst]) (OL.nil ?_)))))))
      exact AW.reach () ⟨trivial, Knows.app .rq8 (.nil), Owns.app (.cons rfl (.cons rfl .nil)) (.cons rfl (.cons rfl .nil))⟩
     ·have hd : 0 < d := by have := of_decide_eq_false hd; omega
      have hmo := restG_more (show i < h.st by omega) ha hd (by omega) hc
      have hrest : (restG h w p (d - 1)).length = h.st := restG_len h w p (d - 1)
      have hel1 : (((colsG h w p (d)).map dQs).set a (hdC b31 h.st h.st))[a + 1]? = some (dQs (restG h w p (d - 1))) := by
       rw [List.getElem?_set_ne (by omega), List.getElem?_map, List.getElem?_eq_getElem (by rw [hcl]; omega)]
       have := colsG_get (h := h) (p := p) (d := d) (show a + 1 < w.length by omega) (by omega)
       rw [getD_lt (by rw [hcl]; omega)] at this
       rw [this, show w.length - 1 - (a + 1) = d - 1 by omega]; rfl
      have hb := (vit_bestM (fr := ((i : Nat) : Int)) f k (show a + 1 < w.length by omega) ⟨by omega, by omega⟩ hrest hzp (b1 := b16) (b2 := b14) (n := w.length) (by omega) hel1)
      rw [show (aheadF h ((i : Nat) : Int) (symX w (a + 1)) (restG h w p (d - 1)) h.st) = ahdG h w p (i : Nat) (a + 1) by rw [ahdG, show w.length - 1 - (a + 1) = d - 1 by omega], ← hmo] at hb
      refine AW.dg 1000051 [0,1,2,3,4,5,6,7,8,9,10,11,12,13,14,15,16,17] order_free hE rfl (by kernel_rfl) (OI.of_OL (os := [_,_,_,_,_,_,_,_,_,_,_,_,_,_,_,_,_,_]) rfl ?_)
      refine mvP rfl (ncP rfl (faP fd.table_2 rfl rfl (ldPC ce.Ratss rfl rfl rfl (mvD rfl (ixO sl.Ratss rfl rfl (by omega) (by omega) (i := a) (by omega) (ldLe (.rowC (by decide) rfl rfl hel ce.Rats rfl) (vle_head 31 (Nat.le_refl _)) (mvD rfl ?_)))))))
      refine mvP rfl (mvD rfl (bo rfl rfl (bin_add (c := ((a + 1 : Nat) : Int)) (by omega) (wrap_i64 (by omega))) (mvD rfl (clC rfl .rq3 hb (mem2_keep rfl rfl) (by rfl) (mvT rfl (ex rfl rfl (ex rfl rfl ?_)))))))
      refine ixOn sl.Rats rfl rfl (by omega) (stE sz.Rat rfl vd_q rfl rfl (by rw [List.length_map]; omega) (es2 := (fillF 0 (fun j => (restG h w p d).getD j 0) h.st (i + 1)).map dQ) (by rw [← fillF_set (show i < h.st by omega), List.map_set]) (OL.nil ?_))
      exact AW.reach () ⟨trivial, Knows.app .rq8 (.nil), Owns.app (.cons rfl (.cons rfl .nil)) (.cons rfl (.cons rfl .nil))⟩
   rintro ⟨⟩ hφ
   refine AW.rg hE rfl (add_i64 rfl rfl (by omega) (mvD rfl (OL.nil ?_)))
   exact AW.again (x := i) (i + 1) (by omega) ⟨by omega, Knows.app .rq7 .rq1, Owns.app (.cons rfl (.cons rfl .nil)) (.cons rfl (.cons rfl .nil))⟩
  ·try simp only [dx9] at h36
   refine AW.exit ?_
   obtain rfl : i = h.st := by omega
   refine AW.freezeIn 31 14 a rfl rfl hel (by rw [List.length_map]; omega) (by decide) (AW.to [(1, .d (ints w)), (2, .fn fp caps), (3, .ptr 3 b3 0), (6, .d (.sc (.pointer none))), (7, .ptr 16 b16 0), (8, .d (dI ((w.length : Int) - 1 - d)))] [(3, .box b3 T.Hidden (cellsHM h)), (14, .row b14 w.length T.Rats 1 ((colsG h w p (d + 1)).map dQs)), (16, .box b16 T.table (cellsTO h w 14 b14 w.length))] .rq6 (.cons rfl (.cons (frz_outer (by omega) ha hfl) (.cons rfl .nil))) ?_)
   exact AW.rg hE rfl (mvD rfl (sub_i64 rfl rfl (by omega) (asD rfl (OL.nil (AW.again (x := d) (d + 1) (by omega) ⟨by omega, Knows.app .rq5 (.cons (VLe.int (by omega)) .nil), Owns.app (.cons rfl .nil) (.cons rfl (.cons rfl .nil))⟩)))))
 ·try simp only [dx9] at h21
  refine AW.exit (AW.seq ?_)
  obtain rfl : d = w.length := by omega
  refine AW.freeze 14 rfl (AW.to [(7, .ptr 16 b16 0)] [(16, .box b16 T.table ((cellsT h w (colsG h w p w.length)).map .d))] .rq1 (.cons (congrArg (fun z => some (Blk.box b16 T.table z)) (frz_table hcl)) .nil) ?_)
  refine AW.freezeBox 16 (cellsT h w (colsG h w p w.length)) rfl (VCs.map_d _) (AW.to [(7, .ref (cellsT h w (colsG h w p w.length)))] [] (.cons (vle_of_eq (show V.frb 16 b16 (cellsT h w (colsG h w p w.length)) (.ptr 16 b16 0) = .ref (cellsT h w (colsG h w p w.length)) from frb_self)) .nil) .nil ?_)
  exact AW.rg hE rfl (mvR rfl (asR rfl (OL.nil (AW.ret (RetQ.r ⟨_, .tmp rfl .nil, .le (VLe.refl _)⟩)))))
end Go.Proofs.YtonndaibggjmjaaGreat

/-
  Walks: the law ViterbiIsExhaustive (printed by mk2.py).
-/
import Derived.Test.YtonndaibggjmjaaGreatKLsE
import Derived.Test.YtonndaibggjmjaaGreatKMod66
set_option linter.unusedVariables false
set_option linter.unusedSimpArgs false
namespace Go.Proofs.YtonndaibggjmjaaGreat
open Go Go.AL
abbrev wayE (h : HM) (w c : List Int) : Rat × List Int := (jointE h w c, c)
abbrev wayD (h : HM) (w c : List Int) : D := dWay (wayE h w c)
theorem way_el {h : HM} {w : List Int} {Ls : List (List Int)} {i : Nat} (hi : i < Ls.length) : (Ls.map (wayD h w))[i]? = some (wayD h w (Ls.getD i [])) := by rw [List.getElem?_map, List.getD_eq_getElem?_getD, List.getElem?_eq_getElem hi]; rfl
theorem way_len {h : HM} {w : List Int} {Ls : List (List Int)} : ∀ y, y ∈ Ls.map (wayD h w) → y.cells.length = 4 := fun y hy => by obtain ⟨a, _, rfl⟩ := List.mem_map.1 hy; rfl
theorem ins_map {h : HM} {w : List Int} {Ls : List (List Int)} {n : Nat} {c : List Int} : (Ls.map (wayD h w)).take n ++ (wayD h w c :: (Ls.map (wayD h w)).drop n) = (insL Ls n c).map (wayD h w) := by
 unfold insL
 rw [List.map_append, List.map_cons, List.map_take, List.map_drop]
theorem drop_all {α : Type} {l : List α} {n m : Nat} (h : l.length ≤ n + m) : (l.drop n).take m = l.drop n := List.take_of_length_le (by rw [List.length_drop]; omega)
instance (b : List Int → Rat) (x y : List Int) : Decidable (bfQ b x y) := by unfold bfQ; infer_instance
theorem want_len {h : HM} {w : List Int} {i j : Nat} {Ls : List (List Int)} (k : Want h w i Ls) (hj : j < Ls.length) : (Ls.getD j []).length = w.length := (pathsF_mem (List.mem_of_mem_take ((k.all _).1 (getD_mem hj [])).1)).1
theorem bef_iff {h : HM} {w a b : List Int} (hl : a.length = b.length) : befW (wayE h w a) (wayE h w b) = decide (bfQ (jointE h w) a b) := by
 unfold befW bfQ
 rw [cmpS_same hl]
theorem vc_toF {x y : V} {d : D} (h : x = y) (hd : VC y d) : VC x d := h ▸ hd
def ownW17 : Nat → Option Nat
 | 79 => some 0
 | 80 => some 1
 | 81 => some 2
 | 82 => some 3
 | 83 => some 4
 | 84 => some 5
 | 85 => some 6
 | 86 => some 7
 | 87 => some 8
 | 88 => some 9
 | _ => none
theorem ownW17_inj {t i : Nat} (h : ownW17 t = some i) : t = [79, 80, 81, 82, 83, 84, 85, 86, 87, 88].getD i 0 := by
 unfold ownW17 at h
 split at h <;> first | (cases h; rfl) | cases h
noncomputable def valW17 (q c m n : Nat) (x : Rat × List Int) (es : List D) (t : Nat) (β : Nat → Nat × Nat) : V :=
 match t with
 | 79 | 84 => .osl 88 q m c
 | 80 | 85 => .d (dI n)
 | 81 => .osl 88 q n c
 | 82 => vWay x
 | 83 => .osl 83 (β 83).1 1 1
 | 86 => .osb 88 q 4 n (m - n) (c - n)
 | 87 => .d (.sl (dWay x :: es.drop n))
 | 88 => .osl 88 (β 88).1 (m + 1) (β 88).2
 | _ => .junk
noncomputable abbrev telW17 (q c m n : Nat) (x : Rat × List Int) (es : List D) : List Tell := [⟨88, 9, fun β => .row (β 88).1 (β 88).2 T.Way 4 (es.take n ++ (dWay x :: es.drop n))⟩, ⟨83, 8, fun β => deadBlk⟩, ⟨83, 4, fun β => .row (β 83).1 1 T.Way 4 [dWay x]⟩]
theorem casW17 {p : Nat → Prop} (h0 : p 0) (h1 : p 1) (h2 : p 2) (h3 : p 3) (h4 : p 4) (h5 : p 5) (h6 : p 6) (h7 : p 7) (h8 : p 8) (h9 : p 9) : ∀ i, i < 10 → p i := fun i hi => by
 have : i = 0 ∨ i = 1 ∨ i = 2 ∨ i = 3 ∨ i = 4 ∨ i = 5 ∨ i = 6 ∨ i = 7 ∨ i = 8 ∨ i = 9 := by omega
 rcases this with rfl | rfl | rfl | rfl | rfl | rfl | rfl | rfl | rfl | rfl <;> assumption
set_option maxRecDepth 8000 in
set_option maxHeartbeats 6400000 in
theorem law_ViterbiIsExhaustive {L l : List Int} {cs cy kk : Int} (nL : L.length ≤ 9223372036854775807) : FSpec P F.law35_ViterbiIsExhaustive [.ag [.d (dI cs), .d (dI cy), .d (ints L)], .d (ints l), .d (dI kk)] (.d (dB true)) := by
 obtain ⟨h, hh⟩ : ∃ h, h = chainHM L cs cy 3 := ⟨_, rfl⟩
 have hg : h.Good 1 := by rw [hh]; exact chainHM_good L cs cy (by decide)
 have hst : (h.st : Int) ≤ 3 := by rw [hh]; exact chainHM_st L cs cy (by decide)
 have f := hg.form
 have s0 := f.sym0
 have s1 := f.sym1
 have n0 := f.st0
 obtain ⟨w, hw⟩ : ∃ w, w = wordF l h.sym 4 := ⟨_, rfl⟩
 have kw : WordOK h w := by rw [hw]; exact wordF_ok s0 (by decide)
 have wl : w.length ≤ 4 := by rw [hw]; exact wordF_len ..
 have zb := bestR_sz f (by omega) (w := w) every
 have hpw := within_range (v := kk) (m := 10) (by decide)
 obtain ⟨k, hk⟩ : ∃ k : Nat, 1 + within kk 10 = (k : Int) := ⟨(1 + within kk 10).toNat, by omega⟩
 have hpl := pathsF_len h.st w.length
 have hp81 := pow_le (n := h.st) (k := w.length) (by omega) wl
 have hN : (h.st + 1) ^ w.length ≤ 700000 := Nat.le_trans (Nat.pow_le_pow_left (show h.st + 1 ≤ 4 by omega) _) (Nat.le_trans (Nat.pow_le_pow_right (by decide) wl) (by decide))
 refine FSpec.intro fn.law35_ViterbiIsExhaustive (by rfl) (by rfl) (nb9 (by rfl)) fun E hE => (AW.sg hE rfl (bxA rfl rfl fun b3 => (asD rfl (OL.nil (AW.sg hE rfl (ldPA ag.Chain rfl rfl (vs := [_,_,_]) rfl (nb9 rfl) (clv rfl (.cons (VLe.refl _) (.cons (VLe.refl _) (.nil))) (chain_Hidden (by decide) nL) ?_)))))))
 rw [← hh]
 refine al z.Hidden rfl fun b7 => (sto sz.Hidden rfl rfl rfl rfl rfl (nb9 rfl) (cells2 := [_,_,_,_,_,_,_,_,_,_,_]) rfl (OL.nil (AW.sg hE rfl (mvD rfl (faP fd.Hidden_0 rfl rfl (ldPC ce.int rfl rfl rfl (clv rfl (.cons (VLe.refl _) (.cons (VLe.refl _) (.cons (VLe.refl _) (.nil)))) (world_Word (sym := h.sym) (most := 4) ⟨s0, by omega⟩ (by decide)) ?_)))))))
 rw [← hw]
 refine asD rfl (OL.nil (AW.sg hE rfl (mvD rfl (clv rfl (.cons (VLe.refl _) (.cons (VLe.refl _) (.nil))) (world_Within (by decide)) (bo rfl rfl (bin_add (c := (k : Int)) hk (wrap_i64 (by omega))) (asD rfl (OL.nil ?_)))))))
 refine AW.sg hE rfl (faP fd.Hidden_1 rfl rfl (ldPC ce.int rfl rfl rfl (mvD rfl (lnL sl.ints rfl rfl (clv rfl (.cons (VLe.refl _) (.cons (VLe.refl _) (.nil))) (world_Paths (n := h.st) (k := w.length) (by omega) (by omega)) (asD rfl (OL.nil ?_)))))))
 refine AW.sg hE rfl (asM rfl (OL.nil (AW.seq (AW.sg hE rfl (asD rfl (OL.nil (AW.block ?_)))))))
 refine AW.own 10 88 T.Way 4 rfl rfl ?_
 refine AW.whileK (α := Nat × Nat × Nat × List (List Int)) [(2, _), (7, _), (8, _), (9, _)] [(7, _)] (fun (i, q, c, Ls) => [(10, .osl 88 q Ls.length c), (11, .d (dI i))]) (fun (i, q, c, Ls) => [(88, .row q c T.Way 4 (Ls.map (wayD h w)))]) (fun (i, q, c, Ls) => i ≤ (pathsF h.st w.length).length ∧ Want h w i Ls ∧ Ls.length ≤ i) (fun (i, q, c, Ls) => (pathsF h.st w.length).length - i) (0, 0, 0, []) (.cons (knD rfl) (.cons (knP rfl) (.cons (knD rfl) (.cons (knD rfl) .nil)))) (.cons (owB rfl) .nil) ⟨⟨Nat.zero_le _, Want.zero h w, Nat.le_refl _⟩, .rq2, .cons rfl .nil⟩ ?_
 rintro ⟨i, q, c, Ls⟩ ⟨h1, k9, h3⟩
 have h1 : i ≤ (pathsF h.st w.length).length := h1
 have k9 : Want h w i Ls := k9
 have h3 : Ls.length ≤ i := h3
 refine AW.seq (AW.sg hE rfl (mvD rfl (mvD rfl (lnL sl.intss rfl rfl (c_lss rfl rfl rfl (OL.nil (AW.cond rfl (fun h40 => ?_) (fun h40 => ?_))))))))
 ·try simp only [dx9] at h40
  refine AW.skip (AW.seq (AW.block (AW.seq ?_)))
  have hi : i < (pathsF h.st w.length).length := by omega
  have hcm : ((pathsF h.st w.length).getD i []) ∈ (pathsF h.st w.length) := getD_mem hi []
  have hcl := (pathsF_mem hcm).1
  have zj := jointE_sz f (show w.length ≤ 6 by omega) ((pathsF h.st w.length).getD i [])
  refine AW.dg 1 [0,1,2,3,4,5,6,7,8,9,10,11,12] order_free hE rfl (by kernel_rfl) (OI.of_OL (os := [_,_,_,_,_,_,_,_,_,_,_,_,_]) rfl ?_)
  refine ldPA ag.Hidden rfl rfl (vs := [_,_,_,_,_,_,_,_,_,_,_]) rfl (nb9 rfl) (mvD rfl (mvD rfl (mvD rfl (ixLn sl.intss [] rfl rfl (by omega) rfl rfl (ldRC ce.ints rfl (clv rfl (.cons (VLe.refl _) (.cons (VLe.refl _) (.cons (VLe.refl _) (.nil)))) (ref35_Joint hg kw (by omega) hcm) (mvT rfl ?_)))))))
  refine ex rfl rfl (ex rfl rfl (al z.Rat rfl fun b12 => (sto sz.Rat rfl rfl rfl rfl rfl (nb9 rfl) (cells2 := [_,_,_]) rfl (asD rfl (OL.nil (AW.seq (AW.sg hE rfl ?_)))))))
  refine mvD rfl (c_neq rfl rfl (c := false) (by exact cne_f (by omega)) (OL.nil (AW.cond rfl (fun hno => absurd hno (by decide)) (fun _ => ?_))))
  refine AW.skip (AW.sg hE rfl (ldPA ag.Rat rfl rfl (vs := [_,_,_]) rfl (nb9 rfl) (clv rfl (.cons (VLe.refl _) (.nil)) (ref_SignQ (x := jointE h w ((pathsF h.st w.length).getD i [])) (by omega)) (c_gtr rfl rfl rfl (OL.nil (AW.cond rfl (fun h0 => ?_) (fun h0 => ?_)))))))
  ·have h0 : 0 < jointE h w ((pathsF h.st w.length).getD i []) := sgn_gt.1 (of_decide_eq_true h0)
   refine AW.seq (AW.dg 1 [0,1,2,3,4,5,6,7] order_free hE rfl (by kernel_rfl) (OI.of_OL (os := [_,_,_,_,_,_,_,_]) rfl ?_))
   refine mvD rfl (mvD rfl (ixLn sl.intss [] rfl rfl (by omega) rfl rfl (ldRC ce.ints rfl (ldPA ag.Rat rfl rfl (vs := [_,_,_]) rfl (nb9 rfl) (bd2 (cs := [_,_,_,_]) z.Way pl.Way (pvC rfl (pvC rfl pvN)) (by rfl) (al z.Way rfl fun b14 => (sto sz.Way rfl rfl rfl rfl rfl (nb9 rfl) (cells2 := [_,_,_,_]) rfl ?_)))))))
   refine OL.nil (AW.sg hE rfl (mvO rfl (lnO sl.Ways rfl rfl (asD rfl (OL.nil ?_)))))
   refine AW.midK (α := Nat) [(2, _), (7, _), (8, _), (9, _), (10, _), (11, _), (14, _)] [(7, _), (14, _)] (fun n => [(15, .d (dI n))]) (fun n => [(88, .row q c T.Way 4 (Ls.map (wayD h w)))]) (fun n => n ≤ Ls.length ∧ (∀ j, n ≤ j → j < Ls.length → bfQ (jointE h w) ((pathsF h.st w.length).getD i []) (Ls.getD j [])) ∧ (n = 0 ∨ ¬ bfQ (jointE h w) ((pathsF h.st w.length).getD i []) (Ls.getD (n - 1) []))) (.cons (knD rfl) (.cons (knP rfl) (.cons (knD rfl) (.cons (knD rfl) (.cons (knO rfl) (.cons (knD rfl) (.cons (knP rfl) .nil))))))) (.cons (owB rfl) (.cons (owB rfl) .nil)) ?_ ?_
   ·refine AW.block ?_
    refine AW.whileK (α := Nat) [(2, _), (7, _), (8, _), (9, _), (10, _), (11, _), (14, _)] [(7, _), (14, _)] (fun n => [(15, .d (dI n))]) (fun n => [(88, .row q c T.Way 4 (Ls.map (wayD h w)))]) (fun n => n ≤ Ls.length ∧ ∀ j, n ≤ j → j < Ls.length → bfQ (jointE h w) ((pathsF h.st w.length).getD i []) (Ls.getD j [])) (fun n => n) Ls.length (.cons (knD rfl) (.cons (knP rfl) (.cons (knD rfl) (.cons (knD rfl) (.cons (knO rfl) (.cons (knD rfl) (.cons (knP rfl) .nil))))))) (.cons (owB rfl) (.cons (owB rfl) .nil)) ⟨⟨Nat.le_refl _, fun j a b => absurd b (by omega)⟩, .rq1, .cons rfl .nil⟩ ?_
    rintro n ⟨hn, hnr⟩
    have hn : n ≤ Ls.length := hn
    have hnr : ∀ j, n ≤ j → j < Ls.length → bfQ (jointE h w) ((pathsF h.st w.length).getD i []) (Ls.getD j []) := hnr
    refine AW.seq (AW.seq (AW.dg 1 [0,1,2,3,4,5,6,7,8,9,10] order_free hE rfl (by kernel_rfl) (OI.of_OL (os := [_,_,_,_,_,_,_,_,_,_,_]) rfl ?_)))
    refine mvD rfl (c_gtr rfl rfl rfl (OL.split 67 rfl (fun hn0 => ?_) (fun hn0 => ?_)))
    ·have hn0 : 0 < n := by have := of_decide_eq_true hn0; omega
     have hyl : (Ls.getD (n - 1) []).length = w.length := want_len k9 (by omega)
     have zy := jointE_sz f (show w.length ≤ 6 by omega) (Ls.getD (n - 1) [])
     refine mvD rfl (OL.yes rfl (ldPA ag.Way rfl rfl (vs := [_,_,_,_]) rfl (nb9 rfl) (OL.yes rfl (mvO rfl (OL.yes rfl (mvD rfl (OL.yes rfl ?_)))))))
     refine bo rfl rfl (bin_sub (c := ((n - 1 : Nat) : Int)) (by omega) (wrap_i64 (by omega))) (OL.yes rfl (ixOn (i := n - 1) sl.Ways rfl rfl (by omega) (OL.yes rfl (ldEA ag.Way (by decide) rfl rfl (way_el (show n - 1 < Ls.length by omega)) (vs := cellsW (wayE h w (Ls.getD (n - 1) []))) rfl (nb9 rfl) (OL.yes rfl ?_)))))
     refine clv rfl (.cons (VLe.refl _) (.cons (VLe.refl _) (.nil))) (ref35_Before (a := (wayE h w ((pathsF h.st w.length).getD i []))) (b := wayE h w (Ls.getD (n - 1) [])) (show sz (jointE h w ((pathsF h.st w.length).getD i [])) ≤ _ by omega) (show sz (jointE h w (Ls.getD (n - 1) [])) ≤ _ by omega) (show ((pathsF h.st w.length).getD i []).length ≤ _ by omega)) ?_
     rw [bef_iff (hcl.trans hyl.symm)]
     refine pkT rfl rfl (OL.nil (AW.cond rfl (fun hbq => ?_) (fun hbq => ?_)))
     ·have hbq : bfQ (jointE h w) ((pathsF h.st w.length).getD i []) (Ls.getD (n - 1) []) := of_decide_eq_true hbq
      refine AW.skip (AW.block (AW.rg hE rfl (mvD rfl (sub_i64 rfl rfl (by omega) (asD rfl (OL.nil ?_))))))
      exact AW.again (x := n) (n - 1) (by omega) ⟨⟨by omega, fun j a b => by rcases Nat.lt_or_ge j n with e | e; (obtain rfl : j = n - 1 := (by omega)); exact hbq; exact hnr j e b⟩, Knows.app .rq7 (.cons (VLe.int (by omega)) .nil), Owns.app (.cons rfl (.cons rfl .nil)) (.cons rfl .nil)⟩
     ·have hbq : ¬ bfQ (jointE h w) ((pathsF h.st w.length).getD i []) (Ls.getD (n - 1) []) := of_decide_eq_false hbq
      refine AW.exit ?_
      exact AW.reach n ⟨⟨hn, hnr, .inr hbq⟩, Knows.app .rq7 .rq1, Owns.app (.cons rfl (.cons rfl .nil)) (.cons rfl .nil)⟩
    ·have hn0 : n = 0 := by have := of_decide_eq_false hn0; omega
     refine mvD rfl (OL.nd rfl (OL.nd rfl (OL.nd rfl (OL.nd rfl (OL.nd rfl (OL.nd rfl (OL.nd rfl ?_)))))))
     refine pkF rfl rfl (OL.nil (AW.cond rfl (fun hno => absurd hno (by decide)) (fun _ => ?_)))
     refine AW.exit ?_
     exact AW.reach n ⟨⟨hn, hnr, .inl hn0⟩, Knows.app .rq7 .rq1, Owns.app (.cons rfl (.cons rfl .nil)) (.cons rfl .nil)⟩
   rintro n ⟨hn, hnr, hnl⟩
   have hn : n ≤ Ls.length := hn
   have hnr : ∀ j, n ≤ j → j < Ls.length → bfQ (jointE h w) ((pathsF h.st w.length).getD i []) (Ls.getD j []) := hnr
   have hnl : n = 0 ∨ ¬ bfQ (jointE h w) ((pathsF h.st w.length).getD i []) (Ls.getD (n - 1) []) := hnl
   have hxl : n + (dWay (wayE h w ((pathsF h.st w.length).getD i [])) :: (Ls.map (wayD h w)).drop n).length = Ls.length + 1 := by rw [List.length_cons, List.length_drop, List.length_map]; omega
   refine AW.region_planT (valW17 q c Ls.length n (wayE h w ((pathsF h.st w.length).getD i [])) (Ls.map (wayD h w))) ownW17 (telW17 q c Ls.length n (wayE h w ((pathsF h.st w.length).getD i [])) (Ls.map (wayD h w))) 10 order_free (by rw [hE]; rfl) (by rfl) (by kernel_rfl) (by kernel_rfl) ?_ ?_
   ·refine casW17 ?_ ?_ ?_ ?_ ?_ ?_ ?_ ?_ ?_ ?_
    ·exact fun β L c9 => ⟨_, rfl, .inl (OG.of_OL (mvO (id := 88) (b := q) (n := Ls.length) (c := c) ((pG_old rfl).trans rfl) ⟨β, pG_put (d := 79) (i := 0) rfl (fun t ht => ownW17_inj ht) (lt_size 11 c9.size rfl (by decide)) (mfT_same (lt_size 11 c9.size rfl (by decide)) (by rfl))⟩))⟩
    ·exact fun β L c9 => ⟨_, rfl, .inl (OG.of_OL (mvD (y := dI n) ((pG_old rfl).trans rfl) ⟨β, pG_put (d := 80) (i := 1) rfl (fun t ht => ownW17_inj ht) (lt_size 11 c9.size rfl (by decide)) (mfT_same (lt_size 11 c9.size rfl (by decide)) (by rfl))⟩))⟩
    ·exact fun β L c9 => ⟨_, rfl, .inl (OG.of_OL (slO (h := n) sl.Ways (pG_new rfl (come_dep (j := 0) c9 (by kernel_rfl))) (pG_new rfl (come_dep (j := 1) c9 (by kernel_rfl))) hn ⟨β, pG_put (d := 81) (i := 2) rfl (fun t ht => ownW17_inj ht) (lt_size 11 c9.size rfl (by decide)) (mfT_same (lt_size 11 c9.size rfl (by decide)) (by rfl))⟩))⟩
    ·exact fun β L c9 => ⟨_, rfl, .inl (OG.of_OL (ldPA ag.Way ((pG_old rfl).trans rfl) ((pG_M (mfT_skip (show (14:Nat) ≠ 88 by decide) (mfT_skip (show (14:Nat) ≠ 83 by decide) (mfT_skip (show (14:Nat) ≠ 83 by decide) rfl)))) : _ = some (.box b14 T.Way (cellsW (wayE h w ((pathsF h.st w.length).getD i []))))) (vs := cellsW (wayE h w ((pathsF h.st w.length).getD i []))) rfl (nb9 rfl) ⟨β, pG_put (d := 82) (i := 3) rfl (fun t ht => ownW17_inj ht) (lt_size 11 c9.size rfl (by decide)) (mfT_same (lt_size 11 c9.size rfl (by decide)) (by rfl))⟩))⟩
    ·exact fun β L c9 => ⟨_, rfl, .inl (OG.of_OL (lt1O (y := dWay (wayE h w ((pathsF h.st w.length).getD i []))) sl.Ways (vd_to (pG_new rfl (come_dep (j := 3) c9 (by kernel_rfl))) vd_way) rfl (by decide) (pG_M (mfT_skip (show (83:Nat) ≠ 88 by decide) (mfT_no (by exact come_lateT c9 (by kernel_rfl)) (mfT_no (by exact c9.no) rfl)))) fun b8 => ⟨upd β 83 (b8, 0), pG_set (d := 83) (i := 4) (x := (b8, 0)) rfl (fun t ht => ownW17_inj ht) (lt_size 11 c9.size rfl (by decide)) rfl (mfT_pass (lt_size 11 c9.size rfl (by decide)) (show (9:Nat) ≠ 4 by decide) (.inl (show (88:Nat) ≠ 83 by decide)) (by exact fun _ => rfl) (mfT_pass (lt_size 11 c9.size rfl (by decide)) (show (8:Nat) ≠ 4 by decide) (.inr (come_lateT c9 (by kernel_rfl))) (by exact fun _ => rfl) (mfT_here (lt_size 11 c9.size rfl (by decide)) rfl rfl rfl c9.no (by rfl) (fun y hy => absurd hy List.not_mem_nil)))) (fun t j ho hl => by unfold ownW17 at ho; split at ho <;> cases ho <;> first | rfl | (rw [c9.no] at hl; cases hl) | exact come_notT c9 (by kernel_rfl) hl)⟩))⟩
    ·exact fun β L c9 => ⟨_, rfl, .inl (OG.of_OL (mvO (id := 88) (b := q) (n := Ls.length) (c := c) ((pG_old rfl).trans rfl) ⟨β, pG_put (d := 84) (i := 5) rfl (fun t ht => ownW17_inj ht) (lt_size 11 c9.size rfl (by decide)) (mfT_same (lt_size 11 c9.size rfl (by decide)) (by rfl))⟩))⟩
    ·exact fun β L c9 => ⟨_, rfl, .inl (OG.of_OL (mvD (y := dI n) ((pG_old rfl).trans rfl) ⟨β, pG_put (d := 85) (i := 6) rfl (fun t ht => ownW17_inj ht) (lt_size 11 c9.size rfl (by decide)) (mfT_same (lt_size 11 c9.size rfl (by decide)) (by rfl))⟩))⟩
    ·exact fun β L c9 => ⟨_, rfl, .inl (OG.of_OL (slB (l := n) sl.Ways (pG_new rfl (come_dep (j := 5) c9 (by kernel_rfl))) (pG_new rfl (come_dep (j := 6) c9 (by kernel_rfl))) hn rfl ⟨β, pG_put (d := 86) (i := 7) rfl (fun t ht => ownW17_inj ht) (lt_size 11 c9.size rfl (by decide)) (mfT_same (lt_size 11 c9.size rfl (by decide)) (by rfl))⟩))⟩
    ·exact fun β L c9 => ⟨_, rfl, SG.of_SO (SO.appTwoB (i := 83) (j := 88) (o := n) (n2 := Ls.length - n) (es := [dWay (wayE h w ((pathsF h.st w.length).getD i []))]) (es2 := (Ls.map (wayD h w))) (show 87 < E.n by rw [hE]; exact Nat.le_of_ble_eq_true (by rfl)) sl.Ways (pG_new rfl (come_dep (j := 4) c9 (by kernel_rfl))) (pG_M (mfT_skip (show (83:Nat) ≠ 88 by decide) (mfT_no (by exact c9.no) (mfT_yes (come_dep (j := 4) c9 (by kernel_rfl)) rfl rfl)))) rfl (pG_new rfl (come_dep (j := 7) c9 (by kernel_rfl))) (pG_M (mfT_no (by exact come_lateT c9 (by kernel_rfl)) (mfT_skip (show (88:Nat) ≠ 83 by decide) (mfT_skip (show (88:Nat) ≠ 83 by decide) rfl)))) (by rw [List.length_map]; omega) (.inl (pG_M (mfT_skip (show (87:Nat) ≠ 88 by decide) (mfT_skip (show (87:Nat) ≠ 83 by decide) (mfT_skip (show (87:Nat) ≠ 83 by decide) rfl))))) (by omega) (by omega) (by rw [drop_all (show (Ls.map (wayD h w)).length ≤ n + (Ls.length - n) by rw [List.length_map]; omega)]; exact ⟨upd β 87 (0, 0), pG_set (d := 87) (i := 8) (x := (0, 0)) rfl (fun t ht => ownW17_inj ht) (lt_size 11 c9.size rfl (by decide)) rfl (Eq.trans (mfT_pass (lt_size 11 c9.size rfl (by decide)) (show (9:Nat) ≠ 8 by decide) (.inl (show (88:Nat) ≠ 83 by decide)) (by exact fun _ => rfl) (mfT_here (lt_size 11 c9.size rfl (by decide)) rfl rfl rfl c9.no (by rfl) (List.forall_mem_cons.2 ⟨(fun _ hne => absurd rfl hne), (fun y hy => absurd hy List.not_mem_nil)⟩))) (upd_noneB (by decide) (pG_M (mfT_skip (show (87:Nat) ≠ 88 by decide) (mfT_skip (show (87:Nat) ≠ 83 by decide) (mfT_skip (show (87:Nat) ≠ 83 by decide) rfl))))).symm) (fun t j ho hl => by unfold ownW17 at ho; split at ho <;> cases ho <;> first | rfl | (rw [c9.no] at hl; cases hl) | exact come_notT c9 (by kernel_rfl) hl)⟩))⟩
    ·exact fun β L c9 => ⟨_, rfl, SG.of_SO (SO.appKeep (id := 88) (d := 88) (es := (Ls.map (wayD h w))) (n := n) (xs := dWay (wayE h w ((pathsF h.st w.length).getD i [])) :: (Ls.map (wayD h w)).drop n) (show 88 < E.n by rw [hE]; exact Nat.le_of_ble_eq_true (by rfl)) sl.Ways (pG_new rfl (come_dep (j := 2) c9 (by kernel_rfl))) (pG_M (mfT_no (by exact c9.no) (mfT_skip (show (88:Nat) ≠ 83 by decide) (mfT_skip (show (88:Nat) ≠ 83 by decide) rfl)))) (by rw [List.length_map]; exact hn) (vc_toF (pG_new rfl (come_dep (j := 8) c9 (by kernel_rfl))) (VC.d _)) (fun y hy => by rcases List.mem_cons.1 hy with rfl | hy; rfl; exact way_len y (List.mem_of_mem_drop hy)) (by rw [hxl]; omega) (by rw [hxl]; omega) (by rw [hxl]; exact fun b8 c8 => ⟨upd β 88 (b8, c8), pG_set (d := 88) (i := 9) (x := (b8, c8)) rfl (fun t ht => ownW17_inj ht) (lt_size 11 c9.size rfl (by decide)) rfl (mfT_here (lt_size 11 c9.size rfl (by decide)) rfl rfl rfl c9.no (by rfl) (List.forall_mem_cons.2 ⟨(by exact fun _ _ => rfl), (List.forall_mem_cons.2 ⟨(by exact fun _ _ => rfl), (fun y hy => absurd hy List.not_mem_nil)⟩)⟩)) (fun t j ho hl => by unfold ownW17 at ho; split at ho <;> cases ho <;> first | rfl | (rw [c9.no] at hl; cases hl) | exact come_notT c9 (by kernel_rfl) hl)⟩))⟩
   refine fun β L c9 hA => ⟨_, rfl, .inl (OG.of_OL (asO (id := 88) (b := (β 88).1) (n := Ls.length + 1) (c := (β 88).2) (pG_new rfl (hA 9 (by decide))) ?_))⟩
   refine OL.nil ?_
   refine AW.to [(2, _), (7, _), (8, _), (9, _), (11, _), (10, .osl 88 (β 88).1 (insL Ls n ((pathsF h.st w.length).getD i [])).length (β 88).2)] [(7, .box b7 T.Hidden (cellsHM h)), (88, .row (β 88).1 (β 88).2 T.Way 4 ((insL Ls n ((pathsF h.st w.length).getD i [])).map (wayD h w)))] (.cons (vle_of_eq (put_old (by decide) ((pG_old rfl).trans rfl))) (.cons (vle_of_eq (put_old (by decide) ((pG_old rfl).trans rfl))) (.cons (vle_of_eq (put_old (by decide) ((pG_old rfl).trans rfl))) (.cons (vle_of_eq (put_old (by decide) ((pG_old rfl).trans rfl))) (.cons (vle_of_eq (put_old (by decide) ((pG_old rfl).trans rfl))) (.cons (vle_of_eq (put_new'.trans (by rw [insL_len hn]))) (.nil))))))) (.cons (put_mem (pG_M (mfT_skip (show (7:Nat) ≠ 88 by decide) (mfT_skip (show (7:Nat) ≠ 83 by decide) (mfT_skip (show (7:Nat) ≠ 83 by decide) rfl))))) (.cons ((put_mem (pG_M (mfT_yes (hA 9 (by decide)) rfl rfl))).trans (by rw [← ins_map])) (.nil))) ?_
   generalize (β 88).1 = q2
   generalize (β 88).2 = c2
   refine AW.rg hE rfl (mvD rfl (add_i64 rfl rfl (by omega) (asD rfl (OL.nil ?_))))
   exact AW.again (x := (i, q, c, Ls)) (i + 1, q2, c2, insL Ls n ((pathsF h.st w.length).getD i [])) (by (simp only []; omega)) ⟨⟨by omega, k9.put hi h0 hn hnr hnl, by rw [insL_len hn]; omega⟩, Knows.app .rq4 .rq2, Owns.app (.cons rfl .nil) (.cons rfl .nil)⟩
  ·have h0 : ¬ 0 < jointE h w ((pathsF h.st w.length).getD i []) := fun e => of_decide_eq_false h0 (sgn_gt.2 e)
   refine AW.skip (AW.rg hE rfl (mvD rfl (add_i64 rfl rfl (by omega) (asD rfl (OL.nil ?_)))))
   exact AW.again (x := (i, q, c, Ls)) (i + 1, q, c, Ls) (by (simp only []; omega)) ⟨⟨by omega, k9.skip hi h0, by omega⟩, Knows.app .rq4 .rq2, Owns.app (.cons rfl .nil) (.cons rfl .nil)⟩
 ·try simp only [dx9] at h40
  refine AW.exit (AW.seq ?_)
  have r := k9.ranked (show (pathsF h.st w.length).length ≤ i by omega)
  refine AW.freeze 88 rfl (AW.to [(2, .d (dI k)), (7, .ptr 7 b7 0), (8, .d (ints w)), (10, .d (.sl (Ls.map (wayD h w))))] [(7, .box b7 T.Hidden (cellsHM h))] (.cons (VLe.refl _) (.cons (VLe.refl _) (.cons (VLe.refl _) (.cons (frz_osl (by rw [List.length_map]) rfl) (.nil))))) (.cons rfl .nil) ?_)
  refine AW.rg hE rfl (ldPA ag.Hidden rfl rfl (vs := [_,_,_,_,_,_,_,_,_,_,_]) rfl (nb9 rfl) (mvD rfl (clv rfl (.cons (VLe.refl _) (.cons (VLe.refl _) (.nil))) (vit_Best hg kw) (mvT rfl (ex rfl rfl (ex rfl rfl (ex rfl rfl ?_)))))))
  refine al z.Rat rfl fun b17 => (asD rfl (sto sz.Rat rfl rfl rfl rfl rfl (nb9 rfl) (cells2 := [_,_,_]) rfl (asD rfl (OL.nil (AW.sg hE rfl (ldPA ag.Hidden rfl rfl (vs := [_,_,_,_,_,_,_,_,_,_,_]) rfl (nb9 rfl) (mvD rfl ?_)))))))
  refine mvD rfl (clv rfl (.cons (VLe.refl _) (.cons (VLe.refl _) (.cons (VLe.refl _) (.nil)))) (vit_List (k := k) hg kw ⟨by omega, by omega⟩ r hN) (mvT rfl (ex rfl rfl (ex rfl rfl (ex rfl rfl (asD rfl (asD rfl ?_)))))))
  refine asD rfl (OL.nil (AW.seq (AW.sg hE rfl (mvD rfl (lnL (l := Ls) (f := wayD h w) sl.Ways rfl rfl (c_eql rfl rfl rfl (OL.nil ?_)))))))
  refine AW.cond rfl (fun hz => ?_) (fun hz => ?_)
  ·have hz : Ls = [] := List.eq_nil_of_length_eq_zero (by have := of_decide_eq_true hz; omega)
   subst hz
   have e11 := rank_nil hg r
   refine AW.sg hE rfl (clv rfl .nil law35_known (mvD rfl (OL.yes rfl (mvD rfl (OL.yes rfl (c_eql rfl rfl (c := true) (decide_eq_true e11) (pkT rfl rfl ?_)))))))
   refine mvD rfl (OL.yes rfl (mvD rfl (OL.yes rfl (c_eql rfl rfl (c := true) (decide_eq_true rfl) (pkT rfl rfl (asD rfl (OL.nil ?_)))))))
   exact AW.ret (RetQ.r ⟨_, .tmp rfl .nil, .le (VLe.refl _)⟩)
  ·have hz : Ls ≠ [] := fun e => of_decide_eq_false hz (by rw [e]; rfl)
   obtain ⟨he0, hb1, hb2⟩ := rank_best hg r hz
   have hl0 : 0 < Ls.length := List.length_pos_iff.2 hz
   have hlE : lstE Ls = 0 := if_neg (by omega)
   have htk : (Ls.take k).length = min k Ls.length := List.length_take
   refine AW.skip (AW.seq (AW.seq ?_))
   refine AW.dg 1 [0,1,2,3,4,5,6,7,8,9,10,11,12,13,14,15,16,17,18,19,20,21,22,23,24,25,26,27,28,29,30,31,32,33,34,35,36,37,38,39] order_free hE rfl (by kernel_rfl) (OI.of_OL (os := [_,_,_,_,_,_,_,_,_,_,_,_,_,_,_,_,_,_,_,_,_,_,_,_,_,_,_,_,_,_,_,_,_,_,_,_,_,_,_,_]) rfl ?_)
   refine mvD rfl (c_neq rfl rfl (c := false) (cne_f he0) (mvD rfl (OL.yes rfl (mvD rfl (OL.yes rfl (c_neq rfl rfl (c := false) (cne_f hlE) (pkF rfl rfl ?_)))))))
   refine mvD rfl (OL.yes rfl (mvD rfl (OL.yes rfl (mvD rfl (OL.yes rfl (ixLe 0 sl.Ways [] (l := Ls) (f := wayD h w) rfl rfl rfl hl0 rfl rfl (OL.yes rfl ?_)))))))
   refine faR fd.Way_0 rfl rfl (OL.yes rfl (ldRC ce.ints rfl (OL.yes rfl (clv rfl (.cons (VLe.refl _) (.cons (VLe.refl _) (.nil))) (law35_same (l := vitP h w every) (m := Ls.getD 0 []) (by rw [vitP_len he0]; omega)) ?_))))
   rw [decide_eq_true hb1]
   refine OL.yes rfl (nt rfl (pkF rfl rfl (mvD rfl (OL.yes rfl (ldPA ag.Rat rfl rfl (vs := [_,_,_]) rfl (nb9 rfl) (OL.yes rfl (mvD rfl ?_)))))))
   refine OL.yes rfl (ixLe 0 sl.Ways [] (l := Ls) (f := wayD h w) rfl rfl rfl hl0 rfl rfl (OL.yes rfl (faR fd.Way_1 rfl rfl (OL.yes rfl (ldRA ag.Rat rfl (vs := [_,_,_]) rfl (nb9 rfl) (OL.yes rfl (clv rfl (.cons (VLe.refl _) (.cons (VLe.refl _) (.nil))) (ref_CompareQ (x := bestR h w every) (y := jointE h w (Ls.getD 0 [])) (by omega) (by rw [← hb2]; omega)) ?_)))))))
   rw [show cmpQ (bestR h w every) (jointE h w (Ls.getD 0 [])) = 0 from cmpQ_eq.2 hb2]
   refine OL.yes rfl (c_neq rfl rfl (c := false) (by exact cne_f (by omega)) (pkF rfl rfl (mvD rfl (OL.yes rfl (mvD rfl (OL.yes rfl (lnL (l := Ls.take k) (f := ints) sl.intss rfl rfl ?_)))))))
   refine OL.yes rfl (mvD rfl (OL.yes rfl (mvD rfl (OL.yes rfl (lnL (l := Ls) (f := wayD h w) sl.Ways rfl rfl (OL.yes rfl (mn rfl rfl rfl ?_)))))))
   refine OL.yes rfl (c_neq rfl rfl (c := false) (cne_f (by rw [htk]; omega)) (pkF rfl rfl (mvD rfl (OL.yes rfl (mvD rfl (OL.yes rfl (lnL (l := (Ls.take k).map (jointE h w)) (f := dQ) sl.Rats rfl rfl ?_)))))))
   refine OL.yes rfl (mvD rfl (OL.yes rfl (lnL (l := Ls.take k) (f := ints) sl.intss rfl rfl (OL.yes rfl (c_neq rfl rfl (c := false) (cne_f (by rw [List.length_map])) (pkF rfl rfl (OL.nil ?_)))))))
   refine AW.cond rfl (fun hno => absurd hno (by decide)) (fun _ => ?_)
   refine AW.skip (AW.seq (AW.sg hE rfl (asD rfl (OL.nil (AW.block ?_)))))
   refine AW.whileK (α := Nat) [(10, _), (19, _), (20, _)] [] (fun j => [(22, .d (dI j))]) (fun j => []) (fun j => j ≤ (Ls.take k).length) (fun j => (Ls.take k).length - j) 0 (.cons (knD rfl) (.cons (knD rfl) (.cons (knD rfl) .nil))) .nil ⟨Nat.zero_le _, .rq1, .nil⟩ ?_
   intro j h4
   have h4 : j ≤ (Ls.take k).length := h4
   refine AW.seq (AW.sg hE rfl (mvD rfl (mvD rfl (lnL (l := Ls.take k) (f := ints) sl.intss rfl rfl (c_lss rfl rfl rfl (OL.nil (AW.cond rfl (fun h159 => ?_) (fun h159 => ?_))))))))
   ·try simp only [dx9] at h159
    refine AW.skip (AW.seq (AW.block (AW.seq ?_)))
    have hj : j < (Ls.take k).length := by omega
    have hjl : j < Ls.length := by omega
    have hg1 : (Ls.take k).getD j [] = Ls.getD j [] := by rw [List.getD_eq_getElem?_getD, List.getElem?_take_of_lt (by omega), ← List.getD_eq_getElem?_getD]
    have hg2 : ((Ls.take k).map (jointE h w)).getD j 0 = jointE h w (Ls.getD j []) := by rw [List.getD_eq_getElem?_getD, List.getElem?_map, List.getElem?_take_of_lt (by omega), List.getElem?_eq_getElem hjl, List.getD_eq_getElem?_getD, List.getElem?_eq_getElem hjl]; rfl
    have zy := jointE_sz f (show w.length ≤ 6 by omega) (Ls.getD j [])
    have hyl : (Ls.getD j []).length = w.length := ((r.all _).1 (getD_mem hjl [])).1.1
    refine AW.dg 1 [0,1,2,3,4,5,6,7,8,9,10,11,12,13,14,15,16,17,18,19,20,21,22,23] order_free hE rfl (by kernel_rfl) (OI.of_OL (os := [_,_,_,_,_,_,_,_,_,_,_,_,_,_,_,_,_,_,_,_,_,_,_,_]) rfl ?_)
    refine mvD rfl (mvD rfl (ixLn (l := Ls.take k) (f := ints) sl.intss [] rfl rfl hj rfl rfl (ldRC ce.ints rfl ?_)))
    rw [hg1]
    refine mvD rfl (mvD rfl (ixLn (l := Ls) (f := wayD h w) sl.Ways [] rfl rfl hjl rfl rfl (faR fd.Way_0 rfl rfl (ldRC ce.ints rfl (clv rfl (.cons (VLe.refl _) (.cons (VLe.refl _) (.nil))) (law35_same (l := Ls.getD j []) (m := Ls.getD j []) (by omega)) ?_)))))
    rw [decide_eq_true rfl]
    refine nt rfl (mvD rfl (OL.yes rfl (mvD rfl (OL.yes rfl (mvD rfl (OL.yes rfl (ixLn (l := (Ls.take k).map (jointE h w)) (f := dQ) sl.Rats 0 rfl rfl (by rw [List.length_map]; exact hj) rfl rfl ?_)))))))
    refine OL.yes rfl (ldRA ag.Rat rfl (vs := [_,_,_]) rfl (nb9 rfl) ?_)
    rw [hg2]
    refine OL.yes rfl (mvD rfl (OL.yes rfl (mvD rfl (OL.yes rfl (ixLn (l := Ls) (f := wayD h w) sl.Ways [] rfl rfl hjl rfl rfl (OL.yes rfl (faR fd.Way_1 rfl rfl ?_)))))))
    refine OL.yes rfl (ldRA ag.Rat rfl (vs := [_,_,_]) rfl (nb9 rfl) (OL.yes rfl (clv rfl (.cons (VLe.refl _) (.cons (VLe.refl _) (.nil))) (ref_CompareQ (x := jointE h w (Ls.getD j [])) (y := jointE h w (Ls.getD j [])) (by omega) (by omega)) ?_)))
    rw [show cmpQ (jointE h w (Ls.getD j [])) (jointE h w (Ls.getD j [])) = 0 from cmpQ_eq.2 rfl]
    refine OL.yes rfl (c_neq rfl rfl (c := false) (by exact cne_f (by omega)) (pkF rfl rfl (OL.nil (AW.cond rfl (fun hno => absurd hno (by decide)) (fun _ => ?_)))))
    exact AW.skip (AW.rg hE rfl (mvD rfl (add_i64 rfl rfl (by omega) (asD rfl (OL.nil (AW.again (x := j) (j + 1) (by omega) ⟨by omega, Knows.app .rq3 .rq1, .nil⟩))))))
   ·try simp only [dx9] at h159
    exact AW.exit (AW.sg hE rfl (clv rfl .nil law35_known (asD rfl (OL.nil (AW.ret (RetQ.r ⟨_, .tmp rfl .nil, .le (VLe.refl _)⟩))))))
end Go.Proofs.YtonndaibggjmjaaGreat

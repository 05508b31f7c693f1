/-
  Walks of package online, part 7: a whole word; the law OnlineIsViterbi (printed by mk2.py).
-/
import Derived.Test.YtcebciggodhmcaaGreatKOnI
set_option linter.unusedVariables false
set_option linter.unusedSimpArgs false
namespace Go.Proofs.YtcebciggodhmcaaGreat
open Go Go.AL
def own19 : Nat → Option Nat
  | 72 => some 0 | 73 => some 1 | 74 => some 2 | 75 => some 3 | 76 => some 4 | 77 => some 5 | 78 => some 6 | 79 => some 7 | 60 => some 7 | 80 => some 8 | 4 => some 9 | 5 => some 10 | 6 => some 11
  | _ => none
theorem own19_inj {t i : Nat} (h : own19 t = some i) (hi : i ≠ 7) : t = [72, 73, 74, 75, 76, 77, 78, 79, 80, 4, 5, 6].getD i 0 := by
  unfold own19 at h
  split at h <;> first | (cases h; rfl) | (cases h; exact absurd rfl hi) | cases h
theorem own19_two {t : Nat} (h : own19 t = some 7) : t = 79 ∨ t = 60 := by
  unfold own19 at h
  split at h <;> first | (cases h; done) | (exact .inl rfl) | (exact .inr rfl) | cases h
noncomputable def val19 (v x : List Int) (p : Rat) (q c b6 : Nat) (t : Nat) (_ : Nat → Nat × Nat) : V :=
  match t with
  | 72 | 74 | 4 => .d (ints v)
  | 73 | 76 => .osl 60 q x.length c
  | 75 => .d (dI v.length)
  | 77 => .d (dI x.length)
  | 78 => .d (dI (v.length - x.length : Nat))
  | 79 | 5 => .d (.sl ((x ++ List.replicate (v.length - x.length) 0).map dI))
  | 80 => vQ p
  | 6 => .ptr 6 b6 0
  | _ => .junk
noncomputable def blk19 (p : Rat) (b6 : Nat) (t : Nat) (_ : Nat → Nat × Nat) : Option Blk :=
  match t with
  | 60 => some deadBlk
  | 6 => some (.box b6 T.Rat (cellsQ p))
  | _ => none
set_option maxRecDepth 8000 in
set_option maxHeartbeats 6400000 in
theorem on_Run {h : HM} {B : Nat} {w : List Int} (g : h.Good B) (kw : WordOK h w) (hu : w.length ≤ 255) : FSpec P F.online_Run [vHM h, .d (ints w)] (.tup [.d (ints (vitP h w every)), .d (ints (whenF h w)), vQ (bestR h w every), .d (dI (vitE h w every))]) := by
  have f := g.form
  have s0 := f.sym0
  have s1 := f.sym1
  have n0 := f.st0
  have n1 := f.st1
  refine FSpec.intro fn.online_Run (by rfl) (by rfl) (Nat.le_of_ble_eq_true (by rfl)) fun E hE => ?_
  refine AW.seq ?_
  refine AW.region (by rw [hE]; rfl) ?_
  refine bxA rfl rfl fun b2 => ?_
  refine asM rfl ?_
  refine asM rfl ?_
  refine al z.Rat rfl fun b6 => ?_
  refine asD rfl ?_
  refine OL.nil ?_
  refine AW.seq ?_
  refine AW.region (by rw [hE]; rfl) ?_
  refine ldPA ag.Hidden rfl rfl (vs := [_, _, _, _, _, _, _, _, _, _, _]) rfl (Nat.le_of_ble_eq_true rfl) ?_
  refine clv rfl (.cons (VLe.refl _) (.nil)) (on_Open g) ?_
  refine mvT rfl ?_
  refine ex rfl rfl ?_
  refine ex rfl rfl ?_
  refine al z.Online rfl fun b8 => ?_
  refine sto sz.Online rfl rfl rfl rfl rfl (Nat.le_of_ble_eq_true rfl) (cells2 := [_, _, _, _, _, _, _, _, _, _, _, _, _, _, _]) rfl ?_
  refine asD rfl ?_
  refine OL.nil ?_
  refine AW.seq ?_
  refine AW.block ?_
  refine AW.seq ?_
  refine AW.region (by rw [hE]; rfl) ?_
  refine mvD rfl ?_
  refine c_neq rfl rfl (c := false) (by first | exact decide_eq_true (by omega) | exact decide_eq_false (by omega) | exact cne_f (by omega) | exact cne_t (by omega) | rfl) ?_
  refine asD rfl ?_
  refine OL.nil ?_
  refine AW.cond rfl (fun hno => absurd hno (by decide)) (fun _ => ?_)
  refine AW.seq ?_
  refine AW.region (by rw [hE]; rfl) ?_
  refine mvD rfl ?_
  refine faP fd.Hidden_0 rfl rfl ?_
  refine ldPC ce.int rfl rfl rfl ?_
  refine clv rfl (.cons (VLe.refl _) (.cons (VLe.refl _) (.nil))) (words_Valid kw ⟨s0, s1⟩) ?_
  refine nt rfl ?_
  refine asD rfl ?_
  refine OL.nil ?_
  refine AW.cond rfl (fun hno => absurd hno (by decide)) (fun _ => ?_)
  refine AW.skip ?_
  refine AW.seq ?_
  refine AW.region (by rw [hE]; rfl) ?_
  refine asM rfl ?_
  refine OL.nil ?_
  refine AW.seq ?_
  refine AW.seq ?_
  refine AW.region (by rw [hE]; rfl) ?_
  refine mvD rfl ?_
  refine lnL sl.ints rfl rfl ?_
  refine mvD rfl ?_
  refine OL.nil ?_
  refine AW.block ?_
  refine AW.own 10 60 T.int 1 rfl rfl ?_
  refine AW.whileK (α := Nat × Nat × Nat) [(6, _), (8, _), (9, _), (35, _), (36, _)] [] (fun (t, q, c) => [(10, .osl 60 q (runD h w t).2.length c), (37, .d (dI t))]) (fun (t, q, c) => [(6, .box b6 T.Rat [.d (.sc (.bool false)), .mt, .mt]), (8, .box b8 T.Online (cellsOn h (runD h w t).1)), (60, .row q c T.int 1 ((runD h w t).2.map dI))]) (fun (t, q, c) => t ≤ w.length ∧ InvD h w (runD h w t).1) (fun (t, q, c) => w.length - t) (0, 0, 0) (by repeat (first | exact Knows.nil | refine Knows.cons (by first | exact knD rfl | exact knA rfl | exact knP rfl | exact knO rfl | exact knM rfl | exact knE rfl | exact knR rfl | exact knF rfl | exact knT rfl | exact knJ) ?_)) .nil ⟨⟨Nat.zero_le _, inv_open⟩, .cons (by first | exact VLe.refl _ | exact VLe.int (by omega) | exact VLe.mt | exact vle_q0 | exact VLe.osl | exact VLe.ptr) (.cons (by first | exact VLe.refl _ | exact VLe.int (by omega) | exact VLe.mt | exact vle_q0 | exact VLe.osl | exact VLe.ptr) .nil), .cons rfl (.cons rfl (.cons rfl .nil))⟩ ?_
  rintro ⟨t, q, c⟩ ⟨h1, k⟩
  have h1 : t ≤ w.length := h1
  have k : InvD h w (runD h w t).1 := k
  have hot := run_t h w t
  have hdn := dn_le k
  have hrl := run_len h w t
  refine AW.seq ?_
  refine AW.region (by rw [hE]; rfl) ?_
  refine c_lss rfl rfl rfl ?_
  refine OL.nil ?_
  refine AW.seq ?_
  refine AW.cond rfl (fun h38 => ?_) (fun h38 => ?_)
  · first | (simp only [decide_eq_true_eq, decide_eq_false_iff_not, Bool.not_eq_true', Bool.not_eq_false', Bool.not_not, Bool.and_eq_true, Bool.and_eq_false_iff, Bool.or_eq_true, Bool.or_eq_false_iff] at h38) | skip
    refine AW.skip ?_
    refine AW.seq ?_
    refine AW.block ?_
    refine AW.seq ?_
    have hx := kw.symX (t := t) (by omega)
    have htl := tails_len k (by omega)
    refine AW.region (by rw [hE]; rfl) ?_
    refine ixLn sl.ints 0 rfl rfl (by omega) rfl rfl ?_
    refine ldRC ce.int rfl ?_
    refine asD rfl ?_
    refine OL.nil ?_
    refine AW.seq ?_
    refine AW.region (by rw [hE]; rfl) ?_
    refine ldPA ag.Online rfl rfl (vs := [_, _, _, _, _, _, _, _, _, _, _, _, _, _, _]) rfl (Nat.le_of_ble_eq_true rfl) ?_
    refine mvD rfl ?_
    rw [hx.2]
    refine clv rfl (.cons (VLe.refl _) (.cons (VLe.refl _) (.nil))) (on_Push g k (by omega) (by omega) hx.1) ?_
    refine mvT rfl ?_
    refine ex rfl rfl ?_
    refine ex rfl rfl ?_
    refine ex rfl rfl ?_
    refine al z.Online rfl fun b13 => ?_
    refine sto sz.Online rfl rfl rfl rfl rfl (Nat.le_of_ble_eq_true rfl) (cells2 := [_, _, _, _, _, _, _, _, _, _, _, _, _, _, _]) rfl ?_
    refine asD rfl ?_
    refine asD rfl ?_
    refine OL.nil ?_
    refine AW.seq ?_
    refine AW.seq ?_
    refine AW.region (by rw [hE]; rfl) ?_
    refine mvD rfl ?_
    refine c_neq rfl rfl rfl ?_
    refine OL.nil ?_
    refine AW.cond rfl (fun he => ?_) (fun he => ?_)
    · have he := push_E.resolve_left (nd_t he)
      have hns : ¬ someN h (runD h w t).1 (symX w t) h.st = true := fun e => by rw [show pushE h (runD h w t).1 (symX w t) = 0 from if_pos e] at he; cases he
      obtain ⟨z1, z2, z3⟩ := stuck_vit g k (by omega) (by rw [hot]; exact hns)
      refine AW.seq ?_
      refine AW.region (by rw [hE]; rfl) ?_
      refine bd z.Rat pl.Rat (cs := [_, _, _]) rfl ?_
      refine mvD rfl ?_
      refine asM rfl ?_
      refine asM rfl ?_
      refine sto sz.Rat rfl rfl rfl rfl rfl (Nat.le_of_ble_eq_true rfl) (cells2 := [_, _, _]) rfl ?_
      refine asD rfl ?_
      refine OL.nil ?_
      exact AW.ret (RetQ.r ⟨_, .tmp rfl (.tmp rfl (.cellA rfl rfl ag.Rat (Nat.le_of_ble_eq_true rfl) (.tmp rfl .nil))), _, .cons (.le (by rw [z3]; exact VLe.mt)) (.cons (.le (by rw [whenF, if_neg (by rw [z1]; decide)]; exact VLe.mt)) (.cons (.ag (.cons (.le (by rw [z2, ofQ_zero]; exact VLe.refl _)) (.cons (.le (by rw [z2, ofQ_zero]; exact VLe.mt)) (.cons (.le (by rw [z2, ofQ_zero]; exact VLe.mt)) .nil)))) (.cons (.le (VLe.int (by rw [he, z1]))) .nil))), rfl⟩)
    · have hs := push_ok (nd_f he)
      have hcl := cmt_len (h := h) (x := (symX w t)) htl h.st
      refine AW.skip ?_
      refine AW.seq ?_
      rw [show pushH h (runD h w t).1 (symX w t) = h from if_pos hs, show pushD h (runD h w t).1 (symX w t) = stepD h (runD h w t).1 (symX w t) from if_pos hs, show pushC h (runD h w t).1 (symX w t) = cmtF h (runD h w t).1 (symX w t) h.st from if_pos hs]
      refine AW.region (by rw [hE]; rfl) ?_
      refine ldPA ag.Online rfl rfl (vs := [_, _, _, _, _, _, _, _, _, _, _, _, _, _, _]) rfl (Nat.le_of_ble_eq_true rfl) ?_
      refine sto sz.Online rfl rfl rfl rfl rfl (Nat.le_of_ble_eq_true rfl) (cells2 := [_, _, _, _, _, _, _, _, _, _, _, _, _, _, _]) rfl ?_
      refine OL.nil ?_
      refine AW.region (by rw [hE]; rfl) ?_
      refine mvO rfl ?_
      refine faP fd.Online_1 rfl rfl ?_
      refine ldPC ce.int rfl rfl (v := .d (dI ((t + 1 : Nat)))) (congrArg (fun z : Nat => some (V.d (dI z))) (congrArg (· + 1) hot)) ?_
      refine lt1 (y := dI ((t + 1 : Nat))) sl.ints (VC.d _).vd rfl (by decide) ?_
      refine mvD rfl ?_
      refine lnL sl.ints rfl rfl ?_
      refine clv rfl (.cons (VLe.refl _) (.cons (VLe.refl _) (.nil))) (repeat_ints (v := ((t + 1 : Nat) : Int)) (n := (cmtF h (runD h w t).1 (symX w t) h.st).length) (by omega)) ?_
      refine apO sl.ints rfl rfl rfl (by rw [List.length_map]) (VC.d _) dI_len (by simp only [List.length_map, List.length_replicate]; omega) (by simp only [List.length_map, List.length_replicate]; omega) (.inr rfl) (ys := (runD h w (t + 1)).2.map dI) (by rw [← List.map_append]; rfl) (n2 := (runD h w (t + 1)).2.length) (by rw [show (runD h w (t + 1)).2 = (runD h w t).2 ++ List.replicate (cmtF h (runD h w t).1 (symX w t) h.st).length ((t + 1 : Nat) : Int) from rfl]; simp) fun q2 c2 => ?_
      refine asO rfl ?_
      refine OL.nil ?_
      refine AW.region (by rw [hE]; rfl) ?_
      refine add_i64 rfl rfl (by omega) ?_
      refine mvD rfl ?_
      refine OL.nil ?_
      exact AW.again (x := (t, q, c)) (t + 1, q2, c2) (by first | omega | (simp only []; omega)) ⟨⟨by omega, run_inv g (by omega) k hs⟩, Knows.app (.cons (VLe.refl _) (.cons (VLe.refl _) (.cons (VLe.refl _) (.cons (VLe.refl _) (.cons (VLe.refl _) .nil))))) (.cons (by first | exact VLe.refl _ | exact VLe.int (by omega) | exact VLe.mt | exact vle_q0 | exact VLe.osl | exact VLe.ptr) (.cons (by first | exact VLe.refl _ | exact VLe.int (by omega) | exact VLe.mt | exact vle_q0 | exact VLe.osl | exact VLe.ptr) .nil)), .cons rfl (.cons rfl (.cons rfl .nil))⟩
  · first | (simp only [decide_eq_true_eq, decide_eq_false_iff_not, Bool.not_eq_true', Bool.not_eq_false', Bool.not_not, Bool.and_eq_true, Bool.and_eq_false_iff, Bool.or_eq_true, Bool.or_eq_false_iff] at h38) | skip
    refine AW.exit ?_
    refine AW.seq ?_
    obtain rfl : t = w.length := by omega
    refine AW.region (by rw [hE]; rfl) ?_
    refine ldPA ag.Online rfl rfl (vs := [_, _, _, _, _, _, _, _, _, _, _, _, _, _, _]) rfl (Nat.le_of_ble_eq_true rfl) ?_
    refine clv rfl (.cons (VLe.refl _) (.nil)) (on_Finish g k (by omega)) ?_
    obtain ⟨v1, v2, v3⟩ := fin_vit g k hot
    rw [v1, v2, v3]
    refine mvT rfl ?_
    refine ex rfl rfl ?_
    refine ex rfl rfl ?_
    refine ex rfl rfl ?_
    refine al z.Rat rfl fun b17 => ?_
    refine asD rfl ?_
    refine sto sz.Rat rfl rfl rfl rfl rfl (Nat.le_of_ble_eq_true rfl) (cells2 := [_, _, _]) rfl ?_
    refine asD rfl ?_
    refine OL.nil ?_
    refine AW.seq ?_
    refine AW.seq ?_
    refine AW.region (by rw [hE]; rfl) ?_
    refine mvD rfl ?_
    refine c_neq rfl rfl rfl ?_
    refine OL.nil ?_
    refine AW.cond rfl (fun he => ?_) (fun he => ?_)
    · have he := (vitE_cases h w every).resolve_left (nd_t he)
      have z1 := he
      have z2 : bestR h w every = 0 := Decidable.byContradiction fun e => by rw [vitE_zero.2 e] at he; cases he
      have z3 := vitP_nil (h := h) (w := w) (p := every) (by rw [he]; decide)
      refine AW.seq ?_
      refine AW.region (by rw [hE]; rfl) ?_
      refine bd z.Rat pl.Rat (cs := [_, _, _]) rfl ?_
      refine mvD rfl ?_
      refine asM rfl ?_
      refine asM rfl ?_
      refine sto sz.Rat rfl rfl rfl rfl rfl (Nat.le_of_ble_eq_true rfl) (cells2 := [_, _, _]) rfl ?_
      refine asD rfl ?_
      refine OL.nil ?_
      exact AW.ret (RetQ.r ⟨_, .tmp rfl (.tmp rfl (.cellA rfl rfl ag.Rat (Nat.le_of_ble_eq_true rfl) (.tmp rfl .nil))), _, .cons (.le (by rw [z3]; exact VLe.mt)) (.cons (.le (by rw [whenF, if_neg (by rw [z1]; decide)]; exact VLe.mt)) (.cons (.ag (.cons (.le (by rw [z2, ofQ_zero]; exact VLe.refl _)) (.cons (.le (by rw [z2, ofQ_zero]; exact VLe.mt)) (.cons (.le (by rw [z2, ofQ_zero]; exact VLe.mt)) .nil)))) (.cons (.le (by first | exact VLe.refl _ | exact VLe.mt | exact vle_q0 | exact VLe.int (by omega) | exact VLe.bool (by simp_all))) .nil))), rfl⟩)
    · have he := nd_f he
      have hvl := vitP_len he
      refine AW.skip ?_
      refine AW.seq ?_
      refine AW.region_planS (val19 (vitP h w every) (runD h w w.length).2 (bestR h w every) q c b6) (blk19 (bestR h w every) b6) own19 12 order_free (by rw [hE]; rfl) (by rfl) (by kernel_rfl) (by kernel_rfl) ?_ ?_
      · refine cases12 ?_ ?_ ?_ ?_ ?_ ?_ ?_ ?_ ?_ ?_ ?_ ?_
        · exact fun β L c => ⟨_, rfl, .inl (OG.of_OL (mvD (y := ints (vitP h w every)) ((pS_old rfl).trans rfl) ⟨β, pS_put (d := 72) (i := 0) rfl (fun t ht => own19_inj ht (by decide)) (lt_size 13 c.size rfl (by decide)) rfl⟩))⟩
        · exact fun β L c => ⟨_, rfl, .inl (OG.of_OL (mvO ((pS_old rfl).trans rfl) ⟨β, pS_put (d := 73) (i := 1) rfl (fun t ht => own19_inj ht (by decide)) (lt_size 13 c.size rfl (by decide)) rfl⟩))⟩
        · exact fun β L c => ⟨_, rfl, .inl (OG.of_OL (mvD (y := ints (vitP h w every)) ((pS_old rfl).trans rfl) ⟨β, pS_put (d := 74) (i := 2) rfl (fun t ht => own19_inj ht (by decide)) (lt_size 13 c.size rfl (by decide)) rfl⟩))⟩
        · exact fun β L c => ⟨_, rfl, .inl (OG.of_OL (lnL sl.ints rfl (l := (vitP h w every)) (f := dI) (pS_new rfl (c.dep 2 (by kernel_rfl))) ⟨β, pS_put (d := 75) (i := 3) rfl (fun t ht => own19_inj ht (by decide)) (lt_size 13 c.size rfl (by decide)) rfl⟩))⟩
        · exact fun β L c => ⟨_, rfl, .inl (OG.of_OL (mvO ((pS_old rfl).trans rfl) ⟨β, pS_put (d := 76) (i := 4) rfl (fun t ht => own19_inj ht (by decide)) (lt_size 13 c.size rfl (by decide)) rfl⟩))⟩
        · exact fun β L c => ⟨_, rfl, .inl (OG.of_OL (lnO sl.ints rfl (pS_new rfl (c.dep 4 (by kernel_rfl))) ⟨β, pS_put (d := 77) (i := 5) rfl (fun t ht => own19_inj ht (by decide)) (lt_size 13 c.size rfl (by decide)) rfl⟩))⟩
        · exact fun β L c => ⟨_, rfl, .inl (OG.of_OL (bo (pS_new rfl (c.dep 3 (by kernel_rfl))) (pS_new rfl (c.dep 5 (by kernel_rfl))) (bin_sub (c := (((vitP h w every).length - (runD h w w.length).2.length : Nat) : Int)) (by omega) (wrap_i64 (by omega))) ⟨β, pS_put (d := 78) (i := 6) rfl (fun t ht => own19_inj ht (by decide)) (lt_size 13 c.size rfl (by decide)) rfl⟩))⟩
        · exact fun β L c => ⟨_, rfl, SG.of_SO (SO.appZero (id := 60) (l := (runD h w w.length).2) (n := (runD h w w.length).2.length) (k := (vitP h w every).length - (runD h w w.length).2.length) (kn := .i64) (show 79 < E.n by rw [hE]; exact Nat.le_of_ble_eq_true rfl) sl.ints it.int rfl (pS_new rfl (c.dep 1 (by kernel_rfl))) ((pS_M0 (t := 60) (i := 7) rfl c.no).trans rfl) rfl (pS_new rfl (c.dep 6 (by kernel_rfl))) ((pS_M0 (t := 79) (i := 7) rfl c.no).trans rfl) (by omega) (by omega) ⟨β, pS_putM (d := 79) (e := 60) (i := 7) rfl rfl (by decide) (fun t ht => own19_two ht) (lt_size 13 c.size rfl (by decide)) c.no rfl rfl rfl⟩)⟩
        · exact fun β L c => ⟨_, rfl, .inl (OG.of_OL (ldPA ag.Rat ((pS_old rfl).trans rfl) ((pS_Mold rfl).trans rfl) (vs := cellsQ (bestR h w every)) rfl (Nat.le_of_ble_eq_true rfl) ⟨β, pS_put (d := 80) (i := 8) rfl (fun t ht => own19_inj ht (by decide)) (lt_size 13 c.size rfl (by decide)) rfl⟩))⟩
        · exact fun β L c => ⟨_, rfl, .inl (OG.of_OL (asD (y := ints (vitP h w every)) (pS_new rfl (c.dep 0 (by kernel_rfl))) ⟨β, pS_put (d := 4) (i := 9) rfl (fun t ht => own19_inj ht (by decide)) (lt_size 13 c.size rfl (by decide)) rfl⟩))⟩
        · exact fun β L c => ⟨_, rfl, .inl (OG.of_OL (asD (pS_new rfl (c.dep 7 (by kernel_rfl))) ⟨β, pS_put (d := 5) (i := 10) rfl (fun t ht => own19_inj ht (by decide)) (lt_size 13 c.size rfl (by decide)) rfl⟩))⟩
        · exact fun β L c => ⟨_, rfl, .inl (OG.of_OL (sto sz.Rat ((pS_rho0 (t := 6) (i := 11) rfl c.no).trans rfl) (pS_new rfl (c.dep 8 (by kernel_rfl))) rfl ((pS_M0 (t := 6) (i := 11) rfl c.no).trans rfl) rfl (Nat.le_of_ble_eq_true rfl) (cells2 := cellsQ (bestR h w every)) rfl ⟨β, pS_sto (d := 6) (i := 11) rfl (fun t ht => own19_inj ht (by decide)) (lt_size 13 c.size rfl (by decide)) c.no rfl rfl⟩))⟩
      refine fun β L c => ⟨_, rfl, .inl (OG.of_OL (asD rfl ?_))⟩
      refine OL.nil ?_
      refine AW.to [(4, .d (ints (vitP h w every))), (5, .d (.sl (((runD h w w.length).2 ++ List.replicate ((vitP h w every).length - (runD h w w.length).2.length) 0).map dI))), (6, .ptr 6 b6 0), (7, .d (dI 0))] [(6, .box b6 T.Rat (cellsQ (bestR h w every)))] (.cons (vle_of_eq (putneS (show (4:Nat) ≠ 7 by decide) (pS_new (t := 4) (i := 9) rfl (c.dep 9 (by kernel_rfl))))) (.cons (vle_of_eq (putneS (show (5:Nat) ≠ 7 by decide) (pS_new (t := 5) (i := 10) rfl (c.dep 10 (by kernel_rfl))))) (.cons (vle_of_eq (putneS (show (6:Nat) ≠ 7 by decide) (pS_new (t := 6) (i := 11) rfl (c.dep 11 (by kernel_rfl))))) (.cons (vle_of_eq putsmS) (.nil))))) (.cons (putM (pS_M (t := 6) (i := 11) rfl (c.dep 11 (by kernel_rfl)) rfl)) (.nil)) ?_
      exact AW.ret (RetQ.r ⟨_, .tmp rfl (.tmp rfl (.cellA rfl rfl ag.Rat (Nat.le_of_ble_eq_true rfl) (.tmp rfl .nil))), _, .cons (.le (by first | exact VLe.refl _ | exact VLe.mt | exact vle_q0 | exact VLe.int (by omega) | exact VLe.bool (by simp_all))) (.cons (.le (vle_of_eq (by rw [whenF, if_pos he, hvl]; rfl))) (.cons (.ag (.cons (.le (by first | exact VLe.refl _ | exact VLe.mt | exact vle_q0 | exact VLe.int (by omega) | exact VLe.bool (by simp_all))) (.cons (.le (by first | exact VLe.refl _ | exact VLe.mt | exact vle_q0 | exact VLe.int (by omega) | exact VLe.bool (by simp_all))) (.cons (.le (by first | exact VLe.refl _ | exact VLe.mt | exact vle_q0 | exact VLe.int (by omega) | exact VLe.bool (by simp_all))) .nil)))) (.cons (.le (VLe.int he.symm)) .nil))), rfl⟩)
set_option maxRecDepth 6000 in
set_option maxHeartbeats 3200000 in
theorem law_OnlineIsViterbi {L l : List Int} {cs cy : Int} (nL : L.length ≤ 9223372036854775807) : FSpec P F.law37_OnlineIsViterbi [.ag [.d (dI cs), .d (dI cy), .d (ints L)], .d (ints l)] (.d (dB true)) := by
  obtain ⟨h, hh⟩ : ∃ h, h = chainHM L cs cy 4 := ⟨_, rfl⟩
  have hg : h.Good 1 := by rw [hh]; exact chainHM_good L cs cy (by decide)
  have f := hg.form
  have s0 := f.sym0
  have s1 := f.sym1
  obtain ⟨w, hw⟩ : ∃ w, w = wordF l h.sym 12 := ⟨_, rfl⟩
  have kw : WordOK h w := by rw [hw]; exact wordF_ok s0 (by decide)
  have wl : w.length ≤ 12 := by rw [hw]; exact wordF_len ..
  have bz := bestR_sz f (w := w) (by omega) every
  refine FSpec.intro fn.law37_OnlineIsViterbi (by rfl) (by rfl) (Nat.le_of_ble_eq_true (by rfl)) fun E hE => ?_
  refine AW.seq ?_
  refine AW.region (by rw [hE]; rfl) ?_
  refine bxA rfl rfl fun b2 => ?_
  refine asD rfl ?_
  refine OL.nil ?_
  refine AW.seq ?_
  refine AW.region (by rw [hE]; rfl) ?_
  refine ldPA ag.Chain rfl rfl (vs := [_, _, _]) rfl (Nat.le_of_ble_eq_true rfl) ?_
  refine clv rfl (.cons (VLe.refl _) (.cons (VLe.refl _) (.nil))) (chain_Hidden (by decide) nL) ?_
  rw [← hh]
  refine al z.Hidden rfl fun b5 => ?_
  refine sto sz.Hidden rfl rfl rfl rfl rfl (Nat.le_of_ble_eq_true rfl) (cells2 := [_, _, _, _, _, _, _, _, _, _, _]) rfl ?_
  refine OL.nil ?_
  refine AW.seq ?_
  refine AW.region (by rw [hE]; rfl) ?_
  refine mvD rfl ?_
  refine faP fd.Hidden_0 rfl rfl ?_
  refine ldPC ce.int rfl rfl rfl ?_
  refine clv rfl (.cons (VLe.refl _) (.cons (VLe.refl _) (.cons (VLe.refl _) (.nil)))) (world_Word (sym := h.sym) (most := 12) ⟨s0, by omega⟩ (by decide)) ?_
  rw [← hw]
  refine asD rfl ?_
  refine OL.nil ?_
  refine AW.seq ?_
  refine AW.region (by rw [hE]; rfl) ?_
  refine ldPA ag.Hidden rfl rfl (vs := [_, _, _, _, _, _, _, _, _, _, _]) rfl (Nat.le_of_ble_eq_true rfl) ?_
  refine mvD rfl ?_
  refine clv rfl (.cons (VLe.refl _) (.cons (VLe.refl _) (.nil))) (on_Run hg kw (by omega)) ?_
  refine mvT rfl ?_
  refine ex rfl rfl ?_
  refine ex rfl rfl ?_
  refine ex rfl rfl ?_
  refine ex rfl rfl ?_
  refine al z.Rat rfl fun b9 => ?_
  refine asD rfl ?_
  refine asD rfl ?_
  refine sto sz.Rat rfl rfl rfl rfl rfl (Nat.le_of_ble_eq_true rfl) (cells2 := [_, _, _]) rfl ?_
  refine asD rfl ?_
  refine OL.nil ?_
  refine AW.seq ?_
  refine AW.region (by rw [hE]; rfl) ?_
  refine ldPA ag.Hidden rfl rfl (vs := [_, _, _, _, _, _, _, _, _, _, _]) rfl (Nat.le_of_ble_eq_true rfl) ?_
  refine mvD rfl ?_
  refine clv rfl (.cons (VLe.refl _) (.cons (VLe.refl _) (.nil))) (vit_Best hg kw) ?_
  refine mvT rfl ?_
  refine ex rfl rfl ?_
  refine ex rfl rfl ?_
  refine ex rfl rfl ?_
  refine al z.Rat rfl fun b12 => ?_
  refine asD rfl ?_
  refine sto sz.Rat rfl rfl rfl rfl rfl (Nat.le_of_ble_eq_true rfl) (cells2 := [_, _, _]) rfl ?_
  refine asD rfl ?_
  refine OL.nil ?_
  refine AW.seq ?_
  refine AW.seq ?_
  refine AW.region (by rw [hE]; rfl) ?_
  refine mvD rfl ?_
  refine c_neq rfl rfl rfl ?_
  refine mvD rfl ?_
  refine OL.split 39 rfl (fun he => ?_) (fun he => ?_)
  · have he := (vitE_cases h w every).resolve_left (nd_t he)
    refine OL.no rfl (by decide) ?_
    refine OL.no rfl (by decide) ?_
    refine pkT rfl rfl ?_
    refine OL.nil ?_
    refine AW.cond rfl (fun _ => ?_) (fun hno => absurd hno (by decide))
    refine AW.seq ?_
    refine AW.region (by rw [hE]; rfl) ?_
    refine clv rfl .nil law37_known ?_
    refine mvD rfl ?_
    refine OL.yes rfl ?_
    refine mvD rfl ?_
    refine OL.yes rfl ?_
    refine c_eql rfl rfl (c := true) (decide_eq_true he) ?_
    refine pkT rfl rfl ?_
    refine mvD rfl ?_
    refine OL.yes rfl ?_
    refine mvD rfl ?_
    refine OL.yes rfl ?_
    refine c_eql rfl rfl (c := true) (decide_eq_true he) ?_
    refine pkT rfl rfl ?_
    refine asD rfl ?_
    refine OL.nil ?_
    exact AW.ret (RetQ.r ⟨_, .tmp rfl .nil, .le (by first | exact VLe.refl _ | exact VLe.mt | exact vle_q0 | exact VLe.int (by omega) | exact VLe.bool (by simp_all))⟩)
  · have he := nd_f he
    have hvl := vitP_len he
    obtain ⟨m, hm, hwl, hz, hp⟩ := when_ok hg he
    refine OL.yes rfl ?_
    refine mvD rfl ?_
    refine OL.yes rfl ?_
    refine c_neq rfl rfl (c := false) (cne_f he) ?_
    refine pkF rfl rfl ?_
    refine OL.nil ?_
    refine AW.cond rfl (fun hno => absurd hno (by decide)) (fun _ => ?_)
    refine AW.skip ?_
    refine AW.seq ?_
    refine AW.seq ?_
    refine AW.region (by rw [hE]; rfl) ?_
    refine mvD rfl ?_
    refine lnL sl.ints rfl rfl ?_
    refine mvD rfl ?_
    refine lnL sl.ints rfl rfl ?_
    refine c_neq rfl rfl (c := false) (cne_f (by omega)) ?_
    refine OL.nil ?_
    refine AW.cond rfl (fun hno => absurd hno (by decide)) (fun _ => ?_)
    refine AW.skip ?_
    refine AW.seq ?_
    refine AW.region (by rw [hE]; rfl) ?_
    refine asD rfl ?_
    refine OL.nil ?_
    refine AW.seq ?_
    refine AW.seq ?_
    refine AW.region (by rw [hE]; rfl) ?_
    refine asD rfl ?_
    refine OL.nil ?_
    refine AW.block ?_
    refine AW.whileK (α := Nat) [(6, _), (7, _), (8, _), (9, _), (11, _), (12, _)] [(9, _), (12, _)] (fun t => [(14, .d (dB (decide (m < t)))), (15, .d (dI t))]) (fun t => []) (fun t => t ≤ w.length) (fun t => w.length - t) 0 (by repeat (first | exact Knows.nil | refine Knows.cons (by first | exact knD rfl | exact knA rfl | exact knP rfl | exact knO rfl | exact knM rfl | exact knE rfl | exact knR rfl | exact knF rfl | exact knT rfl | exact knJ) ?_)) (by repeat (first | exact Owns.nil | refine Owns.cons (by first | exact owB rfl | exact owR rfl | exact owL rfl | exact owT rfl) ?_)) ⟨Nat.zero_le _, .cons (VLe.bool ((decide_eq_false (Nat.not_lt_zero m)).symm)) (.cons (by first | exact VLe.refl _ | exact VLe.int (by omega) | exact VLe.mt | exact vle_q0 | exact VLe.osl | exact VLe.ptr) .nil), .nil⟩ ?_
    intro t h1
    have h1 : t ≤ w.length := h1
    refine AW.seq ?_
    refine AW.seq ?_
    refine AW.region (by rw [hE]; rfl) ?_
    refine mvD rfl ?_
    refine mvD rfl ?_
    refine lnL sl.ints rfl rfl ?_
    refine c_lss rfl rfl rfl ?_
    refine OL.nil ?_
    refine AW.cond rfl (fun h60 => ?_) (fun h60 => ?_)
    · first | (simp only [decide_eq_true_eq, decide_eq_false_iff_not, Bool.not_eq_true', Bool.not_eq_false', Bool.not_not, Bool.and_eq_true, Bool.and_eq_false_iff, Bool.or_eq_true, Bool.or_eq_false_iff] at h60) | skip
      refine AW.skip ?_
      refine AW.seq ?_
      refine AW.block ?_
      have hzt := hz t (by omega)
      refine AW.midK (α := Unit) [(6, _), (7, _), (8, _), (9, _), (11, _), (12, _), (15, _)] [(9, _), (12, _)] (fun _u => [(14, .d (dB (decide (m ≤ t))))]) (fun _u => []) (fun _u => True) (by repeat (first | exact Knows.nil | refine Knows.cons (by first | exact knD rfl | exact knA rfl | exact knP rfl | exact knO rfl | exact knM rfl | exact knE rfl | exact knR rfl | exact knF rfl | exact knT rfl | exact knJ) ?_)) (by repeat (first | exact Owns.nil | refine Owns.cons (by first | exact owB rfl | exact owR rfl | exact owL rfl | exact owT rfl) ?_)) ?_ ?_
      · refine AW.region (by rw [hE]; rfl) ?_
        refine mvD rfl ?_
        refine mvD rfl ?_
        refine OL.split 64 rfl (fun g1 => ?_) (fun g1 => ?_)
        · have g1 : m < t := of_decide_eq_true g1
          refine OL.no rfl (by decide) ?_
          refine OL.no rfl (by decide) ?_
          refine OL.no rfl (by decide) ?_
          refine OL.no rfl (by decide) ?_
          refine OL.no rfl (by decide) ?_
          refine pkT rfl rfl ?_
          refine asD rfl ?_
          refine OL.nil ?_
          exact AW.reach () ⟨trivial, Knows.app (.cons (VLe.refl _) (.cons (VLe.refl _) (.cons (VLe.refl _) (.cons (VLe.refl _) (.cons (VLe.refl _) (.cons (VLe.refl _) (.cons (VLe.refl _) .nil))))))) (.cons (VLe.bool ((decide_eq_true (by omega)).symm)) .nil), Owns.app (.cons rfl (.cons rfl .nil)) (.nil)⟩
        · have g1 : ¬ m < t := of_decide_eq_false g1
          refine OL.yes rfl ?_
          refine mvD rfl ?_
          refine OL.yes rfl ?_
          refine mvD rfl ?_
          refine OL.yes rfl ?_
          refine ixLn sl.ints 0 rfl rfl (by omega) rfl rfl ?_
          refine OL.yes rfl ?_
          refine ldRC ce.int rfl ?_
          refine OL.yes rfl ?_
          refine c_eql rfl rfl rfl ?_
          refine pkF rfl rfl ?_
          refine asD rfl ?_
          refine OL.nil ?_
          exact AW.reach () ⟨trivial, Knows.app (.cons (VLe.refl _) (.cons (VLe.refl _) (.cons (VLe.refl _) (.cons (VLe.refl _) (.cons (VLe.refl _) (.cons (VLe.refl _) (.cons (VLe.refl _) .nil))))))) (.cons (VLe.bool (decide_eq_decide.2 hzt)) .nil), Owns.app (.cons rfl (.cons rfl .nil)) (.nil)⟩
      rintro ⟨⟩ hφ
      refine AW.seq ?_
      refine AW.region_draw 1 [0, 1, 2, 3, 4, 5, 6, 7, 8, 9, 10, 11, 12, 13, 14, 15, 16, 17, 18, 19, 20, 21, 22, 23, 24, 25, 26, 27, 28, 29, 30, 31, 32, 33, 34, 35, 36, 37, 38, 39, 40, 41, 42, 43, 44] order_free (by rw [hE]; rfl) (by kernel_rfl) (OI.of_OL (os := [_, _, _, _, _, _, _, _, _, _, _, _, _, _, _, _, _, _, _, _, _, _, _, _, _, _, _, _, _, _, _, _, _, _, _, _, _, _, _, _, _, _, _, _, _]) rfl ?_)
      refine mvD rfl ?_
      refine mvD rfl ?_
      refine mvD rfl ?_
      refine ixLn sl.ints 0 rfl rfl (by omega) rfl rfl ?_
      refine ldRC ce.int rfl ?_
      refine c_eql rfl rfl rfl ?_
      refine neb (a := decide (m ≤ t)) (b := decide ((whenF h w).getD t 0 = 0)) bt.bool rfl rfl ?_
      rw [show (!(decide (m ≤ t) == decide ((whenF h w).getD t 0 = 0))) = false by rw [decide_eq_decide.2 hzt, beq_self_eq_true]; rfl]
      refine mvD rfl ?_
      refine OL.yes rfl ?_
      refine mvD rfl ?_
      refine OL.yes rfl ?_
      refine nt rfl ?_
      refine OL.yes rfl ?_
      refine mvD rfl ?_
      refine OL.split 81 rfl (fun g2 => ?_) (fun g2 => ?_)
      · have g2 : t < m := by simp at g2; omega
        obtain ⟨p1, p2, p3⟩ := hp t g2
        refine OL.yes rfl ?_
        refine mvD rfl ?_
        refine OL.yes rfl ?_
        refine mvD rfl ?_
        refine OL.yes rfl ?_
        refine ixLn sl.ints 0 rfl rfl (by omega) rfl rfl ?_
        refine OL.yes rfl ?_
        refine ldRC ce.int rfl ?_
        refine OL.yes rfl ?_
        refine mvD rfl ?_
        refine OL.yes rfl ?_
        refine add_i64 rfl rfl (by omega) ?_
        refine OL.yes rfl ?_
        refine c_lss rfl rfl (c := false) (decide_eq_false (by omega)) ?_
        refine OL.yes rfl ?_
        refine mvD rfl ?_
        refine OL.yes rfl ?_
        refine mvD rfl ?_
        refine OL.yes rfl ?_
        refine mvD rfl ?_
        refine OL.yes rfl ?_
        refine ixLn sl.ints 0 rfl rfl (by omega) rfl rfl ?_
        refine OL.yes rfl ?_
        refine ldRC ce.int rfl ?_
        refine OL.yes rfl ?_
        refine mvD rfl ?_
        refine OL.yes rfl ?_
        refine lnL sl.ints rfl rfl ?_
        refine OL.yes rfl ?_
        refine c_gtr rfl rfl (c := false) (decide_eq_false (by omega)) ?_
        refine OL.yes rfl ?_
        refine pkF rfl rfl ?_
        refine OL.yes rfl ?_
        refine mvD rfl ?_
        refine OL.yes rfl ?_
        refine mvD rfl ?_
        refine OL.yes rfl ?_
        refine c_gtr rfl rfl rfl ?_
        refine OL.yes rfl ?_
        refine mvD rfl ?_
        refine OL.split 101 rfl (fun g3 => ?_) (fun g3 => ?_)
        · have g3 : 0 < t := by have := of_decide_eq_true g3; omega
          have p3 := p3 g3
          refine OL.yes rfl ?_
          refine mvD rfl ?_
          refine OL.yes rfl ?_
          refine mvD rfl ?_
          refine OL.yes rfl ?_
          refine ixLn sl.ints 0 rfl rfl (by omega) rfl rfl ?_
          refine OL.yes rfl ?_
          refine ldRC ce.int rfl ?_
          refine OL.yes rfl ?_
          refine mvD rfl ?_
          refine OL.yes rfl ?_
          refine mvD rfl ?_
          refine OL.yes rfl ?_
          refine bo rfl rfl (bin_sub (c := ((t - 1 : Nat) : Int)) (by omega) (wrap_i64 (by omega))) ?_
          refine OL.yes rfl ?_
          refine ixLn sl.ints 0 rfl rfl (by omega) rfl rfl ?_
          refine OL.yes rfl ?_
          refine ldRC ce.int rfl ?_
          refine OL.yes rfl ?_
          refine c_lss rfl rfl (c := false) (decide_eq_false (by omega)) ?_
          refine OL.yes rfl ?_
          refine pkT rfl rfl ?_
          refine OL.yes rfl ?_
          refine pkF rfl rfl ?_
          refine OL.yes rfl ?_
          refine pkT rfl rfl ?_
          refine pkF rfl rfl ?_
          refine OL.nil ?_
          refine AW.cond rfl (fun hno => absurd hno (by decide)) (fun _ => ?_)
          refine AW.skip ?_
          refine AW.region (by rw [hE]; rfl) ?_
          refine mvD rfl ?_
          refine add_i64 rfl rfl (by omega) ?_
          refine asD rfl ?_
          refine OL.nil ?_
          exact AW.again (x := t) (t + 1) (by first | omega | (simp only []; omega)) ⟨by omega, Knows.app (.cons (VLe.refl _) (.cons (VLe.refl _) (.cons (VLe.refl _) (.cons (VLe.refl _) (.cons (VLe.refl _) (.cons (VLe.refl _) .nil)))))) (.cons (VLe.bool (decide_eq_decide.2 (by omega))) (.cons (by first | exact VLe.refl _ | exact VLe.int (by omega) | exact VLe.mt | exact vle_q0 | exact VLe.osl | exact VLe.ptr) .nil)), Owns.app (.cons rfl (.cons rfl .nil)) (.nil)⟩
        · have g3 : ¬ 0 < t := by have := of_decide_eq_false g3; omega
          refine OL.no rfl (by decide) ?_
          refine OL.no rfl (by decide) ?_
          refine OL.no rfl (by decide) ?_
          refine OL.no rfl (by decide) ?_
          refine OL.no rfl (by decide) ?_
          refine OL.no rfl (by decide) ?_
          refine OL.no rfl (by decide) ?_
          refine OL.no rfl (by decide) ?_
          refine OL.no rfl (by decide) ?_
          refine OL.no rfl (by decide) ?_
          refine OL.yes rfl ?_
          refine pkF rfl rfl ?_
          refine OL.yes rfl ?_
          refine pkF rfl rfl ?_
          refine OL.yes rfl ?_
          refine pkT rfl rfl ?_
          refine pkF rfl rfl ?_
          refine OL.nil ?_
          refine AW.cond rfl (fun hno => absurd hno (by decide)) (fun _ => ?_)
          refine AW.skip ?_
          refine AW.region (by rw [hE]; rfl) ?_
          refine mvD rfl ?_
          refine add_i64 rfl rfl (by omega) ?_
          refine asD rfl ?_
          refine OL.nil ?_
          exact AW.again (x := t) (t + 1) (by first | omega | (simp only []; omega)) ⟨by omega, Knows.app (.cons (VLe.refl _) (.cons (VLe.refl _) (.cons (VLe.refl _) (.cons (VLe.refl _) (.cons (VLe.refl _) (.cons (VLe.refl _) .nil)))))) (.cons (VLe.bool (decide_eq_decide.2 (by omega))) (.cons (by first | exact VLe.refl _ | exact VLe.int (by omega) | exact VLe.mt | exact vle_q0 | exact VLe.osl | exact VLe.ptr) .nil)), Owns.app (.cons rfl (.cons rfl .nil)) (.nil)⟩
      · have g2 : m ≤ t := by simp at g2; omega
        refine OL.no rfl (by decide) ?_
        refine OL.no rfl (by decide) ?_
        refine OL.no rfl (by decide) ?_
        refine OL.no rfl (by decide) ?_
        refine OL.no rfl (by decide) ?_
        refine OL.no rfl (by decide) ?_
        refine OL.no rfl (by decide) ?_
        refine OL.no rfl (by decide) ?_
        refine OL.no rfl (by decide) ?_
        refine OL.no rfl (by decide) ?_
        refine OL.no rfl (by decide) ?_
        refine OL.no rfl (by decide) ?_
        refine OL.no rfl (by decide) ?_
        refine OL.no rfl (by decide) ?_
        refine OL.no rfl (by decide) ?_
        refine OL.no rfl (by decide) ?_
        refine OL.no rfl (by decide) ?_
        refine OL.no rfl (by decide) ?_
        refine OL.no rfl (by decide) ?_
        refine OL.no rfl (by decide) ?_
        refine OL.no rfl (by decide) ?_
        refine OL.no rfl (by decide) ?_
        refine OL.no rfl (by decide) ?_
        refine OL.no rfl (by decide) ?_
        refine OL.no rfl (by decide) ?_
        refine OL.no rfl (by decide) ?_
        refine OL.no rfl (by decide) ?_
        refine OL.no rfl (by decide) ?_
        refine OL.no rfl (by decide) ?_
        refine OL.no rfl (by decide) ?_
        refine OL.no rfl (by decide) ?_
        refine OL.no rfl (by decide) ?_
        refine OL.yes rfl ?_
        refine pkF rfl rfl ?_
        refine pkF rfl rfl ?_
        refine OL.nil ?_
        refine AW.cond rfl (fun hno => absurd hno (by decide)) (fun _ => ?_)
        refine AW.skip ?_
        refine AW.region (by rw [hE]; rfl) ?_
        refine mvD rfl ?_
        refine add_i64 rfl rfl (by omega) ?_
        refine asD rfl ?_
        refine OL.nil ?_
        exact AW.again (x := t) (t + 1) (by first | omega | (simp only []; omega)) ⟨by omega, Knows.app (.cons (VLe.refl _) (.cons (VLe.refl _) (.cons (VLe.refl _) (.cons (VLe.refl _) (.cons (VLe.refl _) (.cons (VLe.refl _) .nil)))))) (.cons (VLe.bool (decide_eq_decide.2 (by omega))) (.cons (by first | exact VLe.refl _ | exact VLe.int (by omega) | exact VLe.mt | exact vle_q0 | exact VLe.osl | exact VLe.ptr) .nil)), Owns.app (.cons rfl (.cons rfl .nil)) (.nil)⟩
    · first | (simp only [decide_eq_true_eq, decide_eq_false_iff_not, Bool.not_eq_true', Bool.not_eq_false', Bool.not_not, Bool.and_eq_true, Bool.and_eq_false_iff, Bool.or_eq_true, Bool.or_eq_false_iff] at h60) | skip
      refine AW.exit ?_
      refine AW.seq ?_
      refine AW.region (by rw [hE]; rfl) ?_
      refine clv rfl .nil law37_known ?_
      refine mvD rfl ?_
      refine OL.yes rfl ?_
      refine mvD rfl ?_
      refine OL.yes rfl ?_
      refine mvD rfl ?_
      refine OL.yes rfl ?_
      refine clv rfl (.cons (VLe.refl _) (.cons (VLe.refl _) (.nil))) (law37_same (l := (vitP h w every)) (m := (vitP h w every)) (by omega)) ?_
      rw [decide_eq_true rfl]
      refine pkT rfl rfl ?_
      refine mvD rfl ?_
      refine OL.yes rfl ?_
      refine ldPA ag.Rat rfl rfl (vs := [_, _, _]) rfl (Nat.le_of_ble_eq_true rfl) ?_
      refine OL.yes rfl ?_
      refine ldPA ag.Rat rfl rfl (vs := [_, _, _]) rfl (Nat.le_of_ble_eq_true rfl) ?_
      refine OL.yes rfl ?_
      refine clv rfl (.cons (VLe.refl _) (.cons (VLe.refl _) (.nil))) (ref_CompareQ (x := (bestR h w every)) (y := (bestR h w every)) (by omega) (by omega)) ?_
      rw [show cmpQ (bestR h w every) (bestR h w every) = 0 from cmpQ_eq.2 rfl]
      refine OL.yes rfl ?_
      refine c_eql rfl rfl rfl ?_
      refine pkT rfl rfl ?_
      refine asD rfl ?_
      refine OL.nil ?_
      exact AW.ret (RetQ.r ⟨_, .tmp rfl .nil, .le (by first | exact VLe.refl _ | exact VLe.mt | exact vle_q0 | exact VLe.int (by omega) | exact VLe.bool (by simp_all))⟩)
end Go.Proofs.YtcebciggodhmcaaGreat

/-
  Walks for chapter 39, part 15: the ascent and its check (printed by mk2.py).
-/
import Derived.Test.YtoohdcpikkkanaaGreatKAsN
set_option linter.unusedVariables false
set_option linter.unusedSimpArgs false
namespace Go.Proofs.YtoohdcpikkkanaaGreat
open Go Go.AL
abbrev dHM (h : HM) : D := .ag h.cells
abbrev dIV (X : List (List Int)) (K : Nat) (h : HM) : D := .ag [dB (ofQ (loX X K h)).neg, u32s (ofQ (loX X K h)).num, u32s (ofQ (loX X K h)).den, dB (ofQ (hiX X K h)).neg, u32s (ofQ (hiX X K h)).num, u32s (ofQ (hiX X K h)).den]
abbrev vIV (X : List (List Int)) (K : Nat) (h : HM) : V := .ag [.d (dB (ofQ (loX X K h)).neg), .d (u32s (ofQ (loX X K h)).num), .d (u32s (ofQ (loX X K h)).den), .d (dB (ofQ (hiX X K h)).neg), .d (u32s (ofQ (hiX X K h)).num), .d (u32s (ofQ (hiX X K h)).den)]
theorem vd_HM {h : HM} : VD (vHM h) (dHM h) := VD.ag (VCs.map_d h.cells)
theorem vd_IV {X : List (List Int)} {K : Nat} {h : HM} : VD (vIV X K h) (dIV X K h) := VD.ag (VCs.map_d [_,_,_,_,_,_])
theorem asc_stop {X : List (List Int)} {g K n : Nat} {ms : List HM} (h : sameHM (nextM X g (lastM ms)) (lastM ms) = true) : ascF X g K (n + 1) ms = (ms, 1) := by rw [ascF, if_pos h]
theorem asc_low {X : List (List Int)} {g K n : Nat} {ms : List HM} (h : ¬ sameHM (nextM X g (lastM ms)) (lastM ms) = true) (h2 : loX X K (nextM X g (lastM ms)) < hiX X K (lastM ms)) : ascF X g K (n + 1) ms = (ms, 2) := by rw [ascF, if_neg h, if_pos h2]
theorem asc_on {X : List (List Int)} {g K n : Nat} {ms : List HM} (h : ¬ sameHM (nextM X g (lastM ms)) (lastM ms) = true) (h2 : ¬ loX X K (nextM X g (lastM ms)) < hiX X K (lastM ms)) : ascF X g K (n + 1) ms = ascF X g K n (ms ++ [nextM X g (lastM ms)]) := by rw [ascF, if_neg h, if_neg h2]
def ownA9 : Nat → Option Nat
 | 69 => some 0
 | 70 => some 1
 | 71 => some 2
 | 72 => some 3
 | 73 => some 4
 | 74 => some 5
 | 16 => some 6
 | _ => none
theorem ownA9_inj {t i : Nat} (h : ownA9 t = some i) : t = [69, 70, 71, 72, 73, 74, 16].getD i 0 := by
 unfold ownA9 at h
 split at h <;> first | (cases h; rfl) | cases h
noncomputable def valA9 (h : HM) (X : List (List Int)) (K : Nat) (t : Nat) (β : Nat → Nat × Nat) : V :=
 match t with
 | 69 | 70 => vHM h
 | 71 => .osl 71 (β 71).1 1 1
 | 72 => vIV X K h
 | 73 => .osl 73 (β 73).1 1 1
 | 74 => .ag [.osl 71 (β 71).1 1 1, .osl 73 (β 73).1 1 1, .d (dI 3)]
 | 16 => .ptr 16 (β 16).1 0
 | _ => .junk
noncomputable abbrev telA9 (h : HM) (X : List (List Int)) (K : Nat) : List Tell := [⟨71, 2, fun β => .row (β 71).1 1 T.Hidden 11 [dHM h]⟩, ⟨73, 4, fun β => .row (β 73).1 1 T.Interval 6 [dIV X K h]⟩, ⟨16, 6, fun β => .box (β 16).1 T.Trace [.mt, .mt, .d (dI 0)]⟩]
theorem casA9 {p : Nat → Prop} (h0 : p 0) (h1 : p 1) (h2 : p 2) (h3 : p 3) (h4 : p 4) (h5 : p 5) (h6 : p 6) : ∀ i, i < 7 → p i := fun i hi => by
 have : i = 0 ∨ i = 1 ∨ i = 2 ∨ i = 3 ∨ i = 4 ∨ i = 5 ∨ i = 6 := by omega
 rcases this with rfl | rfl | rfl | rfl | rfl | rfl | rfl <;> assumption
theorem ascent_same {x y : Rat} (hx : sz x ≤ 68719476736) (hy : sz y ≤ 68719476736) : FSpec P F.ascent_same [vQ x, vQ y] (.d (dB (decide (x = y)))) := by
 refine FSpec.intro fn.ascent_same (by rfl) (by rfl) (nb9 (by rfl)) fun E hE => (AW.sg hE rfl (bxA rfl rfl fun b2 => (bxA rfl rfl fun b3 => (asD rfl (OL.nil (AW.sg hE rfl (ldPA ag.Rat rfl rfl (vs := [_,_,_]) rfl (nb9 rfl) ?_)))))))
 exact ldPA ag.Rat rfl rfl (vs := [_,_,_]) rfl (nb9 rfl) (clv rfl (.cons (VLe.refl _) (.cons (VLe.refl _) .nil)) (rational_CompareQ (by assumption) (by assumption)) (c_eql rfl rfl rfl (asD rfl (OL.nil (AW.ret (RetQ.r ⟨_, .tmp rfl .nil, .le (VLe.bool (decide_eq_decide.2 cmpQ_eq))⟩))))))
set_option maxRecDepth 8000 in
set_option maxHeartbeats 6400000 in
theorem ascent_Ascend1 {h : HM} {X : List (List Int)} {g K N : Nat} (k : h.Good 1) (k1 : Data1 h X) (ha : AllL h X) (hs : h.sym ≤ 3) (ht : h.st ≤ 4) (hg : 1 ≤ g ∧ g ≤ 1048576) (hK : 8 ≤ K ∧ K ≤ 256) (hN : N ≤ 12) : FSpec P F.ascent_Ascend [vHM h, .d (dIss X), .d (dI g), .d (dI K), .d (dI N)] (.tup [.ag [.d (.sl ((ascF X g K N [h]).1.map dHM)), .d (.sl ((ascF X g K N [h]).1.map (dIV X K))), .d (dI (ascF X g K N [h]).2)], .d (dI 0)]) := by
 have f := k.form
 have k5 := k1.ok
 have k1l := k5.len
 have zl := lk_sz f k5 X.length (Nat.le_refl _)
 have hp := (lk_pos k).2 ha
 refine FSpec.intro fn.ascent_Ascend (by rfl) (by rfl) (nb9 (by rfl)) fun E hE => (AW.sg hE rfl (bxA rfl rfl fun b5 => (al z.Trace rfl fun b10 => (asD rfl (OL.nil (AW.sg hE rfl (ldPA ag.Hidden rfl rfl (vs := [_,_,_,_,_,_,_,_,_,_,_]) rfl (nb9 rfl) ?_)))))))
 refine mvD rfl (clv rfl (.cons (VLe.refl _) (.cons (VLe.refl _) (.nil))) (ascent_Likelihood k k5) (mvT rfl (ex rfl rfl (ex rfl rfl (al z.Rat rfl fun b12 => (sto sz.Rat rfl rfl rfl rfl rfl (nb9 rfl) (cells2 := [_,_,_]) rfl (asD rfl ?_)))))))
 refine OL.nil (AW.seq (AW.block (AW.sg hE rfl (mvD rfl (c_neq rfl rfl (c := false) (by exact cne_f (by omega)) (asD rfl (OL.nil ?_)))))))
 refine AW.cond rfl (fun hno => absurd hno (by decide)) (fun _ => ?_)
 refine AW.sg hE rfl (mvD rfl (c_lss rfl rfl (c := false) (by exact decide_eq_false (by omega)) (mvD rfl (OL.yes rfl (mvD rfl (OL.yes rfl (c_gtr rfl rfl (c := false) (by exact decide_eq_false (by omega)) ?_)))))))
 refine pkF rfl rfl (mvD rfl (OL.yes rfl (mvD rfl (OL.yes rfl (c_lss rfl rfl (c := false) (by exact decide_eq_false (by omega)) (pkF rfl rfl (mvD rfl ?_)))))))
 refine OL.yes rfl (mvD rfl (OL.yes rfl (c_gtr rfl rfl (c := false) (by exact decide_eq_false (by omega)) (pkF rfl rfl (mvD rfl (OL.yes rfl (mvD rfl ?_)))))))
 refine OL.yes rfl (c_lss rfl rfl (c := false) (by exact decide_eq_false (by omega)) (pkF rfl rfl (mvD rfl (OL.yes rfl (mvD rfl (OL.yes rfl (c_gtr rfl rfl (c := false) (by exact decide_eq_false (by omega)) ?_)))))))
 refine pkF rfl rfl (asD rfl (OL.nil (AW.cond rfl (fun hno => absurd hno (by decide)) (fun _ => ?_))))
 refine AW.sg hE rfl (ldPA ag.Rat rfl rfl (vs := [_,_,_]) rfl (nb9 rfl) (clv rfl (.cons (VLe.refl _) (.nil)) (rational_SignQ (x := lkN h X X.length) (by omega)) (c_eql rfl rfl (c := false) (decide_eq_false fun e => Rat.ne_of_gt hp (sgnQ_eq.1 e)) (asD rfl (OL.nil (AW.cond rfl (fun hno => absurd hno (by decide)) (fun _ => ?_)))))))
 refine AW.skip (AW.sg hE rfl (ldPA ag.Hidden rfl rfl (vs := [_,_,_,_,_,_,_,_,_,_,_]) rfl (nb9 rfl) (mvD rfl (mvD rfl (clv rfl (.cons (VLe.refl _) (.cons (VLe.refl _) (.cons (VLe.refl _) (.nil)))) (ascent_Enclose k k5 hK) (mvT rfl (ex rfl rfl ?_)))))))
 refine ex rfl rfl (al z.Interval rfl fun b14 => (sto sz.Interval rfl rfl rfl rfl rfl (nb9 rfl) (cells2 := [_,_,_,_,_,_]) rfl (asD rfl (OL.nil (AW.seq (AW.region_planT (valA9 h X K) ownA9 (telA9 h X K) 7 order_free (by rw [hE]; rfl) (by rfl) (by kernel_rfl) (by kernel_rfl) ?_ ?_))))))
 ·refine casA9 ?_ ?_ ?_ ?_ ?_ ?_ ?_
  ·exact fun β L c9 => ⟨_, rfl, .inl (OG.of_OL (ldPA ag.Hidden (id := 5) (b := b5) (o := 0) ((pG_old rfl).trans rfl) ((pG_M (mfT_skip (show (5:Nat) ≠ 71 by decide) (mfT_skip (show (5:Nat) ≠ 73 by decide) (mfT_skip (show (5:Nat) ≠ 16 by decide) rfl)))) : _ = some (.box b5 T.Hidden (cellsHM h))) (vs := [_,_,_,_,_,_,_,_,_,_,_]) rfl (nb9 rfl) ⟨β, pG_put (d := 69) (i := 0) rfl (fun t ht => ownA9_inj ht) (lt_size 8 c9.size rfl (by decide)) (mfT_same (lt_size 8 c9.size rfl (by decide)) (by rfl))⟩))⟩
  ·exact fun β L c9 => ⟨_, rfl, .inl (OG.of_OL (clv rfl (.cons (vle_of_eq (pG_new rfl (come_dep (j := 0) c9 (by kernel_rfl)))) .nil) (fresh_Hidden f) ⟨β, pG_put (d := 70) (i := 1) rfl (fun t ht => ownA9_inj ht) (lt_size 8 c9.size rfl (by decide)) (mfT_same (lt_size 8 c9.size rfl (by decide)) (by rfl))⟩))⟩
  ·exact fun β L c9 => ⟨_, rfl, .inl (OG.of_OL (lt1O (y := dHM h) sl.Hiddens (vd_to (pG_new rfl (come_dep (j := 1) c9 (by kernel_rfl))) vd_HM) rfl (by decide) (pG_M (mfT_no (by exact c9.no) (mfT_skip (show (71:Nat) ≠ 73 by decide) (mfT_skip (show (71:Nat) ≠ 16 by decide) rfl)))) fun b8 => ⟨upd β 71 (b8, 0), pG_set (d := 71) (i := 2) (x := (b8, 0)) rfl (fun t ht => ownA9_inj ht) (lt_size 8 c9.size rfl (by decide)) rfl (mfT_here (lt_size 8 c9.size rfl (by decide)) rfl rfl rfl c9.no (by rfl) (List.forall_mem_cons.2 ⟨(by exact fun _ _ => rfl), (List.forall_mem_cons.2 ⟨(by exact fun _ _ => rfl), (fun y hy => absurd hy List.not_mem_nil)⟩)⟩)) (fun t j ho hl => by unfold ownA9 at ho; split at ho <;> cases ho <;> first | rfl | (rw [c9.no] at hl; cases hl) | exact come_notT c9 (by kernel_rfl) hl)⟩))⟩
  ·exact fun β L c9 => ⟨_, rfl, .inl (OG.of_OL (ldPA ag.Interval (id := 14) (b := b14) (o := 0) ((pG_old rfl).trans rfl) ((pG_M (mfT_skip (show (14:Nat) ≠ 71 by decide) (mfT_skip (show (14:Nat) ≠ 73 by decide) (mfT_skip (show (14:Nat) ≠ 16 by decide) rfl)))) : _ = some (.box b14 T.Interval (vIV X K h).cells)) (vs := [_,_,_,_,_,_]) rfl (nb9 rfl) ⟨β, pG_put (d := 72) (i := 3) rfl (fun t ht => ownA9_inj ht) (lt_size 8 c9.size rfl (by decide)) (mfT_same (lt_size 8 c9.size rfl (by decide)) (by rfl))⟩))⟩
  ·exact fun β L c9 => ⟨_, rfl, .inl (OG.of_OL (lt1O (y := dIV X K h) sl.Intervals (vd_to (pG_new rfl (come_dep (j := 3) c9 (by kernel_rfl))) vd_IV) rfl (by decide) (pG_M (mfT_skip (show (73:Nat) ≠ 71 by decide) (mfT_no (by exact c9.no) (mfT_skip (show (73:Nat) ≠ 16 by decide) rfl)))) fun b8 => ⟨upd β 73 (b8, 0), pG_set (d := 73) (i := 4) (x := (b8, 0)) rfl (fun t ht => ownA9_inj ht) (lt_size 8 c9.size rfl (by decide)) rfl (mfT_pass (lt_size 8 c9.size rfl (by decide)) (show (2:Nat) ≠ 4 by decide) (.inl (show (71:Nat) ≠ 73 by decide)) (by exact fun _ => rfl) (mfT_here (lt_size 8 c9.size rfl (by decide)) rfl rfl rfl c9.no (by rfl) (List.forall_mem_cons.2 ⟨(by exact fun _ _ => rfl), (fun y hy => absurd hy List.not_mem_nil)⟩))) (fun t j ho hl => by unfold ownA9 at ho; split at ho <;> cases ho <;> first | rfl | (rw [c9.no] at hl; cases hl) | exact come_notT c9 (by kernel_rfl) hl)⟩))⟩
  ·exact fun β L c9 => ⟨_, rfl, .inl (OG.of_OL (bd2 (cs := [_,_,_]) z.Trace pl.Trace (pvC (pG_new rfl (come_dep (j := 2) c9 (by kernel_rfl))) (pvC (pG_new rfl (come_dep (j := 4) c9 (by kernel_rfl))) (pvC rfl pvN))) (by rfl) ⟨β, pG_put (d := 74) (i := 5) rfl (fun t ht => ownA9_inj ht) (lt_size 8 c9.size rfl (by decide)) (mfT_same (lt_size 8 c9.size rfl (by decide)) (by rfl))⟩))⟩
  ·exact fun β L c9 => ⟨_, rfl, .inl (OG.of_OL (al z.Trace (pG_M (mfT_skip (show (16:Nat) ≠ 71 by decide) (mfT_skip (show (16:Nat) ≠ 73 by decide) (mfT_no (by exact c9.no) rfl)))) fun b8 => ⟨upd β 16 (b8, 0), pG_set (d := 16) (i := 6) (x := (b8, 0)) rfl (fun t ht => ownA9_inj ht) (lt_size 8 c9.size rfl (by decide)) rfl (mfT_pass (lt_size 8 c9.size rfl (by decide)) (show (2:Nat) ≠ 6 by decide) (.inl (show (71:Nat) ≠ 16 by decide)) (by exact fun _ => rfl) (mfT_pass (lt_size 8 c9.size rfl (by decide)) (show (4:Nat) ≠ 6 by decide) (.inl (show (73:Nat) ≠ 16 by decide)) (by exact fun _ => rfl) (mfT_here (lt_size 8 c9.size rfl (by decide)) rfl rfl rfl c9.no (by rfl) (fun y hy => absurd hy List.not_mem_nil)))) (fun t j ho hl => by unfold ownA9 at ho; split at ho <;> cases ho <;> first | rfl | (rw [c9.no] at hl; cases hl) | exact come_notT c9 (by kernel_rfl) hl)⟩))⟩
 refine fun β L c9 hA => ⟨_, rfl, .inl (OG.of_OL (sto sz.Trace (pG_new rfl (hA 6 (by decide))) (pG_new rfl (hA 5 (by decide))) rfl (pG_M (mfT_skip (show (16:Nat) ≠ 71 by decide) (mfT_skip (show (16:Nat) ≠ 73 by decide) (mfT_yes (hA 6 (by decide)) rfl rfl)))) rfl (nb9 rfl) (cells2 := [_,_,_]) rfl ?_))⟩
 refine OL.nil ?_
 refine AW.to [(1, .d (dIss X)), (2, .d (dI g)), (3, .d (dI K)), (4, .d (dI N)), (10, .ptr 10 b10 0), (11, .d (dI 0)), (16, .ptr 16 (β 16).1 0)] [(10, .box b10 T.Trace [.mt, .mt, .d (dI 0)]), (16, .box (β 16).1 T.Trace [.osl 71 (β 71).1 1 1, .osl 73 (β 73).1 1 1, .d (dI 3)]), (71, .row (β 71).1 1 T.Hidden 11 [dHM h]), (73, .row (β 73).1 1 T.Interval 6 [dIV X K h])] (.cons (vle_of_eq (sto_rho ((pG_old rfl).trans rfl))) (.cons (vle_of_eq (sto_rho ((pG_old rfl).trans rfl))) (.cons (vle_of_eq (sto_rho ((pG_old rfl).trans rfl))) (.cons (vle_of_eq (sto_rho ((pG_old rfl).trans rfl))) (.cons (vle_of_eq (sto_rho ((pG_old rfl).trans rfl))) (.cons (vle_of_eq (sto_rho ((pG_old rfl).trans rfl))) (.cons (vle_of_eq (sto_rho (pG_new rfl (hA 6 (by decide))))) (.nil)))))))) (.cons (sto_old (show (10:Nat) ≠ 16 by decide) (pG_M (mfT_skip (show (10:Nat) ≠ 71 by decide) (mfT_skip (show (10:Nat) ≠ 73 by decide) (mfT_skip (show (10:Nat) ≠ 16 by decide) rfl))))) (.cons sto_new (.cons (sto_old (show (71:Nat) ≠ 16 by decide) (pG_M (mfT_yes (hA 2 (by decide)) rfl rfl))) (.cons (sto_old (show (73:Nat) ≠ 16 by decide) (pG_M (mfT_skip (show (73:Nat) ≠ 71 by decide) (mfT_yes (hA 4 (by decide)) rfl rfl)))) (.nil))))) ?_
 generalize (β 16).1 = b16
 generalize (β 71).1 = p0
 generalize (β 73).1 = p1
 refine AW.rename 71 139 rfl (AW.rename 73 144 rfl (AW.boxW 16 [.osl 139 p0 1 1, .osl 144 p1 1 1, .d (dI 3)] rfl (.cons VLe.osl (.cons VLe.osl (.cons (VLe.refl _) .nil))) ?_))
 refine AW.midK (α := List HM × Int × Nat × Nat × Nat × Nat) [(10, _), (16, _)] [] (fun (ms, r, p, c, q, d) => []) (fun (ms, r, p, c, q, d) => [(10, .box b10 T.Trace [.mt, .mt, .d (dI 0)]), (16, .box b16 T.Trace [.osl 139 p ms.length c, .osl 144 q ms.length d, .d (dI r)]), (139, .row p c T.Hidden 11 (ms.map dHM)), (144, .row q d T.Interval 6 (ms.map (dIV X K)))]) (fun (ms, r, p, c, q, d) => ascF X g K N [h] = (ms, r)) (.cons (knP rfl) (.cons (knP rfl) .nil)) .nil ?_ ?_
 ·refine AW.sg hE rfl (mvD rfl (mvD rfl (OL.nil (AW.block ?_))))
  refine AW.whileK (α := Nat × List HM × Nat × Nat × Nat × Nat) [(1, _), (2, _), (3, _), (10, _), (16, _), (75, _)] [] (fun (i, ms, p, c, q, d) => [(76, .d (dI i))]) (fun (i, ms, p, c, q, d) => [(10, .box b10 T.Trace [.mt, .mt, .d (dI 0)]), (16, .box b16 T.Trace [.osl 139 p ms.length c, .osl 144 q ms.length d, .d (dI 3)]), (139, .row p c T.Hidden 11 (ms.map dHM)), (144, .row q d T.Interval 6 (ms.map (dIV X K)))]) (fun (i, ms, p, c, q, d) => i ≤ N ∧ Climb h X g K ms ∧ ms.length ≤ i + 1 ∧ ascF X g K (N - i) ms = ascF X g K N [h]) (fun (i, ms, p, c, q, d) => N - i) (0, [h], p0, 1, p1, 1) (.cons (knD rfl) (.cons (knD rfl) (.cons (knD rfl) (.cons (knP rfl) (.cons (knP rfl) (.cons (knD rfl) .nil)))))) .nil ⟨⟨Nat.zero_le _, climb_one k ha, Nat.le_refl _, rfl⟩, .cons (VLe.refl _) .nil, .cons rfl (.cons rfl (.cons rfl (.cons rfl .nil)))⟩ ?_
  rintro ⟨i, ms, p, c, q, d⟩ ⟨h1, hc, hl, hf⟩
  have h1 : i ≤ N := h1
  have hl : ms.length ≤ i + 1 := hl
  have hf : ascF X g K (N - i) ms = ascF X g K N [h] := hf
  have hp1 := hc.pos
  refine AW.sg hE rfl (c_lss rfl rfl rfl (OL.nil (AW.seq (AW.cond rfl (fun h77 => ?_) (fun h77 => ?_)))))
  ·try simp only [dx9] at h77
   refine AW.skip (AW.seq (AW.block (AW.seq ?_)))
   have hNi : N - i = N - i - 1 + 1 := by omega
   obtain ⟨a1, a2, a3, a4⟩ := hc.good (ms.length - 1) (by omega)
   obtain ⟨b0, b1, b2, b3, b4⟩ := next_good k1 hs hg hc
   have m5 := (data1_move k1 a2 a3).ok
   have n5 := (data1_move k1 b2 b3).ok
   have hms : ms.getD (ms.length - 1) zHM = lastM ms := rfl
   refine AW.rg hE rfl (faP fd.Trace_0 rfl rfl (ldPC ce.Hiddens rfl rfl rfl (faP fd.Trace_0 rfl rfl (ldPC ce.Hiddens rfl rfl rfl (lnO sl.Hiddens rfl rfl (bo rfl rfl (bin_sub (c := ((ms.length - 1 : Nat) : Int)) (by omega) (wrap_i64 (by omega))) (ixOn sl.Hiddens rfl rfl (by omega) ?_)))))))
   refine ldEAL ag.Hidden zHM (by decide) rfl rfl (by omega) (vs := [_,_,_,_,_,_,_,_,_,_,_]) rfl (nb9 rfl) ?_
   rw [hms]
   refine al z.Hidden rfl fun b17 => (sto sz.Hidden rfl rfl rfl rfl rfl (nb9 rfl) (cells2 := [_,_,_,_,_,_,_,_,_,_,_]) rfl (OL.nil (AW.sg hE rfl (ldPA ag.Hidden rfl rfl (vs := [_,_,_,_,_,_,_,_,_,_,_]) rfl (nb9 rfl) (mvD rfl (clv rfl (.cons (VLe.refl _) (.cons (VLe.refl _) (.nil))) (ascent_Reestimate (h := (lastM ms)) a1 m5 a4 (show (lastM ms).sym ≤ 12 by rw [show (lastM ms).sym = h.sym from a2]; omega)) (mvT rfl ?_)))))))
   refine ex rfl rfl (ex rfl rfl (al z.Hidden rfl fun b18 => (sto sz.Hidden rfl rfl rfl rfl rfl (nb9 rfl) (cells2 := [_,_,_,_,_,_,_,_,_,_,_]) rfl (asD rfl (OL.nil (AW.seq (AW.sg hE rfl ?_)))))))
   refine mvD rfl (c_neq rfl rfl (c := false) (by exact cne_f (by omega)) (OL.nil (AW.cond rfl (fun hno => absurd hno (by decide)) (fun _ => ?_))))
   refine AW.skip (AW.sg hE rfl (ldPA ag.Hidden rfl rfl (vs := [_,_,_,_,_,_,_,_,_,_,_]) rfl (nb9 rfl) (mvD rfl (clv rfl (.cons (VLe.refl _) (.cons (VLe.refl _) (.nil))) (ascent_RoundW b0 hg (show (lastM ms).sym ≤ 12 by rw [show (lastM ms).sym = h.sym from a2]; omega) (show (lastM ms).st ≤ 11 by rw [show (lastM ms).st = h.st from a3]; omega)) ?_))))
   rw [show roundHM (reHM (lastM ms) X) g = (nextM X g (lastM ms)) from rfl]
   refine mvT rfl (ex rfl rfl (ex rfl rfl (al z.Hidden rfl fun b20 => (sto sz.Hidden rfl rfl rfl rfl rfl (nb9 rfl) (cells2 := [_,_,_,_,_,_,_,_,_,_,_]) rfl (asD rfl (OL.nil (AW.seq ?_)))))))
   refine AW.sg hE rfl (mvD rfl (c_neq rfl rfl (c := false) (by exact cne_f (by omega)) (OL.nil (AW.cond rfl (fun hno => absurd hno (by decide)) (fun _ => ?_)))))
   refine AW.skip (AW.seq (AW.sg hE rfl (ldPA ag.Hidden rfl rfl (vs := [_,_,_,_,_,_,_,_,_,_,_]) rfl (nb9 rfl) (ldPA ag.Hidden rfl rfl (vs := [_,_,_,_,_,_,_,_,_,_,_]) rfl (nb9 rfl) (clv rfl (.cons (VLe.refl _) (.cons (VLe.refl _) (.nil))) (hmm_Same (a := (nextM X g (lastM ms))) (b := (lastM ms)) b1.form rfl rfl rfl rfl) (OL.nil (AW.cond rfl (fun hsm => ?_) (fun hsm => ?_))))))))
   ·have hres : ascF X g K N [h] = (ms, 1) := by rw [← hf, hNi]; exact asc_stop hsm
    exact AW.sg hE rfl (faP fd.Trace_2 rfl rfl (sto sz.int rfl rfl rfl rfl rfl (nb9 rfl) (cells2 := [_,_,_]) rfl (OL.nil (AW.exit (AW.reach (ms, 1, p, c, q, d) ⟨hres, Knows.app (.cons (VLe.refl _) (.cons (VLe.refl _) .nil)) (.nil), .cons rfl (.cons rfl (.cons rfl (.cons rfl .nil)))⟩)))))
   ·have hsm : ¬ sameHM (nextM X g (lastM ms)) (lastM ms) = true := by rw [hsm]; decide
    refine AW.skip (AW.sg hE rfl (ldPA ag.Hidden rfl rfl (vs := [_,_,_,_,_,_,_,_,_,_,_]) rfl (nb9 rfl) (mvD rfl (mvD rfl (clv rfl (.cons (VLe.refl _) (.cons (VLe.refl _) (.cons (VLe.refl _) (.nil)))) (ascent_Enclose b1 n5 hK) (mvT rfl (ex rfl rfl ?_)))))))
    refine ex rfl rfl (al z.Interval rfl fun b21 => (sto sz.Interval rfl rfl rfl rfl rfl (nb9 rfl) (cells2 := [_,_,_,_,_,_]) rfl (asD rfl (OL.nil (AW.seq (AW.sg hE rfl (mvD rfl ?_)))))))
    refine c_neq rfl rfl (c := false) (by exact cne_f (by omega)) (OL.nil (AW.cond rfl (fun hno => absurd hno (by decide)) (fun _ => ?_)))
    refine AW.skip (AW.seq (AW.seq ?_))
    have zlo : sz (loX X K (nextM X g (lastM ms))) ≤ 68719476736 := by have := enc_sz b1.form n5 (rnd_dn hK.2) X.length (Nat.le_refl _); unfold loX; omega
    have zhi : sz (hiX X K (lastM ms)) ≤ 68719476736 := by have := enc_sz (h := (lastM ms)) a1.form m5 (rnd_up hK.2) X.length (Nat.le_refl _); unfold hiX; omega
    refine AW.dg 1 [0,1,2,3,4,5,6,7,8,9,10,11,12] order_free hE rfl (by kernel_rfl) (OI.of_OL (os := [_,_,_,_,_,_,_,_,_,_,_,_,_]) rfl ?_)
    refine faP fd.Interval_0 rfl rfl (ldPA ag.Rat rfl rfl (vs := [_,_,_]) rfl (nb9 rfl) (faP fd.Trace_1 rfl rfl (ldPC ce.Intervals rfl rfl rfl (faP fd.Trace_1 rfl rfl (ldPC ce.Intervals rfl rfl rfl (lnO sl.Intervals rfl rfl (bo rfl rfl (bin_sub (c := ((ms.length - 1 : Nat) : Int)) (by omega) (wrap_i64 (by omega))) ?_)))))))
    refine ixOn sl.Intervals rfl rfl (by omega) (faE fd.Interval_1 rfl rfl (ldEAL ag.Rat zHM (by decide) rfl rfl (by omega) (vs := [_,_,_]) rfl (nb9 rfl) ?_))
    rw [hms]
    refine clv rfl (.cons (VLe.refl _) (.cons (VLe.refl _) (.nil))) (rational_CompareQ (x := loX X K (nextM X g (lastM ms))) (y := hiX X K (lastM ms)) zlo zhi) (c_lss rfl rfl rfl (OL.nil (AW.cond rfl (fun hlo => ?_) (fun hlo => ?_))))
    ·have hlo : loX X K (nextM X g (lastM ms)) < hiX X K (lastM ms) := cmpQ_neg.1 (of_decide_eq_true hlo)
     have hres : ascF X g K N [h] = (ms, 2) := by rw [← hf, hNi]; exact asc_low hsm hlo
     exact AW.sg hE rfl (faP fd.Trace_2 rfl rfl (sto sz.int rfl rfl rfl rfl rfl (nb9 rfl) (cells2 := [_,_,_]) rfl (OL.nil (AW.exit (AW.reach (ms, 2, p, c, q, d) ⟨hres, Knows.app (.cons (VLe.refl _) (.cons (VLe.refl _) .nil)) (.nil), .cons rfl (.cons rfl (.cons rfl (.cons rfl .nil)))⟩)))))
    ·have hlo : ¬ loX X K (nextM X g (lastM ms)) < hiX X K (lastM ms) := fun e => of_decide_eq_false hlo (cmpQ_neg.2 e)
     refine AW.skip (AW.dg 2 [0,1,2,3,5,6,7,8,4,10,9,11,12,13] order_free hE rfl (by kernel_rfl) (OI.of_OL (os := [_,_,_,_,_,_,_,_,_,_,_,_,_,_]) rfl ?_))
     refine faP fd.Trace_0 rfl rfl (ldPC ce.Hiddens rfl rfl rfl (ldPA ag.Hidden rfl rfl (vs := [_,_,_,_,_,_,_,_,_,_,_]) rfl (nb9 rfl) (lt1 (y := dHM (nextM X g (lastM ms))) sl.Hiddens vd_HM rfl (by decide) (faP fd.Trace_1 rfl rfl (ldPC ce.Intervals rfl rfl rfl (ldPA ag.Interval rfl rfl (vs := [_,_,_,_,_,_]) rfl (nb9 rfl) (lt1 (y := dIV X K (nextM X g (lastM ms))) sl.Intervals vd_IV rfl (by decide) ?_)))))))
     refine apO sl.Hiddens rfl rfl rfl (by rw [List.length_map]) (VC.d _) (by intro y hy; rw [List.mem_singleton.1 hy]; rfl) (by simp only [List.length_singleton]; omega) (by simp only [List.length_singleton]; omega) (.inr rfl) (ys := ((ms ++ [(nextM X g (lastM ms))]).map dHM)) (by rw [List.map_append]; rfl) (n2 := (ms ++ [(nextM X g (lastM ms))]).length) (by simp) fun q1 d1 => ?_
     refine faP fd.Trace_0 rfl rfl ?_
     refine apO sl.Intervals rfl rfl rfl (by rw [List.length_map]) (VC.d _) (by intro y hy; rw [List.mem_singleton.1 hy]; rfl) (by simp only [List.length_singleton]; omega) (by simp only [List.length_singleton]; omega) (.inr rfl) (ys := ((ms ++ [(nextM X g (lastM ms))]).map (dIV X K))) (by rw [List.map_append]; rfl) (n2 := (ms ++ [(nextM X g (lastM ms))]).length) (by simp) fun q2 d2 => ?_
     refine sto sz.Hiddens rfl rfl rfl rfl rfl (nb9 rfl) (cells2 := [_,_,_]) rfl (faP fd.Trace_1 rfl rfl (sto sz.Intervals rfl rfl rfl rfl rfl (nb9 rfl) (cells2 := [_,_,_]) rfl (OL.nil (AW.rg hE rfl (add_i64 rfl rfl (by omega) (mvD rfl (OL.nil ?_)))))))
     exact AW.again (x := (i, ms, p, c, q, d)) (i + 1, ms ++ [(nextM X g (lastM ms))], q1, d1, q2, d2) (by (simp only []; omega)) ⟨⟨by omega, climb_snoc k1 hs hg hc hlo, by rw [List.length_append, List.length_singleton]; omega, by rw [← hf, hNi, asc_on hsm hlo, show N - (i + 1) = N - i - 1 by omega]⟩, Knows.app (.cons (VLe.refl _) (.cons (VLe.refl _) (.cons (VLe.refl _) (.cons (VLe.refl _) (.cons (VLe.refl _) (.cons (VLe.refl _) .nil)))))) (.cons (VLe.refl _) .nil), .cons rfl (.cons rfl (.cons rfl (.cons rfl .nil)))⟩
  ·try simp only [dx9] at h77
   refine AW.exit ?_
   obtain rfl : i = N := by omega
   have hres : ascF X g K i [h] = (ms, 3) := by rw [← hf, Nat.sub_self]; rfl
   exact AW.reach (ms, 3, p, c, q, d) ⟨hres, Knows.app (.cons (VLe.refl _) (.cons (VLe.refl _) .nil)) (.nil), .cons rfl (.cons rfl (.cons rfl (.cons rfl .nil)))⟩
 rintro ⟨ms, r, p, c, q, d⟩ hφ
 have hφ : ascF X g K N [h] = (ms, r) := hφ
 rw [hφ]
 exact AW.sg hE rfl (ldPA ag.Trace rfl rfl (vs := [_,_,_]) rfl (nb9 rfl) (sto sz.Trace rfl rfl rfl rfl rfl (nb9 rfl) (cells2 := [_,_,_]) rfl (asD rfl (OL.nil (AW.ret (RetQ.r ⟨_, .cellA rfl rfl ag.Trace (nb9 rfl) (.tmp rfl .nil), _, .cons (.ag (.cons (RO.row rfl (by rw [List.length_map]) rfl) (.cons (RO.row rfl (by rw [List.length_map]) rfl) (.cons (.le (VLe.refl _)) .nil)))) (.cons (.le (VLe.refl _)) .nil), rfl⟩))))))
set_option maxRecDepth 6000 in
set_option maxHeartbeats 3200000 in
theorem ascent_CheckC {h : HM} {X : List (List Int)} {g K : Nat} {r : Int} {ms : List HM} (k1 : Data1 h X) (hc : Climb h X g K ms) (hl : ms.length ≤ 13) (hK : 8 ≤ K ∧ K ≤ 256) : FSpec P F.ascent_Check [.ag [.d (.sl (ms.map dHM)), .d (.sl (ms.map (dIV X K))), .d (dI r)], .d (dIss X), .d (dI K)] (.d (dI 0)) := by
 have hp := hc.pos
 have k1l := k1.ok.len
 refine FSpec.intro fn.ascent_Check (by rfl) (by rfl) (nb9 (by rfl)) fun E hE => (AW.sg hE rfl (bxA rfl rfl fun b3 => (asD rfl (OL.nil (AW.seq (AW.sg hE rfl (faP fd.Trace_0 rfl rfl ?_)))))))
 refine ldPC ce.Hiddens rfl rfl rfl (lnL sl.Hiddens rfl rfl (c_eql rfl rfl (c := false) (by exact decide_eq_false (by omega)) (mvD rfl (OL.yes rfl (faP fd.Trace_0 rfl rfl (OL.yes rfl (ldPC ce.Hiddens rfl rfl rfl ?_)))))))
 refine OL.yes rfl (lnL sl.Hiddens rfl rfl (OL.yes rfl (faP fd.Trace_1 rfl rfl (OL.yes rfl (ldPC ce.Intervals rfl rfl rfl (OL.yes rfl (lnL sl.Intervals rfl rfl ?_)))))))
 refine OL.yes rfl (c_neq rfl rfl (c := false) (cne_f rfl) (pkF rfl rfl (OL.nil (AW.cond rfl (fun hno => absurd hno (by decide)) (fun _ => ?_)))))
 refine AW.skip (AW.seq (AW.sg hE rfl (faP fd.Trace_0 rfl rfl (ldPC ce.Hiddens rfl rfl rfl (lnL sl.Hiddens rfl rfl (mvD rfl (OL.nil ?_)))))))
 refine AW.block ?_
 refine AW.whileK (α := Nat) [(1, _), (2, _), (3, _), (25, _), (26, _)] [(3, _)] (fun i => [(27, .d (dI i))]) (fun i => []) (fun i => i ≤ ms.length) (fun i => ms.length - i) 0 (.cons (knD rfl) (.cons (knD rfl) (.cons (knP rfl) (.cons (knD rfl) (.cons (knD rfl) .nil))))) (.cons (owB rfl) .nil) ⟨Nat.zero_le _, .cons (VLe.refl _) .nil, .nil⟩ ?_
 intro i h1
 have h1 : i ≤ ms.length := h1
 refine AW.sg hE rfl (c_lss rfl rfl rfl (OL.nil (AW.seq (AW.cond rfl (fun h28 => ?_) (fun h28 => ?_)))))
 ·try simp only [dx9] at h28
  refine AW.skip (AW.seq (AW.block (AW.seq ?_)))
  have hi : i < ms.length := by omega
  obtain ⟨a1, a2, a3, a4⟩ := hc.good i hi
  have m5 := (data1_move k1 a2 a3).ok
  have zlo : sz (loX X K (ms.getD i zHM)) ≤ 68719476736 := by have := enc_sz a1.form m5 (rnd_dn hK.2) X.length (Nat.le_refl _); unfold loX; omega
  have zhi : sz (hiX X K (ms.getD i zHM)) ≤ 68719476736 := by have := enc_sz a1.form m5 (rnd_up hK.2) X.length (Nat.le_refl _); unfold hiX; omega
  refine AW.rg hE rfl (mvD rfl (ixLn (l := ms) (f := dHM) sl.Hiddens zHM rfl rfl (by omega) rfl rfl (ldRA ag.Hidden rfl (vs := [_,_,_,_,_,_,_,_,_,_,_]) rfl (nb9 rfl) (al z.Hidden rfl fun b8 => (asD rfl (sto sz.Hidden rfl rfl rfl rfl rfl (nb9 rfl) (cells2 := [_,_,_,_,_,_,_,_,_,_,_]) rfl (OL.nil ?_)))))))
  refine AW.sg hE rfl (ldPA ag.Hidden rfl rfl (vs := [_,_,_,_,_,_,_,_,_,_,_]) rfl (nb9 rfl) (mvD rfl (mvD rfl (clv rfl (.cons (VLe.refl _) (.cons (VLe.refl _) (.cons (VLe.refl _) (.nil)))) (ascent_Enclose (h := (ms.getD i zHM)) a1 m5 hK) (mvT rfl (ex rfl rfl (ex rfl rfl ?_)))))))
  refine al z.Interval rfl fun b9 => (sto sz.Interval rfl rfl rfl rfl rfl (nb9 rfl) (cells2 := [_,_,_,_,_,_]) rfl (asD rfl (OL.nil (AW.seq (AW.sg hE rfl (mvD rfl (c_neq rfl rfl (c := false) (by exact cne_f (by omega)) ?_)))))))
  refine mvD rfl (OL.no rfl (by decide) (OL.no rfl (by decide) (pkF rfl rfl (OL.nil (AW.cond rfl (fun hno => absurd hno (by decide)) (fun _ => ?_))))))
  refine AW.skip (AW.seq (AW.seq (AW.dg 1 [0,1,2,3,4,5,6,7,8,9,10,11,12,13,14,15,16,17,18,19,20,21,22,23,24,25] order_free hE rfl (by kernel_rfl) (OI.of_OL (os := [_,_,_,_,_,_,_,_,_,_,_,_,_,_,_,_,_,_,_,_,_,_,_,_,_,_]) rfl ?_))))
  refine mvD rfl (c_neq rfl rfl (c := false) (by exact cne_f (by omega)) (mvD rfl (OL.yes rfl (faP fd.Trace_1 rfl rfl (OL.yes rfl (ldPC ce.Intervals rfl rfl rfl (OL.yes rfl ?_)))))))
  refine mvD rfl (OL.yes rfl (ixLn (l := ms) (f := dIV X K) sl.Intervals zHM rfl rfl (by omega) rfl rfl (OL.yes rfl (faR fd.Interval_0 rfl rfl (OL.yes rfl (ldRA ag.Rat rfl (vs := [_,_,_]) rfl (nb9 rfl) (OL.yes rfl ?_)))))))
  refine faP fd.Interval_0 rfl rfl (OL.yes rfl (ldPA ag.Rat rfl rfl (vs := [_,_,_]) rfl (nb9 rfl) (OL.yes rfl (clv rfl (.cons (VLe.refl _) (.cons (VLe.refl _) (.nil))) (ascent_same (x := loX X K (ms.getD i zHM)) (y := loX X K (ms.getD i zHM)) zlo zlo) ?_))))
  rw [decide_eq_true (show loX X K (ms.getD i zHM) = loX X K (ms.getD i zHM) from rfl)]
  refine OL.yes rfl (nt rfl (pkF rfl rfl (mvD rfl (OL.yes rfl (faP fd.Trace_1 rfl rfl (OL.yes rfl (ldPC ce.Intervals rfl rfl rfl ?_)))))))
  refine OL.yes rfl (mvD rfl (OL.yes rfl (ixLn (l := ms) (f := dIV X K) sl.Intervals zHM rfl rfl (by omega) rfl rfl (OL.yes rfl (faR fd.Interval_1 rfl rfl (OL.yes rfl (ldRA ag.Rat rfl (vs := [_,_,_]) rfl (nb9 rfl) ?_)))))))
  refine OL.yes rfl (faP fd.Interval_1 rfl rfl (OL.yes rfl (ldPA ag.Rat rfl rfl (vs := [_,_,_]) rfl (nb9 rfl) (OL.yes rfl (clv rfl (.cons (VLe.refl _) (.cons (VLe.refl _) (.nil))) (ascent_same (x := hiX X K (ms.getD i zHM)) (y := hiX X K (ms.getD i zHM)) zhi zhi) ?_)))))
  rw [decide_eq_true (show hiX X K (ms.getD i zHM) = hiX X K (ms.getD i zHM) from rfl)]
  refine OL.yes rfl (nt rfl (pkF rfl rfl (OL.nil (AW.cond rfl (fun hno => absurd hno (by decide)) (fun _ => ?_)))))
  refine AW.skip (AW.seq (AW.dg 1 [0,1,2,3,4,5,6,7,8,9,10,11,12,13,14] order_free hE rfl (by kernel_rfl) (OI.of_OL (os := [_,_,_,_,_,_,_,_,_,_,_,_,_,_,_]) rfl ?_)))
  refine mvD rfl (c_gtr rfl rfl rfl (mvD rfl (OL.split 74 rfl (fun h0 => ?_) (fun h0 => ?_))))
  ·have h0 : (0 : Int) < (i : Int) := of_decide_eq_true h0
   obtain ⟨j, hj⟩ : ∃ j, i = j + 1 := ⟨i - 1, by omega⟩
   obtain ⟨d1, d2, d3, d4⟩ := hc.good j (by omega)
   have p5 := (data1_move k1 d2 d3).ok
   have zh2 : sz (hiX X K (ms.getD j zHM)) ≤ 68719476736 := by have := enc_sz d1.form p5 (rnd_up hK.2) X.length (Nat.le_refl _); unfold hiX; omega
   have hup := hc.up j (by omega)
   rw [← hj] at hup
   refine OL.yes rfl (faP fd.Interval_0 rfl rfl (OL.yes rfl (ldPA ag.Rat rfl rfl (vs := [_,_,_]) rfl (nb9 rfl) (OL.yes rfl (faP fd.Trace_1 rfl rfl (OL.yes rfl (ldPC ce.Intervals rfl rfl rfl ?_)))))))
   refine OL.yes rfl (mvD rfl (OL.yes rfl (bo rfl rfl (bin_sub (c := (j : Int)) (by omega) (wrap_i64 (by omega))) (OL.yes rfl (ixLn (l := ms) (f := dIV X K) sl.Intervals zHM rfl rfl (by omega) rfl rfl (OL.yes rfl (faR fd.Interval_1 rfl rfl ?_)))))))
   refine OL.yes rfl (ldRA ag.Rat rfl (vs := [_,_,_]) rfl (nb9 rfl) (OL.yes rfl (clv rfl (.cons (VLe.refl _) (.cons (VLe.refl _) (.nil))) (rational_CompareQ (x := loX X K (ms.getD i zHM)) (y := hiX X K (ms.getD j zHM)) zlo zh2) (OL.yes rfl (c_lss rfl rfl (c := false) (decide_eq_false fun e => Rat.not_lt.2 hup (cmpQ_neg.1 e)) (pkT rfl rfl (OL.nil ?_)))))))
   refine AW.cond rfl (fun hno => absurd hno (by decide)) (fun _ => ?_)
   exact AW.skip (AW.rg hE rfl (add_i64 rfl rfl (by omega) (mvD rfl (OL.nil (AW.again (x := i) (i + 1) (by omega) ⟨by omega, Knows.app (.cons (VLe.refl _) (.cons (VLe.refl _) (.cons (VLe.refl _) (.cons (VLe.refl _) (.cons (VLe.refl _) .nil))))) (.cons (VLe.refl _) .nil), Owns.app (.cons rfl .nil) (.nil)⟩)))))
  ·have _h0 := h0
   refine OL.no rfl (by decide) (OL.no rfl (by decide) (OL.no rfl (by decide) (OL.no rfl (by decide) (OL.no rfl (by decide) (OL.no rfl (by decide) (OL.no rfl (by decide) (OL.no rfl (by decide) ?_)))))))
   refine OL.no rfl (by decide) (OL.no rfl (by decide) (OL.no rfl (by decide) (pkF rfl rfl (OL.nil (AW.cond rfl (fun hno => absurd hno (by decide)) (fun _ => ?_))))))
   exact AW.skip (AW.rg hE rfl (add_i64 rfl rfl (by omega) (mvD rfl (OL.nil (AW.again (x := i) (i + 1) (by omega) ⟨by omega, Knows.app (.cons (VLe.refl _) (.cons (VLe.refl _) (.cons (VLe.refl _) (.cons (VLe.refl _) (.cons (VLe.refl _) .nil))))) (.cons (VLe.refl _) .nil), Owns.app (.cons rfl .nil) (.nil)⟩)))))
 ·try simp only [dx9] at h28
  exact AW.exit (AW.sg hE rfl (asD rfl (OL.nil (AW.ret (RetQ.r ⟨_, .tmp rfl .nil, .le (VLe.refl _)⟩)))))
open Classical in
noncomputable def ascM (h : HM) (X : List (List Int)) (g K N : Nat) : List HM × Int := if AllL h X then ascF X g K N [h] else ([], 0)
set_option maxRecDepth 6000 in
set_option maxHeartbeats 3200000 in
theorem ascent_AscendN {h : HM} {X : List (List Int)} {g K N : Nat} (k : h.Good 1) (k1 : Data1 h X) (hn : ¬ AllL h X) (hg : 1 ≤ g ∧ g ≤ 1048576) (hK : 8 ≤ K ∧ K ≤ 256) (hN : N ≤ 12) : FSpec P F.ascent_Ascend [vHM h, .d (dIss X), .d (dI g), .d (dI K), .d (dI N)] (.tup [.ag [.d (.sl []), .d (.sl []), .d (dI 0)], .d (dI 11)]) := by
 have f := k.form
 have k5 := k1.ok
 have k1l := k5.len
 have zl := lk_sz f k5 X.length (Nat.le_refl _)
 have hz := lk_zero.2 hn
 refine FSpec.intro fn.ascent_Ascend (by rfl) (by rfl) (nb9 (by rfl)) fun E hE => (AW.sg hE rfl (bxA rfl rfl fun b5 => (al z.Trace rfl fun b10 => (asD rfl (OL.nil (AW.sg hE rfl (ldPA ag.Hidden rfl rfl (vs := [_,_,_,_,_,_,_,_,_,_,_]) rfl (nb9 rfl) ?_)))))))
 refine mvD rfl (clv rfl (.cons (VLe.refl _) (.cons (VLe.refl _) (.nil))) (ascent_Likelihood k k5) (mvT rfl (ex rfl rfl (ex rfl rfl (al z.Rat rfl fun b12 => (sto sz.Rat rfl rfl rfl rfl rfl (nb9 rfl) (cells2 := [_,_,_]) rfl (asD rfl ?_)))))))
 refine OL.nil (AW.seq (AW.block (AW.sg hE rfl (mvD rfl (c_neq rfl rfl (c := false) (by exact cne_f (by omega)) (asD rfl (OL.nil ?_)))))))
 refine AW.cond rfl (fun hno => absurd hno (by decide)) (fun _ => ?_)
 refine AW.sg hE rfl (mvD rfl (c_lss rfl rfl (c := false) (by exact decide_eq_false (by omega)) (mvD rfl (OL.yes rfl (mvD rfl (OL.yes rfl (c_gtr rfl rfl (c := false) (by exact decide_eq_false (by omega)) ?_)))))))
 refine pkF rfl rfl (mvD rfl (OL.yes rfl (mvD rfl (OL.yes rfl (c_lss rfl rfl (c := false) (by exact decide_eq_false (by omega)) (pkF rfl rfl (mvD rfl ?_)))))))
 refine OL.yes rfl (mvD rfl (OL.yes rfl (c_gtr rfl rfl (c := false) (by exact decide_eq_false (by omega)) (pkF rfl rfl (mvD rfl (OL.yes rfl (mvD rfl ?_)))))))
 refine OL.yes rfl (c_lss rfl rfl (c := false) (by exact decide_eq_false (by omega)) (pkF rfl rfl (mvD rfl (OL.yes rfl (mvD rfl (OL.yes rfl (c_gtr rfl rfl (c := false) (by exact decide_eq_false (by omega)) ?_)))))))
 refine pkF rfl rfl (asD rfl (OL.nil (AW.cond rfl (fun hno => absurd hno (by decide)) (fun _ => ?_))))
 refine AW.sg hE rfl (ldPA ag.Rat rfl rfl (vs := [_,_,_]) rfl (nb9 rfl) (clv rfl (.cons (VLe.refl _) (.nil)) (rational_SignQ (x := lkN h X X.length) (by omega)) (c_eql rfl rfl (c := true) (decide_eq_true (sgnQ_eq.2 hz)) (asD rfl (OL.nil (AW.cond rfl (fun _ => ?_) (fun hno => absurd hno (by decide))))))))
 exact AW.sg hE rfl (bd z.Trace pl.Trace (cs := [_,_,_]) rfl (sto sz.Trace rfl rfl rfl rfl rfl (nb9 rfl) (cells2 := [_,_,_]) rfl (asD rfl (OL.nil (AW.ret (RetQ.r ⟨_, .cellA rfl rfl ag.Trace (nb9 rfl) (.tmp rfl .nil), _, .cons (.ag (.cons (.le (VLe.mt)) (.cons (.le (VLe.mt)) (.cons (.le (VLe.refl _)) .nil)))) (.cons (.le (VLe.refl _)) .nil), rfl⟩))))))
noncomputable def ascE (h : HM) (X : List (List Int)) : Int := by classical exact if AllL h X then 0 else 11
theorem ascent_AscendZ {h : HM} {X : List (List Int)} {g K N : Nat} (k : h.Good 1) (k1 : Data1 h X) (hs : h.sym ≤ 3) (ht : h.st ≤ 4) (hg : 1 ≤ g ∧ g ≤ 1048576) (hK : 8 ≤ K ∧ K ≤ 256) (hN : N ≤ 12) :
  FSpec P F.ascent_Ascend [vHM h, .d (dIss X), .d (dI g), .d (dI K), .d (dI N)] (.tup [.ag [.d (.sl ((ascM h X g K N).1.map dHM)), .d (.sl ((ascM h X g K N).1.map (dIV X K))), .d (dI (ascM h X g K N).2)], .d (dI (ascE h X))]) := by
 unfold ascM ascE
 by_cases ha : AllL h X
 ·rw [if_pos ha, if_pos ha]; exact ascent_Ascend1 k k1 ha hs ht hg hK hN
 ·rw [if_neg ha, if_neg ha]; exact ascent_AscendN k k1 ha hg hK hN
set_option maxRecDepth 8000 in
set_option maxHeartbeats 6400000 in
theorem law_AscentClimbs {L l : List Int} {cs cy gr sp : Int} (nL : L.length ≤ 9223372036854775807) (nl : l.length ≤ 9223372036854775807) : FSpec P F.law39_AscentClimbs [.ag [.d (dI cs), .d (dI cy), .d (ints L)], .d (ints l), .d (dI gr), .d (dI sp)] (.d (dB true)) := by
 obtain ⟨h, hh⟩ : ∃ h, h = chainHM L cs cy 2 := ⟨_, rfl⟩
 have hg : h.Good 1 := by rw [hh]; exact chainHM_good L cs cy (by decide)
 have hst : (h.st : Int) ≤ 2 := by rw [hh]; exact chainHM_st L cs cy (by decide)
 have hsy : h.sym ≤ 3 := by rw [hh]; exact chain_sym3 ..
 have f := hg.form
 have s0 := f.sym0
 obtain ⟨X, hX⟩ : ∃ X, X = dataF l h.sym 2 := ⟨_, rfl⟩
 have k1 : Data1 h X := by rw [hX]; exact data1_ok s0 (by omega) (by decide)
 have k5 := k1.ok
 have kl := k5.len
 have wg := within_range (v := gr) (m := 60) (by omega)
 obtain ⟨g, eg⟩ : ∃ g : Nat, 4 + within gr 60 = (g : Int) := ⟨(4 + within gr 60).toNat, by omega⟩
 have hgg : 1 ≤ g ∧ g ≤ 1048576 := by omega
 have ws := within_range (v := sp) (m := 4) (by omega)
 obtain ⟨N, eN⟩ : ∃ N : Nat, within sp 4 = (N : Int) := ⟨(within sp 4).toNat, by omega⟩
 have hN : N ≤ 12 := by omega
 obtain ⟨ms, r, hmr⟩ : ∃ ms r, ascM h X g 80 N = (ms, r) := ⟨_, _, rfl⟩
 have hasc := ascent_AscendZ (N := N) hg k1 hsy (by omega) hgg (show 8 ≤ 80 ∧ 80 ≤ 256 by decide) hN
 rw [hmr] at hasc
 dsimp only at hasc
 have y5 := lk_sz f k5 X.length (Nat.le_refl _)
 refine FSpec.intro fn.law39_AscentClimbs (by rfl) (by rfl) (nb9 (by rfl)) fun E hE => (AW.sg hE rfl (bxA rfl rfl fun b4 => (asD rfl (OL.nil (AW.sg hE rfl (ldPA ag.Chain rfl rfl (vs := [_,_,_]) rfl (nb9 rfl) (clv rfl (.cons (VLe.refl _) (.cons (VLe.refl _) (.nil))) (chain_Hidden (by decide) nL) ?_)))))))
 rw [← hh]
 refine al z.Hidden rfl fun b9 => (sto sz.Hidden rfl rfl rfl rfl rfl (nb9 rfl) (cells2 := [_,_,_,_,_,_,_,_,_,_,_]) rfl (OL.nil (AW.sg hE rfl (mvD rfl (faP fd.Hidden_0 rfl rfl (ldPC ce.int rfl rfl rfl (clv rfl (.cons (VLe.refl _) (.cons (VLe.refl _) (.cons (VLe.refl _) (.nil)))) (world_Data (L := l) (sym := h.sym) (most := 2) ⟨s0, by omega⟩ (by decide) nl) ?_)))))))
 rw [← hX]
 refine asD rfl (OL.nil (AW.sg hE rfl (mvD rfl (clv rfl (.cons (VLe.refl _) (.cons (VLe.refl _) (.nil))) (world_Within (v := gr) (m := 60) (by decide)) (add_i64 rfl rfl (by omega) ?_)))))
 rw [eg]
 refine mvD rfl (clv rfl (.cons (VLe.refl _) (.cons (VLe.refl _) (.nil))) (world_Within (v := sp) (m := 4) (by decide)) ?_)
 rw [eN]
 refine asD rfl (asD rfl (OL.nil (AW.sg hE rfl (ldPA ag.Hidden rfl rfl (vs := [_,_,_,_,_,_,_,_,_,_,_]) rfl (nb9 rfl) (mvD rfl (mvD rfl (mvD rfl ?_)))))))
 refine clv rfl (.cons (VLe.refl _) (.cons (VLe.refl _) (.cons (VLe.refl _) (.cons (VLe.refl _) (.cons (VLe.refl _) (.nil)))))) (hasc) (mvT rfl (ex rfl rfl (ex rfl rfl (al z.Trace rfl fun b11 => (sto sz.Trace rfl rfl rfl rfl rfl (nb9 rfl) (cells2 := [_,_,_]) rfl (asD rfl (OL.nil ?_)))))))
 refine AW.seq (AW.sg hE rfl (mvD rfl (c_neq rfl rfl rfl (OL.nil (AW.cond rfl (fun he => ?_) (fun he => ?_))))))
 ·have hn : ¬ AllL h X := fun ha => by rw [show ascE h X = 0 from if_pos ha] at he; simp at he
  have he : ascE h X = 11 := if_neg hn
  rw [he]
  have hz := lk_zero.2 hn
  refine AW.sg hE rfl (ldPA ag.Hidden rfl rfl (vs := [_,_,_,_,_,_,_,_,_,_,_]) rfl (nb9 rfl) (mvD rfl (clv rfl (.cons (VLe.refl _) (.cons (VLe.refl _) (.nil))) (ref39_Likelihood hg k5) (mvT rfl (ex rfl rfl (ex rfl rfl (al z.Rat rfl fun b13 => ?_)))))))
  refine sto sz.Rat rfl rfl rfl rfl rfl (nb9 rfl) (cells2 := [_,_,_]) rfl (asD rfl (OL.nil (AW.sg hE rfl (clv rfl .nil law39_known (mvD rfl (OL.yes rfl (mvD rfl ?_)))))))
  refine OL.yes rfl (c_eql rfl rfl (c := true) rfl (pkT rfl rfl (mvD rfl (OL.yes rfl (mvD rfl (OL.yes rfl (c_eql rfl rfl (c := true) (by exact decide_eq_true (by omega)) ?_)))))))
  refine pkT rfl rfl (mvD rfl (OL.yes rfl (ldPA ag.Rat rfl rfl (vs := [_,_,_]) rfl (nb9 rfl) (OL.yes rfl (clv rfl (.cons (VLe.refl _) (.nil)) (ref_SignQ (x := (lkN h X X.length)) (by omega)) (OL.yes rfl (c_eql rfl rfl (c := true) (decide_eq_true (sgnQ_eq.2 hz)) ?_)))))))
  exact pkT rfl rfl (asD rfl (OL.nil (AW.ret (RetQ.r ⟨_, .tmp rfl .nil, .le (VLe.refl _)⟩))))
 ·have ha : AllL h X := Classical.byContradiction fun k => by rw [show ascE h X = 11 from if_neg k] at he; simp at he
  have hms : ascF X g 80 N [h] = (ms, r) := by rw [← hmr]; exact (if_pos ha).symm
  have hcl := asc_climb (K := 80) k1 hsy hgg N (climb_one hg ha)
  rw [hms] at hcl
  have hc : Climb h X g 80 ms := hcl.1
  have hln := hcl.2
  have hln : ms.length ≤ 1 + N := hln
  have hp := hc.pos
  refine AW.skip (AW.seq (AW.seq (AW.dg 1 [0,1,2,3,4,5,6,7,8,9,10,11,12,13,14,15,16,17,18,19,20,21,22,23,24,25,26] order_free hE rfl (by kernel_rfl) (OI.of_OL (os := [_,_,_,_,_,_,_,_,_,_,_,_,_,_,_,_,_,_,_,_,_,_,_,_,_,_,_]) rfl ?_))))
  refine ldPA ag.Trace rfl rfl (vs := [_,_,_]) rfl (nb9 rfl) (mvD rfl (clv rfl (.cons (VLe.refl _) (.cons (VLe.refl _) (.cons (VLe.refl _) (.nil)))) (ascent_CheckC k1 hc (by omega) (show 8 ≤ 80 ∧ 80 ≤ 256 by decide)) (c_neq rfl rfl (c := false) (by exact cne_f (by omega)) (mvD rfl (OL.yes rfl (faP fd.Trace_0 rfl rfl (OL.yes rfl ?_)))))))
  refine ldPC ce.Hiddens rfl rfl rfl (OL.yes rfl (lnL sl.Hiddens rfl rfl (OL.yes rfl (c_lss rfl rfl (c := false) (by exact decide_eq_false (by omega)) (pkF rfl rfl (mvD rfl (OL.yes rfl ?_)))))))
  refine faP fd.Trace_0 rfl rfl (OL.yes rfl (ldPC ce.Hiddens rfl rfl rfl (OL.yes rfl (lnL sl.Hiddens rfl rfl (OL.yes rfl (mvD rfl (OL.yes rfl ?_)))))))
  refine add_i64 rfl rfl (by omega) (OL.yes rfl (c_gtr rfl rfl (c := false) (by exact decide_eq_false (by omega)) (pkF rfl rfl (mvD rfl (OL.yes rfl (faP fd.Trace_0 rfl rfl (OL.yes rfl ?_)))))))
  refine ldPC ce.Hiddens rfl rfl rfl (OL.yes rfl (ixLe (l := ms) (f := dHM) 0 sl.Hiddens zHM rfl rfl rfl (by omega) rfl rfl (OL.yes rfl (ldRA ag.Hidden rfl (vs := [_,_,_,_,_,_,_,_,_,_,_]) rfl (nb9 rfl) ?_))))
  rw [hc.first]
  refine OL.yes rfl (ldPA ag.Hidden rfl rfl (vs := [_,_,_,_,_,_,_,_,_,_,_]) rfl (nb9 rfl) (OL.yes rfl (clv rfl (.cons (VLe.refl _) (.cons (VLe.refl _) (.nil))) (ref33_Same f) (OL.yes rfl (nt rfl (pkF rfl rfl (OL.nil ?_)))))))
  refine AW.cond rfl (fun hno => absurd hno (by decide)) (fun _ => ?_)
  refine AW.skip (AW.sg hE rfl (bd z.Rat pl.Rat (cs := [_,_,_]) rfl (al z.Rat rfl fun b15 => (sto sz.Rat rfl rfl rfl rfl rfl (nb9 rfl) (cells2 := [_,_,_]) rfl (OL.nil (AW.seq (AW.sg hE rfl ?_)))))))
  refine asD rfl (OL.nil (AW.block (AW.boxW 15 (cellsQ 0) rfl vles_q ?_)))
  refine AW.whileK (α := Nat) [(2, _), (10, _), (11, _), (15, _)] [(11, _)] (fun i => [(16, .d (dI i))]) (fun i => [(15, .box b15 T.Rat (cellsQ (if i = 0 then 0 else lkN (ms.getD (i - 1) zHM) X X.length)))]) (fun i => i ≤ ms.length) (fun i => ms.length - i) 0 (.cons (knD rfl) (.cons (knD rfl) (.cons (knP rfl) (.cons (knP rfl) .nil)))) (.cons (owB rfl) .nil) ⟨Nat.zero_le _, .cons (VLe.refl _) .nil, .cons rfl .nil⟩ ?_
  intro i h1
  have h1 : i ≤ ms.length := h1
  refine AW.seq (AW.sg hE rfl (mvD rfl (faP fd.Trace_0 rfl rfl (ldPC ce.Hiddens rfl rfl rfl (lnL sl.Hiddens rfl rfl (c_lss rfl rfl rfl (OL.nil ?_)))))))
  refine AW.cond rfl (fun h94 => ?_) (fun h94 => ?_)
  ·try simp only [dx9] at h94
   refine AW.skip (AW.seq (AW.block (AW.seq ?_)))
   have hi : i < ms.length := by omega
   obtain ⟨a1, a2, a3, a4⟩ := hc.good i hi
   have m5 := (data1_move k1 a2 a3).ok
   have z1 := lk_sz a1.form m5 X.length (Nat.le_refl _)
   have z2 : sz (if i = 0 then 0 else lkN (ms.getD (i - 1) zHM) X X.length) ≤ 68719476736 := by
    split
    ·rw [sz_zero]; decide
    ·obtain ⟨d1, d2, d3, d4⟩ := hc.good (i - 1) (by omega)
     have := lk_sz d1.form (data1_move k1 d2 d3).ok X.length (Nat.le_refl _)
     omega
   have hup : (if i = 0 then 0 else lkN (ms.getD (i - 1) zHM) X X.length) ≤ lkN (ms.getD i zHM) X X.length := by
    split
    ·exact lk_nn a1
    ·have := climb_rise hc (i := i - 1) (by omega)
     rw [show i - 1 + 1 = i by omega] at this
     exact this
   refine AW.rg hE rfl (faP fd.Trace_0 rfl rfl (ldPC ce.Hiddens rfl rfl rfl (mvD rfl (ixLn (l := ms) (f := dHM) sl.Hiddens zHM rfl rfl (by omega) rfl rfl (ldRA ag.Hidden rfl (vs := [_,_,_,_,_,_,_,_,_,_,_]) rfl (nb9 rfl) (mvD rfl (clv rfl (.cons (VLe.refl _) (.cons (VLe.refl _) (.nil))) (ref39_Likelihood (h := ms.getD i zHM) a1 m5) ?_)))))))
   refine mvT rfl (ex rfl rfl (ex rfl rfl (al z.Rat rfl fun b17 => (sto sz.Rat rfl rfl rfl rfl rfl (nb9 rfl) (cells2 := [_,_,_]) rfl (asD rfl (OL.nil (AW.seq ?_)))))))
   refine AW.sg hE rfl (mvD rfl (c_neq rfl rfl (c := false) (by exact cne_f (by omega)) (mvD rfl (OL.yes rfl (ldPA ag.Rat rfl rfl (vs := [_,_,_]) rfl (nb9 rfl) (OL.yes rfl (ldPA ag.Rat rfl rfl (vs := [_,_,_]) rfl (nb9 rfl) ?_)))))))
   refine OL.yes rfl (clv rfl (.cons (VLe.refl _) (.cons (VLe.refl _) (.nil))) (ref_CompareQ (x := lkN (ms.getD i zHM) X X.length) (y := if i = 0 then 0 else lkN (ms.getD (i - 1) zHM) X X.length) (by omega) z2) (OL.yes rfl (c_lss rfl rfl (c := false) (decide_eq_false fun e => by have := cmpQ_ge.2 hup; omega) (pkF rfl rfl (OL.nil (AW.cond rfl (fun hno => absurd hno (by decide)) (fun _ => ?_)))))))
   refine AW.skip (AW.sg hE rfl (ldPA ag.Rat rfl rfl (vs := [_,_,_]) rfl (nb9 rfl) (sto sz.Rat rfl rfl rfl rfl rfl (nb9 rfl) (cells2 := [_,_,_]) rfl (OL.nil (AW.sg hE rfl (faP fd.Trace_0 rfl rfl (ldPC ce.Hiddens rfl rfl rfl ?_)))))))
   refine mvD rfl (ixLn (l := ms) (f := dHM) sl.Hiddens zHM rfl rfl (by omega) rfl rfl (ldRA ag.Hidden rfl (vs := [_,_,_,_,_,_,_,_,_,_,_]) rfl (nb9 rfl) (mvD rfl (clv rfl (.cons (VLe.refl _) (.cons (VLe.refl _) (.nil))) (ref39_Round (h := ms.getD i zHM) a1 hgg) (mvT rfl (ex rfl rfl (ex rfl rfl ?_)))))))
   refine al z.Hidden rfl fun b19 => (sto sz.Hidden rfl rfl rfl rfl rfl (nb9 rfl) (cells2 := [_,_,_,_,_,_,_,_,_,_,_]) rfl (asD rfl (OL.nil (AW.seq (AW.dg 1 [0,1,2,3,4,5,6,7,8,9,10,11,12,13,14,15] order_free hE rfl (by kernel_rfl) (OI.of_OL (os := [_,_,_,_,_,_,_,_,_,_,_,_,_,_,_,_]) rfl ?_))))))
   refine mvD rfl (c_gtr rfl rfl rfl (mvD rfl (OL.split 128 rfl (fun h0 => ?_) (fun h0 => ?_))))
   ·have h0 : (0 : Int) < (i : Int) := of_decide_eq_true h0
    rw [hc.grid i (by omega) hi]
    refine OL.yes rfl (mvD rfl (OL.yes rfl (c_neq rfl rfl (c := false) (by exact cne_f (by omega)) (OL.yes rfl (mvD rfl (OL.yes rfl (ldPA ag.Hidden rfl rfl (vs := [_,_,_,_,_,_,_,_,_,_,_]) rfl (nb9 rfl) ?_)))))))
    refine OL.yes rfl (faP fd.Trace_0 rfl rfl (OL.yes rfl (ldPC ce.Hiddens rfl rfl rfl (OL.yes rfl (mvD rfl (OL.yes rfl (ixLn (l := ms) (f := dHM) sl.Hiddens zHM rfl rfl (by omega) rfl rfl ?_)))))))
    refine OL.yes rfl (ldRA ag.Hidden rfl (vs := [_,_,_,_,_,_,_,_,_,_,_]) rfl (nb9 rfl) (OL.yes rfl (clv rfl (.cons (VLe.refl _) (.cons (VLe.refl _) (.nil))) (ref33_Same (h := ms.getD i zHM) a1.form) (OL.yes rfl (nt rfl (OL.yes rfl (pkF rfl rfl ?_)))))))
    refine pkT rfl rfl (OL.nil (AW.cond rfl (fun hno => absurd hno (by decide)) (fun _ => ?_)))
    exact AW.skip (AW.rg hE rfl (mvD rfl (add_i64 rfl rfl (by omega) (asD rfl (OL.nil (AW.again (x := i) (i + 1) (by omega) ⟨by omega, Knows.app (.cons (VLe.refl _) (.cons (VLe.refl _) (.cons (VLe.refl _) (.cons (VLe.refl _) .nil)))) (.cons (VLe.refl _) .nil), Owns.app (.cons rfl .nil) (.cons (by rw [if_neg (Nat.succ_ne_zero i)]; rfl) .nil)⟩))))))
   ·have _h0 := h0
    refine OL.no rfl (by decide) (OL.no rfl (by decide) (OL.no rfl (by decide) (OL.no rfl (by decide) (OL.no rfl (by decide) (OL.no rfl (by decide) (OL.no rfl (by decide) (OL.no rfl (by decide) ?_)))))))
    refine OL.no rfl (by decide) (OL.no rfl (by decide) (OL.no rfl (by decide) (OL.no rfl (by decide) (pkF rfl rfl (OL.nil (AW.cond rfl (fun hno => absurd hno (by decide)) (fun _ => ?_)))))))
    exact AW.skip (AW.rg hE rfl (mvD rfl (add_i64 rfl rfl (by omega) (asD rfl (OL.nil (AW.again (x := i) (i + 1) (by omega) ⟨by omega, Knows.app (.cons (VLe.refl _) (.cons (VLe.refl _) (.cons (VLe.refl _) (.cons (VLe.refl _) .nil)))) (.cons (VLe.refl _) .nil), Owns.app (.cons rfl .nil) (.cons (by rw [if_neg (Nat.succ_ne_zero i)]; rfl) .nil)⟩))))))
  ·try simp only [dx9] at h94
   exact AW.exit (AW.sg hE rfl (clv rfl .nil law39_known (asD rfl (OL.nil (AW.ret (RetQ.r ⟨_, .tmp rfl .nil, .le (VLe.refl _)⟩))))))
end Go.Proofs.YtoohdcpikkkanaaGreat

/-
  Walks for chapter 39, part 6: expected numbers of all words (printed by mk2.py).
-/
import Derived.Test.YtoohdcpikkkanaaGreatKAsE
set_option linter.unusedVariables false
set_option linter.unusedSimpArgs false
namespace Go.Proofs.YtoohdcpikkkanaaGreat
open Go Go.AL
abbrev stA9 (h : HM) (D : List (List Int)) : List Rat := accL h.st (exS h) D
abbrev enA9 (h : HM) (D : List (List Int)) : List Rat := accL h.st (exE h) D
abbrev mvA9 (h : HM) (D : List (List Int)) (i : Nat) : List Rat := accL h.st (fun w => (exM h w).getD i []) D
abbrev shA9 (h : HM) (D : List (List Int)) (i : Nat) : List Rat := accL h.sym (fun w => (exO h w).getD i []) D
open Classical in
noncomputable def exp9 (h : HM) (X : List (List Int)) : V := if AllL h X then .tup [.ag [.d (dQs (stA9 h X)), .d (dQss ((List.range h.st).map (mvA9 h X))), .d (dQs (enA9 h X)), .d (dQss ((List.range h.st).map (shA9 h X)))], .d (dI (emN X)), .d (dI 0)] else .tup [.ag [.junk, .junk, .junk, .junk], .d (dI 0), .d (dI 11)]
theorem vd_to {x y : V} {d : D} (h : x = y) (hd : VD y d) : VD x d := h ▸ hd
theorem vc_to {x y : V} {d : D} (h : x = y) (hd : VC y d) : VC x d := h ▸ hd
def ownE1 : Nat → Option Nat
 | 14 => some 0
 | 15 => some 1
 | 16 => some 2
 | 17 => some 3
 | 18 => some 4
 | 19 => some 5
 | 20 => some 6
 | 7 => some 7
 | _ => none
theorem ownE1_inj {t i : Nat} (h : ownE1 t = some i) : t = [14, 15, 16, 17, 18, 19, 20, 7].getD i 0 := by
 unfold ownE1 at h
 split at h <;> first | (cases h; rfl) | cases h
noncomputable def valE1 (h : HM) (b2 : Nat) (t : Nat) (β : Nat → Nat × Nat) : V :=
 match t with
 | 14 | 17 => .ptr 2 b2 1
 | 15 | 18 => .d (dI h.st)
 | 16 => .osl 16 (β 16).1 h.st h.st
 | 19 => .osl 19 (β 19).1 h.st h.st
 | 20 => .ag [.osl 16 (β 16).1 h.st h.st, .mt, .osl 19 (β 19).1 h.st h.st, .mt]
 | 7 => .ptr 7 (β 7).1 0
 | _ => .junk
noncomputable abbrev telE1 (h : HM) (b2 : Nat) : List Tell := [⟨16, 2, fun β => .row (β 16).1 h.st T.Rat 3 ((List.replicate h.st 0).map dQ)⟩, ⟨19, 5, fun β => .row (β 19).1 h.st T.Rat 3 ((List.replicate h.st 0).map dQ)⟩, ⟨7, 7, fun β => .box (β 7).1 T.Counts [.mt, .mt, .mt, .mt]⟩]
theorem casE1 {p : Nat → Prop} (h0 : p 0) (h1 : p 1) (h2 : p 2) (h3 : p 3) (h4 : p 4) (h5 : p 5) (h6 : p 6) (h7 : p 7) : ∀ i, i < 8 → p i := fun i hi => by
 have : i = 0 ∨ i = 1 ∨ i = 2 ∨ i = 3 ∨ i = 4 ∨ i = 5 ∨ i = 6 ∨ i = 7 := by omega
 rcases this with rfl | rfl | rfl | rfl | rfl | rfl | rfl | rfl <;> assumption
def ownE4 : Nat → Option Nat
 | 25 => some 0
 | 26 => some 1
 | 27 => some 2
 | 28 => some 3
 | 29 => some 4
 | 30 => some 5
 | 31 => some 6
 | 32 => some 7
 | 33 => some 8
 | 34 => some 9
 | 35 => some 10
 | 36 => some 11
 | 37 => some 12
 | 38 => some 13
 | 39 => some 14
 | 40 => some 16
 | _ => none
theorem ownE4_inj {t i : Nat} (h : ownE4 t = some i) : t = [25, 26, 27, 28, 29, 30, 31, 32, 33, 34, 35, 36, 37, 38, 39, 0, 40].getD i 0 := by
 unfold ownE4 at h
 split at h <;> first | (cases h; rfl) | cases h
noncomputable def valE4 (h : HM) (b2 b7 b16 b19 i p1 c1 p2 c2 : Nat) (rsM rsS : List (Nat × List D)) (t : Nat) (β : Nat → Nat × Nat) : V :=
 match t with
 | 25 | 39 => .ptr 7 b7 1
 | 26 => .osl 31 p1 i c1
 | 27 => .ptr 2 b2 1
 | 28 => .d (dI h.st)
 | 29 => .osl 29 (β 29).1 h.st h.st
 | 30 => .d (.sl [hdC (β 29).1 h.st h.st])
 | 31 => .osl 31 (β 31).1 (i + 1) (β 31).2
 | 32 | 40 => .ptr 7 b7 3
 | 33 => .osl 38 p2 i c2
 | 34 => .ptr 2 b2 0
 | 35 => .d (dI h.sym)
 | 36 => .osl 36 (β 36).1 h.sym h.sym
 | 37 => .d (.sl [hdC (β 36).1 h.sym h.sym])
 | 38 => .osl 38 (β 38).1 (i + 1) (β 38).2
 | _ => .junk
noncomputable abbrev telE4 (h : HM) (b2 b7 b16 b19 i p1 c1 p2 c2 : Nat) (rsM rsS : List (Nat × List D)) : List Tell := [⟨7, 15, fun β => .box b7 T.Counts [.osl 16 b16 h.st h.st, .osl 31 (β 31).1 (i + 1) (β 31).2, .osl 19 b19 h.st h.st, .osl 38 p2 i c2]⟩, ⟨31, 6, fun β => .row (β 31).1 (β 31).2 T.Rats 1 (rsM.map hdP ++ [hdC (β 29).1 h.st h.st])⟩, ⟨38, 13, fun β => .row (β 38).1 (β 38).2 T.Rats 1 (rsS.map hdP ++ [hdC (β 36).1 h.sym h.sym])⟩, ⟨29, 4, fun β => .row (β 29).1 h.st T.Rat 3 ((List.replicate h.st 0).map dQ)⟩, ⟨36, 11, fun β => .row (β 36).1 h.sym T.Rat 3 ((List.replicate h.sym 0).map dQ)⟩]
theorem casE4 {p : Nat → Prop} (h0 : p 0) (h1 : p 1) (h2 : p 2) (h3 : p 3) (h4 : p 4) (h5 : p 5) (h6 : p 6) (h7 : p 7) (h8 : p 8) (h9 : p 9) (h10 : p 10) (h11 : p 11) (h12 : p 12) (h13 : p 13) (h14 : p 14) (h15 : p 15) (h16 : p 16) : ∀ i, i < 17 → p i := fun i hi => by
 have : i = 0 ∨ i = 1 ∨ i = 2 ∨ i = 3 ∨ i = 4 ∨ i = 5 ∨ i = 6 ∨ i = 7 ∨ i = 8 ∨ i = 9 ∨ i = 10 ∨ i = 11 ∨ i = 12 ∨ i = 13 ∨ i = 14 ∨ i = 15 ∨ i = 16 := by omega
 rcases this with rfl | rfl | rfl | rfl | rfl | rfl | rfl | rfl | rfl | rfl | rfl | rfl | rfl | rfl | rfl | rfl | rfl <;> assumption
def ownE20 : Nat → Option Nat
 | 78 => some 0
 | 79 => some 1
 | 80 => some 2
 | 81 => some 3
 | 82 => some 4
 | 83 => some 5
 | 84 => some 6
 | 85 => some 7
 | 86 => some 8
 | 87 => some 9
 | _ => none
theorem ownE20_inj {t i : Nat} (h : ownE20 t = some i) : t = [78, 79, 80, 81, 82, 83, 84, 85, 86, 87].getD i 0 := by
 unfold ownE20 at h
 split at h <;> first | (cases h; rfl) | cases h
noncomputable def valE20 (h : HM) (w : List Int) (i b7 b11 p1 c1 bj : Nat) (t : Nat) (β : Nat → Nat × Nat) : V :=
 match t with
 | 78 => .ptr 7 b7 1
 | 79 => .osl 31 p1 h.st c1
 | 80 | 85 => .d (dI i)
 | 81 => .eptr 31 p1 1 i 0
 | 82 => .osl 2001 bj h.st h.st
 | 83 => .ptr 11 b11 1
 | 84 => .d (dQss (exM h w))
 | 86 => .ref [dQs ((exM h w).getD i [])]
 | 87 => .d (dQs ((exM h w).getD i []))
 | _ => .junk
noncomputable abbrev telE20 (h : HM) (w : List Int) (i b7 b11 p1 c1 bj : Nat) : List Tell := []
theorem casE20 {p : Nat → Prop} (h0 : p 0) (h1 : p 1) (h2 : p 2) (h3 : p 3) (h4 : p 4) (h5 : p 5) (h6 : p 6) (h7 : p 7) (h8 : p 8) (h9 : p 9) : ∀ i, i < 10 → p i := fun i hi => by
 have : i = 0 ∨ i = 1 ∨ i = 2 ∨ i = 3 ∨ i = 4 ∨ i = 5 ∨ i = 6 ∨ i = 7 ∨ i = 8 ∨ i = 9 := by omega
 rcases this with rfl | rfl | rfl | rfl | rfl | rfl | rfl | rfl | rfl | rfl <;> assumption
def ownE21 : Nat → Option Nat
 | 89 => some 0
 | 90 => some 1
 | 91 => some 2
 | 92 => some 3
 | 93 => some 4
 | 94 => some 5
 | 95 => some 6
 | 96 => some 7
 | 97 => some 8
 | 98 => some 9
 | _ => none
theorem ownE21_inj {t i : Nat} (h : ownE21 t = some i) : t = [89, 90, 91, 92, 93, 94, 95, 96, 97, 98].getD i 0 := by
 unfold ownE21 at h
 split at h <;> first | (cases h; rfl) | cases h
noncomputable def valE21 (h : HM) (w : List Int) (i b7 b11 p2 c2 bs : Nat) (t : Nat) (β : Nat → Nat × Nat) : V :=
 match t with
 | 89 => .ptr 7 b7 3
 | 90 => .osl 38 p2 h.st c2
 | 91 | 96 => .d (dI i)
 | 92 => .eptr 38 p2 1 i 0
 | 93 => .osl 2002 bs h.sym h.sym
 | 94 => .ptr 11 b11 3
 | 95 => .d (dQss (exO h w))
 | 97 => .ref [dQs ((exO h w).getD i [])]
 | 98 => .d (dQs ((exO h w).getD i []))
 | _ => .junk
noncomputable abbrev telE21 (h : HM) (w : List Int) (i b7 b11 p2 c2 bs : Nat) : List Tell := []
theorem casE21 {p : Nat → Prop} (h0 : p 0) (h1 : p 1) (h2 : p 2) (h3 : p 3) (h4 : p 4) (h5 : p 5) (h6 : p 6) (h7 : p 7) (h8 : p 8) (h9 : p 9) : ∀ i, i < 10 → p i := fun i hi => by
 have : i = 0 ∨ i = 1 ∨ i = 2 ∨ i = 3 ∨ i = 4 ∨ i = 5 ∨ i = 6 ∨ i = 7 ∨ i = 8 ∨ i = 9 := by omega
 rcases this with rfl | rfl | rfl | rfl | rfl | rfl | rfl | rfl | rfl | rfl <;> assumption
set_option maxRecDepth 8000 in
set_option maxHeartbeats 6400000 in
theorem ascent_expected {h : HM} {B : Nat} {X : List (List Int)} (g : h.Good B) (k5 : DataOK h X) : FSpec P F.ascent_expected [vHM h, .d (dIss X)] (exp9 h X) := by
 have f := g.form
 have n0 := f.st0
 have n1 := f.st1
 have s0 := f.sym0
 have s1 := f.sym1
 have k1 := k5.len
 have hzs : ((List.replicate h.st 0).map dQ).length = h.st := by simp
 have hzo : ((List.replicate h.sym 0).map dQ).length = h.sym := by simp
 refine FSpec.intro fn.ascent_expected (by rfl) (by rfl) (nb9 (by rfl)) fun E hE => (AW.sg hE rfl (bxA rfl rfl fun b2 => (al z.Counts rfl fun b4 => (asD rfl (asD rfl (OL.nil (AW.seq ?_)))))))
 refine AW.region_planT (valE1 h b2) ownE1 (telE1 h b2) 8 order_free (by rw [hE]; rfl) (by rfl) (by kernel_rfl) (by kernel_rfl) ?_ ?_
 ·refine casE1 ?_ ?_ ?_ ?_ ?_ ?_ ?_ ?_
  ·exact fun β L c9 => ⟨_, rfl, .inl (OG.of_OL (faP fd.Hidden_1 (b := b2) (o := 0) (id := 2) ((pG_old rfl).trans rfl) rfl ⟨β, pG_put (d := 14) (i := 0) rfl (fun t ht => ownE1_inj ht) (lt_size 9 c9.size rfl (by decide)) (mfT_same (lt_size 9 c9.size rfl (by decide)) (by rfl))⟩))⟩
  ·exact fun β L c9 => ⟨_, rfl, .inl (OG.of_OL (ldPC ce.int (pG_new rfl (come_dep (j := 0) c9 (by kernel_rfl))) ((pG_M (mfT_skip (show (2:Nat) ≠ 16 by decide) (mfT_skip (show (2:Nat) ≠ 19 by decide) (mfT_skip (show (2:Nat) ≠ 7 by decide) rfl)))) : _ = some (.box b2 T.Hidden (cellsHM h))) (v := .d (dI h.st)) rfl ⟨β, pG_put (d := 15) (i := 1) rfl (fun t ht => ownE1_inj ht) (lt_size 9 c9.size rfl (by decide)) (mfT_same (lt_size 9 c9.size rfl (by decide)) (by rfl))⟩))⟩
  ·exact fun β L c9 => ⟨_, rfl, .inl (OG.of_OL (mkL dQ 0 sl.Rats z.Rat vcs_q0 (n := h.st) (cp := h.st) (k := .i64) (k2 := .i64) (pG_new rfl (come_dep (j := 1) c9 (by kernel_rfl))) (pG_new rfl (come_dep (j := 1) c9 (by kernel_rfl))) (Nat.le_refl _) (by omega) (by omega) (pG_M (mfT_no (by exact c9.no) (mfT_skip (show (16:Nat) ≠ 19 by decide) (mfT_skip (show (16:Nat) ≠ 7 by decide) rfl)))) fun b8 => ⟨upd β 16 (b8, 0), pG_set (d := 16) (i := 2) (x := (b8, 0)) rfl (fun t ht => ownE1_inj ht) (lt_size 9 c9.size rfl (by decide)) rfl (mfT_here (lt_size 9 c9.size rfl (by decide)) rfl rfl rfl c9.no (by rfl) (List.forall_mem_cons.2 ⟨(by exact fun _ _ => rfl), (List.forall_mem_cons.2 ⟨(by exact fun _ _ => rfl), (fun y hy => absurd hy List.not_mem_nil)⟩)⟩)) (fun t j ho hl => by unfold ownE1 at ho; split at ho <;> cases ho <;> first | rfl | (rw [c9.no] at hl; cases hl) | exact come_notT c9 (by kernel_rfl) hl)⟩))⟩
  ·exact fun β L c9 => ⟨_, rfl, .inl (OG.of_OL (faP fd.Hidden_1 (b := b2) (o := 0) (id := 2) ((pG_old rfl).trans rfl) rfl ⟨β, pG_put (d := 17) (i := 3) rfl (fun t ht => ownE1_inj ht) (lt_size 9 c9.size rfl (by decide)) (mfT_same (lt_size 9 c9.size rfl (by decide)) (by rfl))⟩))⟩
  ·exact fun β L c9 => ⟨_, rfl, .inl (OG.of_OL (ldPC ce.int (pG_new rfl (come_dep (j := 3) c9 (by kernel_rfl))) ((pG_M (mfT_skip (show (2:Nat) ≠ 16 by decide) (mfT_skip (show (2:Nat) ≠ 19 by decide) (mfT_skip (show (2:Nat) ≠ 7 by decide) rfl)))) : _ = some (.box b2 T.Hidden (cellsHM h))) (v := .d (dI h.st)) rfl ⟨β, pG_put (d := 18) (i := 4) rfl (fun t ht => ownE1_inj ht) (lt_size 9 c9.size rfl (by decide)) (mfT_same (lt_size 9 c9.size rfl (by decide)) (by rfl))⟩))⟩
  ·exact fun β L c9 => ⟨_, rfl, .inl (OG.of_OL (mkL dQ 0 sl.Rats z.Rat vcs_q0 (n := h.st) (cp := h.st) (k := .i64) (k2 := .i64) (pG_new rfl (come_dep (j := 4) c9 (by kernel_rfl))) (pG_new rfl (come_dep (j := 4) c9 (by kernel_rfl))) (Nat.le_refl _) (by omega) (by omega) (pG_M (mfT_skip (show (19:Nat) ≠ 16 by decide) (mfT_no (by exact c9.no) (mfT_skip (show (19:Nat) ≠ 7 by decide) rfl)))) fun b8 => ⟨upd β 19 (b8, 0), pG_set (d := 19) (i := 5) (x := (b8, 0)) rfl (fun t ht => ownE1_inj ht) (lt_size 9 c9.size rfl (by decide)) rfl (mfT_pass (lt_size 9 c9.size rfl (by decide)) (show (2:Nat) ≠ 5 by decide) (.inl (show (16:Nat) ≠ 19 by decide)) (by exact fun _ => rfl) (mfT_here (lt_size 9 c9.size rfl (by decide)) rfl rfl rfl c9.no (by rfl) (List.forall_mem_cons.2 ⟨(by exact fun _ _ => rfl), (fun y hy => absurd hy List.not_mem_nil)⟩))) (fun t j ho hl => by unfold ownE1 at ho; split at ho <;> cases ho <;> first | rfl | (rw [c9.no] at hl; cases hl) | exact come_notT c9 (by kernel_rfl) hl)⟩))⟩
  ·exact fun β L c9 => ⟨_, rfl, .inl (OG.of_OL (bd2 (cs := [_,_,_,_]) z.Counts pl.Counts (pvC (pG_new rfl (come_dep (j := 2) c9 (by kernel_rfl))) (pvC (pG_new rfl (come_dep (j := 5) c9 (by kernel_rfl))) pvN)) (by rfl) ⟨β, pG_put (d := 20) (i := 6) rfl (fun t ht => ownE1_inj ht) (lt_size 9 c9.size rfl (by decide)) (mfT_same (lt_size 9 c9.size rfl (by decide)) (by rfl))⟩))⟩
  ·exact fun β L c9 => ⟨_, rfl, .inl (OG.of_OL (al z.Counts (pG_M (mfT_skip (show (7:Nat) ≠ 16 by decide) (mfT_skip (show (7:Nat) ≠ 19 by decide) (mfT_no (by exact c9.no) rfl)))) fun b8 => ⟨upd β 7 (b8, 0), pG_set (d := 7) (i := 7) (x := (b8, 0)) rfl (fun t ht => ownE1_inj ht) (lt_size 9 c9.size rfl (by decide)) rfl (mfT_pass (lt_size 9 c9.size rfl (by decide)) (show (2:Nat) ≠ 7 by decide) (.inl (show (16:Nat) ≠ 7 by decide)) (by exact fun _ => rfl) (mfT_pass (lt_size 9 c9.size rfl (by decide)) (show (5:Nat) ≠ 7 by decide) (.inl (show (19:Nat) ≠ 7 by decide)) (by exact fun _ => rfl) (mfT_here (lt_size 9 c9.size rfl (by decide)) rfl rfl rfl c9.no (by rfl) (fun y hy => absurd hy List.not_mem_nil)))) (fun t j ho hl => by unfold ownE1 at ho; split at ho <;> cases ho <;> first | rfl | (rw [c9.no] at hl; cases hl) | exact come_notT c9 (by kernel_rfl) hl)⟩))⟩
 refine fun β L c9 hA => ⟨_, rfl, .inl (OG.of_OL (sto sz.Counts (pG_new rfl (hA 7 (by decide))) (pG_new rfl (hA 6 (by decide))) rfl (pG_M (mfT_skip (show (7:Nat) ≠ 16 by decide) (mfT_skip (show (7:Nat) ≠ 19 by decide) (mfT_yes (hA 7 (by decide)) rfl rfl)))) rfl (nb9 rfl) (cells2 := [_,_,_,_]) rfl ?_))⟩
 refine OL.nil ?_
 refine AW.to [(1, .d (dIss X)), (2, .ptr 2 b2 0), (4, .ptr 4 b4 0), (5, .d (dI 0)), (6, .d (dI 0)), (7, .ptr 7 (β 7).1 0)] [(2, .box b2 T.Hidden (cellsHM h)), (4, .box b4 T.Counts [.mt, .mt, .mt, .mt]), (7, .box (β 7).1 T.Counts [.osl 16 (β 16).1 h.st h.st, .mt, .osl 19 (β 19).1 h.st h.st, .mt]), (16, .row (β 16).1 h.st T.Rat 3 ((List.replicate h.st 0).map dQ)), (19, .row (β 19).1 h.st T.Rat 3 ((List.replicate h.st 0).map dQ))] (.cons (vle_of_eq (sto_rho ((pG_old rfl).trans rfl))) (.cons (vle_of_eq (sto_rho ((pG_old rfl).trans rfl))) (.cons (vle_of_eq (sto_rho ((pG_old rfl).trans rfl))) (.cons (vle_of_eq (sto_rho ((pG_old rfl).trans rfl))) (.cons (vle_of_eq (sto_rho ((pG_old rfl).trans rfl))) (.cons (vle_of_eq (sto_rho (pG_new rfl (hA 7 (by decide))))) (.nil))))))) (.cons (sto_old (show (2:Nat) ≠ 7 by decide) (pG_M (mfT_skip (show (2:Nat) ≠ 16 by decide) (mfT_skip (show (2:Nat) ≠ 19 by decide) (mfT_skip (show (2:Nat) ≠ 7 by decide) rfl))))) (.cons (sto_old (show (4:Nat) ≠ 7 by decide) (pG_M (mfT_skip (show (4:Nat) ≠ 16 by decide) (mfT_skip (show (4:Nat) ≠ 19 by decide) (mfT_skip (show (4:Nat) ≠ 7 by decide) rfl))))) (.cons sto_new (.cons (sto_old (show (16:Nat) ≠ 7 by decide) (pG_M (mfT_yes (hA 2 (by decide)) rfl rfl))) (.cons (sto_old (show (19:Nat) ≠ 7 by decide) (pG_M (mfT_skip (show (19:Nat) ≠ 16 by decide) (mfT_yes (hA 5 (by decide)) rfl rfl)))) (.nil)))))) ?_
 generalize (β 16).1 = b16
 generalize (β 19).1 = b19
 generalize (β 7).1 = b7
 refine AW.seq (AW.sg hE rfl (faP fd.Hidden_1 rfl rfl (ldPC ce.int rfl rfl rfl (mvD rfl (OL.nil (AW.boxW 7 [.osl 16 b16 h.st h.st, .osl 31 0 0 0, .osl 19 b19 h.st h.st, .osl 38 0 0 0] rfl (.cons (VLe.refl _) (.cons VLe.mtO (.cons (VLe.refl _) (.cons VLe.mtO .nil)))) (AW.row0 31 T.Rats 1 rfl ?_)))))))
 refine AW.row0 38 T.Rats 1 rfl (AW.pool0 2031 T.Rat 3 rfl (AW.pool0 2038 T.Rat 3 rfl (AW.block ?_)))
 refine AW.whileK (α := Nat × Nat × Nat × Nat × Nat × List (Nat × List D) × List (Nat × List D)) [(1, _), (2, _), (4, _), (5, _), (6, _), (7, _), (22, _)] [(2, _), (4, _)] (fun (i, p1, c1, p2, c2, rsM, rsS) => [(23, .d (dI i))]) (fun (i, p1, c1, p2, c2, rsM, rsS) => [(7, .box b7 T.Counts [.osl 16 b16 h.st h.st, .osl 31 p1 i c1, .osl 19 b19 h.st h.st, .osl 38 p2 i c2]), (16, .row b16 h.st T.Rat 3 ((List.replicate h.st 0).map dQ)), (19, .row b19 h.st T.Rat 3 ((List.replicate h.st 0).map dQ)), (31, .row p1 c1 T.Rats 1 (rsM.map hdP)), (2031, .pool T.Rat 3 rsM), (38, .row p2 c2 T.Rats 1 (rsS.map hdP)), (2038, .pool T.Rat 3 rsS)]) (fun (i, p1, c1, p2, c2, rsM, rsS) => i ≤ h.st ∧ rsM.map Prod.snd = List.replicate i ((List.replicate h.st 0).map dQ) ∧ rsS.map Prod.snd = List.replicate i ((List.replicate h.sym 0).map dQ)) (fun (i, p1, c1, p2, c2, rsM, rsS) => h.st - i) (0, 0, 0, 0, 0, [], []) (.cons (knD rfl) (.cons (knP rfl) (.cons (knP rfl) (.cons (knD rfl) (.cons (knD rfl) (.cons (knP rfl) (.cons (knD rfl) .nil))))))) (.cons (owB rfl) (.cons (owB rfl) .nil)) ⟨⟨Nat.zero_le _, rfl, rfl⟩, .cons (VLe.refl _) .nil, .cons rfl (.cons rfl (.cons rfl (.cons rfl (.cons rfl (.cons rfl (.cons rfl .nil))))))⟩ ?_
 rintro ⟨i, p1, c1, p2, c2, rsM, rsS⟩ ⟨h1, hrM, hrS⟩
 have h1 : i ≤ h.st := h1
 have hrM : rsM.map Prod.snd = List.replicate i ((List.replicate h.st 0).map dQ) := hrM
 have hrS : rsS.map Prod.snd = List.replicate i ((List.replicate h.sym 0).map dQ) := hrS
 have hlM : rsM.length = i := (snd_len hrM).trans (by simp)
 have hlS : rsS.length = i := (snd_len hrS).trans (by simp)
 refine AW.sg hE rfl (c_lss rfl rfl rfl (OL.nil (AW.seq (AW.cond rfl (fun h24 => ?_) (fun h24 => ?_)))))
 ·try simp only [dx9] at h24
  refine AW.skip (AW.seq (AW.block (AW.region_planT (valE4 h b2 b7 b16 b19 i p1 c1 p2 c2 rsM rsS) ownE4 (telE4 h b2 b7 b16 b19 i p1 c1 p2 c2 rsM rsS) 17 order_free (by rw [hE]; rfl) (by rfl) (by kernel_rfl) (by kernel_rfl) ?_ ?_)))
  ·refine casE4 ?_ ?_ ?_ ?_ ?_ ?_ ?_ ?_ ?_ ?_ ?_ ?_ ?_ ?_ ?_ ?_ ?_
   ·exact fun β L c9 => ⟨_, rfl, .inl (OG.of_OL (faP fd.Counts_1 (b := b7) (o := 0) (id := 7) ((pG_old rfl).trans rfl) rfl ⟨β, pG_put (d := 25) (i := 0) rfl (fun t ht => ownE4_inj ht) (lt_size 18 c9.size rfl (by decide)) (mfT_same (lt_size 18 c9.size rfl (by decide)) (by rfl))⟩))⟩
   ·exact fun β L c9 => ⟨_, rfl, .inl (OG.of_OL (ldPC ce.Ratss (pG_new rfl (come_dep (j := 0) c9 (by kernel_rfl))) ((pG_M (mfT_no (by exact come_lateT c9 (by kernel_rfl)) (mfT_skip (show (7:Nat) ≠ 31 by decide) (mfT_skip (show (7:Nat) ≠ 38 by decide) (mfT_skip (show (7:Nat) ≠ 29 by decide) (mfT_skip (show (7:Nat) ≠ 36 by decide) rfl)))))) : _ = some (.box b7 T.Counts [.osl 16 b16 h.st h.st, .osl 31 p1 i c1, .osl 19 b19 h.st h.st, .osl 38 p2 i c2])) (v := .osl 31 p1 i c1) rfl ⟨β, pG_put (d := 26) (i := 1) rfl (fun t ht => ownE4_inj ht) (lt_size 18 c9.size rfl (by decide)) (mfT_same (lt_size 18 c9.size rfl (by decide)) (by rfl))⟩))⟩
   ·exact fun β L c9 => ⟨_, rfl, .inl (OG.of_OL (faP fd.Hidden_1 (b := b2) (o := 0) (id := 2) ((pG_old rfl).trans rfl) rfl ⟨β, pG_put (d := 27) (i := 2) rfl (fun t ht => ownE4_inj ht) (lt_size 18 c9.size rfl (by decide)) (mfT_same (lt_size 18 c9.size rfl (by decide)) (by rfl))⟩))⟩
   ·exact fun β L c9 => ⟨_, rfl, .inl (OG.of_OL (ldPC ce.int (pG_new rfl (come_dep (j := 2) c9 (by kernel_rfl))) ((pG_M (mfT_skip (show (2:Nat) ≠ 7 by decide) (mfT_skip (show (2:Nat) ≠ 31 by decide) (mfT_skip (show (2:Nat) ≠ 38 by decide) (mfT_skip (show (2:Nat) ≠ 29 by decide) (mfT_skip (show (2:Nat) ≠ 36 by decide) rfl)))))) : _ = some (.box b2 T.Hidden (cellsHM h))) (v := .d (dI h.st)) rfl ⟨β, pG_put (d := 28) (i := 3) rfl (fun t ht => ownE4_inj ht) (lt_size 18 c9.size rfl (by decide)) (mfT_same (lt_size 18 c9.size rfl (by decide)) (by rfl))⟩))⟩
   ·exact fun β L c9 => ⟨_, rfl, .inl (OG.of_OL (mkL dQ 0 sl.Rats z.Rat vcs_q0 (n := h.st) (cp := h.st) (k := .i64) (k2 := .i64) (pG_new rfl (come_dep (j := 3) c9 (by kernel_rfl))) (pG_new rfl (come_dep (j := 3) c9 (by kernel_rfl))) (Nat.le_refl _) (by omega) (by omega) (pG_M (mfT_skip (show (29:Nat) ≠ 7 by decide) (mfT_skip (show (29:Nat) ≠ 31 by decide) (mfT_skip (show (29:Nat) ≠ 38 by decide) (mfT_no (by exact c9.no) (mfT_skip (show (29:Nat) ≠ 36 by decide) rfl)))))) fun b8 => ⟨upd β 29 (b8, 0), pG_set (d := 29) (i := 4) (x := (b8, 0)) rfl (fun t ht => ownE4_inj ht) (lt_size 18 c9.size rfl (by decide)) rfl (mfT_pass (lt_size 18 c9.size rfl (by decide)) (show (15:Nat) ≠ 4 by decide) (.inl (show (7:Nat) ≠ 29 by decide)) (by exact fun _ => rfl) (mfT_pass (lt_size 18 c9.size rfl (by decide)) (show (6:Nat) ≠ 4 by decide) (.inl (show (31:Nat) ≠ 29 by decide)) (by exact fun e => come_notT c9 (by kernel_rfl) e) (mfT_pass (lt_size 18 c9.size rfl (by decide)) (show (13:Nat) ≠ 4 by decide) (.inl (show (38:Nat) ≠ 29 by decide)) (by exact fun _ => rfl) (mfT_here (lt_size 18 c9.size rfl (by decide)) rfl rfl rfl c9.no (by rfl) (List.forall_mem_cons.2 ⟨(by exact fun _ _ => rfl), (fun y hy => absurd hy List.not_mem_nil)⟩))))) (fun t j ho hl => by unfold ownE4 at ho; split at ho <;> cases ho <;> first | rfl | (rw [c9.no] at hl; cases hl) | exact come_notT c9 (by kernel_rfl) hl)⟩))⟩
   ·exact fun β L c9 => ⟨_, rfl, .inl (OG.of_OL (lt1 (y := hdC (β 29).1 h.st h.st) sl.Ratss (vd_to (pG_new rfl (come_dep (j := 4) c9 (by kernel_rfl))) (vd_head (id := 29) (by omega))) rfl (by decide) ⟨β, pG_put (d := 30) (i := 5) rfl (fun t ht => ownE4_inj ht) (lt_size 18 c9.size rfl (by decide)) (mfT_same (lt_size 18 c9.size rfl (by decide)) (by rfl))⟩))⟩
   ·exact fun β L c9 => ⟨_, rfl, .inl (OG.of_OL (apO sl.Ratss rfl (pG_new rfl (come_dep (j := 1) c9 (by kernel_rfl))) ((pG_M (mfT_skip (show (31:Nat) ≠ 7 by decide) (mfT_no (by exact c9.no) (mfT_skip (show (31:Nat) ≠ 38 by decide) (mfT_skip (show (31:Nat) ≠ 29 by decide) (mfT_skip (show (31:Nat) ≠ 36 by decide) rfl)))))) : _ = some (.row p1 c1 T.Rats 1 (rsM.map hdP))) (by rw [List.length_map]; omega) (vc_to (pG_new rfl (come_dep (j := 5) c9 (by kernel_rfl))) (VC.d _)) (fun y hy => by rw [List.mem_singleton.1 hy]; rfl) (by simp only [List.length_singleton]; omega) (by simp only [List.length_singleton]; omega) (.inr rfl) (ys := rsM.map hdP ++ [hdC (β 29).1 h.st h.st]) rfl (n2 := i + 1) rfl fun b8 c8 => ⟨upd β 31 (b8, c8), pG_set (d := 31) (i := 6) (x := (b8, c8)) rfl (fun t ht => ownE4_inj ht) (lt_size 18 c9.size rfl (by decide)) rfl (Eq.trans (mfT_pass (lt_size 18 c9.size rfl (by decide)) (show (15:Nat) ≠ 6 by decide) (.inl (show (7:Nat) ≠ 31 by decide)) (by exact fun e => come_notT c9 (by kernel_rfl) e) (mfT_here (lt_size 18 c9.size rfl (by decide)) rfl rfl rfl c9.no (by rfl) (List.forall_mem_cons.2 ⟨(by exact fun _ _ => rfl), (List.forall_mem_cons.2 ⟨(by exact fun _ _ => rfl), (List.forall_mem_cons.2 ⟨(by exact fun _ _ => rfl), (fun y hy => absurd hy List.not_mem_nil)⟩)⟩)⟩))) (upd_upd _ _ _ _).symm) (fun t j ho hl => by unfold ownE4 at ho; split at ho <;> cases ho <;> first | rfl | (rw [c9.no] at hl; cases hl) | exact come_notT c9 (by kernel_rfl) hl)⟩))⟩
   ·exact fun β L c9 => ⟨_, rfl, .inl (OG.of_OL (faP fd.Counts_3 (b := b7) (o := 0) (id := 7) ((pG_old rfl).trans rfl) rfl ⟨β, pG_put (d := 32) (i := 7) rfl (fun t ht => ownE4_inj ht) (lt_size 18 c9.size rfl (by decide)) (mfT_same (lt_size 18 c9.size rfl (by decide)) (by rfl))⟩))⟩
   ·exact fun β L c9 => ⟨_, rfl, .inl (OG.of_OL (ldPC ce.Ratss (pG_new rfl (come_dep (j := 7) c9 (by kernel_rfl))) ((pG_M (mfT_no (by exact come_lateT c9 (by kernel_rfl)) (mfT_skip (show (7:Nat) ≠ 31 by decide) (mfT_skip (show (7:Nat) ≠ 38 by decide) (mfT_skip (show (7:Nat) ≠ 29 by decide) (mfT_skip (show (7:Nat) ≠ 36 by decide) rfl)))))) : _ = some (.box b7 T.Counts [.osl 16 b16 h.st h.st, .osl 31 p1 i c1, .osl 19 b19 h.st h.st, .osl 38 p2 i c2])) (v := .osl 38 p2 i c2) rfl ⟨β, pG_put (d := 33) (i := 8) rfl (fun t ht => ownE4_inj ht) (lt_size 18 c9.size rfl (by decide)) (mfT_same (lt_size 18 c9.size rfl (by decide)) (by rfl))⟩))⟩
   ·exact fun β L c9 => ⟨_, rfl, .inl (OG.of_OL (faP fd.Hidden_0 (b := b2) (o := 0) (id := 2) ((pG_old rfl).trans rfl) rfl ⟨β, pG_put (d := 34) (i := 9) rfl (fun t ht => ownE4_inj ht) (lt_size 18 c9.size rfl (by decide)) (mfT_same (lt_size 18 c9.size rfl (by decide)) (by rfl))⟩))⟩
   ·exact fun β L c9 => ⟨_, rfl, .inl (OG.of_OL (ldPC ce.int (pG_new rfl (come_dep (j := 9) c9 (by kernel_rfl))) ((pG_M (mfT_skip (show (2:Nat) ≠ 7 by decide) (mfT_skip (show (2:Nat) ≠ 31 by decide) (mfT_skip (show (2:Nat) ≠ 38 by decide) (mfT_skip (show (2:Nat) ≠ 29 by decide) (mfT_skip (show (2:Nat) ≠ 36 by decide) rfl)))))) : _ = some (.box b2 T.Hidden (cellsHM h))) (v := .d (dI h.sym)) rfl ⟨β, pG_put (d := 35) (i := 10) rfl (fun t ht => ownE4_inj ht) (lt_size 18 c9.size rfl (by decide)) (mfT_same (lt_size 18 c9.size rfl (by decide)) (by rfl))⟩))⟩
   ·exact fun β L c9 => ⟨_, rfl, .inl (OG.of_OL (mkL dQ 0 sl.Rats z.Rat vcs_q0 (n := h.sym) (cp := h.sym) (k := .i64) (k2 := .i64) (pG_new rfl (come_dep (j := 10) c9 (by kernel_rfl))) (pG_new rfl (come_dep (j := 10) c9 (by kernel_rfl))) (Nat.le_refl _) (by omega) (by omega) (pG_M (mfT_skip (show (36:Nat) ≠ 7 by decide) (mfT_skip (show (36:Nat) ≠ 31 by decide) (mfT_skip (show (36:Nat) ≠ 38 by decide) (mfT_skip (show (36:Nat) ≠ 29 by decide) (mfT_no (by exact c9.no) rfl)))))) fun b8 => ⟨upd β 36 (b8, 0), pG_set (d := 36) (i := 11) (x := (b8, 0)) rfl (fun t ht => ownE4_inj ht) (lt_size 18 c9.size rfl (by decide)) rfl (mfT_pass (lt_size 18 c9.size rfl (by decide)) (show (15:Nat) ≠ 11 by decide) (.inl (show (7:Nat) ≠ 36 by decide)) (by exact fun _ => rfl) (mfT_pass (lt_size 18 c9.size rfl (by decide)) (show (6:Nat) ≠ 11 by decide) (.inl (show (31:Nat) ≠ 36 by decide)) (by exact fun _ => rfl) (mfT_pass (lt_size 18 c9.size rfl (by decide)) (show (13:Nat) ≠ 11 by decide) (.inl (show (38:Nat) ≠ 36 by decide)) (by exact fun e => come_notT c9 (by kernel_rfl) e) (mfT_pass (lt_size 18 c9.size rfl (by decide)) (show (4:Nat) ≠ 11 by decide) (.inl (show (29:Nat) ≠ 36 by decide)) (by exact fun _ => rfl) (mfT_here (lt_size 18 c9.size rfl (by decide)) rfl rfl rfl c9.no (by rfl) (fun y hy => absurd hy List.not_mem_nil)))))) (fun t j ho hl => by unfold ownE4 at ho; split at ho <;> cases ho <;> first | rfl | (rw [c9.no] at hl; cases hl) | exact come_notT c9 (by kernel_rfl) hl)⟩))⟩
   ·exact fun β L c9 => ⟨_, rfl, .inl (OG.of_OL (lt1 (y := hdC (β 36).1 h.sym h.sym) sl.Ratss (vd_to (pG_new rfl (come_dep (j := 11) c9 (by kernel_rfl))) (vd_head (id := 36) (by omega))) rfl (by decide) ⟨β, pG_put (d := 37) (i := 12) rfl (fun t ht => ownE4_inj ht) (lt_size 18 c9.size rfl (by decide)) (mfT_same (lt_size 18 c9.size rfl (by decide)) (by rfl))⟩))⟩
   ·exact fun β L c9 => ⟨_, rfl, .inl (OG.of_OL (apO sl.Ratss rfl (pG_new rfl (come_dep (j := 8) c9 (by kernel_rfl))) ((pG_M (mfT_skip (show (38:Nat) ≠ 7 by decide) (mfT_skip (show (38:Nat) ≠ 31 by decide) (mfT_no (by exact c9.no) (mfT_skip (show (38:Nat) ≠ 29 by decide) (mfT_skip (show (38:Nat) ≠ 36 by decide) rfl)))))) : _ = some (.row p2 c2 T.Rats 1 (rsS.map hdP))) (by rw [List.length_map]; omega) (vc_to (pG_new rfl (come_dep (j := 12) c9 (by kernel_rfl))) (VC.d _)) (fun y hy => by rw [List.mem_singleton.1 hy]; rfl) (by simp only [List.length_singleton]; omega) (by simp only [List.length_singleton]; omega) (.inr rfl) (ys := rsS.map hdP ++ [hdC (β 36).1 h.sym h.sym]) rfl (n2 := i + 1) rfl fun b8 c8 => ⟨upd β 38 (b8, c8), pG_set (d := 38) (i := 13) (x := (b8, c8)) rfl (fun t ht => ownE4_inj ht) (lt_size 18 c9.size rfl (by decide)) rfl (Eq.trans (mfT_pass (lt_size 18 c9.size rfl (by decide)) (show (15:Nat) ≠ 13 by decide) (.inl (show (7:Nat) ≠ 38 by decide)) (by exact fun _ => rfl) (mfT_pass (lt_size 18 c9.size rfl (by decide)) (show (6:Nat) ≠ 13 by decide) (.inl (show (31:Nat) ≠ 38 by decide)) (by exact fun _ => rfl) (mfT_here (lt_size 18 c9.size rfl (by decide)) rfl rfl rfl c9.no (by rfl) (List.forall_mem_cons.2 ⟨(by exact fun _ _ => rfl), (List.forall_mem_cons.2 ⟨(by exact fun _ _ => rfl), (fun y hy => absurd hy List.not_mem_nil)⟩)⟩)))) (upd_upd _ _ _ _).symm) (fun t j ho hl => by unfold ownE4 at ho; split at ho <;> cases ho <;> first | rfl | (rw [c9.no] at hl; cases hl) | exact come_notT c9 (by kernel_rfl) hl)⟩))⟩
   ·exact fun β L c9 => ⟨_, rfl, .inl (OG.of_OL (faP fd.Counts_1 (b := b7) (o := 0) (id := 7) ((pG_old rfl).trans rfl) rfl ⟨β, pG_put (d := 39) (i := 14) rfl (fun t ht => ownE4_inj ht) (lt_size 18 c9.size rfl (by decide)) (mfT_same (lt_size 18 c9.size rfl (by decide)) (by rfl))⟩))⟩
   ·exact fun β L c9 => ⟨_, rfl, .inl (OG.of_OL (sto sz.Ratss (pG_new rfl (come_dep (j := 14) c9 (by kernel_rfl))) (pG_new rfl (come_dep (j := 6) c9 (by kernel_rfl))) rfl ((pG_M (mfT_no (by exact c9.no) (mfT_skip (show (7:Nat) ≠ 31 by decide) (mfT_skip (show (7:Nat) ≠ 38 by decide) (mfT_skip (show (7:Nat) ≠ 29 by decide) (mfT_skip (show (7:Nat) ≠ 36 by decide) rfl)))))) : _ = some (.box b7 T.Counts [.osl 16 b16 h.st h.st, .osl 31 p1 i c1, .osl 19 b19 h.st h.st, .osl 38 p2 i c2])) rfl (nb9 rfl) (cells2 := [_,_,_,_]) rfl ⟨β, pG_mod (fun t ht => by unfold ownE4 at ht; split at ht <;> cases ht) (lt_size 18 c9.size rfl (by decide)) (mfT_here (lt_size 18 c9.size rfl (by decide)) rfl rfl rfl c9.no (by rfl) (List.forall_mem_cons.2 ⟨(by exact fun _ _ => rfl), (List.forall_mem_cons.2 ⟨(by exact fun _ _ => rfl), (List.forall_mem_cons.2 ⟨(by exact fun _ _ => rfl), (List.forall_mem_cons.2 ⟨(by exact fun _ _ => rfl), (fun y hy => absurd hy List.not_mem_nil)⟩)⟩)⟩)⟩))⟩))⟩
   ·exact fun β L c9 => ⟨_, rfl, .inl (OG.of_OL (faP fd.Counts_3 (b := b7) (o := 0) (id := 7) ((pG_old rfl).trans rfl) rfl ⟨β, pG_put (d := 40) (i := 16) rfl (fun t ht => ownE4_inj ht) (lt_size 18 c9.size rfl (by decide)) (mfT_same (lt_size 18 c9.size rfl (by decide)) (by rfl))⟩))⟩
  refine fun β L c9 hA => ⟨_, rfl, .inl (OG.of_OL (sto sz.Ratss (pG_new rfl (hA 16 (by decide))) (pG_new rfl (hA 13 (by decide))) rfl ((pG_M (mfT_yes (hA 15 (by decide)) rfl rfl)) : _ = some (.box b7 T.Counts [.osl 16 b16 h.st h.st, .osl 31 (β 31).1 (i + 1) (β 31).2, .osl 19 b19 h.st h.st, .osl 38 p2 i c2])) rfl (nb9 rfl) (cells2 := [_,_,_,_]) rfl ?_))⟩
  refine OL.nil ?_
  refine AW.to [(1, .d (dIss X)), (2, .ptr 2 b2 0), (4, .ptr 4 b4 0), (5, .d (dI 0)), (6, .d (dI 0)), (7, .ptr 7 b7 0), (22, .d (dI h.st)), (23, .d (dI i))] [(2, .box b2 T.Hidden (cellsHM h)), (4, .box b4 T.Counts [.mt, .mt, .mt, .mt]), (7, .box b7 T.Counts [.osl 16 b16 h.st h.st, .osl 31 (β 31).1 (i + 1) (β 31).2, .osl 19 b19 h.st h.st, .osl 38 (β 38).1 (i + 1) (β 38).2]), (16, .row b16 h.st T.Rat 3 ((List.replicate h.st 0).map dQ)), (19, .row b19 h.st T.Rat 3 ((List.replicate h.st 0).map dQ)), (29, .row (β 29).1 h.st T.Rat 3 ((List.replicate h.st 0).map dQ)), (31, .row (β 31).1 (β 31).2 T.Rats 1 (rsM.map hdP ++ [hdC (β 29).1 h.st h.st])), (36, .row (β 36).1 h.sym T.Rat 3 ((List.replicate h.sym 0).map dQ)), (38, .row (β 38).1 (β 38).2 T.Rats 1 (rsS.map hdP ++ [hdC (β 36).1 h.sym h.sym])), (2031, .pool T.Rat 3 rsM), (2038, .pool T.Rat 3 rsS)] (.cons (vle_of_eq (sto_rho ((pG_old rfl).trans rfl))) (.cons (vle_of_eq (sto_rho ((pG_old rfl).trans rfl))) (.cons (vle_of_eq (sto_rho ((pG_old rfl).trans rfl))) (.cons (vle_of_eq (sto_rho ((pG_old rfl).trans rfl))) (.cons (vle_of_eq (sto_rho ((pG_old rfl).trans rfl))) (.cons (vle_of_eq (sto_rho ((pG_old rfl).trans rfl))) (.cons (vle_of_eq (sto_rho ((pG_old rfl).trans rfl))) (.cons (vle_of_eq (sto_rho ((pG_old rfl).trans rfl))) (.nil))))))))) (.cons (sto_old (show (2:Nat) ≠ 7 by decide) (pG_M (mfT_skip (show (2:Nat) ≠ 7 by decide) (mfT_skip (show (2:Nat) ≠ 31 by decide) (mfT_skip (show (2:Nat) ≠ 38 by decide) (mfT_skip (show (2:Nat) ≠ 29 by decide) (mfT_skip (show (2:Nat) ≠ 36 by decide) rfl))))))) (.cons (sto_old (show (4:Nat) ≠ 7 by decide) (pG_M (mfT_skip (show (4:Nat) ≠ 7 by decide) (mfT_skip (show (4:Nat) ≠ 31 by decide) (mfT_skip (show (4:Nat) ≠ 38 by decide) (mfT_skip (show (4:Nat) ≠ 29 by decide) (mfT_skip (show (4:Nat) ≠ 36 by decide) rfl))))))) (.cons sto_new (.cons (sto_old (show (16:Nat) ≠ 7 by decide) (pG_M (mfT_skip (show (16:Nat) ≠ 7 by decide) (mfT_skip (show (16:Nat) ≠ 31 by decide) (mfT_skip (show (16:Nat) ≠ 38 by decide) (mfT_skip (show (16:Nat) ≠ 29 by decide) (mfT_skip (show (16:Nat) ≠ 36 by decide) rfl))))))) (.cons (sto_old (show (19:Nat) ≠ 7 by decide) (pG_M (mfT_skip (show (19:Nat) ≠ 7 by decide) (mfT_skip (show (19:Nat) ≠ 31 by decide) (mfT_skip (show (19:Nat) ≠ 38 by decide) (mfT_skip (show (19:Nat) ≠ 29 by decide) (mfT_skip (show (19:Nat) ≠ 36 by decide) rfl))))))) (.cons (sto_old (show (29:Nat) ≠ 7 by decide) (pG_M (mfT_skip (show (29:Nat) ≠ 7 by decide) (mfT_skip (show (29:Nat) ≠ 31 by decide) (mfT_skip (show (29:Nat) ≠ 38 by decide) (mfT_yes (hA 4 (by decide)) rfl rfl)))))) (.cons (sto_old (show (31:Nat) ≠ 7 by decide) (pG_M (mfT_skip (show (31:Nat) ≠ 7 by decide) (mfT_yes (hA 6 (by decide)) rfl rfl)))) (.cons (sto_old (show (36:Nat) ≠ 7 by decide) (pG_M (mfT_skip (show (36:Nat) ≠ 7 by decide) (mfT_skip (show (36:Nat) ≠ 31 by decide) (mfT_skip (show (36:Nat) ≠ 38 by decide) (mfT_skip (show (36:Nat) ≠ 29 by decide) (mfT_yes (hA 11 (by decide)) rfl rfl))))))) (.cons (sto_old (show (38:Nat) ≠ 7 by decide) (pG_M (mfT_skip (show (38:Nat) ≠ 7 by decide) (mfT_skip (show (38:Nat) ≠ 31 by decide) (mfT_yes (hA 13 (by decide)) rfl rfl))))) (.cons (sto_old (show (2031:Nat) ≠ 7 by decide) (pG_M (mfT_skip (show (2031:Nat) ≠ 7 by decide) (mfT_skip (show (2031:Nat) ≠ 31 by decide) (mfT_skip (show (2031:Nat) ≠ 38 by decide) (mfT_skip (show (2031:Nat) ≠ 29 by decide) (mfT_skip (show (2031:Nat) ≠ 36 by decide) rfl))))))) (.cons (sto_old (show (2038:Nat) ≠ 7 by decide) (pG_M (mfT_skip (show (2038:Nat) ≠ 7 by decide) (mfT_skip (show (2038:Nat) ≠ 31 by decide) (mfT_skip (show (2038:Nat) ≠ 38 by decide) (mfT_skip (show (2038:Nat) ≠ 29 by decide) (mfT_skip (show (2038:Nat) ≠ 36 by decide) rfl))))))) (.nil)))))))))))) ?_
  generalize (β 29).1 = b29
  generalize (β 36).1 = b36
  generalize (β 31).1 = q1
  generalize (β 31).2 = d1
  generalize (β 38).1 = q2
  generalize (β 38).2 = d2
  refine AW.giveEnd 29 2031 rfl rfl hzs.symm (AW.giveEnd 36 2038 rfl rfl hzo.symm (AW.rg hE rfl (add_i64 rfl rfl (by omega) (mvD rfl (OL.nil ?_)))))
  exact AW.again (x := (i, p1, c1, p2, c2, rsM, rsS)) (i + 1, q1, d1, q2, d2, rsM ++ [(b29, ((List.replicate h.st 0).map dQ))], rsS ++ [(b36, ((List.replicate h.sym 0).map dQ))]) (by (simp only []; omega)) ⟨⟨by omega, by rw [List.map_append, hrM, List.replicate_succ']; rfl, by rw [List.map_append, hrS, List.replicate_succ']; rfl⟩, Knows.app (.cons (VLe.refl _) (.cons (VLe.refl _) (.cons (VLe.refl _) (.cons (VLe.refl _) (.cons (VLe.refl _) (.cons (VLe.refl _) (.cons (VLe.refl _) .nil))))))) (.cons (VLe.refl _) .nil), Owns.app (.cons rfl (.cons rfl .nil)) (.cons rfl (.cons rfl (.cons rfl (.cons (by rw [List.map_append, List.map_singleton, hdP_eq hzs]; rfl) (.cons rfl (.cons (by rw [List.map_append, List.map_singleton, hdP_eq hzo]; rfl) (.cons rfl .nil)))))))⟩
 ·try simp only [dx9] at h24
  refine AW.exit (AW.seq ?_)
  obtain rfl : i = h.st := by omega
  refine AW.rg hE rfl (asD rfl (OL.nil (AW.seq (AW.sg hE rfl (mvD rfl (lnL sl.intss rfl rfl (mvD rfl ?_)))))))
  refine OL.nil (AW.block ?_)
  refine AW.whileK (α := Nat × List (Nat × List D) × List (Nat × List D)) [(2, _), (4, _), (7, _), (42, _), (43, _)] [(2, _), (7, _)] (fun (k, rsM, rsS) => [(44, .d (dI k)), (8, .d (dI (emN (X.take k))))]) (fun (k, rsM, rsS) => [(4, .box b4 T.Counts [.mt, .mt, .mt, .mt]), (16, .row b16 h.st T.Rat 3 ((accL h.st (exS h) (X.take k)).map dQ)), (19, .row b19 h.st T.Rat 3 ((accL h.st (exE h) (X.take k)).map dQ)), (31, .row p1 c1 T.Rats 1 (rsM.map hdP)), (2031, .pool T.Rat 3 rsM), (38, .row p2 c2 T.Rats 1 (rsS.map hdP)), (2038, .pool T.Rat 3 rsS)]) (fun (k, rsM, rsS) => k ≤ X.length ∧ rsM.map Prod.snd = (rowsT h (fun k i => mvA9 h (X.take k) i) k (k + 1) 0) ∧ rsS.map Prod.snd = (rowsT h (fun k i => shA9 h (X.take k) i) k (k + 1) 0) ∧ AllL h (X.take k)) (fun (k, rsM, rsS) => X.length - k) (0, rsM, rsS) (.cons (knP rfl) (.cons (knP rfl) (.cons (knP rfl) (.cons (knD rfl) (.cons (knD rfl) .nil))))) (.cons (owB rfl) (.cons (owB rfl) .nil)) ⟨⟨Nat.zero_le _, by rw [hrM]; exact (rows_zero fun i _ => by rw [List.take_zero]; exact accL_nil ..).symm, by rw [hrS]; exact (rows_zero fun i _ => by rw [List.take_zero]; exact accL_nil ..).symm, fun v hv => by simp at hv⟩, .cons (VLe.refl _) (.cons (VLe.refl _) .nil), .cons rfl (.cons (by rw [List.take_zero, accL_nil]; rfl) (.cons (by rw [List.take_zero, accL_nil]; rfl) (.cons rfl (.cons rfl (.cons rfl (.cons rfl .nil))))))⟩ ?_
  rintro ⟨k, rsM, rsS⟩ ⟨h2, hrM, hrS, hallk⟩
  have h2 : k ≤ X.length := h2
  have hrM : rsM.map Prod.snd = (rowsT h (fun k i => mvA9 h (X.take k) i) k (k + 1) 0) := hrM
  have hrS : rsS.map Prod.snd = (rowsT h (fun k i => shA9 h (X.take k) i) k (k + 1) 0) := hrS
  refine AW.sg hE rfl (c_lss rfl rfl rfl (OL.nil (AW.seq (AW.cond rfl (fun h45 => ?_) (fun h45 => ?_)))))
  ·try simp only [dx9] at h45
   refine AW.skip (AW.seq (AW.block (AW.seq ?_)))
   have hk : k < X.length := by omega
   have kw := k5.get hk
   have htk : (X.take k).length = k := take_len h2
   have hes := emN_step hk
   have hel := emN_le (X.take k)
   refine AW.rg hE rfl (ixLn sl.intss [] rfl rfl (by omega) rfl rfl (ldRC ce.ints rfl (asD rfl (OL.nil (AW.sg hE rfl (ldPA ag.Hidden rfl rfl (vs := [_,_,_,_,_,_,_,_,_,_,_]) rfl (nb9 rfl) (mvD rfl ?_)))))))
   refine clv rfl (.cons (VLe.refl _) (.cons (VLe.refl _) (.nil))) (fwd_Expected g kw.1 kw.2) (mvT rfl (ex rfl rfl (ex rfl rfl (al z.Counts rfl fun b11 => (sto sz.Counts rfl rfl rfl rfl rfl (nb9 rfl) (cells2 := [_,_,_,_]) rfl (asD rfl (OL.nil ?_)))))))
   refine AW.seq (AW.sg hE rfl (mvD rfl (c_neq rfl rfl rfl (OL.nil (AW.cond rfl (fun hpe => ?_) (fun hpe => ?_))))))
   ·have hz0 : likF h (X.getD k []) = 0 := by
     by_cases e : likF h (X.getD k []) = 0
     ·exact e
     ·rw [show postE h (X.getD k []) = 0 from if_neg e] at hpe; simp at hpe
    have hpe : postE h (X.getD k []) = 11 := if_pos hz0
    refine AW.sg hE rfl (ldPA ag.Counts rfl rfl (vs := [_,_,_,_]) rfl (nb9 rfl) (mvD rfl (sto sz.Counts rfl rfl rfl rfl rfl (nb9 rfl) (cells2 := [_,_,_,_]) rfl (asD rfl (asD rfl (OL.nil ?_))))))
    rw [exp9, if_neg fun ha : AllL h X => ha _ (getD_mem hk []) hz0]
    exact AW.ret (RetQ.r ⟨_, .cellA rfl rfl ag.Counts (nb9 rfl) (.tmp rfl (.tmp rfl .nil)), _, .cons (.ag (.cons (.le (VLe.junk _)) (.cons (.le (VLe.junk _)) (.cons (.le (VLe.junk _)) (.cons (.le (VLe.junk _)) .nil))))) (.cons (.le (VLe.refl _)) (.cons (.le (VLe.int hpe)) .nil)), rfl⟩)
   ·have hz : likF h (X.getD k []) ≠ 0 := fun e => by rw [show postE h (X.getD k []) = 11 from if_pos e] at hpe; simp at hpe
    have hallS : AllL h (X.take (k + 1)) := fun v hv => by
     rw [take_succ_getD hk []] at hv
     rcases List.mem_append.1 hv with hv | hv
     ·exact hallk v hv
     ·rw [List.mem_singleton.1 hv]; exact hz
    have hlm := exM_len hz
    have hlo := exO_len hz
    have had16 := ascent_add (b := b16) (n := h.st) (a := accL h.st (exS h) (X.take k)) (l := exS h (X.getD k [])) (C1 := 1 + (X.take k).length * 160000001) (C2 := 160000000) (accL_len ..) (by rw [exS_len hz]; exact Nat.le_refl _) (by omega) (accL_small (fun v hv => exS_small f (k5.word v (List.mem_of_mem_take hv)).2 (hallk v hv)) (by decide)) (exS_small f kw.2 hz) ⟨by omega, by omega⟩ ⟨by decide, by decide⟩
    rw [← accL_step (n := h.st) (f := exS h) hk] at had16
    have had19 := ascent_add (b := b19) (n := h.st) (a := accL h.st (exE h) (X.take k)) (l := exE h (X.getD k [])) (C1 := 1 + (X.take k).length * 160000001) (C2 := 160000000) (accL_len ..) (by rw [exE_len hz]; exact Nat.le_refl _) (by omega) (accL_small (fun v hv => exE_small f (k5.word v (List.mem_of_mem_take hv)).2 (hallk v hv)) (by decide)) (exE_small f kw.2 hz) ⟨by omega, by omega⟩ ⟨by decide, by decide⟩
    rw [← accL_step (n := h.st) (f := exE h) hk] at had19
    refine AW.skip ?_
    refine AW.midK (α := Unit) [(2, _), (4, _), (7, _), (11, _), (42, _), (43, _), (44, _)] [(2, _), (4, _), (7, _), (11, _), (16, _), (19, _), (31, _), (38, _), (2031, _), (2038, _)] (fun _u => [(8, .d (dI (emN (X.take (k + 1)))))]) (fun _u => []) (fun _u => True) (.cons (knP rfl) (.cons (knP rfl) (.cons (knP rfl) (.cons (knP rfl) (.cons (knD rfl) (.cons (knD rfl) (.cons (knD rfl) .nil))))))) (.cons (owB rfl) (.cons (owB rfl) (.cons (owB rfl) (.cons (owB rfl) (.cons (owR rfl) (.cons (owR rfl) (.cons (owR rfl) (.cons (owR rfl) (.cons (owL rfl) (.cons (owL rfl) .nil)))))))))) ?_ ?_
    ·refine AW.sg hE rfl (mvD rfl (lnL sl.ints rfl rfl (c_eql rfl rfl rfl (OL.nil (AW.cond rfl (fun h0 => ?_) (fun h0 => ?_))))))
     ·have h0 : (X.getD k []).length = 0 := by have := of_decide_eq_true h0; omega
      rw [if_pos h0] at hes
      refine AW.rg hE rfl (mvD rfl (add_i64 rfl rfl (by omega) (asD rfl (OL.nil ?_))))
      exact AW.reach () ⟨trivial, Knows.app (.cons (VLe.refl _) (.cons (VLe.refl _) (.cons (VLe.refl _) (.cons (VLe.refl _) (.cons (VLe.refl _) (.cons (VLe.refl _) (.cons (VLe.refl _) .nil))))))) (.cons (VLe.int (by rw [hes]; omega)) .nil), Owns.app (.cons rfl (.cons rfl (.cons rfl (.cons rfl (.cons rfl (.cons rfl (.cons rfl (.cons rfl (.cons rfl (.cons rfl .nil)))))))))) (.nil)⟩
     ·have h0 : (X.getD k []).length ≠ 0 := fun e => of_decide_eq_false h0 (by omega)
      rw [if_neg h0] at hes
      refine AW.skip ?_
      exact AW.reach () ⟨trivial, Knows.app (.cons (VLe.refl _) (.cons (VLe.refl _) (.cons (VLe.refl _) (.cons (VLe.refl _) (.cons (VLe.refl _) (.cons (VLe.refl _) (.cons (VLe.refl _) .nil))))))) (.cons (VLe.int (by rw [hes]; omega)) .nil), Owns.app (.cons rfl (.cons rfl (.cons rfl (.cons rfl (.cons rfl (.cons rfl (.cons rfl (.cons rfl (.cons rfl (.cons rfl .nil)))))))))) (.nil)⟩
    rintro ⟨⟩ hφ
    refine AW.sg hE rfl (faP fd.Counts_0 rfl rfl (ldPC ce.Rats rfl rfl rfl (faP fd.Counts_0 rfl rfl (ldPC ce.Rats rfl rfl rfl ?_))))
    refine OL.callM (v := .tup []) (.mk (args' := [.osl 1000 b16 h.st h.st, .d (dQs (exS h (X.getD k [])))]) rfl (.cons vle_osl (.cons (VLe.refl _) .nil)) (mem1_keep (id := 16) (blk := .row b16 h.st T.Rat 3 ((accL h.st (exS h) (X.take k)).map dQ)) rfl) mem1_sub (FSpecM.ren1 had16 (.cons vle_osl (.cons (VLe.refl _) .nil)))) ?_
    refine OL.nil (AW.sg hE rfl (faP fd.Counts_2 rfl rfl (ldPC ce.Rats rfl rfl rfl (faP fd.Counts_2 rfl rfl (ldPC ce.Rats rfl rfl rfl ?_)))))
    refine OL.callM (v := .tup []) (.mk (args' := [.osl 1000 b19 h.st h.st, .d (dQs (exE h (X.getD k [])))]) rfl (.cons vle_osl (.cons (VLe.refl _) .nil)) (mem1_keep (id := 19) (blk := .row b19 h.st T.Rat 3 ((accL h.st (exE h) (X.take k)).map dQ)) rfl) mem1_sub (FSpecM.ren1 had19 (.cons vle_osl (.cons (VLe.refl _) .nil)))) ?_
    refine OL.nil (AW.sg hE rfl (faP fd.Hidden_1 rfl rfl (ldPC ce.int rfl rfl rfl (mvD rfl (OL.nil (AW.block ?_))))))
    refine AW.whileK (α := Nat × List (Nat × List D) × List (Nat × List D)) [(2, _), (4, _), (7, _), (8, _), (11, _), (42, _), (43, _), (44, _), (74, _)] [(2, _), (4, _), (7, _), (11, _), (16, _), (19, _)] (fun (i, rsM1, rsS1) => [(75, .d (dI i))]) (fun (i, rsM1, rsS1) => [(31, .row p1 c1 T.Rats 1 (rsM1.map hdP)), (2031, .pool T.Rat 3 rsM1), (38, .row p2 c2 T.Rats 1 (rsS1.map hdP)), (2038, .pool T.Rat 3 rsS1)]) (fun (i, rsM1, rsS1) => i ≤ h.st ∧ rsM1.map Prod.snd = (rowsT h (fun k i => mvA9 h (X.take k) i) k (k + 1) i) ∧ rsS1.map Prod.snd = (rowsT h (fun k i => shA9 h (X.take k) i) k (k + 1) i)) (fun (i, rsM1, rsS1) => h.st - i) (0, rsM, rsS) (.cons (knP rfl) (.cons (knP rfl) (.cons (knP rfl) (.cons (knD rfl) (.cons (knP rfl) (.cons (knD rfl) (.cons (knD rfl) (.cons (knD rfl) (.cons (knD rfl) .nil))))))))) (.cons (owB rfl) (.cons (owB rfl) (.cons (owB rfl) (.cons (owB rfl) (.cons (owR rfl) (.cons (owR rfl) .nil)))))) ⟨⟨Nat.zero_le _, hrM, hrS⟩, .cons (VLe.refl _) .nil, .cons rfl (.cons rfl (.cons rfl (.cons rfl .nil)))⟩ ?_
    rintro ⟨i, rsM1, rsS1⟩ ⟨h3, hrM1, hrS1⟩
    have h3 : i ≤ h.st := h3
    have hrM1 : rsM1.map Prod.snd = (rowsT h (fun k i => mvA9 h (X.take k) i) k (k + 1) i) := hrM1
    have hrS1 : rsS1.map Prod.snd = (rowsT h (fun k i => shA9 h (X.take k) i) k (k + 1) i) := hrS1
    have hlM := (snd_len hrM1).trans (rowsT_len ..)
    have hlS := (snd_len hrS1).trans (rowsT_len ..)
    refine AW.sg hE rfl (c_lss rfl rfl rfl (OL.nil (AW.seq (AW.cond rfl (fun h76 => ?_) (fun h76 => ?_)))))
    ·try simp only [dx9] at h76
     refine AW.skip (AW.seq (AW.block (AW.seq ?_)))
     have hi : i < h.st := by omega
     refine AW.rg hE rfl (mvD rfl (asD rfl (OL.nil (AW.seq ?_))))
     obtain ⟨bj, hbj⟩ := snd_get hrM1 (rowsT_get (h := h) (f := (fun k i => mvA9 h (X.take k) i)) hi)
     have hmlE20 : ((mvA9 h (X.take k) i).map dQ).length = h.st := by rw [List.length_map, accL_len]
     have hmlN : ((mvA9 h (X.take (k + 1)) i).map dQ).length = h.st := by rw [List.length_map, accL_len]
     refine AW.takeN 2001 2031 i h.st rfl rfl hbj hmlE20 ?_
     have helE20 : (rsM1.map hdP)[i]? = some (hdP (bj, (mvA9 h (X.take k) i).map dQ)) := by rw [List.getElem?_map, hbj]; rfl
     have hexM := exM_small f kw.2 hz i
     have hadE20 := ascent_add (b := bj) (n := h.st) (a := mvA9 h (X.take k) i) (l := (exM h (X.getD k [])).getD i []) (C1 := 1 + (X.take k).length * 160000001) (C2 := 160000000) (accL_len ..) (by rw [exM_row hz hi, moveRow_len]; exact Nat.le_refl _) (by omega) (accL_small (fun v hv => exM_small f (k5.word v (List.mem_of_mem_take hv)).2 (hallk v hv) i) (by decide)) hexM ⟨by omega, by omega⟩ ⟨by decide, by decide⟩
     rw [← accL_step (n := h.st) (f := fun w => (exM h w).getD i []) hk] at hadE20
     refine AW.region_planT (valE20 h (X.getD k []) i b7 b11 p1 c1 bj) ownE20 (telE20 h (X.getD k []) i b7 b11 p1 c1 bj) 10 order_free (by rw [hE]; rfl) (by rfl) (by kernel_rfl) (by kernel_rfl) ?_ ?_
     ·refine casE20 ?_ ?_ ?_ ?_ ?_ ?_ ?_ ?_ ?_ ?_
      ·exact fun β L c9 => ⟨_, rfl, .inl (OG.of_OL (faP fd.Counts_1 (b := b7) (o := 0) (id := 7) ((pG_old rfl).trans rfl) rfl ⟨β, pG_put (d := 78) (i := 0) rfl (fun t ht => ownE20_inj ht) (lt_size 11 c9.size rfl (by decide)) (mfT_same (lt_size 11 c9.size rfl (by decide)) (by rfl))⟩))⟩
      ·exact fun β L c9 => ⟨_, rfl, .inl (OG.of_OL (ldPC ce.Ratss (pG_new rfl (come_dep (j := 0) c9 (by kernel_rfl))) ((pG_M rfl) : _ = some (.box b7 T.Counts [.osl 16 b16 h.st h.st, .osl 31 p1 h.st c1, .osl 19 b19 h.st h.st, .osl 38 p2 h.st c2])) (v := .osl 31 p1 h.st c1) rfl ⟨β, pG_put (d := 79) (i := 1) rfl (fun t ht => ownE20_inj ht) (lt_size 11 c9.size rfl (by decide)) (mfT_same (lt_size 11 c9.size rfl (by decide)) (by rfl))⟩))⟩
      ·exact fun β L c9 => ⟨_, rfl, .inl (OG.of_OL (mvD (y := dI i) ((pG_old rfl).trans rfl) ⟨β, pG_put (d := 80) (i := 2) rfl (fun t ht => ownE20_inj ht) (lt_size 11 c9.size rfl (by decide)) (mfT_same (lt_size 11 c9.size rfl (by decide)) (by rfl))⟩))⟩
      ·exact fun β L c9 => ⟨_, rfl, .inl (OG.of_OL (ixOn sl.Ratss (id := 31) (b := p1) (l := h.st) (c := c1) (i := i) (pG_new rfl (come_dep (j := 1) c9 (by kernel_rfl))) (pG_new rfl (come_dep (j := 2) c9 (by kernel_rfl))) hi ⟨β, pG_put (d := 81) (i := 3) rfl (fun t ht => ownE20_inj ht) (lt_size 11 c9.size rfl (by decide)) (mfT_same (lt_size 11 c9.size rfl (by decide)) (by rfl))⟩))⟩
      ·exact fun β L c9 => ⟨_, rfl, .inl (OG.of_OL (ldLe (.rowC (by decide) (pG_new rfl (come_dep (j := 3) c9 (by kernel_rfl))) ((pG_M rfl) : _ = some (.row p1 c1 T.Rats 1 (rsM1.map hdP))) helE20 ce.Rats rfl) (vle_hdP 2001 hmlE20) ⟨β, pG_put (d := 82) (i := 4) rfl (fun t ht => ownE20_inj ht) (lt_size 11 c9.size rfl (by decide)) (mfT_same (lt_size 11 c9.size rfl (by decide)) (by rfl))⟩))⟩
      ·exact fun β L c9 => ⟨_, rfl, .inl (OG.of_OL (faP fd.Counts_1 (b := b11) (o := 0) (id := 11) ((pG_old rfl).trans rfl) rfl ⟨β, pG_put (d := 83) (i := 5) rfl (fun t ht => ownE20_inj ht) (lt_size 11 c9.size rfl (by decide)) (mfT_same (lt_size 11 c9.size rfl (by decide)) (by rfl))⟩))⟩
      ·exact fun β L c9 => ⟨_, rfl, .inl (OG.of_OL (ldPC ce.Ratss (pG_new rfl (come_dep (j := 5) c9 (by kernel_rfl))) ((pG_M rfl) : _ = some (.box b11 T.Counts [.d (dQs (exS h (X.getD k []))), .d (dQss (exM h (X.getD k []))), .d (dQs (exE h (X.getD k []))), .d (dQss (exO h (X.getD k [])))])) (v := .d (dQss (exM h (X.getD k [])))) rfl ⟨β, pG_put (d := 84) (i := 6) rfl (fun t ht => ownE20_inj ht) (lt_size 11 c9.size rfl (by decide)) (mfT_same (lt_size 11 c9.size rfl (by decide)) (by rfl))⟩))⟩
      ·exact fun β L c9 => ⟨_, rfl, .inl (OG.of_OL (mvD (y := dI i) ((pG_old rfl).trans rfl) ⟨β, pG_put (d := 85) (i := 7) rfl (fun t ht => ownE20_inj ht) (lt_size 11 c9.size rfl (by decide)) (mfT_same (lt_size 11 c9.size rfl (by decide)) (by rfl))⟩))⟩
      ·exact fun β L c9 => ⟨_, rfl, .inl (OG.of_OL (ixLn (l := exM h (X.getD k [])) (f := dQs) (i := i) sl.Ratss [] (pG_new rfl (come_dep (j := 6) c9 (by kernel_rfl))) (pG_new rfl (come_dep (j := 7) c9 (by kernel_rfl))) (by omega) (cs := [dQs ((exM h (X.getD k [])).getD i [])]) rfl rfl ⟨β, pG_put (d := 86) (i := 8) rfl (fun t ht => ownE20_inj ht) (lt_size 11 c9.size rfl (by decide)) (mfT_same (lt_size 11 c9.size rfl (by decide)) (by rfl))⟩))⟩
      ·exact fun β L c9 => ⟨_, rfl, .inl (OG.of_OL (ldRC ce.Rats (pG_new rfl (come_dep (j := 8) c9 (by kernel_rfl))) ⟨β, pG_put (d := 87) (i := 9) rfl (fun t ht => ownE20_inj ht) (lt_size 11 c9.size rfl (by decide)) (mfT_same (lt_size 11 c9.size rfl (by decide)) (by rfl))⟩))⟩
     refine fun β L c9 hA => ⟨_, rfl, .inl (OG.of_OL (OL.callM (v := .tup []) (.mk (args' := [.osl 1000 bj h.st h.st, .d (dQs ((exM h (X.getD k [])).getD i []))]) rfl (.cons (VLe.trans (vle_of_eq (pG_new rfl (hA 4 (by decide)))) vle_osl) (.cons (vle_of_eq (pG_new rfl (hA 9 (by decide)))) .nil)) (mem1_keep (id := 2001) (blk := .row bj h.st T.Rat 3 ((mvA9 h (X.take k) i).map dQ)) (pG_M rfl)) mem1_sub (FSpecM.ren1 hadE20 (.cons vle_osl (.cons (VLe.refl _) .nil)))) ?_))⟩
     refine OL.nil ?_
     refine AW.to [(2, .ptr 2 b2 0), (4, .ptr 4 b4 0), (7, .ptr 7 b7 0), (8, .d (dI (emN (X.take (k + 1))))), (11, .ptr 11 b11 0), (13, .d (dI i)), (42, .d (dIss X)), (43, .d (dI X.length)), (44, .d (dI k)), (74, .d (dI h.st)), (75, .d (dI i))] [(2, .box b2 T.Hidden (cellsHM h)), (4, .box b4 T.Counts [.mt, .mt, .mt, .mt]), (7, .box b7 T.Counts [.osl 16 b16 h.st h.st, .osl 31 p1 h.st c1, .osl 19 b19 h.st h.st, .osl 38 p2 h.st c2]), (11, .box b11 T.Counts [.d (dQs (exS h (X.getD k []))), .d (dQss (exM h (X.getD k []))), .d (dQs (exE h (X.getD k []))), .d (dQss (exO h (X.getD k [])))]), (16, .row b16 h.st T.Rat 3 ((accL h.st (exS h) (X.take (k + 1))).map dQ)), (19, .row b19 h.st T.Rat 3 ((accL h.st (exE h) (X.take (k + 1))).map dQ)), (31, .row p1 c1 T.Rats 1 (rsM1.map hdP)), (38, .row p2 c2 T.Rats 1 (rsS1.map hdP)), (2001, .row bj h.st T.Rat 3 ((mvA9 h (X.take (k + 1)) i).map dQ)), (2031, .pool T.Rat 3 (rsM1.set i (bj, []))), (2038, .pool T.Rat 3 rsS1)] (.cons (vle_of_eq (put_old (by decide) (sto_rho ((pG_old rfl).trans rfl)))) (.cons (vle_of_eq (put_old (by decide) (sto_rho ((pG_old rfl).trans rfl)))) (.cons (vle_of_eq (put_old (by decide) (sto_rho ((pG_old rfl).trans rfl)))) (.cons (vle_of_eq (put_old (by decide) (sto_rho ((pG_old rfl).trans rfl)))) (.cons (vle_of_eq (put_old (by decide) (sto_rho ((pG_old rfl).trans rfl)))) (.cons (vle_of_eq (put_old (by decide) (sto_rho ((pG_old rfl).trans rfl)))) (.cons (vle_of_eq (put_old (by decide) (sto_rho ((pG_old rfl).trans rfl)))) (.cons (vle_of_eq (put_old (by decide) (sto_rho ((pG_old rfl).trans rfl)))) (.cons (vle_of_eq (put_old (by decide) (sto_rho ((pG_old rfl).trans rfl)))) (.cons (vle_of_eq (put_old (by decide) (sto_rho ((pG_old rfl).trans rfl)))) (.cons (vle_of_eq (put_old (by decide) (sto_rho ((pG_old rfl).trans rfl)))) (.nil)))))))))))) (.cons rfl (.cons rfl (.cons rfl (.cons rfl (.cons rfl (.cons rfl (.cons rfl (.cons rfl (.cons rfl (.cons rfl (.cons rfl (.nil)))))))))))) ?_
     refine AW.back 2001 2031 i rsM1 rfl rfl rfl (by omega) hmlN.symm rfl ?_
     obtain ⟨bs, hbs⟩ := snd_get hrS1 (rowsT_get (h := h) (f := (fun k i => shA9 h (X.take k) i)) hi)
     have hmlE21 : ((shA9 h (X.take k) i).map dQ).length = h.sym := by rw [List.length_map, accL_len]
     have hslN : ((shA9 h (X.take (k + 1)) i).map dQ).length = h.sym := by rw [List.length_map, accL_len]
     refine AW.takeN 2002 2038 i h.sym rfl rfl hbs hmlE21 ?_
     have helE21 : (rsS1.map hdP)[i]? = some (hdP (bs, (shA9 h (X.take k) i).map dQ)) := by rw [List.getElem?_map, hbs]; rfl
     have hexO := exO_small f kw.2 hz i
     have hadE21 := ascent_add (b := bs) (n := h.sym) (a := shA9 h (X.take k) i) (l := (exO h (X.getD k [])).getD i []) (C1 := 1 + (X.take k).length * 160000001) (C2 := 160000000) (accL_len ..) (by rw [exO_row hz hi, showRow_len]; exact Nat.le_refl _) (by omega) (accL_small (fun v hv => exO_small f (k5.word v (List.mem_of_mem_take hv)).2 (hallk v hv) i) (by decide)) hexO ⟨by omega, by omega⟩ ⟨by decide, by decide⟩
     rw [← accL_step (n := h.sym) (f := fun w => (exO h w).getD i []) hk] at hadE21
     refine AW.region_planT (valE21 h (X.getD k []) i b7 b11 p2 c2 bs) ownE21 (telE21 h (X.getD k []) i b7 b11 p2 c2 bs) 10 order_free (by rw [hE]; rfl) (by rfl) (by kernel_rfl) (by kernel_rfl) ?_ ?_
     ·refine casE21 ?_ ?_ ?_ ?_ ?_ ?_ ?_ ?_ ?_ ?_
      ·exact fun β L c9 => ⟨_, rfl, .inl (OG.of_OL (faP fd.Counts_3 (b := b7) (o := 0) (id := 7) ((pG_old rfl).trans rfl) rfl ⟨β, pG_put (d := 89) (i := 0) rfl (fun t ht => ownE21_inj ht) (lt_size 11 c9.size rfl (by decide)) (mfT_same (lt_size 11 c9.size rfl (by decide)) (by rfl))⟩))⟩
      ·exact fun β L c9 => ⟨_, rfl, .inl (OG.of_OL (ldPC ce.Ratss (pG_new rfl (come_dep (j := 0) c9 (by kernel_rfl))) ((pG_M rfl) : _ = some (.box b7 T.Counts [.osl 16 b16 h.st h.st, .osl 31 p1 h.st c1, .osl 19 b19 h.st h.st, .osl 38 p2 h.st c2])) (v := .osl 38 p2 h.st c2) rfl ⟨β, pG_put (d := 90) (i := 1) rfl (fun t ht => ownE21_inj ht) (lt_size 11 c9.size rfl (by decide)) (mfT_same (lt_size 11 c9.size rfl (by decide)) (by rfl))⟩))⟩
      ·exact fun β L c9 => ⟨_, rfl, .inl (OG.of_OL (mvD (y := dI i) ((pG_old rfl).trans rfl) ⟨β, pG_put (d := 91) (i := 2) rfl (fun t ht => ownE21_inj ht) (lt_size 11 c9.size rfl (by decide)) (mfT_same (lt_size 11 c9.size rfl (by decide)) (by rfl))⟩))⟩
      ·exact fun β L c9 => ⟨_, rfl, .inl (OG.of_OL (ixOn sl.Ratss (id := 38) (b := p2) (l := h.st) (c := c2) (i := i) (pG_new rfl (come_dep (j := 1) c9 (by kernel_rfl))) (pG_new rfl (come_dep (j := 2) c9 (by kernel_rfl))) hi ⟨β, pG_put (d := 92) (i := 3) rfl (fun t ht => ownE21_inj ht) (lt_size 11 c9.size rfl (by decide)) (mfT_same (lt_size 11 c9.size rfl (by decide)) (by rfl))⟩))⟩
      ·exact fun β L c9 => ⟨_, rfl, .inl (OG.of_OL (ldLe (.rowC (by decide) (pG_new rfl (come_dep (j := 3) c9 (by kernel_rfl))) ((pG_M rfl) : _ = some (.row p2 c2 T.Rats 1 (rsS1.map hdP))) helE21 ce.Rats rfl) (vle_hdP 2002 hmlE21) ⟨β, pG_put (d := 93) (i := 4) rfl (fun t ht => ownE21_inj ht) (lt_size 11 c9.size rfl (by decide)) (mfT_same (lt_size 11 c9.size rfl (by decide)) (by rfl))⟩))⟩
      ·exact fun β L c9 => ⟨_, rfl, .inl (OG.of_OL (faP fd.Counts_3 (b := b11) (o := 0) (id := 11) ((pG_old rfl).trans rfl) rfl ⟨β, pG_put (d := 94) (i := 5) rfl (fun t ht => ownE21_inj ht) (lt_size 11 c9.size rfl (by decide)) (mfT_same (lt_size 11 c9.size rfl (by decide)) (by rfl))⟩))⟩
      ·exact fun β L c9 => ⟨_, rfl, .inl (OG.of_OL (ldPC ce.Ratss (pG_new rfl (come_dep (j := 5) c9 (by kernel_rfl))) ((pG_M rfl) : _ = some (.box b11 T.Counts [.d (dQs (exS h (X.getD k []))), .d (dQss (exM h (X.getD k []))), .d (dQs (exE h (X.getD k []))), .d (dQss (exO h (X.getD k [])))])) (v := .d (dQss (exO h (X.getD k [])))) rfl ⟨β, pG_put (d := 95) (i := 6) rfl (fun t ht => ownE21_inj ht) (lt_size 11 c9.size rfl (by decide)) (mfT_same (lt_size 11 c9.size rfl (by decide)) (by rfl))⟩))⟩
      ·exact fun β L c9 => ⟨_, rfl, .inl (OG.of_OL (mvD (y := dI i) ((pG_old rfl).trans rfl) ⟨β, pG_put (d := 96) (i := 7) rfl (fun t ht => ownE21_inj ht) (lt_size 11 c9.size rfl (by decide)) (mfT_same (lt_size 11 c9.size rfl (by decide)) (by rfl))⟩))⟩
      ·exact fun β L c9 => ⟨_, rfl, .inl (OG.of_OL (ixLn (l := exO h (X.getD k [])) (f := dQs) (i := i) sl.Ratss [] (pG_new rfl (come_dep (j := 6) c9 (by kernel_rfl))) (pG_new rfl (come_dep (j := 7) c9 (by kernel_rfl))) (by omega) (cs := [dQs ((exO h (X.getD k [])).getD i [])]) rfl rfl ⟨β, pG_put (d := 97) (i := 8) rfl (fun t ht => ownE21_inj ht) (lt_size 11 c9.size rfl (by decide)) (mfT_same (lt_size 11 c9.size rfl (by decide)) (by rfl))⟩))⟩
      ·exact fun β L c9 => ⟨_, rfl, .inl (OG.of_OL (ldRC ce.Rats (pG_new rfl (come_dep (j := 8) c9 (by kernel_rfl))) ⟨β, pG_put (d := 98) (i := 9) rfl (fun t ht => ownE21_inj ht) (lt_size 11 c9.size rfl (by decide)) (mfT_same (lt_size 11 c9.size rfl (by decide)) (by rfl))⟩))⟩
     refine fun β L c9 hA => ⟨_, rfl, .inl (OG.of_OL (OL.callM (v := .tup []) (.mk (args' := [.osl 1000 bs h.sym h.sym, .d (dQs ((exO h (X.getD k [])).getD i []))]) rfl (.cons (VLe.trans (vle_of_eq (pG_new rfl (hA 4 (by decide)))) vle_osl) (.cons (vle_of_eq (pG_new rfl (hA 9 (by decide)))) .nil)) (mem1_keep (id := 2002) (blk := .row bs h.sym T.Rat 3 ((shA9 h (X.take k) i).map dQ)) (pG_M rfl)) mem1_sub (FSpecM.ren1 hadE21 (.cons vle_osl (.cons (VLe.refl _) .nil)))) ?_))⟩
     refine OL.nil ?_
     refine AW.to [(2, .ptr 2 b2 0), (4, .ptr 4 b4 0), (7, .ptr 7 b7 0), (8, .d (dI (emN (X.take (k + 1))))), (11, .ptr 11 b11 0), (13, .d (dI i)), (42, .d (dIss X)), (43, .d (dI X.length)), (44, .d (dI k)), (74, .d (dI h.st)), (75, .d (dI i))] [(2, .box b2 T.Hidden (cellsHM h)), (4, .box b4 T.Counts [.mt, .mt, .mt, .mt]), (7, .box b7 T.Counts [.osl 16 b16 h.st h.st, .osl 31 p1 h.st c1, .osl 19 b19 h.st h.st, .osl 38 p2 h.st c2]), (11, .box b11 T.Counts [.d (dQs (exS h (X.getD k []))), .d (dQss (exM h (X.getD k []))), .d (dQs (exE h (X.getD k []))), .d (dQss (exO h (X.getD k [])))]), (16, .row b16 h.st T.Rat 3 ((accL h.st (exS h) (X.take (k + 1))).map dQ)), (19, .row b19 h.st T.Rat 3 ((accL h.st (exE h) (X.take (k + 1))).map dQ)), (31, .row p1 c1 T.Rats 1 (rsM1.map hdP)), (38, .row p2 c2 T.Rats 1 (rsS1.map hdP)), (2031, .pool T.Rat 3 (rsM1.set i (bj, (mvA9 h (X.take (k + 1)) i).map dQ))), (2002, .row bs h.sym T.Rat 3 ((shA9 h (X.take (k + 1)) i).map dQ)), (2038, .pool T.Rat 3 (rsS1.set i (bs, [])))] (.cons (vle_of_eq (put_old (by decide) (sto_rho ((pG_old rfl).trans rfl)))) (.cons (vle_of_eq (put_old (by decide) (sto_rho ((pG_old rfl).trans rfl)))) (.cons (vle_of_eq (put_old (by decide) (sto_rho ((pG_old rfl).trans rfl)))) (.cons (vle_of_eq (put_old (by decide) (sto_rho ((pG_old rfl).trans rfl)))) (.cons (vle_of_eq (put_old (by decide) (sto_rho ((pG_old rfl).trans rfl)))) (.cons (vle_of_eq (put_old (by decide) (sto_rho ((pG_old rfl).trans rfl)))) (.cons (vle_of_eq (put_old (by decide) (sto_rho ((pG_old rfl).trans rfl)))) (.cons (vle_of_eq (put_old (by decide) (sto_rho ((pG_old rfl).trans rfl)))) (.cons (vle_of_eq (put_old (by decide) (sto_rho ((pG_old rfl).trans rfl)))) (.cons (vle_of_eq (put_old (by decide) (sto_rho ((pG_old rfl).trans rfl)))) (.cons (vle_of_eq (put_old (by decide) (sto_rho ((pG_old rfl).trans rfl)))) (.nil)))))))))))) (.cons rfl (.cons rfl (.cons rfl (.cons rfl (.cons rfl (.cons rfl (.cons rfl (.cons rfl (.cons rfl (.cons rfl (.cons rfl (.nil)))))))))))) ?_
     refine AW.back 2002 2038 i rsS1 rfl rfl rfl (by omega) hslN.symm rfl (AW.rg hE rfl (add_i64 rfl rfl (by omega) (mvD rfl (OL.nil ?_))))
     exact AW.again (x := (i, rsM1, rsS1)) (i + 1, (rsM1.set i (bj, (mvA9 h (X.take (k + 1)) i).map dQ)), (rsS1.set i (bs, (shA9 h (X.take (k + 1)) i).map dQ))) (by (simp only []; omega)) ⟨⟨by omega, by rw [List.map_set, hrM1]; exact rowsT_set hi, by rw [List.map_set, hrS1]; exact rowsT_set hi⟩, Knows.app (.cons (VLe.refl _) (.cons (VLe.refl _) (.cons (VLe.refl _) (.cons (VLe.refl _) (.cons (VLe.refl _) (.cons (VLe.refl _) (.cons (VLe.refl _) (.cons (VLe.refl _) (.cons (VLe.refl _) .nil))))))))) (.cons (VLe.refl _) .nil), Owns.app (.cons rfl (.cons rfl (.cons rfl (.cons rfl (.cons rfl (.cons rfl .nil)))))) (.cons (congrArg (fun z => some (Blk.row p1 c1 T.Rats 1 z)) (heads_set hbj hmlE20 hmlN).symm) (.cons rfl (.cons (congrArg (fun z => some (Blk.row p2 c2 T.Rats 1 z)) (heads_set hbs hmlE21 hslN).symm) (.cons rfl .nil))))⟩
    ·try simp only [dx9] at h76
     refine AW.exit (AW.rg hE rfl (add_i64 rfl rfl (by omega) (mvD rfl (OL.nil ?_))))
     exact AW.again (x := (k, rsM, rsS)) (k + 1, rsM1, rsS1) (by (simp only []; omega)) ⟨⟨by omega, by rw [hrM1, show i = h.st by omega]; exact rowsT_all, by rw [hrS1, show i = h.st by omega]; exact rowsT_all, hallS⟩, Knows.app (.cons (VLe.refl _) (.cons (VLe.refl _) (.cons (VLe.refl _) (.cons (VLe.refl _) (.cons (VLe.refl _) .nil))))) (.cons (VLe.refl _) (.cons (VLe.refl _) .nil)), Owns.app (.cons rfl (.cons rfl .nil)) (.cons rfl (.cons rfl (.cons rfl (.cons rfl (.cons rfl (.cons rfl (.cons rfl .nil)))))))⟩
  ·try simp only [dx9] at h45
   refine AW.exit (AW.seq ?_)
   obtain rfl : k = X.length := by omega
   have hDt : X.take X.length = X := List.take_length
   refine AW.freezePool 31 2031 rfl rfl (by decide) (AW.freezePool 38 2038 rfl rfl (by decide) ?_)
   refine AW.rg hE rfl (ldPA ag.Counts rfl rfl (vs := [_,_,_,_]) rfl (nb9 rfl) (mvD rfl (sto sz.Counts rfl rfl rfl rfl rfl (nb9 rfl) (cells2 := [_,_,_,_]) rfl (asD rfl (asD rfl (OL.nil ?_))))))
   rw [exp9, if_pos (show AllL h X from fun w hw => hallk w (by rw [List.take_length]; exact hw))]
   exact AW.ret (RetQ.r ⟨_, .cellA rfl rfl ag.Counts (nb9 rfl) (.tmp rfl (.tmp rfl .nil)), _, .cons (.ag (.cons (RO.row rfl (by rw [List.length_map, accL_len]) (by rw [hDt])) (.cons (RO.row rfl (by rw [List.length_map, snd_len hrM, rowsT_len]) (by rw [show (fun q : Nat × List D => D.sl q.2) = D.sl ∘ Prod.snd from rfl, ← List.map_map, hrM, rowsT_sl, hDt])) (.cons (RO.row rfl (by rw [List.length_map, accL_len]) (by rw [hDt])) (.cons (RO.row rfl (by rw [List.length_map, snd_len hrS, rowsT_len]) (by rw [show (fun q : Nat × List D => D.sl q.2) = D.sl ∘ Prod.snd from rfl, ← List.map_map, hrS, rowsT_sl, hDt])) .nil))))) (.cons (.le (VLe.int (by rw [hDt]))) (.cons (.le (VLe.refl _)) .nil)), rfl⟩)
end Go.Proofs.YtoohdcpikkkanaaGreat

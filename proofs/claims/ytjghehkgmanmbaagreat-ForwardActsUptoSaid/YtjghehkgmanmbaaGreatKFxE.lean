/-
  Walks of the specification of chapter 34, for great numbers: expected numbers (printed by mk2.py).
-/
import Derived.Test.YtjghehkgmanmbaaGreatKFxD
import Derived.Test.YtjghehkgmanmbaaGreatKMod52
set_option linter.unusedVariables false
set_option linter.unusedSimpArgs false
namespace Go.Proofs.YtjghehkgmanmbaaGreat
open Go Go.AL
def ownX1 : Nat → Option Nat
 | 48 => some 0
 | 49 => some 1
 | 50 => some 2
 | 51 => some 3
 | 52 => some 4
 | 53 => some 5
 | 54 => some 6
 | 14 => some 7
 | _ => none
theorem ownX1_inj {t i : Nat} (h : ownX1 t = some i) : t = [48, 49, 50, 51, 52, 53, 54, 14].getD i 0 := by
 unfold ownX1 at h
 split at h <;> first | (cases h; rfl) | cases h
noncomputable def valX1 (h : HM) (b2 : Nat) (t : Nat) (β : Nat → Nat × Nat) : V :=
 match t with
 | 48 | 51 => .ptr 2 b2 1
 | 49 | 52 => .d (dI h.st)
 | 50 => .osl 50 (β 50).1 h.st h.st
 | 53 => .osl 53 (β 53).1 h.st h.st
 | 54 => .ag [.osl 50 (β 50).1 h.st h.st, .mt, .osl 53 (β 53).1 h.st h.st, .mt]
 | 14 => .ptr 14 (β 14).1 0
 | _ => .junk
noncomputable abbrev telX1 (h : HM) (b2 : Nat) : List Tell := [⟨50, 2, fun β => .row (β 50).1 h.st T.Rat 3 ((List.replicate h.st 0).map dQ)⟩, ⟨53, 5, fun β => .row (β 53).1 h.st T.Rat 3 ((List.replicate h.st 0).map dQ)⟩, ⟨14, 7, fun β => .box (β 14).1 T.Counts [.mt, .mt, .mt, .mt]⟩]
theorem casX1 {p : Nat → Prop} (h0 : p 0) (h1 : p 1) (h2 : p 2) (h3 : p 3) (h4 : p 4) (h5 : p 5) (h6 : p 6) (h7 : p 7) : ∀ i, i < 8 → p i := fun i hi => by
 have : i = 0 ∨ i = 1 ∨ i = 2 ∨ i = 3 ∨ i = 4 ∨ i = 5 ∨ i = 6 ∨ i = 7 := by omega
 rcases this with rfl | rfl | rfl | rfl | rfl | rfl | rfl | rfl <;> assumption
def ownX4 : Nat → Option Nat
 | 61 => some 0
 | 62 => some 1
 | 63 => some 2
 | 64 => some 3
 | 65 => some 4
 | 66 => some 5
 | 67 => some 6
 | 68 => some 7
 | 69 => some 8
 | 70 => some 9
 | 71 => some 10
 | 72 => some 11
 | 73 => some 12
 | 74 => some 13
 | 75 => some 14
 | 76 => some 16
 | _ => none
theorem ownX4_inj {t i : Nat} (h : ownX4 t = some i) : t = [61, 62, 63, 64, 65, 66, 67, 68, 69, 70, 71, 72, 73, 74, 75, 0, 76].getD i 0 := by
 unfold ownX4 at h
 split at h <;> first | (cases h; rfl) | cases h
noncomputable def valX4 (h : HM) (b2 b14 b50 b53 i p1 c1 p2 c2 : Nat) (rsM rsS : List (Nat × List D)) (t : Nat) (β : Nat → Nat × Nat) : V :=
 match t with
 | 61 | 75 => .ptr 14 b14 1
 | 62 => .osl 67 p1 i c1
 | 63 => .ptr 2 b2 1
 | 64 => .d (dI h.st)
 | 65 => .osl 65 (β 65).1 h.st h.st
 | 66 => .d (.sl [hdC (β 65).1 h.st h.st])
 | 67 => .osl 67 (β 67).1 (i + 1) (β 67).2
 | 68 | 76 => .ptr 14 b14 3
 | 69 => .osl 74 p2 i c2
 | 70 => .ptr 2 b2 0
 | 71 => .d (dI h.sym)
 | 72 => .osl 72 (β 72).1 h.sym h.sym
 | 73 => .d (.sl [hdC (β 72).1 h.sym h.sym])
 | 74 => .osl 74 (β 74).1 (i + 1) (β 74).2
 | _ => .junk
noncomputable abbrev telX4 (h : HM) (b2 b14 b50 b53 i p1 c1 p2 c2 : Nat) (rsM rsS : List (Nat × List D)) : List Tell := [⟨14, 15, fun β => .box b14 T.Counts [.osl 50 b50 h.st h.st, .osl 67 (β 67).1 (i + 1) (β 67).2, .osl 53 b53 h.st h.st, .osl 74 p2 i c2]⟩, ⟨67, 6, fun β => .row (β 67).1 (β 67).2 T.Rats 1 (rsM.map hdP ++ [hdC (β 65).1 h.st h.st])⟩, ⟨74, 13, fun β => .row (β 74).1 (β 74).2 T.Rats 1 (rsS.map hdP ++ [hdC (β 72).1 h.sym h.sym])⟩, ⟨65, 4, fun β => .row (β 65).1 h.st T.Rat 3 ((List.replicate h.st 0).map dQ)⟩, ⟨72, 11, fun β => .row (β 72).1 h.sym T.Rat 3 ((List.replicate h.sym 0).map dQ)⟩]
theorem casX4 {p : Nat → Prop} (h0 : p 0) (h1 : p 1) (h2 : p 2) (h3 : p 3) (h4 : p 4) (h5 : p 5) (h6 : p 6) (h7 : p 7) (h8 : p 8) (h9 : p 9) (h10 : p 10) (h11 : p 11) (h12 : p 12) (h13 : p 13) (h14 : p 14) (h15 : p 15) (h16 : p 16) : ∀ i, i < 17 → p i := fun i hi => by
 have : i = 0 ∨ i = 1 ∨ i = 2 ∨ i = 3 ∨ i = 4 ∨ i = 5 ∨ i = 6 ∨ i = 7 ∨ i = 8 ∨ i = 9 ∨ i = 10 ∨ i = 11 ∨ i = 12 ∨ i = 13 ∨ i = 14 ∨ i = 15 ∨ i = 16 := by omega
 rcases this with rfl | rfl | rfl | rfl | rfl | rfl | rfl | rfl | rfl | rfl | rfl | rfl | rfl | rfl | rfl | rfl | rfl <;> assumption
set_option maxRecDepth 8000 in
set_option maxHeartbeats 6400000 in
theorem ref34_ExpectedX {h : HM} {w : List Int} (g : h.GoodW 1048576) (k : WordOK h w) (xz : ExSz h w) : FSpec P F.ref34_Expected [vHM h, .d (ints w)] (.tup [.ag [.d (dQs (exS h w)), .d (dQss (exM h w)), .d (dQs (exE h w)), .d (dQss (exO h w))], .d (dI (postE h w))]) := by
 have f := g.form
 have n0 := f.st0
 have n1 := f.st1
 have s0 := f.sym0
 have s1 := f.sym1
 have k1 := k.1
 have zl := xz.lk
 have hzs : Unit → ((List.replicate h.st 0).map dQ).length = h.st := fun _ => by simp
 have hzo : Unit → ((List.replicate h.sym 0).map dQ).length = h.sym := fun _ => by simp
 refine FSpec.intro fn.ref34_Expected (by rfl) (by rfl) (nb9 (by rfl)) fun E hE => (AW.sg hE rfl (bxA rfl rfl fun b2 => (al z.Counts rfl fun b4 => (asD rfl (OL.nil (AW.sg hE rfl (ldPA ag.Hidden rfl rfl (vs := [_,_,_,_,_,_,_,_,_,_,_]) rfl (nb9 rfl) ?_)))))))
 refine mvD rfl (clv rfl (.cons (VLe.refl _) (.cons (VLe.refl _) (.nil))) (ref34_PosteriorX g k xz) (mvT rfl (ex rfl rfl (ex rfl rfl (asD rfl (asD rfl (OL.nil ?_)))))))
 refine AW.seq (AW.sg hE rfl (mvD rfl (c_neq rfl rfl rfl (OL.nil (AW.cond rfl (fun hz => ?_) (fun hz => ?_))))))
 ·have hz : likF h w = 0 := Decidable.of_not_not fun e => nd_t hz (if_neg e)
  have hpe : postE h w = 11 := if_pos hz
  refine AW.sg hE rfl (bd z.Counts pl.Counts (cs := [_,_,_,_]) rfl (mvD rfl (sto sz.Counts rfl rfl rfl rfl rfl (nb9 rfl) (cells2 := [_,_,_,_]) rfl (asD rfl (OL.nil ?_)))))
  exact AW.ret (RetQ.r ⟨_, .cellA rfl rfl ag.Counts (nb9 rfl) (.tmp rfl .nil), _, .cons (.ag (.cons (.le (by rw [exS, if_pos hz]; exact VLe.mt)) (.cons (.le (by rw [exM, if_pos hz]; exact VLe.mt)) (.cons (.le (by rw [exE, if_pos hz]; exact VLe.mt)) (.cons (.le (by rw [exO, if_pos hz]; exact VLe.mt)) .nil))))) (.cons (.le (VLe.int (by rw [hpe]))) .nil), rfl⟩)
 ·have hz : likF h w ≠ 0 := fun e => by have := nd_f hz; rw [postE, if_pos e] at this; exact absurd this (by decide)
  have hpe : postE h w = 0 := if_neg hz
  have hpr : postR h w = (List.range w.length).map (postF h w) := if_neg hz
  have hpl : Unit → (postR h w).length = w.length := fun _ => by rw [hpr]; simp
  refine AW.skip (AW.sg hE rfl (ldPA ag.Hidden rfl rfl (vs := [_,_,_,_,_,_,_,_,_,_,_]) rfl (nb9 rfl) (mvD rfl (clv rfl (.cons (VLe.refl _) (.cons (VLe.refl _) (.nil))) (ref34_ForwardX g k xz) (mvT rfl (ex rfl rfl (ex rfl rfl ?_)))))))
  refine asD rfl (asD rfl (OL.nil (AW.sg hE rfl (ldPA ag.Hidden rfl rfl (vs := [_,_,_,_,_,_,_,_,_,_,_]) rfl (nb9 rfl) (mvD rfl (clv rfl (.cons (VLe.refl _) (.cons (VLe.refl _) (.nil))) (ref34_BackwardX g k xz) (mvT rfl ?_)))))))
  refine ex rfl rfl (ex rfl rfl (asD rfl (asD rfl (OL.nil (AW.sg hE rfl (ldPA ag.Hidden rfl rfl (vs := [_,_,_,_,_,_,_,_,_,_,_]) rfl (nb9 rfl) (mvD rfl ?_)))))))
  refine clv rfl (.cons (VLe.refl _) (.cons (VLe.refl _) (.nil))) (ref34_LikelihoodX g k xz) (mvT rfl (ex rfl rfl (ex rfl rfl (al z.Rat rfl fun b12 => (sto sz.Rat rfl rfl rfl rfl rfl (nb9 rfl) (cells2 := [_,_,_]) rfl (asD rfl (OL.nil ?_)))))))
  refine AW.seq (AW.region_planT (valX1 h b2) ownX1 (telX1 h b2) 8 order_free (by rw [hE]; rfl) (by rfl) (by kernel_rfl) (by kernel_rfl) ?_ ?_)
  ·refine casX1 ?_ ?_ ?_ ?_ ?_ ?_ ?_ ?_
   ·exact fun β L c9 => ⟨_, rfl, .inl (OG.of_OL (faP fd.Hidden_1 (b := b2) (o := 0) (id := 2) ((pG_old rfl).trans rfl) rfl ⟨β, pG_put (d := 48) (i := 0) rfl (fun t ht => ownX1_inj ht) (lt_size 9 c9.size rfl (by decide)) (mfT_same (lt_size 9 c9.size rfl (by decide)) (by rfl))⟩))⟩
   ·exact fun β L c9 => ⟨_, rfl, .inl (OG.of_OL (ldPC ce.int (pG_new rfl (come_dep (j := 0) c9 (by kernel_rfl))) ((pG_M (mfT_skip (show (2:Nat) ≠ 50 by decide) (mfT_skip (show (2:Nat) ≠ 53 by decide) (mfT_skip (show (2:Nat) ≠ 14 by decide) rfl)))) : _ = some (.box b2 T.Hidden (cellsHM h))) (v := .d (dI h.st)) rfl ⟨β, pG_put (d := 49) (i := 1) rfl (fun t ht => ownX1_inj ht) (lt_size 9 c9.size rfl (by decide)) (mfT_same (lt_size 9 c9.size rfl (by decide)) (by rfl))⟩))⟩
   ·exact fun β L c9 => ⟨_, rfl, .inl (OG.of_OL (mkL dQ 0 sl.Rats z.Rat vcs_q0 (n := h.st) (cp := h.st) (k := .i64) (k2 := .i64) (pG_new rfl (come_dep (j := 1) c9 (by kernel_rfl))) (pG_new rfl (come_dep (j := 1) c9 (by kernel_rfl))) (Nat.le_refl _) (by omega) (by omega) (pG_M (mfT_no (by exact c9.no) (mfT_skip (show (50:Nat) ≠ 53 by decide) (mfT_skip (show (50:Nat) ≠ 14 by decide) rfl)))) fun b8 => ⟨upd β 50 (b8, 0), pG_set (d := 50) (i := 2) (x := (b8, 0)) rfl (fun t ht => ownX1_inj ht) (lt_size 9 c9.size rfl (by decide)) rfl (mfT_here (lt_size 9 c9.size rfl (by decide)) rfl rfl rfl c9.no (by rfl) (List.forall_mem_cons.2 ⟨(by exact fun _ _ => rfl), (List.forall_mem_cons.2 ⟨(by exact fun _ _ => rfl), (fun y hy => absurd hy List.not_mem_nil)⟩)⟩)) (fun t j ho hl => by unfold ownX1 at ho; split at ho <;> cases ho <;> first | rfl | (rw [c9.no] at hl; cases hl) | exact come_notT c9 (by kernel_rfl) hl)⟩))⟩
   ·exact fun β L c9 => ⟨_, rfl, .inl (OG.of_OL (faP fd.Hidden_1 (b := b2) (o := 0) (id := 2) ((pG_old rfl).trans rfl) rfl ⟨β, pG_put (d := 51) (i := 3) rfl (fun t ht => ownX1_inj ht) (lt_size 9 c9.size rfl (by decide)) (mfT_same (lt_size 9 c9.size rfl (by decide)) (by rfl))⟩))⟩
   ·exact fun β L c9 => ⟨_, rfl, .inl (OG.of_OL (ldPC ce.int (pG_new rfl (come_dep (j := 3) c9 (by kernel_rfl))) ((pG_M (mfT_skip (show (2:Nat) ≠ 50 by decide) (mfT_skip (show (2:Nat) ≠ 53 by decide) (mfT_skip (show (2:Nat) ≠ 14 by decide) rfl)))) : _ = some (.box b2 T.Hidden (cellsHM h))) (v := .d (dI h.st)) rfl ⟨β, pG_put (d := 52) (i := 4) rfl (fun t ht => ownX1_inj ht) (lt_size 9 c9.size rfl (by decide)) (mfT_same (lt_size 9 c9.size rfl (by decide)) (by rfl))⟩))⟩
   ·exact fun β L c9 => ⟨_, rfl, .inl (OG.of_OL (mkL dQ 0 sl.Rats z.Rat vcs_q0 (n := h.st) (cp := h.st) (k := .i64) (k2 := .i64) (pG_new rfl (come_dep (j := 4) c9 (by kernel_rfl))) (pG_new rfl (come_dep (j := 4) c9 (by kernel_rfl))) (Nat.le_refl _) (by omega) (by omega) (pG_M (mfT_skip (show (53:Nat) ≠ 50 by decide) (mfT_no (by exact c9.no) (mfT_skip (show (53:Nat) ≠ 14 by decide) rfl)))) fun b8 => ⟨upd β 53 (b8, 0), pG_set (d := 53) (i := 5) (x := (b8, 0)) rfl (fun t ht => ownX1_inj ht) (lt_size 9 c9.size rfl (by decide)) rfl (mfT_pass (lt_size 9 c9.size rfl (by decide)) (show (2:Nat) ≠ 5 by decide) (.inl (show (50:Nat) ≠ 53 by decide)) (by exact fun _ => rfl) (mfT_here (lt_size 9 c9.size rfl (by decide)) rfl rfl rfl c9.no (by rfl) (List.forall_mem_cons.2 ⟨(by exact fun _ _ => rfl), (fun y hy => absurd hy List.not_mem_nil)⟩))) (fun t j ho hl => by unfold ownX1 at ho; split at ho <;> cases ho <;> first | rfl | (rw [c9.no] at hl; cases hl) | exact come_notT c9 (by kernel_rfl) hl)⟩))⟩
   ·exact fun β L c9 => ⟨_, rfl, .inl (OG.of_OL (bd2 (cs := [_,_,_,_]) z.Counts pl.Counts (pvC (pG_new rfl (come_dep (j := 2) c9 (by kernel_rfl))) (pvC (pG_new rfl (come_dep (j := 5) c9 (by kernel_rfl))) pvN)) (by rfl) ⟨β, pG_put (d := 54) (i := 6) rfl (fun t ht => ownX1_inj ht) (lt_size 9 c9.size rfl (by decide)) (mfT_same (lt_size 9 c9.size rfl (by decide)) (by rfl))⟩))⟩
   ·exact fun β L c9 => ⟨_, rfl, .inl (OG.of_OL (al z.Counts (pG_M (mfT_skip (show (14:Nat) ≠ 50 by decide) (mfT_skip (show (14:Nat) ≠ 53 by decide) (mfT_no (by exact c9.no) rfl)))) fun b8 => ⟨upd β 14 (b8, 0), pG_set (d := 14) (i := 7) (x := (b8, 0)) rfl (fun t ht => ownX1_inj ht) (lt_size 9 c9.size rfl (by decide)) rfl (mfT_pass (lt_size 9 c9.size rfl (by decide)) (show (2:Nat) ≠ 7 by decide) (.inl (show (50:Nat) ≠ 14 by decide)) (by exact fun _ => rfl) (mfT_pass (lt_size 9 c9.size rfl (by decide)) (show (5:Nat) ≠ 7 by decide) (.inl (show (53:Nat) ≠ 14 by decide)) (by exact fun _ => rfl) (mfT_here (lt_size 9 c9.size rfl (by decide)) rfl rfl rfl c9.no (by rfl) (fun y hy => absurd hy List.not_mem_nil)))) (fun t j ho hl => by unfold ownX1 at ho; split at ho <;> cases ho <;> first | rfl | (rw [c9.no] at hl; cases hl) | exact come_notT c9 (by kernel_rfl) hl)⟩))⟩
  refine fun β L c9 hA => ⟨_, rfl, .inl (OG.of_OL (sto sz.Counts (pG_new rfl (hA 7 (by decide))) (pG_new rfl (hA 6 (by decide))) rfl (pG_M (mfT_skip (show (14:Nat) ≠ 50 by decide) (mfT_skip (show (14:Nat) ≠ 53 by decide) (mfT_yes (hA 7 (by decide)) rfl rfl)))) rfl (nb9 rfl) (cells2 := [_,_,_,_]) rfl ?_))⟩
  refine OL.nil ?_
  refine AW.to [(1, .d (ints w)), (2, .ptr 2 b2 0), (4, .ptr 4 b4 0), (5, .d (dI 0)), (6, .d (dQss (postR h w))), (8, .d (dQss ((List.range w.length).map (fwdF h w)))), (10, .d (dQss (colsB h w w.length))), (12, .ptr 12 b12 0), (14, .ptr 14 (β 14).1 0)] [(2, .box b2 T.Hidden (cellsHM h)), (4, .box b4 T.Counts [.mt, .mt, .mt, .mt]), (12, .box b12 T.Rat (cellsQ (likF h w))), (14, .box (β 14).1 T.Counts [.osl 50 (β 50).1 h.st h.st, .mt, .osl 53 (β 53).1 h.st h.st, .mt]), (50, .row (β 50).1 h.st T.Rat 3 ((List.replicate h.st 0).map dQ)), (53, .row (β 53).1 h.st T.Rat 3 ((List.replicate h.st 0).map dQ))] (.cons (vle_of_eq (sto_rho ((pG_old rfl).trans rfl))) (.cons (vle_of_eq (sto_rho ((pG_old rfl).trans rfl))) (.cons (vle_of_eq (sto_rho ((pG_old rfl).trans rfl))) (.cons (vle_of_eq (sto_rho ((pG_old rfl).trans rfl))) (.cons (vle_of_eq (sto_rho ((pG_old rfl).trans rfl))) (.cons (vle_of_eq (sto_rho ((pG_old rfl).trans rfl))) (.cons (vle_of_eq (sto_rho ((pG_old rfl).trans rfl))) (.cons (vle_of_eq (sto_rho ((pG_old rfl).trans rfl))) (.cons (vle_of_eq (sto_rho (pG_new rfl (hA 7 (by decide))))) (.nil)))))))))) (.cons (sto_old (show (2:Nat) ≠ 14 by decide) (pG_M (mfT_skip (show (2:Nat) ≠ 50 by decide) (mfT_skip (show (2:Nat) ≠ 53 by decide) (mfT_skip (show (2:Nat) ≠ 14 by decide) rfl))))) (.cons (sto_old (show (4:Nat) ≠ 14 by decide) (pG_M (mfT_skip (show (4:Nat) ≠ 50 by decide) (mfT_skip (show (4:Nat) ≠ 53 by decide) (mfT_skip (show (4:Nat) ≠ 14 by decide) rfl))))) (.cons (sto_old (show (12:Nat) ≠ 14 by decide) (pG_M (mfT_skip (show (12:Nat) ≠ 50 by decide) (mfT_skip (show (12:Nat) ≠ 53 by decide) (mfT_skip (show (12:Nat) ≠ 14 by decide) rfl))))) (.cons sto_new (.cons (sto_old (show (50:Nat) ≠ 14 by decide) (pG_M (mfT_yes (hA 2 (by decide)) rfl rfl))) (.cons (sto_old (show (53:Nat) ≠ 14 by decide) (pG_M (mfT_skip (show (53:Nat) ≠ 50 by decide) (mfT_yes (hA 5 (by decide)) rfl rfl)))) (.nil))))))) ?_
  generalize (β 50).1 = b50
  generalize (β 53).1 = b53
  generalize (β 14).1 = b14
  refine AW.seq (AW.sg hE rfl (asD rfl (OL.nil (AW.boxW 14 [.osl 50 b50 h.st h.st, .osl 67 0 0 0, .osl 53 b53 h.st h.st, .osl 74 0 0 0] rfl (.cons (VLe.refl _) (.cons VLe.mtO (.cons (VLe.refl _) (.cons VLe.mtO .nil)))) (AW.row0 67 T.Rats 1 rfl (AW.row0 74 T.Rats 1 rfl (AW.pool0 2067 T.Rat 3 rfl ?_)))))))
  refine AW.pool0 2074 T.Rat 3 rfl (AW.block ?_)
  refine AW.whileK (α := Nat × Nat × Nat × Nat × Nat × List (Nat × List D) × List (Nat × List D)) [(1, _), (2, _), (4, _), (5, _), (6, _), (8, _), (10, _), (12, _), (14, _)] [(2, _), (4, _), (12, _)] (fun (i, p1, c1, p2, c2, rsM, rsS) => [(15, .d (dI i))]) (fun (i, p1, c1, p2, c2, rsM, rsS) => [(14, .box b14 T.Counts [.osl 50 b50 h.st h.st, .osl 67 p1 i c1, .osl 53 b53 h.st h.st, .osl 74 p2 i c2]), (50, .row b50 h.st T.Rat 3 ((List.replicate h.st 0).map dQ)), (53, .row b53 h.st T.Rat 3 ((List.replicate h.st 0).map dQ)), (67, .row p1 c1 T.Rats 1 (rsM.map hdP)), (2067, .pool T.Rat 3 rsM), (74, .row p2 c2 T.Rats 1 (rsS.map hdP)), (2074, .pool T.Rat 3 rsS)]) (fun (i, p1, c1, p2, c2, rsM, rsS) => i ≤ h.st ∧ rsM.map Prod.snd = List.replicate i ((List.replicate h.st 0).map dQ) ∧ rsS.map Prod.snd = List.replicate i ((List.replicate h.sym 0).map dQ)) (fun (i, p1, c1, p2, c2, rsM, rsS) => h.st - i) (0, 0, 0, 0, 0, [], []) (.cons (knD rfl) (.cons (knP rfl) (.cons (knP rfl) (.cons (knD rfl) (.cons (knD rfl) (.cons (knD rfl) (.cons (knD rfl) (.cons (knP rfl) (.cons (knP rfl) .nil))))))))) (.cons (owB rfl) (.cons (owB rfl) (.cons (owB rfl) .nil))) ⟨⟨Nat.zero_le _, rfl, rfl⟩, .cons (VLe.refl _) .nil, .cons rfl (.cons rfl (.cons rfl (.cons rfl (.cons rfl (.cons rfl (.cons rfl .nil))))))⟩ ?_
  rintro ⟨i, p1, c1, p2, c2, rsM, rsS⟩ ⟨h1, hrM, hrS⟩
  have h1 : i ≤ h.st := h1
  have hrM : rsM.map Prod.snd = List.replicate i ((List.replicate h.st 0).map dQ) := hrM
  have hrS : rsS.map Prod.snd = List.replicate i ((List.replicate h.sym 0).map dQ) := hrS
  have hlM : Unit → rsM.length = i := fun _ => (snd_len hrM).trans (by simp)
  have hlS : Unit → rsS.length = i := fun _ => (snd_len hrS).trans (by simp)
  refine AW.seq (AW.sg hE rfl (mvD rfl (faP fd.Hidden_1 rfl rfl (ldPC ce.int rfl rfl rfl (c_lss rfl rfl rfl (OL.nil (AW.cond rfl (fun h58 => ?_) (fun h58 => ?_))))))))
  ·try simp only [dx9] at h58
   refine AW.skip (AW.seq (AW.block (AW.region_planT (valX4 h b2 b14 b50 b53 i p1 c1 p2 c2 rsM rsS) ownX4 (telX4 h b2 b14 b50 b53 i p1 c1 p2 c2 rsM rsS) 17 order_free (by rw [hE]; rfl) (by rfl) (by kernel_rfl) (by kernel_rfl) ?_ ?_)))
   ·refine casX4 ?_ ?_ ?_ ?_ ?_ ?_ ?_ ?_ ?_ ?_ ?_ ?_ ?_ ?_ ?_ ?_ ?_
    ·exact fun β L c9 => ⟨_, rfl, .inl (OG.of_OL (faP fd.Counts_1 (b := b14) (o := 0) (id := 14) ((pG_old rfl).trans rfl) rfl ⟨β, pG_put (d := 61) (i := 0) rfl (fun t ht => ownX4_inj ht) (lt_size 18 c9.size rfl (by decide)) (mfT_same (lt_size 18 c9.size rfl (by decide)) (by rfl))⟩))⟩
    ·exact fun β L c9 => ⟨_, rfl, .inl (OG.of_OL (ldPC ce.Ratss (pG_new rfl (come_dep (j := 0) c9 (by kernel_rfl))) ((pG_M (mfT_no (by exact come_lateT c9 (by kernel_rfl)) (mfT_skip (show (14:Nat) ≠ 67 by decide) (mfT_skip (show (14:Nat) ≠ 74 by decide) (mfT_skip (show (14:Nat) ≠ 65 by decide) (mfT_skip (show (14:Nat) ≠ 72 by decide) rfl)))))) : _ = some (.box b14 T.Counts [.osl 50 b50 h.st h.st, .osl 67 p1 i c1, .osl 53 b53 h.st h.st, .osl 74 p2 i c2])) (v := .osl 67 p1 i c1) rfl ⟨β, pG_put (d := 62) (i := 1) rfl (fun t ht => ownX4_inj ht) (lt_size 18 c9.size rfl (by decide)) (mfT_same (lt_size 18 c9.size rfl (by decide)) (by rfl))⟩))⟩
    ·exact fun β L c9 => ⟨_, rfl, .inl (OG.of_OL (faP fd.Hidden_1 (b := b2) (o := 0) (id := 2) ((pG_old rfl).trans rfl) rfl ⟨β, pG_put (d := 63) (i := 2) rfl (fun t ht => ownX4_inj ht) (lt_size 18 c9.size rfl (by decide)) (mfT_same (lt_size 18 c9.size rfl (by decide)) (by rfl))⟩))⟩
    ·exact fun β L c9 => ⟨_, rfl, .inl (OG.of_OL (ldPC ce.int (pG_new rfl (come_dep (j := 2) c9 (by kernel_rfl))) ((pG_M (mfT_skip (show (2:Nat) ≠ 14 by decide) (mfT_skip (show (2:Nat) ≠ 67 by decide) (mfT_skip (show (2:Nat) ≠ 74 by decide) (mfT_skip (show (2:Nat) ≠ 65 by decide) (mfT_skip (show (2:Nat) ≠ 72 by decide) rfl)))))) : _ = some (.box b2 T.Hidden (cellsHM h))) (v := .d (dI h.st)) rfl ⟨β, pG_put (d := 64) (i := 3) rfl (fun t ht => ownX4_inj ht) (lt_size 18 c9.size rfl (by decide)) (mfT_same (lt_size 18 c9.size rfl (by decide)) (by rfl))⟩))⟩
    ·exact fun β L c9 => ⟨_, rfl, .inl (OG.of_OL (mkL dQ 0 sl.Rats z.Rat vcs_q0 (n := h.st) (cp := h.st) (k := .i64) (k2 := .i64) (pG_new rfl (come_dep (j := 3) c9 (by kernel_rfl))) (pG_new rfl (come_dep (j := 3) c9 (by kernel_rfl))) (Nat.le_refl _) (by omega) (by omega) (pG_M (mfT_skip (show (65:Nat) ≠ 14 by decide) (mfT_skip (show (65:Nat) ≠ 67 by decide) (mfT_skip (show (65:Nat) ≠ 74 by decide) (mfT_no (by exact c9.no) (mfT_skip (show (65:Nat) ≠ 72 by decide) rfl)))))) fun b8 => ⟨upd β 65 (b8, 0), pG_set (d := 65) (i := 4) (x := (b8, 0)) rfl (fun t ht => ownX4_inj ht) (lt_size 18 c9.size rfl (by decide)) rfl (mfT_pass (lt_size 18 c9.size rfl (by decide)) (show (15:Nat) ≠ 4 by decide) (.inl (show (14:Nat) ≠ 65 by decide)) (by exact fun _ => rfl) (mfT_pass (lt_size 18 c9.size rfl (by decide)) (show (6:Nat) ≠ 4 by decide) (.inl (show (67:Nat) ≠ 65 by decide)) (by exact fun e => come_notT c9 (by kernel_rfl) e) (mfT_pass (lt_size 18 c9.size rfl (by decide)) (show (13:Nat) ≠ 4 by decide) (.inl (show (74:Nat) ≠ 65 by decide)) (by exact fun _ => rfl) (mfT_here (lt_size 18 c9.size rfl (by decide)) rfl rfl rfl c9.no (by rfl) (List.forall_mem_cons.2 ⟨(by exact fun _ _ => rfl), (fun y hy => absurd hy List.not_mem_nil)⟩))))) (fun t j ho hl => by unfold ownX4 at ho; split at ho <;> cases ho <;> first | rfl | (rw [c9.no] at hl; cases hl) | exact come_notT c9 (by kernel_rfl) hl)⟩))⟩
    ·exact fun β L c9 => ⟨_, rfl, .inl (OG.of_OL (lt1 (y := hdC (β 65).1 h.st h.st) sl.Ratss (vd_to (pG_new rfl (come_dep (j := 4) c9 (by kernel_rfl))) (vd_head (id := 65) (by omega))) rfl (by decide) ⟨β, pG_put (d := 66) (i := 5) rfl (fun t ht => ownX4_inj ht) (lt_size 18 c9.size rfl (by decide)) (mfT_same (lt_size 18 c9.size rfl (by decide)) (by rfl))⟩))⟩
    ·exact fun β L c9 => ⟨_, rfl, .inl (OG.of_OL (apO sl.Ratss rfl (pG_new rfl (come_dep (j := 1) c9 (by kernel_rfl))) ((pG_M (mfT_skip (show (67:Nat) ≠ 14 by decide) (mfT_no (by exact c9.no) (mfT_skip (show (67:Nat) ≠ 74 by decide) (mfT_skip (show (67:Nat) ≠ 65 by decide) (mfT_skip (show (67:Nat) ≠ 72 by decide) rfl)))))) : _ = some (.row p1 c1 T.Rats 1 (rsM.map hdP))) (by rw [List.length_map, hlM ()]) (vc_to (pG_new rfl (come_dep (j := 5) c9 (by kernel_rfl))) (VC.d _)) (fun y hy => by rw [List.mem_singleton.1 hy]; rfl) (by simp only [List.length_singleton]; omega) (by simp only [List.length_singleton]; omega) (.inr rfl) (ys := rsM.map hdP ++ [hdC (β 65).1 h.st h.st]) rfl (n2 := i + 1) rfl fun b8 c8 => ⟨upd β 67 (b8, c8), pG_set (d := 67) (i := 6) (x := (b8, c8)) rfl (fun t ht => ownX4_inj ht) (lt_size 18 c9.size rfl (by decide)) rfl (Eq.trans (mfT_pass (lt_size 18 c9.size rfl (by decide)) (show (15:Nat) ≠ 6 by decide) (.inl (show (14:Nat) ≠ 67 by decide)) (by exact fun e => come_notT c9 (by kernel_rfl) e) (mfT_here (lt_size 18 c9.size rfl (by decide)) rfl rfl rfl c9.no (by rfl) (List.forall_mem_cons.2 ⟨(by exact fun _ _ => rfl), (List.forall_mem_cons.2 ⟨(by exact fun _ _ => rfl), (List.forall_mem_cons.2 ⟨(by exact fun _ _ => rfl), (fun y hy => absurd hy List.not_mem_nil)⟩)⟩)⟩))) (upd_upd _ _ _ _).symm) (fun t j ho hl => by unfold ownX4 at ho; split at ho <;> cases ho <;> first | rfl | (rw [c9.no] at hl; cases hl) | exact come_notT c9 (by kernel_rfl) hl)⟩))⟩
    ·exact fun β L c9 => ⟨_, rfl, .inl (OG.of_OL (faP fd.Counts_3 (b := b14) (o := 0) (id := 14) ((pG_old rfl).trans rfl) rfl ⟨β, pG_put (d := 68) (i := 7) rfl (fun t ht => ownX4_inj ht) (lt_size 18 c9.size rfl (by decide)) (mfT_same (lt_size 18 c9.size rfl (by decide)) (by rfl))⟩))⟩
    ·exact fun β L c9 => ⟨_, rfl, .inl (OG.of_OL (ldPC ce.Ratss (pG_new rfl (come_dep (j := 7) c9 (by kernel_rfl))) ((pG_M (mfT_no (by exact come_lateT c9 (by kernel_rfl)) (mfT_skip (show (14:Nat) ≠ 67 by decide) (mfT_skip (show (14:Nat) ≠ 74 by decide) (mfT_skip (show (14:Nat) ≠ 65 by decide) (mfT_skip (show (14:Nat) ≠ 72 by decide) rfl)))))) : _ = some (.box b14 T.Counts [.osl 50 b50 h.st h.st, .osl 67 p1 i c1, .osl 53 b53 h.st h.st, .osl 74 p2 i c2])) (v := .osl 74 p2 i c2) rfl ⟨β, pG_put (d := 69) (i := 8) rfl (fun t ht => ownX4_inj ht) (lt_size 18 c9.size rfl (by decide)) (mfT_same (lt_size 18 c9.size rfl (by decide)) (by rfl))⟩))⟩
    ·exact fun β L c9 => ⟨_, rfl, .inl (OG.of_OL (faP fd.Hidden_0 (b := b2) (o := 0) (id := 2) ((pG_old rfl).trans rfl) rfl ⟨β, pG_put (d := 70) (i := 9) rfl (fun t ht => ownX4_inj ht) (lt_size 18 c9.size rfl (by decide)) (mfT_same (lt_size 18 c9.size rfl (by decide)) (by rfl))⟩))⟩
    ·exact fun β L c9 => ⟨_, rfl, .inl (OG.of_OL (ldPC ce.int (pG_new rfl (come_dep (j := 9) c9 (by kernel_rfl))) ((pG_M (mfT_skip (show (2:Nat) ≠ 14 by decide) (mfT_skip (show (2:Nat) ≠ 67 by decide) (mfT_skip (show (2:Nat) ≠ 74 by decide) (mfT_skip (show (2:Nat) ≠ 65 by decide) (mfT_skip (show (2:Nat) ≠ 72 by decide) rfl)))))) : _ = some (.box b2 T.Hidden (cellsHM h))) (v := .d (dI h.sym)) rfl ⟨β, pG_put (d := 71) (i := 10) rfl (fun t ht => ownX4_inj ht) (lt_size 18 c9.size rfl (by decide)) (mfT_same (lt_size 18 c9.size rfl (by decide)) (by rfl))⟩))⟩
    ·exact fun β L c9 => ⟨_, rfl, .inl (OG.of_OL (mkL dQ 0 sl.Rats z.Rat vcs_q0 (n := h.sym) (cp := h.sym) (k := .i64) (k2 := .i64) (pG_new rfl (come_dep (j := 10) c9 (by kernel_rfl))) (pG_new rfl (come_dep (j := 10) c9 (by kernel_rfl))) (Nat.le_refl _) (by omega) (by omega) (pG_M (mfT_skip (show (72:Nat) ≠ 14 by decide) (mfT_skip (show (72:Nat) ≠ 67 by decide) (mfT_skip (show (72:Nat) ≠ 74 by decide) (mfT_skip (show (72:Nat) ≠ 65 by decide) (mfT_no (by exact c9.no) rfl)))))) fun b8 => ⟨upd β 72 (b8, 0), pG_set (d := 72) (i := 11) (x := (b8, 0)) rfl (fun t ht => ownX4_inj ht) (lt_size 18 c9.size rfl (by decide)) rfl (mfT_pass (lt_size 18 c9.size rfl (by decide)) (show (15:Nat) ≠ 11 by decide) (.inl (show (14:Nat) ≠ 72 by decide)) (by exact fun _ => rfl) (mfT_pass (lt_size 18 c9.size rfl (by decide)) (show (6:Nat) ≠ 11 by decide) (.inl (show (67:Nat) ≠ 72 by decide)) (by exact fun _ => rfl) (mfT_pass (lt_size 18 c9.size rfl (by decide)) (show (13:Nat) ≠ 11 by decide) (.inl (show (74:Nat) ≠ 72 by decide)) (by exact fun e => come_notT c9 (by kernel_rfl) e) (mfT_pass (lt_size 18 c9.size rfl (by decide)) (show (4:Nat) ≠ 11 by decide) (.inl (show (65:Nat) ≠ 72 by decide)) (by exact fun _ => rfl) (mfT_here (lt_size 18 c9.size rfl (by decide)) rfl rfl rfl c9.no (by rfl) (fun y hy => absurd hy List.not_mem_nil)))))) (fun t j ho hl => by unfold ownX4 at ho; split at ho <;> cases ho <;> first | rfl | (rw [c9.no] at hl; cases hl) | exact come_notT c9 (by kernel_rfl) hl)⟩))⟩
    ·exact fun β L c9 => ⟨_, rfl, .inl (OG.of_OL (lt1 (y := hdC (β 72).1 h.sym h.sym) sl.Ratss (vd_to (pG_new rfl (come_dep (j := 11) c9 (by kernel_rfl))) (vd_head (id := 72) (by omega))) rfl (by decide) ⟨β, pG_put (d := 73) (i := 12) rfl (fun t ht => ownX4_inj ht) (lt_size 18 c9.size rfl (by decide)) (mfT_same (lt_size 18 c9.size rfl (by decide)) (by rfl))⟩))⟩
    ·exact fun β L c9 => ⟨_, rfl, .inl (OG.of_OL (apO sl.Ratss rfl (pG_new rfl (come_dep (j := 8) c9 (by kernel_rfl))) ((pG_M (mfT_skip (show (74:Nat) ≠ 14 by decide) (mfT_skip (show (74:Nat) ≠ 67 by decide) (mfT_no (by exact c9.no) (mfT_skip (show (74:Nat) ≠ 65 by decide) (mfT_skip (show (74:Nat) ≠ 72 by decide) rfl)))))) : _ = some (.row p2 c2 T.Rats 1 (rsS.map hdP))) (by rw [List.length_map, hlS ()]) (vc_to (pG_new rfl (come_dep (j := 12) c9 (by kernel_rfl))) (VC.d _)) (fun y hy => by rw [List.mem_singleton.1 hy]; rfl) (by simp only [List.length_singleton]; omega) (by simp only [List.length_singleton]; omega) (.inr rfl) (ys := rsS.map hdP ++ [hdC (β 72).1 h.sym h.sym]) rfl (n2 := i + 1) rfl fun b8 c8 => ⟨upd β 74 (b8, c8), pG_set (d := 74) (i := 13) (x := (b8, c8)) rfl (fun t ht => ownX4_inj ht) (lt_size 18 c9.size rfl (by decide)) rfl (Eq.trans (mfT_pass (lt_size 18 c9.size rfl (by decide)) (show (15:Nat) ≠ 13 by decide) (.inl (show (14:Nat) ≠ 74 by decide)) (by exact fun _ => rfl) (mfT_pass (lt_size 18 c9.size rfl (by decide)) (show (6:Nat) ≠ 13 by decide) (.inl (show (67:Nat) ≠ 74 by decide)) (by exact fun _ => rfl) (mfT_here (lt_size 18 c9.size rfl (by decide)) rfl rfl rfl c9.no (by rfl) (List.forall_mem_cons.2 ⟨(by exact fun _ _ => rfl), (List.forall_mem_cons.2 ⟨(by exact fun _ _ => rfl), (fun y hy => absurd hy List.not_mem_nil)⟩)⟩)))) (upd_upd _ _ _ _).symm) (fun t j ho hl => by unfold ownX4 at ho; split at ho <;> cases ho <;> first | rfl | (rw [c9.no] at hl; cases hl) | exact come_notT c9 (by kernel_rfl) hl)⟩))⟩
    ·exact fun β L c9 => ⟨_, rfl, .inl (OG.of_OL (faP fd.Counts_1 (b := b14) (o := 0) (id := 14) ((pG_old rfl).trans rfl) rfl ⟨β, pG_put (d := 75) (i := 14) rfl (fun t ht => ownX4_inj ht) (lt_size 18 c9.size rfl (by decide)) (mfT_same (lt_size 18 c9.size rfl (by decide)) (by rfl))⟩))⟩
    ·exact fun β L c9 => ⟨_, rfl, .inl (OG.of_OL (sto sz.Ratss (pG_new rfl (come_dep (j := 14) c9 (by kernel_rfl))) (pG_new rfl (come_dep (j := 6) c9 (by kernel_rfl))) rfl ((pG_M (mfT_no (by exact c9.no) (mfT_skip (show (14:Nat) ≠ 67 by decide) (mfT_skip (show (14:Nat) ≠ 74 by decide) (mfT_skip (show (14:Nat) ≠ 65 by decide) (mfT_skip (show (14:Nat) ≠ 72 by decide) rfl)))))) : _ = some (.box b14 T.Counts [.osl 50 b50 h.st h.st, .osl 67 p1 i c1, .osl 53 b53 h.st h.st, .osl 74 p2 i c2])) rfl (nb9 rfl) (cells2 := [_,_,_,_]) rfl ⟨β, pG_mod (fun t ht => by unfold ownX4 at ht; split at ht <;> cases ht) (lt_size 18 c9.size rfl (by decide)) (mfT_here (lt_size 18 c9.size rfl (by decide)) rfl rfl rfl c9.no (by rfl) (List.forall_mem_cons.2 ⟨(by exact fun _ _ => rfl), (List.forall_mem_cons.2 ⟨(by exact fun _ _ => rfl), (List.forall_mem_cons.2 ⟨(by exact fun _ _ => rfl), (List.forall_mem_cons.2 ⟨(by exact fun _ _ => rfl), (fun y hy => absurd hy List.not_mem_nil)⟩)⟩)⟩)⟩))⟩))⟩
    ·exact fun β L c9 => ⟨_, rfl, .inl (OG.of_OL (faP fd.Counts_3 (b := b14) (o := 0) (id := 14) ((pG_old rfl).trans rfl) rfl ⟨β, pG_put (d := 76) (i := 16) rfl (fun t ht => ownX4_inj ht) (lt_size 18 c9.size rfl (by decide)) (mfT_same (lt_size 18 c9.size rfl (by decide)) (by rfl))⟩))⟩
   refine fun β L c9 hA => ⟨_, rfl, .inl (OG.of_OL (sto sz.Ratss (pG_new rfl (hA 16 (by decide))) (pG_new rfl (hA 13 (by decide))) rfl ((pG_M (mfT_yes (hA 15 (by decide)) rfl rfl)) : _ = some (.box b14 T.Counts [.osl 50 b50 h.st h.st, .osl 67 (β 67).1 (i + 1) (β 67).2, .osl 53 b53 h.st h.st, .osl 74 p2 i c2])) rfl (nb9 rfl) (cells2 := [_,_,_,_]) rfl ?_))⟩
   refine OL.nil ?_
   refine AW.to [(1, .d (ints w)), (2, .ptr 2 b2 0), (4, .ptr 4 b4 0), (5, .d (dI 0)), (6, .d (dQss (postR h w))), (8, .d (dQss ((List.range w.length).map (fwdF h w)))), (10, .d (dQss (colsB h w w.length))), (12, .ptr 12 b12 0), (14, .ptr 14 b14 0), (15, .d (dI i))] [(2, .box b2 T.Hidden (cellsHM h)), (4, .box b4 T.Counts [.mt, .mt, .mt, .mt]), (12, .box b12 T.Rat (cellsQ (likF h w))), (14, .box b14 T.Counts [.osl 50 b50 h.st h.st, .osl 67 (β 67).1 (i + 1) (β 67).2, .osl 53 b53 h.st h.st, .osl 74 (β 74).1 (i + 1) (β 74).2]), (50, .row b50 h.st T.Rat 3 ((List.replicate h.st 0).map dQ)), (53, .row b53 h.st T.Rat 3 ((List.replicate h.st 0).map dQ)), (65, .row (β 65).1 h.st T.Rat 3 ((List.replicate h.st 0).map dQ)), (67, .row (β 67).1 (β 67).2 T.Rats 1 (rsM.map hdP ++ [hdC (β 65).1 h.st h.st])), (72, .row (β 72).1 h.sym T.Rat 3 ((List.replicate h.sym 0).map dQ)), (74, .row (β 74).1 (β 74).2 T.Rats 1 (rsS.map hdP ++ [hdC (β 72).1 h.sym h.sym])), (2067, .pool T.Rat 3 rsM), (2074, .pool T.Rat 3 rsS)] (.cons (vle_of_eq (sto_rho ((pG_old rfl).trans rfl))) (.cons (vle_of_eq (sto_rho ((pG_old rfl).trans rfl))) (.cons (vle_of_eq (sto_rho ((pG_old rfl).trans rfl))) (.cons (vle_of_eq (sto_rho ((pG_old rfl).trans rfl))) (.cons (vle_of_eq (sto_rho ((pG_old rfl).trans rfl))) (.cons (vle_of_eq (sto_rho ((pG_old rfl).trans rfl))) (.cons (vle_of_eq (sto_rho ((pG_old rfl).trans rfl))) (.cons (vle_of_eq (sto_rho ((pG_old rfl).trans rfl))) (.cons (vle_of_eq (sto_rho ((pG_old rfl).trans rfl))) (.cons (vle_of_eq (sto_rho ((pG_old rfl).trans rfl))) (.nil))))))))))) (.cons (sto_old (show (2:Nat) ≠ 14 by decide) (pG_M (mfT_skip (show (2:Nat) ≠ 14 by decide) (mfT_skip (show (2:Nat) ≠ 67 by decide) (mfT_skip (show (2:Nat) ≠ 74 by decide) (mfT_skip (show (2:Nat) ≠ 65 by decide) (mfT_skip (show (2:Nat) ≠ 72 by decide) rfl))))))) (.cons (sto_old (show (4:Nat) ≠ 14 by decide) (pG_M (mfT_skip (show (4:Nat) ≠ 14 by decide) (mfT_skip (show (4:Nat) ≠ 67 by decide) (mfT_skip (show (4:Nat) ≠ 74 by decide) (mfT_skip (show (4:Nat) ≠ 65 by decide) (mfT_skip (show (4:Nat) ≠ 72 by decide) rfl))))))) (.cons (sto_old (show (12:Nat) ≠ 14 by decide) (pG_M (mfT_skip (show (12:Nat) ≠ 14 by decide) (mfT_skip (show (12:Nat) ≠ 67 by decide) (mfT_skip (show (12:Nat) ≠ 74 by decide) (mfT_skip (show (12:Nat) ≠ 65 by decide) (mfT_skip (show (12:Nat) ≠ 72 by decide) rfl))))))) (.cons sto_new (.cons (sto_old (show (50:Nat) ≠ 14 by decide) (pG_M (mfT_skip (show (50:Nat) ≠ 14 by decide) (mfT_skip (show (50:Nat) ≠ 67 by decide) (mfT_skip (show (50:Nat) ≠ 74 by decide) (mfT_skip (show (50:Nat) ≠ 65 by decide) (mfT_skip (show (50:Nat) ≠ 72 by decide) rfl))))))) (.cons (sto_old (show (53:Nat) ≠ 14 by decide) (pG_M (mfT_skip (show (53:Nat) ≠ 14 by decide) (mfT_skip (show (53:Nat) ≠ 67 by decide) (mfT_skip (show (53:Nat) ≠ 74 by decide) (mfT_skip (show (53:Nat) ≠ 65 by decide) (mfT_skip (show (53:Nat) ≠ 72 by decide) rfl))))))) (.cons (sto_old (show (65:Nat) ≠ 14 by decide) (pG_M (mfT_skip (show (65:Nat) ≠ 14 by decide) (mfT_skip (show (65:Nat) ≠ 67 by decide) (mfT_skip (show (65:Nat) ≠ 74 by decide) (mfT_yes (hA 4 (by decide)) rfl rfl)))))) (.cons (sto_old (show (67:Nat) ≠ 14 by decide) (pG_M (mfT_skip (show (67:Nat) ≠ 14 by decide) (mfT_yes (hA 6 (by decide)) rfl rfl)))) (.cons (sto_old (show (72:Nat) ≠ 14 by decide) (pG_M (mfT_skip (show (72:Nat) ≠ 14 by decide) (mfT_skip (show (72:Nat) ≠ 67 by decide) (mfT_skip (show (72:Nat) ≠ 74 by decide) (mfT_skip (show (72:Nat) ≠ 65 by decide) (mfT_yes (hA 11 (by decide)) rfl rfl))))))) (.cons (sto_old (show (74:Nat) ≠ 14 by decide) (pG_M (mfT_skip (show (74:Nat) ≠ 14 by decide) (mfT_skip (show (74:Nat) ≠ 67 by decide) (mfT_yes (hA 13 (by decide)) rfl rfl))))) (.cons (sto_old (show (2067:Nat) ≠ 14 by decide) (pG_M (mfT_skip (show (2067:Nat) ≠ 14 by decide) (mfT_skip (show (2067:Nat) ≠ 67 by decide) (mfT_skip (show (2067:Nat) ≠ 74 by decide) (mfT_skip (show (2067:Nat) ≠ 65 by decide) (mfT_skip (show (2067:Nat) ≠ 72 by decide) rfl))))))) (.cons (sto_old (show (2074:Nat) ≠ 14 by decide) (pG_M (mfT_skip (show (2074:Nat) ≠ 14 by decide) (mfT_skip (show (2074:Nat) ≠ 67 by decide) (mfT_skip (show (2074:Nat) ≠ 74 by decide) (mfT_skip (show (2074:Nat) ≠ 65 by decide) (mfT_skip (show (2074:Nat) ≠ 72 by decide) rfl))))))) (.nil))))))))))))) ?_
   generalize (β 65).1 = b65
   generalize (β 72).1 = b72
   generalize (β 67).1 = q1
   generalize (β 67).2 = d1
   generalize (β 74).1 = q2
   generalize (β 74).2 = d2
   refine AW.giveEnd 65 2067 rfl rfl (hzs ()).symm (AW.giveEnd 72 2074 rfl rfl (hzo ()).symm (AW.rg hE rfl (mvD rfl (add_i64 rfl rfl (by omega) (asD rfl (OL.nil ?_))))))
   exact AW.again (x := (i, p1, c1, p2, c2, rsM, rsS)) (i + 1, q1, d1, q2, d2, rsM ++ [(b65, ((List.replicate h.st 0).map dQ))], rsS ++ [(b72, ((List.replicate h.sym 0).map dQ))]) (by (simp only []; omega)) ⟨⟨by omega, by rw [List.map_append, hrM, List.replicate_succ']; rfl, by rw [List.map_append, hrS, List.replicate_succ']; rfl⟩, Knows.app (.cons (VLe.refl _) (.cons (VLe.refl _) (.cons (VLe.refl _) (.cons (VLe.refl _) (.cons (VLe.refl _) (.cons (VLe.refl _) (.cons (VLe.refl _) (.cons (VLe.refl _) (.cons (VLe.refl _) .nil))))))))) (.cons (VLe.refl _) .nil), Owns.app (.cons rfl (.cons rfl (.cons rfl .nil))) (.cons rfl (.cons rfl (.cons rfl (.cons (by rw [List.map_append, List.map_singleton, hdP_eq (hzs ())]; rfl) (.cons rfl (.cons (by rw [List.map_append, List.map_singleton, hdP_eq (hzo ())]; rfl) (.cons rfl .nil)))))))⟩
  ·try simp only [dx9] at h58
   refine AW.exit (AW.seq (AW.seq ?_))
   obtain rfl : i = h.st := by omega
   refine AW.rg hE rfl (asD rfl (OL.nil (AW.block ?_)))
   refine AW.whileK (α := Nat × List (Nat × List D) × List (Nat × List D)) [(1, _), (2, _), (4, _), (5, _), (6, _), (8, _), (10, _), (12, _), (14, _)] [(2, _), (4, _), (12, _), (14, _)] (fun (t, rsM, rsS) => [(16, .d (dI t))]) (fun (t, rsM, rsS) => [(50, .row b50 h.st T.Rat 3 ((stR h w t 0).map dQ)), (53, .row b53 h.st T.Rat 3 ((enR h w t 0).map dQ)), (67, .row p1 c1 T.Rats 1 (rsM.map hdP)), (2067, .pool T.Rat 3 rsM), (74, .row p2 c2 T.Rats 1 (rsS.map hdP)), (2074, .pool T.Rat 3 rsS)]) (fun (t, rsM, rsS) => t ≤ w.length ∧ rsM.map Prod.snd = (rowsT h (moveRow h w) (min t (w.length - 1)) (min (t + 1) (w.length - 1)) 0) ∧ rsS.map Prod.snd = (rowsT h (showRow h w) t (t + 1) 0)) (fun (t, rsM, rsS) => w.length - t) (0, rsM, rsS) (.cons (knD rfl) (.cons (knP rfl) (.cons (knP rfl) (.cons (knD rfl) (.cons (knD rfl) (.cons (knD rfl) (.cons (knD rfl) (.cons (knP rfl) (.cons (knP rfl) .nil))))))))) (.cons (owB rfl) (.cons (owB rfl) (.cons (owB rfl) (.cons (owB rfl) .nil)))) ⟨⟨Nat.zero_le _, by rw [hrM, Nat.zero_min]; exact (rows_zero (fun i _ => moveRow_zero h w i)).symm, by rw [hrS]; exact (rows_zero (fun i _ => showRow_zero h w i)).symm⟩, .cons (VLe.refl _) .nil, .cons (by rw [stR_zero]; rfl) (.cons (by rw [enR_zero]; rfl) (.cons rfl (.cons rfl (.cons rfl (.cons rfl .nil)))))⟩ ?_
   rintro ⟨t, rsM, rsS⟩ ⟨h1, hrM, hrS⟩
   have h1 : t ≤ w.length := h1
   have hrM : rsM.map Prod.snd = (rowsT h (moveRow h w) (min t (w.length - 1)) (min (t + 1) (w.length - 1)) 0) := hrM
   have hrS : rsS.map Prod.snd = (rowsT h (showRow h w) t (t + 1) 0) := hrS
   refine AW.seq (AW.sg hE rfl (mvD rfl (mvD rfl (lnL sl.ints rfl rfl (c_lss rfl rfl rfl (OL.nil (AW.cond rfl (fun h80 => ?_) (fun h80 => ?_))))))))
   ·try simp only [dx9] at h80
    refine AW.skip (AW.seq (AW.block (AW.sg hE rfl (asD rfl (OL.nil (AW.block ?_))))))
    have ht : t < w.length := by omega
    have hx := k.symX (t := t) ht
    have hpg : (postR h w).getD t [] = postF h w t := by rw [hpr]; exact map_getD_range _ _ ht
    refine AW.whileK (α := Nat × List (Nat × List D) × List (Nat × List D)) [(1, _), (2, _), (4, _), (5, _), (6, _), (8, _), (10, _), (12, _), (14, _), (16, _)] [(2, _), (4, _), (12, _), (14, _)] (fun (i, rsM1, rsS1) => [(17, .d (dI i))]) (fun (i, rsM1, rsS1) => [(50, .row b50 h.st T.Rat 3 ((stR h w t i).map dQ)), (53, .row b53 h.st T.Rat 3 ((enR h w t i).map dQ)), (67, .row p1 c1 T.Rats 1 (rsM1.map hdP)), (2067, .pool T.Rat 3 rsM1), (74, .row p2 c2 T.Rats 1 (rsS1.map hdP)), (2074, .pool T.Rat 3 rsS1)]) (fun (i, rsM1, rsS1) => i ≤ h.st ∧ rsM1.map Prod.snd = (rowsT h (moveRow h w) (min t (w.length - 1)) (min (t + 1) (w.length - 1)) i) ∧ rsS1.map Prod.snd = (rowsT h (showRow h w) t (t + 1) i)) (fun (i, rsM1, rsS1) => h.st - i) (0, rsM, rsS) (.cons (knD rfl) (.cons (knP rfl) (.cons (knP rfl) (.cons (knD rfl) (.cons (knD rfl) (.cons (knD rfl) (.cons (knD rfl) (.cons (knP rfl) (.cons (knP rfl) (.cons (knD rfl) .nil)))))))))) (.cons (owB rfl) (.cons (owB rfl) (.cons (owB rfl) (.cons (owB rfl) .nil)))) ⟨⟨Nat.zero_le _, hrM, hrS⟩, .cons (VLe.refl _) .nil, .cons rfl (.cons rfl (.cons rfl (.cons rfl (.cons rfl (.cons rfl .nil)))))⟩ ?_
    rintro ⟨i, rsM1, rsS1⟩ ⟨h2, hrM1, hrS1⟩
    have h2 : i ≤ h.st := h2
    have hrM1 : rsM1.map Prod.snd = (rowsT h (moveRow h w) (min t (w.length - 1)) (min (t + 1) (w.length - 1)) i) := hrM1
    have hrS1 : rsS1.map Prod.snd = (rowsT h (showRow h w) t (t + 1) i) := hrS1
    have hlM := fun (_ : Unit) => (snd_len hrM1).trans (rowsT_len ..)
    have hlS := fun (_ : Unit) => (snd_len hrS1).trans (rowsT_len ..)
    have hsR := fun (_ : Unit) => stR_len (h := h) (w := w) (t := t) (i := i)
    have heR := fun (_ : Unit) => enR_len (h := h) (w := w) (t := t) (i := i)
    refine AW.seq (AW.sg hE rfl (mvD rfl (faP fd.Hidden_1 rfl rfl (ldPC ce.int rfl rfl rfl (c_lss rfl rfl rfl (OL.nil (AW.cond rfl (fun h86 => ?_) (fun h86 => ?_))))))))
    ·try simp only [dx9] at h86
     refine AW.skip (AW.seq (AW.block (AW.seq ?_)))
     have hi : i < h.st := by omega
     obtain ⟨bi, hbi⟩ := snd_get hrS1 (rowsT_get (h := h) (f := (showRow h w)) hi)
     have hel1 : Unit → ((showRow h w t i).map dQ).length = h.sym := fun _ => by rw [List.length_map, showRow_len]
     have hel2 : Unit → ((showRow h w (t + 1) i).map dQ).length = h.sym := fun _ => by rw [List.length_map, showRow_len]
     refine AW.takeN 2001 2074 i h.sym rfl rfl hbi (hel1 ()) ?_
     have hel : (rsS1.map hdP)[i]? = some (hdP (bi, (showRow h w t i).map dQ)) := by rw [List.getElem?_map, hbi]; rfl
     have zs := xz.show_ t i (symX w t) (by omega)
     have zp := xz.post t i ht
     have hpi := postF_get (h := h) (w := w) (t := t) hi
     refine AW.dg 1 [0,1,2,3,4,5,6,7,8,9,10,11,12,13,14,15,16,17,18,19,20,21,22,23,24,25,26,27,28,29,30,31] order_free hE rfl (by kernel_rfl) (OI.of_OL (os := [_,_,_,_,_,_,_,_,_,_,_,_,_,_,_,_,_,_,_,_,_,_,_,_,_,_,_,_,_,_,_,_]) rfl ?_)
     refine faP fd.Counts_3 rfl rfl (ldPC ce.Ratss rfl rfl rfl (mvD rfl (ixOn sl.Ratss rfl rfl hi (ldLe (.rowC (by decide) rfl rfl hel ce.Rats rfl) (vle_hdP 2001 (hel1 ())) (mvD rfl (mvD rfl (ixLn sl.ints 0 rfl rfl ht rfl rfl ?_)))))))
     refine ldRC ce.int rfl ?_
     rw [hx.2]
     refine bo rfl rfl (bin_sub (c := (symX w t : Int)) (by omega) (wrap_i64 (by omega))) (faP fd.Counts_3 rfl rfl (ldPC ce.Ratss rfl rfl rfl (mvD rfl (ixOn sl.Ratss rfl rfl hi (ldLe (.rowC (by decide) rfl rfl hel ce.Rats rfl) (vle_hdP 2001 (hel1 ())) (mvD rfl (mvD rfl ?_)))))))
     refine ixLn sl.ints 0 rfl rfl ht rfl rfl (ldRC ce.int rfl ?_)
     rw [hx.2]
     refine bo rfl rfl (bin_sub (c := (symX w t : Int)) (by omega) (wrap_i64 (by omega))) (ixOn sl.Rats rfl rfl hx.1 (ldEAL ag.Rat 0 (by decide) rfl rfl (by rw [showRow_len]; exact hx.1) (vs := [_,_,_]) rfl (nb9 rfl) ?_))
     rw [showRow_get hx.1]
     refine mvD rfl (mvD rfl (ixLn sl.Ratss [] rfl rfl (by rw [hpl ()]; exact ht) rfl rfl (ldRC ce.Rats rfl ?_)))
     rw [hpg]
     refine mvD rfl (ixLn sl.Rats 0 rfl rfl (by rw [postF_len]; exact hi) rfl rfl (ldRA ag.Rat rfl (vs := [_,_,_]) rfl (nb9 rfl) ?_))
     rw [hpi]
     refine clv rfl (.cons (VLe.refl _) (.cons (VLe.refl _) (.nil))) (ref_AddQ (x := showQ h w t i (symX w t)) (y := postQ h w t i) zs zp) (ixOn sl.Rats rfl rfl hx.1 (stE sz.Rat rfl vd_q rfl rfl (by rw [List.length_map, showRow_len]; exact hx.1) (es2 := (showRow h w (t + 1) i).map dQ) (by rw [← showRow_set rfl, List.map_set]) (OL.nil (AW.back 2001 2074 i rsS1 rfl rfl rfl (by rw [hlS ()]; exact hi) (hel2 ()).symm rfl ?_))))
     refine AW.midK (α := Unit) [(1, _), (2, _), (4, _), (5, _), (6, _), (8, _), (10, _), (12, _), (14, _), (16, _), (17, _)] [(2, _), (4, _), (12, _), (14, _), (53, _), (67, _), (74, _), (2067, _), (2074, _)] (fun _u => []) (fun _u => [(50, .row b50 h.st T.Rat 3 ((stR h w t (i + 1)).map dQ))]) (fun _u => True) (.cons (knD rfl) (.cons (knP rfl) (.cons (knP rfl) (.cons (knD rfl) (.cons (knD rfl) (.cons (knD rfl) (.cons (knD rfl) (.cons (knP rfl) (.cons (knP rfl) (.cons (knD rfl) (.cons (knD rfl) .nil))))))))))) (.cons (owB rfl) (.cons (owB rfl) (.cons (owB rfl) (.cons (owB rfl) (.cons (owR rfl) (.cons (owR rfl) (.cons (owR rfl) (.cons (owL rfl) (.cons (owL rfl) .nil))))))))) ?_ ?_
     ·refine AW.sg hE rfl (mvD rfl (c_eql rfl rfl rfl (OL.nil (AW.cond rfl (fun ht0 => ?_) (fun ht0 => ?_)))))
      ·have ht0 : t = 0 := by have := of_decide_eq_true ht0; omega
       refine AW.dg 1 [0,1,2,3,4,5,6,7,8,9,10,11] order_free hE rfl (by kernel_rfl) (OI.of_OL (os := [_,_,_,_,_,_,_,_,_,_,_,_]) rfl ?_)
       refine faP fd.Counts_0 rfl rfl (ldPC ce.Rats rfl rfl rfl (mvD rfl (mvD rfl (mvD rfl (ixLn sl.Ratss [] rfl rfl (by rw [hpl ()]; exact ht) rfl rfl (ldRC ce.Rats rfl ?_))))))
       rw [hpg]
       refine mvD rfl (ixLn sl.Rats 0 rfl rfl (by rw [postF_len]; exact hi) rfl rfl (ldRA ag.Rat rfl (vs := [_,_,_]) rfl (nb9 rfl) ?_))
       rw [hpi]
       refine ixOn sl.Rats rfl rfl hi (stE sz.Rat rfl vd_q rfl rfl (by rw [List.length_map, hsR ()]; exact hi) (es2 := (stR h w t (i + 1)).map dQ) (by subst ht0; rw [← stR_set hi, List.map_set]) (OL.nil ?_))
       exact AW.reach () ⟨trivial, Knows.app (.cons (VLe.refl _) (.cons (VLe.refl _) (.cons (VLe.refl _) (.cons (VLe.refl _) (.cons (VLe.refl _) (.cons (VLe.refl _) (.cons (VLe.refl _) (.cons (VLe.refl _) (.cons (VLe.refl _) (.cons (VLe.refl _) (.cons (VLe.refl _) .nil))))))))))) (.nil), Owns.app (.cons rfl (.cons rfl (.cons rfl (.cons rfl (.cons rfl (.cons rfl (.cons rfl (.cons rfl (.cons rfl .nil))))))))) (.cons rfl .nil)⟩
      ·have ht0 : 0 < t := by have := of_decide_eq_false ht0; omega
       refine AW.skip ?_
       exact AW.reach () ⟨trivial, Knows.app (.cons (VLe.refl _) (.cons (VLe.refl _) (.cons (VLe.refl _) (.cons (VLe.refl _) (.cons (VLe.refl _) (.cons (VLe.refl _) (.cons (VLe.refl _) (.cons (VLe.refl _) (.cons (VLe.refl _) (.cons (VLe.refl _) (.cons (VLe.refl _) .nil))))))))))) (.nil), Owns.app (.cons rfl (.cons rfl (.cons rfl (.cons rfl (.cons rfl (.cons rfl (.cons rfl (.cons rfl (.cons rfl .nil))))))))) (.cons (congrArg (fun z : List Rat => some (Blk.row b50 h.st T.Rat 3 (z.map dQ))) (stR_keep ht0)) .nil)⟩
     rintro ⟨⟩ hφ
     refine AW.seq (AW.sg hE rfl (mvD rfl (mvD rfl (lnL sl.ints rfl rfl (sub_i64 rfl rfl (by omega) (c_eql rfl rfl rfl (OL.nil ?_)))))))
     refine AW.cond rfl (fun hl => ?_) (fun hl => ?_)
     ·have hl : t + 1 = w.length := by have := of_decide_eq_true hl; omega
      refine AW.seq (AW.dg 1 [0,1,2,3,4,5,6,7,8,9,10,11] order_free hE rfl (by kernel_rfl) (OI.of_OL (os := [_,_,_,_,_,_,_,_,_,_,_,_]) rfl ?_))
      refine faP fd.Counts_2 rfl rfl (ldPC ce.Rats rfl rfl rfl (mvD rfl (mvD rfl (mvD rfl (ixLn sl.Ratss [] rfl rfl (by rw [hpl ()]; exact ht) rfl rfl (ldRC ce.Rats rfl ?_))))))
      rw [hpg]
      refine mvD rfl (ixLn sl.Rats 0 rfl rfl (by rw [postF_len]; exact hi) rfl rfl (ldRA ag.Rat rfl (vs := [_,_,_]) rfl (nb9 rfl) ?_))
      rw [hpi]
      refine ixOn sl.Rats rfl rfl hi (stE sz.Rat rfl vd_q rfl rfl (by rw [List.length_map, heR ()]; exact hi) (es2 := (enR h w t (i + 1)).map dQ) (by rw [← enR_set hi hl, List.map_set]) (OL.nil (AW.exit ?_)))
      first | (refine AW.back 2001 2067 i rsM1 rfl rfl rfl (by rw [hlM ()]; exact hi) (show h.st = ((mixM h w t i j).map dQ).length by rw [List.length_map, mixM_len]) rfl ?_; obtain rfl : j = h.st := (by omega)) | skip
      refine AW.rg hE rfl (mvD rfl (add_i64 rfl rfl (by omega) (asD rfl (OL.nil ?_))))
      exact AW.again (x := (i, rsM1, rsS1)) (i + 1, rsM1, (rsS1.set i (bi, (showRow h w (t + 1) i).map dQ))) (by (simp only []; omega)) ⟨⟨by omega, by rw [hrM1, show min (t + 1) (w.length - 1) = min t (w.length - 1) by omega]; exact rowsT_same, by rw [List.map_set, hrS1]; exact rowsT_set (by omega)⟩, Knows.app (.cons (VLe.refl _) (.cons (VLe.refl _) (.cons (VLe.refl _) (.cons (VLe.refl _) (.cons (VLe.refl _) (.cons (VLe.refl _) (.cons (VLe.refl _) (.cons (VLe.refl _) (.cons (VLe.refl _) (.cons (VLe.refl _) .nil)))))))))) (.cons (VLe.refl _) .nil), Owns.app (.cons rfl (.cons rfl (.cons rfl (.cons rfl .nil)))) (.cons rfl (.cons rfl (.cons rfl (.cons rfl (.cons (congrArg (fun z => some (Blk.row p2 c2 T.Rats 1 z)) (heads_set hbi (hel1 ()) (hel2 ())).symm) (.cons rfl .nil))))))⟩
     ·have hl : t + 1 < w.length := by have := of_decide_eq_false hl; omega
      have hxn := k.symX (t := t + 1) hl
      have hcg := colsB_get (h := h) (d := w.length) (show t + 1 < w.length by omega) (by omega)
      have hfg : ((List.range w.length).map (fwdF h w)).getD t [] = fwdF h w t := map_getD_range _ _ (by omega)
      refine AW.skip (AW.seq ?_)
      obtain ⟨bj, hbj⟩ := snd_get hrM1 (rowsT_get (h := h) (f := (moveRow h w)) hi)
      rw [show min t (w.length - 1) = t by omega] at hbj
      have hml1 : Unit → ((moveRow h w t i).map dQ).length = h.st := fun _ => by rw [List.length_map, moveRow_len]
      have hml2 : Unit → ((mixM h w t i h.st).map dQ).length = h.st := fun _ => by rw [List.length_map, mixM_len]
      refine AW.takeN 2001 2067 i h.st rfl rfl hbj (hml1 ()) ?_
      have hmel : (rsM1.map hdP)[i]? = some (hdP (bj, (moveRow h w t i).map dQ)) := by rw [List.getElem?_map, hbj]; rfl
      refine AW.rg hE rfl (asD rfl (OL.nil (AW.block ?_)))
      refine AW.whileK (α := Nat) [(1, _), (2, _), (4, _), (5, _), (6, _), (8, _), (10, _), (12, _), (14, _), (16, _), (17, _)] [(2, _), (4, _), (12, _), (14, _), (50, _), (53, _), (67, _), (74, _)] (fun j => [(18, .d (dI j))]) (fun j => [(2001, .row bj h.st T.Rat 3 ((mixM h w t i j).map dQ)), (2067, .pool T.Rat 3 (rsM1.set i (bj, []))), (2074, .pool T.Rat 3 (rsS1.set i (bi, (showRow h w (t + 1) i).map dQ)))]) (fun j => j ≤ h.st) (fun j => h.st - j) 0 (.cons (knD rfl) (.cons (knP rfl) (.cons (knP rfl) (.cons (knD rfl) (.cons (knD rfl) (.cons (knD rfl) (.cons (knD rfl) (.cons (knP rfl) (.cons (knP rfl) (.cons (knD rfl) (.cons (knD rfl) .nil))))))))))) (.cons (owB rfl) (.cons (owB rfl) (.cons (owB rfl) (.cons (owB rfl) (.cons (owR rfl) (.cons (owR rfl) (.cons (owR rfl) (.cons (owR rfl) .nil)))))))) ⟨Nat.zero_le _, .cons (VLe.refl _) .nil, .cons (by rw [mixM_zero]; rfl) (.cons rfl (.cons rfl .nil))⟩ ?_
      intro j h3
      have h3 : j ≤ h.st := h3
      refine AW.seq (AW.sg hE rfl (mvD rfl (faP fd.Hidden_1 rfl rfl (ldPC ce.int rfl rfl rfl (c_lss rfl rfl rfl (OL.nil (AW.cond rfl (fun h152 => ?_) (fun h152 => ?_))))))))
      ·try simp only [dx9] at h152
       refine AW.skip (AW.seq (AW.block (AW.seq ?_)))
       have hj : j < h.st := by omega
       have zx1 : sz ((fwdF h w t).getD i 0 * (h.trans.getD i []).getD j 0) ≤ 68719476736 := xz.s.preM t i j ht
       have zx2 : sz ((h.emit.getD j []).getD (symX w (t + 1)) 0 * (bwdF h w (w.length - 1 - (t + 1))).getD j 0) ≤ 68719476736 := xz.emb (w.length - 1 - (t + 1)) j (symX w (t + 1)) (by omega)
       have zx3 : sz ((fwdF h w t).getD i 0 * (h.trans.getD i []).getD j 0 * ((h.emit.getD j []).getD (symX w (t + 1)) 0 * (bwdF h w (w.length - 1 - (t + 1))).getD j 0)) ≤ 68719476736 := xz.xiM t i j hl
       have za := xz.s.fwd t ht i
       have zb := xz.bwd (w.length - 1 - (t + 1)) j (by omega)
       have zt : sz ((h.trans.getD i []).getD j 0) ≤ 68719476736 := xz.s.tr i j
       have ze : sz ((h.emit.getD j []).getD (symX w (t + 1)) 0) ≤ 68719476736 := xz.s.em j (symX w (t + 1))
       have zm := xz.move t i j ht
       have zxi : sz (xiQ h w t i j) ≤ 68719476736 := xz.xi t i j hl
       refine AW.dg 1 [0,1,2,3,4,5,6,7,8,9,10,11,12,13,14,15,16,17,18,19,20,21,22,23,24,25,26,27,28,29,30,31,32,33,34,35,36,37,38,39,40] order_free hE rfl (by kernel_rfl) (OI.of_OL (os := [_,_,_,_,_,_,_,_,_,_,_,_,_,_,_,_,_,_,_,_,_,_,_,_,_,_,_,_,_,_,_,_,_,_,_,_,_,_,_,_,_]) rfl ?_)
       refine mvD rfl (mvD rfl (ixLn sl.Ratss [] rfl rfl (by rw [List.length_map, List.length_range]; exact ht) rfl rfl (ldRC ce.Rats rfl ?_)))
       rw [hfg]
       refine mvD rfl (ixLn sl.Rats 0 rfl rfl (by rw [fwdF_len]; exact hi) rfl rfl (ldRA ag.Rat rfl (vs := [_,_,_]) rfl (nb9 rfl) (faP fd.Hidden_4 rfl rfl (ldPC ce.Ratss rfl rfl rfl (mvD rfl (ixLn sl.Ratss [] rfl rfl (by rw [f.trans]; exact hi) rfl rfl (ldRC ce.Rats rfl ?_)))))))
       refine mvD rfl (ixLn sl.Rats 0 rfl rfl (by rw [f.trow i hi]; exact hj) rfl rfl (ldRA ag.Rat rfl (vs := [_,_,_]) rfl (nb9 rfl) (clv rfl (.cons (VLe.refl _) (.cons (VLe.refl _) (.nil))) (ref_MulQ (x := (fwdF h w t).getD i 0) (y := (h.trans.getD i []).getD j 0) za zt) (faP fd.Hidden_6 rfl rfl (ldPC ce.Ratss rfl rfl rfl (mvD rfl (ixLn sl.Ratss [] rfl rfl (by rw [f.emit]; exact hj) rfl rfl ?_)))))))
       refine ldRC ce.Rats rfl (mvD rfl (mvD rfl (bo rfl rfl (bin_add (c := ((t + 1 : Nat) : Int)) (by omega) (wrap_i64 (by omega))) (ixLn sl.ints 0 rfl rfl hl rfl rfl (ldRC ce.int rfl ?_)))))
       rw [hxn.2]
       refine bo rfl rfl (bin_sub (c := (symX w (t + 1) : Int)) (by omega) (wrap_i64 (by omega))) (ixLn sl.Rats 0 rfl rfl (by rw [f.erow j hj]; exact hxn.1) rfl rfl (ldRA ag.Rat rfl (vs := [_,_,_]) rfl (nb9 rfl) (mvD rfl (mvD rfl (bo rfl rfl (bin_add (c := ((t + 1 : Nat) : Int)) (by omega) (wrap_i64 (by omega))) (ixLn sl.Ratss [] rfl rfl (by rw [colsB_len]; exact hl) rfl rfl (ldRC ce.Rats rfl ?_)))))))
       rw [hcg]
       refine mvD rfl (ixLn sl.Rats 0 rfl rfl (by rw [bwdF_len]; exact hj) rfl rfl (ldRA ag.Rat rfl (vs := [_,_,_]) rfl (nb9 rfl) (clv rfl (.cons (VLe.refl _) (.cons (VLe.refl _) (.nil))) (ref_MulQ (x := (h.emit.getD j []).getD (symX w (t + 1)) 0) (y := (bwdF h w (w.length - 1 - (t + 1))).getD j 0) ze zb) (clv rfl (.cons (VLe.refl _) (.cons (VLe.refl _) (.nil))) (ref_MulQ (x := (fwdF h w t).getD i 0 * (h.trans.getD i []).getD j 0) (y := (h.emit.getD j []).getD (symX w (t + 1)) 0 * (bwdF h w (w.length - 1 - (t + 1))).getD j 0) zx1 zx2) (al z.Rat rfl fun b19 => (sto sz.Rat rfl rfl rfl rfl rfl (nb9 rfl) (cells2 := [_,_,_]) rfl (OL.nil ?_)))))))
       refine AW.sg hE rfl (ldPA ag.Rat rfl rfl (vs := [_,_,_]) rfl (nb9 rfl) (ldPA ag.Rat rfl rfl (vs := [_,_,_]) rfl (nb9 rfl) (clv rfl (.cons (VLe.refl _) (.cons (VLe.refl _) (.nil))) (ref_DivQ (x := (fwdF h w t).getD i 0 * (h.trans.getD i []).getD j 0 * ((h.emit.getD j []).getD (symX w (t + 1)) 0 * (bwdF h w (w.length - 1 - (t + 1))).getD j 0)) (y := likF h w) zx3 zl hz) ?_)))
       rw [show (fwdF h w t).getD i 0 * (h.trans.getD i []).getD j 0 * ((h.emit.getD j []).getD (symX w (t + 1)) 0 * (bwdF h w (w.length - 1 - (t + 1))).getD j 0) / likF h w = xiQ h w t i j from rfl]
       refine mvT rfl (ex rfl rfl (ex rfl rfl (sto sz.Rat rfl rfl rfl rfl rfl (nb9 rfl) (cells2 := [_,_,_]) rfl (OL.nil (AW.dg 1 [0,1,2,3,4,5,6,7,8,9,10,11,12,13,14,15,16,17] order_free hE rfl (by kernel_rfl) (OI.of_OL (os := [_,_,_,_,_,_,_,_,_,_,_,_,_,_,_,_,_,_]) rfl ?_))))))
       refine faP fd.Counts_1 rfl rfl (ldPC ce.Ratss rfl rfl rfl (mvD rfl (ixOn sl.Ratss rfl rfl hi (ldLe (.rowC (by decide) rfl rfl hmel ce.Rats rfl) (vle_hdP 2001 (hml1 ())) (mvD rfl (faP fd.Counts_1 rfl rfl (ldPC ce.Ratss rfl rfl rfl ?_)))))))
       refine mvD rfl (ixOn sl.Ratss rfl rfl hi (ldLe (.rowC (by decide) rfl rfl hmel ce.Rats rfl) (vle_hdP 2001 (hml1 ())) (mvD rfl (ixOn sl.Rats rfl rfl hj (ldEAL ag.Rat 0 (by decide) rfl rfl (by rw [mixM_len]; exact hj) (vs := [_,_,_]) rfl (nb9 rfl) ?_)))))
       rw [mixM_get hj]
       refine ldPA ag.Rat rfl rfl (vs := [_,_,_]) rfl (nb9 rfl) (clv rfl (.cons (VLe.refl _) (.cons (VLe.refl _) (.nil))) (ref_AddQ (x := moveQ h w t i j) (y := xiQ h w t i j) zm zxi) (ixOn sl.Rats rfl rfl hj (stE sz.Rat rfl vd_q rfl rfl (by rw [List.length_map, mixM_len]; exact hj) (es2 := (mixM h w t i (j + 1)).map dQ) (by rw [← mixM_set hj, List.map_set]) (OL.nil (AW.rg hE rfl (mvD rfl (add_i64 rfl rfl (by omega) ?_)))))))
       refine asD rfl (OL.nil ?_)
       exact AW.again (x := j) (j + 1) (by omega) ⟨by omega, Knows.app (.cons (VLe.refl _) (.cons (VLe.refl _) (.cons (VLe.refl _) (.cons (VLe.refl _) (.cons (VLe.refl _) (.cons (VLe.refl _) (.cons (VLe.refl _) (.cons (VLe.refl _) (.cons (VLe.refl _) (.cons (VLe.refl _) (.cons (VLe.refl _) .nil))))))))))) (.cons (VLe.refl _) .nil), Owns.app (.cons rfl (.cons rfl (.cons rfl (.cons rfl (.cons rfl (.cons rfl (.cons rfl (.cons rfl .nil)))))))) (.cons rfl (.cons rfl (.cons rfl .nil)))⟩
      ·try simp only [dx9] at h152
       refine AW.exit ?_
       first | (refine AW.back 2001 2067 i rsM1 rfl rfl rfl (by rw [hlM ()]; exact hi) (show h.st = ((mixM h w t i j).map dQ).length by rw [List.length_map, mixM_len]) rfl ?_; obtain rfl : j = h.st := (by omega)) | skip
       refine AW.rg hE rfl (mvD rfl (add_i64 rfl rfl (by omega) (asD rfl (OL.nil ?_))))
       exact AW.again (x := (i, rsM1, rsS1)) (i + 1, (rsM1.set i (bj, (mixM h w t i h.st).map dQ)), (rsS1.set i (bi, (showRow h w (t + 1) i).map dQ))) (by (simp only []; omega)) ⟨⟨by omega, by rw [List.map_set, hrM1, show min (t + 1) (w.length - 1) = t + 1 by omega, show min t (w.length - 1) = t by omega, mixM_all]; exact rowsT_set (by omega), by rw [List.map_set, hrS1]; exact rowsT_set (by omega)⟩, Knows.app (.cons (VLe.refl _) (.cons (VLe.refl _) (.cons (VLe.refl _) (.cons (VLe.refl _) (.cons (VLe.refl _) (.cons (VLe.refl _) (.cons (VLe.refl _) (.cons (VLe.refl _) (.cons (VLe.refl _) (.cons (VLe.refl _) .nil)))))))))) (.cons (VLe.refl _) .nil), Owns.app (.cons rfl (.cons rfl (.cons rfl (.cons rfl .nil)))) (.cons rfl (.cons (congrArg (fun z : List Rat => some (Blk.row b53 h.st T.Rat 3 (z.map dQ))) (enR_keep hl)) (.cons (congrArg (fun z => some (Blk.row p1 c1 T.Rats 1 z)) (heads_set hbj (hml1 ()) (hml2 ())).symm) (.cons rfl (.cons (congrArg (fun z => some (Blk.row p2 c2 T.Rats 1 z)) (heads_set hbi (hel1 ()) (hel2 ())).symm) (.cons rfl .nil))))))⟩
    ·try simp only [dx9] at h86
     refine AW.exit (AW.rg hE rfl (mvD rfl (add_i64 rfl rfl (by omega) (asD rfl (OL.nil ?_)))))
     exact AW.again (x := (t, rsM, rsS)) (t + 1, rsM1, rsS1) (by (simp only []; omega)) ⟨⟨by omega, by rw [hrM1, show i = h.st by omega]; exact rowsT_all, by rw [hrS1, show i = h.st by omega]; exact rowsT_all⟩, Knows.app (.cons (VLe.refl _) (.cons (VLe.refl _) (.cons (VLe.refl _) (.cons (VLe.refl _) (.cons (VLe.refl _) (.cons (VLe.refl _) (.cons (VLe.refl _) (.cons (VLe.refl _) (.cons (VLe.refl _) .nil))))))))) (.cons (VLe.refl _) .nil), Owns.app (.cons rfl (.cons rfl (.cons rfl (.cons rfl .nil)))) (.cons (congrArg (fun z : List Rat => some (Blk.row b50 h.st T.Rat 3 (z.map dQ))) ((congrArg (stR h w t) (show i = h.st by omega)).trans stR_next)) (.cons (congrArg (fun z : List Rat => some (Blk.row b53 h.st T.Rat 3 (z.map dQ))) ((congrArg (enR h w t) (show i = h.st by omega)).trans (enR_next (show t < w.length by omega)))) (.cons rfl (.cons rfl (.cons rfl (.cons rfl .nil))))))⟩
   ·try simp only [dx9] at h80
    refine AW.exit (AW.seq ?_)
    obtain rfl : t = w.length := by omega
    refine AW.freezePool 67 2067 rfl rfl (by decide) (AW.freezePool 74 2074 rfl rfl (by decide) ?_)
    refine AW.rg hE rfl (ldPA ag.Counts rfl rfl (vs := [_,_,_,_]) rfl (nb9 rfl) (sto sz.Counts rfl rfl rfl rfl rfl (nb9 rfl) (cells2 := [_,_,_,_]) rfl (asD rfl (OL.nil ?_))))
    exact AW.ret (RetQ.r ⟨_, .cellA rfl rfl ag.Counts (nb9 rfl) (.tmp rfl .nil), _, .cons (.ag (.cons (RO.row rfl (by rw [List.length_map, stR_len]) (by rw [stR_end, exS, if_neg hz])) (.cons (RO.row rfl (by rw [List.length_map, snd_len hrM, rowsT_len]) (by rw [exM, if_neg hz, show (fun q : Nat × List D => D.sl q.2) = D.sl ∘ Prod.snd from rfl, ← List.map_map, hrM, rowsT_sl, show min w.length (w.length - 1) = w.length - 1 by omega])) (.cons (RO.row rfl (by rw [List.length_map, enR_len]) (by rw [enR_end, exE, if_neg hz])) (.cons (RO.row rfl (by rw [List.length_map, snd_len hrS, rowsT_len]) (by rw [exO, if_neg hz, show (fun q : Nat × List D => D.sl q.2) = D.sl ∘ Prod.snd from rfl, ← List.map_map, hrS, rowsT_sl])) .nil))))) (.cons (.le (VLe.int (by rw [hpe]))) .nil), rfl⟩)
end Go.Proofs.YtjghehkgmanmbaaGreat

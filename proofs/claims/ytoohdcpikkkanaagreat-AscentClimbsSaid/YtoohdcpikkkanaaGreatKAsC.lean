/-
  Walks for chapter 39, part 3: a row is rounded to a grid (printed by mk2.py).
-/
import Derived.Test.YtoohdcpikkkanaaGreatKAsB
import Derived.Test.YtoohdcpikkkanaaGreatKAlg31
set_option linter.unusedVariables false
set_option linter.unusedSimpArgs false
namespace Go.Proofs.YtoohdcpikkkanaaGreat
open Go Go.AL
theorem natQ (n : Nat) : ((n : Int) : Rat) / ((1 : Int) : Rat) = (n : Rat) := by
 rw [show ((1 : Int) : Rat) = 1 from rfl, show ((n : Int) : Rat) = (n : Rat) from rfl, Rat.div_def, show (1 : Rat)⁻¹ = 1 by decide +kernel, Rat.mul_one]
theorem rational_SubQ {x y : Rat} (hx : sz x ≤ 68719476736) (hy : sz y ≤ 68719476736) : FSpec P F.rational_Sub [vQ x, vQ y] (vQ (x - y)) := by
 have h := rational_Sub (x := ofQ x) (y := ofQ y) (ofQ_ok (by omega)) (ofQ_ok (by omega))
 rw [q_ofQ, q_ofQ] at h; exact h
theorem rational_MakeN {n : Nat} (hn : n ≤ 9223372036854775807) : FSpec P F.rational_Make [.d (dI n), .d (dI 1)] (.tup [vQ (n : Rat), .d (dI 0)]) := by
 have h := rational_Make (n := (n : Int)) (d := 1) ⟨by omega, by omega⟩ (by decide) (by decide)
 rw [natQ] at h; exact h
def ownR1 : Nat → Option Nat
 | 18 => some 0
 | 19 => some 1
 | 20 => some 2
 | 21 => some 3
 | 22 => some 4
 | 23 => some 5
 | 24 => some 6
 | 25 => some 7
 | 26 => some 8
 | 6 => some 9
 | 5 => some 10
 | 7 => some 12
 | _ => none
theorem ownR1_inj {t i : Nat} (h : ownR1 t = some i) : t = [18, 19, 20, 21, 22, 23, 24, 25, 26, 6, 5, 0, 7].getD i 0 := by
 unfold ownR1 at h
 split at h <;> first | (cases h; rfl) | cases h
noncomputable def valR1 (l : List Rat) (n : Nat) (t : Nat) (β : Nat → Nat × Nat) : V :=
 match t with
 | 18 | 21 | 24 => .d (dQs l)
 | 19 | 22 | 25 => .d (dI n)
 | 20 | 5 => .osl 20 (β 20).1 n n
 | 23 => .osl 23 (β 23).1 n n
 | 26 | 7 => .osl 26 (β 26).1 n n
 | 6 => .ptr 6 (β 6).1 0
 | _ => .junk
noncomputable abbrev telR1 (l : List Rat) (n : Nat) : List Tell := [⟨6, 11, fun β => .box (β 6).1 T.Rats [.osl 23 (β 23).1 n n]⟩, ⟨6, 9, fun β => .box (β 6).1 T.Rats [.mt]⟩, ⟨20, 2, fun β => .row (β 20).1 n T.int 1 ((List.replicate n 0).map dN)⟩, ⟨23, 5, fun β => .row (β 23).1 n T.Rat 3 ((List.replicate n 0).map dQ)⟩, ⟨26, 8, fun β => .row (β 26).1 n T.int 1 ((List.replicate n 0).map dN)⟩]
theorem casR1 {p : Nat → Prop} (h0 : p 0) (h1 : p 1) (h2 : p 2) (h3 : p 3) (h4 : p 4) (h5 : p 5) (h6 : p 6) (h7 : p 7) (h8 : p 8) (h9 : p 9) (h10 : p 10) (h11 : p 11) : ∀ i, i < 12 → p i := fun i hi => by
 have : i = 0 ∨ i = 1 ∨ i = 2 ∨ i = 3 ∨ i = 4 ∨ i = 5 ∨ i = 6 ∨ i = 7 ∨ i = 8 ∨ i = 9 ∨ i = 10 ∨ i = 11 := by omega
 rcases this with rfl | rfl | rfl | rfl | rfl | rfl | rfl | rfl | rfl | rfl | rfl | rfl <;> assumption
theorem ascent_whole {n : Nat} (hn : n ≤ 9223372036854775807) : FSpec P F.ascent_whole [.d (dI n)] (vQ (n : Rat)) := by
 refine FSpec.intro fn.ascent_whole (by rfl) (by rfl) (nb9 (by rfl)) fun E hE => (AW.sg hE rfl (al z.Rat rfl fun b2 => (OL.nil (AW.sg hE rfl (mvD rfl (clv rfl (.cons (VLe.refl _) (.cons (VLe.refl _) (.nil))) (rational_MakeN hn) (mvT rfl ?_)))))))
 refine ex rfl rfl (ex rfl rfl (al z.Rat rfl fun b3 => (sto sz.Rat rfl rfl rfl rfl rfl (nb9 rfl) (cells2 := [_,_,_]) rfl (asD rfl (OL.nil (AW.sg hE rfl (ldPA ag.Rat rfl rfl (vs := [_,_,_]) rfl (nb9 rfl) ?_)))))))
 exact sto sz.Rat rfl rfl rfl rfl rfl (nb9 rfl) (cells2 := [_,_,_]) rfl (OL.nil (AW.ret (RetQ.r ⟨_, .cellA rfl rfl ag.Rat (nb9 rfl) .nil, .ag (.cons (.le (VLe.refl _)) (.cons (.le (VLe.refl _)) (.cons (.le (VLe.refl _)) .nil)))⟩)))
theorem ascent_over {x y : Rat} (hx : sz x ≤ 68719476736) (hy : sz y ≤ 68719476736) (h0 : y ≠ 0) : FSpec P F.ascent_over [vQ x, vQ y] (vQ (x / y)) := by
 refine FSpec.intro fn.ascent_over (by rfl) (by rfl) (nb9 (by rfl)) fun E hE => (AW.sg hE rfl (bxA rfl rfl fun b2 => (bxA rfl rfl fun b3 => (al z.Rat rfl fun b4 => (OL.nil (AW.sg hE rfl (ldPA ag.Rat rfl rfl (vs := [_,_,_]) rfl (nb9 rfl) ?_)))))))
 refine ldPA ag.Rat rfl rfl (vs := [_,_,_]) rfl (nb9 rfl) (clv rfl (.cons (VLe.refl _) (.cons (VLe.refl _) (.nil))) (rational_DivQ hx hy h0) (mvT rfl (ex rfl rfl (ex rfl rfl (al z.Rat rfl fun b5 => (sto sz.Rat rfl rfl rfl rfl rfl (nb9 rfl) (cells2 := [_,_,_]) rfl (asD rfl ?_)))))))
 exact OL.nil (AW.sg hE rfl (ldPA ag.Rat rfl rfl (vs := [_,_,_]) rfl (nb9 rfl) (sto sz.Rat rfl rfl rfl rfl rfl (nb9 rfl) (cells2 := [_,_,_]) rfl (OL.nil (AW.ret (RetQ.r ⟨_, .cellA rfl rfl ag.Rat (nb9 rfl) .nil, .ag (.cons (.le (VLe.refl _)) (.cons (.le (VLe.refl _)) (.cons (.le (VLe.refl _)) .nil)))⟩))))))
set_option maxRecDepth 6000 in
set_option maxHeartbeats 3200000 in
theorem ascent_rounded {l : List Rat} {C g : Nat} (hz : Small C l) (hC : 1 ≤ C ∧ C ≤ 1048576) (hS : Shares l) (hs1 : sumQ l = 1) (hl : 1 ≤ l.length ∧ l.length ≤ 12) (hg : 1 ≤ g ∧ g ≤ 1048576) : FSpec P F.ascent_rounded [.d (dQs l), .d (dI g)] (.d (dQs (roundF l g))) := by
 have hzg := sz_nat (n := g) (by omega)
 have hul := unF_len l g
 have hll := loF_len l g
 have hol := orF_len l g
 have hup := upF_len l g
 have hrl := roundF_len l g
 have hml := mi_le (g := g) hS hs1
 have hus := un_le (g := g) hS hs1
 have hgp := grid_pos hg.1
 refine FSpec.intro fn.ascent_rounded (by rfl) (by rfl) (nb9 (by rfl)) fun E hE => (AW.sg hE rfl (asM rfl (OL.nil (AW.seq (AW.region_planT (valR1 l l.length) ownR1 (telR1 l l.length) 12 order_free (by rw [hE]; rfl) (by rfl) (by kernel_rfl) (by kernel_rfl) ?_ ?_)))))
 ·refine casR1 ?_ ?_ ?_ ?_ ?_ ?_ ?_ ?_ ?_ ?_ ?_ ?_
  ·exact fun β L c9 => ⟨_, rfl, .inl (OG.of_OL (mvD (y := dQs l) ((pG_old rfl).trans rfl) ⟨β, pG_put (d := 18) (i := 0) rfl (fun t ht => ownR1_inj ht) (lt_size 13 c9.size rfl (by decide)) (mfT_same (lt_size 13 c9.size rfl (by decide)) (by rfl))⟩))⟩
  ·exact fun β L c9 => ⟨_, rfl, .inl (OG.of_OL (lnL (l := l) (f := dQ) sl.Rats rfl (pG_new rfl (come_dep (j := 0) c9 (by kernel_rfl))) ⟨β, pG_put (d := 19) (i := 1) rfl (fun t ht => ownR1_inj ht) (lt_size 13 c9.size rfl (by decide)) (mfT_same (lt_size 13 c9.size rfl (by decide)) (by rfl))⟩))⟩
  ·exact fun β L c9 => ⟨_, rfl, .inl (OG.of_OL (mkL dN 0 sl.ints z.int (.cons (VC.d _) .nil) (n := l.length) (cp := l.length) (k := .i64) (k2 := .i64) (pG_new rfl (come_dep (j := 1) c9 (by kernel_rfl))) (pG_new rfl (come_dep (j := 1) c9 (by kernel_rfl))) (Nat.le_refl _) (by omega) (by omega) (pG_M (mfT_skip (show (20:Nat) ≠ 6 by decide) (mfT_skip (show (20:Nat) ≠ 6 by decide) (mfT_no (by exact c9.no) (mfT_skip (show (20:Nat) ≠ 23 by decide) (mfT_skip (show (20:Nat) ≠ 26 by decide) rfl)))))) fun b8 => ⟨upd β 20 (b8, 0), pG_set (d := 20) (i := 2) (x := (b8, 0)) rfl (fun t ht => ownR1_inj ht) (lt_size 13 c9.size rfl (by decide)) rfl (mfT_pass (lt_size 13 c9.size rfl (by decide)) (show (11:Nat) ≠ 2 by decide) (.inl (show (6:Nat) ≠ 20 by decide)) (by exact fun _ => rfl) (mfT_pass (lt_size 13 c9.size rfl (by decide)) (show (9:Nat) ≠ 2 by decide) (.inl (show (6:Nat) ≠ 20 by decide)) (by exact fun _ => rfl) (mfT_here (lt_size 13 c9.size rfl (by decide)) rfl rfl rfl c9.no (by rfl) (List.forall_mem_cons.2 ⟨(by exact fun _ _ => rfl), (List.forall_mem_cons.2 ⟨(by exact fun _ _ => rfl), (fun y hy => absurd hy List.not_mem_nil)⟩)⟩)))) (fun t j ho hl => by unfold ownR1 at ho; split at ho <;> cases ho <;> first | rfl | (rw [c9.no] at hl; cases hl) | exact come_notT c9 (by kernel_rfl) hl)⟩))⟩
  ·exact fun β L c9 => ⟨_, rfl, .inl (OG.of_OL (mvD (y := dQs l) ((pG_old rfl).trans rfl) ⟨β, pG_put (d := 21) (i := 3) rfl (fun t ht => ownR1_inj ht) (lt_size 13 c9.size rfl (by decide)) (mfT_same (lt_size 13 c9.size rfl (by decide)) (by rfl))⟩))⟩
  ·exact fun β L c9 => ⟨_, rfl, .inl (OG.of_OL (lnL (l := l) (f := dQ) sl.Rats rfl (pG_new rfl (come_dep (j := 3) c9 (by kernel_rfl))) ⟨β, pG_put (d := 22) (i := 4) rfl (fun t ht => ownR1_inj ht) (lt_size 13 c9.size rfl (by decide)) (mfT_same (lt_size 13 c9.size rfl (by decide)) (by rfl))⟩))⟩
  ·exact fun β L c9 => ⟨_, rfl, .inl (OG.of_OL (mkL dQ 0 sl.Rats z.Rat vcs_q0 (n := l.length) (cp := l.length) (k := .i64) (k2 := .i64) (pG_new rfl (come_dep (j := 4) c9 (by kernel_rfl))) (pG_new rfl (come_dep (j := 4) c9 (by kernel_rfl))) (Nat.le_refl _) (by omega) (by omega) (pG_M (mfT_skip (show (23:Nat) ≠ 6 by decide) (mfT_skip (show (23:Nat) ≠ 6 by decide) (mfT_skip (show (23:Nat) ≠ 20 by decide) (mfT_no (by exact c9.no) (mfT_skip (show (23:Nat) ≠ 26 by decide) rfl)))))) fun b8 => ⟨upd β 23 (b8, 0), pG_set (d := 23) (i := 5) (x := (b8, 0)) rfl (fun t ht => ownR1_inj ht) (lt_size 13 c9.size rfl (by decide)) rfl (mfT_pass (lt_size 13 c9.size rfl (by decide)) (show (11:Nat) ≠ 5 by decide) (.inl (show (6:Nat) ≠ 23 by decide)) (by exact fun e => come_notT c9 (by kernel_rfl) e) (mfT_pass (lt_size 13 c9.size rfl (by decide)) (show (9:Nat) ≠ 5 by decide) (.inl (show (6:Nat) ≠ 23 by decide)) (by exact fun _ => rfl) (mfT_pass (lt_size 13 c9.size rfl (by decide)) (show (2:Nat) ≠ 5 by decide) (.inl (show (20:Nat) ≠ 23 by decide)) (by exact fun _ => rfl) (mfT_here (lt_size 13 c9.size rfl (by decide)) rfl rfl rfl c9.no (by rfl) (List.forall_mem_cons.2 ⟨(by exact fun _ _ => rfl), (fun y hy => absurd hy List.not_mem_nil)⟩))))) (fun t j ho hl => by unfold ownR1 at ho; split at ho <;> cases ho <;> first | rfl | (rw [c9.no] at hl; cases hl) | exact come_notT c9 (by kernel_rfl) hl)⟩))⟩
  ·exact fun β L c9 => ⟨_, rfl, .inl (OG.of_OL (mvD (y := dQs l) ((pG_old rfl).trans rfl) ⟨β, pG_put (d := 24) (i := 6) rfl (fun t ht => ownR1_inj ht) (lt_size 13 c9.size rfl (by decide)) (mfT_same (lt_size 13 c9.size rfl (by decide)) (by rfl))⟩))⟩
  ·exact fun β L c9 => ⟨_, rfl, .inl (OG.of_OL (lnL (l := l) (f := dQ) sl.Rats rfl (pG_new rfl (come_dep (j := 6) c9 (by kernel_rfl))) ⟨β, pG_put (d := 25) (i := 7) rfl (fun t ht => ownR1_inj ht) (lt_size 13 c9.size rfl (by decide)) (mfT_same (lt_size 13 c9.size rfl (by decide)) (by rfl))⟩))⟩
  ·exact fun β L c9 => ⟨_, rfl, .inl (OG.of_OL (mkL dN 0 sl.ints z.int (.cons (VC.d _) .nil) (n := l.length) (cp := l.length) (k := .i64) (k2 := .i64) (pG_new rfl (come_dep (j := 7) c9 (by kernel_rfl))) (pG_new rfl (come_dep (j := 7) c9 (by kernel_rfl))) (Nat.le_refl _) (by omega) (by omega) (pG_M (mfT_skip (show (26:Nat) ≠ 6 by decide) (mfT_skip (show (26:Nat) ≠ 6 by decide) (mfT_skip (show (26:Nat) ≠ 20 by decide) (mfT_skip (show (26:Nat) ≠ 23 by decide) (mfT_no (by exact c9.no) rfl)))))) fun b8 => ⟨upd β 26 (b8, 0), pG_set (d := 26) (i := 8) (x := (b8, 0)) rfl (fun t ht => ownR1_inj ht) (lt_size 13 c9.size rfl (by decide)) rfl (mfT_pass (lt_size 13 c9.size rfl (by decide)) (show (11:Nat) ≠ 8 by decide) (.inl (show (6:Nat) ≠ 26 by decide)) (by exact fun _ => rfl) (mfT_pass (lt_size 13 c9.size rfl (by decide)) (show (9:Nat) ≠ 8 by decide) (.inl (show (6:Nat) ≠ 26 by decide)) (by exact fun _ => rfl) (mfT_pass (lt_size 13 c9.size rfl (by decide)) (show (2:Nat) ≠ 8 by decide) (.inl (show (20:Nat) ≠ 26 by decide)) (by exact fun _ => rfl) (mfT_pass (lt_size 13 c9.size rfl (by decide)) (show (5:Nat) ≠ 8 by decide) (.inl (show (23:Nat) ≠ 26 by decide)) (by exact fun _ => rfl) (mfT_here (lt_size 13 c9.size rfl (by decide)) rfl rfl rfl c9.no (by rfl) (fun y hy => absurd hy List.not_mem_nil)))))) (fun t j ho hl => by unfold ownR1 at ho; split at ho <;> cases ho <;> first | rfl | (rw [c9.no] at hl; cases hl) | exact come_notT c9 (by kernel_rfl) hl)⟩))⟩
  ·exact fun β L c9 => ⟨_, rfl, .inl (OG.of_OL (al z.Rats (pG_M (mfT_no (by exact come_lateT c9 (by kernel_rfl)) (mfT_no (by exact c9.no) (mfT_skip (show (6:Nat) ≠ 20 by decide) (mfT_skip (show (6:Nat) ≠ 23 by decide) (mfT_skip (show (6:Nat) ≠ 26 by decide) rfl)))))) fun b8 => ⟨upd β 6 (b8, 0), pG_set (d := 6) (i := 9) (x := (b8, 0)) rfl (fun t ht => ownR1_inj ht) (lt_size 13 c9.size rfl (by decide)) rfl (mfT_pass (lt_size 13 c9.size rfl (by decide)) (show (11:Nat) ≠ 9 by decide) (.inr (come_lateT c9 (by kernel_rfl))) (by exact fun e => come_notT c9 (by kernel_rfl) e) (mfT_here (lt_size 13 c9.size rfl (by decide)) rfl rfl rfl c9.no (by rfl) (List.forall_mem_cons.2 ⟨(by exact fun _ _ => rfl), (List.forall_mem_cons.2 ⟨(by exact fun _ _ => rfl), (List.forall_mem_cons.2 ⟨(by exact fun _ _ => rfl), (fun y hy => absurd hy List.not_mem_nil)⟩)⟩)⟩))) (fun t j ho hl => by unfold ownR1 at ho; split at ho <;> cases ho <;> first | rfl | (rw [c9.no] at hl; cases hl) | exact come_notT c9 (by kernel_rfl) hl)⟩))⟩
  ·exact fun β L c9 => ⟨_, rfl, .inl (OG.of_OL (asO (id := 20) (b := (β 20).1) (n := l.length) (c := l.length) (pG_new rfl (come_dep (j := 2) c9 (by kernel_rfl))) ⟨β, pG_put (d := 5) (i := 10) rfl (fun t ht => ownR1_inj ht) (lt_size 13 c9.size rfl (by decide)) (mfT_same (lt_size 13 c9.size rfl (by decide)) (by rfl))⟩))⟩
  ·exact fun β L c9 => ⟨_, rfl, .inl (OG.of_OL (sto sz.Rats (pG_new rfl (come_dep (j := 9) c9 (by kernel_rfl))) (pG_new rfl (come_dep (j := 5) c9 (by kernel_rfl))) rfl (pG_M (mfT_no (by exact c9.no) (mfT_yes (come_dep (j := 9) c9 (by kernel_rfl)) rfl rfl))) rfl (nb9 rfl) (cells2 := [_]) rfl ⟨β, pG_mod (fun t ht => by unfold ownR1 at ht; split at ht <;> cases ht) (lt_size 13 c9.size rfl (by decide)) (mfT_here (lt_size 13 c9.size rfl (by decide)) rfl rfl rfl c9.no (by rfl) (List.forall_mem_cons.2 ⟨(fun _ hne => absurd rfl hne), (List.forall_mem_cons.2 ⟨(by exact fun _ _ => rfl), (List.forall_mem_cons.2 ⟨(by exact fun _ _ => rfl), (List.forall_mem_cons.2 ⟨(by exact fun _ _ => rfl), (fun y hy => absurd hy List.not_mem_nil)⟩)⟩)⟩)⟩))⟩))⟩
 refine fun β L c9 hA => ⟨_, rfl, .inl (OG.of_OL (asO (id := 26) (b := (β 26).1) (n := l.length) (c := l.length) (pG_new rfl (come_dep (j := 8) c9 (by kernel_rfl))) ?_))⟩
 refine OL.nil ?_
 refine AW.to [(0, .d (dQs l)), (1, .d (dI g)), (4, .mt), (5, .osl 20 (β 20).1 l.length l.length), (6, .ptr 6 (β 6).1 0), (7, .osl 26 (β 26).1 l.length l.length)] [(6, .box (β 6).1 T.Rats [.osl 23 (β 23).1 l.length l.length]), (20, .row (β 20).1 l.length T.int 1 ((List.replicate l.length 0).map dN)), (23, .row (β 23).1 l.length T.Rat 3 ((List.replicate l.length 0).map dQ)), (26, .row (β 26).1 l.length T.int 1 ((List.replicate l.length 0).map dN))] (.cons (vle_of_eq (put_old (by decide) ((pG_old rfl).trans rfl))) (.cons (vle_of_eq (put_old (by decide) ((pG_old rfl).trans rfl))) (.cons (vle_of_eq (put_old (by decide) ((pG_old rfl).trans rfl))) (.cons (vle_of_eq (put_old (by decide) (pG_new rfl (come_dep (j := 10) c9 (by kernel_rfl))))) (.cons (vle_of_eq (put_old (by decide) (pG_new rfl (come_dep (j := 9) c9 (by kernel_rfl))))) (.cons (vle_of_eq put_new') (.nil))))))) (.cons (put_mem (pG_M (mfT_yes (come_dep (j := 11) c9 (by kernel_rfl)) rfl rfl))) (.cons (put_mem (pG_M (mfT_skip (show (20:Nat) ≠ 6 by decide) (mfT_skip (show (20:Nat) ≠ 6 by decide) (mfT_yes (come_dep (j := 2) c9 (by kernel_rfl)) rfl rfl))))) (.cons (put_mem (pG_M (mfT_skip (show (23:Nat) ≠ 6 by decide) (mfT_skip (show (23:Nat) ≠ 6 by decide) (mfT_skip (show (23:Nat) ≠ 20 by decide) (mfT_yes (come_dep (j := 5) c9 (by kernel_rfl)) rfl rfl)))))) (.cons (put_mem (pG_M (mfT_skip (show (26:Nat) ≠ 6 by decide) (mfT_skip (show (26:Nat) ≠ 6 by decide) (mfT_skip (show (26:Nat) ≠ 20 by decide) (mfT_skip (show (26:Nat) ≠ 23 by decide) (mfT_yes (come_dep (j := 8) c9 (by kernel_rfl)) rfl rfl))))))) (.nil))))) ?_
 generalize (β 20).1 = b20
 generalize (β 23).1 = b23
 generalize (β 26).1 = b26
 generalize (β 6).1 = b6
 refine AW.sg hE rfl (mvD rfl (asD rfl (OL.nil (AW.seq (AW.sg hE rfl (mvD rfl (lnL sl.Rats rfl rfl ?_)))))))
 refine mvD rfl (OL.nil (AW.block ?_))
 refine AW.whileK (α := Nat) [(0, _), (1, _), (4, _), (5, _), (6, _), (7, _), (28, _), (29, _)] [(6, _)] (fun i => [(30, .d (dI i)), (8, .d (dI ((g : Int) - (((unF l g).take i).sum : Nat))))]) (fun i => [(20, .row b20 l.length T.int 1 ((mixA (unF l g) 0 l.length i).map dN)), (23, .row b23 l.length T.Rat 3 ((mixA (loF l g) 0 l.length i).map dQ)), (26, .row b26 l.length T.int 1 ((mixA (List.range l.length) 0 l.length i).map dN))]) (fun i => i ≤ l.length) (fun i => l.length - i) 0 (.cons (knD rfl) (.cons (knD rfl) (.cons (knM rfl) (.cons (knO rfl) (.cons (knP rfl) (.cons (knO rfl) (.cons (knD rfl) (.cons (knD rfl) .nil)))))))) (.cons (owB rfl) .nil) ⟨Nat.zero_le _, .cons (VLe.refl _) (.cons (VLe.int (by simp)) .nil), .cons (by rw [mixA_zero]; rfl) (.cons (by rw [mixA_zero]; rfl) (.cons (by rw [mixA_zero]; rfl) .nil))⟩ ?_
 intro i h1
 have h1 : i ≤ l.length := h1
 have hu1 := mixA_len (unF l g) 0 l.length i
 have hu2 := mixA_len (loF l g) 0 l.length i
 have hu3 := mixA_len (List.range l.length) 0 l.length i
 have hst := sum_take_le (unF l g) i
 refine AW.sg hE rfl (c_lss rfl rfl rfl (OL.nil (AW.seq (AW.cond rfl (fun h31 => ?_) (fun h31 => ?_)))))
 ·try simp only [dx9] at h31
  refine AW.skip (AW.seq (AW.block (AW.seq ?_)))
  have zp := hz.get hC.1 i
  have hSp := hS.get i
  have hpg := mul_grid g hSp.1
  have zx := sz_mul (l.getD i 0) (g : Rat)
  have euu := un_get (g := g) (show i < l.length by omega)
  have ell := lo_get (g := g) (show i < l.length by omega)
  have hfu := un_getle (g := g) hS hs1 i
  rw [euu] at hfu
  have hzf := sz_nat (n := flN (l.getD i 0 * (g : Rat))) (by omega)
  refine AW.rg hE rfl (mvD rfl (ixLn sl.Rats 0 rfl rfl (by omega) rfl rfl (ldRA ag.Rat rfl (vs := [_,_,_]) rfl (nb9 rfl) (al z.Rat rfl fun b10 => (asD rfl (sto sz.Rat rfl rfl rfl rfl rfl (nb9 rfl) (cells2 := [_,_,_]) rfl (OL.nil ?_)))))))
  refine AW.seq (AW.dg 1 [0,1,2,3,4,5] order_free hE rfl (by kernel_rfl) (OI.of_OL (os := [_,_,_,_,_,_]) rfl ?_))
  refine ldPA ag.Rat rfl rfl (vs := [_,_,_]) rfl (nb9 rfl) (mvD rfl (clv rfl (.cons (VLe.refl _) (.nil)) (ascent_whole (n := g) (by omega)) (clv rfl (.cons (VLe.refl _) (.cons (VLe.refl _) (.nil))) (rational_MulQ (x := l.getD i 0) (y := (g : Rat)) (by omega) (by omega)) (al z.Rat rfl fun b11 => (sto sz.Rat rfl rfl rfl rfl rfl (nb9 rfl) (cells2 := [_,_,_]) rfl (OL.nil (AW.sg hE rfl ?_)))))))
  refine ldPA ag.Rat rfl rfl (vs := [_,_,_]) rfl (nb9 rfl) (clv rfl (.cons (VLe.refl _) (.cons (VLe.refl _) (.nil))) (rational_DownQ (q := (l.getD i 0 * (g : Rat))) (k := 0) (by omega) (by omega)) ?_)
  rw [down_zero hpg]
  refine al z.Rat rfl fun b12 => (sto sz.Rat rfl rfl rfl rfl rfl (nb9 rfl) (cells2 := [_,_,_]) rfl (OL.nil (AW.sg hE rfl (mvO rfl (mvD rfl (ldPA ag.Rat rfl rfl (vs := [_,_,_]) rfl (nb9 rfl) (clv rfl (.cons (VLe.refl _) (.nil)) (rational_WholeN (n := flN (l.getD i 0 * (g : Rat))) (by omega)) ?_)))))))
  refine mvT rfl (ex rfl rfl (ex rfl rfl (ixOn sl.ints rfl rfl (by omega) (stE sz.int rfl (VC.d _).vd rfl rfl (by rw [List.length_map]; omega) (es2 := (mixA (unF l g) 0 l.length (i + 1)).map dN) (by rw [← mixA_set (show i < l.length by omega) euu]; exact List.map_set.symm) (OL.nil (AW.seq (AW.dg 1 [0,1,2,3,4,5,6,7,8,9,10,11] order_free hE rfl (by kernel_rfl) (OI.of_OL (os := [_,_,_,_,_,_,_,_,_,_,_,_]) rfl ?_))))))))
  refine ldPC ce.Rats rfl rfl rfl (mvD rfl (mvO rfl (mvD rfl (ldPA ag.Rat rfl rfl (vs := [_,_,_]) rfl (nb9 rfl) (ldPA ag.Rat rfl rfl (vs := [_,_,_]) rfl (nb9 rfl) (clv rfl (.cons (VLe.refl _) (.cons (VLe.refl _) (.nil))) (rational_SubQ (x := (l.getD i 0 * (g : Rat))) (y := (flN (l.getD i 0 * (g : Rat)) : Rat)) (by omega) (by omega)) (mvD rfl ?_)))))))
  refine ixOn sl.Rats rfl rfl (by omega) (stE sz.Rat rfl vd_q rfl rfl (by rw [List.length_map]; omega) (es2 := (mixA (loF l g) 0 l.length (i + 1)).map dQ) (by rw [← mixA_set (show i < l.length by omega) ell]; exact List.map_set.symm) (ixOn sl.ints rfl rfl (by omega) ?_))
  refine stE sz.int rfl (VC.d _).vd rfl rfl (by rw [List.length_map]; omega) (es2 := (mixA (List.range l.length) 0 l.length (i + 1)).map dN) (by rw [← mixA_set (x := i) (show i < l.length by omega) (by rw [getD_lt (by rw [List.length_range]; omega), List.getElem_range])]; exact List.map_set.symm) ?_
  refine OL.nil ?_
  have hu4 := mixA_len (unF l g) 0 l.length (i + 1)
  have hst2 := sum_take_le (unF l g) (i + 1)
  have hgi := mixA_get (a := unF l g) (d := 0) (show i < i + 1 by omega) (show i < l.length by omega)
  refine AW.rg hE rfl (mvD rfl (mvO rfl (mvD rfl (ixOn sl.ints rfl rfl (by omega) (ldEL ce.int 0 (by decide) rfl rfl (by omega) rfl ?_)))))
  rw [hgi]
  refine bo rfl rfl (bin_sub (c := (g : Int) - ((((unF l g).take (i + 1)).sum : Nat) : Int)) (by rw [sum_take_succ (show i < (unF l g).length by omega)]; omega) (wrap_i64 (by omega))) (asD rfl (OL.nil (AW.rg hE rfl (add_i64 rfl rfl (by omega) (mvD rfl (OL.nil ?_))))))
  exact AW.again (x := i) (i + 1) (by omega) ⟨by omega, Knows.app (.cons (VLe.refl _) (.cons (VLe.refl _) (.cons (VLe.refl _) (.cons (VLe.refl _) (.cons (VLe.refl _) (.cons (VLe.refl _) (.cons (VLe.refl _) (.cons (VLe.refl _) .nil)))))))) (.cons (VLe.refl _) (.cons (VLe.refl _) .nil)), Owns.app (.cons rfl .nil) (.cons rfl (.cons rfl (.cons rfl .nil)))⟩
 ·try simp only [dx9] at h31
  refine AW.exit (AW.seq ?_)
  obtain rfl : i = l.length := by omega
  have hmi : ((g : Int) - (((unF l g).take l.length).sum : Nat)) = (miF l g : Nat) := by rw [show (unF l g).take l.length = unF l g from List.take_of_length_le (by omega)]; unfold miF; omega
  have hzl := lo_small (g := g) hz (by omega) hS fun x hx => by obtain ⟨k, hk, rfl⟩ := mem_getD hx 0; have := un_getle (g := g) hS hs1 k; omega
  have hsr := sortFunc (o := List.range l.length) (n := l.length) (m := l.length) (f := F.ascent_rounded_1) (b := b26) (cap := .ref [dQs (loF l g)]) (cz := cmpR (loF l g)) (c := befR (loF l g)) (fun x y hx hy => rounded_1 hzl ⟨by omega, by omega⟩ (by omega) (by omega)) (fun x y => cmpR_lt) (List.length_range ..) hl (fun x hx => List.mem_range.1 hx)
  rw [show sortF (befR (loF l g)) (l.length - 1) (List.range l.length) = orF l g from rfl] at hsr
  refine AW.freeze 23 rfl (AW.boxW 6 [.d (dQs (loF l g))] rfl (.cons (frz_osl (by rw [List.length_map]; omega) (by rw [mixA_all hll (Nat.le_refl _)])) .nil) (AW.freezeBox 6 [dQs (loF l g)] rfl (VCs.map_d [dQs (loF l g)]) ?_))
  refine AW.to [(0, .d (dQs l)), (1, .d (dI g)), (4, .mt), (5, .osl 20 b20 l.length l.length), (6, .ref [dQs (loF l g)]), (7, .osl 26 b26 l.length l.length), (8, .d (dI (miF l g)))] [(20, .row b20 l.length T.int 1 ((unF l g).map dN)), (26, .row b26 l.length T.int 1 ((List.range l.length).map dN))] (.cons (VLe.refl _) (.cons (VLe.refl _) (.cons (VLe.refl _) (.cons (VLe.refl _) (.cons (vle_of_eq (show V.frb 6 b6 [dQs (loF l g)] (.ptr 6 b6 0) = .ref [dQs (loF l g)] from frb_self)) (.cons (VLe.refl _) (.cons (VLe.int hmi) .nil))))))) (.cons (by show some (Blk.row b20 l.length T.int 1 ((mixA (unF l g) 0 l.length l.length).map dN)) = _; rw [mixA_all hul (Nat.le_refl _)]) (.cons (by show some (Blk.row b26 l.length T.int 1 ((mixA (List.range l.length) 0 l.length l.length).map dN)) = _; rw [mixA_all (List.length_range ..) (Nat.le_refl _)]) .nil)) ?_
  refine AW.rg hE rfl (mvO rfl (mkF (vs := [_]) rfl ?_))
  refine OL.callM (v := .tup []) (.mk (args' := [.osl 1000 b26 l.length l.length, .fn F.ascent_rounded_1 [.ref [dQs (loF l g)]]]) rfl (.cons vle_osl (.cons (VLe.refl _) .nil)) (mem1_keep (id := 26) (blk := .row b26 l.length T.int 1 ((List.range l.length).map dN)) rfl) mem1_sub (FSpecM.ren1 hsr (.cons vle_osl (.cons (VLe.refl _) .nil)))) ?_
  refine OL.nil (AW.seq (AW.sg hE rfl (mvO rfl (mvD rfl (slO sl.ints rfl rfl (by omega) (lnO sl.ints rfl rfl (mvD rfl ?_)))))))
  refine OL.nil (AW.block ?_)
  refine AW.whileK (α := Nat) [(0, _), (1, _), (4, _), (5, _), (71, _), (72, _)] [(26, _)] (fun k => [(73, .d (dI k))]) (fun k => [(20, .row b20 l.length T.int 1 ((bumpF (unF l g) ((orF l g).take k)).map dN))]) (fun k => k ≤ miF l g) (fun k => miF l g - k) 0 (.cons (knD rfl) (.cons (knD rfl) (.cons (knM rfl) (.cons (knO rfl) (.cons (knO rfl) (.cons (knD rfl) .nil)))))) (.cons (owR rfl) .nil) ⟨Nat.zero_le _, .cons (VLe.refl _) .nil, .cons rfl .nil⟩ ?_
  intro k h2
  have h2 : k ≤ miF l g := h2
  have hbl := bumpF_len ((orF l g).take k) (unF l g)
  refine AW.sg hE rfl (c_lss rfl rfl rfl (OL.nil (AW.seq (AW.cond rfl (fun h74 => ?_) (fun h74 => ?_)))))
  ·try simp only [dx9] at h74
   refine AW.skip (AW.seq (AW.block (AW.seq ?_)))
   have hok := or_lt g hl.1 (getD_mem (show k < (orF l g).length by omega) 0)
   have hbb := bump_le (u := unF l g) (ks := (orF l g).take k) (fun q hq => by rw [hul]; exact or_lt g hl.1 (List.mem_of_mem_take hq)) ((orF l g).getD k 0)
   rw [List.length_take] at hbb
   refine AW.rg hE rfl (ixOn sl.ints rfl rfl (by omega) (ldEL ce.int 0 (by decide) rfl rfl (by omega) rfl (asD rfl (OL.nil (AW.rg hE rfl (mvO rfl (mvD rfl ?_)))))))
   refine ixOn sl.ints rfl rfl (by omega) (ldEL ce.int 0 (by decide) rfl rfl (by omega) rfl (bo rfl rfl (bin_add (c := (((bumpF (unF l g) ((orF l g).take k)).getD ((orF l g).getD k 0) 0 + 1 : Nat) : Int)) (by omega) (wrap_i64 (by omega))) (ixOn sl.ints rfl rfl (by omega) (stE sz.int rfl (VC.d _).vd rfl rfl (by rw [List.length_map]; omega) (es2 := (bumpF (unF l g) ((orF l g).take (k + 1))).map dN) (by rw [take_succ_getD (show k < (orF l g).length by omega) 0, bumpF_snoc]; exact List.map_set.symm) (OL.nil (AW.rg hE rfl (add_i64 rfl rfl (by omega) ?_)))))))
   exact mvD rfl (OL.nil (AW.again (x := k) (k + 1) (by omega) ⟨by omega, Knows.app (.cons (VLe.refl _) (.cons (VLe.refl _) (.cons (VLe.refl _) (.cons (VLe.refl _) (.cons (VLe.refl _) (.cons (VLe.refl _) .nil)))))) (.cons (VLe.refl _) .nil), Owns.app (.cons rfl .nil) (.cons rfl .nil)⟩))
  ·try simp only [dx9] at h74
   refine AW.exit (AW.seq ?_)
   obtain rfl : k = miF l g := by omega
   rw [show (bumpF (unF l g) ((orF l g).take (miF l g))) = upF l g from rfl]
   refine AW.rg hE rfl (mvD rfl (lnL sl.Rats rfl rfl (mkL dQ 0 sl.Rats z.Rat vcs_q0 (n := l.length) (cp := l.length) rfl rfl (Nat.le_refl _) (by omega) (by omega) rfl fun b86 => (asO rfl (OL.nil (AW.seq (AW.sg hE rfl ?_)))))))
   refine mvO rfl (lnO sl.ints rfl rfl (mvD rfl (OL.nil (AW.block ?_))))
   refine AW.whileK (α := Nat) [(1, _), (4, _), (15, _), (87, _), (88, _)] [(20, _), (26, _)] (fun i => [(89, .d (dI i))]) (fun i => [(86, .row b86 l.length T.Rat 3 ((mixA (roundF l g) 0 l.length i).map dQ))]) (fun i => i ≤ l.length) (fun i => l.length - i) 0 (.cons (knD rfl) (.cons (knM rfl) (.cons (knO rfl) (.cons (knO rfl) (.cons (knD rfl) .nil))))) (.cons (owR rfl) (.cons (owR rfl) .nil)) ⟨Nat.zero_le _, .cons (VLe.refl _) .nil, .cons (by rw [mixA_zero]; rfl) .nil⟩ ?_
   intro i h3
   have h3 : i ≤ l.length := h3
   have hrx := mixA_len (roundF l g) 0 l.length i
   refine AW.sg hE rfl (c_lss rfl rfl rfl (OL.nil (AW.seq (AW.cond rfl (fun h90 => ?_) (fun h90 => ?_)))))
   ·try simp only [dx9] at h90
    refine AW.skip (AW.seq (AW.block (AW.seq ?_)))
    have hui := up_le (g := g) hl.1 hS hs1 i
    have hzu := sz_nat (n := (upF l g).getD i 0) (by omega)
    have hri := round_get (g := g) (show i < l.length by omega)
    refine AW.rg hE rfl (mvD rfl (ixOn sl.ints rfl rfl (by omega) (ldEL ce.int 0 (by decide) rfl rfl (by omega) rfl (asD rfl (asD rfl (OL.nil (AW.rg hE rfl ?_)))))))
    refine mvO rfl (mvD rfl (mvD rfl (clv rfl (.cons (VLe.refl _) (.nil)) (ascent_whole (n := (upF l g).getD i 0) (by omega)) (mvD rfl (clv rfl (.cons (VLe.refl _) (.nil)) (ascent_whole (n := g) (by omega)) (clv rfl (.cons (VLe.refl _) (.cons (VLe.refl _) (.nil))) (ascent_over (x := ((upF l g).getD i 0 : Rat)) (y := (g : Rat)) (by omega) (by omega) (Rat.ne_of_gt hgp)) (ixOn sl.Rats rfl rfl (by omega) ?_)))))))
    exact stE sz.Rat rfl vd_q rfl rfl (by rw [List.length_map]; omega) (es2 := (mixA (roundF l g) 0 l.length (i + 1)).map dQ) (by rw [← mixA_set (show i < l.length by omega) hri]; exact List.map_set.symm) (OL.nil (AW.rg hE rfl (add_i64 rfl rfl (by omega) (mvD rfl (OL.nil (AW.again (x := i) (i + 1) (by omega) ⟨by omega, Knows.app (.cons (VLe.refl _) (.cons (VLe.refl _) (.cons (VLe.refl _) (.cons (VLe.refl _) (.cons (VLe.refl _) .nil))))) (.cons (VLe.refl _) .nil), Owns.app (.cons rfl (.cons rfl .nil)) (.cons rfl .nil)⟩))))))
   ·try simp only [dx9] at h90
    refine AW.exit (AW.seq ?_)
    obtain rfl : i = l.length := by omega
    rw [mixA_all hrl (Nat.le_refl _)]
    exact AW.rg hE rfl (mvO rfl (asO rfl (OL.nil (AW.ret (RetQ.r ⟨_, .tmp rfl .nil, RO.row rfl (by rw [List.length_map, hrl]) rfl⟩)))))
end Go.Proofs.YtoohdcpikkkanaaGreat

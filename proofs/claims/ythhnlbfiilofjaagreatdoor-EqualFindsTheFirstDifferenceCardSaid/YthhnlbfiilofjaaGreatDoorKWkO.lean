/-
  Walks of package rows, part 4: a basis of the vectors of words (printed by mk2.py).
-/
import Derived.Test.YthhnlbfiilofjaaGreatDoorKWkN
set_option linter.unusedVariables false
set_option linter.unusedSimpArgs false
namespace Go.Proofs.YthhnlbfiilofjaaGreatDoor
open Go Go.AL
theorem FSpecE_mono {α : Type} {P : Program} {f : Nat} {args : List V} {M : Mem} {res : α → V} {M' : α → Mem} {φ ψ : α → Prop} (h : FSpecE P f args M res M' φ) (hi : ∀ x, φ x → ψ x) : FSpecE P f args M res M' ψ :=
 ⟨h.1, fun F w vals hS hv => (h.2 F w vals hS hv).mono fun e w' ⟨x, hx, r⟩ => ⟨x, hi x hx, r⟩⟩
abbrev BSt := KSt × SpB × Nat × Nat
def kB (m : Mach) (b bs bx : Nat) : KM BSt := ⟨fun y => boxS b y.2.1 y.1.rs, fun y => rowV y.2.1 y.1.rs, fun y => rowC y.2.1 y.1.rs, fun y => rowP y.2.1 y.1.rs, fun _ => .box bs T.pSpace [.ptr 1000 b 0], fun y => .box bx T.Rows [.osl 1006 y.2.2.1 y.1.ks.length y.2.2.2], fun y => .row y.2.2.1 y.2.2.2 T.Row 2 (y.1.ks.map (dRow m))⟩
theorem keepB_t {m : Mach} {w : List Int} {y : KSt} (h : growsS y.rs (vecM m w) = true) : keepB m w y = (true, ⟨y.ks ++ [w], y.rs ++ [newR y.rs (vecM m w)]⟩) := if_pos h
theorem keepB_f {m : Mach} {w : List Int} {y : KSt} (h : growsS y.rs (vecM m w) = false) : keepB m w y = (false, y) := if_neg (by rw [h]; exact Bool.false_ne_true)
set_option maxRecDepth 8000 in
set_option maxHeartbeats 3200000 in
theorem Basis_1 {m : Mach} {e b bs bx : Nat} {w : List Int} {y : KSt} {B : SpB} {bo co : Nat} (ok : m.Ok) (z6 : m.Sz e) (sp : SpOK m.n 16777215 y.rs) (hw : w.length ≤ 6) (hk : y.ks.length ≤ 64) : FSpecE P F.rows_Machine_Basis_1 [vRow m w, .ptr 1004 bs 0, .ptr 1005 bx 0] (kmM (kB m b bs bx) (y, B, bo, co)) (fun z : Bool × BSt => .d (dB z.1)) (fun z => kmM (kB m b bs bx) z.2) (fun z => z.1 = (keepB m w y).1 ∧ z.2.1 = (keepB m w y).2) := by
 obtain ⟨ks, rs⟩ := y
 have sp : SpOK m.n 16777215 rs := sp
 have hk : ks.length ≤ 64 := hk
 refine FSpecE.intro fn.rows_Machine_Basis_1 (by rfl) (by rfl) (nb9 (by rfl)) fun E hE => (AW.sg hE rfl (bxA rfl rfl fun b3 => (asD rfl (OL.nil (AW.seq (AW.seq (AW.regionK (by rw [hE]; rfl) ?_)))))))
 refine SK.ofOL (ldPC ce.pSpace rfl rfl (v := .ptr 1000 b 0) rfl (OL.nil ?_))
 refine SK.ofOL (faP fd.Row_1 rfl rfl (OL.nil ?_))
 refine SK.ofOL (ldPC ce.Rats rfl rfl (v := .d (dQs (vecM m w))) rfl (OL.nil ?_))
 refine SK.ofSO (SO.callE (args' := [.ptr 1000 b 0, .d (dQs (vecM m w))]) (show 8 < E.n by rw [hE]; exact Nat.le_of_ble_eq_true (by rfl)) rfl (VLes.refl _) (Mc := spM b B rs) (fun id blk hk => lk_own (l := spL b B rs) (.cons rfl (.cons rfl (.cons rfl (.cons rfl trivial)))) id blk hk) (AddS (b := b) (B := B) sp (vecM_len ok w) z6.n6 (fun i => Nat.le_trans (vecM_sz z6 hw i) (by decide))) (fun x _ id hk => spM_none id hk) ?_)
 rintro B2 -
 refine SK.ofOL (nt rfl (OL.nil ?_))
 refine SK.nil (AW.cond rfl (fun hg => ?_) (fun hg => ?_))
 ·have hg : growsS rs (vecM m w) = false := by simpa using hg
  rw [show addS rs (vecM m w) = rs from if_neg (by rw [hg]; exact Bool.false_ne_true)]
  refine AW.sg hE rfl (asD rfl (OL.nil ?_))
  exact AW.ret ⟨(false, (⟨ks, rs⟩, B2, bo, co)), ⟨(congrArg Prod.fst (keepB_f (y := ⟨ks, rs⟩) hg)).symm, (congrArg Prod.snd (keepB_f (y := ⟨ks, rs⟩) hg)).symm⟩, ⟨_, .tmp rfl .nil, .le (VLe.refl _)⟩, fun id blk hk => lk_own (l := kmL (kB m b bs bx) (⟨ks, rs⟩, B2, bo, co)) (.cons rfl (.cons rfl (.cons rfl (.cons rfl (.cons rfl (.cons rfl (.cons rfl trivial))))))) id blk hk⟩
 ·have hg : growsS rs (vecM m w) = true := by simpa using hg
  rw [show addS rs (vecM m w) = rs ++ [newR rs (vecM m w)] from if_pos hg]
  refine AW.skip (AW.sg hE rfl (ldPC ce.Rows rfl rfl (v := .osl 1006 bo ks.length co) rfl (ldPA ag.Row rfl rfl (vs := [_,_]) rfl (nb9 rfl) (lt1 (y := dRow m w) sl.Rows vd_row rfl (by decide) ?_))))
  refine apO sl.Rows rfl rfl rfl (by rw [List.length_map]) (VC.d _) (fun y hy => by rw [List.mem_singleton.1 hy]; rfl) (by simp; omega) (by simp; omega) (.inl rfl) (ys := (ks ++ [w]).map (dRow m)) (by rw [List.map_append]; rfl) (n2 := ks.length + 1) rfl fun b13 c13 => ?_
  refine sto sz.Rows rfl rfl rfl rfl rfl (nb9 rfl) rfl (OL.nil (AW.seq ?_))
  have hln : (ks ++ [w]).length = ks.length + 1 := List.length_append
  refine AW.to [] [(1000, boxS b B2 (rs ++ [newR rs (vecM m w)])), (1001, rowV B2 (rs ++ [newR rs (vecM m w)])), (1002, rowC B2 (rs ++ [newR rs (vecM m w)])), (1003, rowP B2 (rs ++ [newR rs (vecM m w)])), (1004, .box bs T.pSpace [.ptr 1000 b 0]), (1005, .box bx T.Rows [.osl 13 b13 (ks.length + 1) c13]), (13, .row b13 c13 T.Row 2 ((ks ++ [w]).map (dRow m)))] .nil (.cons rfl (.cons rfl (.cons rfl (.cons rfl (.cons rfl (.cons rfl (.cons rfl (.nil)))))))) ?_
  refine AW.rename 13 1006 rfl (AW.boxW 1005 [.osl 1006 b13 (ks.length + 1) c13] rfl (.cons VLe.osl .nil) ?_)
  refine AW.rg hE rfl (asD rfl (OL.nil ?_))
  exact AW.ret ⟨(true, (⟨ks ++ [w], rs ++ [newR rs (vecM m w)]⟩, B2, b13, c13)), ⟨(congrArg Prod.fst (keepB_t (y := ⟨ks, rs⟩) hg)).symm, (congrArg Prod.snd (keepB_t (y := ⟨ks, rs⟩) hg)).symm⟩, ⟨_, .tmp rfl .nil, .le (VLe.refl _)⟩, fun id blk hk => lk_own (l := kmL (kB m b bs bx) (⟨ks ++ [w], rs ++ [newR rs (vecM m w)]⟩, B2, b13, c13)) (.cons rfl (.cons rfl (.cons rfl (.cons rfl (.cons rfl (.cons (by show _ = some (Blk.box bx T.Rows [.osl 1006 b13 (ks ++ [w]).length c13]); rw [hln]; rfl) (.cons rfl trivial))))))) id blk hk⟩
set_option maxRecDepth 8000 in
set_option maxHeartbeats 3200000 in
theorem BasisQ {m : Mach} {e : Nat} (ok : m.Ok) (fl : m.Full) (z6 : m.Sz e) : FSpecE P F.rows_Machine_Basis [vMach m] noMem (fun y : KSt => .d (dRows m y.ks)) (fun _ => noMem) (fun y => InvB m 16777215 [] y) := by
 have n6 := z6.n6
 have k4 := z6.k2
 refine FSpecE.intro fn.rows_Machine_Basis (by rfl) (by rfl) (nb9 (by rfl)) fun E hE => (AW.sg hE rfl (bxA rfl rfl fun b1 => (asM rfl (OL.nil (AW.sg hE rfl (al z.Rows rfl fun b3 => (OL.nil ?_)))))))
 refine AW.sg hE rfl (bd z.Space pl.Space (cs := [_,_,_]) rfl (bxA rfl rfl fun b6 => (al z.pSpace rfl fun b4 => (sto sz.pSpace rfl rfl rfl rfl rfl (nb9 rfl) (cells2 := [_]) rfl (OL.nil (AW.seq (AW.rename 6 1000 rfl ?_)))))))
 refine AW.deadR 1001 T.Rats 1 rfl (AW.deadR 1002 T.Rats 1 rfl (AW.deadR 1003 T.int 1 rfl (AW.boxW 1000 [.osl 1001 0 0 0, .osl 1002 0 0 0, .osl 1003 0 0 0] rfl (.cons vle_mtO (.cons vle_mtO (.cons vle_mtO .nil))) (AW.rename 4 1004 rfl (AW.boxW 1004 [.ptr 1000 b6 0] rfl (.cons VLe.ptr .nil) (AW.rename 3 1005 rfl (AW.deadR 1006 T.Row 2 rfl ?_)))))))
 refine AW.boxW 1005 [.osl 1006 0 0 0] rfl (.cons vle_mtO .nil) ?_
 refine AW.to [(1, .ptr 1 b1 0), (2, .mt), (3, .ptr 1005 b3 0), (4, .ptr 1004 b4 0)] ((1, .box b1 T.Machine [.d (dQs m.ini), .d (dQs m.fin), .d (.sl (m.mats.map dQss))]) :: kmL (kB m b6 b4 b3) ((⟨[], []⟩, (default : SpB), 0, 0) : BSt)) (.cons VLe.ptr (.cons (VLe.refl _) (.cons VLe.ptr (.cons VLe.ptr .nil)))) (.cons rfl (.cons rfl (.cons rfl (.cons rfl (.cons rfl (.cons rfl (.cons rfl (.cons rfl (.nil))))))))) ?_
 refine AW.regionK (by rw [hE]; rfl) (SK.ofOL (ldPA ag.Machine rfl rfl (vs := [_,_,_]) rfl (nb9 rfl) (OL.nil ?_)))
 refine SK.ofOL (mkF (vs := [_,_]) rfl (OL.nil ?_))
 refine SK.ofSO (SO.callE (args' := [vMach m, .fn F.rows_Machine_Basis_1 [.ptr 1004 b4 0, .ptr 1005 b3 0]]) (show 9 < E.n by rw [hE]; exact Nat.le_of_ble_eq_true (by rfl)) rfl (VLes.refl _) (Mc := kmM (kB m b6 b4 b3) ((⟨[], []⟩, (default : SpB), 0, 0) : BSt)) (fun id blk hk => lk_own (l := kmL (kB m b6 b4 b3) ((⟨[], []⟩, (default : SpB), 0, 0) : BSt)) (.cons rfl (.cons rfl (.cons rfl (.cons rfl (.cons rfl (.cons rfl (.cons rfl trivial))))))) id blk hk)
  (ExploreQ (m := m) (k := kB m b6 b4 b3) (I := fun Q y => InvB m 16777215 Q y.1) (μ := fun Q y => leftM m Q y.1.rs) ok fl z6 (fun Q y hI => ⟨hI.six n6, Nat.le_add_right _ _⟩)
   (fun w Q y hI => FSpecE_mono (Basis_1 (y := y.1) (B := y.2.1) (bo := y.2.2.1) (co := y.2.2.2) ok z6 hI.sp (hI.six n6 w (List.mem_cons_self ..)) (by have := hI.few; omega)) fun z hz => by
    have h9 := hI.next ok (by decide) (fun i => Nat.le_trans (vecM_sz z6 (hI.six n6 w (List.mem_cons_self ..)) i) (by decide))
    rw [← hz.1, ← hz.2] at h9
    exact h9) (InvB.start m 16777215) (by
     show [([] : List Int)].length + (m.k + 1) * (m.n - 0) ≤ 1000
     have h9 := Nat.mul_le_mul (show m.k + 1 ≤ 5 by omega) (show m.n - 0 ≤ 6 by omega)
     rw [List.length_singleton]; omega)) (fun x _ id hk => kmM_none id hk) ?_)
 rintro ⟨y, B, bo, co⟩ hI
 have hI : InvB m 16777215 [] y := hI
 refine SK.nil (AW.sg hE rfl (ldPC ce.Rows rfl rfl (v := .osl 1006 bo y.ks.length co) rfl (asO rfl (OL.nil ?_))))
 exact AW.ret ⟨y, hI, ⟨_, .tmp rfl .nil, RO.row rfl (by rw [List.length_map]) rfl⟩, fun _ _ h => by cases h⟩
set_option maxRecDepth 8000 in
set_option maxHeartbeats 1600000 in
theorem ViewsQ {m : Mach} {e : Nat} (ok : m.Ok) (fl : m.Full) (z6 : m.Sz e) (n1 : 1 ≤ m.n) : FSpecE P F.rows_Machine_Views [vMach m] noMem (fun y : KSt => .fn F.rows_Machine_Views_1 [.ref [dRows (turnM m) y.ks]]) (fun _ => noMem) (fun y => InvB (turnM m) 16777215 [] y) := by
 have n6 := z6.n6
 have k4 := z6.k2
 refine FSpecE.intro fn.rows_Machine_Views (by rfl) (by rfl) (nb9 (by rfl)) fun E hE => (AW.sg hE rfl (bxA rfl rfl fun b1 => (asD rfl (OL.nil (AW.seq (AW.regionK (by rw [hE]; rfl) (SK.ofOL (ldPA ag.Machine rfl rfl (vs := [_,_,_]) rfl (nb9 rfl) (OL.nil ?_)))))))))
 refine SK.ofOL (clv rfl .rq1 (TurnedQ fl n1 (by omega) (by omega)) (OL.nil ?_))
 refine SK.ofSO (SO.callE (args' := [vMach (turnM m)]) (show 6 < E.n by rw [hE]; exact Nat.le_of_ble_eq_true (by rfl)) rfl (VLes.refl _) (Mc := noMem) (fun _ _ h => by cases h) (BasisQ (turn_ok ok) (turn_full m) z6.turn) (fun _ _ _ h => h) ?_)
 rintro y hI
 refine SK.ofOL (al z.Rows rfl fun b3 => OL.nil ?_)
 refine SK.ofOL (sto sz.Rows rfl rfl rfl rfl rfl (nb9 rfl) (cells2 := [_]) rfl (OL.nil ?_))
 refine SK.nil (AW.seq (AW.freezeBox 3 [dRows (turnM m) y.ks] rfl (VCs.map_d [dRows (turnM m) y.ks]) (AW.to [(3, .ref [dRows (turnM m) y.ks])] [] (.cons (vle_of_eq (show V.frb 3 b3 [dRows (turnM m) y.ks] (.ptr 3 b3 0) = .ref [dRows (turnM m) y.ks] from frb_self)) .nil) .nil ?_)))
 refine AW.rg hE rfl (mkF (vs := [_]) rfl (asF rfl (OL.nil ?_)))
 exact AW.ret ⟨y, hI, ⟨_, .tmp rfl .nil, .le (VLe.refl _)⟩, fun _ _ h => by cases h⟩
end Go.Proofs.YthhnlbfiilofjaaGreatDoor

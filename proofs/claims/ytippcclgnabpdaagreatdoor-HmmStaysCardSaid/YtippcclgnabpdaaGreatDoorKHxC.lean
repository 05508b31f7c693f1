/-
  Walks of package hmm: Expand with one stay (printed by mk2.py).
-/
import Derived.Test.YtippcclgnabpdaaGreatDoorKHxB
set_option linter.unusedVariables false
set_option linter.unusedSimpArgs false
namespace Go.Proofs.YtippcclgnabpdaaGreatDoor
open Go Go.AL
def entK (d : List Rat) (s n : Nat) : Nat → List (List Rat)
 | 0 => (List.range n).map fun _ => [1]
 | _ => (List.range n).map (entR d s)
theorem entK_len {d : List Rat} {s n : Nat} : ∀ k, (entK d s n k).length = n
 | 0 => by simp [entK]
 | _ + 1 => by simp [entK]
theorem entK_set {d : List Rat} {s n : Nat} (hs : s < n) : ((entK d s n 0).map dQs).set s (dQs d) = (entK d s n 1).map dQs := by
 refine List.ext_getElem (by simp [entK]) fun i h1 h2 => ?_
 rw [List.getElem_set]
 simp only [entK, List.getElem_map, List.getElem_range]
 unfold entR
 by_cases e : s = i
 ·rw [if_pos e, if_pos e.symm]
 ·rw [if_neg e, if_neg (fun h => e h.symm)]
theorem vd_q0X : VD (.ag [.d (dB false), .mt, .mt]) (dQ 0) := VD.ag vcs_q0
def cpK (d : List Rat) (s i k : Nat) : List (Nat × Nat) := cpN d s i ++ cpI d s i k
theorem cpK_zero {d : List Rat} {s i : Nat} : cpK d s i 0 = cpN d s i := by unfold cpK cpI; simp
theorem cpK_succ {d : List Rat} {s i k : Nat} : cpK d s i (k + 1) = cpK d s i k ++ [(i, k)] := by unfold cpK; rw [cpI_succ, List.append_assoc]
theorem cpK_len {d : List Rat} {s i k : Nat} : (cpK d s i k).length = (cpN d s i).length + k := by unfold cpK; rw [List.length_append, cpI_len]
theorem cp_bnd {d : List Rat} {s i n : Nat} (d1 : 1 ≤ d.length) (hi : i < n) (hs : s < n) : (cpN d s i).length + (entR d s i).length ≤ n - 1 + d.length := by
 have h := cpN_len (s := s) d1 (i + 1)
 rw [cpN, List.length_append, cpI_len] at h
 split at h <;> omega
theorem unit_set {n m : Nat} (h1 : 1 ≤ m) : ((List.replicate n (0 : Rat)).map dQ).set (m - 1) (dQ 1) = ((List.range n).map fun j => if j + 1 = m then (1 : Rat) else 0).map dQ := by
 refine List.ext_getElem (by simp) fun i h2 h3 => ?_
 rw [List.getElem_set]
 simp only [List.getElem_map, List.getElem_range, List.getElem_replicate]
 by_cases e : m - 1 = i
 ·rw [if_pos e, if_pos (by omega)]
 ·rw [if_neg e, if_neg (by omega)]
set_option maxRecDepth 16000 in
set_option maxHeartbeats 12800000 in
theorem ExpandX {h : HM} {B : Nat} (g : HM.GoodX 1048576 B h) {s : Nat} {d : List Rat} (hs : s < h.st) (d1 : 1 ≤ d.length ∧ d.length ≤ 6) (hd : Shares d) (hz : Small 1 d) (hsum : sumQ d = 1) (hn : h.st - 1 + d.length ≤ 12) : FSpec P F.hmm_Expand [vHM h, .d (dStays [(s, d)])] (.tup [vHM (xpHM h d s), .d (dI 0)]) := by
 have f := g.form
 have n0 := f.st0
 have n1 := f.st1
 have hb1 := f.b1
 have hbB := f.bB
 have e1 := f.ini
 have e2 := f.trans
 have e3 := f.stop
 have e4 := f.emit
 have e5 := f.ties
 have hl1 : ([(s, d)] : List (Nat × List Rat)).length = 1 := rfl
 have hN : (sprR d s h.ini).length = h.st - 1 + d.length := by rw [spr_len, f.ini, cpN_len d1.1, if_pos hs]
 have zen : ∀ i j, sz ((entR d s i).getD j 0) ≤ 1048576 := fun i j => Nat.le_trans ((ent_small (s := s) (i := i) (Nat.le_refl 1) hz).get (Nat.le_refl 1) j) (by decide)
 refine FSpec.intro fn.hmm_Expand (by rfl) (by rfl) (nb9 (by rfl)) fun E hE => (AW.sg hE rfl (bxA rfl rfl fun b2 => (al z.Hidden rfl fun b4 => (asD rfl (OL.nil (AW.seq (AW.sg hE rfl ?_)))))))
 refine ldPA ag.Hidden rfl rfl (vs := [_,_,_,_,_,_,_,_,_,_,_]) rfl (nb9 rfl) (clv rfl (.cons (VLe.refl _) (.nil)) (hmm_Valid_okW g) (asD rfl (OL.nil (AW.sg hE rfl (mvD rfl (c_neq rfl rfl (c := false) (by exact cne_f (by omega)) (OL.nil ?_)))))))
 refine AW.cond rfl (fun hno => absurd hno (by decide)) (fun _ => ?_)
 refine AW.skip (AW.seq (AW.sg hE rfl (ldPA ag.Hidden rfl rfl (vs := [_,_,_,_,_,_,_,_,_,_,_]) rfl (nb9 rfl) (mvD rfl (clv rfl (.cons (VLe.refl _) (.cons (VLe.refl _) (.nil))) (refuse1 g hs d1 hd hz hsum hn) (asD rfl (OL.nil ?_)))))))
 refine AW.sg hE rfl (mvD rfl (c_neq rfl rfl (c := false) (by exact cne_f (by omega)) (OL.nil (AW.cond rfl (fun hno => absurd hno (by decide)) (fun _ => ?_)))))
 refine AW.skip (AW.sg hE rfl (faP fd.Hidden_1 rfl rfl (ldPC ce.int rfl rfl rfl (mkL dQs [] sl.Ratss z.Rats (VCs.cons VC.mt VCs.nil) rfl rfl (Nat.le_refl _) (by omega) (by omega) rfl fun b33 => (al z.Ratss rfl fun b8 => (sto sz.Ratss rfl rfl rfl rfl rfl (nb9 rfl) (cells2 := [_]) rfl (OL.nil ?_)))))))
 refine AW.seq (AW.sg hE rfl (ldPC ce.Ratss rfl rfl rfl (lnO sl.Ratss rfl rfl (mvD rfl (OL.nil (AW.block ?_))))))
 refine AW.whileK (α := Nat) [(1, _), (2, _), (4, _), (5, _), (8, _), (35, _)] [(2, _), (4, _), (8, _)] (fun i => [(36, .d (dI i))]) (fun i => [(33, .row b33 h.st T.Rats 1 ((fillF [] (fun _ => [1]) h.st i).map dQs))]) (fun i => i ≤ h.st) (fun i => h.st - i) 0 (.cons (knD rfl) (.cons (knP rfl) (.cons (knP rfl) (.cons (knD rfl) (.cons (knP rfl) (.cons (knD rfl) .nil)))))) (.cons (owB rfl) (.cons (owB rfl) (.cons (owB rfl) .nil))) ⟨Nat.zero_le _, .rq1, .cons (by rw [fillF_zero]; rfl) .nil⟩ ?_
 intro i h1
 have h1 : i ≤ h.st := h1
 have hfl := fillF_len ([] : List Rat) (fun _ => [1]) h.st i
 refine AW.sg hE rfl (c_lss rfl rfl rfl (OL.nil (AW.seq (AW.cond rfl (fun h37 => ?_) (fun h37 => ?_)))))
 ·try simp only [dx9] at h37
  refine AW.skip (AW.seq (AW.block (AW.seq ?_)))
  have hi : i < h.st := by omega
  refine AW.rg hE rfl (mvD rfl (asD rfl (OL.nil (AW.dg 1 [0,1,2,3,4,5] order_free hE rfl (by kernel_rfl) (OI.of_OL (os := [_,_,_,_,_,_]) rfl ?_)))))
  refine ldPC ce.Ratss rfl rfl rfl (mvD rfl (clv rfl .nil hmm_one (lt1 (y := dQ 1) sl.Rats vd_q rfl (by decide) (ixOn sl.Ratss rfl rfl hi (stE sz.Rats rfl (VC.d _).vd rfl rfl (by rw [List.length_map]; omega) (es2 := (fillF [] (fun _ => [1]) h.st (i + 1)).map dQs) (by rw [← fillF_set hi, List.map_set]; rfl) (OL.nil (AW.rg hE rfl ?_)))))))
  refine add_i64 rfl rfl (by omega) (mvD rfl (OL.nil ?_))
  exact AW.again (x := i) (i + 1) (by omega) ⟨by omega, Knows.app .rq6 .rq1, Owns.app (.cons rfl (.cons rfl (.cons rfl .nil))) (.cons rfl .nil)⟩
 ·try simp only [dx9] at h37
  refine AW.exit (AW.seq (AW.seq ?_))
  obtain rfl : i = h.st := by omega
  refine AW.rg hE rfl (mvD rfl (lnL sl.Stays rfl rfl (mvD rfl (OL.nil (AW.block ?_)))))
  refine AW.whileK (α := Nat) [(2, _), (4, _), (5, _), (8, _), (45, _), (46, _)] [(2, _), (4, _), (8, _)] (fun k => [(47, .d (dI k))]) (fun k => [(33, .row b33 h.st T.Rats 1 ((entK d s h.st k).map dQs))]) (fun k => k ≤ 1) (fun k => 1 - k) 0 (.cons (knP rfl) (.cons (knP rfl) (.cons (knD rfl) (.cons (knP rfl) (.cons (knD rfl) (.cons (knD rfl) .nil)))))) (.cons (owB rfl) (.cons (owB rfl) (.cons (owB rfl) .nil))) ⟨Nat.zero_le _, .rq1, .cons (by rw [fillF_all]; rfl) .nil⟩ ?_
  intro k h1
  have h1 : k ≤ 1 := h1
  refine AW.sg hE rfl (c_lss rfl rfl rfl (OL.nil (AW.seq (AW.cond rfl (fun h48 => ?_) (fun h48 => ?_)))))
  ·try simp only [dx9] at h48
   refine AW.skip (AW.seq (AW.block (AW.seq ?_)))
   obtain rfl : k = 0 := by have := h48; simp at this; omega
   refine AW.rg hE rfl (ixLe 0 sl.Stays ((0, []) : Nat × List Rat) (cs := [dI (s : Int), dQs d]) rfl rfl rfl (Nat.le_refl 1) rfl rfl (ldRA ag.Stay rfl (vs := [_,_]) rfl (nb9 rfl) (al z.Stay rfl fun b11 => (sto sz.Stay rfl rfl rfl rfl rfl (nb9 rfl) (cells2 := [_,_]) rfl (OL.nil (AW.rg hE rfl (ldPC ce.Ratss rfl rfl rfl ?_)))))))
   refine faP fd.Stay_0 rfl rfl (ldPC ce.int rfl rfl rfl (faP fd.Stay_1 rfl rfl (ldPC ce.Rats rfl rfl rfl (ixOn sl.Ratss rfl rfl hs (stE sz.Rats rfl (VC.d _).vd rfl rfl (by rw [List.length_map, entK_len]; exact hs) (es2 := (entK d s h.st 1).map dQs) (entK_set hs) (OL.nil (AW.rg hE rfl ?_)))))))
   refine add_i64 rfl rfl (by omega) (mvD rfl (OL.nil ?_))
   exact AW.again (x := 0) 1 (by omega) ⟨by omega, Knows.app .rq6 .rq1, Owns.app (.cons rfl (.cons rfl (.cons rfl .nil))) (.cons rfl .nil)⟩
  ·try simp only [dx9] at h48
   refine AW.exit (AW.seq ?_)
   obtain rfl : k = 1 := by omega
   refine AW.freeze 33 rfl (AW.boxW 8 [.d (dQss ((List.range h.st).map (entR d s)))] rfl (.cons (frz_osl (by rw [List.length_map, entK_len]) rfl) .nil) (AW.freezeBox 8 [dQss ((List.range h.st).map (entR d s))] rfl (VCs.map_d [dQss ((List.range h.st).map (entR d s))]) (AW.to [(2, .ptr 2 b2 0), (4, .ptr 4 b4 0), (8, .ref [dQss ((List.range h.st).map (entR d s))])] [(2, .box b2 T.Hidden (cellsHM h)), (4, .box b4 T.Hidden _)] (.cons (VLe.refl _) (.cons (VLe.refl _) (.cons (vle_of_eq (show V.frb 8 b8 [dQss ((List.range h.st).map (entR d s))] (.ptr 8 b8 0) = .ref [dQss ((List.range h.st).map (entR d s))] from frb_self)) .nil))) (.cons rfl (.cons rfl .nil)) ?_)))
   refine AW.rg hE rfl (mkF (vs := [_]) rfl (asF rfl (OL.nil (AW.seq (AW.dg 1 [0,1,2,3,4,5,6,7,8,9,10,11] order_free hE rfl (by kernel_rfl) (OI.of_OL (os := [_,_,_,_,_,_,_,_,_,_,_,_]) rfl ?_))))))
   refine faP fd.Hidden_0 rfl rfl (ldPC ce.int rfl rfl rfl (faP fd.Hidden_2 rfl rfl (ldPA ag.Rat rfl rfl (vs := [_,_,_]) rfl (nb9 rfl) (clv rfl (.cons (VLe.refl _) (.nil)) (fresh_Rat (q := h.empty) (by have := f.zE; omega)) (mvF rfl (faP fd.Hidden_3 rfl rfl (ldPC ce.Rats rfl rfl rfl ?_)))))))
   refine clv rfl (.cons (VLe.refl _) (.cons (VLe.refl _) (.nil))) (spreadH (l := h.ini) (n := h.st) f.ini (by omega) (by omega) (fun i => Nat.le_trans (f.zI.get hb1 i) (by omega)) zen) (bd2 (cs := [_,_,_,_,_,_,_,_,_,_,_]) z.Hidden pl.Hidden (pvC (by exact evD rfl) (pvC (by exact evA rfl) (pvC (by exact evD rfl) (pvN)))) (by rfl) (al z.Hidden rfl fun b13 => (sto sz.Hidden rfl rfl rfl rfl rfl (nb9 rfl) (cells2 := [_,_,_,_,_,_,_,_,_,_,_]) rfl (OL.nil (AW.sg hE rfl (faP fd.Hidden_3 rfl rfl (ldPC ce.Rats rfl rfl rfl ?_)))))))
   refine lnL sl.Rats rfl rfl (faP fd.Hidden_1 rfl rfl (sto sz.int rfl rfl rfl rfl rfl (nb9 rfl) (cells2 := [_,_,_,_,_,_,_,_,_,_,_]) rfl (OL.nil (AW.seq (AW.sg hE rfl (faP fd.Hidden_1 rfl rfl (ldPC ce.int rfl rfl rfl ?_)))))))
   refine mvD rfl (OL.nil (AW.block ?_))
   refine AW.boxW 13 [.d (dI h.sym), .d (dI (sprR d s h.ini).length), .d (dB (ofQ h.empty).neg), .d (u32s (ofQ h.empty).num), .d (u32s (ofQ h.empty).den), .d (dQs (sprR d s h.ini)), .osl 116 0 0 0, .osl 121 0 0 0, .osl 133 0 0 0, .osl 142 0 0 0, .osl 151 0 0 0] rfl (.cons (VLe.refl _) (.cons (VLe.refl _) (.cons (VLe.refl _) (.cons (VLe.refl _) (.cons (VLe.refl _) (.cons (VLe.refl _) (.cons VLe.mtO (.cons VLe.mtO (.cons VLe.mtO (.cons VLe.mtO (.cons VLe.mtO .nil))))))))))) ?_
   refine AW.row0 116 T.Rats 1 rfl (AW.row0 121 T.Rat 3 rfl (AW.row0 133 T.Rats 1 rfl (AW.row0 142 T.bool 1 rfl (AW.row0 151 T.int 1 rfl ?_))))
   refine AW.whileK (α := Nat × Nat × Nat × Nat × Nat × Nat × Nat × Nat × Nat × Nat × Nat) [(2, _), (4, _), (5, _), (8, _), (12, _), (13, _), (74, _)] [(2, _), (4, _)] (fun (i, p1, c1, p2, c2, p3, c3, p4, c4, p5, c5) => [(75, .d (dI i))]) (fun (i, p1, c1, p2, c2, p3, c3, p4, c4, p5, c5) => [(13, .box b13 T.Hidden [.d (dI h.sym), .d (dI (sprR d s h.ini).length), .d (dB (ofQ h.empty).neg), .d (u32s (ofQ h.empty).num), .d (u32s (ofQ h.empty).den), .d (dQs (sprR d s h.ini)), .osl 116 p1 (cpN d s i).length c1, .osl 121 p2 (cpN d s i).length c2, .osl 133 p3 (cpN d s i).length c3, .osl 142 p4 (cpN d s i).length c4, .osl 151 p5 (cpN d s i).length c5]), (116, .row p1 c1 T.Rats 1 ((trX h d s (sprR d s h.ini).length (cpN d s i)).map dQs)), (121, .row p2 c2 T.Rat 3 ((stX h (cpN d s i)).map dQ)), (133, .row p3 c3 T.Rats 1 ((emX h (cpN d s i)).map dQs)), (142, .row p4 c4 T.bool 1 ((List.replicate (cpN d s i).length false).map dB)), (151, .row p5 c5 T.int 1 ((tiX h (cpN d s i)).map dI))]) (fun (i, p1, c1, p2, c2, p3, c3, p4, c4, p5, c5) => i ≤ h.st) (fun (i, p1, c1, p2, c2, p3, c3, p4, c4, p5, c5) => h.st - i) (0, 0, 0, 0, 0, 0, 0, 0, 0, 0, 0) (.cons (knP rfl) (.cons (knP rfl) (.cons (knJ) (.cons (knR rfl) (.cons (knF rfl) (.cons (knP rfl) (.cons (knD rfl) .nil))))))) (.cons (owB rfl) (.cons (owB rfl) .nil)) ⟨Nat.zero_le _, .rq1, .cons rfl (.cons rfl (.cons rfl (.cons rfl (.cons rfl (.cons rfl .nil)))))⟩ ?_
   rintro ⟨i, p1, c1, p2, c2, p3, c3, p4, c4, p5, c5⟩ h1
   have h1 : i ≤ h.st := h1
   refine AW.sg hE rfl (c_lss rfl rfl rfl (OL.nil (AW.seq (AW.cond rfl (fun h76 => ?_) (fun h76 => ?_)))))
   ·try simp only [dx9] at h76
    refine AW.skip (AW.seq (AW.block (AW.seq ?_)))
    have hi : i < h.st := by omega
    have hcb := cp_bnd (s := s) d1.1 hi hs
    have hge : ((List.range h.st).map (entR d s)).getD i [] = entR d s i := map_getD_range _ _ hi
    have hti := f.trow i hi
    have hel := f.erow i hi
    refine AW.rg hE rfl (mvD rfl (asD rfl (OL.nil (AW.sg hE rfl (ldRC ce.Ratss rfl (mvD rfl (ixLn sl.Ratss [] rfl rfl (by rw [List.length_map, List.length_range]; exact hi) rfl rfl ?_)))))))
    refine ldRC ce.Rats rfl (lnL sl.Rats rfl rfl ?_)
    rw [hge]
    refine mvD rfl (OL.nil (AW.block ?_))
    refine AW.whileK (α := Nat × Nat × Nat × Nat × Nat × Nat × Nat × Nat × Nat × Nat × Nat) [(2, _), (4, _), (5, _), (8, _), (12, _), (13, _), (14, _), (74, _), (75, _), (82, _)] [(2, _), (4, _)] (fun (k, p1, c1, p2, c2, p3, c3, p4, c4, p5, c5) => [(83, .d (dI k))]) (fun (k, p1, c1, p2, c2, p3, c3, p4, c4, p5, c5) => [(13, .box b13 T.Hidden [.d (dI h.sym), .d (dI (sprR d s h.ini).length), .d (dB (ofQ h.empty).neg), .d (u32s (ofQ h.empty).num), .d (u32s (ofQ h.empty).den), .d (dQs (sprR d s h.ini)), .osl 116 p1 (cpK d s i k).length c1, .osl 121 p2 (cpK d s i k).length c2, .osl 133 p3 (cpK d s i k).length c3, .osl 142 p4 (cpK d s i k).length c4, .osl 151 p5 (cpK d s i k).length c5]), (116, .row p1 c1 T.Rats 1 ((trX h d s (sprR d s h.ini).length (cpK d s i k)).map dQs)), (121, .row p2 c2 T.Rat 3 ((stX h (cpK d s i k)).map dQ)), (133, .row p3 c3 T.Rats 1 ((emX h (cpK d s i k)).map dQs)), (142, .row p4 c4 T.bool 1 ((List.replicate (cpK d s i k).length false).map dB)), (151, .row p5 c5 T.int 1 ((tiX h (cpK d s i k)).map dI))]) (fun (k, p1, c1, p2, c2, p3, c3, p4, c4, p5, c5) => k ≤ (entR d s i).length) (fun (k, p1, c1, p2, c2, p3, c3, p4, c4, p5, c5) => (entR d s i).length - k) (0, p1, c1, p2, c2, p3, c3, p4, c4, p5, c5) (.cons (knP rfl) (.cons (knP rfl) (.cons (knJ) (.cons (knR rfl) (.cons (knF rfl) (.cons (knP rfl) (.cons (knD rfl) (.cons (knD rfl) (.cons (knD rfl) (.cons (knD rfl) .nil)))))))))) (.cons (owB rfl) (.cons (owB rfl) .nil)) ⟨Nat.zero_le _, .rq1, .cons (by rw [cpK_zero]; rfl) (.cons (by rw [cpK_zero]; rfl) (.cons (by rw [cpK_zero]; rfl) (.cons (by rw [cpK_zero]; rfl) (.cons (by rw [cpK_zero]; rfl) (.cons (by rw [cpK_zero]; rfl) .nil)))))⟩ ?_
    rintro ⟨k, p1, c1, p2, c2, p3, c3, p4, c4, p5, c5⟩ h2
    have h2 : k ≤ (entR d s i).length := h2
    have hkl := cpK_len (d := d) (s := s) (i := i) (k := k)
    refine AW.sg hE rfl (c_lss rfl rfl rfl (OL.nil (AW.seq (AW.cond rfl (fun h84 => ?_) (fun h84 => ?_)))))
    ·try simp only [dx9] at h84
     refine AW.skip (AW.seq (AW.block (AW.sg hE rfl (mvD rfl (asD rfl (OL.nil (AW.seq ?_)))))))
     have hk : k < (entR d s i).length := by omega
     refine AW.dg 1 [0,1,2,3,4,5,6,7,8,9,10,11,12,13,14,15] order_free hE rfl (by kernel_rfl) (OI.of_OL (os := [_,_,_,_,_,_,_,_,_,_,_,_,_,_,_,_]) rfl ?_)
     refine mvF rfl (faP fd.Hidden_4 rfl rfl (ldPC ce.Ratss rfl rfl rfl (mvD rfl (ixLn sl.Ratss [] rfl rfl (by omega) rfl rfl (ldRC ce.Rats rfl (clv rfl (.cons (VLe.refl _) (.cons (VLe.refl _) (.nil))) (spreadH (l := h.trans.getD i []) (n := h.st) hti (by omega) (by omega) (fun j => Nat.le_trans ((f.zT i).get hb1 j) (by omega)) zen) (faP fd.Hidden_5 rfl rfl ?_)))))))
     refine ldPC ce.Rats rfl rfl rfl (mvD rfl (ixLn sl.Rats 0 rfl rfl (by omega) rfl rfl (ldRA ag.Rat rfl (vs := [_,_,_]) rfl (nb9 rfl) (clv rfl (.cons (VLe.refl _) (.nil)) (fresh_Rat (q := h.stop.getD i 0) (by have := f.zS.get hb1 i; omega)) (al z.Rat rfl fun b17 => (asD rfl (sto sz.Rat rfl rfl rfl rfl rfl (nb9 rfl) (cells2 := [_,_,_]) rfl ?_)))))))
     refine OL.nil (AW.seq (AW.sg hE rfl (mvD rfl (c_gtr rfl rfl rfl (OL.nil (AW.cond rfl (fun h0 => ?_) (fun h0 => ?_)))))))
     ·have h0 : ¬ k = 0 := by have := of_decide_eq_true h0; omega
      refine AW.sg hE rfl (faP fd.Hidden_1 rfl rfl (ldPC ce.int rfl rfl rfl (mkL dQ 0 sl.Rats z.Rat vcs_q0 rfl rfl (Nat.le_refl _) (by omega) (by omega) rfl fun b103 => (bd z.Rat pl.Rat (cs := [_,_,_]) rfl (asO rfl (sto sz.Rat rfl rfl rfl rfl rfl (nb9 rfl) (cells2 := [_,_,_]) rfl (OL.nil ?_)))))))
      refine AW.dg 1 [0,1,2,3,4,5,6,7] order_free hE rfl (by kernel_rfl) (OI.of_OL (os := [_,_,_,_,_,_,_,_]) rfl ?_)
      refine mvO rfl (faP fd.Hidden_5 rfl rfl (ldPC ce.Rats rfl rfl rfl (lnO sl.Rats rfl rfl (bo rfl rfl (bin_sub (c := (((cpK d s i k).length - 1 : Nat) : Int)) (by omega) (wrap_i64 (by omega))) (clv rfl .nil hmm_one (ixOn sl.Rats rfl rfl (by omega) (stE sz.Rat rfl vd_q rfl rfl (by rw [List.length_map, List.length_replicate]; omega) (es2 := (rowX h d s (sprR d s h.ini).length (cpK d s i k).length (i, k)).map dQ) ((unit_set (by omega)).trans (by rw [rowX, if_neg h0])) ?_)))))))
      refine OL.nil (AW.seq ?_)
      refine AW.freeze 103 rfl (AW.to [(16, .d (dQs (rowX h d s (sprR d s h.ini).length (cpK d s i k).length (i, k)))), (2, _), (4, _), (5, _), (8, _), (12, _), (13, _), (14, _), (15, _), (17, _), (74, _), (75, _), (82, _), (83, _)] [(2, _), (4, _), (13, _), (17, _), (116, _), (121, _), (133, _), (142, _), (151, _)] (.cons (frz_osl (by simp [rowX, h0]) rfl) (by repeat (first | exact Knows.nil | refine Knows.cons (by first | exact knD rfl | exact knA rfl | exact knP rfl | exact knO rfl | exact knM rfl | exact knE rfl | exact knR rfl | exact knF rfl | exact knT rfl | exact knI rfl | exact knB rfl | exact knJ) ?_))) (by repeat (first | exact Owns.nil | refine Owns.cons (by first | exact owB rfl | exact owR rfl | exact owL rfl | exact owT rfl) ?_)) ?_)
      refine AW.dg 2 [0,1,2,3,5,6,7,8,4,10,9,11,12,13] order_free hE rfl (by kernel_rfl) (OI.of_OL (os := [_,_,_,_,_,_,_,_,_,_,_,_,_,_]) rfl ?_)
      refine faP fd.Hidden_4 rfl rfl (ldPC ce.Ratss rfl rfl rfl (mvD rfl (lt1 (y := dQs (rowX h d s (sprR d s h.ini).length (cpK d s i k).length (i, k))) sl.Ratss (VC.d _).vd rfl (by decide) (faP fd.Hidden_5 rfl rfl (ldPC ce.Rats rfl rfl rfl (ldPA ag.Rat rfl rfl (vs := [_,_,_]) rfl (nb9 rfl) (lt1 (y := dQ 0) sl.Rats vd_q0X rfl (by decide) ?_)))))))
      refine apO sl.Ratss rfl rfl rfl (by rw [List.length_map, trX_len]) (VC.d _) (fun y hy => by rw [List.mem_singleton.1 hy]; rfl) (by simp only [List.length_singleton]; omega) (by simp only [List.length_singleton]; omega) (.inr rfl) (ys := (trX h d s (sprR d s h.ini).length (cpK d s i (k + 1))).map dQs) (by rw [cpK_succ, trX_snoc, List.map_append]; first | rfl | (rw [rowX, if_pos (show (i, k).2 = 0 from h0)]; rfl)) (n2 := (cpK d s i (k + 1)).length) (by rw [cpK_succ, List.length_append]; rfl) fun b116 c116 => ?_
      refine faP fd.Hidden_4 rfl rfl ?_
      refine apO sl.Rats rfl rfl rfl (by rw [List.length_map, stX, List.length_map]) (VC.d _) (fun y hy => by rw [List.mem_singleton.1 hy]; rfl) (by simp only [List.length_singleton]; omega) (by simp only [List.length_singleton]; omega) (.inr rfl) (ys := (stX h (cpK d s i (k + 1))).map dQ) (by rw [cpK_succ, stX_snoc, List.map_append]; first | rw [if_pos (show (i, k).2 = 0 from h0)]; rfl | rw [if_neg (show ¬ (i, k).2 = 0 from h0)]; rfl) (n2 := (cpK d s i (k + 1)).length) (by rw [cpK_succ, List.length_append]; rfl) fun b121 c121 => ?_
      refine sto sz.Ratss rfl rfl rfl rfl rfl (nb9 rfl) (cells2 := [_,_,_,_,_,_,_,_,_,_,_]) rfl (faP fd.Hidden_5 rfl rfl (sto sz.Rats rfl rfl rfl rfl rfl (nb9 rfl) (cells2 := [_,_,_,_,_,_,_,_,_,_,_]) rfl (OL.nil (AW.dg 2 [0,1,2,3,4,5,6,7,8,10,11,12,13,14,15,16,17,19,20,21,22,23,24,25,26,9,28,18,27,29,30,31,32,33] order_free hE rfl (by kernel_rfl) (OI.of_OL (os := [_,_,_,_,_,_,_,_,_,_,_,_,_,_,_,_,_,_,_,_,_,_,_,_,_,_,_,_,_,_,_,_,_,_]) rfl ?_)))))
      refine faP fd.Hidden_6 rfl rfl (ldPC ce.Ratss rfl rfl rfl (faP fd.Hidden_6 rfl rfl (ldPC ce.Ratss rfl rfl rfl (mvD rfl (ixLn sl.Ratss [] rfl rfl (by omega) rfl rfl (ldRC ce.Rats rfl (clv rfl (.cons (VLe.refl _) (.nil)) (fresh_Rats (l := h.emit.getD i []) (C := B) (f.zM i) ⟨hb1, by omega⟩ (by have := f.sym1; omega)) ?_)))))))
      refine lt1 (y := dQs (h.emit.getD i [])) sl.Ratss (VC.d _).vd rfl (by decide) (faP fd.Hidden_7 rfl rfl (ldPC ce.bools rfl rfl rfl (faP fd.Hidden_7 rfl rfl (ldPC ce.bools rfl rfl rfl (mvD rfl (ixLn sl.bools false rfl rfl (by rw [f.silent, List.length_replicate]; exact hi) rfl rfl (ldRC ce.bool rfl ?_)))))))
      rw [show h.silent.getD i false = false by rw [f.silent, List.getD_eq_getElem?_getD, List.getElem?_replicate]; split <;> rfl]
      refine lt1 (y := dB false) sl.bools (VC.d _).vd rfl (by decide) (faP fd.Hidden_8 rfl rfl (ldPC ce.ints rfl rfl rfl (faP fd.Hidden_8 rfl rfl (ldPC ce.ints rfl rfl rfl (mvD rfl (ixLn sl.ints 0 rfl rfl (by omega) rfl rfl (ldRC ce.int rfl ?_)))))))
      refine lt1 (y := dI (h.ties.getD i 0)) sl.ints (VC.d _).vd rfl (by decide) ?_
      refine apO sl.Ratss rfl rfl rfl (by rw [List.length_map, emX, List.length_map]) (VC.d _) (fun y hy => by rw [List.mem_singleton.1 hy]; rfl) (by simp only [List.length_singleton]; omega) (by simp only [List.length_singleton]; omega) (.inr rfl) (ys := (emX h (cpK d s i (k + 1))).map dQs) (by rw [cpK_succ, emX_snoc, List.map_append]; rfl) (n2 := (cpK d s i (k + 1)).length) (by rw [cpK_succ, List.length_append]; rfl) fun b133 c133 => ?_
      refine faP fd.Hidden_6 rfl rfl ?_
      refine apO sl.bools rfl rfl rfl (by rw [List.length_map, List.length_replicate]) (VC.d _) (fun y hy => by rw [List.mem_singleton.1 hy]; rfl) (by simp only [List.length_singleton]; omega) (by simp only [List.length_singleton]; omega) (.inr rfl) (ys := (List.replicate (cpK d s i (k + 1)).length false).map dB) (by rw [cpK_succ, List.length_append, List.length_singleton, List.replicate_succ', List.map_append]; rfl) (n2 := (cpK d s i (k + 1)).length) (by rw [cpK_succ, List.length_append]; rfl) fun b142 c142 => ?_
      refine apO sl.ints rfl rfl rfl (by rw [List.length_map, tiX, List.length_map]) (VC.d _) (fun y hy => by rw [List.mem_singleton.1 hy]; rfl) (by simp only [List.length_singleton]; omega) (by simp only [List.length_singleton]; omega) (.inr rfl) (ys := (tiX h (cpK d s i (k + 1))).map dI) (by rw [cpK_succ, tiX_snoc, List.map_append]; rfl) (n2 := (cpK d s i (k + 1)).length) (by rw [cpK_succ, List.length_append]; rfl) fun b151 c151 => ?_
      refine sto sz.Ratss rfl rfl rfl rfl rfl (nb9 rfl) (cells2 := [_,_,_,_,_,_,_,_,_,_,_]) rfl (faP fd.Hidden_7 rfl rfl (sto sz.bools rfl rfl rfl rfl rfl (nb9 rfl) (cells2 := [_,_,_,_,_,_,_,_,_,_,_]) rfl (faP fd.Hidden_8 rfl rfl (sto sz.ints rfl rfl rfl rfl rfl (nb9 rfl) (cells2 := [_,_,_,_,_,_,_,_,_,_,_]) rfl (OL.nil (AW.rg hE rfl (add_i64 rfl rfl (by omega) ?_)))))))
      refine mvD rfl (OL.nil ?_)
      exact AW.again (x := (k, p1, c1, p2, c2, p3, c3, p4, c4, p5, c5)) (k + 1, b116, c116, b121, c121, b133, c133, b142, c142, b151, c151) (by (simp only []; omega)) ⟨by omega, Knows.app .rq10 .rq1, Owns.app (.cons rfl (.cons rfl .nil)) (.cons rfl (.cons rfl (.cons rfl (.cons rfl (.cons rfl (.cons rfl .nil))))))⟩
     ·have h0 : k = 0 := by have := of_decide_eq_false h0; omega
      refine AW.skip (AW.seq ?_)
      skip
      refine AW.dg 2 [0,1,2,3,5,6,7,8,4,10,9,11,12,13] order_free hE rfl (by kernel_rfl) (OI.of_OL (os := [_,_,_,_,_,_,_,_,_,_,_,_,_,_]) rfl ?_)
      refine faP fd.Hidden_4 rfl rfl (ldPC ce.Ratss rfl rfl rfl (mvD rfl (lt1 (y := dQs (sprR d s (h.trans.getD i []))) sl.Ratss (VC.d _).vd rfl (by decide) (faP fd.Hidden_5 rfl rfl (ldPC ce.Rats rfl rfl rfl (ldPA ag.Rat rfl rfl (vs := [_,_,_]) rfl (nb9 rfl) (lt1 (y := dQ (h.stop.getD i 0)) sl.Rats vd_q rfl (by decide) ?_)))))))
      refine apO sl.Ratss rfl rfl rfl (by rw [List.length_map, trX_len]) (VC.d _) (fun y hy => by rw [List.mem_singleton.1 hy]; rfl) (by simp only [List.length_singleton]; omega) (by simp only [List.length_singleton]; omega) (.inr rfl) (ys := (trX h d s (sprR d s h.ini).length (cpK d s i (k + 1))).map dQs) (by rw [cpK_succ, trX_snoc, List.map_append]; first | rfl | (rw [rowX, if_pos (show (i, k).2 = 0 from h0)]; rfl)) (n2 := (cpK d s i (k + 1)).length) (by rw [cpK_succ, List.length_append]; rfl) fun b116 c116 => ?_
      refine faP fd.Hidden_4 rfl rfl ?_
      refine apO sl.Rats rfl rfl rfl (by rw [List.length_map, stX, List.length_map]) (VC.d _) (fun y hy => by rw [List.mem_singleton.1 hy]; rfl) (by simp only [List.length_singleton]; omega) (by simp only [List.length_singleton]; omega) (.inr rfl) (ys := (stX h (cpK d s i (k + 1))).map dQ) (by rw [cpK_succ, stX_snoc, List.map_append]; first | rw [if_pos (show (i, k).2 = 0 from h0)]; rfl | rw [if_neg (show ¬ (i, k).2 = 0 from h0)]; rfl) (n2 := (cpK d s i (k + 1)).length) (by rw [cpK_succ, List.length_append]; rfl) fun b121 c121 => ?_
      refine sto sz.Ratss rfl rfl rfl rfl rfl (nb9 rfl) (cells2 := [_,_,_,_,_,_,_,_,_,_,_]) rfl (faP fd.Hidden_5 rfl rfl (sto sz.Rats rfl rfl rfl rfl rfl (nb9 rfl) (cells2 := [_,_,_,_,_,_,_,_,_,_,_]) rfl (OL.nil (AW.dg 2 [0,1,2,3,4,5,6,7,8,10,11,12,13,14,15,16,17,19,20,21,22,23,24,25,26,9,28,18,27,29,30,31,32,33] order_free hE rfl (by kernel_rfl) (OI.of_OL (os := [_,_,_,_,_,_,_,_,_,_,_,_,_,_,_,_,_,_,_,_,_,_,_,_,_,_,_,_,_,_,_,_,_,_]) rfl ?_)))))
      refine faP fd.Hidden_6 rfl rfl (ldPC ce.Ratss rfl rfl rfl (faP fd.Hidden_6 rfl rfl (ldPC ce.Ratss rfl rfl rfl (mvD rfl (ixLn sl.Ratss [] rfl rfl (by omega) rfl rfl (ldRC ce.Rats rfl (clv rfl (.cons (VLe.refl _) (.nil)) (fresh_Rats (l := h.emit.getD i []) (C := B) (f.zM i) ⟨hb1, by omega⟩ (by have := f.sym1; omega)) ?_)))))))
      refine lt1 (y := dQs (h.emit.getD i [])) sl.Ratss (VC.d _).vd rfl (by decide) (faP fd.Hidden_7 rfl rfl (ldPC ce.bools rfl rfl rfl (faP fd.Hidden_7 rfl rfl (ldPC ce.bools rfl rfl rfl (mvD rfl (ixLn sl.bools false rfl rfl (by rw [f.silent, List.length_replicate]; exact hi) rfl rfl (ldRC ce.bool rfl ?_)))))))
      rw [show h.silent.getD i false = false by rw [f.silent, List.getD_eq_getElem?_getD, List.getElem?_replicate]; split <;> rfl]
      refine lt1 (y := dB false) sl.bools (VC.d _).vd rfl (by decide) (faP fd.Hidden_8 rfl rfl (ldPC ce.ints rfl rfl rfl (faP fd.Hidden_8 rfl rfl (ldPC ce.ints rfl rfl rfl (mvD rfl (ixLn sl.ints 0 rfl rfl (by omega) rfl rfl (ldRC ce.int rfl ?_)))))))
      refine lt1 (y := dI (h.ties.getD i 0)) sl.ints (VC.d _).vd rfl (by decide) ?_
      refine apO sl.Ratss rfl rfl rfl (by rw [List.length_map, emX, List.length_map]) (VC.d _) (fun y hy => by rw [List.mem_singleton.1 hy]; rfl) (by simp only [List.length_singleton]; omega) (by simp only [List.length_singleton]; omega) (.inr rfl) (ys := (emX h (cpK d s i (k + 1))).map dQs) (by rw [cpK_succ, emX_snoc, List.map_append]; rfl) (n2 := (cpK d s i (k + 1)).length) (by rw [cpK_succ, List.length_append]; rfl) fun b133 c133 => ?_
      refine faP fd.Hidden_6 rfl rfl ?_
      refine apO sl.bools rfl rfl rfl (by rw [List.length_map, List.length_replicate]) (VC.d _) (fun y hy => by rw [List.mem_singleton.1 hy]; rfl) (by simp only [List.length_singleton]; omega) (by simp only [List.length_singleton]; omega) (.inr rfl) (ys := (List.replicate (cpK d s i (k + 1)).length false).map dB) (by rw [cpK_succ, List.length_append, List.length_singleton, List.replicate_succ', List.map_append]; rfl) (n2 := (cpK d s i (k + 1)).length) (by rw [cpK_succ, List.length_append]; rfl) fun b142 c142 => ?_
      refine apO sl.ints rfl rfl rfl (by rw [List.length_map, tiX, List.length_map]) (VC.d _) (fun y hy => by rw [List.mem_singleton.1 hy]; rfl) (by simp only [List.length_singleton]; omega) (by simp only [List.length_singleton]; omega) (.inr rfl) (ys := (tiX h (cpK d s i (k + 1))).map dI) (by rw [cpK_succ, tiX_snoc, List.map_append]; rfl) (n2 := (cpK d s i (k + 1)).length) (by rw [cpK_succ, List.length_append]; rfl) fun b151 c151 => ?_
      refine sto sz.Ratss rfl rfl rfl rfl rfl (nb9 rfl) (cells2 := [_,_,_,_,_,_,_,_,_,_,_]) rfl (faP fd.Hidden_7 rfl rfl (sto sz.bools rfl rfl rfl rfl rfl (nb9 rfl) (cells2 := [_,_,_,_,_,_,_,_,_,_,_]) rfl (faP fd.Hidden_8 rfl rfl (sto sz.ints rfl rfl rfl rfl rfl (nb9 rfl) (cells2 := [_,_,_,_,_,_,_,_,_,_,_]) rfl (OL.nil (AW.rg hE rfl (add_i64 rfl rfl (by omega) ?_)))))))
      refine mvD rfl (OL.nil ?_)
      exact AW.again (x := (k, p1, c1, p2, c2, p3, c3, p4, c4, p5, c5)) (k + 1, b116, c116, b121, c121, b133, c133, b142, c142, b151, c151) (by (simp only []; omega)) ⟨by omega, Knows.app .rq10 .rq1, Owns.app (.cons rfl (.cons rfl .nil)) (.cons rfl (.cons rfl (.cons rfl (.cons rfl (.cons rfl (.cons rfl .nil))))))⟩
    ·try simp only [dx9] at h84
     refine AW.exit ?_
     obtain rfl : k = (entR d s i).length := by omega
     refine AW.rg hE rfl (add_i64 rfl rfl (by omega) (mvD rfl (OL.nil ?_)))
     exact AW.again (x := (i, p1, c1, p2, c2, p3, c3, p4, c4, p5, c5)) (i + 1, p1, c1, p2, c2, p3, c3, p4, c4, p5, c5) (by (simp only []; omega)) ⟨by omega, Knows.app .rq7 .rq1, Owns.app (.cons rfl (.cons rfl .nil)) (.cons rfl (.cons rfl (.cons rfl (.cons rfl (.cons rfl (.cons rfl .nil))))))⟩
   ·try simp only [dx9] at h76
    refine AW.exit (AW.seq ?_)
    obtain rfl : i = h.st := by omega
    refine AW.rg hE rfl (ldPA ag.Hidden rfl rfl (vs := [_,_,_,_,_,_,_,_,_,_,_]) rfl (nb9 rfl) (sto sz.Hidden rfl rfl rfl rfl rfl (nb9 rfl) (cells2 := [_,_,_,_,_,_,_,_,_,_,_]) rfl (asD rfl (OL.nil ?_))))
    exact AW.ret (RetQ.r ⟨_, .cellA rfl rfl ag.Hidden (nb9 rfl) (.tmp rfl .nil), _, .cons (.ag (.cons (.le (VLe.refl _)) (.cons (.le (VLe.refl _)) (.cons (.le (VLe.refl _)) (.cons (.le (VLe.refl _)) (.cons (.le (VLe.refl _)) (.cons (.le (VLe.refl _)) (.cons (RO.row rfl (by rw [List.length_map, trX_len]) rfl) (.cons (RO.row rfl (by rw [List.length_map, stX, List.length_map]) rfl) (.cons (RO.row rfl (by rw [List.length_map, emX, List.length_map]) rfl) (.cons (RO.row rfl (by rw [List.length_map, List.length_replicate]) rfl) (.cons (RO.row rfl (by rw [List.length_map, tiX, List.length_map]) rfl) .nil)))))))))))) (.cons (.le (VLe.refl _)) .nil), rfl⟩)
end Go.Proofs.YtippcclgnabpdaaGreatDoor

/-
  Walks for the law CheckpointCuts: the best way of all (printed by mk2.py).
-/
import Derived.Test.YtjghehkgmanmbaaGreatKKwM
set_option linter.unusedVariables false
set_option linter.unusedSimpArgs false
namespace Go.Proofs.YtjghehkgmanmbaaGreat
open Go Go.AL
theorem vRM_rmOf (h : HM) : vRM (rmOf h) = vHM h := by
 have e : ∀ l : List Rat, dRs (l.map ofQ) = dQs l := fun l => by unfold dRs dQs; rw [List.map_map]; rfl
 have e2 : ∀ l : List (List Rat), dRss (l.map (List.map ofQ)) = dQss l := fun l => by
  unfold dRss dQss; rw [List.map_map]; congr 1; exact List.map_congr_left fun x _ => e x
 unfold vRM vHM rmOf
 rw [e, e, e2, e2]
theorem ref34_CheckW {h : HM} {w : List Int} (g : h.GoodW 1048576) (kw : WordOK h w) : FSpec P F.ref34_Check [vHM h, .d (ints w)] (.d (dI 0)) := by
 have k := ref34_CheckR (h := rmOf h) (w := w) (good_sz g) (Nat.le_trans kw.1 (by decide))
 rw [vRM_rmOf, wrdE_0 (good_chkP g) (by rw [hm_rmOf]; exact kw)] at k
 exact k
def curV (v : Rat × List Int) (b c : Nat) : V := if 0 < v.1 then .osl 1001 b 1 c else .mt
theorem vle_mt_if {p : Prop} [Decidable p] (hp : ¬ p) {l : List Int} : VLe .mt (.d (ints (if p then l else []))) := by rw [if_neg hp]; exact VLe.mt
theorem vle_v {x v v2 : V} (h : x = v) (e : v = v2) : VLe x v2 := vle_of_eq (h.trans e)
section
variable {P : Program} {m : Nat} {ops : Array Oper} {K : S → Prop} {r : List Oper} {s : S} {dst : Option Nat} {ty : TypeId} {pos : String} {after : Array Edge}
theorem mvV {x : Operand} {v : V} (hx : s.ev x = v) (h : OL P m ops K r (s.put dst v)) : OL P m ops K (⟨dst, .move x, ty, pos, after, none⟩ :: r) s := OL.pure (hx ▸ Pure.move x) h
theorem asV {x : Operand} {v : V} (hx : s.ev x = v) (h : OL P m ops K r (s.put dst v)) : OL P m ops K (⟨dst, .assign x, ty, pos, after, none⟩ :: r) s := OL.pure (hx ▸ Pure.assign x) h
end
theorem AW.closeV {E : Env} {k : Code} {Q : Exit → S → Prop} {s : S} (v : Rat × List Int) (t : Nat) {b c : Nat} (hM : s.M 1001 = some (bkW v b c)) (ht : s.ρ t = curV v b c) (h : AW P E k Q (st [(t, .d (dWl v))] [])) : AW P E k Q s := by
 by_cases hp : 0 < v.1
 ·rw [bkW, if_pos hp] at hM
  rw [curV, if_pos hp] at ht
  refine AW.freeze 1001 hM (AW.to [(t, .d (dWl v))] [] (.cons ?_ .nil) .nil h)
  show VLe (V.frz 1001 b c [dWay v] (s.ρ t)) _
  rw [ht]
  exact frz_osl rfl (by rw [if_pos hp])
 ·rw [curV, if_neg hp] at ht
  refine AW.to [(t, .d (dWl v))] [] (.cons ?_ .nil) .nil h
  rw [ht, dWl, if_neg hp]
  exact VLe.mt
theorem cases26 {p : Nat → Prop} (h0 : p 0) (h1 : p 1) (h2 : p 2) (h3 : p 3) (h4 : p 4) (h5 : p 5) (h6 : p 6) (h7 : p 7) (h8 : p 8) (h9 : p 9) (h10 : p 10) (h11 : p 11) (h12 : p 12) (h13 : p 13) (h14 : p 14) (h15 : p 15) (h16 : p 16) (h17 : p 17) (h18 : p 18) (h19 : p 19) (h20 : p 20) (h21 : p 21) (h22 : p 22) (h23 : p 23) (h24 : p 24) (h25 : p 25) : ∀ i, i < 26 → p i := fun i hi => by
 rcases Nat.lt_or_ge i 24 with h | h
 ·exact cases24 h0 h1 h2 h3 h4 h5 h6 h7 h8 h9 h10 h11 h12 h13 h14 h15 h16 h17 h18 h19 h20 h21 h22 h23 i h
 ·have : i = 24 ∨ i = 25 := by omega
  rcases this with rfl | rfl <;> assumption
def own11 : Nat → Option Nat
 | 43 => some 0 | 44 => some 1 | 45 => some 2 | 46 => some 3 | 47 => some 4 | 48 => some 5 | 49 => some 6 | 50 => some 7 | 51 => some 8 | 52 => some 9 | 53 => some 10 | 54 => some 11 | 55 => some 12 | 56 => some 13 | 57 => some 14 | 58 => some 15 | 59 => some 16 | 60 => some 17 | 61 => some 18 | 62 => some 19 | 63 => some 20 | 64 => some 21 | 65 => some 22 | 66 => some 23 | 67 => some 24 | 68 => some 25
 | _ => none
theorem own11_inj {t i : Nat} (h : own11 t = some i) : t = [43, 44, 45, 46, 47, 48, 49, 50, 51, 52, 53, 54, 55, 56, 57, 58, 59, 60, 61, 62, 63, 64, 65, 66, 67, 68].getD i 0 := by
 unfold own11 at h
 split at h <;> first | (cases h; rfl) | cases h
noncomputable def val11 (h : HM) (c9 : D) (v : Rat × List Int) (i b4 : Nat) (cur : V) (x : Rat) (r : Nat × Nat → V) (t : Nat) (β : Nat → Nat × Nat) : V :=
 match t with
 | 43 => cur
 | 44 | 52 => .d c9
 | 45 | 53 | 62 => .d (dI i)
 | 46 | 54 => .ref [dWl v]
 | 47 | 55 => .d (dWl v)
 | 48 | 56 => .d (dI (0 : Nat))
 | 49 | 57 | 50 => .ref [ints v.2, dB (ofQ v.1).neg, u32s (ofQ v.1).num, u32s (ofQ v.1).den]
 | 51 => .d (ints v.2)
 | 58 => .ref [dB (ofQ v.1).neg, u32s (ofQ v.1).num, u32s (ofQ v.1).den]
 | 59 => vQ v.1
 | 60 => .ptr 4 b4 7
 | 61 => .d (dQs h.stop)
 | 63 => .ref (dQ (h.stop.getD i 0)).cells
 | 64 => vQ (h.stop.getD i 0)
 | 65 => vQ x
 | 66 => vWay (x, v.2)
 | 67 => .d (dI 1)
 | 68 => r (β 68)
 | _ => .junk
theorem put_zeroV {v : V} {w : Rat × List Int} {k : Int} (h : w.1 = 0) : FSpec P F.ref35_put [v, vWay w, .d (dI k)] (v) := by
 have z0 : sz w.1 ≤ 68719476736 := by rw [h, sz_zero]; decide
 refine FSpec.intro fn.ref35_put (by rfl) (by rfl) (nb9 (by rfl)) fun E hE => (AW.sg hE rfl (bxA rfl rfl fun b4 => (asM rfl (OL.nil (AW.seq (AW.sg hE rfl (faP fd.Way_1 rfl rfl ?_)))))))
 refine ldPA ag.Rat rfl rfl (vs := [_,_,_]) rfl (nb9 rfl) (clv rfl (.cons (VLe.refl _) (.nil)) (ref_SignQ (x := w.1) (by omega)) (c_eql rfl rfl (c := true) (decide_eq_true (sgnQ_eq.2 h)) (OL.nil (AW.cond rfl (fun _ => ?_) (fun hno => absurd hno (by decide))))))
 exact AW.sg hE rfl (mvV rfl (asV rfl (OL.nil (AW.ret (RetQ.r ⟨_, .tmp rfl .nil, .le (VLe.refl _)⟩)))))
set_option maxRecDepth 8000 in
set_option maxHeartbeats 3200000 in
theorem ref35_list {h : HM} {w : List Int} (g : h.GoodW 1048576) (kw : WordOK h w) (hw0 : w.length ≠ 0) : FSpec P F.ref35_list [vHM h, .d (ints w), .d nilD, .d (dI 1)] (.d (dWl (endW h (wayF h w w.length) h.st))) := by
 have f := g.form
 have n0 := f.st0
 have n1 := f.st1
 have e3 := f.stop
 have k1 := kw.1
 refine FSpec.intro fn.ref35_list (by rfl) (by rfl) (nb9 (by rfl)) fun E hE => (AW.sg hE rfl (bxA rfl rfl fun b4 => (asM rfl (OL.nil (AW.seq (AW.sg hE rfl (mvD rfl ?_)))))))
 refine lnL sl.ints rfl rfl (c_eql rfl rfl (c := false) (decide_eq_false (by omega)) (OL.nil (AW.cond rfl (fun hno => absurd hno (by decide)) (fun _ => ?_))))
 refine AW.skip (AW.sg hE rfl (asM rfl (OL.nil (AW.sg hE rfl (ldPA ag.Hidden rfl rfl (vs := [_,_,_,_,_,_,_,_,_,_,_]) rfl (nb9 rfl) (mvD rfl (mvD rfl ?_)))))))
 refine mvD rfl (clv rfl (.cons (VLe.refl _) (.cons (VLe.refl _) (.cons (VLe.refl _) (.cons (VLe.refl _) (.nil))))) (ref35_Ways g kw hw0) (asD rfl (OL.nil (AW.seq (AW.sg hE rfl (asD rfl (OL.nil ?_)))))))
 refine AW.block (AW.dead 1001 rfl ?_)
 refine AW.whileK (α := Nat × Nat × Nat) [(3, _), (4, _), (8, _), (10, _)] [(4, _)] (fun (i, b, c) => [(9, curV (endW h (wayF h w w.length) i) b c), (11, .d (dI i))]) (fun (i, b, c) => [(1001, bkW (endW h (wayF h w w.length) i) b c)]) (fun (i, b, c) => i ≤ h.st) (fun (i, b, c) => h.st - i) (0, 0, 0) (.cons (knD rfl) (.cons (knP rfl) (.cons (knM rfl) (.cons (knD rfl) .nil)))) (.cons (owB rfl) .nil) ⟨Nat.zero_le _, .cons (vle_of_eq (if_neg (by show ¬ (0 : Rat) < 0; decide)).symm) (.cons (VLe.refl _) .nil), .cons (congrArg some (if_neg (by show ¬ (0 : Rat) < 0; decide)).symm) .nil⟩ ?_
 rintro ⟨i, b, c⟩ h4
 have h4 : i ≤ h.st := h4
 refine AW.seq (AW.sg hE rfl (mvD rfl (faP fd.Hidden_1 rfl rfl (ldPC ce.int rfl rfl rfl (c_lss rfl rfl rfl (OL.nil (AW.cond rfl (fun h31 => ?_) (fun h31 => ?_))))))))
 ·try simp only [dx9] at h31
  refine AW.skip (AW.seq (AW.block (AW.sg hE rfl (asD rfl (OL.nil (AW.block ?_))))))
  have hi : i < h.st := by omega
  refine AW.whileK (α := Nat × Nat × Nat) [(3, _), (4, _), (8, _), (10, _), (11, _)] [(4, _)] (fun (m_, b3, c3) => [(9, curV (if m_ = 0 then (endW h (wayF h w w.length) i) else (endW h (wayF h w w.length) (i + 1))) b3 c3), (12, .d (dI m_))]) (fun (m_, b3, c3) => [(1001, bkW (if m_ = 0 then (endW h (wayF h w w.length) i) else (endW h (wayF h w w.length) (i + 1))) b3 c3)]) (fun (m_, b3, c3) => m_ ≤ 1) (fun (m_, b3, c3) => 1 - m_) (0, b, c) (.cons (knD rfl) (.cons (knP rfl) (.cons (knM rfl) (.cons (knD rfl) (.cons (knD rfl) .nil))))) (.cons (owB rfl) .nil) ⟨Nat.zero_le _, .cons (VLe.refl _) (.cons (VLe.refl _) .nil), .cons rfl .nil⟩ ?_
  rintro ⟨m_, b3, c3⟩ h6
  have h6 : m_ ≤ 1 := h6
  refine AW.seq (AW.sg hE rfl (mvD rfl (mvD rfl (mvD rfl (ixDn sl.Wayss rfl rfl (el := dWl (wayF h w w.length i)) (col_el (by omega)) rfl rfl (ldRC ce.Ways rfl (lnD sl.Ways rfl rfl (n := if 0 < (wayF h w w.length i).1 then 1 else 0) (by split <;> rfl) ?_)))))))
  refine c_lss rfl rfl rfl (OL.nil (AW.cond rfl (fun h84 => ?_) (fun h84 => ?_)))
  ·have h84 : (m_ : Int) < ((if 0 < (wayF h w w.length i).1 then 1 else 0 : Nat) : Int) := of_decide_eq_true h84
   have hv : 0 < (wayF h w w.length i).1 := Decidable.byContradiction fun e => by rw [if_neg e] at h84; omega
   rw [if_pos hv] at h84
   obtain rfl : m_ = 0 := by omega
   refine AW.skip ?_
   refine AW.midK (α := Nat × Nat) [(3, _), (4, _), (8, _), (10, _), (11, _), (12, _)] [(4, _)] (fun (b2, c2) => [(9, curV (endW h (wayF h w w.length) (i + 1)) b2 c2)]) (fun (b2, c2) => [(1001, bkW (endW h (wayF h w w.length) (i + 1)) b2 c2)]) (fun (b2, c2) => True) (.cons (knD rfl) (.cons (knP rfl) (.cons (knM rfl) (.cons (knD rfl) (.cons (knD rfl) (.cons (knD rfl) .nil)))))) (.cons (owB rfl) .nil) ?_ ?_
   ·refine AW.block ?_
    have hvl := wayF_len g w w.length i hv
    have hcl := endW_len g (wayF_nonneg g w w.length) (wayF_len g w w.length) i
    have hcn := endW_nonneg g (wayF_nonneg g w w.length) i
    have hxn : 0 ≤ ((wayF h w w.length i).1 * h.stop.getD i 0) := Rat.mul_nonneg (wayF_nonneg g w w.length i) (stop_nonneg g i)
    have zcu := endW_szW f (wayF_szW f w w.length) i
    have zv := wayF_szW f w w.length i
    have zst := stop_szV f i
    have zx : sz ((wayF h w w.length i).1 * h.stop.getD i 0) ≤ sz (wayF h w w.length i).1 + sz (h.stop.getD i 0) := sz_mul _ _
    have hnx0 : (endW h (wayF h w w.length) (i + 1)) = putW ((wayF h w w.length i).1 * h.stop.getD i 0) (wayF h w w.length i).2 (endW h (wayF h w w.length) i) := rfl
    by_cases hx0 : ((wayF h w w.length i).1 * h.stop.getD i 0) = 0
    ·have hnx : (endW h (wayF h w w.length) (i + 1)) = (endW h (wayF h w w.length) i) := by rw [hnx0, hx0, putW_zero hcn]
     refine AW.region_planM (val11 h (colW h w w.length) (wayF h w w.length i) i b4 (curV (endW h (wayF h w w.length) i) b3 c3) ((wayF h w w.length i).1 * h.stop.getD i 0) (fun _ => (curV (endW h (wayF h w w.length) i) b3 c3))) own11 (fun M0 _ _ => M0) 26 (fun β L hL => rfl) order_free (by rw [hE]; rfl) (by rfl) (by kernel_rfl) (by kernel_rfl) ?_ ?_
     ·refine cases26 ?_ ?_ ?_ ?_ ?_ ?_ ?_ ?_ ?_ ?_ ?_ ?_ ?_ ?_ ?_ ?_ ?_ ?_ ?_ ?_ ?_ ?_ ?_ ?_ ?_ ?_
      ·exact fun β L c9 => ⟨_, rfl, .inl (OG.of_OL (mvV ((pG_old rfl).trans rfl) ⟨β, pG_put (d := 43) (i := 0) rfl (fun t ht => own11_inj ht) (lt_size 27 c9.size rfl (by decide)) rfl⟩))⟩
      ·exact fun β L c9 => ⟨_, rfl, .inl (OG.of_OL (mvD (y := colW h w w.length) ((pG_old rfl).trans rfl) ⟨β, pG_put (d := 44) (i := 1) rfl (fun t ht => own11_inj ht) (lt_size 27 c9.size rfl (by decide)) rfl⟩))⟩
      ·exact fun β L c9 => ⟨_, rfl, .inl (OG.of_OL (mvD (y := dI i) ((pG_old rfl).trans rfl) ⟨β, pG_put (d := 45) (i := 2) rfl (fun t ht => own11_inj ht) (lt_size 27 c9.size rfl (by decide)) rfl⟩))⟩
      ·exact fun β L c9 => ⟨_, rfl, .inl (OG.of_OL (ixDn sl.Wayss (pG_new rfl (c9.dep 1 (by kernel_rfl))) (pG_new rfl (c9.dep 2 (by kernel_rfl))) (el := dWl (wayF h w w.length i)) (col_el (by omega)) rfl rfl ⟨β, pG_put (d := 46) (i := 3) rfl (fun t ht => own11_inj ht) (lt_size 27 c9.size rfl (by decide)) rfl⟩))⟩
      ·exact fun β L c9 => ⟨_, rfl, .inl (OG.of_OL (ldRC ce.Ways (pG_new rfl (c9.dep 3 (by kernel_rfl))) ⟨β, pG_put (d := 47) (i := 4) rfl (fun t ht => own11_inj ht) (lt_size 27 c9.size rfl (by decide)) rfl⟩))⟩
      ·exact fun β L c9 => ⟨_, rfl, .inl (OG.of_OL (mvD (y := dI (0 : Nat)) ((pG_old rfl).trans rfl) ⟨β, pG_put (d := 48) (i := 5) rfl (fun t ht => own11_inj ht) (lt_size 27 c9.size rfl (by decide)) rfl⟩))⟩
      ·exact fun β L c9 => ⟨_, rfl, .inl (OG.of_OL (ixDn (n := 0) sl.Ways (pG_new rfl (c9.dep 4 (by kernel_rfl))) (pG_new rfl (c9.dep 5 (by kernel_rfl))) (el := dWay (wayF h w w.length i)) (by rw [if_pos hv]; rfl) rfl rfl ⟨β, pG_put (d := 49) (i := 6) rfl (fun t ht => own11_inj ht) (lt_size 27 c9.size rfl (by decide)) rfl⟩))⟩
      ·exact fun β L c9 => ⟨_, rfl, .inl (OG.of_OL (faR fd.Way_0 (pG_new rfl (c9.dep 6 (by kernel_rfl))) rfl ⟨β, pG_put (d := 50) (i := 7) rfl (fun t ht => own11_inj ht) (lt_size 27 c9.size rfl (by decide)) rfl⟩))⟩
      ·exact fun β L c9 => ⟨_, rfl, .inl (OG.of_OL (ldRC ce.ints (pG_new rfl (c9.dep 7 (by kernel_rfl))) ⟨β, pG_put (d := 51) (i := 8) rfl (fun t ht => own11_inj ht) (lt_size 27 c9.size rfl (by decide)) rfl⟩))⟩
      ·exact fun β L c9 => ⟨_, rfl, .inl (OG.of_OL (mvD (y := colW h w w.length) ((pG_old rfl).trans rfl) ⟨β, pG_put (d := 52) (i := 9) rfl (fun t ht => own11_inj ht) (lt_size 27 c9.size rfl (by decide)) rfl⟩))⟩
      ·exact fun β L c9 => ⟨_, rfl, .inl (OG.of_OL (mvD (y := dI i) ((pG_old rfl).trans rfl) ⟨β, pG_put (d := 53) (i := 10) rfl (fun t ht => own11_inj ht) (lt_size 27 c9.size rfl (by decide)) rfl⟩))⟩
      ·exact fun β L c9 => ⟨_, rfl, .inl (OG.of_OL (ixDn sl.Wayss (pG_new rfl (c9.dep 9 (by kernel_rfl))) (pG_new rfl (c9.dep 10 (by kernel_rfl))) (el := dWl (wayF h w w.length i)) (col_el (by omega)) rfl rfl ⟨β, pG_put (d := 54) (i := 11) rfl (fun t ht => own11_inj ht) (lt_size 27 c9.size rfl (by decide)) rfl⟩))⟩
      ·exact fun β L c9 => ⟨_, rfl, .inl (OG.of_OL (ldRC ce.Ways (pG_new rfl (c9.dep 11 (by kernel_rfl))) ⟨β, pG_put (d := 55) (i := 12) rfl (fun t ht => own11_inj ht) (lt_size 27 c9.size rfl (by decide)) rfl⟩))⟩
      ·exact fun β L c9 => ⟨_, rfl, .inl (OG.of_OL (mvD (y := dI (0 : Nat)) ((pG_old rfl).trans rfl) ⟨β, pG_put (d := 56) (i := 13) rfl (fun t ht => own11_inj ht) (lt_size 27 c9.size rfl (by decide)) rfl⟩))⟩
      ·exact fun β L c9 => ⟨_, rfl, .inl (OG.of_OL (ixDn (n := 0) sl.Ways (pG_new rfl (c9.dep 12 (by kernel_rfl))) (pG_new rfl (c9.dep 13 (by kernel_rfl))) (el := dWay (wayF h w w.length i)) (by rw [if_pos hv]; rfl) rfl rfl ⟨β, pG_put (d := 57) (i := 14) rfl (fun t ht => own11_inj ht) (lt_size 27 c9.size rfl (by decide)) rfl⟩))⟩
      ·exact fun β L c9 => ⟨_, rfl, .inl (OG.of_OL (faR fd.Way_1 (pG_new rfl (c9.dep 14 (by kernel_rfl))) rfl ⟨β, pG_put (d := 58) (i := 15) rfl (fun t ht => own11_inj ht) (lt_size 27 c9.size rfl (by decide)) rfl⟩))⟩
      ·exact fun β L c9 => ⟨_, rfl, .inl (OG.of_OL (ldRA ag.Rat (pG_new rfl (c9.dep 15 (by kernel_rfl))) (vs := cellsQ (wayF h w w.length i).1) rfl (nb9 rfl) ⟨β, pG_put (d := 59) (i := 16) rfl (fun t ht => own11_inj ht) (lt_size 27 c9.size rfl (by decide)) rfl⟩))⟩
      ·exact fun β L c9 => ⟨_, rfl, .inl (OG.of_OL (faP fd.Hidden_5 (b := b4) (o := 0) (id := 4) ((pG_old rfl).trans rfl) rfl ⟨β, pG_put (d := 60) (i := 17) rfl (fun t ht => own11_inj ht) (lt_size 27 c9.size rfl (by decide)) rfl⟩))⟩
      ·exact fun β L c9 => ⟨_, rfl, .inl (OG.of_OL (ldPC ce.Rats (pG_new rfl (c9.dep 17 (by kernel_rfl))) (pG_M (t := 4) (v := some (.box b4 T.Hidden (cellsHM h))) rfl) (v := .d (dQs h.stop)) rfl ⟨β, pG_put (d := 61) (i := 18) rfl (fun t ht => own11_inj ht) (lt_size 27 c9.size rfl (by decide)) rfl⟩))⟩
      ·exact fun β L c9 => ⟨_, rfl, .inl (OG.of_OL (mvD (y := dI i) ((pG_old rfl).trans rfl) ⟨β, pG_put (d := 62) (i := 19) rfl (fun t ht => own11_inj ht) (lt_size 27 c9.size rfl (by decide)) rfl⟩))⟩
      ·exact fun β L c9 => ⟨_, rfl, .inl (OG.of_OL (ixLn sl.Rats 0 (l := h.stop) (f := dQ) (i := i) (pG_new rfl (c9.dep 18 (by kernel_rfl))) (pG_new rfl (c9.dep 19 (by kernel_rfl))) (by omega) (cs := (dQ (h.stop.getD i 0)).cells) rfl rfl ⟨β, pG_put (d := 63) (i := 20) rfl (fun t ht => own11_inj ht) (lt_size 27 c9.size rfl (by decide)) rfl⟩))⟩
      ·exact fun β L c9 => ⟨_, rfl, .inl (OG.of_OL (ldRA ag.Rat (pG_new rfl (c9.dep 20 (by kernel_rfl))) (vs := cellsQ (h.stop.getD i 0)) rfl (nb9 rfl) ⟨β, pG_put (d := 64) (i := 21) rfl (fun t ht => own11_inj ht) (lt_size 27 c9.size rfl (by decide)) rfl⟩))⟩
      ·exact fun β L c9 => ⟨_, rfl, .inl (OG.of_OL (clv rfl (.cons (vle_of_eq (pG_new rfl (c9.dep 16 (by kernel_rfl)))) (.cons (vle_of_eq (pG_new rfl (c9.dep 21 (by kernel_rfl)))) .nil)) (ref_MulQ (x := (wayF h w w.length i).1) (y := h.stop.getD i 0) (by omega) (by omega)) ⟨β, pG_put (d := 65) (i := 22) rfl (fun t ht => own11_inj ht) (lt_size 27 c9.size rfl (by decide)) rfl⟩))⟩
      ·exact fun β L c9 => ⟨_, rfl, .inl (OG.of_OL (bd2 (cs := [_,_,_,_]) z.Way pl.Way (pvC (pG_new rfl (c9.dep 8 (by kernel_rfl))) (pvC (pG_new rfl (c9.dep 22 (by kernel_rfl))) pvN)) (by rfl) ⟨β, pG_put (d := 66) (i := 23) rfl (fun t ht => own11_inj ht) (lt_size 27 c9.size rfl (by decide)) rfl⟩))⟩
      ·exact fun β L c9 => ⟨_, rfl, .inl (OG.of_OL (mvD (y := dI 1) ((pG_old rfl).trans rfl) ⟨β, pG_put (d := 67) (i := 24) rfl (fun t ht => own11_inj ht) (lt_size 27 c9.size rfl (by decide)) rfl⟩))⟩
      ·exact fun β L c9 => ⟨_, rfl, .inl (OG.of_OL (clv rfl (.cons (vle_of_eq (pG_new rfl (c9.dep 0 (by kernel_rfl)))) (.cons (vle_of_eq (pG_new rfl (c9.dep 23 (by kernel_rfl)))) (.cons (vle_of_eq (pG_new rfl (c9.dep 24 (by kernel_rfl)))) .nil))) (put_zeroV (v := (curV (endW h (wayF h w w.length) i) b3 c3)) (w := (((wayF h w w.length i).1 * h.stop.getD i 0), (wayF h w w.length i).2)) (k := 1) hx0) ⟨β, pG_put (d := 68) (i := 25) rfl (fun t ht => own11_inj ht) (lt_size 27 c9.size rfl (by decide)) rfl⟩))⟩
     refine fun β L c9 => ⟨_, rfl, .inl (OG.of_OL (asV (pG_new rfl (c9.dep 25 (by kernel_rfl))) ?_))⟩
     refine OL.nil ?_
     exact AW.reach (b3, c3) ⟨trivial, Knows.app (.cons (vle_of_eq (putneS (show (3:Nat) ≠ 9 by decide) ((pG_old rfl).trans rfl))) (.cons (vle_of_eq (putneS (show (4:Nat) ≠ 9 by decide) ((pG_old rfl).trans rfl))) (.cons (vle_of_eq (putneS (show (8:Nat) ≠ 9 by decide) ((pG_old rfl).trans rfl))) (.cons (vle_of_eq (putneS (show (10:Nat) ≠ 9 by decide) ((pG_old rfl).trans rfl))) (.cons (vle_of_eq (putneS (show (11:Nat) ≠ 9 by decide) ((pG_old rfl).trans rfl))) (.cons (vle_of_eq (putneS (show (12:Nat) ≠ 9 by decide) ((pG_old rfl).trans rfl))) (.nil))))))) (.cons (vle_v (v := (curV (endW h (wayF h w w.length) i) b3 c3)) putsmS (congrArg (fun z => curV z b3 c3) hnx.symm)) .nil), Owns.app (.cons (putM (pG_M (t := 4) (v := some (.box b4 T.Hidden (cellsHM h))) rfl)) (.nil)) (.cons (by rw [hnx]; exact putM (pG_M rfl)) .nil)⟩
    ·have hxp : 0 < ((wayF h w w.length i).1 * h.stop.getD i 0) := (rat_pos hxn).resolve_right fun e => hx0 e.symm
     by_cases hc0 : 0 < (endW h (wayF h w w.length) i).1
     ·have hnx : (endW h (wayF h w w.length) (i + 1)) = if befW (((wayF h w w.length i).1 * h.stop.getD i 0), (wayF h w w.length i).2) (endW h (wayF h w w.length) i) = true then (((wayF h w w.length i).1 * h.stop.getD i 0), (wayF h w w.length i).2) else (endW h (wayF h w w.length) i) := by rw [hnx0, put_bef hc0 hxp (by rw [hvl, hcl hc0])]
      have hpn : 0 < (endW h (wayF h w w.length) (i + 1)).1 := by rw [hnx]; split; exact hxp; exact hc0
      refine AW.region_planM (val11 h (colW h w w.length) (wayF h w w.length i) i b4 (curV (endW h (wayF h w w.length) i) b3 c3) ((wayF h w w.length i).1 * h.stop.getD i 0) (fun x => .osl 1001 x.1 1 x.2)) own11 (mfC 25 68 1001 fun x => .row x.1 x.2 T.Way 4 [dWay (endW h (wayF h w w.length) (i + 1))]) 26 (fun β L hL => mfC_none (hL 25)) order_free (by rw [hE]; rfl) (by rfl) (by kernel_rfl) (by kernel_rfl) ?_ ?_
      ·refine cases26 ?_ ?_ ?_ ?_ ?_ ?_ ?_ ?_ ?_ ?_ ?_ ?_ ?_ ?_ ?_ ?_ ?_ ?_ ?_ ?_ ?_ ?_ ?_ ?_ ?_ ?_
       ·exact fun β L c9 => ⟨_, rfl, .inl (OG.of_OL (mvV ((pG_old rfl).trans rfl) ⟨β, pG_put (d := 43) (i := 0) rfl (fun t ht => own11_inj ht) (lt_size 27 c9.size rfl (by decide)) (mfC_same (lt_size 27 c9.size rfl (by decide)) (by decide))⟩))⟩
       ·exact fun β L c9 => ⟨_, rfl, .inl (OG.of_OL (mvD (y := colW h w w.length) ((pG_old rfl).trans rfl) ⟨β, pG_put (d := 44) (i := 1) rfl (fun t ht => own11_inj ht) (lt_size 27 c9.size rfl (by decide)) (mfC_same (lt_size 27 c9.size rfl (by decide)) (by decide))⟩))⟩
       ·exact fun β L c9 => ⟨_, rfl, .inl (OG.of_OL (mvD (y := dI i) ((pG_old rfl).trans rfl) ⟨β, pG_put (d := 45) (i := 2) rfl (fun t ht => own11_inj ht) (lt_size 27 c9.size rfl (by decide)) (mfC_same (lt_size 27 c9.size rfl (by decide)) (by decide))⟩))⟩
       ·exact fun β L c9 => ⟨_, rfl, .inl (OG.of_OL (ixDn sl.Wayss (pG_new rfl (c9.dep 1 (by kernel_rfl))) (pG_new rfl (c9.dep 2 (by kernel_rfl))) (el := dWl (wayF h w w.length i)) (col_el (by omega)) rfl rfl ⟨β, pG_put (d := 46) (i := 3) rfl (fun t ht => own11_inj ht) (lt_size 27 c9.size rfl (by decide)) (mfC_same (lt_size 27 c9.size rfl (by decide)) (by decide))⟩))⟩
       ·exact fun β L c9 => ⟨_, rfl, .inl (OG.of_OL (ldRC ce.Ways (pG_new rfl (c9.dep 3 (by kernel_rfl))) ⟨β, pG_put (d := 47) (i := 4) rfl (fun t ht => own11_inj ht) (lt_size 27 c9.size rfl (by decide)) (mfC_same (lt_size 27 c9.size rfl (by decide)) (by decide))⟩))⟩
       ·exact fun β L c9 => ⟨_, rfl, .inl (OG.of_OL (mvD (y := dI (0 : Nat)) ((pG_old rfl).trans rfl) ⟨β, pG_put (d := 48) (i := 5) rfl (fun t ht => own11_inj ht) (lt_size 27 c9.size rfl (by decide)) (mfC_same (lt_size 27 c9.size rfl (by decide)) (by decide))⟩))⟩
       ·exact fun β L c9 => ⟨_, rfl, .inl (OG.of_OL (ixDn (n := 0) sl.Ways (pG_new rfl (c9.dep 4 (by kernel_rfl))) (pG_new rfl (c9.dep 5 (by kernel_rfl))) (el := dWay (wayF h w w.length i)) (by rw [if_pos hv]; rfl) rfl rfl ⟨β, pG_put (d := 49) (i := 6) rfl (fun t ht => own11_inj ht) (lt_size 27 c9.size rfl (by decide)) (mfC_same (lt_size 27 c9.size rfl (by decide)) (by decide))⟩))⟩
       ·exact fun β L c9 => ⟨_, rfl, .inl (OG.of_OL (faR fd.Way_0 (pG_new rfl (c9.dep 6 (by kernel_rfl))) rfl ⟨β, pG_put (d := 50) (i := 7) rfl (fun t ht => own11_inj ht) (lt_size 27 c9.size rfl (by decide)) (mfC_same (lt_size 27 c9.size rfl (by decide)) (by decide))⟩))⟩
       ·exact fun β L c9 => ⟨_, rfl, .inl (OG.of_OL (ldRC ce.ints (pG_new rfl (c9.dep 7 (by kernel_rfl))) ⟨β, pG_put (d := 51) (i := 8) rfl (fun t ht => own11_inj ht) (lt_size 27 c9.size rfl (by decide)) (mfC_same (lt_size 27 c9.size rfl (by decide)) (by decide))⟩))⟩
       ·exact fun β L c9 => ⟨_, rfl, .inl (OG.of_OL (mvD (y := colW h w w.length) ((pG_old rfl).trans rfl) ⟨β, pG_put (d := 52) (i := 9) rfl (fun t ht => own11_inj ht) (lt_size 27 c9.size rfl (by decide)) (mfC_same (lt_size 27 c9.size rfl (by decide)) (by decide))⟩))⟩
       ·exact fun β L c9 => ⟨_, rfl, .inl (OG.of_OL (mvD (y := dI i) ((pG_old rfl).trans rfl) ⟨β, pG_put (d := 53) (i := 10) rfl (fun t ht => own11_inj ht) (lt_size 27 c9.size rfl (by decide)) (mfC_same (lt_size 27 c9.size rfl (by decide)) (by decide))⟩))⟩
       ·exact fun β L c9 => ⟨_, rfl, .inl (OG.of_OL (ixDn sl.Wayss (pG_new rfl (c9.dep 9 (by kernel_rfl))) (pG_new rfl (c9.dep 10 (by kernel_rfl))) (el := dWl (wayF h w w.length i)) (col_el (by omega)) rfl rfl ⟨β, pG_put (d := 54) (i := 11) rfl (fun t ht => own11_inj ht) (lt_size 27 c9.size rfl (by decide)) (mfC_same (lt_size 27 c9.size rfl (by decide)) (by decide))⟩))⟩
       ·exact fun β L c9 => ⟨_, rfl, .inl (OG.of_OL (ldRC ce.Ways (pG_new rfl (c9.dep 11 (by kernel_rfl))) ⟨β, pG_put (d := 55) (i := 12) rfl (fun t ht => own11_inj ht) (lt_size 27 c9.size rfl (by decide)) (mfC_same (lt_size 27 c9.size rfl (by decide)) (by decide))⟩))⟩
       ·exact fun β L c9 => ⟨_, rfl, .inl (OG.of_OL (mvD (y := dI (0 : Nat)) ((pG_old rfl).trans rfl) ⟨β, pG_put (d := 56) (i := 13) rfl (fun t ht => own11_inj ht) (lt_size 27 c9.size rfl (by decide)) (mfC_same (lt_size 27 c9.size rfl (by decide)) (by decide))⟩))⟩
       ·exact fun β L c9 => ⟨_, rfl, .inl (OG.of_OL (ixDn (n := 0) sl.Ways (pG_new rfl (c9.dep 12 (by kernel_rfl))) (pG_new rfl (c9.dep 13 (by kernel_rfl))) (el := dWay (wayF h w w.length i)) (by rw [if_pos hv]; rfl) rfl rfl ⟨β, pG_put (d := 57) (i := 14) rfl (fun t ht => own11_inj ht) (lt_size 27 c9.size rfl (by decide)) (mfC_same (lt_size 27 c9.size rfl (by decide)) (by decide))⟩))⟩
       ·exact fun β L c9 => ⟨_, rfl, .inl (OG.of_OL (faR fd.Way_1 (pG_new rfl (c9.dep 14 (by kernel_rfl))) rfl ⟨β, pG_put (d := 58) (i := 15) rfl (fun t ht => own11_inj ht) (lt_size 27 c9.size rfl (by decide)) (mfC_same (lt_size 27 c9.size rfl (by decide)) (by decide))⟩))⟩
       ·exact fun β L c9 => ⟨_, rfl, .inl (OG.of_OL (ldRA ag.Rat (pG_new rfl (c9.dep 15 (by kernel_rfl))) (vs := cellsQ (wayF h w w.length i).1) rfl (nb9 rfl) ⟨β, pG_put (d := 59) (i := 16) rfl (fun t ht => own11_inj ht) (lt_size 27 c9.size rfl (by decide)) (mfC_same (lt_size 27 c9.size rfl (by decide)) (by decide))⟩))⟩
       ·exact fun β L c9 => ⟨_, rfl, .inl (OG.of_OL (faP fd.Hidden_5 (b := b4) (o := 0) (id := 4) ((pG_old rfl).trans rfl) rfl ⟨β, pG_put (d := 60) (i := 17) rfl (fun t ht => own11_inj ht) (lt_size 27 c9.size rfl (by decide)) (mfC_same (lt_size 27 c9.size rfl (by decide)) (by decide))⟩))⟩
       ·exact fun β L c9 => ⟨_, rfl, .inl (OG.of_OL (ldPC ce.Rats (pG_new rfl (c9.dep 17 (by kernel_rfl))) (pG_M (mfC_get (t := 4) (e := 1001) (b := .box b4 T.Hidden (cellsHM h)) (by decide) rfl)) (v := .d (dQs h.stop)) rfl ⟨β, pG_put (d := 61) (i := 18) rfl (fun t ht => own11_inj ht) (lt_size 27 c9.size rfl (by decide)) (mfC_same (lt_size 27 c9.size rfl (by decide)) (by decide))⟩))⟩
       ·exact fun β L c9 => ⟨_, rfl, .inl (OG.of_OL (mvD (y := dI i) ((pG_old rfl).trans rfl) ⟨β, pG_put (d := 62) (i := 19) rfl (fun t ht => own11_inj ht) (lt_size 27 c9.size rfl (by decide)) (mfC_same (lt_size 27 c9.size rfl (by decide)) (by decide))⟩))⟩
       ·exact fun β L c9 => ⟨_, rfl, .inl (OG.of_OL (ixLn sl.Rats 0 (l := h.stop) (f := dQ) (i := i) (pG_new rfl (c9.dep 18 (by kernel_rfl))) (pG_new rfl (c9.dep 19 (by kernel_rfl))) (by omega) (cs := (dQ (h.stop.getD i 0)).cells) rfl rfl ⟨β, pG_put (d := 63) (i := 20) rfl (fun t ht => own11_inj ht) (lt_size 27 c9.size rfl (by decide)) (mfC_same (lt_size 27 c9.size rfl (by decide)) (by decide))⟩))⟩
       ·exact fun β L c9 => ⟨_, rfl, .inl (OG.of_OL (ldRA ag.Rat (pG_new rfl (c9.dep 20 (by kernel_rfl))) (vs := cellsQ (h.stop.getD i 0)) rfl (nb9 rfl) ⟨β, pG_put (d := 64) (i := 21) rfl (fun t ht => own11_inj ht) (lt_size 27 c9.size rfl (by decide)) (mfC_same (lt_size 27 c9.size rfl (by decide)) (by decide))⟩))⟩
       ·exact fun β L c9 => ⟨_, rfl, .inl (OG.of_OL (clv rfl (.cons (vle_of_eq (pG_new rfl (c9.dep 16 (by kernel_rfl)))) (.cons (vle_of_eq (pG_new rfl (c9.dep 21 (by kernel_rfl)))) .nil)) (ref_MulQ (x := (wayF h w w.length i).1) (y := h.stop.getD i 0) (by omega) (by omega)) ⟨β, pG_put (d := 65) (i := 22) rfl (fun t ht => own11_inj ht) (lt_size 27 c9.size rfl (by decide)) (mfC_same (lt_size 27 c9.size rfl (by decide)) (by decide))⟩))⟩
       ·exact fun β L c9 => ⟨_, rfl, .inl (OG.of_OL (bd2 (cs := [_,_,_,_]) z.Way pl.Way (pvC (pG_new rfl (c9.dep 8 (by kernel_rfl))) (pvC (pG_new rfl (c9.dep 22 (by kernel_rfl))) pvN)) (by rfl) ⟨β, pG_put (d := 66) (i := 23) rfl (fun t ht => own11_inj ht) (lt_size 27 c9.size rfl (by decide)) (mfC_same (lt_size 27 c9.size rfl (by decide)) (by decide))⟩))⟩
       ·exact fun β L c9 => ⟨_, rfl, .inl (OG.of_OL (mvD (y := dI 1) ((pG_old rfl).trans rfl) ⟨β, pG_put (d := 67) (i := 24) rfl (fun t ht => own11_inj ht) (lt_size 27 c9.size rfl (by decide)) (mfC_same (lt_size 27 c9.size rfl (by decide)) (by decide))⟩))⟩
       ·exact fun β L c9 => ⟨_, rfl, SG.of_SO (SO.callO (id := 1001) (b := b3) (n := 1) (c := c3) (es := [dWay (endW h (wayF h w w.length) i)]) (argsF := fun l => [l, vWay (((wayF h w w.length i).1 * h.stop.getD i 0), (wayF h w w.length i).2), .d (dI 1)]) (show 68 < E.n by rw [hE]; exact Nat.le_of_ble_eq_true rfl) rfl (pG_M ((congrFun (mfC_none c9.no) 1001).trans (congrArg some (if_pos hc0)))) (.cons (VLe.trans (vle_v (v := (curV (endW h (wayF h w w.length) i) b3 c3)) (pG_new rfl (c9.dep 0 (by kernel_rfl))) (if_pos hc0)) vle_osl) (.cons (vle_of_eq (pG_new rfl (c9.dep 23 (by kernel_rfl)))) (.cons (vle_of_eq (pG_new rfl (c9.dep 24 (by kernel_rfl)))) .nil))) (by rw [hnx]; exact put_more (w := (((wayF h w w.length i).1 * h.stop.getD i 0), (wayF h w w.length i).2)) (a := (endW h (wayF h w w.length) i)) (show sz ((wayF h w w.length i).1 * h.stop.getD i 0) ≤ 68719476736 by omega) (show sz _ ≤ 68719476736 by omega) (show (wayF h w w.length i).2.length ≤ 1099511627776 by omega) hx0) fun b8 c8 => ⟨upd β 68 (b8, c8), pG_set (d := 68) (i := 25) (x := (b8, c8)) rfl (fun t ht => own11_inj ht) (lt_size 27 c9.size rfl (by decide)) rfl (mfC_set (lt_size 27 c9.size rfl (by decide)) c9.no) (fun t j ho hl => by unfold own11 at ho; split at ho <;> cases ho <;> first | rfl | (rw [c9.no] at hl; cases hl))⟩)⟩
      refine fun β L c9 => ⟨_, rfl, .inl (OG.of_OL (asV (pG_new rfl (c9.dep 25 (by kernel_rfl))) ?_))⟩
      refine OL.nil ?_
      exact AW.reach ((β 68).1, (β 68).2) ⟨trivial, Knows.app (.cons (vle_of_eq (putneS (show (3:Nat) ≠ 9 by decide) ((pG_old rfl).trans rfl))) (.cons (vle_of_eq (putneS (show (4:Nat) ≠ 9 by decide) ((pG_old rfl).trans rfl))) (.cons (vle_of_eq (putneS (show (8:Nat) ≠ 9 by decide) ((pG_old rfl).trans rfl))) (.cons (vle_of_eq (putneS (show (10:Nat) ≠ 9 by decide) ((pG_old rfl).trans rfl))) (.cons (vle_of_eq (putneS (show (11:Nat) ≠ 9 by decide) ((pG_old rfl).trans rfl))) (.cons (vle_of_eq (putneS (show (12:Nat) ≠ 9 by decide) ((pG_old rfl).trans rfl))) (.nil))))))) (.cons (vle_v putsmS (if_pos hpn).symm) .nil), Owns.app (.cons (putM (pG_M (mfC_get (t := 4) (e := 1001) (b := .box b4 T.Hidden (cellsHM h)) (by decide) rfl))) (.nil)) (.cons ((putM (pG_M (mfC_new (c9.dep 25 (by kernel_rfl))))).trans (congrArg some (if_pos hpn).symm)) .nil)⟩
     ·have hc00 : (endW h (wayF h w w.length) i).1 = 0 := Rat.le_antisymm (Rat.not_lt.1 hc0) hcn
      have hnx : (endW h (wayF h w w.length) (i + 1)) = (((wayF h w w.length i).1 * h.stop.getD i 0), (wayF h w w.length i).2) := by rw [hnx0]; exact if_pos (.inl (by rw [hc00]; exact hxp))
      have hpn : 0 < (endW h (wayF h w w.length) (i + 1)).1 := by rw [hnx]; exact hxp
      refine AW.region_planM (val11 h (colW h w w.length) (wayF h w w.length i) i b4 (curV (endW h (wayF h w w.length) i) b3 c3) ((wayF h w w.length i).1 * h.stop.getD i 0) (fun x => .osl 1001 x.1 1 x.2)) own11 (mfC 25 68 1001 fun x => .row x.1 x.2 T.Way 4 [dWay (endW h (wayF h w w.length) (i + 1))]) 26 (fun β L hL => mfC_none (hL 25)) order_free (by rw [hE]; rfl) (by rfl) (by kernel_rfl) (by kernel_rfl) ?_ ?_
      ·refine cases26 ?_ ?_ ?_ ?_ ?_ ?_ ?_ ?_ ?_ ?_ ?_ ?_ ?_ ?_ ?_ ?_ ?_ ?_ ?_ ?_ ?_ ?_ ?_ ?_ ?_ ?_
       ·exact fun β L c9 => ⟨_, rfl, .inl (OG.of_OL (mvV ((pG_old rfl).trans rfl) ⟨β, pG_put (d := 43) (i := 0) rfl (fun t ht => own11_inj ht) (lt_size 27 c9.size rfl (by decide)) (mfC_same (lt_size 27 c9.size rfl (by decide)) (by decide))⟩))⟩
       ·exact fun β L c9 => ⟨_, rfl, .inl (OG.of_OL (mvD (y := colW h w w.length) ((pG_old rfl).trans rfl) ⟨β, pG_put (d := 44) (i := 1) rfl (fun t ht => own11_inj ht) (lt_size 27 c9.size rfl (by decide)) (mfC_same (lt_size 27 c9.size rfl (by decide)) (by decide))⟩))⟩
       ·exact fun β L c9 => ⟨_, rfl, .inl (OG.of_OL (mvD (y := dI i) ((pG_old rfl).trans rfl) ⟨β, pG_put (d := 45) (i := 2) rfl (fun t ht => own11_inj ht) (lt_size 27 c9.size rfl (by decide)) (mfC_same (lt_size 27 c9.size rfl (by decide)) (by decide))⟩))⟩
       ·exact fun β L c9 => ⟨_, rfl, .inl (OG.of_OL (ixDn sl.Wayss (pG_new rfl (c9.dep 1 (by kernel_rfl))) (pG_new rfl (c9.dep 2 (by kernel_rfl))) (el := dWl (wayF h w w.length i)) (col_el (by omega)) rfl rfl ⟨β, pG_put (d := 46) (i := 3) rfl (fun t ht => own11_inj ht) (lt_size 27 c9.size rfl (by decide)) (mfC_same (lt_size 27 c9.size rfl (by decide)) (by decide))⟩))⟩
       ·exact fun β L c9 => ⟨_, rfl, .inl (OG.of_OL (ldRC ce.Ways (pG_new rfl (c9.dep 3 (by kernel_rfl))) ⟨β, pG_put (d := 47) (i := 4) rfl (fun t ht => own11_inj ht) (lt_size 27 c9.size rfl (by decide)) (mfC_same (lt_size 27 c9.size rfl (by decide)) (by decide))⟩))⟩
       ·exact fun β L c9 => ⟨_, rfl, .inl (OG.of_OL (mvD (y := dI (0 : Nat)) ((pG_old rfl).trans rfl) ⟨β, pG_put (d := 48) (i := 5) rfl (fun t ht => own11_inj ht) (lt_size 27 c9.size rfl (by decide)) (mfC_same (lt_size 27 c9.size rfl (by decide)) (by decide))⟩))⟩
       ·exact fun β L c9 => ⟨_, rfl, .inl (OG.of_OL (ixDn (n := 0) sl.Ways (pG_new rfl (c9.dep 4 (by kernel_rfl))) (pG_new rfl (c9.dep 5 (by kernel_rfl))) (el := dWay (wayF h w w.length i)) (by rw [if_pos hv]; rfl) rfl rfl ⟨β, pG_put (d := 49) (i := 6) rfl (fun t ht => own11_inj ht) (lt_size 27 c9.size rfl (by decide)) (mfC_same (lt_size 27 c9.size rfl (by decide)) (by decide))⟩))⟩
       ·exact fun β L c9 => ⟨_, rfl, .inl (OG.of_OL (faR fd.Way_0 (pG_new rfl (c9.dep 6 (by kernel_rfl))) rfl ⟨β, pG_put (d := 50) (i := 7) rfl (fun t ht => own11_inj ht) (lt_size 27 c9.size rfl (by decide)) (mfC_same (lt_size 27 c9.size rfl (by decide)) (by decide))⟩))⟩
       ·exact fun β L c9 => ⟨_, rfl, .inl (OG.of_OL (ldRC ce.ints (pG_new rfl (c9.dep 7 (by kernel_rfl))) ⟨β, pG_put (d := 51) (i := 8) rfl (fun t ht => own11_inj ht) (lt_size 27 c9.size rfl (by decide)) (mfC_same (lt_size 27 c9.size rfl (by decide)) (by decide))⟩))⟩
       ·exact fun β L c9 => ⟨_, rfl, .inl (OG.of_OL (mvD (y := colW h w w.length) ((pG_old rfl).trans rfl) ⟨β, pG_put (d := 52) (i := 9) rfl (fun t ht => own11_inj ht) (lt_size 27 c9.size rfl (by decide)) (mfC_same (lt_size 27 c9.size rfl (by decide)) (by decide))⟩))⟩
       ·exact fun β L c9 => ⟨_, rfl, .inl (OG.of_OL (mvD (y := dI i) ((pG_old rfl).trans rfl) ⟨β, pG_put (d := 53) (i := 10) rfl (fun t ht => own11_inj ht) (lt_size 27 c9.size rfl (by decide)) (mfC_same (lt_size 27 c9.size rfl (by decide)) (by decide))⟩))⟩
       ·exact fun β L c9 => ⟨_, rfl, .inl (OG.of_OL (ixDn sl.Wayss (pG_new rfl (c9.dep 9 (by kernel_rfl))) (pG_new rfl (c9.dep 10 (by kernel_rfl))) (el := dWl (wayF h w w.length i)) (col_el (by omega)) rfl rfl ⟨β, pG_put (d := 54) (i := 11) rfl (fun t ht => own11_inj ht) (lt_size 27 c9.size rfl (by decide)) (mfC_same (lt_size 27 c9.size rfl (by decide)) (by decide))⟩))⟩
       ·exact fun β L c9 => ⟨_, rfl, .inl (OG.of_OL (ldRC ce.Ways (pG_new rfl (c9.dep 11 (by kernel_rfl))) ⟨β, pG_put (d := 55) (i := 12) rfl (fun t ht => own11_inj ht) (lt_size 27 c9.size rfl (by decide)) (mfC_same (lt_size 27 c9.size rfl (by decide)) (by decide))⟩))⟩
       ·exact fun β L c9 => ⟨_, rfl, .inl (OG.of_OL (mvD (y := dI (0 : Nat)) ((pG_old rfl).trans rfl) ⟨β, pG_put (d := 56) (i := 13) rfl (fun t ht => own11_inj ht) (lt_size 27 c9.size rfl (by decide)) (mfC_same (lt_size 27 c9.size rfl (by decide)) (by decide))⟩))⟩
       ·exact fun β L c9 => ⟨_, rfl, .inl (OG.of_OL (ixDn (n := 0) sl.Ways (pG_new rfl (c9.dep 12 (by kernel_rfl))) (pG_new rfl (c9.dep 13 (by kernel_rfl))) (el := dWay (wayF h w w.length i)) (by rw [if_pos hv]; rfl) rfl rfl ⟨β, pG_put (d := 57) (i := 14) rfl (fun t ht => own11_inj ht) (lt_size 27 c9.size rfl (by decide)) (mfC_same (lt_size 27 c9.size rfl (by decide)) (by decide))⟩))⟩
       ·exact fun β L c9 => ⟨_, rfl, .inl (OG.of_OL (faR fd.Way_1 (pG_new rfl (c9.dep 14 (by kernel_rfl))) rfl ⟨β, pG_put (d := 58) (i := 15) rfl (fun t ht => own11_inj ht) (lt_size 27 c9.size rfl (by decide)) (mfC_same (lt_size 27 c9.size rfl (by decide)) (by decide))⟩))⟩
       ·exact fun β L c9 => ⟨_, rfl, .inl (OG.of_OL (ldRA ag.Rat (pG_new rfl (c9.dep 15 (by kernel_rfl))) (vs := cellsQ (wayF h w w.length i).1) rfl (nb9 rfl) ⟨β, pG_put (d := 59) (i := 16) rfl (fun t ht => own11_inj ht) (lt_size 27 c9.size rfl (by decide)) (mfC_same (lt_size 27 c9.size rfl (by decide)) (by decide))⟩))⟩
       ·exact fun β L c9 => ⟨_, rfl, .inl (OG.of_OL (faP fd.Hidden_5 (b := b4) (o := 0) (id := 4) ((pG_old rfl).trans rfl) rfl ⟨β, pG_put (d := 60) (i := 17) rfl (fun t ht => own11_inj ht) (lt_size 27 c9.size rfl (by decide)) (mfC_same (lt_size 27 c9.size rfl (by decide)) (by decide))⟩))⟩
       ·exact fun β L c9 => ⟨_, rfl, .inl (OG.of_OL (ldPC ce.Rats (pG_new rfl (c9.dep 17 (by kernel_rfl))) (pG_M (mfC_get (t := 4) (e := 1001) (b := .box b4 T.Hidden (cellsHM h)) (by decide) rfl)) (v := .d (dQs h.stop)) rfl ⟨β, pG_put (d := 61) (i := 18) rfl (fun t ht => own11_inj ht) (lt_size 27 c9.size rfl (by decide)) (mfC_same (lt_size 27 c9.size rfl (by decide)) (by decide))⟩))⟩
       ·exact fun β L c9 => ⟨_, rfl, .inl (OG.of_OL (mvD (y := dI i) ((pG_old rfl).trans rfl) ⟨β, pG_put (d := 62) (i := 19) rfl (fun t ht => own11_inj ht) (lt_size 27 c9.size rfl (by decide)) (mfC_same (lt_size 27 c9.size rfl (by decide)) (by decide))⟩))⟩
       ·exact fun β L c9 => ⟨_, rfl, .inl (OG.of_OL (ixLn sl.Rats 0 (l := h.stop) (f := dQ) (i := i) (pG_new rfl (c9.dep 18 (by kernel_rfl))) (pG_new rfl (c9.dep 19 (by kernel_rfl))) (by omega) (cs := (dQ (h.stop.getD i 0)).cells) rfl rfl ⟨β, pG_put (d := 63) (i := 20) rfl (fun t ht => own11_inj ht) (lt_size 27 c9.size rfl (by decide)) (mfC_same (lt_size 27 c9.size rfl (by decide)) (by decide))⟩))⟩
       ·exact fun β L c9 => ⟨_, rfl, .inl (OG.of_OL (ldRA ag.Rat (pG_new rfl (c9.dep 20 (by kernel_rfl))) (vs := cellsQ (h.stop.getD i 0)) rfl (nb9 rfl) ⟨β, pG_put (d := 64) (i := 21) rfl (fun t ht => own11_inj ht) (lt_size 27 c9.size rfl (by decide)) (mfC_same (lt_size 27 c9.size rfl (by decide)) (by decide))⟩))⟩
       ·exact fun β L c9 => ⟨_, rfl, .inl (OG.of_OL (clv rfl (.cons (vle_of_eq (pG_new rfl (c9.dep 16 (by kernel_rfl)))) (.cons (vle_of_eq (pG_new rfl (c9.dep 21 (by kernel_rfl)))) .nil)) (ref_MulQ (x := (wayF h w w.length i).1) (y := h.stop.getD i 0) (by omega) (by omega)) ⟨β, pG_put (d := 65) (i := 22) rfl (fun t ht => own11_inj ht) (lt_size 27 c9.size rfl (by decide)) (mfC_same (lt_size 27 c9.size rfl (by decide)) (by decide))⟩))⟩
       ·exact fun β L c9 => ⟨_, rfl, .inl (OG.of_OL (bd2 (cs := [_,_,_,_]) z.Way pl.Way (pvC (pG_new rfl (c9.dep 8 (by kernel_rfl))) (pvC (pG_new rfl (c9.dep 22 (by kernel_rfl))) pvN)) (by rfl) ⟨β, pG_put (d := 66) (i := 23) rfl (fun t ht => own11_inj ht) (lt_size 27 c9.size rfl (by decide)) (mfC_same (lt_size 27 c9.size rfl (by decide)) (by decide))⟩))⟩
       ·exact fun β L c9 => ⟨_, rfl, .inl (OG.of_OL (mvD (y := dI 1) ((pG_old rfl).trans rfl) ⟨β, pG_put (d := 67) (i := 24) rfl (fun t ht => own11_inj ht) (lt_size 27 c9.size rfl (by decide)) (mfC_same (lt_size 27 c9.size rfl (by decide)) (by decide))⟩))⟩
       ·exact fun β L c9 => ⟨_, rfl, SG.of_SO (SO.callRAt (id := 1001) (show 68 < E.n by rw [hE]; exact Nat.le_of_ble_eq_true rfl) rfl (.cons (vle_v (v := (curV (endW h (wayF h w w.length) i) b3 c3)) (pG_new rfl (c9.dep 0 (by kernel_rfl))) (if_neg hc0)) (.cons (vle_of_eq (pG_new rfl (c9.dep 23 (by kernel_rfl)))) (.cons (vle_of_eq (pG_new rfl (c9.dep 24 (by kernel_rfl)))) .nil))) (by rw [hnx]; exact put_new (w := (((wayF h w w.length i).1 * h.stop.getD i 0), (wayF h w w.length i).2)) (show sz ((wayF h w w.length i).1 * h.stop.getD i 0) ≤ 68719476736 by omega) hx0) fun b8 c8 => ⟨upd β 68 (b8, c8), pG_set (d := 68) (i := 25) (x := (b8, c8)) rfl (fun t ht => own11_inj ht) (lt_size 27 c9.size rfl (by decide)) rfl (mfC_set (lt_size 27 c9.size rfl (by decide)) c9.no) (fun t j ho hl => by unfold own11 at ho; split at ho <;> cases ho <;> first | rfl | (rw [c9.no] at hl; cases hl))⟩)⟩
      refine fun β L c9 => ⟨_, rfl, .inl (OG.of_OL (asV (pG_new rfl (c9.dep 25 (by kernel_rfl))) ?_))⟩
      refine OL.nil ?_
      exact AW.reach ((β 68).1, (β 68).2) ⟨trivial, Knows.app (.cons (vle_of_eq (putneS (show (3:Nat) ≠ 9 by decide) ((pG_old rfl).trans rfl))) (.cons (vle_of_eq (putneS (show (4:Nat) ≠ 9 by decide) ((pG_old rfl).trans rfl))) (.cons (vle_of_eq (putneS (show (8:Nat) ≠ 9 by decide) ((pG_old rfl).trans rfl))) (.cons (vle_of_eq (putneS (show (10:Nat) ≠ 9 by decide) ((pG_old rfl).trans rfl))) (.cons (vle_of_eq (putneS (show (11:Nat) ≠ 9 by decide) ((pG_old rfl).trans rfl))) (.cons (vle_of_eq (putneS (show (12:Nat) ≠ 9 by decide) ((pG_old rfl).trans rfl))) (.nil))))))) (.cons (vle_v putsmS (if_pos hpn).symm) .nil), Owns.app (.cons (putM (pG_M (mfC_get (t := 4) (e := 1001) (b := .box b4 T.Hidden (cellsHM h)) (by decide) rfl))) (.nil)) (.cons ((putM (pG_M (mfC_new (c9.dep 25 (by kernel_rfl))))).trans (congrArg some (if_pos hpn).symm)) .nil)⟩
   rintro ⟨b2, c2⟩ hφ
   refine AW.rg hE rfl (mvD rfl (add_i64 rfl rfl (by omega) (asD rfl (OL.nil ?_))))
   exact AW.again (x := (0, b3, c3)) (1, b2, c2) (by (simp only []; omega)) ⟨by omega, Knows.app (.cons (VLe.refl _) (.cons (VLe.refl _) (.cons (VLe.refl _) (.cons (VLe.refl _) (.cons (VLe.refl _) .nil))))) (.cons (VLe.refl _) (.cons (VLe.refl _) .nil)), Owns.app (.cons rfl .nil) (.cons rfl .nil)⟩
  ·have h84 : ¬ (m_ : Int) < ((if 0 < (wayF h w w.length i).1 then 1 else 0 : Nat) : Int) := of_decide_eq_false h84
   have hcu : (if m_ = 0 then (endW h (wayF h w w.length) i) else (endW h (wayF h w w.length) (i + 1))) = (endW h (wayF h w w.length) (i + 1)) := by
    by_cases hv : 0 < (wayF h w w.length i).1
    ·rw [if_pos hv] at h84
     exact if_neg (by omega)
    ·split
     ·have e0 : (wayF h w w.length i).1 = 0 := Rat.le_antisymm (Rat.not_lt.1 hv) (wayF_nonneg g w w.length i)
      rw [show (endW h (wayF h w w.length) (i + 1)) = putW ((wayF h w w.length i).1 * h.stop.getD i 0) (wayF h w w.length i).2 (endW h (wayF h w w.length) i) from rfl, e0, Rat.zero_mul, putW_zero (endW_nonneg g (wayF_nonneg g w w.length) i)]
     ·rfl
   refine AW.exit (AW.rg hE rfl (mvD rfl (add_i64 rfl rfl (by omega) (asD rfl (OL.nil ?_)))))
   exact AW.again (x := (i, b, c)) (i + 1, b3, c3) (by (simp only []; omega)) ⟨by omega, Knows.app (.cons (VLe.refl _) (.cons (VLe.refl _) (.cons (VLe.refl _) (.cons (VLe.refl _) .nil)))) (.cons (vle_of_eq (congrArg (fun z => curV z b3 c3) hcu)) (.cons (VLe.refl _) .nil)), Owns.app (.cons rfl .nil) (.cons (congrArg (fun z => some (bkW z b3 c3)) hcu) .nil)⟩
 ·try simp only [dx9] at h31
  refine AW.exit (AW.seq ?_)
  obtain rfl : i = h.st := by omega
  exact AW.closeV (endW h (wayF h w w.length) h.st) 9 rfl rfl (AW.rg hE rfl (mvD rfl (asD rfl (OL.nil (AW.ret (RetQ.r ⟨_, .tmp rfl .nil, .le (VLe.refl _)⟩))))))
set_option maxRecDepth 4000 in
set_option maxHeartbeats 1600000 in
theorem ref35_Best {h : HM} {w : List Int} (g : h.GoodW 1048576) (kw : WordOK h w) (hw0 : w.length ≠ 0) : FSpec P F.ref35_Best [vHM h, .d (ints w)] (.tup [.d (ints (if 0 < (endW h (wayF h w w.length) h.st).1 then (endW h (wayF h w w.length) h.st).2 else [])), vQ (endW h (wayF h w w.length) h.st).1, .d (dI (if 0 < (endW h (wayF h w w.length) h.st).1 then 0 else 11))]) := by
 have f := g.form
 refine FSpec.intro fn.ref35_Best (by rfl) (by rfl) (nb9 (by rfl)) fun E hE => (AW.sg hE rfl (bxA rfl rfl fun b2 => (asM rfl (al z.Rat rfl fun b5 => (asD rfl (OL.nil (AW.seq ?_)))))))
 refine AW.sg hE rfl (ldPA ag.Hidden rfl rfl (vs := [_,_,_,_,_,_,_,_,_,_,_]) rfl (nb9 rfl) (mvD rfl (clv rfl (.cons (VLe.refl _) (.cons (VLe.refl _) (.nil))) (ref34_CheckW g kw) (asD rfl (OL.nil (AW.sg hE rfl (mvD rfl ?_)))))))
 refine c_neq rfl rfl (c := false) (by exact cne_f (by omega)) (OL.nil (AW.cond rfl (fun hno => absurd hno (by decide)) (fun _ => ?_)))
 refine AW.skip (AW.seq (AW.regionS (by rw [hE]; rfl) (SL.ofOL (ldPA ag.Hidden rfl rfl (vs := cellsHM h) rfl (nb9 rfl) (OL.nil ?_)))))
 refine SL.ofOL (mvD rfl (OL.nil ?_))
 refine SL.ofSO rfl (SO.callN (args2 := [vHM h, .d (ints w), .d nilD, .d (dI 1)]) (res := .d (dWl (endW h (wayF h w w.length) h.st))) (show 18 < E.n by rw [hE]; exact Nat.le_of_ble_eq_true rfl) rfl (fun F a hev => simVs_cons (sim_of (hev (.tmp 16)) rfl) (simVs_cons (sim_of (hev (.tmp 17)) rfl) (simVs_cons (.d (.sc rfl) rfl) (simVs_cons (.d (.sc rfl) rfl) simVs_nil)))) (ref35_list g kw hw0) ?_)
 refine SL.ofOL (asD rfl (OL.nil ?_))
 refine SL.nil (AW.seq (AW.sg hE rfl (mvD rfl (lnD sl.Ways rfl rfl (n := if 0 < (endW h (wayF h w w.length) h.st).1 then 1 else 0) (by split <;> rfl) (c_eql rfl rfl rfl (OL.nil (AW.cond rfl (fun hl => ?_) (fun hl => ?_))))))))
 ·have hv : ¬ 0 < (endW h (wayF h w w.length) h.st).1 := fun k2 => by
   have e1 := of_decide_eq_true hl
   rw [if_pos k2] at e1
   exact absurd e1 (by decide)
  have hz : (endW h (wayF h w w.length) h.st).1 = 0 := Rat.le_antisymm (Rat.not_lt.1 hv) (endW_nonneg g (wayF_nonneg g w w.length) h.st)
  refine AW.sg hE rfl (bd z.Rat pl.Rat (cs := [_,_,_]) rfl (asM rfl (sto sz.Rat rfl rfl rfl rfl rfl (nb9 rfl) (cells2 := [_,_,_]) rfl (asD rfl (OL.nil ?_)))))
  exact AW.ret (RetQ.r ⟨_, .tmp rfl (.cellA rfl rfl ag.Rat (nb9 rfl) (.tmp rfl .nil)), _, .cons (.le (vle_mt_if hv)) (.cons (.ag (.cons (.le (by rw [hz, ofQ_zero]; exact VLe.refl _)) (.cons (.le (by rw [hz, ofQ_zero]; exact VLe.mt)) (.cons (.le (by rw [hz, ofQ_zero]; exact VLe.mt)) .nil)))) (.cons (.le (VLe.int (if_neg hv).symm)) .nil)), rfl⟩)
 ·have hv : 0 < (endW h (wayF h w w.length) h.st).1 := Decidable.byContradiction fun k2 => by
   have e1 := of_decide_eq_false hl
   rw [if_neg k2] at e1
   exact e1 rfl
  refine AW.skip (AW.seq (AW.dg 1 [0,1,2,3,4,5,6,7,8,9,10] order_free hE rfl (by kernel_rfl) (OI.of_OL (os := [_,_,_,_,_,_,_,_,_,_,_]) rfl ?_)))
  refine mvD rfl (ixDn (n := 0) sl.Ways rfl rfl (el := dWay (endW h (wayF h w w.length) h.st)) (by rw [if_pos hv]; rfl) rfl rfl (faR fd.Way_0 rfl rfl (ldRC ce.ints rfl (mvD rfl (ixDn (n := 0) sl.Ways rfl rfl (el := dWay (endW h (wayF h w w.length) h.st)) (by rw [if_pos hv]; rfl) rfl rfl (faR fd.Way_1 rfl rfl (ldRA ag.Rat rfl (vs := cellsQ (endW h (wayF h w w.length) h.st).1) rfl (nb9 rfl) ?_)))))))
  refine asD rfl (sto sz.Rat rfl rfl rfl rfl rfl (nb9 rfl) (cells2 := [_,_,_]) rfl (asD rfl (OL.nil ?_)))
  exact AW.ret (RetQ.r ⟨_, .tmp rfl (.cellA rfl rfl ag.Rat (nb9 rfl) (.tmp rfl .nil)), _, .cons (.le (vle_of_eq (congrArg (fun z => V.d (ints z)) (if_pos hv).symm))) (.cons (.ag (.cons (.le (VLe.refl _)) (.cons (.le (VLe.refl _)) (.cons (.le (VLe.refl _)) .nil)))) (.cons (.le (VLe.int (if_pos hv).symm)) .nil)), rfl⟩)
end Go.Proofs.YtjghehkgmanmbaaGreat

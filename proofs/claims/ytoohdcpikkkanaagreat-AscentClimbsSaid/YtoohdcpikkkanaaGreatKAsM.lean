/-
  Walks for chapter 39, part 13: the specification's rounding (printed by mk2.py).
-/
import Derived.Test.YtoohdcpikkkanaaGreatKAsL
set_option linter.unusedVariables false
set_option linter.unusedSimpArgs false
namespace Go.Proofs.YtoohdcpikkkanaaGreat
open Go Go.AL
theorem ref_SubQ2 {x y : Rat} (hx : sz x ≤ 68719476736) (hy : sz y ≤ 68719476736) : FSpec P F.ref01_Sub [vQ x, vQ y] (vQ (x - y)) := ref_SubQ hx hy
def ownS9 : Nat → Option Nat
 | 33 => some 0
 | 34 => some 1
 | 35 => some 2
 | 36 => some 3
 | 37 => some 4
 | 38 => some 5
 | 39 => some 6
 | 40 => some 7
 | 41 => some 8
 | 42 => some 9
 | _ => none
theorem ownS9_inj {t i : Nat} (h : ownS9 t = some i) : t = [33, 34, 35, 36, 37, 38, 39, 40, 41, 42].getD i 0 := by
 unfold ownS9 at h
 split at h <;> first | (cases h; rfl) | cases h
noncomputable def valS9 (l : List Rat) (g i p2 c2 q1 d1 : Nat) (t : Nat) (β : Nat → Nat × Nat) : V :=
 match t with
 | 33 => .osl 42 p2 i c2
 | 34 => vQ (l.getD i 0 * (g : Rat))
 | 35 => .osl 32 q1 (i + 1) d1
 | 36 => .d (dI i)
 | 37 => .eptr 32 q1 1 i 0
 | 38 => .d (dI (flN (l.getD i 0 * (g : Rat))))
 | 39 => vQ (flN (l.getD i 0 * (g : Rat)) : Rat)
 | 40 => vQ (l.getD i 0 * (g : Rat) - (flN (l.getD i 0 * (g : Rat)) : Rat))
 | 41 => .d (.sl [dQ (l.getD i 0 * (g : Rat) - (flN (l.getD i 0 * (g : Rat)) : Rat))])
 | 42 => .osl 42 (β 42).1 (i + 1) (β 42).2
 | _ => .junk
noncomputable abbrev telS9 (l : List Rat) (g i p2 c2 q1 d1 : Nat) : List Tell := [⟨42, 9, fun β => .row (β 42).1 (β 42).2 T.Rat 3 ((((loF l g).take i).map dQ) ++ [dQ (l.getD i 0 * (g : Rat) - (flN (l.getD i 0 * (g : Rat)) : Rat))])⟩]
theorem casS9 {p : Nat → Prop} (h0 : p 0) (h1 : p 1) (h2 : p 2) (h3 : p 3) (h4 : p 4) (h5 : p 5) (h6 : p 6) (h7 : p 7) (h8 : p 8) (h9 : p 9) : ∀ i, i < 10 → p i := fun i hi => by
 have : i = 0 ∨ i = 1 ∨ i = 2 ∨ i = 3 ∨ i = 4 ∨ i = 5 ∨ i = 6 ∨ i = 7 ∨ i = 8 ∨ i = 9 := by omega
 rcases this with rfl | rfl | rfl | rfl | rfl | rfl | rfl | rfl | rfl | rfl <;> assumption
set_option maxRecDepth 6000 in
set_option maxHeartbeats 3200000 in
theorem ref39_rounded {l : List Rat} {C g : Nat} (hz : Small C l) (hC : 1 ≤ C ∧ C ≤ 1048576) (hS : Shares l) (hs1 : sumQ l = 1) (hl : 1 ≤ l.length ∧ l.length ≤ 33) (hg : 1 ≤ g ∧ g ≤ 1048576) : FSpec P F.ref39_rounded [.d (dQs l), .d (dI g)] (.d (dQs (roundR l g))) := by
 have hzg := sz_nat (n := g) (by omega)
 have hul := unF_len l g
 have hll := loF_len l g
 have hrl := roundR_len l g
 have hml := mi_le (g := g) hS hs1
 have hus := un_le (g := g) hS hs1
 have hgp := grid_pos hg.1
 have hri := rit_len l g
 have hrv := rit_le (C := g) (un_getle (g := g) hS hs1)
 have hzl := lo_small (g := g) hz (by omega) hS fun x hx => by obtain ⟨k, hk, rfl⟩ := mem_getD hx 0; have := un_getle (g := g) hS hs1 k; omega
 have hrz := rit_small (by omega) hzl
 refine FSpec.intro fn.ref39_rounded (by rfl) (by rfl) (nb9 (by rfl)) fun E hE => (AW.sg hE rfl (asM rfl (OL.nil (AW.sg hE rfl (asM rfl (OL.nil (AW.sg hE rfl ?_)))))))
 refine asM rfl (OL.nil (AW.sg hE rfl (mvD rfl (asD rfl (OL.nil ?_)))))
 refine AW.midK (α := Nat × Nat × Nat × Nat) [(0, _), (1, _), (4, _)] [] (fun (p1, c1, p2, c2) => [(5, .osl 32 p1 l.length c1), (6, .osl 42 p2 l.length c2), (7, .d (dI (miF l g)))]) (fun (p1, c1, p2, c2) => [(32, .row p1 c1 T.int 1 ((ritF l g 0).1.map dN)), (42, .row p2 c2 T.Rat 3 ((ritF l g 0).2.map dQ))]) (fun (p1, c1, p2, c2) => True) (.cons (knD rfl) (.cons (knD rfl) (.cons (knM rfl) .nil))) .nil ?_ ?_
 ·refine AW.sg hE rfl (asD rfl (OL.nil (AW.block (AW.own 5 32 T.int 1 rfl rfl (AW.own 6 42 T.Rat 3 rfl rfl ?_)))))
  refine AW.whileK (α := Nat × Nat × Nat × Nat × Nat) [(0, _), (1, _), (4, _)] [] (fun (i, p1, c1, p2, c2) => [(5, .osl 32 p1 i c1), (6, .osl 42 p2 i c2), (7, .d (dI ((g : Int) - (((unF l g).take i).sum : Nat)))), (8, .d (dI i))]) (fun (i, p1, c1, p2, c2) => [(32, .row p1 c1 T.int 1 (((unF l g).take i).map dN)), (42, .row p2 c2 T.Rat 3 (((loF l g).take i).map dQ))]) (fun (i, p1, c1, p2, c2) => i ≤ l.length) (fun (i, p1, c1, p2, c2) => l.length - i) (0, 0, 0, 0, 0) (.cons (knD rfl) (.cons (knD rfl) (.cons (knM rfl) .nil))) .nil ⟨Nat.zero_le _, .cons (VLe.refl _) (.cons (VLe.refl _) (.cons (VLe.int (by simp)) (.cons (VLe.refl _) .nil))), .cons rfl (.cons rfl .nil)⟩ ?_
  rintro ⟨i, p1, c1, p2, c2⟩ h1
  have h1 : i ≤ l.length := h1
  have hst := sum_take_le (unF l g) i
  have ht1 : ((unF l g).take i).length = i := by rw [List.length_take]; omega
  have ht2 : ((loF l g).take i).length = i := by rw [List.length_take]; omega
  refine AW.seq (AW.sg hE rfl (mvD rfl (mvD rfl (lnL sl.Rats rfl rfl (c_lss rfl rfl rfl (OL.nil (AW.cond rfl (fun h18 => ?_) (fun h18 => ?_))))))))
  ·try simp only [dx9] at h18
   refine AW.skip (AW.seq (AW.block (AW.seq ?_)))
   have zp := hz.get hC.1 i
   have hSp := hS.get i
   have hpg := mul_grid g hSp.1
   have zx := sz_mul (l.getD i 0) (g : Rat)
   have euu := un_get (g := g) (show i < l.length by omega)
   have ell := lo_get (g := g) (show i < l.length by omega)
   have hfu := un_getle (g := g) hS hs1 i
   rw [euu] at hfu
   have hzf := sz_nat (n := flN (l.getD i 0 * (g : Rat))) (by omega)
   refine AW.dg 1 [0,1,2,3,4,5,6,7,8] order_free hE rfl (by kernel_rfl) (OI.of_OL (os := [_,_,_,_,_,_,_,_,_]) rfl ?_)
   refine mvD rfl (mvD rfl (ixLn sl.Rats 0 rfl rfl (by omega) rfl rfl (ldRA ag.Rat rfl (vs := [_,_,_]) rfl (nb9 rfl) (mvD rfl (clv rfl (.cons (VLe.refl _) (.nil)) (ref33_WholeN (n := g) (by omega)) (clv rfl (.cons (VLe.refl _) (.cons (VLe.refl _) (.nil))) (ref_MulQ (x := l.getD i 0) (y := (g : Rat)) (by omega) (by omega)) (al z.Rat rfl fun b9 => ?_)))))))
   refine sto sz.Rat rfl rfl rfl rfl rfl (nb9 rfl) (cells2 := [_,_,_]) rfl (OL.nil (AW.sg hE rfl (mvO rfl (ldPA ag.Rat rfl rfl (vs := [_,_,_]) rfl (nb9 rfl) (clv rfl (.cons (VLe.refl _) (.nil)) (ref39_floor hpg (by omega) (by omega)) (lt1 (y := dN (flN (l.getD i 0 * (g : Rat)))) sl.ints (VC.d _).vd rfl (by decide) ?_))))))
   refine apO sl.ints rfl rfl rfl (by rw [List.length_map]; omega) (VC.d _) (by intro y hy; rw [List.mem_singleton.1 hy]; rfl) (by simp; omega) (by simp; omega) (.inr rfl) (ys := (((unF l g).take (i + 1)).map dN)) (by rw [take_succ_getD (show i < (unF l g).length by omega) 0, euu, List.map_append]; rfl) (n2 := i + 1) (by simp) fun q1 d1 => ?_
   refine asO rfl (OL.nil (AW.seq ?_))
   have hel : ((((unF l g).take (i + 1)).map dN))[i]? = some (dN (flN (l.getD i 0 * (g : Rat)))) := by rw [List.getElem?_map, List.getElem?_take, if_pos (by omega), List.getElem?_eq_getElem (show i < (unF l g).length by omega), ← euu, getD_lt (show i < (unF l g).length by omega)]; rfl
   have hlen9 : i = ((((loF l g).take i).map dQ)).length := by rw [List.length_map]; omega
   refine AW.region_planT (valS9 l g i p2 c2 q1 d1) ownS9 (telS9 l g i p2 c2 q1 d1) 10 order_free (by rw [hE]; rfl) (by rfl) (by kernel_rfl) (by kernel_rfl) ?_ ?_
   ·refine casS9 ?_ ?_ ?_ ?_ ?_ ?_ ?_ ?_ ?_ ?_
    ·exact fun β L c9 => ⟨_, rfl, .inl (OG.of_OL (mvO (id := 42) (b := p2) (n := i) (c := c2) ((pG_old rfl).trans rfl) ⟨β, pG_put (d := 33) (i := 0) rfl (fun t ht => ownS9_inj ht) (lt_size 11 c9.size rfl (by decide)) (mfT_same (lt_size 11 c9.size rfl (by decide)) (by rfl))⟩))⟩
    ·exact fun β L c9 => ⟨_, rfl, .inl (OG.of_OL (ldPA ag.Rat (id := 9) (b := b9) (o := 0) ((pG_old rfl).trans rfl) ((pG_M (mfT_skip (show (9:Nat) ≠ 42 by decide) rfl)) : _ = some (.box b9 T.Rat (cellsQ (l.getD i 0 * (g : Rat))))) (vs := [_,_,_]) rfl (nb9 rfl) ⟨β, pG_put (d := 34) (i := 1) rfl (fun t ht => ownS9_inj ht) (lt_size 11 c9.size rfl (by decide)) (mfT_same (lt_size 11 c9.size rfl (by decide)) (by rfl))⟩))⟩
    ·exact fun β L c9 => ⟨_, rfl, .inl (OG.of_OL (mvO (id := 32) (b := q1) (n := i + 1) (c := d1) ((pG_old rfl).trans rfl) ⟨β, pG_put (d := 35) (i := 2) rfl (fun t ht => ownS9_inj ht) (lt_size 11 c9.size rfl (by decide)) (mfT_same (lt_size 11 c9.size rfl (by decide)) (by rfl))⟩))⟩
    ·exact fun β L c9 => ⟨_, rfl, .inl (OG.of_OL (mvD (y := dI i) ((pG_old rfl).trans rfl) ⟨β, pG_put (d := 36) (i := 3) rfl (fun t ht => ownS9_inj ht) (lt_size 11 c9.size rfl (by decide)) (mfT_same (lt_size 11 c9.size rfl (by decide)) (by rfl))⟩))⟩
    ·exact fun β L c9 => ⟨_, rfl, .inl (OG.of_OL (ixOn sl.ints (id := 32) (b := q1) (l := i + 1) (c := d1) (i := i) (pG_new rfl (come_dep (j := 2) c9 (by kernel_rfl))) (pG_new rfl (come_dep (j := 3) c9 (by kernel_rfl))) (Nat.lt_succ_self i) ⟨β, pG_put (d := 37) (i := 4) rfl (fun t ht => ownS9_inj ht) (lt_size 11 c9.size rfl (by decide)) (mfT_same (lt_size 11 c9.size rfl (by decide)) (by rfl))⟩))⟩
    ·exact fun β L c9 => ⟨_, rfl, .inl (OG.of_OL (ldEC ce.int (by decide) (pG_new rfl (come_dep (j := 4) c9 (by kernel_rfl))) ((pG_M (mfT_skip (show (32:Nat) ≠ 42 by decide) rfl)) : _ = some (.row q1 d1 T.int 1 (((unF l g).take (i + 1)).map dN))) hel rfl ⟨β, pG_put (d := 38) (i := 5) rfl (fun t ht => ownS9_inj ht) (lt_size 11 c9.size rfl (by decide)) (mfT_same (lt_size 11 c9.size rfl (by decide)) (by rfl))⟩))⟩
    ·exact fun β L c9 => ⟨_, rfl, .inl (OG.of_OL (clv rfl (.cons (vle_of_eq (pG_new rfl (come_dep (j := 5) c9 (by kernel_rfl)))) .nil) (ref33_WholeN (n := flN (l.getD i 0 * (g : Rat))) (by omega)) ⟨β, pG_put (d := 39) (i := 6) rfl (fun t ht => ownS9_inj ht) (lt_size 11 c9.size rfl (by decide)) (mfT_same (lt_size 11 c9.size rfl (by decide)) (by rfl))⟩))⟩
    ·exact fun β L c9 => ⟨_, rfl, .inl (OG.of_OL (clv rfl (.cons (vle_of_eq (pG_new rfl (come_dep (j := 1) c9 (by kernel_rfl)))) (.cons (vle_of_eq (pG_new rfl (come_dep (j := 6) c9 (by kernel_rfl)))) .nil)) (ref_SubQ2 (x := (l.getD i 0 * (g : Rat))) (y := (flN (l.getD i 0 * (g : Rat)) : Rat)) (by omega) (by omega)) ⟨β, pG_put (d := 40) (i := 7) rfl (fun t ht => ownS9_inj ht) (lt_size 11 c9.size rfl (by decide)) (mfT_same (lt_size 11 c9.size rfl (by decide)) (by rfl))⟩))⟩
    ·exact fun β L c9 => ⟨_, rfl, .inl (OG.of_OL (lt1 (y := dQ (l.getD i 0 * (g : Rat) - (flN (l.getD i 0 * (g : Rat)) : Rat))) sl.Rats (vd_to (pG_new rfl (come_dep (j := 7) c9 (by kernel_rfl))) vd_q) rfl (by decide) ⟨β, pG_put (d := 41) (i := 8) rfl (fun t ht => ownS9_inj ht) (lt_size 11 c9.size rfl (by decide)) (mfT_same (lt_size 11 c9.size rfl (by decide)) (by rfl))⟩))⟩
    ·exact fun β L c9 => ⟨_, rfl, .inl (OG.of_OL (apO sl.Rats rfl (pG_new rfl (come_dep (j := 0) c9 (by kernel_rfl))) ((pG_M (mfT_no (by exact c9.no) rfl)) : _ = some (.row p2 c2 T.Rat 3 (((loF l g).take i).map dQ))) hlen9 (vc_to (pG_new rfl (come_dep (j := 8) c9 (by kernel_rfl))) (VC.d _)) (fun y hy => by rw [List.mem_singleton.1 hy]; rfl) (by simp only [List.length_singleton]; omega) (by simp only [List.length_singleton]; omega) (.inr rfl) (ys := (((loF l g).take i).map dQ) ++ [dQ (l.getD i 0 * (g : Rat) - (flN (l.getD i 0 * (g : Rat)) : Rat))]) rfl (n2 := i + 1) rfl fun b8 c8 => ⟨upd β 42 (b8, c8), pG_set (d := 42) (i := 9) (x := (b8, c8)) rfl (fun t ht => ownS9_inj ht) (lt_size 11 c9.size rfl (by decide)) rfl (Eq.trans (mfT_here (lt_size 11 c9.size rfl (by decide)) rfl rfl rfl c9.no (by rfl) (fun y hy => absurd hy List.not_mem_nil)) (upd_upd _ _ _ _).symm) (fun t j ho hl => by unfold ownS9 at ho; split at ho <;> cases ho <;> first | rfl | (rw [c9.no] at hl; cases hl) | exact come_notT c9 (by kernel_rfl) hl)⟩))⟩
   refine fun β L c9 hA => ⟨_, rfl, .inl (OG.of_OL (asO (id := 42) (b := (β 42).1) (n := i + 1) (c := (β 42).2) (pG_new rfl (come_dep (j := 9) c9 (by kernel_rfl))) ?_))⟩
   refine OL.nil ?_
   refine AW.to [(0, .d (dQs l)), (1, .d (dI g)), (4, .mt), (5, .osl 32 q1 (i + 1) d1), (6, .osl 42 (β 42).1 (i + 1) (β 42).2), (7, .d (dI ((g : Int) - (((unF l g).take i).sum : Nat)))), (8, .d (dI i))] [(32, .row q1 d1 T.int 1 (((unF l g).take (i + 1)).map dN)), (42, .row (β 42).1 (β 42).2 T.Rat 3 (((loF l g).take (i + 1)).map dQ))] (.cons (vle_of_eq (put_old (by decide) ((pG_old rfl).trans rfl))) (.cons (vle_of_eq (put_old (by decide) ((pG_old rfl).trans rfl))) (.cons (vle_of_eq (put_old (by decide) ((pG_old rfl).trans rfl))) (.cons (vle_of_eq (put_old (by decide) ((pG_old rfl).trans rfl))) (.cons (vle_of_eq put_new') (.cons (vle_of_eq (put_old (by decide) ((pG_old rfl).trans rfl))) (.cons (vle_of_eq (put_old (by decide) ((pG_old rfl).trans rfl))) (.nil)))))))) (.cons (put_mem (pG_M (mfT_skip (show (32:Nat) ≠ 42 by decide) rfl))) (.cons ((put_mem (pG_M (mfT_yes (come_dep (j := 9) c9 (by kernel_rfl)) rfl rfl))).trans (by rw [take_succ_getD (show i < (loF l g).length by omega) 0, ell, List.map_append]; rfl)) .nil)) ?_
   generalize (β 42).1 = q2
   generalize (β 42).2 = d2
   have hst2 := sum_take_le (unF l g) (i + 1)
   have ht3 : ((unF l g).take (i + 1)).length = i + 1 := by rw [List.length_take]; omega
   have hgi : ((unF l g).take (i + 1)).getD i 0 = flN (l.getD i 0 * (g : Rat)) := by rw [← euu, List.getD_eq_getElem?_getD, List.getElem?_take, if_pos (by omega), ← List.getD_eq_getElem?_getD]
   refine AW.rg hE rfl (mvD rfl (mvO rfl (mvD rfl (ixOn sl.ints rfl rfl (by omega) (ldEL ce.int 0 (by decide) rfl rfl (by omega) rfl ?_)))))
   rw [hgi]
   refine bo rfl rfl (bin_sub (c := (g : Int) - ((((unF l g).take (i + 1)).sum : Nat) : Int)) (by rw [sum_take_succ (show i < (unF l g).length by omega), euu]; omega) (wrap_i64 (by omega))) (asD rfl (OL.nil (AW.rg hE rfl (mvD rfl (add_i64 rfl rfl (by omega) (asD rfl (OL.nil ?_)))))))
   exact AW.again (x := (i, p1, c1, p2, c2)) (i + 1, q1, d1, q2, d2) (by (simp only []; omega)) ⟨by omega, Knows.app (.cons (VLe.refl _) (.cons (VLe.refl _) (.cons (VLe.refl _) .nil))) (.cons (VLe.refl _) (.cons (VLe.refl _) (.cons (VLe.refl _) (.cons (VLe.refl _) .nil)))), .cons rfl (.cons rfl .nil)⟩
  ·try simp only [dx9] at h18
   refine AW.exit ?_
   obtain rfl : i = l.length := by omega
   have e1 : (unF l g).take l.length = unF l g := List.take_of_length_le (by omega)
   have e2 : (loF l g).take l.length = loF l g := List.take_of_length_le (by omega)
   have hmi : ((g : Int) - (((unF l g).take l.length).sum : Nat)) = (miF l g : Nat) := by rw [e1]; unfold miF; omega
   exact AW.reach (p1, c1, p2, c2) ⟨trivial, Knows.app (.cons (VLe.refl _) (.cons (VLe.refl _) (.cons (VLe.refl _) .nil))) (.cons (VLe.refl _) (.cons (VLe.refl _) (.cons (VLe.int hmi) .nil))), .cons (by show some (Blk.row p1 c1 T.int 1 (((unF l g).take l.length).map dN)) = _; rw [e1]; rfl) (.cons (by show some (Blk.row p2 c2 T.Rat 3 (((loF l g).take l.length).map dQ)) = _; rw [e2]; rfl) .nil)⟩
 rintro ⟨p1, c1, p2, c2⟩ -
 refine AW.seq (AW.block ?_)
 refine AW.whileK (α := Nat) [(0, _), (1, _), (4, _), (5, _), (6, _)] [] (fun k => [(7, .d (dI ((miF l g : Int) - (k : Nat))))]) (fun k => [(32, .row p1 c1 T.int 1 ((ritF l g k).1.map dN)), (42, .row p2 c2 T.Rat 3 ((ritF l g k).2.map dQ))]) (fun k => k ≤ miF l g) (fun k => miF l g - k) 0 (.cons (knD rfl) (.cons (knD rfl) (.cons (knM rfl) (.cons (knO rfl) (.cons (knO rfl) .nil))))) .nil ⟨Nat.zero_le _, .cons (VLe.int (by omega)) .nil, .cons rfl (.cons rfl .nil)⟩ ?_
 intro k h2
 have h2 : k ≤ miF l g := h2
 have hrk := hri k
 have ha := argm_le (ritF l g k).2 (l.length - 1)
 have hva := hrv k (argm (ritF l g k).2 (l.length - 1))
 refine AW.seq (AW.sg hE rfl (mvD rfl (c_gtr rfl rfl rfl (OL.nil (AW.cond rfl (fun h50 => ?_) (fun h50 => ?_))))))
 ·try simp only [dx9] at h50
  refine AW.skip (AW.seq (AW.block (AW.sg hE rfl (asD rfl (OL.nil (AW.seq (AW.sg hE rfl ?_)))))))
  refine asD rfl (OL.nil (AW.block ?_))
  refine AW.whileK (α := Nat) [(0, _), (1, _), (4, _), (5, _), (6, _), (7, _)] [(32, _), (42, _)] (fun i => [(10, .d (dI (argm (ritF l g k).2 (i - 1)))), (11, .d (dI i))]) (fun i => []) (fun i => 1 ≤ i ∧ i ≤ l.length) (fun i => l.length - i) 1 (.cons (knD rfl) (.cons (knD rfl) (.cons (knM rfl) (.cons (knO rfl) (.cons (knO rfl) (.cons (knD rfl) .nil)))))) (.cons (owR rfl) (.cons (owR rfl) .nil)) ⟨⟨Nat.le_refl _, hl.1⟩, .cons (VLe.refl _) (.cons (VLe.refl _) .nil), .nil⟩ ?_
  rintro i ⟨h3, h4⟩
  have h3 : 1 ≤ i := h3
  have h4 : i ≤ l.length := h4
  have hai := argm_le (ritF l g k).2 (i - 1)
  refine AW.seq (AW.sg hE rfl (mvD rfl (mvD rfl (lnL sl.Rats rfl rfl (c_lss rfl rfl rfl (OL.nil (AW.cond rfl (fun h56 => ?_) (fun h56 => ?_))))))))
  ·try simp only [dx9] at h56
   refine AW.skip ?_
   refine AW.midK (α := Unit) [(0, _), (1, _), (4, _), (5, _), (6, _), (7, _), (11, _)] [(32, _), (42, _)] (fun _u => [(10, .d (dI (argm (ritF l g k).2 (i + 1 - 1))))]) (fun _u => []) (fun _u => True) (.cons (knD rfl) (.cons (knD rfl) (.cons (knM rfl) (.cons (knO rfl) (.cons (knO rfl) (.cons (knD rfl) (.cons (knD rfl) .nil))))))) (.cons (owR rfl) (.cons (owR rfl) .nil)) ?_ ?_
   ·refine AW.block (AW.seq ?_)
    have zi := (hrz k).get (by omega) i
    have zj := (hrz k).get (by omega) (argm (ritF l g k).2 (i - 1))
    refine AW.dg 1 [0,1,2,3,4,5,6,7,8,9] order_free hE rfl (by kernel_rfl) (OI.of_OL (os := [_,_,_,_,_,_,_,_,_,_]) rfl ?_)
    refine mvO rfl (mvD rfl (ixOn sl.Rats rfl rfl (by omega) (ldEAL ag.Rat 0 (by decide) rfl rfl (by omega) (vs := [_,_,_]) rfl (nb9 rfl) (mvO rfl (mvD rfl (ixOn sl.Rats rfl rfl (by omega) (ldEAL ag.Rat 0 (by decide) rfl rfl (by omega) (vs := [_,_,_]) rfl (nb9 rfl) ?_)))))))
    refine clv rfl (.cons (VLe.refl _) (.cons (VLe.refl _) (.nil))) (ref_CompareQ (x := (ritF l g k).2.getD i 0) (y := (ritF l g k).2.getD (argm (ritF l g k).2 (i - 1)) 0) (by omega) (by omega)) (c_gtr rfl rfl rfl (OL.nil (AW.cond rfl (fun hcm => ?_) (fun hcm => ?_))))
    ·have hcm : (ritF l g k).2.getD (argm (ritF l g k).2 (i - 1)) 0 < (ritF l g k).2.getD i 0 := cmpQ_gt.1 (of_decide_eq_true hcm)
     have han : argm (ritF l g k).2 i = i := by obtain ⟨m, rfl⟩ : ∃ m, i = m + 1 := ⟨i - 1, by omega⟩; exact if_pos hcm
     refine AW.rg hE rfl (mvD rfl (asD rfl (OL.nil ?_)))
     exact AW.reach () ⟨trivial, Knows.app (.cons (VLe.refl _) (.cons (VLe.refl _) (.cons (VLe.refl _) (.cons (VLe.refl _) (.cons (VLe.refl _) (.cons (VLe.refl _) (.cons (VLe.refl _) .nil))))))) (.cons (VLe.int (by rw [Nat.add_sub_cancel, han])) .nil), Owns.app (.cons rfl (.cons rfl .nil)) (.nil)⟩
    ·have hcm : ¬ (ritF l g k).2.getD (argm (ritF l g k).2 (i - 1)) 0 < (ritF l g k).2.getD i 0 := fun e => of_decide_eq_false hcm (cmpQ_gt.2 e)
     have han : argm (ritF l g k).2 i = argm (ritF l g k).2 (i - 1) := by obtain ⟨m, rfl⟩ : ∃ m, i = m + 1 := ⟨i - 1, by omega⟩; exact if_neg hcm
     refine AW.skip ?_
     exact AW.reach () ⟨trivial, Knows.app (.cons (VLe.refl _) (.cons (VLe.refl _) (.cons (VLe.refl _) (.cons (VLe.refl _) (.cons (VLe.refl _) (.cons (VLe.refl _) (.cons (VLe.refl _) .nil))))))) (.cons (VLe.int (by rw [Nat.add_sub_cancel, han])) .nil), Owns.app (.cons rfl (.cons rfl .nil)) (.nil)⟩
   rintro ⟨⟩ hφ
   refine AW.rg hE rfl (mvD rfl (add_i64 rfl rfl (by omega) (asD rfl (OL.nil ?_))))
   exact AW.again (x := i) (i + 1) (by omega) ⟨⟨by omega, by omega⟩, Knows.app (.cons (VLe.refl _) (.cons (VLe.refl _) (.cons (VLe.refl _) (.cons (VLe.refl _) (.cons (VLe.refl _) (.cons (VLe.refl _) .nil)))))) (.cons (VLe.refl _) (.cons (VLe.refl _) .nil)), Owns.app (.cons rfl (.cons rfl .nil)) (.nil)⟩
  ·try simp only [dx9] at h56
   refine AW.exit (AW.seq ?_)
   obtain rfl : i = l.length := by omega
   refine AW.rg hE rfl (mvO rfl (mvD rfl (ixOn sl.ints rfl rfl (by omega) (ldEL ce.int 0 (by decide) rfl rfl (by omega) rfl (bo rfl rfl (bin_add (c := (((ritF l g k).1.getD (argm (ritF l g k).2 (l.length - 1)) 0 + 1 : Nat) : Int)) (by omega) (wrap_i64 (by omega))) (ixOn sl.ints rfl rfl (by omega) (stE sz.int rfl (VC.d _).vd rfl rfl (by rw [List.length_map]; omega) (es2 := ((ritF l g (k + 1)).1.map dN)) List.map_set.symm ?_)))))))
   refine OL.nil (AW.rg hE rfl (mvO rfl (mvD rfl (bd z.Rat pl.Rat (cs := [_,_,_]) rfl (ixOn sl.Rats rfl rfl (by omega) (stE sz.Rat rfl vd_q0B9 rfl rfl (by rw [List.length_map]; omega) (es2 := ((ritF l g (k + 1)).2.map dQ)) List.map_set.symm (OL.nil ?_)))))))
   exact AW.rg hE rfl (mvD rfl (sub_i64 rfl rfl (by omega) (asD rfl (OL.nil (AW.again (x := k) (k + 1) (by omega) ⟨by omega, Knows.app (.cons (VLe.refl _) (.cons (VLe.refl _) (.cons (VLe.refl _) (.cons (VLe.refl _) (.cons (VLe.refl _) .nil))))) (.cons (VLe.int (by omega)) .nil), .cons rfl (.cons rfl .nil)⟩)))))
 ·try simp only [dx9] at h50
  refine AW.exit (AW.sg hE rfl (asM rfl (OL.nil (AW.seq (AW.sg hE rfl (asD rfl (OL.nil ?_)))))))
  refine AW.block ?_
  obtain rfl : k = miF l g := by omega
  refine AW.own 12 96 T.Rat 3 rfl rfl ?_
  refine AW.whileK (α := Nat × Nat × Nat) [(0, _), (1, _), (4, _), (5, _)] [(32, _)] (fun (i, q, d) => [(12, .osl 96 q i d), (13, .d (dI i))]) (fun (i, q, d) => [(96, .row q d T.Rat 3 (((roundR l g).take i).map dQ))]) (fun (i, q, d) => i ≤ l.length) (fun (i, q, d) => l.length - i) (0, 0, 0) (.cons (knD rfl) (.cons (knD rfl) (.cons (knM rfl) (.cons (knO rfl) .nil)))) (.cons (owR rfl) .nil) ⟨Nat.zero_le _, .cons (VLe.refl _) (.cons (VLe.refl _) .nil), .cons rfl .nil⟩ ?_
  rintro ⟨i, q, d⟩ h5
  have h5 : i ≤ l.length := h5
  have hto : ((roundR l g).take i).length = i := by rw [List.length_take]; omega
  refine AW.seq (AW.sg hE rfl (mvD rfl (mvD rfl (lnL sl.Rats rfl rfl (c_lss rfl rfl rfl (OL.nil (AW.cond rfl (fun h83 => ?_) (fun h83 => ?_))))))))
  ·try simp only [dx9] at h83
   refine AW.skip (AW.seq (AW.block ?_))
   have hui := hrv (miF l g) i
   have hzu := sz_nat (n := (ritF l g (miF l g)).1.getD i 0) (by omega)
   have hgx := roundR_get (g := g) (show i < l.length by omega)
   refine AW.rg hE rfl (mvO rfl (mvO rfl (mvD rfl (ixOn sl.ints rfl rfl (by omega) (ldEL ce.int 0 (by decide) rfl rfl (by omega) rfl (clv rfl (.cons (VLe.refl _) (.nil)) (ref33_WholeN (n := (ritF l g (miF l g)).1.getD i 0) (by omega)) (mvD rfl ?_)))))))
   refine clv rfl (.cons (VLe.refl _) (.nil)) (ref33_WholeN (n := g) (by omega)) (clv rfl (.cons (VLe.refl _) (.cons (VLe.refl _) (.nil))) (ref39_over (x := ((ritF l g (miF l g)).1.getD i 0 : Rat)) (y := (g : Rat)) (by omega) (by omega) (Rat.ne_of_gt hgp)) ?_)
   rw [← hgx]
   refine lt1 (y := dQ ((roundR l g).getD i 0)) sl.Rats vd_q rfl (by decide) ?_
   refine apO sl.Rats rfl rfl rfl (by rw [List.length_map]; omega) (VC.d _) (by intro y hy; rw [List.mem_singleton.1 hy]; rfl) (by simp; omega) (by simp; omega) (.inr rfl) (ys := (((roundR l g).take (i + 1)).map dQ)) (by rw [take_succ_getD (show i < (roundR l g).length by omega) 0, List.map_append]; rfl) (n2 := i + 1) (by simp) fun q2 d2 => ?_
   refine asO rfl (OL.nil (AW.rg hE rfl (mvD rfl (add_i64 rfl rfl (by omega) (asD rfl (OL.nil ?_))))))
   exact AW.again (x := (i, q, d)) (i + 1, q2, d2) (by (simp only []; omega)) ⟨by omega, Knows.app (.cons (VLe.refl _) (.cons (VLe.refl _) (.cons (VLe.refl _) (.cons (VLe.refl _) .nil)))) (.cons (VLe.refl _) (.cons (VLe.refl _) .nil)), Owns.app (.cons rfl .nil) (.cons rfl .nil)⟩
  ·try simp only [dx9] at h83
   refine AW.exit (AW.seq ?_)
   obtain rfl : i = l.length := by omega
   exact AW.rg hE rfl (mvO rfl (asO rfl (OL.nil (AW.ret (RetQ.r ⟨_, .tmp rfl .nil, RO.row rfl (by rw [List.length_map]; omega) (by rw [List.take_of_length_le (by omega)])⟩)))))
set_option maxRecDepth 6000 in
set_option maxHeartbeats 3200000 in
theorem ref39_Round {h : HM} {B g : Nat} (k : h.Good B) (hg : 1 ≤ g ∧ g ≤ 1048576) : FSpec P F.ref39_Round [vHM h, .d (dI g)] (.tup [vHM (roundRM h g), .d (dI 0)]) := by
 have f := k.form
 have n0 := f.st0
 have n1 := f.st1
 have s0 := f.sym0
 have s1 := f.sym1
 have hb1 := f.b1
 have hbB := f.bB
 have e1 := f.ini
 have e2 := f.trans
 have e3 := f.stop
 have e4 := f.emit
 have e5 := f.ties
 have e6 := f.sill
 have hlf : (roundR (h.empty :: h.ini) g).length = h.st + 1 := by rw [roundR_len, first_len f]
 have g2 : (roundRM h g).trans.length = h.st := by show ((List.range h.st).map _).length = _; simp
 have g3 : (roundRM h g).stop.length = h.st := by show ((List.range h.st).map _).length = _; simp
 have g4 : (roundRM h g).emit.length = h.st := by show ((List.range h.st).map _).length = _; simp
 refine FSpec.intro fn.ref39_Round (by rfl) (by rfl) (nb9 (by rfl)) fun E hE => (AW.sg hE rfl (bxA rfl rfl fun b2 => (al z.Hidden rfl fun b4 => (asD rfl (OL.nil (AW.seq (AW.sg hE rfl ?_)))))))
 refine ldPA ag.Hidden rfl rfl (vs := [_,_,_,_,_,_,_,_,_,_,_]) rfl (nb9 rfl) (clv rfl (.cons (VLe.refl _) (.nil)) (ref33_Check k) (asD rfl (OL.nil (AW.sg hE rfl (mvD rfl (c_neq rfl rfl (c := false) (by exact cne_f (by omega)) (OL.nil ?_)))))))
 refine AW.cond rfl (fun hno => absurd hno (by decide)) (fun _ => ?_)
 refine AW.skip (AW.seq (AW.sg hE rfl (mvD rfl (c_lss rfl rfl (c := false) (by exact decide_eq_false (by omega)) (mvD rfl (OL.yes rfl (mvD rfl ?_)))))))
 refine OL.yes rfl (c_gtr rfl rfl (c := false) (by exact decide_eq_false (by omega)) (pkF rfl rfl (OL.nil (AW.cond rfl (fun hno => absurd hno (by decide)) (fun _ => ?_)))))
 refine AW.skip (AW.seq (AW.dg 2 [0,1,2,3,4,5,6,8,9,10,7,11,12,13,14] order_free hE rfl (by kernel_rfl) (OI.of_OL (os := [_,_,_,_,_,_,_,_,_,_,_,_,_,_,_]) rfl ?_)))
 refine faP fd.Hidden_0 rfl rfl (ldPC ce.int rfl rfl rfl (faP fd.Hidden_1 rfl rfl (ldPC ce.int rfl rfl rfl (lt0 sl.bools (faP fd.Hidden_7 rfl rfl (ldPC ce.bools rfl rfl rfl (lt0 sl.ints ?_)))))))
 refine faP fd.Hidden_8 rfl rfl (ldPC ce.ints rfl rfl rfl (apMD sl.bools rfl rfl (VC.d _) dB_len (by simp; omega) (by simp; omega) (apMD sl.ints rfl rfl (VC.d _) dI_len (by simp; omega) (by simp; omega) (bd2 (cs := [_,_,_,_,_,_,_,_,_,_,_]) z.Hidden pl.Hidden (pvC (by exact evD rfl) (pvC (by exact evD rfl) (pvC (by exact evD rfl) (pvC (by exact evD rfl) (pvN))))) (by rfl) (al z.Hidden rfl fun b7 => (sto sz.Hidden rfl rfl rfl rfl rfl (nb9 rfl) (cells2 := [_,_,_,_,_,_,_,_,_,_,_]) rfl (OL.nil ?_)))))))
 refine AW.sg hE rfl (faP fd.Hidden_2 rfl rfl (ldPA ag.Rat rfl rfl (vs := [_,_,_]) rfl (nb9 rfl) (lt1O (y := dQ h.empty) sl.Rats vd_q rfl (by decide) rfl fun b39 => (faP fd.Hidden_3 rfl rfl (ldPC ce.Rats rfl rfl rfl (apOD sl.Rats rfl rfl rfl rfl (VC.d _) dQ_len (by simp; omega) (by simp; omega) (.inl rfl) (ys := (h.empty :: h.ini).map dQ) rfl (mvD rfl ?_)))))))
 refine clv rfl (.cons (VLe.refl _) (.cons (VLe.refl _) (.nil))) (ref39_rounded (C := B) (first_small f) ⟨hb1, by omega⟩ (first_shares k) (first_sum k) ⟨by rw [first_len f]; omega, by rw [first_len f]; omega⟩ hg) (asD rfl (OL.nil (AW.seq (AW.dg 1 [0,1,2,3,4,5,6,7,8] order_free hE rfl (by kernel_rfl) (OI.of_OL (os := [_,_,_,_,_,_,_,_,_]) rfl ?_)))))
 refine mvD rfl (ixLe 0 sl.Rats 0 rfl rfl rfl (by omega) rfl rfl (ldRA ag.Rat rfl (vs := [_,_,_]) rfl (nb9 rfl) (mvD rfl (slFrom sl.Rats rfl rfl (fun _ => rfl) (by omega) (l2 := (roundRM h g).ini) rfl (faP fd.Hidden_2 rfl rfl (sto sz.Rat rfl rfl rfl rfl rfl (nb9 rfl) (cells2 := [_,_,_,_,_,_,_,_,_,_,_]) rfl (faP fd.Hidden_3 rfl rfl ?_)))))))
 refine sto sz.Rats rfl rfl rfl rfl rfl (nb9 rfl) (cells2 := [_,_,_,_,_,_,_,_,_,_,_]) rfl (OL.nil (AW.seq (AW.sg hE rfl (asD rfl (OL.nil ?_)))))
 refine AW.boxW 7 [.d (dI h.sym), .d (dI h.st), .d (dB (ofQ (roundRM h g).empty).neg), .d (u32s (ofQ (roundRM h g).empty).num), .d (u32s (ofQ (roundRM h g).empty).den), .d (dQs (roundRM h g).ini), .osl 81 0 0 0, .osl 90 0 0 0, .osl 103 0 0 0, .d (bools h.silent), .d (ints h.ties)] rfl (.cons (VLe.refl _) (.cons (VLe.refl _) (.cons (VLe.refl _) (.cons (VLe.refl _) (.cons (VLe.refl _) (.cons (VLe.refl _) (.cons VLe.mtO (.cons VLe.mtO (.cons VLe.mtO (.cons (VLe.refl _) (.cons (VLe.refl _) .nil))))))))))) ?_
 refine AW.row0 81 T.Rats 1 rfl (AW.row0 90 T.Rat 3 rfl (AW.row0 103 T.Rats 1 rfl (AW.block ?_)))
 refine AW.whileK (α := Nat × Nat × Nat × Nat × Nat × Nat × Nat) [(1, _), (2, _), (4, _), (5, _), (7, _)] [(2, _), (4, _)] (fun (i, p1, c1, p2, c2, p3, c3) => [(9, .d (dI i))]) (fun (i, p1, c1, p2, c2, p3, c3) => [(7, .box b7 T.Hidden [.d (dI h.sym), .d (dI h.st), .d (dB (ofQ (roundRM h g).empty).neg), .d (u32s (ofQ (roundRM h g).empty).num), .d (u32s (ofQ (roundRM h g).empty).den), .d (dQs (roundRM h g).ini), .osl 81 p1 i c1, .osl 90 p2 i c2, .osl 103 p3 i c3, .d (bools h.silent), .d (ints h.ties)]), (81, .row p1 c1 T.Rats 1 (((roundRM h g).trans.take i).map dQs)), (90, .row p2 c2 T.Rat 3 (((roundRM h g).stop.take i).map dQ)), (103, .row p3 c3 T.Rats 1 (((roundRM h g).emit.take i).map dQs))]) (fun (i, p1, c1, p2, c2, p3, c3) => i ≤ h.st) (fun (i, p1, c1, p2, c2, p3, c3) => h.st - i) (0, 0, 0, 0, 0, 0, 0) (.cons (knD rfl) (.cons (knP rfl) (.cons (knP rfl) (.cons (knD rfl) (.cons (knP rfl) .nil))))) (.cons (owB rfl) (.cons (owB rfl) .nil)) ⟨Nat.zero_le _, .cons (VLe.refl _) .nil, .cons rfl (.cons rfl (.cons rfl (.cons rfl .nil)))⟩ ?_
 rintro ⟨i, p1, c1, p2, c2, p3, c3⟩ h1
 have h1 : i ≤ h.st := h1
 refine AW.seq (AW.sg hE rfl (mvD rfl (faP fd.Hidden_1 rfl rfl (ldPC ce.int rfl rfl rfl (c_lss rfl rfl rfl (OL.nil (AW.cond rfl (fun h55 => ?_) (fun h55 => ?_))))))))
 ·try simp only [dx9] at h55
  refine AW.skip (AW.seq (AW.block (AW.seq ?_)))
  have hi : i < h.st := by omega
  have tr := f.trow i hi
  have er := f.erow i hi
  have hlt : (roundR (rowTS h i) g).length = h.st + 1 := (roundR_len (rowTS h i) g).trans (rowTS_len f hi)
  have x1 : (roundRM h g).trans.getD i [] = (roundR (rowTS h i) g).take h.st := map_get9 _ _ hi
  have x2 : (roundRM h g).stop.getD i 0 = (roundR (rowTS h i) g).getD h.st 0 := map_get9 _ _ hi
  have x3 : (roundRM h g).emit.getD i [] = roundR (h.emit.getD i []) g := map_get9 _ _ hi
  refine AW.dg 2 [0,1,2,3,4,5,7,8,9,10,11,12,14,6,13,15,16] order_free hE rfl (by kernel_rfl) (OI.of_OL (os := [_,_,_,_,_,_,_,_,_,_,_,_,_,_,_,_,_]) rfl ?_)
  refine lt0 sl.Rats (faP fd.Hidden_4 rfl rfl (ldPC ce.Ratss rfl rfl rfl (mvD rfl (ixLn sl.Ratss [] rfl rfl (by omega) rfl rfl (ldRC ce.Rats rfl (faP fd.Hidden_5 rfl rfl (ldPC ce.Rats rfl rfl rfl ?_)))))))
  refine mvD rfl (ixLn sl.Rats 0 rfl rfl (by omega) rfl rfl (ldRA ag.Rat rfl (vs := [_,_,_]) rfl (nb9 rfl) (lt1 (y := dQ (h.stop.getD i 0)) sl.Rats vd_q rfl (by decide) (mvD rfl (apM sl.Rats rfl rfl (VC.d _) dQ_len (by rw [List.length_map]; omega) (by rw [List.length_map]; omega) rfl fun b64 c64 => ?_)))))
  refine apOD sl.Rats rfl rfl rfl rfl (VC.d _) (by intro y hy; rw [List.mem_singleton.1 hy]; rfl) (by simp only [List.length_map, List.length_singleton]; omega) (by simp only [List.length_map, List.length_singleton]; omega) (.inl rfl) (ys := (rowTS h i).map dQ) (by rw [rowTS, List.map_append]; rfl) ?_
  refine clv rfl (.cons (VLe.refl _) (.cons (VLe.refl _) (.nil))) (ref39_rounded (C := B) (rowTS_small f i) ⟨hb1, by omega⟩ (rowTS_shares k i) (k.sT i hi) ⟨by rw [rowTS_len f hi]; omega, by rw [rowTS_len f hi]; omega⟩ hg) (asD rfl (OL.nil (AW.seq (AW.dg 2 [0,1,2,3,4,5,6,8,9,10,11,12,13,14,15,7,17,16,18,19,20] order_free hE rfl (by kernel_rfl) (OI.of_OL (os := [_,_,_,_,_,_,_,_,_,_,_,_,_,_,_,_,_,_,_,_,_]) rfl ?_)))))
  refine faP fd.Hidden_4 rfl rfl (ldPC ce.Ratss rfl rfl rfl (mvD rfl (faP fd.Hidden_1 rfl rfl (ldPC ce.int rfl rfl rfl (slTo sl.Rats rfl rfl (fun _ => rfl) (by omega) (l2 := (roundRM h g).trans.getD i []) (by rw [x1]; rfl) (lt1 (y := dQs ((roundRM h g).trans.getD i [])) sl.Ratss (VC.d _).vd rfl (by decide) (faP fd.Hidden_5 rfl rfl ?_)))))))
  refine ldPC ce.Rats rfl rfl rfl (mvD rfl (faP fd.Hidden_1 rfl rfl (ldPC ce.int rfl rfl rfl (ixLn sl.Rats 0 rfl rfl (by omega) rfl rfl ?_))))
  rw [← x2]
  refine ldRA ag.Rat rfl (vs := [_,_,_]) rfl (nb9 rfl) (lt1 (y := dQ ((roundRM h g).stop.getD i 0)) sl.Rats vd_q rfl (by decide) ?_)
  refine apO sl.Ratss rfl rfl rfl (by simp only [List.length_map, List.length_take]; omega) (VC.d _) (by simp [D.cells]) (by simp; omega) (by simp; omega) (.inr rfl) (ys := (((roundRM h g).trans.take (i + 1)).map dQs)) (by rw [take_succ_getD (show i < (roundRM h g).trans.length by omega) [], List.map_append]; rfl) (n2 := i + 1) (by simp) fun q1 d1 => ?_
  refine faP fd.Hidden_4 rfl rfl ?_
  refine apO sl.Rats rfl rfl rfl (by simp only [List.length_map, List.length_take]; omega) (VC.d _) (by simp [D.cells]) (by simp; omega) (by simp; omega) (.inr rfl) (ys := (((roundRM h g).stop.take (i + 1)).map dQ)) (by rw [take_succ_getD (show i < (roundRM h g).stop.length by omega) 0, List.map_append]; rfl) (n2 := i + 1) (by simp) fun q2 d2 => ?_
  refine sto sz.Ratss rfl rfl rfl rfl rfl (nb9 rfl) (cells2 := [_,_,_,_,_,_,_,_,_,_,_]) rfl (faP fd.Hidden_5 rfl rfl (sto sz.Rats rfl rfl rfl rfl rfl (nb9 rfl) (cells2 := [_,_,_,_,_,_,_,_,_,_,_]) rfl (OL.nil (AW.dg 2 [0,1,2,3,4,5,6,7,8,9,10,11,12] order_free hE rfl (by kernel_rfl) (OI.of_OL (os := [_,_,_,_,_,_,_,_,_,_,_,_,_]) rfl ?_)))))
  refine faP fd.Hidden_6 rfl rfl (ldPC ce.Ratss rfl rfl rfl (faP fd.Hidden_6 rfl rfl (ldPC ce.Ratss rfl rfl rfl (mvD rfl (ixLn sl.Ratss [] rfl rfl (by omega) rfl rfl (ldRC ce.Rats rfl (mvD rfl ?_)))))))
  refine clv rfl (.cons (VLe.refl _) (.cons (VLe.refl _) (.nil))) (ref39_rounded (C := B) (f.zM i) ⟨hb1, by omega⟩ (k.pM i) (k.sM i hi) ⟨by omega, by omega⟩ hg) ?_
  rw [← x3]
  refine lt1 (y := dQs ((roundRM h g).emit.getD i [])) sl.Ratss (VC.d _).vd rfl (by decide) ?_
  refine apO sl.Ratss rfl rfl rfl (by simp only [List.length_map, List.length_take]; omega) (VC.d _) (by simp [D.cells]) (by simp; omega) (by simp; omega) (.inr rfl) (ys := (((roundRM h g).emit.take (i + 1)).map dQs)) (by rw [take_succ_getD (show i < (roundRM h g).emit.length by omega) [], List.map_append]; rfl) (n2 := i + 1) (by simp) fun q3 d3 => ?_
  refine faP fd.Hidden_6 rfl rfl (sto sz.Ratss rfl rfl rfl rfl rfl (nb9 rfl) (cells2 := [_,_,_,_,_,_,_,_,_,_,_]) rfl (OL.nil (AW.rg hE rfl (mvD rfl (add_i64 rfl rfl (by omega) (asD rfl (OL.nil ?_)))))))
  exact AW.again (x := (i, p1, c1, p2, c2, p3, c3)) (i + 1, q1, d1, q2, d2, q3, d3) (by (simp only []; omega)) ⟨by omega, Knows.app (.cons (VLe.refl _) (.cons (VLe.refl _) (.cons (VLe.refl _) (.cons (VLe.refl _) (.cons (VLe.refl _) .nil))))) (.cons (VLe.refl _) .nil), Owns.app (.cons rfl (.cons rfl .nil)) (.cons rfl (.cons rfl (.cons rfl (.cons rfl .nil))))⟩
 ·try simp only [dx9] at h55
  refine AW.exit (AW.seq ?_)
  obtain rfl : i = h.st := by omega
  refine AW.rg hE rfl (ldPA ag.Hidden rfl rfl (vs := [_,_,_,_,_,_,_,_,_,_,_]) rfl (nb9 rfl) (sto sz.Hidden rfl rfl rfl rfl rfl (nb9 rfl) (cells2 := [_,_,_,_,_,_,_,_,_,_,_]) rfl (asD rfl (OL.nil ?_))))
  exact AW.ret (RetQ.r ⟨_, .cellA rfl rfl ag.Hidden (nb9 rfl) (.tmp rfl .nil), _, .cons (.ag (.cons (.le (VLe.refl _)) (.cons (.le (VLe.refl _)) (.cons (.le (VLe.refl _)) (.cons (.le (VLe.refl _)) (.cons (.le (VLe.refl _)) (.cons (.le (VLe.refl _)) (.cons (RO.row rfl (by rw [List.length_map, List.length_take]; omega) (by rw [show (roundRM h g).trans.take h.st = (roundRM h g).trans from List.take_of_length_le (by omega)])) (.cons (RO.row rfl (by rw [List.length_map, List.length_take]; omega) (by rw [show (roundRM h g).stop.take h.st = (roundRM h g).stop from List.take_of_length_le (by omega)])) (.cons (RO.row rfl (by rw [List.length_map, List.length_take]; omega) (by rw [show (roundRM h g).emit.take h.st = (roundRM h g).emit from List.take_of_length_le (by omega)])) (.cons (.le (VLe.refl _)) (.cons (.le (VLe.refl _)) .nil)))))))))))) (.cons (.le (VLe.refl _)) .nil), rfl⟩)
end Go.Proofs.YtoohdcpikkkanaaGreat

/-
  The law HmmStays walked (printed by mk2.py).
-/
import Derived.Test.YtippcclgnabpdaaGreatDoorKHxI
import Derived.Test.YtippcclgnabpdaaGreatDoorKHmmB
import Derived.Test.YtippcclgnabpdaaGreatDoorKSampleA
import Derived.Test.YtippcclgnabpdaaGreatDoorKNumb
import Derived.Test.YtippcclgnabpdaaGreatDoorKAlg31
import Derived.Test.YtippcclgnabpdaaGreatDoorKHxC
set_option linter.unusedVariables false
set_option linter.unusedSimpArgs false
namespace Go.Proofs.YtippcclgnabpdaaGreatDoor
open Go Go.AL
theorem lt3 {m : Nat} {ops : Array Oper} {K : S → Prop} {s : S} {dst : Option Nat} {ty : Nat} {pos : String} {after : Array Edge} {r : List Oper} {t e sz by_ : Nat} {x x2 x3 : Operand} {y y2 y3 : D} (hT : SliceT P t e sz by_) (hx : VD (s.ev x) y) (hx2 : VD (s.ev x2) y2) (hx3 : VD (s.ev x3) y3) (hs : y.cells.length = sz ∧ y2.cells.length = sz ∧ y3.cells.length = sz) (h24 : sz ≤ 4194304) (h : OL P m ops K r (s.put dst (.d (.sl [y, y2, y3])))) : OL P m ops K (⟨dst, .buildSlice t 3 #[(0, x), (1, x2), (2, x3)], ty, pos, after, none⟩ :: r) s := OL.puren (.litD (xs := [y, y2, y3]) hT rfl rfl (by omega) (by omega) (fun i p z hp hz => by
 match i, hp, hz with
 | 0, hp, hz => simp at hp hz; subst hp hz; exact hx
 | 1, hp, hz => simp at hp hz; subst hp hz; exact hx2
 | 2, hp, hz => simp at hp hz; subst hp hz; exact hx3
 | i + 3, hp, hz => simp at hp) (fun z hz => by simp at hz; rcases hz with rfl | rfl | rfl; exact hs.1; exact hs.2.1; exact hs.2.2)) h
theorem vd_stay {s : Nat} {d : List Rat} : VD (.ag [.d (dI s), .d (dQs d)]) (dStay s d) := VD.ag (VCs.map_d [_,_])
theorem fw_small {a : Au} (h : a.Ok) (hn : a.arcs.length ≤ 20) {w : List Int} (hw : InW a.sym w) {C : Nat} (hC : 1 ≤ C ∧ C ≤ 1000000) (hv : ∀ k, k ≤ w.length → ∀ j, sz ((vecM (machL [a]) (w.take k)).getD j 0) ≤ C) (he : ∀ s i j, sz (entA a.arcs s i j) ≤ C) (hf : Small C a.fin) (s2 : a.st ≤ 64) : FwSz (normOf a) w := by
 have hv2 : ∀ k, k ≤ w.length → ∀ j, sz ((fwA (normOf a) (w.take k)).getD j 0) ≤ C := fun k hk j => by
  rw [fwA_vec (norm_ok h) (fun x hx => hw x (List.mem_of_mem_take hx)), (norm_same a).mach1]; exact hv k hk j
 have hq : ∀ x, x ∈ (normOf a).arcs → sz x.q ≤ C := fun x hx => by
  rw [← entA_mem (tidy_asc a.arcs) hx (normOf_lab h x hx), entA_tidy]; exact he ..
 have hl : (normOf a).arcs.length ≤ 20 := Nat.le_trans (tidyA_len a.arcs) hn
 have hvw : ∀ j, sz ((fwA (normOf a) w).getD j 0) ≤ C := fun j => by
  have := hv2 w.length (Nat.le_refl _) j; rwa [List.take_length] at this
 refine ⟨fun k hk => ⟨fun j => Nat.le_trans (hv2 k (by omega) j) (by omega), fun x hx => Nat.le_trans (hq x hx) (by omega), fun i j => ?_⟩, fun j => Nat.le_trans (hvw j) (by omega), fun j => Nat.le_trans (hf.get hC.1 j) (by omega), fun i hi => ?_⟩
 ·have h1 := stepF_szG (v := fwA (normOf a) (w.take k)) (n := a.st) (s := (w.getD k 0).toNat) (j := j) (l := (normOf a).arcs.take i) (B := C) (C := C) (N := 20) (hv2 k (by omega)) (fun x hx => ⟨((norm_ok h).arc x (List.mem_of_mem_take hx)).2.1, hq x (List.mem_of_mem_take hx)⟩) (by rw [List.length_take]; omega) (by omega)
  exact Nat.le_trans h1 (by omega)
 ·unfold dotF
  have h1 := sumN_szC (f := fun i => (fwA (normOf a) w).getD i 0 * (normOf a).fin.getD i 0) (C := C + C) (n := i) fun j _ => by
   have h2 := sz_mul ((fwA (normOf a) w).getD j 0) ((normOf a).fin.getD j 0)
   have h3 := hvw j
   have h4 : sz ((normOf a).fin.getD j 0) ≤ C := hf.get hC.1 j
   omega
  have h2 := Nat.mul_le_mul_right (C + C + 1) (show i ≤ 64 from Nat.le_trans hi s2)
  omega
theorem norm_small {a : Au} (h : a.Ok) {C : Nat} (he : ∀ s i j, sz (entA a.arcs s i j) ≤ C) {x : Arc9} (hx : x ∈ (normOf a).arcs) : sz x.q ≤ C := by
 rw [← entA_mem (tidy_asc a.arcs) hx (normOf_lab h x hx), entA_tidy]; exact he ..
theorem WeightH {h : HM} {B C : Nat} (g : HM.GoodX 1048576 B h) (na : (autoHM h).arcs.length ≤ 20) {w : List Int} (hw : InW h.sym w) (hl : w.length ≤ 256) (hC : 1 ≤ C ∧ C ≤ 1000000) (hB : B + B ≤ C)
  (hf : ∀ k, k ≤ w.length → ∀ t j, t < (w.take k).length → sz ((fwdF h (w.take k) t).getD j 0) ≤ C) : FSpec P F.weigh_Weight [vAu (normOf (autoHM h)), .d (ints w)] (.tup [vW (likF h w), .d (dI 0)]) := by
 have ok := autoHM_ok g
 have nk := norm_ok ok
 have he : ∀ s i j, sz (entA (autoHM h).arcs s i j) ≤ C := fun s i j => Nat.le_trans (autoHM_ent g s i j) hB
 have z := autoHM_sz g na
 have st : (autoHM h).st ≤ 64 := by have := g.form.st1; show h.st + 1 ≤ 64; omega
 have zn : (normOf (autoHM h)).Sz 134217728 20 := ⟨z.ini, z.fin, fun x hx => Nat.le_trans (norm_small ok he hx) (by omega), Nat.le_trans (tidyA_len _) na⟩
 have e : serA (normOf (autoHM h)) w = likF h w := by rw [ser_norm]; exact ser_lik g hw
 have r := WeightW (a := normOf (autoHM h)) nk zn g.form.sym1 st (w := w) hw hl (fw_small nk zn.num hw hC (fun k hk j => by rw [(norm_same _).mach1]; exact vecH_sz g hC.1 (fun x hx => hw x (List.mem_of_mem_take hx)) (hf k hk) j) (fun s i j => by show sz (entA (tidyA _) s i j) ≤ C; rw [entA_tidy]; exact he s i j) ((autoHM_fin g).mono (by omega)) st)
 rw [e] at r
 exact r
theorem arE_none {f i k : Nat} {e : List Rat} : arE 0 f i e k = [] := by
 induction k with
 | zero => rfl
 | succ k ih => rw [arE_succ, ih, if_neg (by rw [Rat.zero_mul]; exact Rat.lt_irrefl)]; rfl
theorem arI_one {g : HM} {f c : Nat} (he : ∀ i, (g.emit.getD i []).length ≤ 1) : ∀ {k : Nat}, (∀ i, i < k → i ≠ c → (rowHA g f).getD i 0 = 0) → (arI g f k).length ≤ if c < k then 1 else 0
 | 0, _ => by simp [arI]
 | k + 1, hz => by
  have ih := arI_one (f := f) (c := c) he (k := k) fun i hi => hz i (by omega)
  rw [arI_succ, List.length_append]
  have h1 := arE_len (p := (rowHA g f).getD k 0) (f := f) (i := k) (e := g.emit.getD k []) (k := (g.emit.getD k []).length)
  have h2 := he k
  by_cases e : k = c
  ·rw [if_neg (by omega)] at ih
   rw [if_pos (by omega)]; omega
  ·rw [hz k (Nat.lt_succ_self k) e, arE_none, List.length_nil]
   by_cases h : c < k
   ·rw [if_pos h] at ih; rw [if_pos (by omega)]; omega
   ·rw [if_neg h] at ih; omega
theorem stay_emL {d : List Rat} (i : Nat) : ((stayHM d).emit.getD i []).length ≤ 1 := by
 rcases Nat.lt_or_ge i d.length with hi | hi
 ·show ((emX endHM (cpN d 0 1)).getD i []).length ≤ 1
  unfold emX
  rw [map_mem (d := (0, 0)) (by rw [stay_cpl]; exact hi), stay_cpg hi]
  exact Nat.le_refl _
 ·show ((emX endHM (cpN d 0 1)).getD i []).length ≤ 1
  rw [getD_ge (by unfold emX; rw [List.length_map, stay_cpl]; exact hi)]; exact Nat.zero_le _
theorem stay_arcs {d : List Rat} (d6 : d.length ≤ 6) : (autoHM (stayHM d)).arcs.length ≤ 20 := by
 have row : ∀ f, f ≤ d.length → (rowHA (stayHM d) f).length = d.length := fun f hf => by
  unfold rowHA
  split
  ·rw [stay_ini]
  ·show ((trX endHM d 0 (sprR d 0 [1]).length (cpN d 0 1)).getD (f - 1) []).length = _
   rw [trX_get (by rw [stay_cpl]; omega), stay_cpg (by omega), stay_one]
   unfold rowX
   split
   ·show (sprR d 0 [0]).length = _
    rw [stay_spr, List.length_map]
   ·rw [List.length_map, List.length_range]
 have key : ∀ k, k ≤ d.length + 1 → (arF (stayHM d) k).length ≤ d.length + k := fun k => by
  induction k with
  | zero => intro _; simp [arF]
  | succ k ih =>
   intro hk
   have ih := ih (by omega)
   rw [arF_succ, List.length_append, row k (by omega)]
   rcases Nat.eq_zero_or_pos k with rfl | h0
   ·have h1 := arI_len (g := stayHM d) (f := 0) (k := d.length) (m := 1) fun i _ => stay_emL i
    have h2 : (arF (stayHM d) 0).length = 0 := rfl
    omega
   ·have h1 := arI_one (g := stayHM d) (f := k) (c := k - 2) stay_emL (k := d.length) fun i hi hne => by
     have h2 := stay_tr (i := k - 1) (j := i) (d := d) (by omega) hi
     unfold trQ at h2
     unfold rowHA
     rw [if_neg (by omega), h2]
     by_cases h3 : k = 1
     ·subst h3; rw [if_neg (by omega)]
     ·rw [if_neg (by omega)]
    have h4 : (if k - 2 < d.length then 1 else 0) ≤ 1 := by split <;> omega
    omega
 have := key (d.length + 1) (Nat.le_refl _)
 show (arF (stayHM d) ((stayHM d).st + 1)).length ≤ 20
 rw [stay_st]
 omega
theorem eighth_q : ((1 : Int) : Rat) / ((8 : Int) : Rat) = 1 / 8 := by decide +kernel
theorem eighth_sz : sz (1 / 8) ≤ 1 := by decide +kernel
theorem coinS_arcs : (autoHM coinS).arcs.length ≤ 20 := by decide +kernel
theorem law33_halfQ {q : Rat} (hq : FSpec P F.ref01_Make [.d (dI 1), .d (dI 2)] (.tup [vQ q, .d (dI 0)])) : FSpec P F.law33_half [] (vQ q) := by
 refine FSpec.intro fn.law33_half (by rfl) (by rfl) (nb9 (by rfl)) fun E hE => (AW.sg hE rfl (al z.Rat rfl fun b0 => (OL.nil (AW.sg hE rfl (clv rfl (.cons (VLe.refl _) (.cons (VLe.refl _) (.nil))) (hq) (mvT rfl (ex rfl rfl ?_)))))))
 refine ex rfl rfl (al z.Rat rfl fun b1 => (sto sz.Rat rfl rfl rfl rfl rfl (nb9 rfl) (cells2 := [_,_,_]) rfl (asD rfl (OL.nil (AW.sg hE rfl (ldPA ag.Rat rfl rfl (vs := [_,_,_]) rfl (nb9 rfl) (sto sz.Rat rfl rfl rfl rfl rfl (nb9 rfl) (cells2 := [_,_,_]) rfl ?_)))))))
 exact OL.nil (AW.ret (RetQ.r ⟨_, .cellA rfl rfl ag.Rat (nb9 rfl) .nil, .ag (.cons (.le (VLe.refl _)) (.cons (.le (VLe.refl _)) (.cons (.le (VLe.refl _)) .nil)))⟩))
theorem law33_coinQ {q o : Rat} (hq : FSpec P F.law33_half [] (vQ q)) (ho : FSpec P F.ref33_Whole [.d (dI 1)] (vQ o)) : FSpec P F.law33_coin [] (vHM ⟨1, 1, 0, [o], [[q]], [q], [[o]], [false], [0]⟩) := by
 refine FSpec.intro fn.law33_coin (by rfl) (by rfl) (nb9 (by rfl)) fun E hE => ?_
 refine AW.sg hE rfl ?_
 refine al z.Hidden rfl fun b0 => ?_
 refine OL.nil ?_
 refine AW.sg hE rfl ?_
 refine clv rfl (.cons (VLe.refl _) (.nil)) (ho) ?_
 refine lt1 (y := dQ _) sl.Rats vd_q rfl (by decide) ?_
 refine clv rfl (.nil) (hq) (lt1 (y := dQ _) sl.Rats vd_q rfl (by decide) (lt1 sl.Ratss (VC.d _).vd rfl (by decide) (clv rfl (.nil) (hq) (lt1 (y := dQ _) sl.Rats vd_q rfl (by decide) (clv rfl (.cons (VLe.refl _) (.nil)) (ho) (lt1 (y := dQ _) sl.Rats vd_q rfl (by decide) (lt1 sl.Ratss (VC.d _).vd rfl (by decide) ?_)))))))
 refine lt1 sl.bools (VC.d _).vd rfl (by decide) (lt1 sl.ints (VC.d _).vd rfl (by decide) ?_)
 refine bd2 (cs := [_,_,_,_,_,_,_,_,_,_,_]) z.Hidden pl.Hidden (pvC (by exact evD rfl) (pvC (by exact evD rfl) (pvC (by exact evD rfl) (pvC (by exact evD rfl) (pvC (by exact evD rfl) (pvC (by exact evD rfl) (pvC (by exact evD rfl) (pvC (by exact evD rfl) (pvN))))))))) (by rfl) ?_
 refine sto sz.Hidden rfl rfl rfl rfl rfl (nb9 rfl) (cells2 := [_,_,_,_,_,_,_,_,_,_,_]) rfl (OL.nil ?_)
 exact AW.ret (RetQ.r ⟨_, .cellA rfl rfl ag.Hidden (nb9 rfl) .nil, .ag (.cons (.le (VLe.refl _)) (.cons (.le (VLe.refl _)) (.cons (.le (vle_of_eq (by show _ = V.d (dB (ofQ 0).neg); rw [ofQ_zero]))) (.cons (.le (by show VLe _ (.d (u32s (ofQ 0).num)); rw [ofQ_zero]; exact VLe.mt)) (.cons (.le (by show VLe _ (.d (u32s (ofQ 0).den)); rw [ofQ_zero]; exact VLe.mt)) (.cons (.le (VLe.refl _)) (.cons (.le (VLe.refl _)) (.cons (.le (VLe.refl _)) (.cons (.le (VLe.refl _)) (.cons (.le (VLe.refl _)) (.cons (.le (VLe.refl _)) .nil)))))))))))⟩)
theorem law33_half : FSpec P F.law33_half [] (vQ (1 / 2)) := law33_halfQ ref_half
theorem law33_coin : FSpec P F.law33_coin [] (vHM coinS) := law33_coinQ law33_half ref33_Whole1
theorem law33_knownQ {a : Au} {h : HM} {p : Rat} (hc : FSpec P F.law33_coin [] (vHM h)) (ha : FSpec P F.hmm_Automaton [vHM h] (.tup [vAu a, .d (dI 0)])) (hw : FSpec P F.weigh_Weight [vAu a, .d (ints [1, 1, 1])] (.tup [vW p, .d (dI 0)])) (hx : FSpec P F.ref01_Make [.d (dI 1), .d (dI 8)] (.tup [vQ p, .d (dI 0)])) (hp : FSpec P F.hmm_Plain [vHM h] (.d (dB true))) (zp : sz p ≤ 68719476736) : FSpec P F.law33_known [] (.d (dB true)) := by
 refine FSpec.intro fn.law33_known (by rfl) (by rfl) (nb9 (by rfl)) fun E hE => (AW.sg hE rfl (asD rfl (OL.nil (AW.sg hE rfl (clv rfl (.nil) (hc) (clv rfl (.cons (VLe.refl _) (.nil)) (ha) (mvT rfl ?_)))))))
 refine ex rfl rfl (ex rfl rfl (al z.Auto rfl fun b1 => (sto sz.Auto rfl rfl rfl rfl rfl (nb9 rfl) (cells2 := [_,_,_,_,_,_,_]) rfl (asD rfl (OL.nil (AW.sg hE rfl (ldPA ag.Auto rfl rfl (vs := [_,_,_,_,_,_,_]) rfl (nb9 rfl) ?_)))))))
 refine lt3 (y := dI 1) (y2 := dI 1) (y3 := dI 1) sl.ints (VC.d _).vd (VC.d _).vd (VC.d _).vd ⟨rfl, rfl, rfl⟩ (by decide) (clv rfl (.cons (VLe.refl _) (.cons (VLe.refl _) (.nil))) (hw) (mvT rfl (ex rfl rfl (ex rfl rfl (al z.Weight rfl fun b3 => (sto sz.Weight rfl rfl rfl rfl rfl (nb9 rfl) (cells2 := [_,_,_,_,_,_,_,_]) rfl (asD rfl ?_)))))))
 refine OL.nil (AW.sg hE rfl (clv rfl (.cons (VLe.refl _) (.cons (VLe.refl _) (.nil))) (hx) (mvT rfl (ex rfl rfl (ex rfl rfl (al z.Rat rfl fun b5 => (sto sz.Rat rfl rfl rfl rfl rfl (nb9 rfl) (cells2 := [_,_,_]) rfl ?_)))))))
 refine asD rfl (OL.nil (AW.sg hE rfl (mvD rfl (c_eql rfl rfl (c := true) (by exact decide_eq_true (by omega)) (mvD rfl (OL.yes rfl (mvD rfl ?_)))))))
 refine OL.yes rfl (c_eql rfl rfl (c := true) (by exact decide_eq_true (by omega)) (pkT rfl rfl (mvD rfl (OL.yes rfl (faP fd.Weight_0 rfl rfl (OL.yes rfl (ldPA ag.Rat rfl rfl (vs := [_,_,_]) rfl (nb9 rfl) ?_)))))))
 refine OL.yes rfl (ldPA ag.Rat rfl rfl (vs := [_,_,_]) rfl (nb9 rfl) (OL.yes rfl (clv rfl (.cons (VLe.refl _) (.cons (VLe.refl _) (.nil))) (ref_CompareQ (x := p) (y := p) zp zp) ?_)))
 rw [show cmpQ p p = 0 from cmpQ_eq.2 rfl]
 refine OL.yes rfl (c_eql rfl rfl (c := true) (by exact decide_eq_true (by omega)) (pkT rfl rfl (mvD rfl (OL.yes rfl (clv rfl (.nil) (hc) (OL.yes rfl (clv rfl (.cons (VLe.refl _) (.nil)) (hp) ?_)))))))
 exact pkT rfl rfl (asD rfl (OL.nil (AW.ret (RetQ.r ⟨_, .tmp rfl .nil, .le (VLe.refl _)⟩))))
theorem law33_known : FSpec P F.law33_known [] (.d (dB true)) := by
 have h8 := ref_Make (n := 1) (d := 8) (by decide) (by decide) (by decide)
 rw [eighth_q] at h8
 have hw := WeightH (h := coinS) (C := 2) coinS_good coinS_arcs (w := oneW 3) (oneW_in 3) (by decide) (by decide) (by decide) fun k hk t j ht => by
  rw [oneW_take (by rw [oneW_len] at hk; exact hk)] at ht ⊢
  exact Nat.le_trans (coinS_fwd (by rw [oneW_len] at hk; exact hk) ht) (by decide)
 rw [coinS_lik] at hw
 exact law33_knownQ law33_coin (AutomatonX coinS_good coinS_arcs) hw h8 (hmm_Plain_okW coinS_good) (Nat.le_trans eighth_sz (by decide))
end Go.Proofs.YtippcclgnabpdaaGreatDoor

set_option linter.unusedVariables false
set_option linter.unusedSimpArgs false
namespace Go.Proofs.YtippcclgnabpdaaGreatDoor
open Go Go.AL
theorem fill_one (n : Nat) : fillF (0 : Int) (fun _ => 1) n n = oneW n := by
 rw [fillF_all]
 unfold oneW
 rw [List.eq_replicate_iff]
 simp
theorem stay_small {D : List Rat} (hz : Small 1 D) {n k : Nat} (hk : k ≤ n) {t j : Nat} : sz ((fwdF (stayHM D) ((oneW n).take k) t).getD j 0) ≤ 4 := by
 rw [oneW_take hk]
 rcases Nat.lt_or_ge j D.length with hj | hj
 ·rw [stay_fwd hj]
  exact Nat.le_trans (hz.get (Nat.le_refl _) _) (by decide)
 ·rw [getD_ge (by rw [fwdF_len, stay_st]; exact hj), sz_zero]; decide
set_option maxRecDepth 16000 in
set_option maxHeartbeats 6400000 in
theorem law33_StaysQ {q : Rat} {l : List Int} {kv : Int} (hc : FSpec P F.law33_coin [] (vHM ⟨1, 1, 0, [1], [[q]], [q], [[1]], [false], [0]⟩)) (nl : l.length ≤ 9223372036854775807) : FSpec P F.law33_HmmStays [.d (ints l), .d (dI kv)] (.d (dB true)) := by
 refine FSpec.intro fn.law33_HmmStays (by rfl) (by rfl) (nb9 (by rfl)) fun E hE => (AW.sg hE rfl (asD rfl (OL.nil (AW.sg hE rfl (mvD rfl (bd z.Tape pl.Tape (cs := [_,_]) rfl (bxA rfl rfl fun b19 => ?_)))))))
 refine asP rfl (OL.nil (AW.seq (AW.rename 19 1000 rfl ?_)))
 have hr := tnext_range (L := l) (a := 0) (m := 6) (by decide)
 obtain ⟨n4, h4⟩ : ∃ n : Nat, 1 + tnext l 0 6 = (n : Int) := ⟨_, (Int.toNat_of_nonneg (by omega)).symm⟩
 have hdl := shares_len l n4 (tat l 0)
 have hdz := shares_small l n4 (tat l 0) (by omega) (by omega)
 have hds := shares_share l n4 (tat l 0) (by omega)
 have hdu := shares_sum l n4 (tat l 0) (by omega)
 have hsh := world_Shares (L := l) (n := n4) (a := tat l 0) (b := b19) ⟨by omega, by omega⟩ nl
 obtain ⟨D, hD⟩ : ∃ D, shares l n4 (tat l 0) = D := ⟨_, rfl⟩
 rw [hD] at hdl hdz hds hdu hsh
 have gy := xp_good (s := 0) (d := D) end_good (by decide) (by omega) hds hdu hdz (by show 1 - 1 + D.length ≤ 12; omega) (by decide)
 have zy := hdz.get (Nat.le_refl 1)
 have na := stay_arcs (d := D) (by omega)
 refine AW.rg hE rfl (mvP rfl (mvP rfl (OL.callM (v := .d (dI (tnext l 0 6))) (.mk (args' := [.ptr 1000 b19 0, .d (dI 6)]) rfl (.cons (VLe.ptr) (.cons (VLe.refl _) (.nil))) (mem1_keep (id := 1000) (blk := tapeB b19 l 0) rfl) mem1_sub (tape_Next (by decide) nl)) (bo rfl rfl (bin_add (c := (n4 : Int)) h4 (wrap_i64 (by omega))) (OL.callM (v := .d (dQs D)) (.mk (args' := [.ptr 1000 b19 0, .d (dI n4)]) rfl (.cons (VLe.ptr) (.cons (VLe.refl _) (.nil))) (mem1_keep (id := 1000) (blk := tapeB b19 l (tat l 0)) rfl) mem1_sub (hsh)) (asD rfl (OL.nil ?_)))))))
 refine AW.sg hE rfl (clv rfl (.nil) (hc) (al z.Hidden rfl fun b7 => (sto sz.Hidden rfl rfl rfl rfl rfl (nb9 rfl) (cells2 := [_,_,_,_,_,_,_,_,_,_,_]) rfl (OL.nil (AW.sg hE rfl (bd z.Rat pl.Rat (cs := [_,_,_]) rfl (lt1 (y := dQ 0) sl.Rats vd_q0X rfl (by decide) ?_)))))))
 refine lt1 (y := dQs [0]) sl.Ratss (VC.d _).vd rfl (by decide) (clv rfl (.cons (VLe.refl _) (.nil)) (ref33_Whole1) (lt1 (y := dQ _) sl.Rats vd_q rfl (by decide) (faP fd.Hidden_4 rfl rfl (sto sz.Ratss rfl rfl rfl rfl rfl (nb9 rfl) (cells2 := [_,_,_,_,_,_,_,_,_,_,_]) rfl (faP fd.Hidden_5 rfl rfl (sto sz.Rats rfl rfl rfl rfl rfl (nb9 rfl) (cells2 := [_,_,_,_,_,_,_,_,_,_,_]) rfl (OL.nil ?_)))))))
 refine AW.sg hE rfl (ldPA ag.Hidden rfl rfl (vs := [_,_,_,_,_,_,_,_,_,_,_]) rfl (nb9 rfl) (mvD rfl (bd z.Stay pl.Stay (cs := [_,_]) rfl (lt1 (y := dStay 0 D) sl.Stays (vd_stay (s := 0) (d := D)) rfl (by decide) (clv rfl (.cons (VLe.refl _) (.cons (VLe.refl _) (.nil))) (ExpandX end_good (s := 0) (d := D) (by decide) ⟨by omega, by omega⟩ hds hdz hdu (by show 1 - 1 + D.length ≤ 12; omega)) (mvT rfl (ex rfl rfl ?_)))))))
 refine ex rfl rfl (al z.Hidden rfl fun b8 => (sto sz.Hidden rfl rfl rfl rfl rfl (nb9 rfl) (cells2 := [_,_,_,_,_,_,_,_,_,_,_]) rfl (asD rfl (OL.nil (AW.sg hE rfl (ldPA ag.Hidden rfl rfl (vs := [_,_,_,_,_,_,_,_,_,_,_]) rfl (nb9 rfl) (clv rfl (.cons (VLe.refl _) (.nil)) (AutomatonX gy na) ?_)))))))
 refine mvT rfl (ex rfl rfl (ex rfl rfl (al z.Auto rfl fun b10 => (sto sz.Auto rfl rfl rfl rfl rfl (nb9 rfl) (cells2 := [_,_,_,_,_,_,_]) rfl (asD rfl (OL.nil (AW.sg hE rfl ?_)))))))
 refine mvD rfl (clv rfl .rq2 (world_Within (v := kv) (m := 8) (by decide)) ?_)
 obtain ⟨k, hk⟩ : ∃ k : Nat, within kv 8 = (k : Int) := ⟨_, (Int.toNat_of_nonneg (within_range (by decide)).1).symm⟩
 have hk8 : k < 8 := by have := (within_range (v := kv) (m := 8) (by decide)).2; omega
 rw [hk]
 refine asD rfl (OL.nil (AW.sg hE rfl (mvD rfl (bo rfl rfl (bin_add (c := ((k + 1 : Nat) : Int)) (by omega) (wrap_i64 (by omega))) (mkL dI 0 sl.ints z.int (.cons (VC.d _) .nil) (n := k + 1) (cp := k + 1) rfl rfl (Nat.le_refl _) (by omega) (by omega) rfl fun b50 => (asO rfl (OL.nil ?_)))))))
 refine AW.seq (AW.sg hE rfl (asD rfl (OL.nil (AW.block ?_))))
 refine AW.whileK (α := Nat) [(1, _), (4, _), (6, _), (8, _), (9, _), (10, _), (11, _), (12, _)] [(8, _), (10, _)] (fun i => [(13, .d (dI i))]) (fun i => [(50, .row b50 (k + 1) T.int 1 ((fillF 0 (fun _ => 1) (k + 1) i).map dI))]) (fun i => i ≤ k + 1) (fun i => k + 1 - i) 0 (.cons (knD rfl) (.cons (knD rfl) (.cons (knD rfl) (.cons (knP rfl) (.cons (knD rfl) (.cons (knP rfl) (.cons (knD rfl) (.cons (knO rfl) .nil)))))))) (.cons (owB rfl) (.cons (owB rfl) .nil)) ⟨Nat.zero_le _, .rq1, .cons (by rw [fillF_zero]; rfl) .nil⟩ ?_
 intro i h1
 have h1 : i ≤ k + 1 := h1
 have hfl := fillF_len (0 : Int) (fun _ => 1) (k + 1) i
 refine AW.seq (AW.sg hE rfl (mvD rfl (mvD rfl (c_leq rfl rfl rfl (OL.nil (AW.cond rfl (fun h53 => ?_) (fun h53 => ?_)))))))
 ·try simp only [dx9] at h53
  refine AW.skip (AW.seq (AW.block ?_))
  have hi : i < k + 1 := by omega
  refine AW.rg hE rfl (mvO rfl (mvD rfl (ixOn sl.ints rfl rfl (by omega) (stE sz.int rfl (VC.d _).vd rfl rfl (by rw [List.length_map]; omega) (es2 := (fillF 0 (fun _ => 1) (k + 1) (i + 1)).map dI) (by rw [← fillF_set hi, List.map_set]) (OL.nil (AW.rg hE rfl (mvD rfl ?_)))))))
  refine add_i64 rfl rfl (by omega) (asD rfl (OL.nil ?_))
  exact AW.again (x := i) (i + 1) (by omega) ⟨by omega, Knows.app .rq8 .rq1, Owns.app (.cons rfl (.cons rfl .nil)) (.cons rfl .nil)⟩
 ·try simp only [dx9] at h53
  refine AW.exit (AW.seq ?_)
  obtain rfl : i = k + 1 := by omega
  refine AW.freeze 50 rfl (AW.to [(12, .d (ints (oneW (k + 1)))), (1, _), (6, _), (8, _), (9, _), (10, _), (11, _)] [(8, _), (10, _)] (.cons (frz_osl (by rw [List.length_map, fillF_len]) (by rw [fill_one])) (by repeat (first | exact Knows.nil | refine Knows.cons (by first | exact knD rfl | exact knA rfl | exact knP rfl | exact knO rfl | exact knM rfl | exact knE rfl | exact knR rfl | exact knF rfl | exact knT rfl | exact knI rfl | exact knB rfl | exact knJ) ?_))) (by repeat (first | exact Owns.nil | refine Owns.cons (owB rfl) ?_)) ?_)
  refine AW.rg hE rfl (ldPA ag.Auto rfl rfl (vs := [_,_,_,_,_,_,_]) rfl (nb9 rfl) (mvD rfl ?_))
  refine clv rfl (.cons (VLe.refl _) (.cons (VLe.refl _) (.nil))) (WeightH (h := stayHM D) (C := 4) gy na (w := oneW (k + 1)) (show InW (stayHM D).sym (oneW (k + 1)) from oneW_in _) (by rw [oneW_len]; omega) (by decide) (by decide) fun k2 hk2 t j _ => stay_small hdz (by rw [oneW_len] at hk2; exact hk2)) ?_
  rw [stay_lik (by omega)]
  refine mvT rfl (ex rfl rfl (ex rfl rfl (al z.Weight rfl fun b14 => (sto sz.Weight rfl rfl rfl rfl rfl (nb9 rfl) (cells2 := [_,_,_,_,_,_,_,_]) rfl (asD rfl (OL.nil (AW.sg hE rfl ?_)))))))
  refine bd z.Rat pl.Rat (cs := [_,_,_]) rfl (al z.Rat rfl fun b16 => (sto sz.Rat rfl rfl rfl rfl rfl (nb9 rfl) (cells2 := [_,_,_]) rfl (OL.nil ?_)))
  refine AW.midK (α := Unit) [(4, _), (6, _), (8, _), (9, _), (11, _), (14, _), (15, _), (16, _)] [(8, _), (14, _)] (fun _u => []) (fun _u => [(16, .box b16 T.Rat (cellsQ (D.getD k 0)))]) (fun _u => True) (.cons (knJ) (.cons (knD rfl) (.cons (knP rfl) (.cons (knD rfl) (.cons (knD rfl) (.cons (knP rfl) (.cons (knD rfl) (.cons (knP rfl) .nil)))))))) (.cons (owB rfl) (.cons (owB rfl) .nil)) ?_ ?_
  ·refine AW.seq (AW.boxW 16 (cellsQ 0) rfl vles_q (AW.rg hE rfl (mvD rfl (mvD rfl (lnL sl.Rats rfl rfl (c_lss rfl rfl rfl (OL.nil ?_)))))))
   refine AW.cond rfl (fun h69 => ?_) (fun h69 => ?_)
   ·try simp only [dx9] at h69
    refine AW.rg hE rfl (mvD rfl (mvD rfl (ixLn sl.Rats 0 rfl rfl (by omega) rfl rfl (ldRA ag.Rat rfl (vs := [_,_,_]) rfl (nb9 rfl) (sto sz.Rat rfl rfl rfl rfl rfl (nb9 rfl) (cells2 := [_,_,_]) rfl (OL.nil ?_))))))
    exact AW.reach () ⟨trivial, Knows.app .rq8 (.nil), Owns.app (.cons rfl (.cons rfl .nil)) (.cons rfl .nil)⟩
   ·try simp only [dx9] at h69
    refine AW.skip ?_
    exact AW.reach () ⟨trivial, Knows.app .rq8 (.nil), Owns.app (.cons rfl (.cons rfl .nil)) (.cons (by rw [getD_ge (by omega)]; rfl) .nil)⟩
  rintro ⟨⟩ hφ
  refine AW.sg hE rfl (clv rfl (.nil) (law33_known) (mvD rfl (OL.yes rfl (mvD rfl (OL.yes rfl (c_eql rfl rfl (c := true) (by exact decide_eq_true (by omega)) (pkT rfl rfl ?_)))))))
  refine mvD rfl (OL.yes rfl (mvD rfl (OL.yes rfl (c_eql rfl rfl (c := true) (by exact decide_eq_true (by omega)) (pkT rfl rfl (mvD rfl (OL.yes rfl ?_)))))))
  refine mvD rfl (OL.yes rfl (c_eql rfl rfl (c := true) (by exact decide_eq_true (by omega)) (pkT rfl rfl (mvD rfl (OL.yes rfl (faP fd.Weight_0 rfl rfl (OL.yes rfl ?_)))))))
  refine ldPA ag.Rat rfl rfl (vs := [_,_,_]) rfl (nb9 rfl) (OL.yes rfl (ldPA ag.Rat rfl rfl (vs := [_,_,_]) rfl (nb9 rfl) (OL.yes rfl (clv rfl (.cons (VLe.refl _) (.cons (VLe.refl _) (.nil))) (ref_CompareQ (x := (D.getD k 0)) (y := (D.getD k 0)) (Nat.le_trans (zy k) (by decide)) (Nat.le_trans (zy k) (by decide))) ?_))))
  rw [show cmpQ (D.getD k 0) (D.getD k 0) = 0 from cmpQ_eq.2 rfl]
  refine OL.yes rfl (c_eql rfl rfl (c := true) (by exact decide_eq_true (by omega)) (pkT rfl rfl (mvD rfl (OL.yes rfl (faP fd.Hidden_1 rfl rfl (OL.yes rfl (ldPC ce.int rfl rfl rfl ?_)))))))
  refine OL.yes rfl (mvD rfl (OL.yes rfl (lnL sl.Rats rfl rfl (OL.yes rfl (c_eql rfl rfl (c := true) (decide_eq_true (congrArg (fun n : Nat => (n : Int)) (stay_st (d := D)))) (pkT rfl rfl (asD rfl ?_)))))))
  exact OL.nil (AW.ret (RetQ.r ⟨_, .tmp rfl .nil, .le (VLe.refl _)⟩))
theorem law_HmmStays {l : List Int} {kv : Int} (nl : l.length ≤ 9223372036854775807) : FSpec P F.law33_HmmStays [.d (ints l), .d (dI kv)] (.d (dB true)) := law33_StaysQ (law33_coin) nl
end Go.Proofs.YtippcclgnabpdaaGreatDoor

/-
  Walks of the laws of chapter 33: the coin, the sanity check, stays (printed by mk2.py).
-/
import Derived.Test.YtippcclgnabpdaaGreatDoorKHxI
import Derived.Test.YtippcclgnabpdaaGreatDoorKChk
import Derived.Test.YtippcclgnabpdaaGreatDoorKSampleA
import Derived.Test.YtippcclgnabpdaaGreatDoorKAlg31
set_option linter.unusedVariables false
set_option linter.unusedSimpArgs false
namespace Go.Proofs.YtippcclgnabpdaaGreatDoor
open Go Go.AL
theorem over_mem1 {M : Mem} {k : Nat} {a b : Blk} : M.over (mem1 k a) (mem1 k b) = upd M k (some b) := by
 funext j
 unfold Mem.over mem1 upd
 by_cases h : j = k
 ·simp [h]
 ·simp [h]
theorem pG_callT {s0 : S} {val : Nat → (Nat → Nat × Nat) → V} {own : Nat → Option Nat} {mf : (Nat → Nat × Nat) → Array Bool → Mem} {β : Nat → Nat × Nat} {L : Array Bool} {d i k : Nat} {a b : Blk} (h : own d = some i) (hu : ∀ t, own t = some i → t = d) (hi : i < L.size) (hm : mf β (L.setIfInBounds i true) = upd (mf β L) k (some b)) :
  ((⟨(pG s0 val own mf β L).ρ, (pG s0 val own mf β L).M.over (mem1 k a) (mem1 k b)⟩ : S).put (some d) (val d β)) = pG s0 val own mf β (L.setIfInBounds i true) := by
 have e := pS_put (s0 := s0) (val := val) (own := own) (L := L) (blk := fun _ _ => none) (β := β) h hu hi rfl
 rw [over_mem1]
 unfold pG
 rw [← e, hm]
 rfl
theorem lt3 {m : Nat} {ops : Array Oper} {K : S → Prop} {s : S} {dst : Option Nat} {ty : Nat} {pos : String} {after : Array Edge} {r : List Oper} {t e sz by_ : Nat} {x x2 x3 : Operand} {y y2 y3 : D} (hT : SliceT P t e sz by_) (hx : VD (s.ev x) y) (hx2 : VD (s.ev x2) y2) (hx3 : VD (s.ev x3) y3) (hs : y.cells.length = sz ∧ y2.cells.length = sz ∧ y3.cells.length = sz) (h24 : sz ≤ 4194304) (h : OL P m ops K r (s.put dst (.d (.sl [y, y2, y3])))) : OL P m ops K (⟨dst, .buildSlice t 3 #[(0, x), (1, x2), (2, x3)], ty, pos, after, none⟩ :: r) s := OL.puren (.litD (xs := [y, y2, y3]) hT rfl rfl (by omega) (by omega) (fun i p z hp hz => by
 match i, hp, hz with
 | 0, hp, hz => simp at hp hz; subst hp hz; exact hx
 | 1, hp, hz => simp at hp hz; subst hp hz; exact hx2
 | 2, hp, hz => simp at hp hz; subst hp hz; exact hx3
 | i + 3, hp, hz => simp at hp) (fun z hz => by simp at hz; rcases hz with rfl | rfl | rfl; exact hs.1; exact hs.2.1; exact hs.2.2)) h
theorem vd_stay {s : Nat} {d : List Rat} : VD (.ag [.d (dI s), .d (dQs d)]) (dStay s d) := VD.ag (VCs.map_d [_,_])
theorem fw_small {a : Au} (h : a.Ok) (hn : a.arcs.length ≤ 20) {w : List Int} (hw : InW a.sym w) {C : Nat} (hC : 1 ≤ C ∧ C ≤ 1000000) (hv : ∀ k, k ≤ w.length → ∀ j, sz ((vecM (machL [a]) (w.take k)).getD j 0) ≤ C) (he : ∀ s i j, sz (entA a.arcs s i j) ≤ C) (hf : Small C a.fin) (s2 : a.st ≤ 64) : FwSz (normOf a) w := by
 have hv2 : ∀ k, k ≤ w.length → ∀ j, sz ((fwA (normOf a) (w.take k)).getD j 0) ≤ C := fun k hk j => by
  rw [fwA_vec (norm_ok h) (fun x hx => hw x (List.mem_of_mem_take hx)), (norm_same a).mach1]; exact hv k hk j
 have hq : ∀ x, x ∈ (normOf a).arcs → sz x.q ≤ C := fun x hx => by
  rw [← entA_mem (tidy_asc a.arcs) hx (normOf_lab h x hx), entA_tidy]; exact he ..
 have hl : (normOf a).arcs.length ≤ 20 := Nat.le_trans (tidyA_len a.arcs) hn
 have hvw : ∀ j, sz ((fwA (normOf a) w).getD j 0) ≤ C := fun j => by
  have := hv2 w.length (Nat.le_refl _) j; rwa [List.take_length] at this
 refine ⟨fun k hk => ⟨fun j => Nat.le_trans (hv2 k (by omega) j) (by omega), fun x hx => Nat.le_trans (hq x hx) (by omega), fun i j => ?_⟩, fun j => Nat.le_trans (hvw j) (by omega), fun j => Nat.le_trans (hf.get hC.1 j) (by omega), fun i hi => ?_⟩
 ·have h1 := stepF_szG (v := fwA (normOf a) (w.take k)) (n := a.st) (s := (w.getD k 0).toNat) (j := j) (l := (normOf a).arcs.take i) (B := C) (C := C) (N := 20) (hv2 k (by omega)) (fun x hx => ⟨((norm_ok h).arc x (List.mem_of_mem_take hx)).2.1, hq x (List.mem_of_mem_take hx)⟩) (by rw [List.length_take]; omega) (by omega)
  exact Nat.le_trans h1 (by omega)
 ·unfold dotF
  have h1 := sumN_szC (f := fun i => (fwA (normOf a) w).getD i 0 * (normOf a).fin.getD i 0) (C := C + C) (n := i) fun j _ => by
   have h2 := sz_mul ((fwA (normOf a) w).getD j 0) ((normOf a).fin.getD j 0)
   have h3 := hvw j
   have h4 : sz ((normOf a).fin.getD j 0) ≤ C := hf.get hC.1 j
   omega
  have h2 := Nat.mul_le_mul_right (C + C + 1) (show i ≤ 64 from Nat.le_trans hi s2)
  omega
theorem norm_small {a : Au} (h : a.Ok) {C : Nat} (he : ∀ s i j, sz (entA a.arcs s i j) ≤ C) {x : Arc9} (hx : x ∈ (normOf a).arcs) : sz x.q ≤ C := by
 rw [← entA_mem (tidy_asc a.arcs) hx (normOf_lab h x hx), entA_tidy]; exact he ..
theorem WeightH {h : HM} {B C : Nat} (g : HM.GoodX 1048576 B h) (na : (autoHM h).arcs.length ≤ 20) {w : List Int} (hw : InW h.sym w) (hl : w.length ≤ 256) (hC : 1 ≤ C ∧ C ≤ 1000000) (hB : B + B ≤ C)
  (hf : ∀ k, k ≤ w.length → ∀ t j, t < (w.take k).length → sz ((fwdF h (w.take k) t).getD j 0) ≤ C) : FSpec P F.weigh_Weight [vAu (normOf (autoHM h)), .d (ints w)] (.tup [vW (likF h w), .d (dI 0)]) := by
 have ok := autoHM_ok g
 have nk := norm_ok ok
 have he : ∀ s i j, sz (entA (autoHM h).arcs s i j) ≤ C := fun s i j => Nat.le_trans (autoHM_ent g s i j) hB
 have z := autoHM_sz g na
 have st : (autoHM h).st ≤ 64 := by have := g.form.st1; show h.st + 1 ≤ 64; omega
 have zn : (normOf (autoHM h)).Sz 134217728 20 := ⟨z.ini, z.fin, fun x hx => Nat.le_trans (norm_small ok he hx) (by omega), Nat.le_trans (tidyA_len _) na⟩
 have e : serA (normOf (autoHM h)) w = likF h w := by rw [ser_norm]; exact ser_lik g hw
 have r := WeightW (a := normOf (autoHM h)) nk zn g.form.sym1 st (w := w) hw hl (fw_small nk zn.num hw hC (fun k hk j => by rw [(norm_same _).mach1]; exact vecH_sz g hC.1 (fun x hx => hw x (List.mem_of_mem_take hx)) (hf k hk) j) (fun s i j => by show sz (entA (tidyA _) s i j) ≤ C; rw [entA_tidy]; exact he s i j) ((autoHM_fin g).mono (by omega)) st)
 rw [e] at r
 exact r
theorem eighth_q : ((1 : Int) : Rat) / ((8 : Int) : Rat) = 1 / 8 := by decide +kernel
theorem eighth_sz : sz (1 / 8) ≤ 1 := by decide +kernel
theorem coinS_arcs : (autoHM coinS).arcs.length ≤ 20 := by decide +kernel
theorem law33_halfQ {q : Rat} (hq : FSpec P F.ref01_Make [.d (dI 1), .d (dI 2)] (.tup [vQ q, .d (dI 0)])) : FSpec P F.law33_half [] (vQ q) := by
 refine FSpec.intro fn.law33_half (by rfl) (by rfl) (nb9 (by rfl)) fun E hE => (AW.sg hE rfl (al z.Rat rfl fun b0 => (OL.nil (AW.sg hE rfl (clv rfl (.cons (VLe.refl _) (.cons (VLe.refl _) (.nil))) (hq) (mvT rfl (ex rfl rfl ?_)))))))
 refine ex rfl rfl (al z.Rat rfl fun b1 => (sto sz.Rat rfl rfl rfl rfl rfl (nb9 rfl) (cells2 := [_,_,_]) rfl (asD rfl (OL.nil (AW.sg hE rfl (ldPA ag.Rat rfl rfl (vs := [_,_,_]) rfl (nb9 rfl) (sto sz.Rat rfl rfl rfl rfl rfl (nb9 rfl) (cells2 := [_,_,_]) rfl ?_)))))))
 exact OL.nil (AW.ret (RetQ.r ⟨_, .cellA rfl rfl ag.Rat (nb9 rfl) .nil, .ag (.cons (.le (VLe.refl _)) (.cons (.le (VLe.refl _)) (.cons (.le (VLe.refl _)) .nil)))⟩))
theorem law33_coinQ {q o : Rat} (hq : FSpec P F.law33_half [] (vQ q)) (ho : FSpec P F.ref33_Whole [.d (dI 1)] (vQ o)) : FSpec P F.law33_coin [] (vHM ⟨1, 1, 0, [o], [[q]], [q], [[o]], [false], [0]⟩) := by
 refine FSpec.intro fn.law33_coin (by rfl) (by rfl) (nb9 (by rfl)) fun E hE => ?_
 refine AW.sg hE rfl ?_
 refine al z.Hidden rfl fun b0 => ?_
 refine OL.nil ?_
 refine AW.sg hE rfl ?_
 refine clv rfl (.cons (VLe.refl _) (.nil)) (ho) ?_
 refine lt1 (y := dQ _) sl.Rats vd_q rfl (by decide) ?_
 refine clv rfl (.nil) (hq) (lt1 (y := dQ _) sl.Rats vd_q rfl (by decide) (lt1 sl.Ratss (VC.d _).vd rfl (by decide) (clv rfl (.nil) (hq) (lt1 (y := dQ _) sl.Rats vd_q rfl (by decide) (clv rfl (.cons (VLe.refl _) (.nil)) (ho) (lt1 (y := dQ _) sl.Rats vd_q rfl (by decide) (lt1 sl.Ratss (VC.d _).vd rfl (by decide) ?_)))))))
 refine lt1 sl.bools (VC.d _).vd rfl (by decide) (lt1 sl.ints (VC.d _).vd rfl (by decide) ?_)
 refine bd2 (cs := [_,_,_,_,_,_,_,_,_,_,_]) z.Hidden pl.Hidden (pvC (by exact evD rfl) (pvC (by exact evD rfl) (pvC (by exact evD rfl) (pvC (by exact evD rfl) (pvC (by exact evD rfl) (pvC (by exact evD rfl) (pvC (by exact evD rfl) (pvC (by exact evD rfl) (pvN))))))))) (by rfl) ?_
 refine sto sz.Hidden rfl rfl rfl rfl rfl (nb9 rfl) (cells2 := [_,_,_,_,_,_,_,_,_,_,_]) rfl (OL.nil ?_)
 exact AW.ret (RetQ.r ⟨_, .cellA rfl rfl ag.Hidden (nb9 rfl) .nil, .ag (.cons (.le (VLe.refl _)) (.cons (.le (VLe.refl _)) (.cons (.le (vle_of_eq (by show _ = V.d (dB (ofQ 0).neg); rw [ofQ_zero]))) (.cons (.le (by show VLe _ (.d (u32s (ofQ 0).num)); rw [ofQ_zero]; exact VLe.mt)) (.cons (.le (by show VLe _ (.d (u32s (ofQ 0).den)); rw [ofQ_zero]; exact VLe.mt)) (.cons (.le (VLe.refl _)) (.cons (.le (VLe.refl _)) (.cons (.le (VLe.refl _)) (.cons (.le (VLe.refl _)) (.cons (.le (VLe.refl _)) (.cons (.le (VLe.refl _)) .nil)))))))))))⟩)
theorem law33_half : FSpec P F.law33_half [] (vQ (1 / 2)) := law33_halfQ ref_half
theorem law33_coin : FSpec P F.law33_coin [] (vHM coinS) := law33_coinQ law33_half ref33_Whole1
theorem law33_knownQ {a : Au} {h : HM} {p : Rat} (hc : FSpec P F.law33_coin [] (vHM h)) (ha : FSpec P F.hmm_Automaton [vHM h] (.tup [vAu a, .d (dI 0)])) (hw : FSpec P F.weigh_Weight [vAu a, .d (ints [1, 1, 1])] (.tup [vW p, .d (dI 0)])) (hx : FSpec P F.ref01_Make [.d (dI 1), .d (dI 8)] (.tup [vQ p, .d (dI 0)])) (hp : FSpec P F.hmm_Plain [vHM h] (.d (dB true))) (zp : sz p ≤ 68719476736) : FSpec P F.law33_known [] (.d (dB true)) := by
 refine FSpec.intro fn.law33_known (by rfl) (by rfl) (nb9 (by rfl)) fun E hE => (AW.sg hE rfl (asD rfl (OL.nil (AW.sg hE rfl (clv rfl (.nil) (hc) (clv rfl (.cons (VLe.refl _) (.nil)) (ha) (mvT rfl ?_)))))))
 refine ex rfl rfl (ex rfl rfl (al z.Auto rfl fun b1 => (sto sz.Auto rfl rfl rfl rfl rfl (nb9 rfl) (cells2 := [_,_,_,_,_,_,_]) rfl (asD rfl (OL.nil (AW.sg hE rfl (ldPA ag.Auto rfl rfl (vs := [_,_,_,_,_,_,_]) rfl (nb9 rfl) ?_)))))))
 refine lt3 (y := dI 1) (y2 := dI 1) (y3 := dI 1) sl.ints (VC.d _).vd (VC.d _).vd (VC.d _).vd ⟨rfl, rfl, rfl⟩ (by decide) (clv rfl (.cons (VLe.refl _) (.cons (VLe.refl _) (.nil))) (hw) (mvT rfl (ex rfl rfl (ex rfl rfl (al z.Weight rfl fun b3 => (sto sz.Weight rfl rfl rfl rfl rfl (nb9 rfl) (cells2 := [_,_,_,_,_,_,_,_]) rfl (asD rfl ?_)))))))
 refine OL.nil (AW.sg hE rfl (clv rfl (.cons (VLe.refl _) (.cons (VLe.refl _) (.nil))) (hx) (mvT rfl (ex rfl rfl (ex rfl rfl (al z.Rat rfl fun b5 => (sto sz.Rat rfl rfl rfl rfl rfl (nb9 rfl) (cells2 := [_,_,_]) rfl ?_)))))))
 refine asD rfl (OL.nil (AW.sg hE rfl (mvD rfl (c_eql rfl rfl (c := true) (by exact decide_eq_true (by omega)) (mvD rfl (OL.yes rfl (mvD rfl ?_)))))))
 refine OL.yes rfl (c_eql rfl rfl (c := true) (by exact decide_eq_true (by omega)) (pkT rfl rfl (mvD rfl (OL.yes rfl (faP fd.Weight_0 rfl rfl (OL.yes rfl (ldPA ag.Rat rfl rfl (vs := [_,_,_]) rfl (nb9 rfl) ?_)))))))
 refine OL.yes rfl (ldPA ag.Rat rfl rfl (vs := [_,_,_]) rfl (nb9 rfl) (OL.yes rfl (clv rfl (.cons (VLe.refl _) (.cons (VLe.refl _) (.nil))) (ref_CompareQ (x := p) (y := p) zp zp) ?_)))
 rw [show cmpQ p p = 0 from cmpQ_eq.2 rfl]
 refine OL.yes rfl (c_eql rfl rfl (c := true) (by exact decide_eq_true (by omega)) (pkT rfl rfl (mvD rfl (OL.yes rfl (clv rfl (.nil) (hc) (OL.yes rfl (clv rfl (.cons (VLe.refl _) (.nil)) (hp) ?_)))))))
 exact pkT rfl rfl (asD rfl (OL.nil (AW.ret (RetQ.r ⟨_, .tmp rfl .nil, .le (VLe.refl _)⟩))))
theorem law33_known : FSpec P F.law33_known [] (.d (dB true)) := by
 have h8 := ref_Make (n := 1) (d := 8) (by decide) (by decide) (by decide)
 rw [eighth_q] at h8
 have hw := WeightH (h := coinS) (C := 2) coinS_good coinS_arcs (w := oneW 3) (oneW_in 3) (by decide) (by decide) (by decide) fun k hk t j ht => by
  rw [oneW_take (by rw [oneW_len] at hk; exact hk)] at ht ⊢
  exact Nat.le_trans (coinS_fwd (by rw [oneW_len] at hk; exact hk) ht) (by decide)
 rw [coinS_lik] at hw
 exact law33_knownQ law33_coin (AutomatonX coinS_good coinS_arcs) hw h8 (hmm_Plain_okW coinS_good) (Nat.le_trans eighth_sz (by decide))
end Go.Proofs.YtippcclgnabpdaaGreatDoor

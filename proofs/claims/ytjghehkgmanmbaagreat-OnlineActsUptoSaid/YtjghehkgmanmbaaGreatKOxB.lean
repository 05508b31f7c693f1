/-
  Walks of package online on any input: validity, opening (printed by mk2.py).
-/
import Derived.Test.YtjghehkgmanmbaaGreatKOxA
import Derived.Test.YtjghehkgmanmbaaGreatKMod55
set_option linter.unusedVariables false
set_option linter.unusedSimpArgs false
namespace Go.Proofs.YtjghehkgmanmbaaGreat
open Go Go.AL
abbrev cellsOn (h : HM) (o : Dec) : List V := [.d (dI h.sym), .d (dI h.st), .d (dB (ofQ h.empty).neg), .d (u32s (ofQ h.empty).num), .d (u32s (ofQ h.empty).den), .d (dQs h.ini), .d (dQss h.trans), .d (dQs h.stop), .d (dQss h.emit), .d (bools h.silent), .d (ints h.ties), .d (dI o.t), .d (dQs o.sc), .d (dIss o.tl), .d (ints o.dn)]
abbrev vOn (h : HM) (o : Dec) : V := .ag (cellsOn h o)
abbrev cellsOw (h : HM) (t b1 b2 n : Nat) : List V := [.d (dI h.sym), .d (dI h.st), .d (dB (ofQ h.empty).neg), .d (u32s (ofQ h.empty).num), .d (u32s (ofQ h.empty).den), .d (dQs h.ini), .d (dQss h.trans), .d (dQs h.stop), .d (dQss h.emit), .d (bools h.silent), .d (ints h.ties), .d (dI t), .osl 51 b1 n n, .osl 54 b2 n n, .mt]
theorem com_len (al : Nat → Bool) (ps : Nat → List Int) : ∀ n, (comF al ps n).1.toNat ≤ (comF al ps n).2.length
 | 0 => by rw [comF]; decide
 | n + 1 => by
  have ih := com_len al ps n
  rw [comF]
  split
  ·split
   ·simp only [Int.toNat_natCast]; omega
   ·simp only [Int.toNat_natCast]; omega
  ·exact ih
theorem com_next {al : Nat → Bool} {ps : Nat → List Int} {i l : Nat} {f : List Int} (ha : al i = true) (hC : (if (comF al ps i).1 < 0 then ((((ps i).length : Nat) : Int), ps i) else comF al ps i) = ((l : Int), f)) : comF al ps (i + 1) = (((min l (lcpL (ps i) f) : Nat) : Int), f) := by
 rw [comF, if_pos ha]
 by_cases e : (comF al ps i).1 < 0
 ·rw [if_pos e] at hC ⊢
  have h1 := congrArg Prod.fst hC
  have h2 := congrArg Prod.snd hC
  simp only at h1 h2
  rw [← h2, show l = (ps i).length by omega]
 ·rw [if_neg e] at hC ⊢
  rw [hC]
  simp only [Int.toNat_natCast]
theorem lcp_next : ∀ {p f : List Int} {k : Nat}, k < p.length → k < f.length → k ≤ lcpL p f → (p.getD k 0 = f.getD k 0 ↔ k < lcpL p f)
 | [], _, k, h, _, _ => by simp at h
 | _ :: _, [], k, _, h, _ => by simp at h
 | a :: p, b :: f, 0, _, _, _ => by
  rw [lcpL]
  by_cases e : a = b
  ·rw [if_pos e]; exact ⟨fun _ => Nat.succ_pos _, fun _ => e⟩
  ·rw [if_neg e]; exact ⟨fun h => absurd h e, fun h => absurd h (Nat.lt_irrefl 0)⟩
 | a :: p, b :: f, k + 1, h1, h2, h3 => by
  rw [lcpL] at h3 ⊢
  by_cases e : a = b
  ·rw [if_pos e] at h3 ⊢
   have := lcp_next (p := p) (f := f) (k := k) (by simpa using h1) (by simpa using h2) (by omega)
   show p.getD k 0 = f.getD k 0 ↔ _
   rw [this]; omega
  ·rw [if_neg e] at h3; omega
def liveB (o : Dec) : Nat → Bool
 | 0 => false
 | i + 1 => if 0 < o.sc.getD i 0 then true else liveB o i
theorem liveB_of {o : Dec} : ∀ {n j : Nat}, j < n → 0 < o.sc.getD j 0 → liveB o n = true
 | 0, _, h, _ => absurd h (Nat.not_lt_zero _)
 | n + 1, j, h, hp => by
  rw [liveB]
  split
  ·rfl
  ·rename_i e
   exact liveB_of (j := j) (by rcases Nat.lt_or_ge j n with h1 | h1; exact h1; obtain rfl : j = n := (by omega); exact absurd hp e) hp
abbrev cellsOR (r : RDec) : List V := [.d (dI r.m.sym), .d (dI r.m.st), .d (dB r.m.empty.neg), .d (u32s r.m.empty.num), .d (u32s r.m.empty.den), .d (dRs r.m.ini), .d (dRss r.m.trans), .d (dRs r.m.stop), .d (dRss r.m.emit), .d (bools r.m.silent), .d (ints r.m.ties), .d (dI r.t), .d (dRs r.sc), .d (dIss r.tl), .d (ints r.dn)]
abbrev vOR (r : RDec) : V := .ag (cellsOR r)
theorem cellsOR_eq {r : RDec} (z : r.Sz) (cp : chkP r.m = 0) (t0 : 0 ≤ r.t) (s : SharesR r.sc) : cellsOR r = cellsOn (hm r.m) (decR r) := by
 obtain ⟨g, hv⟩ := chkP_good z.m cp
 have e : cellsOR r = cellsRM r.m ++ [.d (dI r.t), .d (dRs r.sc), .d (dIss r.tl), .d (ints r.dn)] := rfl
 have e2 : cellsOn (hm r.m) (decR r) = cellsHM (hm r.m) ++ [.d (dI (decR r).t), .d (dQs (decR r).sc), .d (dIss (decR r).tl), .d (ints (decR r).dn)] := rfl
 rw [e, e2, show cellsRM r.m = cellsHM (hm r.m) from V.ag.inj hv, dRs_eq s z.sc, show dI r.t = dI ((decR r).t : Int) by rw [show ((decR r).t : Int) = r.t by show ((r.t.toNat : Nat) : Int) = _; omega]]
 rfl
theorem liveB_f {o : Dec} : ∀ {n : Nat}, liveB o n = false → ∀ j, j < n → ¬ 0 < o.sc.getD j 0
 | 0, _, j, hj => absurd hj (Nat.not_lt_zero j)
 | n + 1, h, j, hj => by
  rw [liveB] at h
  split at h
  ·cases h
  ·rename_i e
   rcases Nat.lt_or_ge j n with h1 | h1
   ·exact liveB_f h j h1
   ·obtain rfl : j = n := by omega
    exact e
theorem liveB_ex {o : Dec} : ∀ {n : Nat}, liveB o n = true → ∃ j, j < n ∧ 0 < o.sc.getD j 0
 | 0, h => by cases h
 | n + 1, h => by
  rw [liveB] at h
  split at h
  ·rename_i e; exact ⟨n, Nat.lt_succ_self n, e⟩
  ·obtain ⟨j, hj, e⟩ := liveB_ex h
   exact ⟨j, by omega, e⟩
theorem fit_any {n t : Int} {W : List Int} {i : Nat} (g1 : (W.length : Int) = t) (g2 : W.getD (W.length - 1) 0 = i) : (!W.any fun q => decide (q < 0 ∨ n ≤ q)) = fitB n t W i := by
 cases ha : W.any fun q => decide (q < 0 ∨ n ≤ q) with
 | false => exact (fitB_t ⟨g1, g2, fun x hx => by
   have e : decide (x < 0 ∨ n ≤ x) = false := Bool.eq_false_iff.2 fun e => by rw [List.any_eq_true.2 ⟨x, hx, e⟩] at ha; cases ha
   have := of_decide_eq_false e; omega⟩).symm
 | true => exact (fitB_f fun k => by
   obtain ⟨x, hx, e⟩ := List.any_eq_true.1 ha
   have := of_decide_eq_true e; have := k.2.2 x hx; omega).symm
theorem vr0 {r : RDec} (cp : chkP r.m = 0) (h0 : r.t = 0) (b1 : r.sc = []) (b2 : r.tl = []) : decide ((r.dn.length : Int) = 0) = vrB r := by
 by_cases b3 : r.dn = []
 ·rw [← vrB_t (VR.zeroT cp h0 b1 b2 b3)]; exact decide_eq_true (by rw [b3]; rfl)
 ·rw [← vrB_f fun v => b3 (v.zeros h0).2.2]; exact decide_eq_false fun e => b3 (List.eq_nil_of_length_eq_zero (by omega))
theorem vrC {r : RDec} (cp : chkP r.m = 0) (t0 : 0 ≤ r.t) (h0 : ¬ r.t = 0) (t1 : r.t ≤ 256) (b3 : (r.sc.length : Int) = r.m.st) (b4 : (r.tl.length : Int) = r.m.st) (hn : r.sc.length = (hm r.m).st) (hsn : SeenV r r.sc.length)
  (hx : ∃ j, j < (hm r.m).st ∧ 0 < (decR r).sc.getD j 0) : decide (max (comF (fun j => decide (0 < (decR r).sc.getD j 0)) (fun j => (decR r).tl.getD j []) (hm r.m).st).1 0 = 0) = vrB r := by
 by_cases hc : (comF (fun j => decide (0 < (decR r).sc.getD j 0)) (fun j => (decR r).tl.getD j []) (hm r.m).st).1 = 0
 ·rw [← vrB_t (SeenV.vr cp (by omega) t1 b3 b4 hsn hx hc)]; exact decide_eq_true (by omega)
 ·rw [← vrB_f fun v => hc (v.c.com (by show r.t.toNat ≠ 0; omega))]
  have hs8 := ((com_spec (fun j => decide (0 < (decR r).sc.getD j 0)) (fun j => (decR r).tl.getD j []) (hm r.m).st).some (by obtain ⟨j, hj, hp⟩ := hx; exact ⟨j, hj, decide_eq_true hp⟩)).1
  exact decide_eq_false (by omega)
theorem online_refuseR {h : RM} (zz : h.Sz) : FSpec P F.online_refuse [vRM h] (.d (dI (chkP h))) := by
 refine FSpec.intro fn.online_refuse (by rfl) (by rfl) (nb9 (by rfl)) fun E hE => (AW.sg hE rfl (bxA rfl rfl fun b1 => (asD rfl (OL.nil (AW.seq (AW.sg hE rfl (ldPA ag.Hidden rfl rfl (vs := [_,_,_,_,_,_,_,_,_,_,_]) rfl (nb9 rfl) ?_)))))))
 refine clv rfl (.cons (VLe.refl _) (.nil)) (hmm_ValidR zz) (asD rfl (OL.nil (AW.sg hE rfl (mvD rfl (c_neq rfl rfl rfl (OL.nil (AW.cond rfl (fun c7 => ?_) (fun c7 => ?_))))))))
 ·have c7 : ¬ chkE h = 0 := by simpa using c7
  exact AW.sg hE rfl (mvD rfl (asD rfl (OL.nil (AW.ret (RetQ.r ⟨_, .tmp rfl .nil, .le (VLe.int (chkP_e c7))⟩)))))
 ·have c7 : chkE h = 0 := by simpa using c7
  refine AW.skip (AW.seq (AW.sg hE rfl (ldPA ag.Hidden rfl rfl (vs := [_,_,_,_,_,_,_,_,_,_,_]) rfl (nb9 rfl) (clv rfl (.cons (VLe.refl _) (.nil)) (hmm_PlainR zz) (nt rfl (OL.nil (AW.cond rfl (fun c11 => ?_) (fun c11 => ?_))))))))
  ·have c11 : ¬ chkP h = 0 := by simpa using c11
   exact AW.sg hE rfl (asD rfl (OL.nil (AW.ret (RetQ.r ⟨_, .tmp rfl .nil, .le (VLe.int (chkP_4 c7 c11))⟩))))
  ·have c11 : chkP h = 0 := by simpa using c11
   exact AW.skip (AW.sg hE rfl (asD rfl (OL.nil (AW.ret (RetQ.r ⟨_, .tmp rfl .nil, .le (VLe.int (c11.symm))⟩)))))
theorem on_aliveR {r : RDec} (zd : r.Sz) {i : Nat} (hi : i < r.sc.length) : FSpec P F.online_alive [vOR r, .d (dI i)] (.d (dB (decide (0 < (r.sc.getD i raw0).q)))) := by
 have m := zd.sc _ (getD_mem hi raw0)
 refine FSpec.intro fn.online_alive (by rfl) (by rfl) (nb9 (by rfl)) fun E hE => (AW.sg hE rfl (bxA rfl rfl fun b2 => (asD rfl (OL.nil (AW.sg hE rfl (faP fd.Online_2 rfl rfl (ldPC ce.Rats rfl rfl rfl ?_)))))))
 exact mvD rfl (ixLn sl.Rats raw0 rfl rfl hi rfl rfl (ldRA ag.Rat rfl (vs := [_,_,_]) rfl (nb9 rfl) (clv rfl (.cons (VLe.refl _) (.nil)) (rational_Sign m.ok) (c_gtr rfl rfl rfl (asD rfl (OL.nil (AW.ret (RetQ.r ⟨_, .tmp rfl .nil, .le (VLe.bool (decide_eq_decide.2 sgn_gt))⟩))))))))
theorem online_shareR {r : Raw} (m : r.Med) : FSpec P F.online_share [vRaw r] (.d (dB (shareR r))) := by
 refine FSpec.intro fn.online_share (by rfl) (by rfl) (nb9 (by rfl)) fun E hE => (AW.sg hE rfl (bxA rfl rfl fun b1 => (asD rfl (OL.nil (AW.sg hE rfl (clv rfl .rq2 (rational_MakeQ (n := 1) (d := 1) (by decide) (by decide) (by decide)) ?_))))))
 rw [q11]
 refine mvT rfl (ex rfl rfl (ex rfl rfl (al z.Rat rfl fun b3 => (sto sz.Rat rfl rfl rfl rfl rfl (nb9 rfl) (cells2 := [_,_,_]) rfl (asD rfl (OL.nil (AW.sg hE rfl ?_)))))))
 refine ldPA ag.Rat rfl rfl (vs := [_,_,_]) rfl (nb9 rfl) (clv rfl (.cons (VLe.refl _) (.nil)) (rational_Valid m.ok) (mvD rfl (OL.split 11 rfl (fun g1 => ?_) (fun g1 => ?_))))
 ·have g1 : r.good = true := g1
  refine OL.yes rfl (ldPA ag.Rat rfl rfl (vs := [_,_,_]) rfl (nb9 rfl) (OL.yes rfl (clv rfl (.cons (VLe.refl _) (.nil)) (rational_Sign m.ok) (OL.yes rfl (c_geq rfl rfl rfl (pkT rfl rfl (mvD rfl ?_)))))))
  refine OL.split 16 rfl (fun g => ?_) (fun g => ?_)
  ·have g : 0 ≤ r.q := sgnQ_nonneg.1 (of_decide_eq_true g)
   refine OL.yes rfl (ldPA ag.Rat rfl rfl (vs := [_,_,_]) rfl (nb9 rfl) (OL.yes rfl (ldPA ag.Rat rfl rfl (vs := [_,_,_]) rfl (nb9 rfl) (OL.yes rfl (clv rfl (.cons (VLe.refl _) (.cons (VLe.refl _) (.nil))) (rational_CompareR1 m) (OL.yes rfl (c_leq rfl rfl rfl ?_)))))))
   exact pkT rfl rfl (asD rfl (OL.nil (AW.ret (RetQ.r ⟨_, .tmp rfl .nil, .le (VLe.bool (share_val g1 g))⟩))))
  ·have g : ¬ 0 ≤ r.q := fun e => of_decide_eq_false g (sgnQ_nonneg.2 e)
   exact OL.nd rfl (OL.nd rfl (OL.nd rfl (OL.nd rfl (pkF rfl rfl (asD rfl (OL.nil (AW.ret (RetQ.r ⟨_, .tmp rfl .nil, .le (VLe.bool (share_false (.inr g)))⟩))))))))
 ·have g1 : r.good = false := g1
  refine OL.nd rfl (OL.nd rfl (OL.nd rfl (pkF rfl rfl (mvD rfl (OL.nd rfl (OL.nd rfl (OL.nd rfl ?_)))))))
  exact OL.nd rfl (pkF rfl rfl (asD rfl (OL.nil (AW.ret (RetQ.r ⟨_, .tmp rfl .nil, .le (VLe.bool (share_false (.inl g1)))⟩)))))
theorem on_fitting_1R {r : RDec} {q : Int} {b : Nat} : FSpecM P F.online_fitting_1 [.d (dI q), .ptr 1000 b 0] (mem1 1000 (.box b T.Online (cellsOR r))) (.d (dB (decide (q < 0 ∨ r.m.st ≤ q)))) (mem1 1000 (.box b T.Online (cellsOR r))) := by
 refine FSpecM.intro fn.online_fitting_1 (by rfl) (by rfl) (nb9 (by rfl)) fun E hE => (AW.sg hE rfl (asD rfl (OL.nil (AW.sg hE rfl (mvD rfl (c_lss rfl rfl rfl (mvD rfl ?_)))))))
 refine OL.split 6 rfl (fun g => ?_) (fun g => ?_)
 ·have g := of_decide_eq_true g
  refine OL.nd rfl (OL.nd rfl (OL.nd rfl (OL.nd rfl (OL.nd rfl (pkT rfl rfl (asD rfl (OL.nil ?_)))))))
  exact AW.ret ⟨⟨_, .tmp rfl .nil, .le (VLe.bool ((decide_eq_true (.inl g)).symm))⟩, mem1_keep rfl⟩
 ·have g := of_decide_eq_false g
  refine OL.yes rfl (mvD rfl (OL.yes rfl (faP fd.Online_0 rfl rfl (OL.yes rfl (faP fd.Hidden_1 rfl rfl (OL.yes rfl (ldPC ce.int rfl rfl rfl ?_)))))))
  exact OL.yes rfl (c_geq rfl rfl rfl (pkF rfl rfl (asD rfl (OL.nil (AW.ret ⟨⟨_, .tmp rfl .nil, .le (VLe.bool (decide_eq_decide.2 ⟨fun e => .inr e, fun e => e.resolve_left g⟩))⟩, mem1_keep rfl⟩)))))
theorem on_fittingR {r : RDec} (zd : r.Sz) {i : Nat} (hi : i < r.tl.length) (h0 : 0 < r.t) : FSpec P F.online_fitting [vOR r, .d (dI i)] (.d (dB (fitB r.m.st r.t (r.dn ++ r.tl.getD i []) i))) := by
 have h1 := zd.ld
 have h2 := zd.tl i
 have hwl : (r.dn ++ r.tl.getD i []).length = r.dn.length + (r.tl.getD i []).length := List.length_append
 refine FSpec.intro fn.online_fitting (by rfl) (by rfl) (nb9 (by rfl)) fun E hE => (AW.sg hE rfl (bxA rfl rfl fun b2 => (asD rfl (OL.nil (AW.seq (AW.dg 1 [0,1,2,3,4,5,6,7,8,9] order_free hE rfl (by kernel_rfl) (OI.of_OL (os := [_,_,_,_,_,_,_,_,_,_]) rfl ?_)))))))
 refine faP fd.Online_4 rfl rfl (ldPC ce.ints rfl rfl rfl (faP fd.Online_3 rfl rfl (ldPC ce.intss rfl rfl rfl (mvD rfl (ixLn sl.intss [] rfl rfl hi rfl rfl (ldRC ce.ints rfl (lt2 (y := ints r.dn) (y2 := ints (r.tl.getD i [])) sl.intss (VC.d _).vd (VC.d _).vd ⟨rfl, rfl⟩ (by decide) ?_)))))))
 refine clv rfl (.cons (VLe.refl _) (.nil)) (concat_ints (L := [r.dn, r.tl.getD i []]) (by simp) (by rw [show List.flatten [r.dn, r.tl.getD i []] = r.dn ++ r.tl.getD i [] by simp]; omega)) ?_
 rw [show List.flatten [r.dn, r.tl.getD i []] = (r.dn ++ r.tl.getD i []) by simp]
 refine asD rfl (OL.nil (AW.seq ?_))
 have hcon := contains_intsM (l := (r.dn ++ r.tl.getD i [])) (f := F.online_fitting_1) (p := fun q => decide (q < 0 ∨ r.m.st ≤ q)) (fun q _ => on_fitting_1R (r := r) (b := b2) (q := q)) (by omega)
 refine AW.rg hE rfl (mvD rfl (lnL sl.ints rfl rfl (faP fd.Online_1 rfl rfl (ldPC ce.int rfl rfl rfl (c_eql rfl rfl rfl (OL.split 19 rfl (fun g1 => ?_) (fun g1 => ?_)))))))
 ·have g1 : ((r.dn ++ r.tl.getD i []).length : Int) = r.t := of_decide_eq_true g1
  refine mvD rfl (OL.yes rfl (mvD rfl (OL.yes rfl (mvD rfl (OL.yes rfl (lnL sl.ints rfl rfl (OL.yes rfl ?_)))))))
  refine bo rfl rfl (bin_sub (c := (((r.dn ++ r.tl.getD i []).length - 1 : Nat) : Int)) (by omega) (wrap_i64 (by omega))) (OL.yes rfl (ixLn sl.ints 0 rfl rfl (by omega) rfl rfl (OL.yes rfl (ldRC ce.int rfl (OL.yes rfl (mvD rfl (OL.yes rfl ?_)))))))
  refine c_eql rfl rfl rfl (OL.split 28 rfl (fun g2 => ?_) (fun g2 => ?_))
  ·have g2 : (r.dn ++ r.tl.getD i []).getD ((r.dn ++ r.tl.getD i []).length - 1) 0 = i := of_decide_eq_true g2
   refine pkT rfl rfl (mvD rfl (OL.yes rfl (mvD rfl (OL.yes rfl (mkF (vs := [_]) rfl (OL.yes rfl ?_))))))
   refine OL.callM (v := .d (dB ((r.dn ++ r.tl.getD i []).any fun q => decide (q < 0 ∨ r.m.st ≤ q)))) (.mk (args' := [.d (ints (r.dn ++ r.tl.getD i [])), .fn F.online_fitting_1 [.ptr 2 b2 0]]) rfl (VLes.refl _) (mem1_keep (id := 2) (blk := .box b2 T.Online (cellsOR r)) rfl) mem1_sub (hcon.ren1 (.cons (VLe.refl _) (.cons vle_fnp .nil)))) ?_
   exact OL.yes rfl (nt rfl (pkT rfl rfl (asD rfl (OL.nil (AW.ret (RetQ.r ⟨_, .tmp rfl .nil, .le (VLe.bool (fit_any g1 g2))⟩))))))
  ·have g2 : ¬ (r.dn ++ r.tl.getD i []).getD ((r.dn ++ r.tl.getD i []).length - 1) 0 = i := of_decide_eq_false g2
   refine pkT rfl rfl (mvD rfl (OL.nd rfl (OL.nd rfl (OL.nd rfl (OL.nd rfl (pkF rfl rfl (asD rfl ?_)))))))
   exact OL.nil (AW.ret (RetQ.r ⟨_, .tmp rfl .nil, .le (VLe.bool ((fitB_f fun k => g2 k.2.1).symm))⟩))
 ·have g1 : ¬ ((r.dn ++ r.tl.getD i []).length : Int) = r.t := of_decide_eq_false g1
  refine mvD rfl (OL.nd rfl (OL.nd rfl (OL.nd rfl (OL.nd rfl (OL.nd rfl (OL.nd rfl (OL.nd rfl ?_)))))))
  refine OL.nd rfl (pkF rfl rfl (mvD rfl (OL.nd rfl (OL.nd rfl (OL.nd rfl (OL.nd rfl (pkF rfl rfl ?_)))))))
  exact asD rfl (OL.nil (AW.ret (RetQ.r ⟨_, .tmp rfl .nil, .le (VLe.bool ((fitB_f fun k => g1 k.1).symm))⟩)))
theorem on_alive {h : HM} {o : Dec} {i C : Nat} (hz : Small C o.sc) (hC : 1 ≤ C ∧ C ≤ 68719476736) (hi : i < o.sc.length) : FSpec P F.online_alive [vOn h o, .d (dI i)] (.d (dB (decide (0 < o.sc.getD i 0)))) := by
 have zi := hz.get hC.1 i
 refine FSpec.intro fn.online_alive (by rfl) (by rfl) (nb9 (by rfl)) fun E hE => (AW.sg hE rfl (bxA rfl rfl fun b2 => (asD rfl (OL.nil (AW.sg hE rfl (faP fd.Online_2 rfl rfl (ldPC ce.Rats rfl rfl rfl ?_)))))))
 exact mvD rfl (ixLn sl.Rats 0 rfl rfl hi rfl rfl (ldRA ag.Rat rfl (vs := [_,_,_]) rfl (nb9 rfl) (clv rfl (.cons (VLe.refl _) (.nil)) (rational_SignQ (x := o.sc.getD i 0) (by omega)) (c_gtr rfl rfl rfl (asD rfl (OL.nil (AW.ret (RetQ.r ⟨_, .tmp rfl .nil, .le (VLe.bool (decide_eq_decide.2 sgn_gt))⟩))))))))
theorem on_aliveO {h : HM} {t b1 b2 n i C : Nat} {l : List Rat} (hz : Small C l) (hC : 1 ≤ C ∧ C ≤ 68719476736) (hl : l.length = n) (hi : i < n) : FSpecM P F.online_alive [.ag (cellsOw h t b1 b2 n), .d (dI i)] (mem1 51 (.row b1 n T.Rat 3 (l.map dQ))) (.d (dB (decide (0 < l.getD i 0)))) (mem1 51 (.row b1 n T.Rat 3 (l.map dQ))) := by
 have zi := hz.get hC.1 i
 refine FSpecM.intro fn.online_alive (by rfl) (by rfl) (nb9 (by rfl)) fun E hE => (AW.sg hE rfl (bxA rfl rfl fun b2 => (asD rfl (OL.nil (AW.sg hE rfl (faP fd.Online_2 rfl rfl (ldPC ce.Rats rfl rfl rfl ?_)))))))
 exact mvD rfl (ixOn sl.Rats rfl rfl hi (ldEAL ag.Rat 0 (by decide) rfl rfl (by omega) (vs := [_,_,_]) rfl (nb9 rfl) (clv rfl (.cons (VLe.refl _) (.nil)) (rational_SignQ (x := l.getD i 0) (by omega)) (c_gtr rfl rfl rfl (asD rfl (OL.nil (AW.ret ⟨⟨_, .tmp rfl .nil, .le (VLe.bool (decide_eq_decide.2 sgn_gt))⟩, mem1_keep rfl⟩)))))))
theorem com_len2 {al : Nat → Bool} {ps : Nat → List Int} {N : Nat} (h : ∀ j, (ps j).length ≤ N) : ∀ n, (comF al ps n).2.length ≤ N
 | 0 => by rw [comF]; exact Nat.zero_le _
 | n + 1 => by
  rw [comF]
  split
  ·split
   ·exact h n
   ·exact com_len2 h n
  ·exact com_len2 h n
set_option maxHeartbeats 800000 in
theorem on_common {h : HM} {o : Dec} {n C : Nat} (hz : Small C o.sc) (hC : 1 ≤ C ∧ C ≤ 68719476736) (hl : o.sc.length = n) (ht : o.tl.length = n) (n1 : n ≤ 1048576) (hlen : ∀ j, (o.tl.getD j []).length ≤ 1099511627776) : FSpec P F.online_common [vOn h o, .d (dIss o.tl)] (.d (dI (max (comF (fun j => decide (0 < o.sc.getD j 0)) (fun j => o.tl.getD j []) n).1 0))) := by
 refine FSpec.intro fn.online_common (by rfl) (by rfl) (nb9 (by rfl)) fun E hE => (AW.sg hE rfl (bxA rfl rfl fun b2 => (asD rfl (OL.nil (AW.sg hE rfl (asD rfl (OL.nil ?_)))))))
 refine AW.sg hE rfl (asM rfl (OL.nil (AW.seq (AW.sg hE rfl (mvD rfl (lnL sl.intss rfl rfl (mvD rfl ?_)))))))
 refine OL.nil (AW.block ?_)
 refine AW.whileK (α := Nat) [(2, _), (4, _), (10, _), (11, _)] [(2, _)] (fun i => [(5, .d (dI (comF (fun j => decide (0 < o.sc.getD j 0)) (fun j => o.tl.getD j []) i).1)), (6, .d (ints (comF (fun j => decide (0 < o.sc.getD j 0)) (fun j => o.tl.getD j []) i).2)), (12, .d (dI i))]) (fun i => []) (fun i => i ≤ n) (fun i => n - i) 0 (.cons (knP rfl) (.cons (knD rfl) (.cons (knD rfl) (.cons (knD rfl) .nil)))) (.cons (owB rfl) .nil) ⟨Nat.zero_le _, .cons (VLe.refl _) (.cons (VLe.mt) .rq1), .nil⟩ ?_
 intro i h1
 have h1 : i ≤ n := h1
 refine AW.sg hE rfl (c_lss rfl rfl rfl (OL.nil (AW.seq (AW.cond rfl (fun h13 => ?_) (fun h13 => ?_)))))
 ·try simp only [dx9] at h13
  refine AW.skip ?_
  refine AW.midK (α := Unit) [(2, _), (4, _), (10, _), (11, _), (12, _)] [(2, _)] (fun _u => [(5, .d (dI (comF (fun j => decide (0 < o.sc.getD j 0)) (fun j => o.tl.getD j []) (i + 1)).1)), (6, .d (ints (comF (fun j => decide (0 < o.sc.getD j 0)) (fun j => o.tl.getD j []) (i + 1)).2))]) (fun _u => []) (fun _u => True) (.cons (knP rfl) (.cons (knD rfl) (.cons (knD rfl) (.cons (knD rfl) (.cons (knD rfl) .nil))))) (.cons (owB rfl) .nil) ?_ ?_
  ·refine AW.block (AW.seq ?_)
   have hpl := hlen i
   have hcl := com_len (fun j => decide (0 < o.sc.getD j 0)) (fun j => o.tl.getD j []) i
   refine AW.rg hE rfl (mvD rfl (ixLn sl.intss [] rfl rfl (by omega) rfl rfl (ldRC ce.ints rfl (asD rfl (asD rfl (OL.nil (AW.seq ?_)))))))
   refine AW.sg hE rfl (ldPA ag.Online rfl rfl (vs := [_,_,_,_,_,_,_,_,_,_,_,_,_,_,_]) rfl (nb9 rfl) (mvD rfl (clv rfl (.cons (VLe.refl _) (.cons (VLe.refl _) (.nil))) (on_alive hz hC (by omega)) (nt rfl (OL.nil (AW.cond rfl (fun ha => ?_) (fun ha => ?_)))))))
   ·have ha : ¬ 0 < o.sc.getD i 0 := fun e => by rw [decide_eq_true e] at ha; cases ha
    have hcn : (comF (fun j => decide (0 < o.sc.getD j 0)) (fun j => o.tl.getD j []) (i + 1)) = (comF (fun j => decide (0 < o.sc.getD j 0)) (fun j => o.tl.getD j []) i) := by rw [comF, if_neg (by rw [decide_eq_false ha]; decide)]
    exact AW.exit (AW.reach () ⟨trivial, Knows.app .rq5 (.cons (vle_of_eq (by rw [hcn]; rfl)) (.cons (vle_of_eq (by rw [hcn]; rfl)) .nil)), Owns.app (.cons rfl .nil) (.nil)⟩)
   ·have ha : 0 < o.sc.getD i 0 := by cases hd : decide (0 < o.sc.getD i 0) with | true => exact of_decide_eq_true hd | false => rw [hd] at ha; cases ha
    refine AW.skip ?_
    refine AW.midK (α := Nat × List Int) [(2, _), (4, _), (8, _), (10, _), (11, _), (12, _)] [(2, _)] (fun (l2, f2) => [(5, .d (dI l2)), (6, .d (ints f2))]) (fun (l2, f2) => []) (fun (l2, f2) => (if (comF (fun j => decide (0 < o.sc.getD j 0)) (fun j => o.tl.getD j []) i).1 < 0 then ((((o.tl.getD i []).length : Nat) : Int), (o.tl.getD i [])) else (comF (fun j => decide (0 < o.sc.getD j 0)) (fun j => o.tl.getD j []) i)) = ((l2 : Int), f2) ∧ l2 ≤ f2.length ∧ f2.length ≤ 1099511627776) (.cons (knP rfl) (.cons (knD rfl) (.cons (knD rfl) (.cons (knD rfl) (.cons (knD rfl) (.cons (knD rfl) .nil)))))) (.cons (owB rfl) .nil) ?_ ?_
    ·refine AW.sg hE rfl (mvD rfl (c_lss rfl rfl rfl (OL.nil (AW.cond rfl (fun hn => ?_) (fun hn => ?_)))))
     ·have hn := of_decide_eq_true hn
      refine AW.rg hE rfl (mvD rfl (lnL sl.ints rfl rfl (mvD rfl (asD rfl (asD rfl (OL.nil ?_))))))
      exact AW.reach ((o.tl.getD i []).length, (o.tl.getD i [])) ⟨⟨if_pos hn, Nat.le_refl _, hpl⟩, Knows.app .rq6 .rq2, Owns.app (.cons rfl .nil) (.nil)⟩
     ·have hn := of_decide_eq_false hn
      refine AW.skip ?_
      exact AW.reach ((comF (fun j => decide (0 < o.sc.getD j 0)) (fun j => o.tl.getD j []) i).1.toNat, (comF (fun j => decide (0 < o.sc.getD j 0)) (fun j => o.tl.getD j []) i).2) ⟨⟨by rw [if_neg hn]; exact Prod.ext (Int.toNat_of_nonneg (by omega)).symm rfl, hcl, com_len2 hlen i⟩, Knows.app .rq6 (.cons (VLe.int (by omega)) .rq1), Owns.app (.cons rfl .nil) (.nil)⟩
    rintro ⟨l2, f2⟩ ⟨hC2, hlf, hfl⟩
    have hC2 : (if (comF (fun j => decide (0 < o.sc.getD j 0)) (fun j => o.tl.getD j []) i).1 < 0 then ((((o.tl.getD i []).length : Nat) : Int), (o.tl.getD i [])) else (comF (fun j => decide (0 < o.sc.getD j 0)) (fun j => o.tl.getD j []) i)) = ((l2 : Int), f2) := hC2
    have hlf : l2 ≤ f2.length := hlf
    have hfl : f2.length ≤ 1099511627776 := hfl
    refine AW.sg hE rfl (asD rfl (OL.nil (AW.seq (AW.block ?_))))
    refine AW.whileK (α := Nat) [(2, _), (4, _), (5, _), (6, _), (8, _), (10, _), (11, _), (12, _)] [(2, _)] (fun k => [(9, .d (dI k))]) (fun k => []) (fun k => k ≤ min l2 (lcpL (o.tl.getD i []) f2)) (fun k => min l2 (lcpL (o.tl.getD i []) f2) - k) 0 (.cons (knP rfl) (.cons (knD rfl) (.cons (knD rfl) (.cons (knD rfl) (.cons (knD rfl) (.cons (knD rfl) (.cons (knD rfl) (.cons (knD rfl) .nil)))))))) (.cons (owB rfl) .nil) ⟨Nat.zero_le _, .rq1, .nil⟩ ?_
    intro k h2
    have h2 : k ≤ min l2 (lcpL (o.tl.getD i []) f2) := h2
    have hls := lcpL_spec (o.tl.getD i []) f2
    have hls1 := hls.1
    refine AW.seq ?_
    refine AW.midK (α := Unit) [(2, _), (4, _), (5, _), (6, _), (8, _), (9, _), (10, _), (11, _), (12, _)] [(2, _)] (fun _u => [(45, .d (dB (decide (k < min l2 (lcpL (o.tl.getD i []) f2)))))]) (fun _u => []) (fun _u => True) (.cons (knP rfl) (.cons (knD rfl) (.cons (knD rfl) (.cons (knD rfl) (.cons (knD rfl) (.cons (knD rfl) (.cons (knD rfl) (.cons (knD rfl) (.cons (knD rfl) .nil))))))))) (.cons (owB rfl) .nil) ?_ ?_
    ·refine AW.dg 1 [0,1,2,3,4,5,6,7,8,9,10,11,12,13,14,15,16,17,18,19] order_free hE rfl (by kernel_rfl) (OI.of_OL (os := [_,_,_,_,_,_,_,_,_,_,_,_,_,_,_,_,_,_,_,_]) rfl ?_)
     refine mvD rfl (mvD rfl (c_lss rfl rfl rfl (mvD rfl (OL.split 29 rfl (fun g1 => ?_) (fun g1 => ?_)))))
     ·have g1 : k < l2 := by have := of_decide_eq_true g1; omega
      refine OL.yes rfl (mvD rfl (OL.yes rfl (mvD rfl (OL.yes rfl (lnL sl.ints rfl rfl (OL.yes rfl (c_lss rfl rfl rfl ?_)))))))
      refine pkT rfl rfl (mvD rfl (OL.split 35 rfl (fun g2 => ?_) (fun g2 => ?_)))
      ·have g2 : k < (o.tl.getD i []).length := by have := of_decide_eq_true g2; omega
       have hnx := lcp_next g2 (show k < f2.length by omega) (by omega)
       refine OL.yes rfl (mvD rfl (OL.yes rfl (mvD rfl (OL.yes rfl (ixLn sl.ints 0 rfl rfl (by omega) rfl rfl (OL.yes rfl (ldRC ce.int rfl ?_)))))))
       refine OL.yes rfl (mvD rfl (OL.yes rfl (mvD rfl (OL.yes rfl (ixLn sl.ints 0 rfl rfl (by omega) rfl rfl (OL.yes rfl (ldRC ce.int rfl ?_)))))))
       refine OL.yes rfl (c_eql rfl rfl rfl (pkT rfl rfl (OL.nil ?_)))
       exact AW.reach () ⟨trivial, Knows.app .rq9 (.cons (VLe.bool (decide_eq_decide.2 ⟨fun e => by have := hnx.1 e; omega, fun e => hnx.2 (by omega)⟩)) .nil), Owns.app (.cons rfl .nil) (.nil)⟩
      ·have g2 : ¬ k < (o.tl.getD i []).length := by have := of_decide_eq_false g2; omega
       refine OL.nd rfl (OL.nd rfl (OL.nd rfl (OL.nd rfl (OL.nd rfl (OL.nd rfl (OL.nd rfl (OL.nd rfl ?_)))))))
       refine OL.nd rfl (pkF rfl rfl (OL.nil ?_))
       exact AW.reach () ⟨trivial, Knows.app .rq9 (.cons (VLe.bool ((decide_eq_false (by omega)).symm)) .nil), Owns.app (.cons rfl .nil) (.nil)⟩
     ·have g1 : ¬ k < l2 := by have := of_decide_eq_false g1; omega
      refine OL.nd rfl (OL.nd rfl (OL.nd rfl (OL.nd rfl (pkF rfl rfl (mvD rfl (OL.nd rfl (OL.nd rfl ?_)))))))
      refine OL.nd rfl (OL.nd rfl (OL.nd rfl (OL.nd rfl (OL.nd rfl (OL.nd rfl (OL.nd rfl (pkF rfl rfl ?_)))))))
      refine OL.nil ?_
      exact AW.reach () ⟨trivial, Knows.app .rq9 (.cons (VLe.bool ((decide_eq_false (by omega)).symm)) .nil), Owns.app (.cons rfl .nil) (.nil)⟩
    rintro ⟨⟩ hφ
    refine AW.cond rfl (fun gk => ?_) (fun gk => ?_)
    ·have gk := of_decide_eq_true gk
     refine AW.skip (AW.block (AW.rg hE rfl (mvD rfl (add_i64 rfl rfl (by omega) (asD rfl (OL.nil ?_))))))
     exact AW.again (x := k) (k + 1) (by omega) ⟨by omega, Knows.app .rq8 .rq1, Owns.app (.cons rfl .nil) (.nil)⟩
    ·have gk := of_decide_eq_false gk
     refine AW.exit ?_
     have hk : k = min l2 (lcpL (o.tl.getD i []) f2) := by omega
     refine AW.rg hE rfl (mvD rfl (asD rfl (OL.nil ?_)))
     exact AW.reach () ⟨trivial, Knows.app .rq5 (.cons (VLe.int (by rw [com_next (decide_eq_true ha) hC2, hk])) (.cons (vle_of_eq (by rw [com_next (decide_eq_true ha) hC2]; rfl)) .nil)), Owns.app (.cons rfl .nil) (.nil)⟩
  rintro ⟨⟩ hφ
  exact AW.rg hE rfl (add_i64 rfl rfl (by omega) (mvD rfl (OL.nil (AW.again (x := i) (i + 1) (by omega) ⟨by omega, Knows.app .rq4 .rq3, Owns.app (.cons rfl .nil) (.nil)⟩))))
 ·try simp only [dx9] at h13
  refine AW.exit (AW.seq ?_)
  obtain rfl : i = n := by omega
  exact AW.rg hE rfl (mvD rfl (mx rfl rfl rfl (asD rfl (OL.nil (AW.ret (RetQ.r ⟨_, .tmp rfl .nil, .le (VLe.refl _)⟩))))))
set_option maxHeartbeats 800000 in
theorem on_commonO {h : HM} {t b1 b2 n C : Nat} {l : List Rat} {tls : List (List Int)} (hz : Small C l) (hC : 1 ≤ C ∧ C ≤ 68719476736) (hl : l.length = n) (ht : tls.length = n) (n1 : n ≤ 1048576) (hlen : ∀ j, (tls.getD j []).length ≤ 1099511627776) : FSpecM P F.online_common [.ag (cellsOw h t b1 b2 n), .osl 54 b2 n n] (mem2 51 (.row b1 n T.Rat 3 (l.map dQ)) 54 (.row b2 n T.ints 1 (tls.map ints))) (.d (dI (max (comF (fun j => decide (0 < l.getD j 0)) (fun j => tls.getD j []) n).1 0))) (mem2 51 (.row b1 n T.Rat 3 (l.map dQ)) 54 (.row b2 n T.ints 1 (tls.map ints))) := by
 refine FSpecM.intro fn.online_common (by rfl) (by rfl) (nb9 (by rfl)) fun E hE => (AW.sg hE rfl (bxA rfl rfl fun b2 => (asD rfl (OL.nil (AW.sg hE rfl (asD rfl (OL.nil ?_)))))))
 refine AW.sg hE rfl (asM rfl (OL.nil (AW.seq (AW.sg hE rfl (mvO rfl (lnO sl.intss rfl rfl (mvD rfl ?_)))))))
 refine OL.nil (AW.block ?_)
 refine AW.whileK (α := Nat) [(2, _), (4, _), (10, _), (11, _)] [(2, _), (51, _), (54, _)] (fun i => [(5, .d (dI (comF (fun j => decide (0 < l.getD j 0)) (fun j => tls.getD j []) i).1)), (6, .d (ints (comF (fun j => decide (0 < l.getD j 0)) (fun j => tls.getD j []) i).2)), (12, .d (dI i))]) (fun i => []) (fun i => i ≤ n) (fun i => n - i) 0 (.cons (knP rfl) (.cons (knD rfl) (.cons (knO rfl) (.cons (knD rfl) .nil)))) (.cons (owB rfl) (.cons (owR rfl) (.cons (owR rfl) .nil))) ⟨Nat.zero_le _, .cons (VLe.refl _) (.cons (VLe.mt) .rq1), .nil⟩ ?_
 intro i h1
 have h1 : i ≤ n := h1
 refine AW.sg hE rfl (c_lss rfl rfl rfl (OL.nil (AW.seq (AW.cond rfl (fun h13 => ?_) (fun h13 => ?_)))))
 ·try simp only [dx9] at h13
  refine AW.skip ?_
  refine AW.midK (α := Unit) [(2, _), (4, _), (10, _), (11, _), (12, _)] [(2, _), (51, _), (54, _)] (fun _u => [(5, .d (dI (comF (fun j => decide (0 < l.getD j 0)) (fun j => tls.getD j []) (i + 1)).1)), (6, .d (ints (comF (fun j => decide (0 < l.getD j 0)) (fun j => tls.getD j []) (i + 1)).2))]) (fun _u => []) (fun _u => True) (.cons (knP rfl) (.cons (knD rfl) (.cons (knO rfl) (.cons (knD rfl) (.cons (knD rfl) .nil))))) (.cons (owB rfl) (.cons (owR rfl) (.cons (owR rfl) .nil))) ?_ ?_
  ·refine AW.block (AW.seq ?_)
   have hel : (tls.map ints)[i]? = some (ints (tls.getD i [])) := by rw [List.getElem?_map, List.getD_eq_getElem?_getD, List.getElem?_eq_getElem (show i < tls.length by omega)]; rfl
   have hpl := hlen i
   have hcl := com_len (fun j => decide (0 < l.getD j 0)) (fun j => tls.getD j []) i
   refine AW.rg hE rfl (mvD rfl (ixOn sl.intss rfl rfl (by omega) (ldEC ce.ints (by decide) rfl rfl hel rfl (asD rfl (asD rfl (OL.nil (AW.seq ?_)))))))
   refine AW.sg hE rfl (ldPA ag.Online rfl rfl (vs := [_,_,_,_,_,_,_,_,_,_,_,_,_,_,_]) rfl (nb9 rfl) (mvD rfl (clC0 rfl .rq2 (on_aliveO hz hC hl (by omega)) (mem1_keep (id := 51) (blk := (.row b1 n T.Rat 3 (l.map dQ))) rfl) (nt rfl (OL.nil (AW.cond rfl (fun ha => ?_) (fun ha => ?_)))))))
   ·have ha : ¬ 0 < l.getD i 0 := fun e => by rw [decide_eq_true e] at ha; cases ha
    have hcn : (comF (fun j => decide (0 < l.getD j 0)) (fun j => tls.getD j []) (i + 1)) = (comF (fun j => decide (0 < l.getD j 0)) (fun j => tls.getD j []) i) := by rw [comF, if_neg (by rw [decide_eq_false ha]; decide)]
    refine AW.exit ?_
    exact AW.reach () ⟨trivial, Knows.app .rq5 (.cons (vle_of_eq (by rw [hcn]; rfl)) (.cons (vle_of_eq (by rw [hcn]; rfl)) .nil)), Owns.app (.cons rfl (.cons rfl (.cons rfl .nil))) (.nil)⟩
   ·have ha : 0 < l.getD i 0 := by cases hd : decide (0 < l.getD i 0) with | true => exact of_decide_eq_true hd | false => rw [hd] at ha; cases ha
    refine AW.skip ?_
    refine AW.midK (α := Nat × List Int) [(2, _), (4, _), (8, _), (10, _), (11, _), (12, _)] [(2, _), (51, _), (54, _)] (fun (l2, f2) => [(5, .d (dI l2)), (6, .d (ints f2))]) (fun (l2, f2) => []) (fun (l2, f2) => (if (comF (fun j => decide (0 < l.getD j 0)) (fun j => tls.getD j []) i).1 < 0 then ((((tls.getD i []).length : Nat) : Int), (tls.getD i [])) else (comF (fun j => decide (0 < l.getD j 0)) (fun j => tls.getD j []) i)) = ((l2 : Int), f2) ∧ l2 ≤ f2.length ∧ f2.length ≤ 1099511627776) (.cons (knP rfl) (.cons (knD rfl) (.cons (knD rfl) (.cons (knO rfl) (.cons (knD rfl) (.cons (knD rfl) .nil)))))) (.cons (owB rfl) (.cons (owR rfl) (.cons (owR rfl) .nil))) ?_ ?_
    ·refine AW.sg hE rfl (mvD rfl (c_lss rfl rfl rfl (OL.nil (AW.cond rfl (fun hn => ?_) (fun hn => ?_)))))
     ·have hn := of_decide_eq_true hn
      refine AW.rg hE rfl (mvD rfl (lnL sl.ints rfl rfl (mvD rfl (asD rfl (asD rfl (OL.nil ?_))))))
      exact AW.reach ((tls.getD i []).length, (tls.getD i [])) ⟨⟨if_pos hn, Nat.le_refl _, hpl⟩, Knows.app .rq6 .rq2, Owns.app (.cons rfl (.cons rfl (.cons rfl .nil))) (.nil)⟩
     ·have hn := of_decide_eq_false hn
      refine AW.skip ?_
      exact AW.reach ((comF (fun j => decide (0 < l.getD j 0)) (fun j => tls.getD j []) i).1.toNat, (comF (fun j => decide (0 < l.getD j 0)) (fun j => tls.getD j []) i).2) ⟨⟨by rw [if_neg hn]; exact Prod.ext (Int.toNat_of_nonneg (by omega)).symm rfl, hcl, com_len2 hlen i⟩, Knows.app .rq6 (.cons (VLe.int (by omega)) .rq1), Owns.app (.cons rfl (.cons rfl (.cons rfl .nil))) (.nil)⟩
    rintro ⟨l2, f2⟩ ⟨hC2, hlf, hfl⟩
    have hC2 : (if (comF (fun j => decide (0 < l.getD j 0)) (fun j => tls.getD j []) i).1 < 0 then ((((tls.getD i []).length : Nat) : Int), (tls.getD i [])) else (comF (fun j => decide (0 < l.getD j 0)) (fun j => tls.getD j []) i)) = ((l2 : Int), f2) := hC2
    have hlf : l2 ≤ f2.length := hlf
    have hfl : f2.length ≤ 1099511627776 := hfl
    refine AW.sg hE rfl (asD rfl (OL.nil (AW.seq (AW.block ?_))))
    refine AW.whileK (α := Nat) [(2, _), (4, _), (5, _), (6, _), (8, _), (10, _), (11, _), (12, _)] [(2, _), (51, _), (54, _)] (fun k => [(9, .d (dI k))]) (fun k => []) (fun k => k ≤ min l2 (lcpL (tls.getD i []) f2)) (fun k => min l2 (lcpL (tls.getD i []) f2) - k) 0 (.cons (knP rfl) (.cons (knD rfl) (.cons (knD rfl) (.cons (knD rfl) (.cons (knD rfl) (.cons (knO rfl) (.cons (knD rfl) (.cons (knD rfl) .nil)))))))) (.cons (owB rfl) (.cons (owR rfl) (.cons (owR rfl) .nil))) ⟨Nat.zero_le _, .rq1, .nil⟩ ?_
    intro k h2
    have h2 : k ≤ min l2 (lcpL (tls.getD i []) f2) := h2
    have hls := lcpL_spec (tls.getD i []) f2
    have hls1 := hls.1
    refine AW.seq ?_
    refine AW.midK (α := Unit) [(2, _), (4, _), (5, _), (6, _), (8, _), (9, _), (10, _), (11, _), (12, _)] [(2, _), (51, _), (54, _)] (fun _u => [(45, .d (dB (decide (k < min l2 (lcpL (tls.getD i []) f2)))))]) (fun _u => []) (fun _u => True) (.cons (knP rfl) (.cons (knD rfl) (.cons (knD rfl) (.cons (knD rfl) (.cons (knD rfl) (.cons (knD rfl) (.cons (knO rfl) (.cons (knD rfl) (.cons (knD rfl) .nil))))))))) (.cons (owB rfl) (.cons (owR rfl) (.cons (owR rfl) .nil))) ?_ ?_
    ·refine AW.dg 1 [0,1,2,3,4,5,6,7,8,9,10,11,12,13,14,15,16,17,18,19] order_free hE rfl (by kernel_rfl) (OI.of_OL (os := [_,_,_,_,_,_,_,_,_,_,_,_,_,_,_,_,_,_,_,_]) rfl ?_)
     refine mvD rfl (mvD rfl (c_lss rfl rfl rfl (mvD rfl (OL.split 29 rfl (fun g1 => ?_) (fun g1 => ?_)))))
     ·have g1 : k < l2 := by have := of_decide_eq_true g1; omega
      refine OL.yes rfl (mvD rfl (OL.yes rfl (mvD rfl (OL.yes rfl (lnL sl.ints rfl rfl (OL.yes rfl (c_lss rfl rfl rfl ?_)))))))
      refine pkT rfl rfl (mvD rfl (OL.split 35 rfl (fun g2 => ?_) (fun g2 => ?_)))
      ·have g2 : k < (tls.getD i []).length := by have := of_decide_eq_true g2; omega
       have hnx := lcp_next g2 (show k < f2.length by omega) (by omega)
       refine OL.yes rfl (mvD rfl (OL.yes rfl (mvD rfl (OL.yes rfl (ixLn sl.ints 0 rfl rfl (by omega) rfl rfl (OL.yes rfl (ldRC ce.int rfl ?_)))))))
       refine OL.yes rfl (mvD rfl (OL.yes rfl (mvD rfl (OL.yes rfl (ixLn sl.ints 0 rfl rfl (by omega) rfl rfl (OL.yes rfl (ldRC ce.int rfl ?_)))))))
       refine OL.yes rfl (c_eql rfl rfl rfl (pkT rfl rfl (OL.nil ?_)))
       exact AW.reach () ⟨trivial, Knows.app .rq9 (.cons (VLe.bool (decide_eq_decide.2 ⟨fun e => by have := hnx.1 e; omega, fun e => hnx.2 (by omega)⟩)) .nil), Owns.app (.cons rfl (.cons rfl (.cons rfl .nil))) (.nil)⟩
      ·have g2 : ¬ k < (tls.getD i []).length := by have := of_decide_eq_false g2; omega
       refine OL.nd rfl (OL.nd rfl (OL.nd rfl (OL.nd rfl (OL.nd rfl (OL.nd rfl (OL.nd rfl (OL.nd rfl ?_)))))))
       refine OL.nd rfl (pkF rfl rfl (OL.nil ?_))
       exact AW.reach () ⟨trivial, Knows.app .rq9 (.cons (VLe.bool ((decide_eq_false (by omega)).symm)) .nil), Owns.app (.cons rfl (.cons rfl (.cons rfl .nil))) (.nil)⟩
     ·have g1 : ¬ k < l2 := by have := of_decide_eq_false g1; omega
      refine OL.nd rfl (OL.nd rfl (OL.nd rfl (OL.nd rfl (pkF rfl rfl (mvD rfl (OL.nd rfl (OL.nd rfl ?_)))))))
      refine OL.nd rfl (OL.nd rfl (OL.nd rfl (OL.nd rfl (OL.nd rfl (OL.nd rfl (OL.nd rfl (pkF rfl rfl ?_)))))))
      refine OL.nil ?_
      exact AW.reach () ⟨trivial, Knows.app .rq9 (.cons (VLe.bool ((decide_eq_false (by omega)).symm)) .nil), Owns.app (.cons rfl (.cons rfl (.cons rfl .nil))) (.nil)⟩
    rintro ⟨⟩ hφ
    refine AW.cond rfl (fun gk => ?_) (fun gk => ?_)
    ·have gk := of_decide_eq_true gk
     refine AW.skip (AW.block (AW.rg hE rfl (mvD rfl (add_i64 rfl rfl (by omega) (asD rfl (OL.nil ?_))))))
     exact AW.again (x := k) (k + 1) (by omega) ⟨by omega, Knows.app .rq8 .rq1, Owns.app (.cons rfl (.cons rfl (.cons rfl .nil))) (.nil)⟩
    ·have gk := of_decide_eq_false gk
     refine AW.exit ?_
     have hk : k = min l2 (lcpL (tls.getD i []) f2) := by omega
     refine AW.rg hE rfl (mvD rfl (asD rfl (OL.nil ?_)))
     exact AW.reach () ⟨trivial, Knows.app .rq5 (.cons (VLe.int (by rw [com_next (decide_eq_true ha) hC2, hk])) (.cons (vle_of_eq (by rw [com_next (decide_eq_true ha) hC2]; rfl)) .nil)), Owns.app (.cons rfl (.cons rfl (.cons rfl .nil))) (.nil)⟩
  rintro ⟨⟩ hφ
  refine AW.rg hE rfl (add_i64 rfl rfl (by omega) (mvD rfl (OL.nil ?_)))
  exact AW.again (x := i) (i + 1) (by omega) ⟨by omega, Knows.app .rq4 .rq3, Owns.app (.cons rfl (.cons rfl (.cons rfl .nil))) (.nil)⟩
 ·try simp only [dx9] at h13
  refine AW.exit (AW.seq ?_)
  obtain rfl : i = n := by omega
  exact AW.rg hE rfl (mvD rfl (mx rfl rfl rfl (asD rfl (OL.nil (AW.ret ⟨⟨_, .tmp rfl .nil, .le (VLe.refl _)⟩, mem2_keep rfl rfl⟩)))))
set_option maxRecDepth 4000 in
set_option maxHeartbeats 3200000 in
theorem on_ValidR {r : RDec} (zd : r.Sz) : FSpec P F.online_Valid [vOR r] (.d (dB (vrB r))) := by
 refine FSpec.intro fn.online_Valid (by rfl) (by rfl) (nb9 (by rfl)) fun E hE => (AW.sg hE rfl (bxA rfl rfl fun b1 => (asD rfl (OL.nil (AW.seq (AW.midK (α := Bool) [(1, _), (2, _)] [(1, _)] (fun x => [(19, .d (dB x))]) (fun x => []) (fun x => (x = true → ¬ VR r) ∧ (x = false → chkP r.m = 0 ∧ 0 ≤ r.t ∧ r.t ≤ 256)) (.cons (knP rfl) (.cons (knD rfl) .nil)) (.cons (owB rfl) .nil) ?_ ?_))))))
 ·refine AW.rg hE rfl (faP fd.Online_0 rfl rfl (ldPA ag.Hidden rfl rfl (vs := [_,_,_,_,_,_,_,_,_,_,_]) rfl (nb9 rfl) (clv rfl (.cons (VLe.refl _) (.nil)) (hmm_PlainR zd.m) (nt rfl (mvD rfl (OL.split 10 rfl (fun a0 => ?_) (fun a0 => ?_)))))))
  ·have a0 : ¬ chkP r.m = 0 := by simpa using a0
   refine OL.nd rfl (OL.nd rfl (OL.nd rfl (pkT rfl rfl (mvD rfl (OL.nd rfl (OL.nd rfl (OL.nd rfl ?_)))))))
   exact pkT rfl rfl (OL.nil (AW.reach true ⟨⟨fun _ v => a0 v.p, fun e => (by cases e)⟩, Knows.app .rq2 .rq1, Owns.app (.cons rfl .nil) (.nil)⟩))
  ·have cp : chkP r.m = 0 := by simpa using a0
   refine OL.yes rfl (faP fd.Online_1 rfl rfl (OL.yes rfl (ldPC ce.int rfl rfl rfl (OL.yes rfl (c_lss rfl rfl rfl (pkF rfl rfl (mvD rfl ?_)))))))
   refine OL.split 15 rfl (fun a1 => ?_) (fun a1 => ?_)
   ·have a1 : r.t < 0 := of_decide_eq_true a1
    exact OL.nd rfl (OL.nd rfl (OL.nd rfl (pkT rfl rfl (OL.nil (AW.reach true ⟨⟨fun _ v => (by have := v.t0; omega), fun e => (by cases e)⟩, Knows.app .rq2 .rq1, Owns.app (.cons rfl .nil) (.nil)⟩)))))
   ·have a1 : ¬ r.t < 0 := of_decide_eq_false a1
    refine OL.yes rfl (faP fd.Online_1 rfl rfl (OL.yes rfl (ldPC ce.int rfl rfl rfl (OL.yes rfl (c_gtr rfl rfl rfl (pkF rfl rfl (OL.nil ?_)))))))
    exact AW.reach (decide ((256 : Int) < r.t)) ⟨⟨fun e v => (by have := of_decide_eq_true e; have := v.time; omega), fun e => ⟨cp, by omega, by have := of_decide_eq_false e; omega⟩⟩, Knows.app .rq2 .rq1, Owns.app (.cons rfl .nil) (.nil)⟩
 rintro x ⟨hx1, hx2⟩
 refine AW.cond rfl (fun c19 => ?_) (fun c19 => ?_)
 ·have nv := hx1 c19
  exact AW.sg hE rfl (asD rfl (OL.nil (AW.ret (RetQ.r ⟨_, .tmp rfl .nil, .le (VLe.bool (vrB_f nv))⟩))))
 ·obtain ⟨cp, t0, t1⟩ := hx2 c19
  obtain ⟨gg, hv⟩ := chkP_good zd.m cp
  have f := gg.form
  have n1 := f.st1
  have hst := chkP_stI cp
  have zls := zd.ls
  have zlt := zd.lt
  refine AW.skip (AW.seq (AW.sg hE rfl (faP fd.Online_1 rfl rfl (ldPC ce.int rfl rfl rfl (c_eql rfl rfl rfl (OL.nil (AW.cond rfl (fun h0 => ?_) (fun h0 => ?_))))))))
  ·have h0 : r.t = 0 := of_decide_eq_true h0
   refine AW.sg hE rfl (faP fd.Online_2 rfl rfl (ldPC ce.Rats rfl rfl rfl (lnL sl.Rats rfl rfl (c_eql rfl rfl rfl (mvD rfl (OL.split 27 rfl (fun b1 => ?_) (fun b1 => ?_)))))))
   ·have b1 : r.sc = [] := List.eq_nil_of_length_eq_zero (by have := of_decide_eq_true b1; omega)
    refine OL.yes rfl (faP fd.Online_3 rfl rfl (OL.yes rfl (ldPC ce.intss rfl rfl rfl (OL.yes rfl (lnL sl.intss rfl rfl (OL.yes rfl (c_eql rfl rfl rfl ?_)))))))
    refine pkT rfl rfl (mvD rfl (OL.split 33 rfl (fun b2 => ?_) (fun b2 => ?_)))
    ·have b2 : r.tl = [] := List.eq_nil_of_length_eq_zero (by have := of_decide_eq_true b2; omega)
     refine OL.yes rfl (faP fd.Online_4 rfl rfl (OL.yes rfl (ldPC ce.ints rfl rfl rfl (OL.yes rfl (lnL sl.ints rfl rfl (OL.yes rfl (c_eql rfl rfl rfl ?_)))))))
     exact pkT rfl rfl (asD rfl (OL.nil (AW.ret (RetQ.r ⟨_, .tmp rfl .nil, .le (VLe.bool (vr0 cp h0 b1 b2))⟩))))
    ·have b2 : r.tl ≠ [] := fun e => by rw [e] at b2; exact of_decide_eq_false b2 rfl
     exact OL.nd rfl (OL.nd rfl (OL.nd rfl (OL.nd rfl (pkF rfl rfl (asD rfl (OL.nil (AW.ret (RetQ.r ⟨_, .tmp rfl .nil, .le (VLe.bool (vrB_f fun v => b2 (v.zeros h0).2.1))⟩))))))))
   ·have b1 : r.sc ≠ [] := fun e => by rw [e] at b1; exact of_decide_eq_false b1 rfl
    refine OL.nd rfl (OL.nd rfl (OL.nd rfl (OL.nd rfl (pkF rfl rfl (mvD rfl (OL.nd rfl (OL.nd rfl ?_)))))))
    exact OL.nd rfl (OL.nd rfl (pkF rfl rfl (asD rfl (OL.nil (AW.ret (RetQ.r ⟨_, .tmp rfl .nil, .le (VLe.bool (vrB_f fun v => b1 (v.zeros h0).1))⟩))))))
  ·have h0 : ¬ r.t = 0 := of_decide_eq_false h0
   refine AW.skip (AW.seq (AW.sg hE rfl (faP fd.Online_2 rfl rfl (ldPC ce.Rats rfl rfl rfl (lnL sl.Rats rfl rfl (faP fd.Online_0 rfl rfl (faP fd.Hidden_1 rfl rfl ?_)))))))
   refine ldPC ce.int rfl rfl rfl (c_neq rfl rfl rfl (mvD rfl (OL.split 46 rfl (fun b3 => ?_) (fun b3 => ?_))))
   ·have b3 : ¬ (r.sc.length : Int) = r.m.st := by simpa using b3
    refine OL.nd rfl (OL.nd rfl (OL.nd rfl (OL.nd rfl (OL.nd rfl (OL.nd rfl (OL.nd rfl (pkT rfl rfl ?_)))))))
    refine OL.nil (AW.cond rfl (fun _ => ?_) (fun hno => absurd hno (by decide)))
    exact AW.sg hE rfl (asD rfl (OL.nil (AW.ret (RetQ.r ⟨_, .tmp rfl .nil, .le (VLe.bool (vrB_f fun v => b3 (v.lens h0).1))⟩))))
   ·have b3 : (r.sc.length : Int) = r.m.st := by simpa using b3
    refine OL.yes rfl (faP fd.Online_3 rfl rfl (OL.yes rfl (ldPC ce.intss rfl rfl rfl (OL.yes rfl (lnL sl.intss rfl rfl (OL.yes rfl (faP fd.Online_0 rfl rfl ?_)))))))
    refine OL.yes rfl (faP fd.Hidden_1 rfl rfl (OL.yes rfl (ldPC ce.int rfl rfl rfl (OL.yes rfl (c_neq rfl rfl rfl (pkF rfl rfl (OL.nil ?_)))))))
    refine AW.cond rfl (fun b4 => ?_) (fun b4 => ?_)
    ·have b4 : ¬ (r.tl.length : Int) = r.m.st := by simpa using b4
     exact AW.sg hE rfl (asD rfl (OL.nil (AW.ret (RetQ.r ⟨_, .tmp rfl .nil, .le (VLe.bool (vrB_f fun v => b4 (v.lens h0).2))⟩))))
    ·have b4 : (r.tl.length : Int) = r.m.st := by simpa using b4
     have hn : r.sc.length = (hm r.m).st := by omega
     refine AW.skip (AW.sg hE rfl (asD rfl (OL.nil (AW.seq (AW.sg hE rfl (faP fd.Online_2 rfl rfl (ldPC ce.Rats rfl rfl rfl ?_)))))))
     refine lnL sl.Rats rfl rfl (mvD rfl (OL.nil (AW.block ?_)))
     refine AW.whileK (α := Nat) [(1, _), (56, _), (57, _)] [(1, _)] (fun i => [(3, .d (dB (liveB (decR r) i))), (58, .d (dI i))]) (fun i => []) (fun i => i ≤ r.sc.length ∧ SeenV r i) (fun i => r.sc.length - i) 0 (.cons (knP rfl) (.cons (knD rfl) (.cons (knD rfl) .nil))) (.cons (owB rfl) .nil) ⟨⟨Nat.zero_le _, .zero⟩, .rq2, .nil⟩ ?_
     rintro i ⟨h1, hsn⟩
     have h1 : i ≤ r.sc.length := h1
     refine AW.sg hE rfl (c_lss rfl rfl rfl (OL.nil (AW.seq (AW.cond rfl (fun h59 => ?_) (fun h59 => ?_)))))
     ·try simp only [dx9] at h59
      refine AW.skip ?_
      refine AW.midK (α := Unit) [(1, _), (56, _), (57, _), (58, _)] [(1, _)] (fun _u => [(3, .d (dB (liveB (decR r) (i + 1))))]) (fun _u => []) (fun _u => SeenV r (i + 1)) (.cons (knP rfl) (.cons (knD rfl) (.cons (knD rfl) (.cons (knD rfl) .nil)))) (.cons (owB rfl) .nil) ?_ ?_
      ·refine AW.block (AW.seq ?_)
       have hi : i < r.sc.length := by omega
       refine AW.rg hE rfl (mvD rfl (ixLn sl.Rats raw0 rfl rfl hi rfl rfl (ldRA ag.Rat rfl (vs := [_,_,_]) rfl (nb9 rfl) (al z.Rat rfl fun b5 => (asD rfl (sto sz.Rat rfl rfl rfl rfl rfl (nb9 rfl) (cells2 := [_,_,_]) rfl (OL.nil ?_)))))))
       refine AW.block (AW.sg hE rfl (ldPA ag.Rat rfl rfl (vs := [_,_,_]) rfl (nb9 rfl) (clv rfl (.cons (VLe.refl _) (.nil)) (online_shareR (zd.sc _ (getD_mem hi raw0))) (nt rfl (asD rfl (OL.nil (AW.cond rfl (fun b5 => ?_) (fun b5 => ?_))))))))
       ·have b5 : shareR (r.sc.getD i raw0) = false := by simpa using b5
        exact AW.sg hE rfl (asD rfl (OL.nil (AW.ret (RetQ.r ⟨_, .tmp rfl .nil, .le (VLe.bool (vrB_f fun v => (by have := v.s _ (getD_mem hi raw0); rw [b5] at this; cases this)))⟩))))
       ·have b5 : shareR (r.sc.getD i raw0) = true := by simpa using b5
        refine AW.sg hE rfl (ldPA ag.Online rfl rfl (vs := [_,_,_,_,_,_,_,_,_,_,_,_,_,_,_]) rfl (nb9 rfl) (mvD rfl (clv rfl (.cons (VLe.refl _) (.cons (VLe.refl _) (.nil))) (on_aliveR zd hi) (asD rfl (OL.nil (AW.cond rfl (fun ha => ?_) (fun ha => ?_)))))))
        ·have ha := of_decide_eq_true ha
         refine AW.sg hE rfl (asD rfl (OL.nil (AW.sg hE rfl (ldPA ag.Online rfl rfl (vs := [_,_,_,_,_,_,_,_,_,_,_,_,_,_,_]) rfl (nb9 rfl) (mvD rfl (clv rfl (.cons (VLe.refl _) (.cons (VLe.refl _) (.nil))) (on_fittingR zd (by omega) (by omega)) (nt rfl ?_)))))))
         refine OL.nil (AW.cond rfl (fun b6 => ?_) (fun b6 => ?_))
         ·have b6 : fitB r.m.st r.t (r.dn ++ r.tl.getD i []) i = false := by simpa using b6
          exact AW.sg hE rfl (asD rfl (OL.nil (AW.ret (RetQ.r ⟨_, .tmp rfl .nil, .le (VLe.bool (vrB_f fun v => fitB_not b6 (v.fitP h0 i hi ha)))⟩))))
         ·have b6 : fitB r.m.st r.t (r.dn ++ r.tl.getD i []) i = true := by simpa using b6
          have hsn2 := hsn.live b5 ha (fitB_of b6)
          exact AW.skip (AW.reach () ⟨hsn2, Knows.app .rq4 (.cons (VLe.bool (by rw [liveB, if_pos (by rw [decR_sc]; exact ha)])) .nil), Owns.app (.cons rfl .nil) (.nil)⟩)
        ·have ha := of_decide_eq_false ha
         refine AW.sg hE rfl (faP fd.Online_3 rfl rfl (ldPC ce.intss rfl rfl rfl (mvD rfl (ixLn sl.intss [] rfl rfl (by omega) rfl rfl (ldRC ce.ints rfl (lnL sl.ints rfl rfl (c_gtr rfl rfl rfl ?_)))))))
         refine asD rfl (OL.nil (AW.cond rfl (fun b7 => ?_) (fun b7 => ?_)))
         ·have b7 : ¬ r.tl.getD i [] = [] := fun e => by rw [e] at b7; exact absurd (of_decide_eq_true b7) (by decide)
          exact AW.sg hE rfl (asD rfl (OL.nil (AW.ret (RetQ.r ⟨_, .tmp rfl .nil, .le (VLe.bool (vrB_f fun v => b7 (v.deadP i ha)))⟩))))
         ·have b7 : r.tl.getD i [] = [] := List.eq_nil_of_length_eq_zero (by have := of_decide_eq_false b7; omega)
          have hsn2 := hsn.gone b5 ha b7
          exact AW.skip (AW.reach () ⟨hsn2, Knows.app .rq4 (.cons (VLe.bool (by rw [liveB, if_neg (by rw [decR_sc]; exact ha)])) .nil), Owns.app (.cons rfl .nil) (.nil)⟩)
      rintro ⟨⟩ hsn2
      exact AW.rg hE rfl (add_i64 rfl rfl (by omega) (mvD rfl (OL.nil (AW.again (x := i) (i + 1) (by omega) ⟨⟨by omega, hsn2⟩, Knows.app .rq3 .rq2, Owns.app (.cons rfl .nil) (.nil)⟩))))
     ·try simp only [dx9] at h59
      refine AW.exit (AW.seq ?_)
      obtain rfl : i = r.sc.length := by omega
      have sh := hsn.shares
      refine AW.boxW 1 (cellsOn (hm r.m) (decR r)) rfl (vles_of_eq (cellsOR_eq zd cp t0 sh)) ?_
      have hz : Small 1048576 (decR r).sc := MedL.small zd.sc
      have l1 : (decR r).sc.length = (hm r.m).st := by show (r.sc.map Raw.q).length = _; rw [List.length_map]; exact hn
      have l2 : (decR r).tl.length = (hm r.m).st := by show r.tl.length = _; omega
      refine AW.rg hE rfl (mvD rfl (mvD rfl (OL.split 85 rfl (fun b8 => ?_) (fun b8 => ?_))))
      ·have b8 : liveB (decR r) r.sc.length = true := b8
       rw [hn] at b8
       obtain ⟨j8, hj8, hp8⟩ := liveB_ex b8
       refine OL.yes rfl (ldPA ag.Online rfl rfl (vs := [_,_,_,_,_,_,_,_,_,_,_,_,_,_,_]) rfl (nb9 rfl) (OL.yes rfl (faP fd.Online_3 rfl rfl (OL.yes rfl (ldPC ce.intss rfl rfl rfl (OL.yes rfl (clv rfl (.cons (VLe.refl _) (.cons (VLe.refl _) (.nil))) (on_common (n := (hm r.m).st) hz (by decide) l1 l2 (by omega) (fun j => Nat.le_trans (zd.tl j) (by decide))) ?_)))))))
       exact OL.yes rfl (c_eql rfl rfl rfl (pkT rfl rfl (asD rfl (OL.nil (AW.ret (RetQ.r ⟨_, .tmp rfl .nil, .le (VLe.bool (vrC cp t0 h0 t1 b3 b4 hn hsn ⟨j8, hj8, hp8⟩))⟩))))))
      ·have b8 : liveB (decR r) r.sc.length = false := b8
       rw [hn] at b8
       refine OL.nd rfl (OL.nd rfl (OL.nd rfl (OL.nd rfl (OL.nd rfl (pkF rfl rfl (asD rfl (OL.nil ?_)))))))
       exact AW.ret (RetQ.r ⟨_, .tmp rfl .nil, .le (VLe.bool (vrB_f fun v => (by obtain ⟨j, hj, hp⟩ := v.c.some (show (decR r).t ≠ 0 by show r.t.toNat ≠ 0; omega); exact liveB_f b8 j hj hp)))⟩)
def HM0 : HM := ⟨0, 0, 0, [], [], [], [], [], []⟩
def DEC0 : Dec := ⟨0, [], [], []⟩
open Classical in
noncomputable def opH (h : RM) : HM := if chkP h = 0 then hm h else HM0
set_option maxRecDepth 4000 in
set_option maxHeartbeats 1600000 in
theorem on_OpenR {h : RM} (zz : h.Sz) : FSpec P F.online_Open [vRM h] (.tup [vOn (opH h) DEC0, .d (dI (chkP h))]) := by
 refine FSpec.intro fn.online_Open (by rfl) (by rfl) (nb9 (by rfl)) fun E hE => (AW.sg hE rfl (bxA rfl rfl fun b1 => (al z.Online rfl fun b2 => (asD rfl (OL.nil (AW.seq (AW.sg hE rfl ?_)))))))
 refine ldPA ag.Hidden rfl rfl (vs := [_,_,_,_,_,_,_,_,_,_,_]) rfl (nb9 rfl) (clv rfl (.cons (VLe.refl _) (.nil)) (online_refuseR zz) (asD rfl (OL.nil (AW.sg hE rfl (mvD rfl (c_neq rfl rfl rfl (OL.nil ?_)))))))
 refine AW.cond rfl (fun c8 => ?_) (fun c8 => ?_)
 ·have c8 : ¬ chkP h = 0 := by simpa using c8
  rw [show opH h = HM0 from if_neg c8]
  refine AW.sg hE rfl (bd z.Online pl.Online (cs := [_,_,_,_,_,_,_,_,_,_,_,_,_,_,_]) rfl (mvD rfl (sto sz.Online rfl rfl rfl rfl rfl (nb9 rfl) (cells2 := [_,_,_,_,_,_,_,_,_,_,_,_,_,_,_]) rfl (asD rfl (OL.nil ?_)))))
  exact AW.ret (RetQ.r ⟨_, .cellA rfl rfl ag.Online (nb9 rfl) (.tmp rfl .nil), _, .cons (.ag (.cons (.le (VLe.refl _)) (.cons (.le (VLe.refl _)) (.cons (.le (vle_of_eq (by show _ = V.d (dB (ofQ 0).neg); rw [ofQ_zero]))) (.cons (.le (by show VLe _ (.d (u32s (ofQ 0).num)); rw [ofQ_zero]; exact VLe.mt)) (.cons (.le (by show VLe _ (.d (u32s (ofQ 0).den)); rw [ofQ_zero]; exact VLe.mt)) (.cons (.le (VLe.mt)) (.cons (.le (VLe.mt)) (.cons (.le (VLe.mt)) (.cons (.le (VLe.mt)) (.cons (.le (VLe.mt)) (.cons (.le (VLe.mt)) (.cons (.le (VLe.refl _)) (.cons (.le (VLe.mt)) (.cons (.le (VLe.mt)) (.cons (.le (VLe.mt)) .nil)))))))))))))))) (.cons (.le (VLe.refl _)) .nil), rfl⟩)
 ·have c8 : chkP h = 0 := by simpa using c8
  rw [show opH h = hm h from if_pos c8, c8]
  obtain ⟨g, hv⟩ := chkP_good zz c8
  refine AW.boxW 1 (cellsHM (hm h)) rfl (vles_of_eq (V.ag.inj hv)) (AW.skip (AW.sg hE rfl (ldPA ag.Hidden rfl rfl (vs := [_,_,_,_,_,_,_,_,_,_,_]) rfl (nb9 rfl) (clv rfl (.cons (VLe.refl _) (.nil)) (fresh_Hidden g.form) (bd z.Online pl.Online (cs := [_,_,_,_,_,_,_,_,_,_,_,_,_,_,_]) rfl (sto sz.Online rfl rfl rfl rfl rfl (nb9 rfl) (cells2 := [_,_,_,_,_,_,_,_,_,_,_,_,_,_,_]) rfl (asD rfl ?_)))))))
  refine OL.nil ?_
  exact AW.ret (RetQ.r ⟨_, .cellA rfl rfl ag.Online (nb9 rfl) (.tmp rfl .nil), _, .cons (.ag (.cons (.le (VLe.refl _)) (.cons (.le (VLe.refl _)) (.cons (.le (VLe.refl _)) (.cons (.le (VLe.refl _)) (.cons (.le (VLe.refl _)) (.cons (.le (VLe.refl _)) (.cons (.le (VLe.refl _)) (.cons (.le (VLe.refl _)) (.cons (.le (VLe.refl _)) (.cons (.le (VLe.refl _)) (.cons (.le (VLe.refl _)) (.cons (.le (VLe.refl _)) (.cons (.le (VLe.mt)) (.cons (.le (VLe.mt)) (.cons (.le (VLe.mt)) .nil)))))))))))))))) (.cons (.le (VLe.refl _)) .nil), rfl⟩)
end Go.Proofs.YtjghehkgmanmbaaGreat

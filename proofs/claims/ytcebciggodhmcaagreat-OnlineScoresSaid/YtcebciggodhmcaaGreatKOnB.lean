/-
  Walks of package online, part 2: states that live, what paths have in common, validity, opening (printed by mk2.py).
-/
import Derived.Test.YtcebciggodhmcaaGreatKOnA
set_option linter.unusedVariables false
set_option linter.unusedSimpArgs false
namespace Go.Proofs.YtcebciggodhmcaaGreat
open Go Go.AL
theorem sgn_gt {q : Rat} : 0 < sgnQ q ↔ 0 < q := by
  rw [← sgnQ_pos]
  have := sgnQ_cases q
  omega
abbrev cellsOn (h : HM) (o : Dec) : List V := [.d (dI h.sym), .d (dI h.st), .d (dB (ofQ h.empty).neg), .d (u32s (ofQ h.empty).num), .d (u32s (ofQ h.empty).den), .d (dQs h.ini), .d (dQss h.trans), .d (dQs h.stop), .d (dQss h.emit), .d (bools h.silent), .d (ints h.ties), .d (dI o.t), .d (dQs o.sc), .d (dIss o.tl), .d (ints o.dn)]
abbrev vOn (h : HM) (o : Dec) : V := .ag (cellsOn h o)
abbrev cellsOw (h : HM) (t b1 b2 n : Nat) : List V := [.d (dI h.sym), .d (dI h.st), .d (dB (ofQ h.empty).neg), .d (u32s (ofQ h.empty).num), .d (u32s (ofQ h.empty).den), .d (dQs h.ini), .d (dQss h.trans), .d (dQs h.stop), .d (dQss h.emit), .d (bools h.silent), .d (ints h.ties), .d (dI t), .osl 51 b1 n n, .osl 54 b2 n n, .mt]
theorem com_len (al : Nat → Bool) (ps : Nat → List Int) : ∀ n, (comF al ps n).1.toNat ≤ (comF al ps n).2.length
  | 0 => by rw [comF]; decide
  | n + 1 => by
    have ih := com_len al ps n
    rw [comF]
    split
    · split
      · simp only [Int.toNat_natCast]; omega
      · simp only [Int.toNat_natCast]; omega
    · exact ih
theorem com_next {al : Nat → Bool} {ps : Nat → List Int} {i l : Nat} {f : List Int} (ha : al i = true) (hC : (if (comF al ps i).1 < 0 then ((((ps i).length : Nat) : Int), ps i) else comF al ps i) = ((l : Int), f)) : comF al ps (i + 1) = (((min l (lcpL (ps i) f) : Nat) : Int), f) := by
  rw [comF, if_pos ha]
  by_cases e : (comF al ps i).1 < 0
  · rw [if_pos e] at hC ⊢
    have h1 := congrArg Prod.fst hC
    have h2 := congrArg Prod.snd hC
    simp only at h1 h2
    rw [← h2, show l = (ps i).length by omega]
  · rw [if_neg e] at hC ⊢
    rw [hC]
    simp only [Int.toNat_natCast]
theorem lcp_next : ∀ {p f : List Int} {k : Nat}, k < p.length → k < f.length → k ≤ lcpL p f → (p.getD k 0 = f.getD k 0 ↔ k < lcpL p f)
  | [], _, k, h, _, _ => by simp at h
  | _ :: _, [], k, _, h, _ => by simp at h
  | a :: p, b :: f, 0, _, _, _ => by
    rw [lcpL]
    by_cases e : a = b
    · rw [if_pos e]; exact ⟨fun _ => Nat.succ_pos _, fun _ => e⟩
    · rw [if_neg e]; exact ⟨fun h => absurd h e, fun h => absurd h (Nat.lt_irrefl 0)⟩
  | a :: p, b :: f, k + 1, h1, h2, h3 => by
    rw [lcpL] at h3 ⊢
    by_cases e : a = b
    · rw [if_pos e] at h3 ⊢
      have := lcp_next (p := p) (f := f) (k := k) (by simpa using h1) (by simpa using h2) (by omega)
      show p.getD k 0 = f.getD k 0 ↔ _
      rw [this]; omega
    · rw [if_neg e] at h3; omega
def liveB (o : Dec) : Nat → Bool
  | 0 => false
  | i + 1 => if 0 < o.sc.getD i 0 then true else liveB o i
theorem liveB_of {o : Dec} : ∀ {n j : Nat}, j < n → 0 < o.sc.getD j 0 → liveB o n = true
  | 0, _, h, _ => absurd h (Nat.not_lt_zero _)
  | n + 1, j, h, hp => by
    rw [liveB]
    split
    · rfl
    · rename_i e
      exact liveB_of (j := j) (by rcases Nat.lt_or_ge j n with h1 | h1; exact h1; obtain rfl : j = n := (by omega); exact absurd hp e) hp
theorem wgt_share {h : HM} {B : Nat} (g : h.Good B) (u p : List Int) : ∀ t, wgt h u p t ≤ 1
  | 0 => (g.pI.get _).2
  | t + 1 => by
    have ih := wgt_share g u p t
    have i0 := wgt_nonneg g u p t
    have m := (g.pM (atP p t)).get (symX u t)
    have r := (g.pT (atP p (t - 1))).get (atP p t)
    have one : ∀ {a b : Rat}, 0 ≤ a → a ≤ 1 → b ≤ 1 → a * b ≤ 1 := fun {a b} h1 h2 h3 => Rat.le_trans (Rat.mul_le_mul_of_nonneg_left h3 h1) (by rw [Rat.mul_one]; exact h2)
    rw [wgt]
    split
    · exact one i0 ih m.2
    · exact one (Rat.mul_nonneg i0 r.1) (one i0 ih r.2) m.2
theorem inv_share {h : HM} {B : Nat} {u : List Int} {o : Dec} (g : h.Good B) (k : InvD h u o) (h0 : o.t ≠ 0) {j : Nat} (hj : j < h.st) : Share (o.sc.getD j 0) := by
  have hd := k.heads h0
  refine ⟨hd.nonneg j hj, ?_⟩
  by_cases e : 0 < o.sc.getD j 0
  · obtain ⟨_, _, e3, _⟩ := hd.live j hj e
    rw [show o.sc.getD j 0 = wgt h u (o.dn ++ o.tl.getD j []) o.t from e3.symm]
    exact wgt_share g ..
  · exact Rat.le_trans (Rat.not_lt.1 e) (by decide)
theorem online_refuse {h : HM} {B : Nat} (g : h.Good B) : FSpec P F.online_refuse [vHM h] (.d (dI 0)) := by
  refine FSpec.intro fn.online_refuse (by rfl) (by rfl) (Nat.le_of_ble_eq_true (by rfl)) fun E hE => ?_
  refine AW.seq ?_
  refine AW.region (by rw [hE]; rfl) ?_
  refine bxA rfl rfl fun b1 => ?_
  refine asD rfl ?_
  refine OL.nil ?_
  refine AW.seq ?_
  refine AW.seq ?_
  refine AW.region (by rw [hE]; rfl) ?_
  refine ldPA ag.Hidden rfl rfl (vs := [_, _, _, _, _, _, _, _, _, _, _]) rfl (Nat.le_of_ble_eq_true rfl) ?_
  refine clv rfl (.cons (by first | exact VLe.refl _ | exact VLe.mt | exact vle_q0 | exact VLe.ptr) .nil) (hmm_Valid_ok (by assumption)) ?_
  refine asD rfl ?_
  refine OL.nil ?_
  refine AW.seq ?_
  refine AW.region (by rw [hE]; rfl) ?_
  refine mvD rfl ?_
  refine c_neq rfl rfl (c := false) (by first | exact decide_eq_true (by omega) | exact decide_eq_false (by omega) | exact cne_f (by omega) | exact cne_t (by omega) | rfl) ?_
  refine OL.nil ?_
  refine AW.cond rfl (fun hno => absurd hno (by decide)) (fun _ => ?_)
  refine AW.skip ?_
  refine AW.seq ?_
  refine AW.seq ?_
  refine AW.region (by rw [hE]; rfl) ?_
  refine ldPA ag.Hidden rfl rfl (vs := [_, _, _, _, _, _, _, _, _, _, _]) rfl (Nat.le_of_ble_eq_true rfl) ?_
  refine clv rfl (.cons (by first | exact VLe.refl _ | exact VLe.mt | exact vle_q0 | exact VLe.ptr) .nil) (hmm_Plain_ok (by assumption)) ?_
  refine nt rfl ?_
  refine OL.nil ?_
  refine AW.cond rfl (fun hno => absurd hno (by decide)) (fun _ => ?_)
  refine AW.skip ?_
  refine AW.seq ?_
  refine AW.region (by rw [hE]; rfl) ?_
  refine asD rfl ?_
  refine OL.nil ?_
  exact AW.ret (RetQ.r ⟨_, .tmp rfl .nil, .le (by first | exact VLe.refl _ | exact VLe.mt | exact vle_q0 | exact VLe.int (by omega) | exact VLe.bool (by simp_all))⟩)
theorem on_alive {h : HM} {o : Dec} {i C : Nat} (hz : Small C o.sc) (hC : 1 ≤ C ∧ C ≤ 68719476736) (hi : i < o.sc.length) : FSpec P F.online_alive [vOn h o, .d (dI i)] (.d (dB (decide (0 < o.sc.getD i 0)))) := by
  have zi := hz.get hC.1 i
  refine FSpec.intro fn.online_alive (by rfl) (by rfl) (Nat.le_of_ble_eq_true (by rfl)) fun E hE => ?_
  refine AW.seq ?_
  refine AW.region (by rw [hE]; rfl) ?_
  refine bxA rfl rfl fun b2 => ?_
  refine asD rfl ?_
  refine OL.nil ?_
  refine AW.seq ?_
  refine AW.region (by rw [hE]; rfl) ?_
  refine faP fd.Online_2 rfl rfl ?_
  refine ldPC ce.Rats rfl rfl rfl ?_
  refine mvD rfl ?_
  refine ixLn sl.Rats 0 rfl rfl hi rfl rfl ?_
  refine ldRA ag.Rat rfl (vs := [_, _, _]) rfl (Nat.le_of_ble_eq_true rfl) ?_
  refine clv rfl (.cons (VLe.refl _) (.nil)) (rational_SignQ (x := o.sc.getD i 0) (by omega)) ?_
  refine c_gtr rfl rfl rfl ?_
  refine asD rfl ?_
  refine OL.nil ?_
  exact AW.ret (RetQ.r ⟨_, .tmp rfl .nil, .le (VLe.bool (decide_eq_decide.2 sgn_gt))⟩)
theorem on_aliveO {h : HM} {t b1 b2 n i C : Nat} {l : List Rat} (hz : Small C l) (hC : 1 ≤ C ∧ C ≤ 68719476736) (hl : l.length = n) (hi : i < n) : FSpecM P F.online_alive [.ag (cellsOw h t b1 b2 n), .d (dI i)] (mem1 51 (.row b1 n T.Rat 3 (l.map dQ))) (.d (dB (decide (0 < l.getD i 0)))) (mem1 51 (.row b1 n T.Rat 3 (l.map dQ))) := by
  have zi := hz.get hC.1 i
  refine FSpecM.intro fn.online_alive (by rfl) (by rfl) (Nat.le_of_ble_eq_true (by rfl)) fun E hE => ?_
  refine AW.seq ?_
  refine AW.region (by rw [hE]; rfl) ?_
  refine bxA rfl rfl fun b2 => ?_
  refine asD rfl ?_
  refine OL.nil ?_
  refine AW.seq ?_
  refine AW.region (by rw [hE]; rfl) ?_
  refine faP fd.Online_2 rfl rfl ?_
  refine ldPC ce.Rats rfl rfl rfl ?_
  refine mvD rfl ?_
  refine ixOn sl.Rats rfl rfl hi ?_
  refine ldEAL ag.Rat 0 (by decide) rfl rfl (by omega) (vs := [_, _, _]) rfl (Nat.le_of_ble_eq_true rfl) ?_
  refine clv rfl (.cons (VLe.refl _) (.nil)) (rational_SignQ (x := l.getD i 0) (by omega)) ?_
  refine c_gtr rfl rfl rfl ?_
  refine asD rfl ?_
  refine OL.nil ?_
  exact AW.ret ⟨⟨_, .tmp rfl .nil, .le (VLe.bool (decide_eq_decide.2 sgn_gt))⟩, mem1_keep rfl⟩
theorem on_share {q : Rat} (hs : Share q) (hz : sz q ≤ 68719476736) : FSpec P F.online_share [vQ q] (.d (dB true)) := by
  have h1K := z1K
  refine FSpec.intro fn.online_share (by rfl) (by rfl) (Nat.le_of_ble_eq_true (by rfl)) fun E hE => ?_
  refine AW.seq ?_
  refine AW.region (by rw [hE]; rfl) ?_
  refine bxA rfl rfl fun b1 => ?_
  refine asD rfl ?_
  refine OL.nil ?_
  refine AW.seq ?_
  refine AW.region (by rw [hE]; rfl) ?_
  refine clv rfl (.cons (VLe.refl _) (.cons (VLe.refl _) .nil)) (rational_MakeQ (n := 1) (d := 1) (by decide) (by decide) (by decide)) ?_
  rw [q11]
  refine mvT rfl ?_
  refine ex rfl rfl ?_
  refine ex rfl rfl ?_
  refine al z.Rat rfl fun b3 => ?_
  refine sto sz.Rat rfl rfl rfl rfl rfl (Nat.le_of_ble_eq_true rfl) (cells2 := [_, _, _]) rfl ?_
  refine asD rfl ?_
  refine OL.nil ?_
  refine AW.seq ?_
  refine AW.region (by rw [hE]; rfl) ?_
  refine ldPA ag.Rat rfl rfl (vs := [_, _, _]) rfl (Nat.le_of_ble_eq_true rfl) ?_
  refine clv rfl (.cons (by first | exact VLe.refl _ | exact VLe.mt | exact vle_q0 | exact VLe.ptr) .nil) (rational_ValidQ (by first | assumption | omega)) ?_
  refine mvD rfl ?_
  refine OL.yes rfl ?_
  refine ldPA ag.Rat rfl rfl (vs := [_, _, _]) rfl (Nat.le_of_ble_eq_true rfl) ?_
  refine OL.yes rfl ?_
  refine clv rfl (.cons (by first | exact VLe.refl _ | exact VLe.mt | exact vle_q0 | exact VLe.ptr) .nil) (rational_SignQ (by first | assumption | omega)) ?_
  refine OL.yes rfl ?_
  refine c_geq rfl rfl (c := true) (decide_eq_true (sgnQ_nonneg.2 hs.1)) ?_
  refine pkT rfl rfl ?_
  refine mvD rfl ?_
  refine OL.yes rfl ?_
  refine ldPA ag.Rat rfl rfl (vs := [_, _, _]) rfl (Nat.le_of_ble_eq_true rfl) ?_
  refine OL.yes rfl ?_
  refine ldPA ag.Rat rfl rfl (vs := [_, _, _]) rfl (Nat.le_of_ble_eq_true rfl) ?_
  refine OL.yes rfl ?_
  refine clv rfl (.cons (by first | exact VLe.refl _ | exact VLe.mt | exact vle_q0 | exact VLe.ptr) (.cons (by first | exact VLe.refl _ | exact VLe.mt | exact vle_q0 | exact VLe.ptr) .nil)) (rational_CompareQ (by first | assumption | omega) (by first | assumption | omega)) ?_
  refine OL.yes rfl ?_
  refine c_leq rfl rfl (c := true) (decide_eq_true (cmpQ_le.2 hs.2)) ?_
  refine pkT rfl rfl ?_
  refine asD rfl ?_
  refine OL.nil ?_
  exact AW.ret (RetQ.r ⟨_, .tmp rfl .nil, .le (by first | exact VLe.refl _ | exact VLe.mt | exact vle_q0 | exact VLe.int (by omega) | exact VLe.bool (by simp_all))⟩)
theorem on_fitting_1 {h : HM} {o : Dec} {q : Int} {b : Nat} : FSpecM P F.online_fitting_1 [.d (dI q), .ptr 1000 b 0] (mem1 1000 (.box b T.Online (cellsOn h o))) (.d (dB (decide (q < 0 ∨ (h.st : Int) ≤ q)))) (mem1 1000 (.box b T.Online (cellsOn h o))) := by
  refine FSpecM.intro fn.online_fitting_1 (by rfl) (by rfl) (Nat.le_of_ble_eq_true (by rfl)) fun E hE => ?_
  refine AW.seq ?_
  refine AW.region (by rw [hE]; rfl) ?_
  refine asD rfl ?_
  refine OL.nil ?_
  refine AW.seq ?_
  refine AW.region (by rw [hE]; rfl) ?_
  refine mvD rfl ?_
  refine c_lss rfl rfl rfl ?_
  refine mvD rfl ?_
  refine OL.split 6 rfl (fun g => ?_) (fun g => ?_)
  · have g := of_decide_eq_true g
    refine OL.no rfl (by decide) ?_
    refine OL.no rfl (by decide) ?_
    refine OL.no rfl (by decide) ?_
    refine OL.no rfl (by decide) ?_
    refine OL.no rfl (by decide) ?_
    refine pkT rfl rfl ?_
    refine asD rfl ?_
    refine OL.nil ?_
    exact AW.ret ⟨⟨_, .tmp rfl .nil, .le (VLe.bool ((decide_eq_true (.inl g)).symm))⟩, mem1_keep rfl⟩
  · have g := of_decide_eq_false g
    refine OL.yes rfl ?_
    refine mvD rfl ?_
    refine OL.yes rfl ?_
    refine faP fd.Online_0 rfl rfl ?_
    refine OL.yes rfl ?_
    refine faP fd.Hidden_1 rfl rfl ?_
    refine OL.yes rfl ?_
    refine ldPC ce.int rfl rfl rfl ?_
    refine OL.yes rfl ?_
    refine c_geq rfl rfl rfl ?_
    refine pkF rfl rfl ?_
    refine asD rfl ?_
    refine OL.nil ?_
    exact AW.ret ⟨⟨_, .tmp rfl .nil, .le (VLe.bool (decide_eq_decide.2 ⟨fun e => .inr e, fun e => e.resolve_left g⟩))⟩, mem1_keep rfl⟩
theorem on_fitting {h : HM} {o : Dec} {i : Nat} (hi : i < o.tl.length) (h0 : o.t ≠ 0) (ht : o.t ≤ 256) (hm : o.dn ++ o.tl.getD i [] ∈ pathsF h.st o.t) (ha : atP (o.dn ++ o.tl.getD i []) (o.t - 1) = i) : FSpec P F.online_fitting [vOn h o, .d (dI i)] (.d (dB true)) := by
  refine FSpec.intro fn.online_fitting (by rfl) (by rfl) (Nat.le_of_ble_eq_true (by rfl)) fun E hE => ?_
  refine AW.seq ?_
  refine AW.region (by rw [hE]; rfl) ?_
  refine bxA rfl rfl fun b2 => ?_
  refine asD rfl ?_
  refine OL.nil ?_
  refine AW.seq ?_
  refine AW.region_draw 1 [0, 1, 2, 3, 4, 5, 6, 7, 8, 9] order_free (by rw [hE]; rfl) (by kernel_rfl) (OI.of_OL (os := [_, _, _, _, _, _, _, _, _, _]) rfl ?_)
  refine faP fd.Online_4 rfl rfl ?_
  refine ldPC ce.ints rfl rfl rfl ?_
  refine faP fd.Online_3 rfl rfl ?_
  refine ldPC ce.intss rfl rfl rfl ?_
  refine mvD rfl ?_
  refine ixLn sl.intss [] rfl rfl hi rfl rfl ?_
  refine ldRC ce.ints rfl ?_
  refine lt2 (y := ints o.dn) (y2 := ints (o.tl.getD i [])) sl.intss (VC.d _).vd (VC.d _).vd ⟨rfl, rfl⟩ (by decide) ?_
  have hwl0 := (pathsF_mem hm).1
  rw [List.length_append] at hwl0
  refine clv rfl (.cons (VLe.refl _) (.nil)) (concat_ints (L := [o.dn, o.tl.getD i []]) (by simp) (by rw [show List.flatten [o.dn, o.tl.getD i []] = o.dn ++ o.tl.getD i [] by simp, List.length_append]; omega)) ?_
  rw [show List.flatten [o.dn, o.tl.getD i []] = (o.dn ++ o.tl.getD i []) by simp]
  refine asD rfl ?_
  refine OL.nil ?_
  refine AW.seq ?_
  have hwl := (pathsF_mem hm).1
  have hcon := contains_intsM (l := (o.dn ++ o.tl.getD i [])) (f := F.online_fitting_1) (p := fun q => decide (q < 0 ∨ (h.st : Int) ≤ q)) (fun q _ => on_fitting_1 (h := h) (o := o) (b := b2) (q := q)) (by omega)
  rw [any_false fun x hx => decide_eq_false (by have := (pathsF_mem hm).2 x hx; omega)] at hcon
  have hlast := (atP_lt hm (show o.t - 1 < o.t by omega)).2
  rw [ha] at hlast
  refine AW.region (by rw [hE]; rfl) ?_
  refine mvD rfl ?_
  refine lnL sl.ints rfl rfl ?_
  refine faP fd.Online_1 rfl rfl ?_
  refine ldPC ce.int rfl rfl rfl ?_
  refine c_eql rfl rfl (c := true) (decide_eq_true (by rw [hwl])) ?_
  refine mvD rfl ?_
  refine OL.yes rfl ?_
  refine mvD rfl ?_
  refine OL.yes rfl ?_
  refine mvD rfl ?_
  refine OL.yes rfl ?_
  refine lnL sl.ints rfl rfl ?_
  refine OL.yes rfl ?_
  refine bo rfl rfl (bin_sub (c := ((o.t - 1 : Nat) : Int)) (by omega) (wrap_i64 (by omega))) ?_
  refine OL.yes rfl ?_
  refine ixLn sl.ints 0 rfl rfl (by omega) rfl rfl ?_
  refine OL.yes rfl ?_
  refine ldRC ce.int rfl ?_
  rw [hlast]
  refine OL.yes rfl ?_
  refine mvD rfl ?_
  refine OL.yes rfl ?_
  refine c_eql rfl rfl (c := true) (by first | exact decide_eq_true (by omega) | exact decide_eq_false (by omega) | exact cne_f (by omega) | exact cne_t (by omega) | rfl) ?_
  refine pkT rfl rfl ?_
  refine mvD rfl ?_
  refine OL.yes rfl ?_
  refine mvD rfl ?_
  refine OL.yes rfl ?_
  refine mkF (vs := [_]) rfl ?_
  refine OL.yes rfl ?_
  refine OL.callM (v := .d (dB false)) (.mk (args' := [.d (ints (o.dn ++ o.tl.getD i [])), .fn F.online_fitting_1 [.ptr 2 b2 0]]) rfl (VLes.refl _) (mem1_keep (id := 2) (blk := .box b2 T.Online (cellsOn h o)) rfl) mem1_sub (hcon.ren1 (.cons (VLe.refl _) (.cons vle_fnp .nil)))) ?_
  refine OL.yes rfl ?_
  refine nt rfl ?_
  refine pkT rfl rfl ?_
  refine asD rfl ?_
  refine OL.nil ?_
  exact AW.ret (RetQ.r ⟨_, .tmp rfl .nil, .le (by first | exact VLe.refl _ | exact VLe.mt | exact vle_q0 | exact VLe.int (by omega) | exact VLe.bool (by simp_all))⟩)
theorem com_len2 {al : Nat → Bool} {ps : Nat → List Int} {N : Nat} (h : ∀ j, (ps j).length ≤ N) : ∀ n, (comF al ps n).2.length ≤ N
  | 0 => by rw [comF]; exact Nat.zero_le _
  | n + 1 => by
    rw [comF]
    split
    · split
      · exact h n
      · exact com_len2 h n
    · exact com_len2 h n
set_option maxHeartbeats 800000 in
theorem on_common {h : HM} {o : Dec} {n C : Nat} (hz : Small C o.sc) (hC : 1 ≤ C ∧ C ≤ 68719476736) (hl : o.sc.length = n) (ht : o.tl.length = n) (n1 : n ≤ 1048576) (hlen : ∀ j, (o.tl.getD j []).length ≤ 1099511627776) : FSpec P F.online_common [vOn h o, .d (dIss o.tl)] (.d (dI (max (comF (fun j => decide (0 < o.sc.getD j 0)) (fun j => o.tl.getD j []) n).1 0))) := by
  refine FSpec.intro fn.online_common (by rfl) (by rfl) (Nat.le_of_ble_eq_true (by rfl)) fun E hE => ?_
  refine AW.seq ?_
  refine AW.region (by rw [hE]; rfl) ?_
  refine bxA rfl rfl fun b2 => ?_
  refine asD rfl ?_
  refine OL.nil ?_
  refine AW.seq ?_
  refine AW.region (by rw [hE]; rfl) ?_
  refine asD rfl ?_
  refine OL.nil ?_
  refine AW.seq ?_
  refine AW.region (by rw [hE]; rfl) ?_
  refine asM rfl ?_
  refine OL.nil ?_
  refine AW.seq ?_
  refine AW.seq ?_
  refine AW.region (by rw [hE]; rfl) ?_
  refine mvD rfl ?_
  refine lnL sl.intss rfl rfl ?_
  refine mvD rfl ?_
  refine OL.nil ?_
  refine AW.block ?_
  refine AW.whileK (α := Nat) [(2, _), (4, _), (10, _), (11, _)] [(2, _)] (fun i => [(5, .d (dI (comF (fun j => decide (0 < o.sc.getD j 0)) (fun j => o.tl.getD j []) i).1)), (6, .d (ints (comF (fun j => decide (0 < o.sc.getD j 0)) (fun j => o.tl.getD j []) i).2)), (12, .d (dI i))]) (fun i => []) (fun i => i ≤ n) (fun i => n - i) 0 (by repeat (first | exact Knows.nil | refine Knows.cons (by first | exact knD rfl | exact knA rfl | exact knP rfl | exact knO rfl | exact knM rfl | exact knE rfl | exact knR rfl | exact knF rfl | exact knT rfl | exact knJ) ?_)) (.cons (by first | exact owB rfl | exact owR rfl | exact owL rfl | exact owT rfl) .nil) ⟨Nat.zero_le _, .cons (by first | exact VLe.refl _ | exact VLe.int (by omega) | exact VLe.mt | exact vle_q0 | exact VLe.osl | exact VLe.ptr) (.cons (by first | exact VLe.refl _ | exact VLe.int (by omega) | exact VLe.mt | exact vle_q0 | exact VLe.osl | exact VLe.ptr) (.cons (by first | exact VLe.refl _ | exact VLe.int (by omega) | exact VLe.mt | exact vle_q0 | exact VLe.osl | exact VLe.ptr) .nil)), .nil⟩ ?_
  intro i h1
  have h1 : i ≤ n := h1
  refine AW.seq ?_
  refine AW.region (by rw [hE]; rfl) ?_
  refine c_lss rfl rfl rfl ?_
  refine OL.nil ?_
  refine AW.seq ?_
  refine AW.cond rfl (fun h13 => ?_) (fun h13 => ?_)
  · first | (simp only [decide_eq_true_eq, decide_eq_false_iff_not, Bool.not_eq_true', Bool.not_eq_false', Bool.not_not, Bool.and_eq_true, Bool.and_eq_false_iff, Bool.or_eq_true, Bool.or_eq_false_iff] at h13) | skip
    refine AW.skip ?_
    refine AW.midK (α := Unit) [(2, _), (4, _), (10, _), (11, _), (12, _)] [(2, _)] (fun _u => [(5, .d (dI (comF (fun j => decide (0 < o.sc.getD j 0)) (fun j => o.tl.getD j []) (i + 1)).1)), (6, .d (ints (comF (fun j => decide (0 < o.sc.getD j 0)) (fun j => o.tl.getD j []) (i + 1)).2))]) (fun _u => []) (fun _u => True) (by repeat (first | exact Knows.nil | refine Knows.cons (by first | exact knD rfl | exact knA rfl | exact knP rfl | exact knO rfl | exact knM rfl | exact knE rfl | exact knR rfl | exact knF rfl | exact knT rfl | exact knJ) ?_)) (.cons (by first | exact owB rfl | exact owR rfl | exact owL rfl | exact owT rfl) .nil) ?_ ?_
    · refine AW.block ?_
      refine AW.seq ?_
      have hpl := hlen i
      have hcl := com_len (fun j => decide (0 < o.sc.getD j 0)) (fun j => o.tl.getD j []) i
      refine AW.region (by rw [hE]; rfl) ?_
      refine mvD rfl ?_
      refine ixLn sl.intss [] rfl rfl (by omega) rfl rfl ?_
      refine ldRC ce.ints rfl ?_
      refine asD rfl ?_
      refine asD rfl ?_
      refine OL.nil ?_
      refine AW.seq ?_
      refine AW.seq ?_
      refine AW.region (by rw [hE]; rfl) ?_
      refine ldPA ag.Online rfl rfl (vs := [_, _, _, _, _, _, _, _, _, _, _, _, _, _, _]) rfl (Nat.le_of_ble_eq_true rfl) ?_
      refine mvD rfl ?_
      refine clv rfl (.cons (VLe.refl _) (.cons (VLe.refl _) (.nil))) (on_alive hz hC (by omega)) ?_
      refine nt rfl ?_
      refine OL.nil ?_
      refine AW.cond rfl (fun ha => ?_) (fun ha => ?_)
      · have ha : ¬ 0 < o.sc.getD i 0 := fun e => by rw [decide_eq_true e] at ha; cases ha
        have hcn : (comF (fun j => decide (0 < o.sc.getD j 0)) (fun j => o.tl.getD j []) (i + 1)) = (comF (fun j => decide (0 < o.sc.getD j 0)) (fun j => o.tl.getD j []) i) := by rw [comF, if_neg (by rw [decide_eq_false ha]; decide)]
        refine AW.exit ?_
        exact AW.reach () ⟨trivial, Knows.app (.cons (VLe.refl _) (.cons (VLe.refl _) (.cons (VLe.refl _) (.cons (VLe.refl _) (.cons (VLe.refl _) .nil))))) (.cons (vle_of_eq (by rw [hcn]; rfl)) (.cons (vle_of_eq (by rw [hcn]; rfl)) .nil)), Owns.app (.cons rfl .nil) (.nil)⟩
      · have ha : 0 < o.sc.getD i 0 := by cases hd : decide (0 < o.sc.getD i 0) with | true => exact of_decide_eq_true hd | false => rw [hd] at ha; cases ha
        refine AW.skip ?_
        refine AW.midK (α := Nat × List Int) [(2, _), (4, _), (8, _), (10, _), (11, _), (12, _)] [(2, _)] (fun (l2, f2) => [(5, .d (dI l2)), (6, .d (ints f2))]) (fun (l2, f2) => []) (fun (l2, f2) => (if (comF (fun j => decide (0 < o.sc.getD j 0)) (fun j => o.tl.getD j []) i).1 < 0 then ((((o.tl.getD i []).length : Nat) : Int), (o.tl.getD i [])) else (comF (fun j => decide (0 < o.sc.getD j 0)) (fun j => o.tl.getD j []) i)) = ((l2 : Int), f2) ∧ l2 ≤ f2.length ∧ f2.length ≤ 1099511627776) (by repeat (first | exact Knows.nil | refine Knows.cons (by first | exact knD rfl | exact knA rfl | exact knP rfl | exact knO rfl | exact knM rfl | exact knE rfl | exact knR rfl | exact knF rfl | exact knT rfl | exact knJ) ?_)) (.cons (by first | exact owB rfl | exact owR rfl | exact owL rfl | exact owT rfl) .nil) ?_ ?_
        · refine AW.seq ?_
          refine AW.region (by rw [hE]; rfl) ?_
          refine mvD rfl ?_
          refine c_lss rfl rfl rfl ?_
          refine OL.nil ?_
          refine AW.cond rfl (fun hn => ?_) (fun hn => ?_)
          · have hn := of_decide_eq_true hn
            refine AW.region (by rw [hE]; rfl) ?_
            refine mvD rfl ?_
            refine lnL sl.ints rfl rfl ?_
            refine mvD rfl ?_
            refine asD rfl ?_
            refine asD rfl ?_
            refine OL.nil ?_
            exact AW.reach ((o.tl.getD i []).length, (o.tl.getD i [])) ⟨⟨if_pos hn, Nat.le_refl _, hpl⟩, Knows.app (.cons (VLe.refl _) (.cons (VLe.refl _) (.cons (VLe.refl _) (.cons (VLe.refl _) (.cons (VLe.refl _) (.cons (VLe.refl _) .nil)))))) (.cons (by first | exact VLe.refl _ | exact VLe.int (by omega) | exact VLe.mt | exact vle_q0 | exact VLe.osl | exact VLe.ptr) (.cons (by first | exact VLe.refl _ | exact VLe.int (by omega) | exact VLe.mt | exact vle_q0 | exact VLe.osl | exact VLe.ptr) .nil)), Owns.app (.cons rfl .nil) (.nil)⟩
          · have hn := of_decide_eq_false hn
            refine AW.skip ?_
            exact AW.reach ((comF (fun j => decide (0 < o.sc.getD j 0)) (fun j => o.tl.getD j []) i).1.toNat, (comF (fun j => decide (0 < o.sc.getD j 0)) (fun j => o.tl.getD j []) i).2) ⟨⟨by rw [if_neg hn]; exact Prod.ext (Int.toNat_of_nonneg (by omega)).symm rfl, hcl, com_len2 hlen i⟩, Knows.app (.cons (VLe.refl _) (.cons (VLe.refl _) (.cons (VLe.refl _) (.cons (VLe.refl _) (.cons (VLe.refl _) (.cons (VLe.refl _) .nil)))))) (.cons (VLe.int (by omega)) (.cons (by first | exact VLe.refl _ | exact VLe.int (by omega) | exact VLe.mt | exact vle_q0 | exact VLe.osl | exact VLe.ptr) .nil)), Owns.app (.cons rfl .nil) (.nil)⟩
        rintro ⟨l2, f2⟩ ⟨hC2, hlf, hfl⟩
        have hC2 : (if (comF (fun j => decide (0 < o.sc.getD j 0)) (fun j => o.tl.getD j []) i).1 < 0 then ((((o.tl.getD i []).length : Nat) : Int), (o.tl.getD i [])) else (comF (fun j => decide (0 < o.sc.getD j 0)) (fun j => o.tl.getD j []) i)) = ((l2 : Int), f2) := hC2
        have hlf : l2 ≤ f2.length := hlf
        have hfl : f2.length ≤ 1099511627776 := hfl
        refine AW.seq ?_
        refine AW.region (by rw [hE]; rfl) ?_
        refine asD rfl ?_
        refine OL.nil ?_
        refine AW.seq ?_
        refine AW.block ?_
        refine AW.whileK (α := Nat) [(2, _), (4, _), (5, _), (6, _), (8, _), (10, _), (11, _), (12, _)] [(2, _)] (fun k => [(9, .d (dI k))]) (fun k => []) (fun k => k ≤ min l2 (lcpL (o.tl.getD i []) f2)) (fun k => min l2 (lcpL (o.tl.getD i []) f2) - k) 0 (by repeat (first | exact Knows.nil | refine Knows.cons (by first | exact knD rfl | exact knA rfl | exact knP rfl | exact knO rfl | exact knM rfl | exact knE rfl | exact knR rfl | exact knF rfl | exact knT rfl | exact knJ) ?_)) (.cons (by first | exact owB rfl | exact owR rfl | exact owL rfl | exact owT rfl) .nil) ⟨Nat.zero_le _, .cons (by first | exact VLe.refl _ | exact VLe.int (by omega) | exact VLe.mt | exact vle_q0 | exact VLe.osl | exact VLe.ptr) .nil, .nil⟩ ?_
        intro k h2
        have h2 : k ≤ min l2 (lcpL (o.tl.getD i []) f2) := h2
        have hls := lcpL_spec (o.tl.getD i []) f2
        have hls1 := hls.1
        refine AW.seq ?_
        refine AW.midK (α := Unit) [(2, _), (4, _), (5, _), (6, _), (8, _), (9, _), (10, _), (11, _), (12, _)] [(2, _)] (fun _u => [(45, .d (dB (decide (k < min l2 (lcpL (o.tl.getD i []) f2)))))]) (fun _u => []) (fun _u => True) (by repeat (first | exact Knows.nil | refine Knows.cons (by first | exact knD rfl | exact knA rfl | exact knP rfl | exact knO rfl | exact knM rfl | exact knE rfl | exact knR rfl | exact knF rfl | exact knT rfl | exact knJ) ?_)) (.cons (by first | exact owB rfl | exact owR rfl | exact owL rfl | exact owT rfl) .nil) ?_ ?_
        · refine AW.region_draw 1 [0, 1, 2, 3, 4, 5, 6, 7, 8, 9, 10, 11, 12, 13, 14, 15, 16, 17, 18, 19] order_free (by rw [hE]; rfl) (by kernel_rfl) (OI.of_OL (os := [_, _, _, _, _, _, _, _, _, _, _, _, _, _, _, _, _, _, _, _]) rfl ?_)
          refine mvD rfl ?_
          refine mvD rfl ?_
          refine c_lss rfl rfl rfl ?_
          refine mvD rfl ?_
          refine OL.split 29 rfl (fun g1 => ?_) (fun g1 => ?_)
          · have g1 : k < l2 := by have := of_decide_eq_true g1; omega
            refine OL.yes rfl ?_
            refine mvD rfl ?_
            refine OL.yes rfl ?_
            refine mvD rfl ?_
            refine OL.yes rfl ?_
            refine lnL sl.ints rfl rfl ?_
            refine OL.yes rfl ?_
            refine c_lss rfl rfl rfl ?_
            refine pkT rfl rfl ?_
            refine mvD rfl ?_
            refine OL.split 35 rfl (fun g2 => ?_) (fun g2 => ?_)
            · have g2 : k < (o.tl.getD i []).length := by have := of_decide_eq_true g2; omega
              have hnx := lcp_next g2 (show k < f2.length by omega) (by omega)
              refine OL.yes rfl ?_
              refine mvD rfl ?_
              refine OL.yes rfl ?_
              refine mvD rfl ?_
              refine OL.yes rfl ?_
              refine ixLn sl.ints 0 rfl rfl (by omega) rfl rfl ?_
              refine OL.yes rfl ?_
              refine ldRC ce.int rfl ?_
              refine OL.yes rfl ?_
              refine mvD rfl ?_
              refine OL.yes rfl ?_
              refine mvD rfl ?_
              refine OL.yes rfl ?_
              refine ixLn sl.ints 0 rfl rfl (by omega) rfl rfl ?_
              refine OL.yes rfl ?_
              refine ldRC ce.int rfl ?_
              refine OL.yes rfl ?_
              refine c_eql rfl rfl rfl ?_
              refine pkT rfl rfl ?_
              refine OL.nil ?_
              exact AW.reach () ⟨trivial, Knows.app (.cons (VLe.refl _) (.cons (VLe.refl _) (.cons (VLe.refl _) (.cons (VLe.refl _) (.cons (VLe.refl _) (.cons (VLe.refl _) (.cons (VLe.refl _) (.cons (VLe.refl _) (.cons (VLe.refl _) .nil))))))))) (.cons (VLe.bool (decide_eq_decide.2 ⟨fun e => by have := hnx.1 e; omega, fun e => hnx.2 (by omega)⟩)) .nil), Owns.app (.cons rfl .nil) (.nil)⟩
            · have g2 : ¬ k < (o.tl.getD i []).length := by have := of_decide_eq_false g2; omega
              refine OL.no rfl (by decide) ?_
              refine OL.no rfl (by decide) ?_
              refine OL.no rfl (by decide) ?_
              refine OL.no rfl (by decide) ?_
              refine OL.no rfl (by decide) ?_
              refine OL.no rfl (by decide) ?_
              refine OL.no rfl (by decide) ?_
              refine OL.no rfl (by decide) ?_
              refine OL.no rfl (by decide) ?_
              refine pkF rfl rfl ?_
              refine OL.nil ?_
              exact AW.reach () ⟨trivial, Knows.app (.cons (VLe.refl _) (.cons (VLe.refl _) (.cons (VLe.refl _) (.cons (VLe.refl _) (.cons (VLe.refl _) (.cons (VLe.refl _) (.cons (VLe.refl _) (.cons (VLe.refl _) (.cons (VLe.refl _) .nil))))))))) (.cons (VLe.bool ((decide_eq_false (by omega)).symm)) .nil), Owns.app (.cons rfl .nil) (.nil)⟩
          · have g1 : ¬ k < l2 := by have := of_decide_eq_false g1; omega
            refine OL.no rfl (by decide) ?_
            refine OL.no rfl (by decide) ?_
            refine OL.no rfl (by decide) ?_
            refine OL.no rfl (by decide) ?_
            refine pkF rfl rfl ?_
            refine mvD rfl ?_
            refine OL.no rfl (by decide) ?_
            refine OL.no rfl (by decide) ?_
            refine OL.no rfl (by decide) ?_
            refine OL.no rfl (by decide) ?_
            refine OL.no rfl (by decide) ?_
            refine OL.no rfl (by decide) ?_
            refine OL.no rfl (by decide) ?_
            refine OL.no rfl (by decide) ?_
            refine OL.no rfl (by decide) ?_
            refine pkF rfl rfl ?_
            refine OL.nil ?_
            exact AW.reach () ⟨trivial, Knows.app (.cons (VLe.refl _) (.cons (VLe.refl _) (.cons (VLe.refl _) (.cons (VLe.refl _) (.cons (VLe.refl _) (.cons (VLe.refl _) (.cons (VLe.refl _) (.cons (VLe.refl _) (.cons (VLe.refl _) .nil))))))))) (.cons (VLe.bool ((decide_eq_false (by omega)).symm)) .nil), Owns.app (.cons rfl .nil) (.nil)⟩
        rintro ⟨⟩ hφ
        refine AW.cond rfl (fun gk => ?_) (fun gk => ?_)
        · have gk := of_decide_eq_true gk
          refine AW.skip ?_
          refine AW.block ?_
          refine AW.region (by rw [hE]; rfl) ?_
          refine mvD rfl ?_
          refine add_i64 rfl rfl (by omega) ?_
          refine asD rfl ?_
          refine OL.nil ?_
          exact AW.again (x := k) (k + 1) (by first | omega | (simp only []; omega)) ⟨by omega, Knows.app (.cons (VLe.refl _) (.cons (VLe.refl _) (.cons (VLe.refl _) (.cons (VLe.refl _) (.cons (VLe.refl _) (.cons (VLe.refl _) (.cons (VLe.refl _) (.cons (VLe.refl _) .nil)))))))) (.cons (by first | exact VLe.refl _ | exact VLe.int (by omega) | exact VLe.mt | exact vle_q0 | exact VLe.osl | exact VLe.ptr) .nil), Owns.app (.cons rfl .nil) (.nil)⟩
        · have gk := of_decide_eq_false gk
          refine AW.exit ?_
          have hk : k = min l2 (lcpL (o.tl.getD i []) f2) := by omega
          refine AW.region (by rw [hE]; rfl) ?_
          refine mvD rfl ?_
          refine asD rfl ?_
          refine OL.nil ?_
          exact AW.reach () ⟨trivial, Knows.app (.cons (VLe.refl _) (.cons (VLe.refl _) (.cons (VLe.refl _) (.cons (VLe.refl _) (.cons (VLe.refl _) .nil))))) (.cons (VLe.int (by rw [com_next (decide_eq_true ha) hC2, hk])) (.cons (vle_of_eq (by rw [com_next (decide_eq_true ha) hC2]; rfl)) .nil)), Owns.app (.cons rfl .nil) (.nil)⟩
    rintro ⟨⟩ hφ
    refine AW.region (by rw [hE]; rfl) ?_
    refine add_i64 rfl rfl (by omega) ?_
    refine mvD rfl ?_
    refine OL.nil ?_
    exact AW.again (x := i) (i + 1) (by first | omega | (simp only []; omega)) ⟨by omega, Knows.app (.cons (VLe.refl _) (.cons (VLe.refl _) (.cons (VLe.refl _) (.cons (VLe.refl _) .nil)))) (.cons (by first | exact VLe.refl _ | exact VLe.int (by omega) | exact VLe.mt | exact vle_q0 | exact VLe.osl | exact VLe.ptr) (.cons (by first | exact VLe.refl _ | exact VLe.int (by omega) | exact VLe.mt | exact vle_q0 | exact VLe.osl | exact VLe.ptr) (.cons (by first | exact VLe.refl _ | exact VLe.int (by omega) | exact VLe.mt | exact vle_q0 | exact VLe.osl | exact VLe.ptr) .nil))), Owns.app (.cons rfl .nil) (.nil)⟩
  · first | (simp only [decide_eq_true_eq, decide_eq_false_iff_not, Bool.not_eq_true', Bool.not_eq_false', Bool.not_not, Bool.and_eq_true, Bool.and_eq_false_iff, Bool.or_eq_true, Bool.or_eq_false_iff] at h13) | skip
    refine AW.exit ?_
    refine AW.seq ?_
    obtain rfl : i = n := by omega
    refine AW.region (by rw [hE]; rfl) ?_
    refine mvD rfl ?_
    refine mx rfl rfl rfl ?_
    refine asD rfl ?_
    refine OL.nil ?_
    exact AW.ret (RetQ.r ⟨_, .tmp rfl .nil, .le (by first | exact VLe.refl _ | exact VLe.mt | exact vle_q0 | exact VLe.int (by omega) | exact VLe.bool (by simp_all))⟩)
set_option maxHeartbeats 800000 in
theorem on_commonO {h : HM} {t b1 b2 n C : Nat} {l : List Rat} {tls : List (List Int)} (hz : Small C l) (hC : 1 ≤ C ∧ C ≤ 68719476736) (hl : l.length = n) (ht : tls.length = n) (n1 : n ≤ 1048576) (hlen : ∀ j, (tls.getD j []).length ≤ 1099511627776) : FSpecM P F.online_common [.ag (cellsOw h t b1 b2 n), .osl 54 b2 n n] (mem2 51 (.row b1 n T.Rat 3 (l.map dQ)) 54 (.row b2 n T.ints 1 (tls.map ints))) (.d (dI (max (comF (fun j => decide (0 < l.getD j 0)) (fun j => tls.getD j []) n).1 0))) (mem2 51 (.row b1 n T.Rat 3 (l.map dQ)) 54 (.row b2 n T.ints 1 (tls.map ints))) := by
  refine FSpecM.intro fn.online_common (by rfl) (by rfl) (Nat.le_of_ble_eq_true (by rfl)) fun E hE => ?_
  refine AW.seq ?_
  refine AW.region (by rw [hE]; rfl) ?_
  refine bxA rfl rfl fun b2 => ?_
  refine asD rfl ?_
  refine OL.nil ?_
  refine AW.seq ?_
  refine AW.region (by rw [hE]; rfl) ?_
  refine asD rfl ?_
  refine OL.nil ?_
  refine AW.seq ?_
  refine AW.region (by rw [hE]; rfl) ?_
  refine asM rfl ?_
  refine OL.nil ?_
  refine AW.seq ?_
  refine AW.seq ?_
  refine AW.region (by rw [hE]; rfl) ?_
  refine mvO rfl ?_
  refine lnO sl.intss rfl rfl ?_
  refine mvD rfl ?_
  refine OL.nil ?_
  refine AW.block ?_
  refine AW.whileK (α := Nat) [(2, _), (4, _), (10, _), (11, _)] [(2, _), (51, _), (54, _)] (fun i => [(5, .d (dI (comF (fun j => decide (0 < l.getD j 0)) (fun j => tls.getD j []) i).1)), (6, .d (ints (comF (fun j => decide (0 < l.getD j 0)) (fun j => tls.getD j []) i).2)), (12, .d (dI i))]) (fun i => []) (fun i => i ≤ n) (fun i => n - i) 0 (by repeat (first | exact Knows.nil | refine Knows.cons (by first | exact knD rfl | exact knA rfl | exact knP rfl | exact knO rfl | exact knM rfl | exact knE rfl | exact knR rfl | exact knF rfl | exact knT rfl | exact knJ) ?_)) (by repeat (first | exact Owns.nil | refine Owns.cons (by first | exact owB rfl | exact owR rfl | exact owL rfl | exact owT rfl) ?_)) ⟨Nat.zero_le _, .cons (by first | exact VLe.refl _ | exact VLe.int (by omega) | exact VLe.mt | exact vle_q0 | exact VLe.osl | exact VLe.ptr) (.cons (by first | exact VLe.refl _ | exact VLe.int (by omega) | exact VLe.mt | exact vle_q0 | exact VLe.osl | exact VLe.ptr) (.cons (by first | exact VLe.refl _ | exact VLe.int (by omega) | exact VLe.mt | exact vle_q0 | exact VLe.osl | exact VLe.ptr) .nil)), .nil⟩ ?_
  intro i h1
  have h1 : i ≤ n := h1
  refine AW.seq ?_
  refine AW.region (by rw [hE]; rfl) ?_
  refine c_lss rfl rfl rfl ?_
  refine OL.nil ?_
  refine AW.seq ?_
  refine AW.cond rfl (fun h13 => ?_) (fun h13 => ?_)
  · first | (simp only [decide_eq_true_eq, decide_eq_false_iff_not, Bool.not_eq_true', Bool.not_eq_false', Bool.not_not, Bool.and_eq_true, Bool.and_eq_false_iff, Bool.or_eq_true, Bool.or_eq_false_iff] at h13) | skip
    refine AW.skip ?_
    refine AW.midK (α := Unit) [(2, _), (4, _), (10, _), (11, _), (12, _)] [(2, _), (51, _), (54, _)] (fun _u => [(5, .d (dI (comF (fun j => decide (0 < l.getD j 0)) (fun j => tls.getD j []) (i + 1)).1)), (6, .d (ints (comF (fun j => decide (0 < l.getD j 0)) (fun j => tls.getD j []) (i + 1)).2))]) (fun _u => []) (fun _u => True) (by repeat (first | exact Knows.nil | refine Knows.cons (by first | exact knD rfl | exact knA rfl | exact knP rfl | exact knO rfl | exact knM rfl | exact knE rfl | exact knR rfl | exact knF rfl | exact knT rfl | exact knJ) ?_)) (by repeat (first | exact Owns.nil | refine Owns.cons (by first | exact owB rfl | exact owR rfl | exact owL rfl | exact owT rfl) ?_)) ?_ ?_
    · refine AW.block ?_
      refine AW.seq ?_
      have hel : (tls.map ints)[i]? = some (ints (tls.getD i [])) := by rw [List.getElem?_map, List.getD_eq_getElem?_getD, List.getElem?_eq_getElem (show i < tls.length by omega)]; rfl
      have hpl := hlen i
      have hcl := com_len (fun j => decide (0 < l.getD j 0)) (fun j => tls.getD j []) i
      refine AW.region (by rw [hE]; rfl) ?_
      refine mvD rfl ?_
      refine ixOn sl.intss rfl rfl (by omega) ?_
      refine ldEC ce.ints (by decide) rfl rfl hel rfl ?_
      refine asD rfl ?_
      refine asD rfl ?_
      refine OL.nil ?_
      refine AW.seq ?_
      refine AW.seq ?_
      refine AW.region (by rw [hE]; rfl) ?_
      refine ldPA ag.Online rfl rfl (vs := [_, _, _, _, _, _, _, _, _, _, _, _, _, _, _]) rfl (Nat.le_of_ble_eq_true rfl) ?_
      refine mvD rfl ?_
      refine clC0 rfl (.cons (VLe.refl _) (.cons (VLe.refl _) .nil)) (on_aliveO hz hC hl (by omega)) (mem1_keep (id := 51) (blk := (.row b1 n T.Rat 3 (l.map dQ))) rfl) ?_
      refine nt rfl ?_
      refine OL.nil ?_
      refine AW.cond rfl (fun ha => ?_) (fun ha => ?_)
      · have ha : ¬ 0 < l.getD i 0 := fun e => by rw [decide_eq_true e] at ha; cases ha
        have hcn : (comF (fun j => decide (0 < l.getD j 0)) (fun j => tls.getD j []) (i + 1)) = (comF (fun j => decide (0 < l.getD j 0)) (fun j => tls.getD j []) i) := by rw [comF, if_neg (by rw [decide_eq_false ha]; decide)]
        refine AW.exit ?_
        exact AW.reach () ⟨trivial, Knows.app (.cons (VLe.refl _) (.cons (VLe.refl _) (.cons (VLe.refl _) (.cons (VLe.refl _) (.cons (VLe.refl _) .nil))))) (.cons (vle_of_eq (by rw [hcn]; rfl)) (.cons (vle_of_eq (by rw [hcn]; rfl)) .nil)), Owns.app (.cons rfl (.cons rfl (.cons rfl .nil))) (.nil)⟩
      · have ha : 0 < l.getD i 0 := by cases hd : decide (0 < l.getD i 0) with | true => exact of_decide_eq_true hd | false => rw [hd] at ha; cases ha
        refine AW.skip ?_
        refine AW.midK (α := Nat × List Int) [(2, _), (4, _), (8, _), (10, _), (11, _), (12, _)] [(2, _), (51, _), (54, _)] (fun (l2, f2) => [(5, .d (dI l2)), (6, .d (ints f2))]) (fun (l2, f2) => []) (fun (l2, f2) => (if (comF (fun j => decide (0 < l.getD j 0)) (fun j => tls.getD j []) i).1 < 0 then ((((tls.getD i []).length : Nat) : Int), (tls.getD i [])) else (comF (fun j => decide (0 < l.getD j 0)) (fun j => tls.getD j []) i)) = ((l2 : Int), f2) ∧ l2 ≤ f2.length ∧ f2.length ≤ 1099511627776) (by repeat (first | exact Knows.nil | refine Knows.cons (by first | exact knD rfl | exact knA rfl | exact knP rfl | exact knO rfl | exact knM rfl | exact knE rfl | exact knR rfl | exact knF rfl | exact knT rfl | exact knJ) ?_)) (by repeat (first | exact Owns.nil | refine Owns.cons (by first | exact owB rfl | exact owR rfl | exact owL rfl | exact owT rfl) ?_)) ?_ ?_
        · refine AW.seq ?_
          refine AW.region (by rw [hE]; rfl) ?_
          refine mvD rfl ?_
          refine c_lss rfl rfl rfl ?_
          refine OL.nil ?_
          refine AW.cond rfl (fun hn => ?_) (fun hn => ?_)
          · have hn := of_decide_eq_true hn
            refine AW.region (by rw [hE]; rfl) ?_
            refine mvD rfl ?_
            refine lnL sl.ints rfl rfl ?_
            refine mvD rfl ?_
            refine asD rfl ?_
            refine asD rfl ?_
            refine OL.nil ?_
            exact AW.reach ((tls.getD i []).length, (tls.getD i [])) ⟨⟨if_pos hn, Nat.le_refl _, hpl⟩, Knows.app (.cons (VLe.refl _) (.cons (VLe.refl _) (.cons (VLe.refl _) (.cons (VLe.refl _) (.cons (VLe.refl _) (.cons (VLe.refl _) .nil)))))) (.cons (by first | exact VLe.refl _ | exact VLe.int (by omega) | exact VLe.mt | exact vle_q0 | exact VLe.osl | exact VLe.ptr) (.cons (by first | exact VLe.refl _ | exact VLe.int (by omega) | exact VLe.mt | exact vle_q0 | exact VLe.osl | exact VLe.ptr) .nil)), Owns.app (.cons rfl (.cons rfl (.cons rfl .nil))) (.nil)⟩
          · have hn := of_decide_eq_false hn
            refine AW.skip ?_
            exact AW.reach ((comF (fun j => decide (0 < l.getD j 0)) (fun j => tls.getD j []) i).1.toNat, (comF (fun j => decide (0 < l.getD j 0)) (fun j => tls.getD j []) i).2) ⟨⟨by rw [if_neg hn]; exact Prod.ext (Int.toNat_of_nonneg (by omega)).symm rfl, hcl, com_len2 hlen i⟩, Knows.app (.cons (VLe.refl _) (.cons (VLe.refl _) (.cons (VLe.refl _) (.cons (VLe.refl _) (.cons (VLe.refl _) (.cons (VLe.refl _) .nil)))))) (.cons (VLe.int (by omega)) (.cons (by first | exact VLe.refl _ | exact VLe.int (by omega) | exact VLe.mt | exact vle_q0 | exact VLe.osl | exact VLe.ptr) .nil)), Owns.app (.cons rfl (.cons rfl (.cons rfl .nil))) (.nil)⟩
        rintro ⟨l2, f2⟩ ⟨hC2, hlf, hfl⟩
        have hC2 : (if (comF (fun j => decide (0 < l.getD j 0)) (fun j => tls.getD j []) i).1 < 0 then ((((tls.getD i []).length : Nat) : Int), (tls.getD i [])) else (comF (fun j => decide (0 < l.getD j 0)) (fun j => tls.getD j []) i)) = ((l2 : Int), f2) := hC2
        have hlf : l2 ≤ f2.length := hlf
        have hfl : f2.length ≤ 1099511627776 := hfl
        refine AW.seq ?_
        refine AW.region (by rw [hE]; rfl) ?_
        refine asD rfl ?_
        refine OL.nil ?_
        refine AW.seq ?_
        refine AW.block ?_
        refine AW.whileK (α := Nat) [(2, _), (4, _), (5, _), (6, _), (8, _), (10, _), (11, _), (12, _)] [(2, _), (51, _), (54, _)] (fun k => [(9, .d (dI k))]) (fun k => []) (fun k => k ≤ min l2 (lcpL (tls.getD i []) f2)) (fun k => min l2 (lcpL (tls.getD i []) f2) - k) 0 (by repeat (first | exact Knows.nil | refine Knows.cons (by first | exact knD rfl | exact knA rfl | exact knP rfl | exact knO rfl | exact knM rfl | exact knE rfl | exact knR rfl | exact knF rfl | exact knT rfl | exact knJ) ?_)) (by repeat (first | exact Owns.nil | refine Owns.cons (by first | exact owB rfl | exact owR rfl | exact owL rfl | exact owT rfl) ?_)) ⟨Nat.zero_le _, .cons (by first | exact VLe.refl _ | exact VLe.int (by omega) | exact VLe.mt | exact vle_q0 | exact VLe.osl | exact VLe.ptr) .nil, .nil⟩ ?_
        intro k h2
        have h2 : k ≤ min l2 (lcpL (tls.getD i []) f2) := h2
        have hls := lcpL_spec (tls.getD i []) f2
        have hls1 := hls.1
        refine AW.seq ?_
        refine AW.midK (α := Unit) [(2, _), (4, _), (5, _), (6, _), (8, _), (9, _), (10, _), (11, _), (12, _)] [(2, _), (51, _), (54, _)] (fun _u => [(45, .d (dB (decide (k < min l2 (lcpL (tls.getD i []) f2)))))]) (fun _u => []) (fun _u => True) (by repeat (first | exact Knows.nil | refine Knows.cons (by first | exact knD rfl | exact knA rfl | exact knP rfl | exact knO rfl | exact knM rfl | exact knE rfl | exact knR rfl | exact knF rfl | exact knT rfl | exact knJ) ?_)) (by repeat (first | exact Owns.nil | refine Owns.cons (by first | exact owB rfl | exact owR rfl | exact owL rfl | exact owT rfl) ?_)) ?_ ?_
        · refine AW.region_draw 1 [0, 1, 2, 3, 4, 5, 6, 7, 8, 9, 10, 11, 12, 13, 14, 15, 16, 17, 18, 19] order_free (by rw [hE]; rfl) (by kernel_rfl) (OI.of_OL (os := [_, _, _, _, _, _, _, _, _, _, _, _, _, _, _, _, _, _, _, _]) rfl ?_)
          refine mvD rfl ?_
          refine mvD rfl ?_
          refine c_lss rfl rfl rfl ?_
          refine mvD rfl ?_
          refine OL.split 29 rfl (fun g1 => ?_) (fun g1 => ?_)
          · have g1 : k < l2 := by have := of_decide_eq_true g1; omega
            refine OL.yes rfl ?_
            refine mvD rfl ?_
            refine OL.yes rfl ?_
            refine mvD rfl ?_
            refine OL.yes rfl ?_
            refine lnL sl.ints rfl rfl ?_
            refine OL.yes rfl ?_
            refine c_lss rfl rfl rfl ?_
            refine pkT rfl rfl ?_
            refine mvD rfl ?_
            refine OL.split 35 rfl (fun g2 => ?_) (fun g2 => ?_)
            · have g2 : k < (tls.getD i []).length := by have := of_decide_eq_true g2; omega
              have hnx := lcp_next g2 (show k < f2.length by omega) (by omega)
              refine OL.yes rfl ?_
              refine mvD rfl ?_
              refine OL.yes rfl ?_
              refine mvD rfl ?_
              refine OL.yes rfl ?_
              refine ixLn sl.ints 0 rfl rfl (by omega) rfl rfl ?_
              refine OL.yes rfl ?_
              refine ldRC ce.int rfl ?_
              refine OL.yes rfl ?_
              refine mvD rfl ?_
              refine OL.yes rfl ?_
              refine mvD rfl ?_
              refine OL.yes rfl ?_
              refine ixLn sl.ints 0 rfl rfl (by omega) rfl rfl ?_
              refine OL.yes rfl ?_
              refine ldRC ce.int rfl ?_
              refine OL.yes rfl ?_
              refine c_eql rfl rfl rfl ?_
              refine pkT rfl rfl ?_
              refine OL.nil ?_
              exact AW.reach () ⟨trivial, Knows.app (.cons (VLe.refl _) (.cons (VLe.refl _) (.cons (VLe.refl _) (.cons (VLe.refl _) (.cons (VLe.refl _) (.cons (VLe.refl _) (.cons (VLe.refl _) (.cons (VLe.refl _) (.cons (VLe.refl _) .nil))))))))) (.cons (VLe.bool (decide_eq_decide.2 ⟨fun e => by have := hnx.1 e; omega, fun e => hnx.2 (by omega)⟩)) .nil), Owns.app (.cons rfl (.cons rfl (.cons rfl .nil))) (.nil)⟩
            · have g2 : ¬ k < (tls.getD i []).length := by have := of_decide_eq_false g2; omega
              refine OL.no rfl (by decide) ?_
              refine OL.no rfl (by decide) ?_
              refine OL.no rfl (by decide) ?_
              refine OL.no rfl (by decide) ?_
              refine OL.no rfl (by decide) ?_
              refine OL.no rfl (by decide) ?_
              refine OL.no rfl (by decide) ?_
              refine OL.no rfl (by decide) ?_
              refine OL.no rfl (by decide) ?_
              refine pkF rfl rfl ?_
              refine OL.nil ?_
              exact AW.reach () ⟨trivial, Knows.app (.cons (VLe.refl _) (.cons (VLe.refl _) (.cons (VLe.refl _) (.cons (VLe.refl _) (.cons (VLe.refl _) (.cons (VLe.refl _) (.cons (VLe.refl _) (.cons (VLe.refl _) (.cons (VLe.refl _) .nil))))))))) (.cons (VLe.bool ((decide_eq_false (by omega)).symm)) .nil), Owns.app (.cons rfl (.cons rfl (.cons rfl .nil))) (.nil)⟩
          · have g1 : ¬ k < l2 := by have := of_decide_eq_false g1; omega
            refine OL.no rfl (by decide) ?_
            refine OL.no rfl (by decide) ?_
            refine OL.no rfl (by decide) ?_
            refine OL.no rfl (by decide) ?_
            refine pkF rfl rfl ?_
            refine mvD rfl ?_
            refine OL.no rfl (by decide) ?_
            refine OL.no rfl (by decide) ?_
            refine OL.no rfl (by decide) ?_
            refine OL.no rfl (by decide) ?_
            refine OL.no rfl (by decide) ?_
            refine OL.no rfl (by decide) ?_
            refine OL.no rfl (by decide) ?_
            refine OL.no rfl (by decide) ?_
            refine OL.no rfl (by decide) ?_
            refine pkF rfl rfl ?_
            refine OL.nil ?_
            exact AW.reach () ⟨trivial, Knows.app (.cons (VLe.refl _) (.cons (VLe.refl _) (.cons (VLe.refl _) (.cons (VLe.refl _) (.cons (VLe.refl _) (.cons (VLe.refl _) (.cons (VLe.refl _) (.cons (VLe.refl _) (.cons (VLe.refl _) .nil))))))))) (.cons (VLe.bool ((decide_eq_false (by omega)).symm)) .nil), Owns.app (.cons rfl (.cons rfl (.cons rfl .nil))) (.nil)⟩
        rintro ⟨⟩ hφ
        refine AW.cond rfl (fun gk => ?_) (fun gk => ?_)
        · have gk := of_decide_eq_true gk
          refine AW.skip ?_
          refine AW.block ?_
          refine AW.region (by rw [hE]; rfl) ?_
          refine mvD rfl ?_
          refine add_i64 rfl rfl (by omega) ?_
          refine asD rfl ?_
          refine OL.nil ?_
          exact AW.again (x := k) (k + 1) (by first | omega | (simp only []; omega)) ⟨by omega, Knows.app (.cons (VLe.refl _) (.cons (VLe.refl _) (.cons (VLe.refl _) (.cons (VLe.refl _) (.cons (VLe.refl _) (.cons (VLe.refl _) (.cons (VLe.refl _) (.cons (VLe.refl _) .nil)))))))) (.cons (by first | exact VLe.refl _ | exact VLe.int (by omega) | exact VLe.mt | exact vle_q0 | exact VLe.osl | exact VLe.ptr) .nil), Owns.app (.cons rfl (.cons rfl (.cons rfl .nil))) (.nil)⟩
        · have gk := of_decide_eq_false gk
          refine AW.exit ?_
          have hk : k = min l2 (lcpL (tls.getD i []) f2) := by omega
          refine AW.region (by rw [hE]; rfl) ?_
          refine mvD rfl ?_
          refine asD rfl ?_
          refine OL.nil ?_
          exact AW.reach () ⟨trivial, Knows.app (.cons (VLe.refl _) (.cons (VLe.refl _) (.cons (VLe.refl _) (.cons (VLe.refl _) (.cons (VLe.refl _) .nil))))) (.cons (VLe.int (by rw [com_next (decide_eq_true ha) hC2, hk])) (.cons (vle_of_eq (by rw [com_next (decide_eq_true ha) hC2]; rfl)) .nil)), Owns.app (.cons rfl (.cons rfl (.cons rfl .nil))) (.nil)⟩
    rintro ⟨⟩ hφ
    refine AW.region (by rw [hE]; rfl) ?_
    refine add_i64 rfl rfl (by omega) ?_
    refine mvD rfl ?_
    refine OL.nil ?_
    exact AW.again (x := i) (i + 1) (by first | omega | (simp only []; omega)) ⟨by omega, Knows.app (.cons (VLe.refl _) (.cons (VLe.refl _) (.cons (VLe.refl _) (.cons (VLe.refl _) .nil)))) (.cons (by first | exact VLe.refl _ | exact VLe.int (by omega) | exact VLe.mt | exact vle_q0 | exact VLe.osl | exact VLe.ptr) (.cons (by first | exact VLe.refl _ | exact VLe.int (by omega) | exact VLe.mt | exact vle_q0 | exact VLe.osl | exact VLe.ptr) (.cons (by first | exact VLe.refl _ | exact VLe.int (by omega) | exact VLe.mt | exact vle_q0 | exact VLe.osl | exact VLe.ptr) .nil))), Owns.app (.cons rfl (.cons rfl (.cons rfl .nil))) (.nil)⟩
  · first | (simp only [decide_eq_true_eq, decide_eq_false_iff_not, Bool.not_eq_true', Bool.not_eq_false', Bool.not_not, Bool.and_eq_true, Bool.and_eq_false_iff, Bool.or_eq_true, Bool.or_eq_false_iff] at h13) | skip
    refine AW.exit ?_
    refine AW.seq ?_
    obtain rfl : i = n := by omega
    refine AW.region (by rw [hE]; rfl) ?_
    refine mvD rfl ?_
    refine mx rfl rfl rfl ?_
    refine asD rfl ?_
    refine OL.nil ?_
    exact AW.ret ⟨⟨_, .tmp rfl .nil, .le (by first | exact VLe.refl _ | exact VLe.mt | exact vle_q0 | exact VLe.int (by omega) | exact VLe.bool (by simp_all))⟩, mem2_keep rfl rfl⟩
set_option maxRecDepth 4000 in
set_option maxHeartbeats 1600000 in
theorem on_Valid {h : HM} {B : Nat} {u : List Int} {o : Dec} (g : h.Good B) (k : InvD h u o) (hu : u.length ≤ 256) : FSpec P F.online_Valid [vOn h o] (.d (dB true)) := by
  have f := g.form
  have n1 := f.st1
  have kle := k.le
  have hz := k.small
  have hC : 1 ≤ 1 + 2048 * o.t ∧ 1 + 2048 * o.t ≤ 68719476736 := by omega
  refine FSpec.intro fn.online_Valid (by rfl) (by rfl) (Nat.le_of_ble_eq_true (by rfl)) fun E hE => ?_
  refine AW.seq ?_
  refine AW.region (by rw [hE]; rfl) ?_
  refine bxA rfl rfl fun b1 => ?_
  refine asD rfl ?_
  refine OL.nil ?_
  refine AW.seq ?_
  refine AW.seq ?_
  refine AW.region (by rw [hE]; rfl) ?_
  refine faP fd.Online_0 rfl rfl ?_
  refine ldPA ag.Hidden rfl rfl (vs := [_, _, _, _, _, _, _, _, _, _, _]) rfl (Nat.le_of_ble_eq_true rfl) ?_
  refine clv rfl (.cons (by first | exact VLe.refl _ | exact VLe.mt | exact vle_q0 | exact VLe.ptr) .nil) (hmm_Plain_ok (by assumption)) ?_
  refine nt rfl ?_
  refine mvD rfl ?_
  refine OL.yes rfl ?_
  refine faP fd.Online_1 rfl rfl ?_
  refine OL.yes rfl ?_
  refine ldPC ce.int rfl rfl rfl ?_
  refine OL.yes rfl ?_
  refine c_lss rfl rfl (c := false) (by first | exact decide_eq_true (by omega) | exact decide_eq_false (by omega) | exact cne_f (by omega) | exact cne_t (by omega) | rfl) ?_
  refine pkF rfl rfl ?_
  refine mvD rfl ?_
  refine OL.yes rfl ?_
  refine faP fd.Online_1 rfl rfl ?_
  refine OL.yes rfl ?_
  refine ldPC ce.int rfl rfl rfl ?_
  refine OL.yes rfl ?_
  refine c_gtr rfl rfl (c := false) (by first | exact decide_eq_true (by omega) | exact decide_eq_false (by omega) | exact cne_f (by omega) | exact cne_t (by omega) | rfl) ?_
  refine pkF rfl rfl ?_
  refine OL.nil ?_
  refine AW.cond rfl (fun hno => absurd hno (by decide)) (fun _ => ?_)
  refine AW.skip ?_
  refine AW.seq ?_
  refine AW.seq ?_
  refine AW.region (by rw [hE]; rfl) ?_
  refine faP fd.Online_1 rfl rfl ?_
  refine ldPC ce.int rfl rfl rfl ?_
  refine c_eql rfl rfl rfl ?_
  refine OL.nil ?_
  refine AW.cond rfl (fun h0 => ?_) (fun h0 => ?_)
  · have h0 : o.t = 0 := by have := of_decide_eq_true h0; omega
    obtain ⟨e1, e2, e3⟩ := k.zero h0
    refine AW.seq ?_
    refine AW.region (by rw [hE]; rfl) ?_
    refine faP fd.Online_2 rfl rfl ?_
    refine ldPC ce.Rats rfl rfl rfl ?_
    refine lnL sl.Rats rfl rfl ?_
    refine c_eql rfl rfl (c := true) (decide_eq_true (by rw [e1]; rfl)) ?_
    refine mvD rfl ?_
    refine OL.yes rfl ?_
    refine faP fd.Online_3 rfl rfl ?_
    refine OL.yes rfl ?_
    refine ldPC ce.intss rfl rfl rfl ?_
    refine OL.yes rfl ?_
    refine lnL sl.intss rfl rfl ?_
    refine OL.yes rfl ?_
    refine c_eql rfl rfl (c := true) (decide_eq_true (by rw [e2]; rfl)) ?_
    refine pkT rfl rfl ?_
    refine mvD rfl ?_
    refine OL.yes rfl ?_
    refine faP fd.Online_4 rfl rfl ?_
    refine OL.yes rfl ?_
    refine ldPC ce.ints rfl rfl rfl ?_
    refine OL.yes rfl ?_
    refine lnL sl.ints rfl rfl ?_
    refine OL.yes rfl ?_
    refine c_eql rfl rfl (c := true) (decide_eq_true (by rw [e3]; rfl)) ?_
    refine pkT rfl rfl ?_
    refine asD rfl ?_
    refine OL.nil ?_
    exact AW.ret (RetQ.r ⟨_, .tmp rfl .nil, .le (by first | exact VLe.refl _ | exact VLe.mt | exact vle_q0 | exact VLe.int (by omega) | exact VLe.bool (by simp_all))⟩)
  · have h0 : o.t ≠ 0 := fun e => of_decide_eq_false h0 (by omega)
    obtain ⟨l1, l2⟩ := k.len h0
    have hd := k.heads h0
    refine AW.skip ?_
    refine AW.seq ?_
    refine AW.seq ?_
    refine AW.region (by rw [hE]; rfl) ?_
    refine faP fd.Online_2 rfl rfl ?_
    refine ldPC ce.Rats rfl rfl rfl ?_
    refine lnL sl.Rats rfl rfl ?_
    refine faP fd.Online_0 rfl rfl ?_
    refine faP fd.Hidden_1 rfl rfl ?_
    refine ldPC ce.int rfl rfl rfl ?_
    refine c_neq rfl rfl (c := false) (by first | exact decide_eq_true (by omega) | exact decide_eq_false (by omega) | exact cne_f (by omega) | exact cne_t (by omega) | rfl) ?_
    refine mvD rfl ?_
    refine OL.yes rfl ?_
    refine faP fd.Online_3 rfl rfl ?_
    refine OL.yes rfl ?_
    refine ldPC ce.intss rfl rfl rfl ?_
    refine OL.yes rfl ?_
    refine lnL sl.intss rfl rfl ?_
    refine OL.yes rfl ?_
    refine faP fd.Online_0 rfl rfl ?_
    refine OL.yes rfl ?_
    refine faP fd.Hidden_1 rfl rfl ?_
    refine OL.yes rfl ?_
    refine ldPC ce.int rfl rfl rfl ?_
    refine OL.yes rfl ?_
    refine c_neq rfl rfl (c := false) (by first | exact decide_eq_true (by omega) | exact decide_eq_false (by omega) | exact cne_f (by omega) | exact cne_t (by omega) | rfl) ?_
    refine pkF rfl rfl ?_
    refine OL.nil ?_
    refine AW.cond rfl (fun hno => absurd hno (by decide)) (fun _ => ?_)
    refine AW.skip ?_
    refine AW.seq ?_
    refine AW.region (by rw [hE]; rfl) ?_
    refine asD rfl ?_
    refine OL.nil ?_
    refine AW.seq ?_
    refine AW.seq ?_
    refine AW.region (by rw [hE]; rfl) ?_
    refine faP fd.Online_2 rfl rfl ?_
    refine ldPC ce.Rats rfl rfl rfl ?_
    refine lnL sl.Rats rfl rfl ?_
    refine mvD rfl ?_
    refine OL.nil ?_
    refine AW.block ?_
    refine AW.whileK (α := Nat) [(1, _), (56, _), (57, _)] [(1, _)] (fun i => [(3, .d (dB (liveB o i))), (58, .d (dI i))]) (fun i => []) (fun i => i ≤ h.st) (fun i => h.st - i) 0 (by repeat (first | exact Knows.nil | refine Knows.cons (by first | exact knD rfl | exact knA rfl | exact knP rfl | exact knO rfl | exact knM rfl | exact knE rfl | exact knR rfl | exact knF rfl | exact knT rfl | exact knJ) ?_)) (.cons (by first | exact owB rfl | exact owR rfl | exact owL rfl | exact owT rfl) .nil) ⟨Nat.zero_le _, .cons (by first | exact VLe.refl _ | exact VLe.int (by omega) | exact VLe.mt | exact vle_q0 | exact VLe.osl | exact VLe.ptr) (.cons (by first | exact VLe.refl _ | exact VLe.int (by omega) | exact VLe.mt | exact vle_q0 | exact VLe.osl | exact VLe.ptr) .nil), .nil⟩ ?_
    intro i h1
    have h1 : i ≤ h.st := h1
    refine AW.seq ?_
    refine AW.region (by rw [hE]; rfl) ?_
    refine c_lss rfl rfl rfl ?_
    refine OL.nil ?_
    refine AW.seq ?_
    refine AW.cond rfl (fun h59 => ?_) (fun h59 => ?_)
    · first | (simp only [decide_eq_true_eq, decide_eq_false_iff_not, Bool.not_eq_true', Bool.not_eq_false', Bool.not_not, Bool.and_eq_true, Bool.and_eq_false_iff, Bool.or_eq_true, Bool.or_eq_false_iff] at h59) | skip
      refine AW.skip ?_
      refine AW.midK (α := Unit) [(1, _), (56, _), (57, _), (58, _)] [(1, _)] (fun _u => [(3, .d (dB (liveB o (i + 1))))]) (fun _u => []) (fun _u => True) (by repeat (first | exact Knows.nil | refine Knows.cons (by first | exact knD rfl | exact knA rfl | exact knP rfl | exact knO rfl | exact knM rfl | exact knE rfl | exact knR rfl | exact knF rfl | exact knT rfl | exact knJ) ?_)) (.cons (by first | exact owB rfl | exact owR rfl | exact owL rfl | exact owT rfl) .nil) ?_ ?_
      · refine AW.block ?_
        refine AW.seq ?_
        have hi : i < h.st := by omega
        have zi := hz.get hC.1 i
        refine AW.region (by rw [hE]; rfl) ?_
        refine mvD rfl ?_
        refine ixLn sl.Rats 0 rfl rfl (by omega) rfl rfl ?_
        refine ldRA ag.Rat rfl (vs := [_, _, _]) rfl (Nat.le_of_ble_eq_true rfl) ?_
        refine al z.Rat rfl fun b5 => ?_
        refine asD rfl ?_
        refine sto sz.Rat rfl rfl rfl rfl rfl (Nat.le_of_ble_eq_true rfl) (cells2 := [_, _, _]) rfl ?_
        refine OL.nil ?_
        refine AW.block ?_
        refine AW.seq ?_
        refine AW.region (by rw [hE]; rfl) ?_
        refine ldPA ag.Rat rfl rfl (vs := [_, _, _]) rfl (Nat.le_of_ble_eq_true rfl) ?_
        refine clv rfl (.cons (VLe.refl _) (.nil)) (on_share (inv_share g k h0 hi) (by omega)) ?_
        refine nt rfl ?_
        refine asD rfl ?_
        refine OL.nil ?_
        refine AW.cond rfl (fun hno => absurd hno (by decide)) (fun _ => ?_)
        refine AW.seq ?_
        refine AW.region (by rw [hE]; rfl) ?_
        refine ldPA ag.Online rfl rfl (vs := [_, _, _, _, _, _, _, _, _, _, _, _, _, _, _]) rfl (Nat.le_of_ble_eq_true rfl) ?_
        refine mvD rfl ?_
        refine clv rfl (.cons (VLe.refl _) (.cons (VLe.refl _) (.nil))) (on_alive hz hC (by omega)) ?_
        refine asD rfl ?_
        refine OL.nil ?_
        refine AW.cond rfl (fun ha => ?_) (fun ha => ?_)
        · have ha := of_decide_eq_true ha
          obtain ⟨m1, m2, _⟩ := hd.live i hi ha
          refine AW.seq ?_
          refine AW.region (by rw [hE]; rfl) ?_
          refine asD rfl ?_
          refine OL.nil ?_
          refine AW.seq ?_
          refine AW.region (by rw [hE]; rfl) ?_
          refine ldPA ag.Online rfl rfl (vs := [_, _, _, _, _, _, _, _, _, _, _, _, _, _, _]) rfl (Nat.le_of_ble_eq_true rfl) ?_
          refine mvD rfl ?_
          refine clv rfl (.cons (VLe.refl _) (.cons (VLe.refl _) (.nil))) (on_fitting (by omega) h0 (by omega) m1 m2) ?_
          refine nt rfl ?_
          refine OL.nil ?_
          refine AW.cond rfl (fun hno => absurd hno (by decide)) (fun _ => ?_)
          refine AW.skip ?_
          exact AW.reach () ⟨trivial, Knows.app (.cons (VLe.refl _) (.cons (VLe.refl _) (.cons (VLe.refl _) (.cons (VLe.refl _) .nil)))) (.cons (VLe.bool (by rw [liveB, if_pos ha])) .nil), Owns.app (.cons rfl .nil) (.nil)⟩
        · have ha := of_decide_eq_false ha
          have hdd := k.dead i ha
          refine AW.seq ?_
          refine AW.region (by rw [hE]; rfl) ?_
          refine faP fd.Online_3 rfl rfl ?_
          refine ldPC ce.intss rfl rfl rfl ?_
          refine mvD rfl ?_
          refine ixLn sl.intss [] rfl rfl (by omega) rfl rfl ?_
          refine ldRC ce.ints rfl ?_
          refine lnL sl.ints rfl rfl ?_
          refine c_gtr rfl rfl (c := false) (decide_eq_false (by rw [hdd]; decide)) ?_
          refine asD rfl ?_
          refine OL.nil ?_
          refine AW.cond rfl (fun hno => absurd hno (by decide)) (fun _ => ?_)
          refine AW.skip ?_
          exact AW.reach () ⟨trivial, Knows.app (.cons (VLe.refl _) (.cons (VLe.refl _) (.cons (VLe.refl _) (.cons (VLe.refl _) .nil)))) (.cons (VLe.bool (by rw [liveB, if_neg ha])) .nil), Owns.app (.cons rfl .nil) (.nil)⟩
      rintro ⟨⟩ hφ
      refine AW.region (by rw [hE]; rfl) ?_
      refine add_i64 rfl rfl (by omega) ?_
      refine mvD rfl ?_
      refine OL.nil ?_
      exact AW.again (x := i) (i + 1) (by first | omega | (simp only []; omega)) ⟨by omega, Knows.app (.cons (VLe.refl _) (.cons (VLe.refl _) (.cons (VLe.refl _) .nil))) (.cons (by first | exact VLe.refl _ | exact VLe.int (by omega) | exact VLe.mt | exact vle_q0 | exact VLe.osl | exact VLe.ptr) (.cons (by first | exact VLe.refl _ | exact VLe.int (by omega) | exact VLe.mt | exact vle_q0 | exact VLe.osl | exact VLe.ptr) .nil)), Owns.app (.cons rfl .nil) (.nil)⟩
    · first | (simp only [decide_eq_true_eq, decide_eq_false_iff_not, Bool.not_eq_true', Bool.not_eq_false', Bool.not_not, Bool.and_eq_true, Bool.and_eq_false_iff, Bool.or_eq_true, Bool.or_eq_false_iff] at h59) | skip
      refine AW.exit ?_
      refine AW.seq ?_
      obtain rfl : i = h.st := by omega
      obtain ⟨j, hj, hp⟩ := k.some h0
      rw [liveB_of hj hp]
      refine AW.region (by rw [hE]; rfl) ?_
      refine mvD rfl ?_
      refine mvD rfl ?_
      refine OL.yes rfl ?_
      refine ldPA ag.Online rfl rfl (vs := [_, _, _, _, _, _, _, _, _, _, _, _, _, _, _]) rfl (Nat.le_of_ble_eq_true rfl) ?_
      refine OL.yes rfl ?_
      refine faP fd.Online_3 rfl rfl ?_
      refine OL.yes rfl ?_
      refine ldPC ce.intss rfl rfl rfl ?_
      refine OL.yes rfl ?_
      have hlen : ∀ j, (o.tl.getD j []).length ≤ 1099511627776 := fun j => by
        rcases Nat.lt_or_ge j h.st with hj | hj
        · by_cases e : 0 < o.sc.getD j 0
          · have := (pathsF_mem (hd.live j hj e).1).1; rw [List.length_append] at this; omega
          · rw [k.dead j e]; exact Nat.zero_le _
        · rw [getD_ge (by omega)]; exact Nat.zero_le _
      refine clv rfl (.cons (VLe.refl _) (.cons (VLe.refl _) (.nil))) (on_common hz hC l1 l2 (by omega) hlen) ?_
      refine OL.yes rfl ?_
      refine c_eql rfl rfl (c := true) (decide_eq_true (by have := k.com h0; omega)) ?_
      refine pkT rfl rfl ?_
      refine asD rfl ?_
      refine OL.nil ?_
      exact AW.ret (RetQ.r ⟨_, .tmp rfl .nil, .le (by first | exact VLe.refl _ | exact VLe.mt | exact vle_q0 | exact VLe.int (by omega) | exact VLe.bool (by simp_all))⟩)
set_option maxRecDepth 4000 in
set_option maxHeartbeats 1600000 in
theorem on_Open {h : HM} {B : Nat} (g : h.Good B) : FSpec P F.online_Open [vHM h] (.tup [vOn h ⟨0, [], [], []⟩, .d (dI 0)]) := by
  refine FSpec.intro fn.online_Open (by rfl) (by rfl) (Nat.le_of_ble_eq_true (by rfl)) fun E hE => ?_
  refine AW.seq ?_
  refine AW.region (by rw [hE]; rfl) ?_
  refine bxA rfl rfl fun b1 => ?_
  refine al z.Online rfl fun b2 => ?_
  refine asD rfl ?_
  refine OL.nil ?_
  refine AW.seq ?_
  refine AW.seq ?_
  refine AW.region (by rw [hE]; rfl) ?_
  refine ldPA ag.Hidden rfl rfl (vs := [_, _, _, _, _, _, _, _, _, _, _]) rfl (Nat.le_of_ble_eq_true rfl) ?_
  refine clv rfl (.cons (VLe.refl _) (.nil)) (online_refuse g) ?_
  refine asD rfl ?_
  refine OL.nil ?_
  refine AW.seq ?_
  refine AW.region (by rw [hE]; rfl) ?_
  refine mvD rfl ?_
  refine c_neq rfl rfl (c := false) (by first | exact decide_eq_true (by omega) | exact decide_eq_false (by omega) | exact cne_f (by omega) | exact cne_t (by omega) | rfl) ?_
  refine OL.nil ?_
  refine AW.cond rfl (fun hno => absurd hno (by decide)) (fun _ => ?_)
  refine AW.skip ?_
  refine AW.seq ?_
  refine AW.region (by rw [hE]; rfl) ?_
  refine ldPA ag.Hidden rfl rfl (vs := [_, _, _, _, _, _, _, _, _, _, _]) rfl (Nat.le_of_ble_eq_true rfl) ?_
  refine clv rfl (.cons (VLe.refl _) (.nil)) (fresh_Hidden g.form) ?_
  refine bd z.Online pl.Online (cs := [_, _, _, _, _, _, _, _, _, _, _, _, _, _, _]) rfl ?_
  refine sto sz.Online rfl rfl rfl rfl rfl (Nat.le_of_ble_eq_true rfl) (cells2 := [_, _, _, _, _, _, _, _, _, _, _, _, _, _, _]) rfl ?_
  refine asD rfl ?_
  refine OL.nil ?_
  exact AW.ret (RetQ.r ⟨_, .cellA rfl rfl ag.Online (Nat.le_of_ble_eq_true rfl) (.tmp rfl .nil), _, .cons (.ag (.cons (.le (by first | exact VLe.refl _ | exact VLe.mt | exact vle_q0 | exact VLe.int (by omega) | exact VLe.bool (by simp_all))) (.cons (.le (by first | exact VLe.refl _ | exact VLe.mt | exact vle_q0 | exact VLe.int (by omega) | exact VLe.bool (by simp_all))) (.cons (.le (by first | exact VLe.refl _ | exact VLe.mt | exact vle_q0 | exact VLe.int (by omega) | exact VLe.bool (by simp_all))) (.cons (.le (by first | exact VLe.refl _ | exact VLe.mt | exact vle_q0 | exact VLe.int (by omega) | exact VLe.bool (by simp_all))) (.cons (.le (by first | exact VLe.refl _ | exact VLe.mt | exact vle_q0 | exact VLe.int (by omega) | exact VLe.bool (by simp_all))) (.cons (.le (by first | exact VLe.refl _ | exact VLe.mt | exact vle_q0 | exact VLe.int (by omega) | exact VLe.bool (by simp_all))) (.cons (.le (by first | exact VLe.refl _ | exact VLe.mt | exact vle_q0 | exact VLe.int (by omega) | exact VLe.bool (by simp_all))) (.cons (.le (by first | exact VLe.refl _ | exact VLe.mt | exact vle_q0 | exact VLe.int (by omega) | exact VLe.bool (by simp_all))) (.cons (.le (by first | exact VLe.refl _ | exact VLe.mt | exact vle_q0 | exact VLe.int (by omega) | exact VLe.bool (by simp_all))) (.cons (.le (by first | exact VLe.refl _ | exact VLe.mt | exact vle_q0 | exact VLe.int (by omega) | exact VLe.bool (by simp_all))) (.cons (.le (by first | exact VLe.refl _ | exact VLe.mt | exact vle_q0 | exact VLe.int (by omega) | exact VLe.bool (by simp_all))) (.cons (.le (by first | exact VLe.refl _ | exact VLe.mt | exact vle_q0 | exact VLe.int (by omega) | exact VLe.bool (by simp_all))) (.cons (.le (by first | exact VLe.refl _ | exact VLe.mt | exact vle_q0 | exact VLe.int (by omega) | exact VLe.bool (by simp_all))) (.cons (.le (by first | exact VLe.refl _ | exact VLe.mt | exact vle_q0 | exact VLe.int (by omega) | exact VLe.bool (by simp_all))) (.cons (.le (by first | exact VLe.refl _ | exact VLe.mt | exact vle_q0 | exact VLe.int (by omega) | exact VLe.bool (by simp_all))) .nil)))))))))))))))) (.cons (.le (by first | exact VLe.refl _ | exact VLe.mt | exact vle_q0 | exact VLe.int (by omega) | exact VLe.bool (by simp_all))) .nil), rfl⟩)
end Go.Proofs.YtcebciggodhmcaaGreat

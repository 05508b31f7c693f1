/-
  The law OnlineScores (printed by mk2.py).
-/
import Derived.Test.YtcebciggodhmcaaGreatKOnM
import Derived.Test.YtcebciggodhmcaaGreatKOnD
set_option linter.unusedVariables false
set_option linter.unusedSimpArgs false
namespace Go.Proofs.YtcebciggodhmcaaGreat
open Go Go.AL
set_option maxRecDepth 6000 in
set_option maxHeartbeats 3200000 in
theorem law_OnlineScores {L l : List Int} {cs cy : Int} (nL : L.length ≤ 9223372036854775807) : FSpec P F.law37_OnlineScores [.ag [.d (dI cs), .d (dI cy), .d (ints L)], .d (ints l)] (.d (dB true)) := by
  obtain ⟨h, hh⟩ : ∃ h, h = chainHM L cs cy 3 := ⟨_, rfl⟩
  have hg : h.Good 1 := by rw [hh]; exact chainHM_good L cs cy (by decide)
  have f := hg.form
  have s0 := f.sym0
  have s1 := f.sym1
  have n1 := f.st1
  obtain ⟨w, hw⟩ : ∃ w, w = wordF l h.sym 4 := ⟨_, rfl⟩
  have kw : WordOK h w := by rw [hw]; exact wordF_ok s0 (by decide)
  have wl : w.length ≤ 4 := by rw [hw]; exact wordF_len ..
  refine FSpec.intro fn.law37_OnlineScores (by rfl) (by rfl) (Nat.le_of_ble_eq_true (by rfl)) fun E hE => ?_
  refine AW.seq ?_
  refine AW.region (by rw [hE]; rfl) ?_
  refine bxA rfl rfl fun b2 => ?_
  refine asD rfl ?_
  refine OL.nil ?_
  refine AW.seq ?_
  refine AW.region (by rw [hE]; rfl) ?_
  refine ldPA ag.Chain rfl rfl (vs := [_, _, _]) rfl (Nat.le_of_ble_eq_true rfl) ?_
  refine clv rfl (.cons (VLe.refl _) (.cons (VLe.refl _) (.nil))) (chain_Hidden (by decide) nL) ?_
  rw [← hh]
  refine al z.Hidden rfl fun b5 => ?_
  refine sto sz.Hidden rfl rfl rfl rfl rfl (Nat.le_of_ble_eq_true rfl) (cells2 := [_, _, _, _, _, _, _, _, _, _, _]) rfl ?_
  refine OL.nil ?_
  refine AW.seq ?_
  refine AW.region (by rw [hE]; rfl) ?_
  refine mvD rfl ?_
  refine faP fd.Hidden_0 rfl rfl ?_
  refine ldPC ce.int rfl rfl rfl ?_
  refine clv rfl (.cons (VLe.refl _) (.cons (VLe.refl _) (.cons (VLe.refl _) (.nil)))) (world_Word (sym := h.sym) (most := 4) ⟨s0, by omega⟩ (by decide)) ?_
  rw [← hw]
  refine asD rfl ?_
  refine OL.nil ?_
  refine AW.seq ?_
  refine AW.region (by rw [hE]; rfl) ?_
  refine ldPA ag.Hidden rfl rfl (vs := [_, _, _, _, _, _, _, _, _, _, _]) rfl (Nat.le_of_ble_eq_true rfl) ?_
  refine clv rfl (.cons (VLe.refl _) (.nil)) (on_Open hg) ?_
  refine mvT rfl ?_
  refine ex rfl rfl ?_
  refine ex rfl rfl ?_
  refine al z.Online rfl fun b7 => ?_
  refine sto sz.Online rfl rfl rfl rfl rfl (Nat.le_of_ble_eq_true rfl) (cells2 := [_, _, _, _, _, _, _, _, _, _, _, _, _, _, _]) rfl ?_
  refine asD rfl ?_
  refine OL.nil ?_
  refine AW.seq ?_
  refine AW.seq ?_
  refine AW.region (by rw [hE]; rfl) ?_
  refine asD rfl ?_
  refine OL.nil ?_
  refine AW.block ?_
  refine AW.whileK (α := Nat × HM × Dec × Int) [(4, _), (5, _), (6, _), (7, _)] [(5, _)] (fun (t, H, o, e) => [(8, .d (dI e)), (9, .d (dI t))]) (fun (t, H, o, e) => [(7, .box b7 T.Online (cellsOn H o))]) (fun (t, H, o, e) => t ≤ w.length ∧ ((e = 0 ∧ h = H ∧ (runD h w t).1 = o ∧ ∀ s, s ≤ t → InvD h w (runD h w s).1) ∨ e = 11)) (fun (t, H, o, e) => w.length - t) (0, h, ⟨0, [], [], []⟩, 0) (by repeat (first | exact Knows.nil | refine Knows.cons (by first | exact knD rfl | exact knA rfl | exact knP rfl | exact knO rfl | exact knM rfl | exact knE rfl | exact knR rfl | exact knF rfl | exact knT rfl | exact knJ) ?_)) (.cons (by first | exact owB rfl | exact owR rfl | exact owL rfl | exact owT rfl) .nil) ⟨⟨Nat.zero_le _, .inl ⟨rfl, rfl, rfl, fun s hs => by obtain rfl : s = 0 := Nat.le_zero.1 hs; exact inv_open⟩⟩, .cons (by first | exact VLe.refl _ | exact VLe.int (by omega) | exact VLe.mt | exact vle_q0 | exact VLe.osl | exact VLe.ptr) (.cons (by first | exact VLe.refl _ | exact VLe.int (by omega) | exact VLe.mt | exact vle_q0 | exact VLe.osl | exact VLe.ptr) .nil), .cons rfl .nil⟩ ?_
  rintro ⟨t, H, o, e⟩ ⟨h1, hph⟩
  have h1 : t ≤ w.length := h1
  have hph : (e = 0 ∧ h = H ∧ (runD h w t).1 = o ∧ ∀ s, s ≤ t → InvD h w (runD h w s).1) ∨ e = 11 := hph
  have he2 : e = 0 ∨ e = 11 := hph.imp (fun k => k.1) (fun k => k)
  refine AW.seq ?_
  refine AW.midK (α := Unit) [(4, _), (5, _), (6, _), (7, _), (8, _), (9, _)] [(5, _), (7, _)] (fun _u => [(30, .d (dB (decide (t < w.length ∧ e = 0))))]) (fun _u => []) (fun _u => True) (by repeat (first | exact Knows.nil | refine Knows.cons (by first | exact knD rfl | exact knA rfl | exact knP rfl | exact knO rfl | exact knM rfl | exact knE rfl | exact knR rfl | exact knF rfl | exact knT rfl | exact knJ) ?_)) (by repeat (first | exact Owns.nil | refine Owns.cons (by first | exact owB rfl | exact owR rfl | exact owL rfl | exact owT rfl) ?_)) ?_ ?_
  · refine AW.region (by rw [hE]; rfl) ?_
    refine mvD rfl ?_
    refine mvD rfl ?_
    refine lnL sl.ints rfl rfl ?_
    refine c_lss rfl rfl rfl ?_
    refine mvD rfl ?_
    refine OL.split 27 rfl (fun ht => ?_) (fun ht => ?_)
    · have ht : t < w.length := by have := of_decide_eq_true ht; omega
      refine OL.yes rfl ?_
      refine mvD rfl ?_
      refine OL.yes rfl ?_
      refine c_eql rfl rfl rfl ?_
      refine pkT rfl rfl ?_
      refine OL.nil ?_
      exact AW.reach () ⟨trivial, Knows.app (.cons (VLe.refl _) (.cons (VLe.refl _) (.cons (VLe.refl _) (.cons (VLe.refl _) (.cons (VLe.refl _) (.cons (VLe.refl _) .nil)))))) (.cons (VLe.bool (decide_eq_decide.2 ⟨fun k => ⟨ht, k⟩, fun k => k.2⟩)) .nil), Owns.app (.cons rfl (.cons rfl .nil)) (.nil)⟩
    · have ht : ¬ t < w.length := by have := of_decide_eq_false ht; omega
      refine OL.no rfl (by decide) ?_
      refine OL.no rfl (by decide) ?_
      refine pkF rfl rfl ?_
      refine OL.nil ?_
      exact AW.reach () ⟨trivial, Knows.app (.cons (VLe.refl _) (.cons (VLe.refl _) (.cons (VLe.refl _) (.cons (VLe.refl _) (.cons (VLe.refl _) (.cons (VLe.refl _) .nil)))))) (.cons (VLe.bool ((decide_eq_false fun k => ht k.1).symm)) .nil), Owns.app (.cons rfl (.cons rfl .nil)) (.nil)⟩
  rintro ⟨⟩ hφ
  refine AW.cond rfl (fun he => ?_) (fun he => ?_)
  · obtain ⟨ht, he⟩ : t < w.length ∧ e = 0 := of_decide_eq_true he
    obtain ⟨rfl, rfl, rfl, kk⟩ : e = 0 ∧ h = H ∧ (runD h w t).1 = o ∧ ∀ s, s ≤ t → InvD h w (runD h w s).1 := hph.resolve_right fun k => by rw [he] at k; exact absurd k (by decide)
    have k := kk t (Nat.le_refl _)
    have hot := run_t h w t
    have hx := kw.symX (t := t) ht
    have hnext : (pushE h (runD h w t).1 (symX w t) = 0 ∧ h = pushH h (runD h w t).1 (symX w t) ∧ (runD h w (t + 1)).1 = pushD h (runD h w t).1 (symX w t) ∧ ∀ s, s ≤ t + 1 → InvD h w (runD h w s).1) ∨ pushE h (runD h w t).1 (symX w t) = 11 := by
      refine (push_E (h := h) (o := (runD h w t).1) (x := (symX w t))).imp (fun e0 => ?_) (fun e1 => e1)
      have hs := push_ok e0
      refine ⟨e0, (if_pos hs).symm, (show pushD h (runD h w t).1 (symX w t) = stepD h (runD h w t).1 (symX w t) from if_pos hs).symm, fun s hs2 => ?_⟩
      rcases Nat.lt_or_ge s (t + 1) with h6 | h6
      · exact kk s (by omega)
      · obtain rfl : s = t + 1 := by omega
        exact run_inv hg (by omega) k hs
    refine AW.skip ?_
    refine AW.seq ?_
    refine AW.block ?_
    refine AW.region_draw 1 [0, 1, 2, 3, 4, 5, 6, 7, 8, 9, 10, 11] order_free (by rw [hE]; rfl) (by kernel_rfl) (OI.of_OL (os := [_, _, _, _, _, _, _, _, _, _, _, _]) rfl ?_)
    refine ldPA ag.Online rfl rfl (vs := [_, _, _, _, _, _, _, _, _, _, _, _, _, _, _]) rfl (Nat.le_of_ble_eq_true rfl) ?_
    refine mvD rfl ?_
    refine mvD rfl ?_
    refine ixLn sl.ints 0 rfl rfl (by omega) rfl rfl ?_
    refine ldRC ce.int rfl ?_
    rw [hx.2]
    refine clv rfl (.cons (VLe.refl _) (.cons (VLe.refl _) (.nil))) (on_Push hg k (by omega) (by omega) hx.1) ?_
    refine mvT rfl ?_
    refine ex rfl rfl ?_
    refine ex rfl rfl ?_
    refine ex rfl rfl ?_
    refine sto sz.Online rfl rfl rfl rfl rfl (Nat.le_of_ble_eq_true rfl) (cells2 := [_, _, _, _, _, _, _, _, _, _, _, _, _, _, _]) rfl ?_
    refine asD rfl ?_
    refine OL.nil ?_
    refine AW.region (by rw [hE]; rfl) ?_
    refine mvD rfl ?_
    refine add_i64 rfl rfl (by omega) ?_
    refine asD rfl ?_
    refine OL.nil ?_
    exact AW.again (x := (t, h, (runD h w t).1, 0)) (t + 1, pushH h (runD h w t).1 (symX w t), pushD h (runD h w t).1 (symX w t), pushE h (runD h w t).1 (symX w t)) (by first | omega | (simp only []; omega)) ⟨⟨by omega, hnext⟩, Knows.app (.cons (VLe.refl _) (.cons (VLe.refl _) (.cons (VLe.refl _) (.cons (VLe.refl _) .nil)))) (.cons (by first | exact VLe.refl _ | exact VLe.int (by omega) | exact VLe.mt | exact vle_q0 | exact VLe.osl | exact VLe.ptr) (.cons (by first | exact VLe.refl _ | exact VLe.int (by omega) | exact VLe.mt | exact vle_q0 | exact VLe.osl | exact VLe.ptr) .nil)), Owns.app (.cons rfl .nil) (.cons rfl .nil)⟩
  · have hne : ¬ (t < w.length ∧ e = 0) := of_decide_eq_false he
    refine AW.exit ?_
    refine AW.seq ?_
    refine AW.seq ?_
    refine AW.region (by rw [hE]; rfl) ?_
    refine mvD rfl ?_
    refine c_neq rfl rfl rfl ?_
    refine mvD rfl ?_
    refine OL.split 45 rfl (fun he => ?_) (fun he => ?_)
    · have he := nd_t he
      refine OL.no rfl (by decide) ?_
      refine OL.no rfl (by decide) ?_
      refine OL.no rfl (by decide) ?_
      refine pkT rfl rfl ?_
      refine OL.nil ?_
      refine AW.cond rfl (fun _ => ?_) (fun hno => absurd hno (by decide))
      refine AW.seq ?_
      refine AW.region (by rw [hE]; rfl) ?_
      refine clv rfl .nil law37_known ?_
      refine mvD rfl ?_
      refine OL.yes rfl ?_
      refine mvD rfl ?_
      refine OL.yes rfl ?_
      refine c_eql rfl rfl rfl ?_
      refine OL.yes rfl ?_
      refine mvD rfl ?_
      refine OL.split 54 rfl (fun hz => ?_) (fun hz => ?_)
      · have _hz := hz
        refine OL.no rfl (by decide) ?_
        refine OL.no rfl (by decide) ?_
        refine OL.yes rfl ?_
        refine pkT rfl rfl ?_
        refine pkT rfl rfl ?_
        refine asD rfl ?_
        refine OL.nil ?_
        exact AW.ret (RetQ.r ⟨_, .tmp rfl .nil, .le (by first | exact VLe.refl _ | exact VLe.mt | exact vle_q0 | exact VLe.int (by omega) | exact VLe.bool (by simp_all))⟩)
      · have _hz := hz
        refine OL.yes rfl ?_
        refine mvD rfl ?_
        refine OL.yes rfl ?_
        refine c_eql rfl rfl (c := true) (decide_eq_true (he2.resolve_left (of_decide_eq_false hz))) ?_
        refine OL.yes rfl ?_
        refine pkF rfl rfl ?_
        refine pkT rfl rfl ?_
        refine asD rfl ?_
        refine OL.nil ?_
        exact AW.ret (RetQ.r ⟨_, .tmp rfl .nil, .le (by first | exact VLe.refl _ | exact VLe.mt | exact vle_q0 | exact VLe.int (by omega) | exact VLe.bool (by simp_all))⟩)
    · have he := nd_f he
      obtain ⟨_, rfl, rfl, kk⟩ : e = 0 ∧ h = H ∧ (runD h w t).1 = o ∧ ∀ s, s ≤ t → InvD h w (runD h w s).1 := hph.resolve_right fun k => by rw [he] at k; exact absurd k (by decide)
      refine OL.yes rfl ?_
      refine mvD rfl ?_
      refine OL.yes rfl ?_
      refine lnL sl.ints rfl rfl ?_
      refine OL.yes rfl ?_
      refine c_eql rfl rfl rfl ?_
      refine pkF rfl rfl ?_
      refine OL.nil ?_
      refine AW.cond rfl (fun hw0 => ?_) (fun hw0 => ?_)
      · have _hw := hw0
        refine AW.seq ?_
        refine AW.region (by rw [hE]; rfl) ?_
        refine clv rfl .nil law37_known ?_
        refine mvD rfl ?_
        refine OL.yes rfl ?_
        refine mvD rfl ?_
        refine OL.yes rfl ?_
        refine c_eql rfl rfl rfl ?_
        refine OL.yes rfl ?_
        refine mvD rfl ?_
        refine OL.split 54 rfl (fun hz => ?_) (fun hz => ?_)
        · have _hz := hz
          refine OL.no rfl (by decide) ?_
          refine OL.no rfl (by decide) ?_
          refine OL.yes rfl ?_
          refine pkT rfl rfl ?_
          refine pkT rfl rfl ?_
          refine asD rfl ?_
          refine OL.nil ?_
          exact AW.ret (RetQ.r ⟨_, .tmp rfl .nil, .le (by first | exact VLe.refl _ | exact VLe.mt | exact vle_q0 | exact VLe.int (by omega) | exact VLe.bool (by simp_all))⟩)
        · have _hz := hz
          refine OL.yes rfl ?_
          refine mvD rfl ?_
          refine OL.yes rfl ?_
          refine c_eql rfl rfl (c := true) (decide_eq_true (he2.resolve_left (of_decide_eq_false hz))) ?_
          refine OL.yes rfl ?_
          refine pkF rfl rfl ?_
          refine pkT rfl rfl ?_
          refine asD rfl ?_
          refine OL.nil ?_
          exact AW.ret (RetQ.r ⟨_, .tmp rfl .nil, .le (by first | exact VLe.refl _ | exact VLe.mt | exact vle_q0 | exact VLe.int (by omega) | exact VLe.bool (by simp_all))⟩)
      · have hw0 : w.length ≠ 0 := fun e => of_decide_eq_false hw0 (by omega)
        obtain rfl : t = w.length := by have : ¬ t < w.length := fun k => hne ⟨k, he⟩; omega
        have k := kk w.length (Nat.le_refl _)
        have kl := k.len (by rw [run_t]; exact hw0)
        have kh := k.heads (by rw [run_t]; exact hw0)
        have kz := k.small
        rw [run_t] at kz
        have htl := tails_len k (by omega)
        have hdl := done_len k (by omega)
        have hwr := way_run hg w.length (Nat.le_refl _) kk hw0
        refine AW.skip ?_
        refine AW.seq ?_
        refine AW.regionS (by rw [hE]; rfl) ?_
        refine SL.ofOL (ldPA ag.Hidden rfl rfl (vs := cellsHM h) rfl (Nat.le_of_ble_eq_true rfl) (OL.nil ?_))
        refine SL.ofOL (mvD rfl (OL.nil ?_))
        refine SL.ofSO rfl (SO.callN (args2 := [vHM h, .d (ints w), .d nilD, .d (dI 1)]) (res := .d (colW h w w.length)) (show 61 < E.n by rw [hE]; exact Nat.le_of_ble_eq_true rfl) rfl (fun F a hev => simVs_cons (sim_of (hev (.tmp 59)) rfl) (simVs_cons (sim_of (hev (.tmp 60)) rfl) (simVs_cons (.d (.sc rfl) rfl) (simVs_cons (.d (.sc rfl) rfl) simVs_nil)))) (ref35_Ways hg kw hw0) ?_)
        refine SL.ofOL (asD rfl (OL.nil ?_))
        refine SL.nil ?_
        refine AW.seq ?_
        refine AW.seq ?_
        refine AW.region (by rw [hE]; rfl) ?_
        refine faP fd.Online_2 rfl rfl ?_
        refine ldPC ce.Rats rfl rfl rfl ?_
        refine lnL sl.Rats rfl rfl ?_
        refine faP fd.Hidden_1 rfl rfl ?_
        refine ldPC ce.int rfl rfl rfl ?_
        refine c_neq rfl rfl (c := false) (cne_f (by omega)) ?_
        refine mvD rfl ?_
        refine OL.yes rfl ?_
        refine faP fd.Online_3 rfl rfl ?_
        refine OL.yes rfl ?_
        refine ldPC ce.intss rfl rfl rfl ?_
        refine OL.yes rfl ?_
        refine lnL sl.intss rfl rfl ?_
        refine OL.yes rfl ?_
        refine faP fd.Hidden_1 rfl rfl ?_
        refine OL.yes rfl ?_
        refine ldPC ce.int rfl rfl rfl ?_
        refine OL.yes rfl ?_
        refine c_neq rfl rfl (c := false) (cne_f (by omega)) ?_
        refine pkF rfl rfl ?_
        refine OL.nil ?_
        refine AW.cond rfl (fun hno => absurd hno (by decide)) (fun _ => ?_)
        refine AW.skip ?_
        refine AW.seq ?_
        refine AW.seq ?_
        refine AW.region (by rw [hE]; rfl) ?_
        refine asD rfl ?_
        refine OL.nil ?_
        refine AW.block ?_
        refine AW.whileK (α := Nat) [(5, _), (7, _), (10, _)] [(5, _), (7, _)] (fun i => [(11, .d (dI i))]) (fun i => []) (fun i => i ≤ h.st) (fun i => h.st - i) 0 (by repeat (first | exact Knows.nil | refine Knows.cons (by first | exact knD rfl | exact knA rfl | exact knP rfl | exact knO rfl | exact knM rfl | exact knE rfl | exact knR rfl | exact knF rfl | exact knT rfl | exact knJ) ?_)) (by repeat (first | exact Owns.nil | refine Owns.cons (by first | exact owB rfl | exact owR rfl | exact owL rfl | exact owT rfl) ?_)) ⟨Nat.zero_le _, .cons (by first | exact VLe.refl _ | exact VLe.int (by omega) | exact VLe.mt | exact vle_q0 | exact VLe.osl | exact VLe.ptr) .nil, .nil⟩ ?_
        intro i h2
        have h2 : i ≤ h.st := h2
        refine AW.seq ?_
        refine AW.seq ?_
        refine AW.region (by rw [hE]; rfl) ?_
        refine mvD rfl ?_
        refine faP fd.Hidden_1 rfl rfl ?_
        refine ldPC ce.int rfl rfl rfl ?_
        refine c_lss rfl rfl rfl ?_
        refine OL.nil ?_
        refine AW.cond rfl (fun h79 => ?_) (fun h79 => ?_)
        · first | (simp only [decide_eq_true_eq, decide_eq_false_iff_not, Bool.not_eq_true', Bool.not_eq_false', Bool.not_not, Bool.and_eq_true, Bool.and_eq_false_iff, Bool.or_eq_true, Bool.or_eq_false_iff] at h79) | skip
          refine AW.skip ?_
          have hi : i < h.st := by omega
          refine AW.midK (α := Unit) [(5, _), (7, _), (10, _)] [(5, _), (7, _)] (fun _u => [(11, .d (dI i))]) (fun _u => []) (fun _u => True) (by repeat (first | exact Knows.nil | refine Knows.cons (by first | exact knD rfl | exact knA rfl | exact knP rfl | exact knO rfl | exact knM rfl | exact knE rfl | exact knR rfl | exact knF rfl | exact knT rfl | exact knJ) ?_)) (by repeat (first | exact Owns.nil | refine Owns.cons (by first | exact owB rfl | exact owR rfl | exact owL rfl | exact owT rfl) ?_)) ?_ ?_
          · refine AW.block ?_
            refine AW.seq ?_
            refine AW.seq ?_
            have hi : i < h.st := by omega
            have hwi := hwr i hi
            have zs := kz.get (by omega) i
            refine AW.region (by rw [hE]; rfl) ?_
            refine mvD rfl ?_
            refine mvD rfl ?_
            refine ixDn sl.Wayss rfl rfl (el := dWl (wayF h w w.length i)) (col_el hi) rfl rfl ?_
            refine ldRC ce.Ways rfl ?_
            refine lnD sl.Ways rfl rfl (n := if 0 < (wayF h w w.length i).1 then 1 else 0) (by split <;> rfl) ?_
            refine c_eql rfl rfl rfl ?_
            refine OL.nil ?_
            refine AW.cond rfl (fun hl => ?_) (fun hl => ?_)
            · have hv : ¬ 0 < (runD h w w.length).1.sc.getD i 0 := fun k2 => by
                have e1 := of_decide_eq_true hl
                rw [hwi, if_pos (show 0 < (wayD (runD h w w.length).1 i).1 from k2)] at e1
                exact absurd e1 (by decide)
              have hz0 : (runD h w w.length).1.sc.getD i 0 = 0 := Rat.le_antisymm (Rat.not_lt.1 hv) (kh.nonneg i hi)
              have hd0 := k.dead i hv
              refine AW.seq ?_
              refine AW.seq ?_
              refine AW.region (by rw [hE]; rfl) ?_
              refine faP fd.Online_2 rfl rfl ?_
              refine ldPC ce.Rats rfl rfl rfl ?_
              refine mvD rfl ?_
              refine ixLn sl.Rats 0 rfl rfl (by omega) rfl rfl ?_
              refine ldRA ag.Rat rfl (vs := [_, _, _]) rfl (Nat.le_of_ble_eq_true rfl) ?_
              refine clv rfl (.cons (VLe.refl _) (.nil)) (ref_SignQ (x := (runD h w w.length).1.sc.getD i 0) (by omega)) ?_
              refine c_neq rfl rfl (c := false) (cne_f (by rw [hz0]; exact sgnQ_eq.2 rfl)) ?_
              refine mvD rfl ?_
              refine OL.yes rfl ?_
              refine faP fd.Online_3 rfl rfl ?_
              refine OL.yes rfl ?_
              refine ldPC ce.intss rfl rfl rfl ?_
              refine OL.yes rfl ?_
              refine mvD rfl ?_
              refine OL.yes rfl ?_
              refine ixLn sl.intss [] rfl rfl (by omega) rfl rfl ?_
              refine OL.yes rfl ?_
              refine ldRC ce.ints rfl ?_
              refine OL.yes rfl ?_
              refine lnL sl.ints rfl rfl ?_
              refine OL.yes rfl ?_
              refine c_neq rfl rfl (c := false) (cne_f (by rw [hd0]; rfl)) ?_
              refine pkF rfl rfl ?_
              refine OL.nil ?_
              refine AW.cond rfl (fun hno => absurd hno (by decide)) (fun _ => ?_)
              refine AW.skip ?_
              refine AW.exit ?_
              exact AW.reach () ⟨trivial, Knows.app (.cons (VLe.refl _) (.cons (VLe.refl _) (.cons (VLe.refl _) .nil))) (.cons (by first | exact VLe.refl _ | exact VLe.int (by omega) | exact VLe.mt | exact vle_q0 | exact VLe.osl | exact VLe.ptr) .nil), Owns.app (.cons rfl (.cons rfl .nil)) (.nil)⟩
            · have hv : 0 < (runD h w w.length).1.sc.getD i 0 := Decidable.byContradiction fun k2 => by
                have e1 := of_decide_eq_false hl
                rw [hwi, if_neg (show ¬ 0 < (wayD (runD h w w.length).1 i).1 from k2)] at e1
                exact e1 rfl
              have hwd : (wayF h w w.length i) = ((runD h w w.length).1.sc.getD i 0, (runD h w w.length).1.dn ++ (runD h w w.length).1.tl.getD i []) := by rw [hwi, wayD, if_pos hv]
              have hpl := wayF_len hg w w.length i (by rw [hwd]; exact hv)
              rw [hwd] at hpl
              simp only at hpl
              refine AW.skip ?_
              refine AW.seq ?_
              refine AW.region_draw 2 [0, 1, 2, 3, 4, 5, 6, 7, 8, 9, 10, 11, 12, 13, 14, 15, 16, 17, 19, 20, 21, 22, 23, 25, 26, 27, 28, 29, 30, 31, 18, 24, 32, 33, 34] order_free (by rw [hE]; rfl) (by kernel_rfl) (OI.of_OL (os := [_, _, _, _, _, _, _, _, _, _, _, _, _, _, _, _, _, _, _, _, _, _, _, _, _, _, _, _, _, _, _, _, _, _, _]) rfl ?_)
              refine mvD rfl ?_
              refine mvD rfl ?_
              refine ixDn sl.Wayss rfl rfl (el := dWl (wayF h w w.length i)) (col_el hi) rfl rfl ?_
              refine ldRC ce.Ways rfl ?_
              refine ixDn (n := 0) sl.Ways rfl rfl (el := dWay (wayF h w w.length i)) (by rw [if_pos (show 0 < (wayF h w w.length i).1 by rw [hwd]; exact hv)]; rfl) rfl rfl ?_
              refine faR fd.Way_1 rfl rfl ?_
              refine ldRA ag.Rat rfl (vs := cellsQ (wayF h w w.length i).1) rfl (Nat.le_of_ble_eq_true rfl) ?_
              refine faP fd.Online_2 rfl rfl ?_
              refine ldPC ce.Rats rfl rfl rfl ?_
              refine mvD rfl ?_
              refine ixLn sl.Rats 0 rfl rfl (by omega) rfl rfl ?_
              refine ldRA ag.Rat rfl (vs := [_, _, _]) rfl (Nat.le_of_ble_eq_true rfl) ?_
              refine clv rfl (.cons (VLe.refl _) (.cons (VLe.refl _) (.nil))) (ref_CompareQ (x := (wayF h w w.length i).1) (y := (runD h w w.length).1.sc.getD i 0) (by rw [hwd]; simp only; omega) (by omega)) ?_
              refine c_neq rfl rfl (c := false) (cne_f (by rw [hwd]; exact cmpQ_eq.2 rfl)) ?_
              refine mvD rfl ?_
              refine OL.yes rfl ?_
              refine lt0 sl.ints ?_
              refine OL.yes rfl ?_
              refine faP fd.Online_4 rfl rfl ?_
              refine OL.yes rfl ?_
              refine ldPC ce.ints rfl rfl rfl ?_
              refine OL.yes rfl ?_
              refine faP fd.Online_3 rfl rfl ?_
              refine OL.yes rfl ?_
              refine ldPC ce.intss rfl rfl rfl ?_
              refine OL.yes rfl ?_
              refine mvD rfl ?_
              refine OL.yes rfl ?_
              refine ixLn sl.intss [] rfl rfl (by omega) rfl rfl ?_
              refine OL.yes rfl ?_
              refine ldRC ce.ints rfl ?_
              refine OL.yes rfl ?_
              refine mvD rfl ?_
              refine OL.yes rfl ?_
              refine mvD rfl ?_
              refine OL.yes rfl ?_
              refine ixDn sl.Wayss rfl rfl (el := dWl (wayF h w w.length i)) (col_el hi) rfl rfl ?_
              refine OL.yes rfl ?_
              refine ldRC ce.Ways rfl ?_
              refine OL.yes rfl ?_
              refine ixDn (n := 0) sl.Ways rfl rfl (el := dWay (wayF h w w.length i)) (by rw [if_pos (show 0 < (wayF h w w.length i).1 by rw [hwd]; exact hv)]; rfl) rfl rfl ?_
              refine OL.yes rfl ?_
              refine faR fd.Way_0 rfl rfl ?_
              refine OL.yes rfl ?_
              refine ldRC ce.ints rfl ?_
              refine OL.yes rfl ?_
              refine apM sl.ints rfl rfl (VC.d _) dI_len (by rw [List.length_map]; omega) (by rw [List.length_map]; omega) rfl fun b122 c122 => ?_
              refine OL.yes rfl ?_
              refine apOD sl.ints rfl rfl rfl rfl (VC.d _) dI_len (by have := htl i; simp only [List.length_map]; omega) (by have := htl i; simp only [List.length_map]; omega) (.inl rfl) (ys := ((runD h w w.length).1.dn ++ (runD h w w.length).1.tl.getD i []).map dI) (by rw [List.map_append]) ?_
              refine OL.yes rfl ?_
              refine clv rfl (.cons (VLe.refl _) (.cons (vle_of_eq (show V.d (ints (wayF h w w.length i).2) = V.d (ints ((runD h w w.length).1.dn ++ (runD h w w.length).1.tl.getD i [])) by rw [hwd])) .nil)) (law37_same (l := (runD h w w.length).1.dn ++ (runD h w w.length).1.tl.getD i []) (m := (runD h w w.length).1.dn ++ (runD h w w.length).1.tl.getD i []) (by omega)) ?_
              rw [decide_eq_true rfl]
              refine OL.yes rfl ?_
              refine nt rfl ?_
              refine pkF rfl rfl ?_
              refine OL.nil ?_
              refine AW.cond rfl (fun hno => absurd hno (by decide)) (fun _ => ?_)
              refine AW.skip ?_
              exact AW.reach () ⟨trivial, Knows.app (.cons (VLe.refl _) (.cons (VLe.refl _) (.cons (VLe.refl _) .nil))) (.cons (by first | exact VLe.refl _ | exact VLe.int (by omega) | exact VLe.mt | exact vle_q0 | exact VLe.osl | exact VLe.ptr) .nil), Owns.app (.cons rfl (.cons rfl .nil)) (.nil)⟩
          rintro ⟨⟩ hφ
          refine AW.region (by rw [hE]; rfl) ?_
          refine mvD rfl ?_
          refine add_i64 rfl rfl (by omega) ?_
          refine asD rfl ?_
          refine OL.nil ?_
          exact AW.again (x := i) (i + 1) (by first | omega | (simp only []; omega)) ⟨by omega, Knows.app (.cons (VLe.refl _) (.cons (VLe.refl _) (.cons (VLe.refl _) .nil))) (.cons (by first | exact VLe.refl _ | exact VLe.int (by omega) | exact VLe.mt | exact vle_q0 | exact VLe.osl | exact VLe.ptr) .nil), Owns.app (.cons rfl (.cons rfl .nil)) (.nil)⟩
        · first | (simp only [decide_eq_true_eq, decide_eq_false_iff_not, Bool.not_eq_true', Bool.not_eq_false', Bool.not_not, Bool.and_eq_true, Bool.and_eq_false_iff, Bool.or_eq_true, Bool.or_eq_false_iff] at h79) | skip
          refine AW.exit ?_
          refine AW.seq ?_
          refine AW.region (by rw [hE]; rfl) ?_
          refine clv rfl .nil law37_known ?_
          refine asD rfl ?_
          refine OL.nil ?_
          exact AW.ret (RetQ.r ⟨_, .tmp rfl .nil, .le (by first | exact VLe.refl _ | exact VLe.mt | exact vle_q0 | exact VLe.int (by omega) | exact VLe.bool (by simp_all))⟩)
end Go.Proofs.YtcebciggodhmcaaGreat

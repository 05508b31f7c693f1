/-
  Walks of package hmm: one stay is taken (printed by mk2.py).
-/
import Derived.Test.YtippcclgnabpdaaGreatDoorKHxA
set_option linter.unusedVariables false
set_option linter.unusedSimpArgs false
namespace Go.Proofs.YtippcclgnabpdaaGreatDoor
open Go Go.AL
abbrev dStays (l : List (Nat × List Rat)) : D := .sl (l.map fun p => dStay p.1 p.2)
theorem indexStay0 {f : Nat} {cs : List V} : FSpec P F.slices_IndexFunc_Stay_Stay [.d (.sl []), .fn f cs] (.d (dI (-1))) := by
 refine FSpec.intro fn.slices_IndexFunc_Stay_Stay (by rfl) (by rfl) (nb9 (by rfl)) fun E hE => (AW.sg hE rfl (asD rfl (OL.nil (AW.seq (AW.sg hE rfl (mvD rfl (lnD sl.Stays rfl rfl rfl ?_)))))))
 refine mvD rfl (OL.nil (AW.block (AW.whileK (α := Unit) [(0, _), (1, _), (7, _)] [] (fun _u => [(8, .d (dI 0))]) (fun _u => []) (fun _u => True) (fun _u => 0) () (.cons (knD rfl) (.cons (knF rfl) (.cons (knD rfl) .nil))) .nil ⟨trivial, .rq1, .nil⟩ ?_)))
 rintro ⟨⟩ -
 refine AW.sg hE rfl (c_lss rfl rfl rfl (OL.nil (AW.seq (AW.cond rfl (fun hno => absurd hno (by simp)) (fun _ => ?_)))))
 exact AW.exit (AW.sg hE rfl (asD rfl (OL.nil (AW.ret (RetQ.r ⟨_, .tmp rfl .nil, .le (VLe.refl _)⟩)))))
theorem containsStay0 {f : Nat} {cs : List V} : FSpec P F.slices_ContainsFunc_Stay_Stay [.d (.sl []), .fn f cs] (.d (dB false)) := by
 refine FSpec.intro fn.slices_ContainsFunc_Stay_Stay (by rfl) (by rfl) (nb9 (by rfl)) fun E hE => (AW.sg hE rfl (asD rfl (OL.nil (AW.sg hE rfl (mvD rfl (mvF rfl (clv rfl (.cons (VLe.refl _) (.cons (VLe.refl _) (.nil))) (indexStay0) ?_)))))))
 exact c_geq rfl rfl (c := false) rfl (asD rfl (OL.nil (AW.ret (RetQ.r ⟨_, .tmp rfl .nil, .le (VLe.refl _)⟩))))
set_option maxRecDepth 8000 in
set_option maxHeartbeats 3200000 in
theorem refuse1 {h : HM} {b B : Nat} (g : HM.GoodX b B h) {s : Nat} {d : List Rat} (hs : s < h.st) (d1 : 1 ≤ d.length ∧ d.length ≤ 6) (hd : Shares d) (hz : Small 1 d) (hsum : sumQ d = 1) (hn : h.st - 1 + d.length ≤ 12) : FSpec P F.hmm_refuse [vHM h, .d (dStays [(s, d)])] (.d (dI 0)) := by
 have f := g.form
 have e6 : h.silent.length = h.st := by rw [f.silent, List.length_replicate]
 have hsil : h.silent.getD s false = false := by rw [f.silent, List.getD_eq_getElem?_getD, List.getElem?_replicate]; split <;> rfl
 have n1 := f.st1
 have hl1 : ([(s, d)] : List (Nat × List Rat)).length = 1 := rfl
 refine FSpec.intro fn.hmm_refuse (by rfl) (by rfl) (nb9 (by rfl)) fun E hE => (AW.sg hE rfl (bxA rfl rfl fun b2 => (asD rfl (OL.nil (AW.seq (AW.sg hE rfl (mvD rfl ?_)))))))
 refine lnL sl.Stays rfl rfl (mvD rfl (OL.nil (AW.block ?_)))
 refine AW.whileK (α := Nat) [(1, _), (2, _), (14, _), (15, _)] [(2, _)] (fun k => [(16, .d (dI k))]) (fun k => []) (fun k => k ≤ 1) (fun k => 1 - k) 0 (.cons (knD rfl) (.cons (knP rfl) (.cons (knD rfl) (.cons (knD rfl) .nil)))) (.cons (owB rfl) .nil) ⟨Nat.zero_le _, .rq1, .nil⟩ ?_
 intro k h1
 have h1 : k ≤ 1 := h1
 refine AW.sg hE rfl (c_lss rfl rfl rfl (OL.nil (AW.seq (AW.cond rfl (fun h17 => ?_) (fun h17 => ?_)))))
 ·try simp only [dx9] at h17
  refine AW.skip (AW.seq (AW.block (AW.seq ?_)))
  obtain rfl : k = 0 := by have := h17; simp at this; omega
  refine AW.rg hE rfl (ixLe 0 sl.Stays ((0, []) : Nat × List Rat) (cs := [dI (s : Int), dQs d]) rfl rfl rfl (Nat.le_refl 1) rfl rfl (ldRA ag.Stay rfl (vs := [_,_]) rfl (nb9 rfl) (al z.Stay rfl fun b6 => (sto sz.Stay rfl rfl rfl rfl rfl (nb9 rfl) (cells2 := [_,_]) rfl (OL.nil (AW.sg hE rfl (faP fd.Stay_0 rfl rfl ?_)))))))
  refine ldPC ce.int rfl rfl rfl (c_lss rfl rfl (c := false) (by exact decide_eq_false (by omega)) (mvD rfl (OL.yes rfl (faP fd.Stay_0 rfl rfl (OL.yes rfl (ldPC ce.int rfl rfl rfl (OL.yes rfl ?_)))))))
  refine faP fd.Hidden_1 rfl rfl (OL.yes rfl (ldPC ce.int rfl rfl rfl (OL.yes rfl (c_geq rfl rfl (c := false) (by exact decide_eq_false (by omega)) (pkF rfl rfl (mvD rfl (OL.yes rfl ?_)))))))
  refine faP fd.Hidden_7 rfl rfl (OL.yes rfl (ldPC ce.bools rfl rfl rfl (OL.yes rfl (faP fd.Stay_0 rfl rfl (OL.yes rfl (ldPC ce.int rfl rfl rfl (OL.yes rfl ?_)))))))
  refine ixLn sl.bools false rfl rfl (by omega) rfl rfl (OL.yes rfl (ldRC ce.bool rfl ?_))
  rw [hsil]
  refine pkF rfl rfl (OL.nil (AW.cond rfl (fun hno => absurd hno (by decide)) (fun _ => ?_)))
  exact AW.skip (AW.rg hE rfl (add_i64 rfl rfl (by omega) (mvD rfl (OL.nil (AW.again (x := 0) 1 (by omega) ⟨by omega, Knows.app .rq4 .rq1, Owns.app (.cons rfl .nil) (.nil)⟩)))))
 ·try simp only [dx9] at h17
  refine AW.exit (AW.seq (AW.sg hE rfl (mvD rfl (lnL sl.Stays rfl rfl (mvD rfl (OL.nil (AW.block ?_)))))))
  refine AW.whileK (α := Nat) [(1, _), (2, _), (39, _), (40, _)] [(2, _)] (fun k => [(41, .d (dI k))]) (fun k => []) (fun k => k ≤ 1) (fun k => 1 - k) 0 (.cons (knD rfl) (.cons (knP rfl) (.cons (knD rfl) (.cons (knD rfl) .nil)))) (.cons (owB rfl) .nil) ⟨Nat.zero_le _, .rq1, .nil⟩ ?_
  intro k h1
  have h1 : k ≤ 1 := h1
  refine AW.sg hE rfl (c_lss rfl rfl rfl (OL.nil (AW.seq (AW.cond rfl (fun h42 => ?_) (fun h42 => ?_)))))
  ·try simp only [dx9] at h42
   refine AW.skip (AW.seq (AW.block (AW.seq ?_)))
   obtain rfl : k = 0 := by have := h42; simp at this; omega
   refine AW.rg hE rfl (mvD rfl (ixLe 0 sl.Stays ((0, []) : Nat × List Rat) (cs := [dI (s : Int), dQs d]) rfl rfl rfl (Nat.le_refl 1) rfl rfl (ldRA ag.Stay rfl (vs := [_,_]) rfl (nb9 rfl) (al z.Stay rfl fun b8 => (asD rfl (sto sz.Stay rfl rfl rfl rfl rfl (nb9 rfl) (cells2 := [_,_]) rfl (OL.nil ?_)))))))
   refine AW.sg hE rfl (mvD rfl (mvD rfl (slTo sl.Stays rfl rfl (fun _ => rfl) ⟨Int.le_refl 0, Int.natCast_nonneg _⟩ (l2 := []) rfl (mkF (vs := [_]) rfl (clv rfl (.cons (VLe.refl _) (.cons (VLe.refl _) (.nil))) (containsStay0) (OL.nil (AW.cond rfl (fun hno => absurd hno (by decide)) (fun _ => ?_))))))))
   exact AW.skip (AW.rg hE rfl (add_i64 rfl rfl (by omega) (mvD rfl (OL.nil (AW.again (x := 0) 1 (by omega) ⟨by omega, Knows.app .rq4 .rq1, Owns.app (.cons rfl .nil) (.nil)⟩)))))
  ·try simp only [dx9] at h42
   refine AW.exit (AW.sg hE rfl (faP fd.Hidden_1 rfl rfl (ldPC ce.int rfl rfl rfl (asD rfl (OL.nil (AW.seq (AW.sg hE rfl ?_)))))))
   refine mvD rfl (lnL sl.Stays rfl rfl (mvD rfl (OL.nil (AW.block ?_))))
   refine AW.whileK (α := Nat) [(1, _), (54, _), (55, _)] [] (fun k => [(9, .d (dI (h.st + k * (d.length - 1) : Nat))), (56, .d (dI k))]) (fun k => []) (fun k => k ≤ 1) (fun k => 1 - k) 0 (.cons (knD rfl) (.cons (knD rfl) (.cons (knD rfl) .nil))) .nil ⟨Nat.zero_le _, .cons (VLe.int (by omega)) .rq1, .nil⟩ ?_
   intro k h1
   have h1 : k ≤ 1 := h1
   refine AW.sg hE rfl (c_lss rfl rfl rfl (OL.nil (AW.seq (AW.cond rfl (fun h57 => ?_) (fun h57 => ?_)))))
   ·try simp only [dx9] at h57
    refine AW.skip (AW.seq (AW.block (AW.seq ?_)))
    obtain rfl : k = 0 := by have := h57; simp at this; omega
    refine AW.rg hE rfl (ixLe 0 sl.Stays ((0, []) : Nat × List Rat) (cs := [dI (s : Int), dQs d]) rfl rfl rfl (Nat.le_refl 1) rfl rfl (ldRA ag.Stay rfl (vs := [_,_]) rfl (nb9 rfl) (al z.Stay rfl fun b11 => (sto sz.Stay rfl rfl rfl rfl rfl (nb9 rfl) (cells2 := [_,_]) rfl (OL.nil (AW.seq (AW.sg hE rfl ?_)))))))
    refine faP fd.Stay_1 rfl rfl (ldPC ce.Rats rfl rfl rfl (lnL sl.Rats rfl rfl (c_lss rfl rfl (c := false) (by exact decide_eq_false (by omega)) (mvD rfl (OL.yes rfl (faP fd.Stay_1 rfl rfl (OL.yes rfl ?_)))))))
    refine ldPC ce.Rats rfl rfl rfl (OL.yes rfl (lnL sl.Rats rfl rfl (OL.yes rfl (c_gtr rfl rfl (c := false) (by exact decide_eq_false (by omega)) (pkF rfl rfl (mvD rfl (OL.yes rfl ?_)))))))
    refine faP fd.Stay_1 rfl rfl (OL.yes rfl (ldPC ce.Rats rfl rfl rfl (OL.yes rfl (clv rfl (.cons (VLe.refl _) (.nil)) (hmm_shares_ok hd hz ⟨by decide, by omega⟩) (OL.yes rfl (nt rfl (pkF rfl rfl ?_)))))))
    refine OL.nil (AW.cond rfl (fun hno => absurd hno (by decide)) (fun _ => ?_))
    refine AW.skip (AW.rg hE rfl (mvD rfl (faP fd.Stay_1 rfl rfl (ldPC ce.Rats rfl rfl rfl (lnL sl.Rats rfl rfl (bo rfl rfl (bin_sub (c := ((d.length - 1 : Nat) : Int)) (by omega) (wrap_i64 (by omega))) (bo rfl rfl (bin_add (c := ((h.st + (d.length - 1) : Nat) : Int)) (by simp) (wrap_i64 (by omega))) ?_)))))))
    exact asD rfl (OL.nil (AW.rg hE rfl (add_i64 rfl rfl (by omega) (mvD rfl (OL.nil (AW.again (x := 0) 1 (by omega) ⟨by omega, Knows.app .rq3 (.cons (VLe.int (by omega)) .rq1), .nil⟩))))))
   ·try simp only [dx9] at h57
    refine AW.exit (AW.seq (AW.seq ?_))
    obtain rfl : k = 1 := by omega
    refine AW.rg hE rfl (mvD rfl (lnL sl.Stays rfl rfl (mvD rfl (OL.nil (AW.block (AW.whileK (α := Nat) [(9, _), (83, _), (84, _)] [] (fun k => [(85, .d (dI k))]) (fun k => []) (fun k => k ≤ 1) (fun k => 1 - k) 0 (.cons (knD rfl) (.cons (knD rfl) (.cons (knD rfl) .nil))) .nil ⟨Nat.zero_le _, .rq1, .nil⟩ ?_))))))
    intro k h1
    have h1 : k ≤ 1 := h1
    refine AW.sg hE rfl (c_lss rfl rfl rfl (OL.nil (AW.seq (AW.cond rfl (fun h86 => ?_) (fun h86 => ?_)))))
    ·try simp only [dx9] at h86
     refine AW.skip (AW.seq (AW.block (AW.seq ?_)))
     obtain rfl : k = 0 := by have := h86; simp at this; omega
     refine AW.rg hE rfl (ixLe 0 sl.Stays ((0, []) : Nat × List Rat) (cs := [dI (s : Int), dQs d]) rfl rfl rfl (Nat.le_refl 1) rfl rfl (ldRA ag.Stay rfl (vs := [_,_]) rfl (nb9 rfl) (al z.Stay rfl fun b13 => (sto sz.Stay rfl rfl rfl rfl rfl (nb9 rfl) (cells2 := [_,_]) rfl (OL.nil (AW.sg hE rfl (faP fd.Stay_1 rfl rfl ?_)))))))
     refine ldPC ce.Rats rfl rfl rfl (clv rfl (.cons (VLe.refl _) (.cons VLe.mt .nil)) (hmm_whole (B := 1) (l := d) (m := []) hz Small.nil ⟨by decide, by simp only [List.length_nil]; omega⟩) ?_)
     rw [show decide (sumQ (d ++ []) = 1) = true by rw [List.append_nil]; exact decide_eq_true hsum]
     refine nt rfl (OL.nil (AW.cond rfl (fun hno => absurd hno (by decide)) (fun _ => ?_)))
     exact AW.skip (AW.rg hE rfl (add_i64 rfl rfl (by omega) (mvD rfl (OL.nil (AW.again (x := 0) 1 (by omega) ⟨by omega, Knows.app .rq3 .rq1, .nil⟩)))))
    ·try simp only [dx9] at h86
     refine AW.exit (AW.seq (AW.seq ?_))
     obtain rfl : k = 1 := by omega
     refine AW.rg hE rfl (mvD rfl (c_gtr rfl rfl (c := false) (decide_eq_false (by simp; omega)) (OL.nil (AW.cond rfl (fun hno => absurd hno (by decide)) (fun _ => ?_)))))
     exact AW.skip (AW.sg hE rfl (asD rfl (OL.nil (AW.ret (RetQ.r ⟨_, .tmp rfl .nil, .le (VLe.refl _)⟩)))))
end Go.Proofs.YtippcclgnabpdaaGreatDoor

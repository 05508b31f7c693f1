/-
  M, chapter 35: best paths among permitted states.
-/
import Derived.Test.YtonndaibggjmjaaGreatKFresh
import Derived.Test.YtonndaibggjmjaaGreatKMod40d
set_option linter.unusedVariables false
set_option linter.unusedSimpArgs false
namespace Go.Proofs.YtonndaibggjmjaaGreat
open Go Go.AL
theorem viterbi_refuse {h : HM} {B : Nat} {w : List Int} (g : h.Good B) (k : WordOK h w) : FSpec P F.viterbi_refuse [vHM h, .d (ints w)] (.d (dI 0)) := by
 have s0 := g.form.sym0
 have s1 := g.form.sym1
 refine FSpec.intro fn.viterbi_refuse (by rfl) (by rfl) (nb9 (by rfl)) fun E hE => (AW.sg hE rfl (bxA rfl rfl fun b2 => (asD rfl (OL.nil (AW.seq (AW.sg hE rfl (ldPA ag.Hidden rfl rfl (vs := [_,_,_,_,_,_,_,_,_,_,_]) rfl (nb9 rfl) ?_)))))))
 refine clv rfl .rq1 (hmm_Valid_ok (by assumption)) (asD rfl (OL.nil (AW.sg hE rfl (mvD rfl (c_neq rfl rfl (c := false) (by exact cne_f (by omega)) (OL.nil (AW.cond rfl (fun hno => absurd hno (by decide)) (fun _ => ?_))))))))
 refine AW.skip (AW.seq (AW.sg hE rfl (ldPA ag.Hidden rfl rfl (vs := [_,_,_,_,_,_,_,_,_,_,_]) rfl (nb9 rfl) (clv rfl .rq1 (hmm_Plain_ok (by assumption)) (nt rfl (OL.nil (AW.cond rfl (fun hno => absurd hno (by decide)) (fun _ => ?_))))))))
 refine AW.skip (AW.seq (AW.sg hE rfl (mvD rfl (faP fd.Hidden_0 rfl rfl (ldPC ce.int rfl rfl rfl (clv rfl .rq2 (words_Valid k ⟨s0, s1⟩) (nt rfl ?_)))))))
 refine OL.nil (AW.cond rfl (fun hno => absurd hno (by decide)) (fun _ => ?_))
 exact AW.skip (AW.sg hE rfl (asD rfl (OL.nil (AW.ret (RetQ.r ⟨_, .tmp rfl .nil, .le (VLe.refl _)⟩)))))
theorem viterbi_enter {h : HM} {B i x : Nat} {fr : Int} (f : h.Form B) (hf : -1 ≤ fr ∧ fr < h.st) (hi : i < h.st) (hx : x < h.sym) : FSpec P F.viterbi_enter [vHM h, .d (dI fr), .d (dI i), .d (dI (x + 1 : Nat))] (vQ (entQ h fr i x)) := by
 have e1 := f.ini
 have e2 := f.trans
 have e4 := f.emit
 have er := f.erow i hi
 have s1 := f.sym1
 have n1 := f.st1
 have hv := viaQ_sz f fr x (rest := []) Small.nil (C := 1) (by decide) i
 refine FSpec.intro fn.viterbi_enter (by rfl) (by rfl) (nb9 (by rfl)) fun E hE => (AW.sg hE rfl (bxA rfl rfl fun b4 => (al z.Rat rfl fun b8 => (OL.nil (AW.sg hE rfl (faP fd.Hidden_3 rfl rfl (ldPC ce.Rats rfl rfl rfl ?_)))))))
 refine mvD rfl (ixLn sl.Rats 0 rfl rfl (by omega) rfl rfl (ldRA ag.Rat rfl (vs := [_,_,_]) rfl (nb9 rfl) (al z.Rat rfl fun b9 => (sto sz.Rat rfl rfl rfl rfl rfl (nb9 rfl) (cells2 := [_,_,_]) rfl (OL.nil ?_)))))
 refine AW.midK (α := Unit) [(2, _), (3, _), (4, _), (8, _), (9, _)] [(4, _), (8, _)] (fun _u => []) (fun _u => [(9, .box b9 T.Rat (cellsQ (stepQ h fr i)))]) (fun _u => True) (.cons (knD rfl) (.cons (knD rfl) (.cons (knP rfl) (.cons (knP rfl) (.cons (knP rfl) .nil))))) (.cons (owB rfl) (.cons (owB rfl) .nil)) ?_ ?_
 ·refine AW.sg hE rfl (mvD rfl (c_geq rfl rfl rfl (OL.nil (AW.cond rfl (fun h16 => ?_) (fun h16 => ?_)))))
  ·try simp only [dx9] at h16
   have tr := f.trow fr.toNat (by omega)
   refine AW.rg hE rfl (faP fd.Hidden_4 rfl rfl (ldPC ce.Ratss rfl rfl rfl (mvD rfl (ixL sl.Ratss [] rfl rfl (by omega) (by omega) rfl rfl (ldRC ce.Rats rfl (mvD rfl (ixLn sl.Rats 0 rfl rfl (by omega) rfl rfl ?_)))))))
   refine ldRA ag.Rat rfl (vs := [_,_,_]) rfl (nb9 rfl) (sto sz.Rat rfl rfl rfl rfl rfl (nb9 rfl) (cells2 := [_,_,_]) rfl (OL.nil ?_))
   exact AW.reach () ⟨trivial, Knows.app .rq5 (.nil), Owns.app (.cons rfl (.cons rfl .nil)) (.cons (by rw [show stepQ h fr i = (h.trans.getD fr.toNat []).getD i 0 from if_pos h16]; rfl) .nil)⟩
  ·try simp only [dx9] at h16
   refine AW.skip ?_
   exact AW.reach () ⟨trivial, Knows.app .rq5 (.nil), Owns.app (.cons rfl (.cons rfl .nil)) (.cons (by rw [show stepQ h fr i = h.ini.getD i 0 from if_neg (by omega)]; rfl) .nil)⟩
 rintro ⟨⟩ hφ
 refine AW.seq (AW.dg 1 [0,1,2,3,4,5,6,7,8,9,10,11] order_free hE rfl (by kernel_rfl) (OI.of_OL (os := [_,_,_,_,_,_,_,_,_,_,_,_]) rfl ?_))
 refine ldPA ag.Rat rfl rfl (vs := [_,_,_]) rfl (nb9 rfl) (faP fd.Hidden_6 rfl rfl (ldPC ce.Ratss rfl rfl rfl (mvD rfl (ixLn sl.Ratss [] rfl rfl (by omega) rfl rfl (ldRC ce.Rats rfl (mvD rfl (bo rfl rfl (bin_sub (c := (x : Int)) (by omega) (wrap_i64 (by omega))) ?_)))))))
 exact ixLn sl.Rats 0 rfl rfl (by omega) rfl rfl (ldRA ag.Rat rfl (vs := [_,_,_]) rfl (nb9 rfl) (clv rfl .rq2 (rational_MulQ (by omega) (by omega)) (sto sz.Rat rfl rfl rfl rfl rfl (nb9 rfl) (cells2 := [_,_,_]) rfl (OL.nil (AW.ret (RetQ.r ⟨_, .cellA rfl rfl ag.Rat (nb9 rfl) .nil, .ag (.cons (.le (VLe.refl _)) (.cons (.le (VLe.refl _)) (.cons (.le (VLe.refl _)) .nil)))⟩))))))
end Go.Proofs.YtonndaibggjmjaaGreat

set_option linter.unusedVariables false
set_option linter.unusedSimpArgs false
namespace Go.AL
open Go Go.BigFrame
def pairHM : HM := ⟨2, 2, 0, [1 / 2, 1 / 2], [[0, 1 / 2], [0, 0]], [1 / 2, 1], [[1, 0], [0, 1]], [false, false], [0, 1]⟩
theorem pair_word : WordOK pairHM [1, 2] := ⟨by decide, by decide⟩
theorem getD_two {α : Type} {P : α → Prop} {a b d : α} (ha : P a) (hb : P b) (hd : P d) (i : Nat) : P ([a, b].getD i d) := by
 match i with
 | 0 => exact ha
 | 1 => exact hb
 | i + 2 => exact hd
theorem two_cases {i : Nat} (h : i < 2) : i = 0 ∨ i = 1 := by omega
theorem small2 {a b : Rat} (ha : sz a ≤ 1) (hb : sz b ≤ 1) : Small 1 [a, b] := Small.cons ha (Small.one hb)
theorem shares2 {a b : Rat} (ha : Share a) (hb : Share b) : Shares [a, b] := fun q hq => by
 rcases List.mem_cons.1 hq with rfl | hq
 ·exact ha
 ·rw [List.mem_singleton.1 hq]; exact hb
theorem pair_good : pairHM.Good 1 := by
 have z0 : sz 0 ≤ 1 := by rw [sz_zero]; decide
 have z1 : sz 1 ≤ 1 := by rw [sz_one]; decide
 have zh : sz (1 / 2) ≤ 1 := half_sz
 have p0 : Share 0 := by decide +kernel
 have p1 : Share 1 := by decide +kernel
 have ph : Share (1 / 2) := by decide +kernel
 have st : pairHM.st = 2 := rfl
 refine ⟨⟨by decide, by decide, by decide, by decide, rfl, rfl, fun i hi => ?_, rfl, rfl, fun i hi => ?_, rfl, rfl, fun i hi => ?_, by decide, by decide, z0, small2 zh zh, small2 zh z1, fun i => ?_, fun i => ?_⟩,
  p0, shares2 ph ph, shares2 ph p1, fun i => ?_, fun i => ?_, by decide +kernel, fun i hi => ?_, fun i hi => ?_, fun i j hi hj he => ?_⟩
 ·rcases two_cases hi with rfl | rfl <;> rfl
 ·rcases two_cases hi with rfl | rfl <;> rfl
 ·rcases two_cases hi with rfl | rfl <;> decide
 ·exact getD_two (small2 z0 zh) (small2 z0 z0) Small.nil i
 ·exact getD_two (small2 z1 z0) (small2 z0 z1) Small.nil i
 ·exact getD_two (P := Shares) (shares2 p0 ph) (shares2 p0 p0) (fun q hq => by simp at hq) i
 ·exact getD_two (P := Shares) (shares2 p1 p0) (shares2 p0 p1) (fun q hq => by simp at hq) i
 ·rcases two_cases hi with rfl | rfl <;> decide +kernel
 ·rcases two_cases hi with rfl | rfl <;> decide +kernel
 ·rcases two_cases hi with rfl | rfl
  ·omega
  ·obtain rfl : j = 0 := by omega
   exact absurd he (by decide)
end Go.AL

set_option linter.unusedVariables false
set_option linter.unusedSimpArgs false
namespace Go.AL
open Go Go.BigFrame
def rowG (h : HM) (p : Nat → Bool) (g : Nat → Rat) : List Rat := (List.range h.st).map fun i => if p i = true then g i else 0
def restG (h : HM) (w : List Int) (p : Nat → Nat → Bool) : Nat → List Rat
 | 0 => rowG h (p (w.length - 1)) fun i => h.stop.getD i 0
 | d + 1 => rowG h (p (w.length - 1 - (d + 1))) fun i => (aheadF h (i : Nat) (symX w (w.length - 1 - d)) (restG h w p d) h.st).1
def ahdG (h : HM) (w : List Int) (p : Nat → Nat → Bool) (fr : Int) (t : Nat) : Rat × Nat := aheadF h fr (symX w t) (restG h w p (w.length - 1 - t)) h.st
def toG (h : HM) (w : List Int) (p : Nat → Nat → Bool) : Nat → Int
 | 0 => -1
 | t + 1 => ((ahdG h w p (toG h w p t) t).2 : Nat)
def pathG (h : HM) (w : List Int) (p : Nat → Nat → Bool) (t : Nat) : List Int := (List.range t).map fun i => toG h w p (i + 1)
def bestG (h : HM) (w : List Int) (p : Nat → Nat → Bool) : Rat := (ahdG h w p (-1) 0).1
def every : Nat → Nat → Bool := fun _ _ => true
theorem rowG_get {h : HM} {p : Nat → Bool} {g : Nat → Rat} {i : Nat} (hi : i < h.st) : (rowG h p g).getD i 0 = if p i = true then g i else 0 := map_getD_range _ _ hi
theorem rowG_len (h : HM) (p : Nat → Bool) (g : Nat → Rat) : (rowG h p g).length = h.st := by simp [rowG]
theorem restG_len (h : HM) (w : List Int) (p : Nat → Nat → Bool) : ∀ d, (restG h w p d).length = h.st
 | 0 => rowG_len ..
 | d + 1 => rowG_len ..
theorem pathG_len (h : HM) (w : List Int) (p : Nat → Nat → Bool) (t : Nat) : (pathG h w p t).length = t := by simp [pathG]
theorem pathG_succ (h : HM) (w : List Int) (p : Nat → Nat → Bool) (t : Nat) : pathG h w p (t + 1) = pathG h w p t ++ [toG h w p (t + 1)] := by unfold pathG; rw [List.range_succ, List.map_append]; rfl
structure AhdSpec (h : HM) (fr : Int) (x : Nat) (rest : List Rat) (n : Nat) (r : Rat × Nat) : Prop where
 nonneg : 0 ≤ r.1
 le : ∀ i, i < n → viaQ h fr x rest i ≤ r.1
 zero : r.1 = 0 → r.2 = 0
 lt : 0 < r.1 → r.2 < n
 eq : 0 < r.1 → viaQ h fr x rest r.2 = r.1
 least : 0 < r.1 → ∀ i, i < r.2 → viaQ h fr x rest i < r.1
theorem ahead_spec (h : HM) (fr : Int) (x : Nat) (rest : List Rat) : ∀ n, AhdSpec h fr x rest n (aheadF h fr x rest n)
 | 0 => ⟨Rat.le_refl, fun i hi => absurd hi (Nat.not_lt_zero i), fun _ => rfl, fun hp => absurd hp (by show ¬ (0 : Rat) < 0; decide), fun hp => absurd hp (by show ¬ (0 : Rat) < 0; decide), fun hp => absurd hp (by show ¬ (0 : Rat) < 0; decide)⟩
 | n + 1 => by
  have ih := ahead_spec h fr x rest n
  rw [aheadF]
  split
  ·rename_i hlt
   have h0 := ih.nonneg
   have hpos : 0 < viaQ h fr x rest n := Std.lt_of_le_of_lt h0 hlt
   refine ⟨Rat.le_of_lt hpos, fun i hi => ?_, fun e => ?_, fun _ => Nat.lt_succ_self n, fun _ => rfl, fun _ i hi => ?_⟩
   ·rcases Nat.lt_or_ge i n with h1 | h1
    ·exact Rat.le_trans (ih.le i h1) (Rat.le_of_lt hlt)
    ·obtain rfl : i = n := by omega
     exact Rat.le_refl
   ·simp only at e
    rw [e] at hpos
    exact absurd hpos (by decide)
   ·exact Std.lt_of_le_of_lt (ih.le i hi) hlt
  ·rename_i hlt
   refine ⟨ih.nonneg, fun i hi => ?_, ih.zero, fun hp => Nat.lt_succ_of_lt (ih.lt hp), ih.eq, ih.least⟩
   rcases Nat.lt_or_ge i n with h1 | h1
   ·exact ih.le i h1
   ·obtain rfl : i = n := by omega
    exact Rat.not_lt.1 hlt
theorem toG_range {h : HM} (h0 : 1 ≤ h.st) (w : List Int) (p : Nat → Nat → Bool) : ∀ t, -1 ≤ toG h w p t ∧ toG h w p t < h.st
 | 0 => ⟨by show (-1 : Int) ≤ -1; omega, by show (-1 : Int) < _; omega⟩
 | t + 1 => by
  have := aheadF_lt h (toG h w p t) (symX w t) (restG h w p (w.length - 1 - t)) h0 h.st (Nat.le_refl _)
  rw [toG, ahdG]; omega
theorem rowG_small {h : HM} {C : Nat} {p : Nat → Bool} {g : Nat → Rat} (hC : 1 ≤ C) (hg : ∀ i, i < h.st → sz (g i) ≤ C) : Small C (rowG h p g) := fun q hq => by
 obtain ⟨i, hi, rfl⟩ := List.mem_map.1 hq
 show sz (if p i = true then g i else 0) ≤ C
 split
 ·exact hg i (List.mem_range.1 hi)
 ·rw [sz_zero]; exact hC
theorem restG_sz {h : HM} {B : Nat} (f : h.Form B) (w : List Int) (p : Nat → Nat → Bool) : ∀ d, Small (1024 + 2048 * d) (restG h w p d)
 | 0 => rowG_small (by omega) fun i _ => Nat.le_trans (f.zS.get f.b1 i) (by have := f.bB; omega)
 | d + 1 => rowG_small (by omega) fun i _ => Nat.le_trans (aheadF_sz f _ _ (restG_sz f w p d) (by omega) _) (by omega)
theorem restG_szB {h : HM} {B : Nat} (f : h.Form B) (w : List Int) (p : Nat → Nat → Bool) {d : Nat} (hd : d ≤ 256) : Small 1048576 (restG h w p d) := (restG_sz f w p d).mono (by omega)
end Go.AL

/-
  Walks of the specification of chapter 35, for the law on exhaustive search: the joint probability, the order of ways, all paths (printed by mk2.py).
-/
import Derived.Test.YtonndaibggjmjaaGreatKLsD
import Derived.Test.YtonndaibggjmjaaGreatKChk
import Derived.Test.YtonndaibggjmjaaGreatKMod34d
import Derived.Test.YtonndaibggjmjaaGreatKMod37d
set_option linter.unusedVariables false
set_option linter.unusedSimpArgs false
namespace Go.Proofs.YtonndaibggjmjaaGreat
open Go Go.AL
abbrev dPs (l : List (List Int)) : D := .sl (l.map ints)
theorem ref05_Alphabet {n : Nat} (hs : 1 ≤ n ∧ n ≤ 32) : FSpec P F.ref05_Alphabet [.d (dI n)] (.d (dB true)) := by
 refine FSpec.intro fn.ref05_Alphabet (by rfl) (by rfl) (nb9 (by rfl)) fun E hE => (AW.sg hE rfl (asD rfl (OL.nil (AW.sg hE rfl (mvD rfl (c_geq rfl rfl (c := true) (by exact decide_eq_true (by omega)) (mvD rfl ?_)))))))
 exact OL.yes rfl (mvD rfl (OL.yes rfl (c_leq rfl rfl (c := true) (by exact decide_eq_true (by omega)) (pkT rfl rfl (asD rfl (OL.nil (AW.ret (RetQ.r ⟨_, .tmp rfl .nil, .le (VLe.refl _)⟩))))))))
theorem ref05_Valid {h : HM} {w : List Int} (k : WordOK h w) (hs : 1 ≤ h.sym ∧ h.sym ≤ 32) : FSpec P F.ref05_Valid [.d (ints w), .d (dI h.sym)] (.d (dB true)) := by
 have k1 := k.1
 refine FSpec.intro fn.ref05_Valid (by rfl) (by rfl) (nb9 (by rfl)) fun E hE => (AW.sg hE rfl (asD rfl (OL.nil (AW.seq (AW.sg hE rfl (mvD rfl (clv rfl (.cons (VLe.refl _) (.nil)) (ref05_Alphabet hs) ?_)))))))
 refine nt rfl (mvD rfl (OL.yes rfl (mvD rfl (OL.yes rfl (lnL sl.ints rfl rfl (OL.yes rfl (c_gtr rfl rfl (c := false) (by exact decide_eq_false (by omega)) ?_)))))))
 refine pkF rfl rfl (OL.nil (AW.cond rfl (fun hno => absurd hno (by decide)) (fun _ => ?_)))
 refine AW.skip (AW.seq (AW.sg hE rfl (asD rfl (OL.nil (AW.block (AW.whileK (α := Nat) [(0, _), (1, _)] [] (fun i => [(5, .d (dI i))]) (fun i => []) (fun i => i ≤ w.length) (fun i => w.length - i) 0 (.cons (knD rfl) (.cons (knD rfl) .nil)) .nil ⟨Nat.zero_le _, .rq1, .nil⟩ ?_))))))
 intro i h1
 refine AW.seq (AW.sg hE rfl (mvD rfl (mvD rfl (lnL sl.ints rfl rfl (c_lss rfl rfl rfl (OL.nil (AW.cond rfl (fun h17 => ?_) (fun h17 => ?_))))))))
 ·try simp only [dx9] at h17
  refine AW.skip (AW.seq (AW.block (AW.seq ?_)))
  have kg := k.get (t := i) (by omega)
  refine AW.rg hE rfl (mvD rfl (mvD rfl (ixLn sl.ints 0 rfl rfl (by omega) rfl rfl (ldRC ce.int rfl (c_lss rfl rfl (c := false) (by exact decide_eq_false (by omega)) (mvD rfl (OL.yes rfl ?_)))))))
  refine mvD rfl (OL.yes rfl (mvD rfl (OL.yes rfl (ixLn sl.ints 0 rfl rfl (by omega) rfl rfl (OL.yes rfl (ldRC ce.int rfl (OL.yes rfl ?_)))))))
  refine mvD rfl (OL.yes rfl (c_gtr rfl rfl (c := false) (by exact decide_eq_false (by omega)) (pkF rfl rfl (OL.nil (AW.cond rfl (fun hno => absurd hno (by decide)) (fun _ => ?_))))))
  exact AW.skip (AW.rg hE rfl (mvD rfl (add_i64 rfl rfl (by omega) (asD rfl (OL.nil (AW.again (x := i) (i + 1) (by omega) ⟨by omega, Knows.app .rq2 .rq1, .nil⟩))))))
 ·try simp only [dx9] at h17
  exact AW.exit (AW.sg hE rfl (asD rfl (OL.nil (AW.ret (RetQ.r ⟨_, .tmp rfl .nil, .le (VLe.refl _)⟩)))))
theorem ref34_Check {h : HM} {B : Nat} {w : List Int} (g : h.Good B) (k : WordOK h w) : FSpec P F.ref34_Check [vHM h, .d (ints w)] (.d (dI 0)) := by
 have s0 := g.form.sym0
 have s1 := g.form.sym1
 refine FSpec.intro fn.ref34_Check (by rfl) (by rfl) (nb9 (by rfl)) fun E hE => (AW.sg hE rfl (bxA rfl rfl fun b2 => (asD rfl (OL.nil (AW.seq (AW.sg hE rfl (ldPA ag.Hidden rfl rfl (vs := [_,_,_,_,_,_,_,_,_,_,_]) rfl (nb9 rfl) ?_)))))))
 refine clv rfl (.cons (VLe.refl _) (.nil)) (ref33_Check g) (asD rfl (OL.nil (AW.sg hE rfl (mvD rfl (c_neq rfl rfl (c := false) (by exact cne_f (by omega)) (OL.nil (AW.cond rfl (fun hno => absurd hno (by decide)) (fun _ => ?_))))))))
 refine AW.skip (AW.seq (AW.sg hE rfl (mvD rfl (faP fd.Hidden_0 rfl rfl (ldPC ce.int rfl rfl rfl (clv rfl (.cons (VLe.refl _) (.cons (VLe.refl _) (.nil))) (ref05_Valid k ⟨s0, s1⟩) (nt rfl ?_)))))))
 refine OL.nil (AW.cond rfl (fun hno => absurd hno (by decide)) (fun _ => ?_))
 exact AW.skip (AW.sg hE rfl (asD rfl (OL.nil (AW.ret (RetQ.r ⟨_, .tmp rfl .nil, .le (VLe.refl _)⟩)))))
theorem world_Paths {n k : Nat} (hn : n ≤ 3) (hk : k ≤ 4) : FSpec P F.world_Paths [.d (dI n), .d (dI k)] (.d (dPs (pathsF n k))) := by
 refine FSpec.intro fn.world_Paths (by rfl) (by rfl) (nb9 (by rfl)) fun E hE => ?_
 refine AW.sg hE rfl ?_
 refine asM rfl ?_
 refine OL.nil ?_
 refine AW.sg hE rfl ?_
 refine lt1 (y := ints []) sl.intss VC.mt.vd rfl (by decide) ?_
 refine asD rfl ?_
 refine OL.nil (AW.seq (AW.sg hE rfl (asD rfl (OL.nil (AW.block ?_)))))
 refine AW.whileK (α := Nat) [(0, _), (1, _), (4, _)] [] (fun j => [(5, .d (dPs (pathsF n j))), (6, .d (dI j))]) (fun j => []) (fun j => j ≤ k) (fun j => k - j) 0 (.cons (knD rfl) (.cons (knD rfl) (.cons (knM rfl) .nil))) .nil ⟨Nat.zero_le _, .rq2, .nil⟩ ?_
 intro j h1
 have h1 : j ≤ k := h1
 have hpl := pathsF_len n j
 have hpw := pow_le (n := n) (k := j) hn (by omega)
 refine AW.seq (AW.sg hE rfl (mvD rfl (mvD rfl (c_lss rfl rfl rfl (OL.nil (AW.cond rfl (fun h13 => ?_) (fun h13 => ?_)))))))
 ·try simp only [dx9] at h13
  refine AW.skip (AW.seq (AW.block (AW.sg hE rfl (asM rfl (OL.nil (AW.seq (AW.sg hE rfl ?_)))))))
  refine asD rfl (OL.nil (AW.block (AW.own 7 38 T.ints 1 rfl rfl ?_)))
  refine AW.whileK (α := Nat × Nat × Nat) [(0, _), (1, _), (4, _), (5, _), (6, _)] [] (fun (i, b, c) => [(7, .osl 38 b (pathsStep n (pathsF n j) i).length c), (8, .d (dI i))]) (fun (i, b, c) => [(38, .row b c T.ints 1 ((pathsStep n (pathsF n j) i).map ints))]) (fun (i, b, c) => i ≤ (pathsF n j).length) (fun (i, b, c) => (pathsF n j).length - i) (0, 0, 0) (.cons (knD rfl) (.cons (knD rfl) (.cons (knM rfl) (.cons (knD rfl) (.cons (knD rfl) .nil))))) .nil ⟨Nat.zero_le _, .rq2, .cons rfl .nil⟩ ?_
  rintro ⟨i, b, c⟩ h2
  have h2 : i ≤ (pathsF n j).length := h2
  have hsl := pathsStep_len n (pathsF n j) h2
  have him : i * n ≤ 81 * 3 := Nat.mul_le_mul (by omega) hn
  refine AW.seq (AW.sg hE rfl (mvD rfl (mvD rfl (lnL sl.intss rfl rfl (c_lss rfl rfl rfl (OL.nil (AW.cond rfl (fun h19 => ?_) (fun h19 => ?_))))))))
  ·try simp only [dx9] at h19
   refine AW.skip (AW.seq (AW.block (AW.sg hE rfl (asD rfl (OL.nil (AW.block ?_))))))
   refine AW.whileK (α := Nat × Nat × Nat) [(0, _), (1, _), (4, _), (5, _), (6, _), (8, _)] [] (fun (s, b2, c2) => [(7, .osl 38 b2 (pathsMid n (pathsF n j) i s).length c2), (9, .d (dI s))]) (fun (s, b2, c2) => [(38, .row b2 c2 T.ints 1 ((pathsMid n (pathsF n j) i s).map ints))]) (fun (s, b2, c2) => s ≤ n) (fun (s, b2, c2) => n - s) (0, b, c) (.cons (knD rfl) (.cons (knD rfl) (.cons (knM rfl) (.cons (knD rfl) (.cons (knD rfl) (.cons (knD rfl) .nil)))))) .nil ⟨Nat.zero_le _, .cons (by rw [pathsMid_zero]; exact VLe.refl _) .rq1, .cons (by rw [pathsMid_zero]; rfl) .nil⟩ ?_
   rintro ⟨s, b2, c2⟩ h3
   have h3 : s ≤ n := h3
   have hml := pathsMid_len n (pathsF n j) (s := s) h2
   have hil : i < (pathsF n j).length := by omega
   have hgl := (pathsF_mem (getD_mem hil [])).1
   refine AW.seq (AW.sg hE rfl (mvD rfl (mvD rfl (c_lss rfl rfl rfl (OL.nil (AW.cond rfl (fun h24 => ?_) (fun h24 => ?_)))))))
   ·try simp only [dx9] at h24
    refine AW.skip (AW.seq (AW.block (AW.rg hE rfl (mvO rfl (lt0 sl.ints (mvD rfl (mvD rfl ?_)))))))
    refine ixLn sl.intss [] rfl rfl (by omega) rfl rfl (ldRC ce.ints rfl (apM sl.ints rfl rfl (VC.d _) dI_len (by rw [List.length_map]; omega) (by rw [List.length_map]; omega) rfl fun b3 c3 => (mvD rfl (lt1 sl.ints (VC.d _).vd rfl (by decide) ?_))))
    refine apOD sl.ints rfl rfl rfl rfl (VC.d _) (by simp [D.cells]) (by simp only [List.length_map, hgl, List.length_singleton]; omega) (by simp only [List.length_map, hgl, List.length_singleton]; omega) (.inl rfl) (ys := ((pathsF n j).getD i [] ++ [(s : Int)]).map dI) (by rw [List.map_append]; rfl) ?_
    refine lt1 (y := ints ((pathsF n j).getD i [] ++ [(s : Int)])) sl.intss (VC.d _).vd rfl (by decide) ?_
    refine apO sl.intss rfl rfl rfl (by rw [List.length_map]) (VC.d _) (by simp [D.cells]) (by simp; omega) (by simp; omega) (.inr rfl) (ys := (pathsMid n (pathsF n j) i (s + 1)).map ints) (by rw [pathsMid_succ, List.map_append]; rfl) (n2 := (pathsMid n (pathsF n j) i (s + 1)).length) (by rw [pathsMid_succ]; simp) fun b4 c4 => ?_
    refine asO rfl (OL.nil (AW.rg hE rfl (mvD rfl (add_i64 rfl rfl (by omega) (asD rfl (OL.nil ?_))))))
    exact AW.again (x := (s, b2, c2)) (s + 1, b4, c4) (by (simp only []; omega)) ⟨by omega, Knows.app .rq6 .rq2, .cons rfl .nil⟩
   ·try simp only [dx9] at h24
    refine AW.exit (AW.rg hE rfl (mvD rfl (add_i64 rfl rfl (by omega) (asD rfl (OL.nil ?_)))))
    exact AW.again (x := (i, b, c)) (i + 1, b2, c2) (by (simp only []; omega)) ⟨by omega, Knows.app .rq5 (.cons (vle_of_eq (by show V.osl 38 b2 (pathsMid n (pathsF n j) i s).length c2 = _; rw [show s = n by omega, pathsMid_all n (show i < (pathsF n j).length by omega)])) .rq1), .cons (by show some (Blk.row b2 c2 T.ints 1 ((pathsMid n (pathsF n j) i s).map ints)) = _; rw [show s = n by omega, pathsMid_all n (show i < (pathsF n j).length by omega)]) .nil⟩
  ·try simp only [dx9] at h19
   refine AW.exit ?_
   refine AW.freeze 38 rfl (AW.to [(0, .d (dI n)), (1, .d (dI k)), (4, .mt), (6, .d (dI j)), (7, .d (dPs (pathsStep n (pathsF n j) i)))] [] (.cons (VLe.refl _) (.cons (VLe.refl _) (.cons (VLe.refl _) (.cons (VLe.refl _) (.cons (frz_osl (by rw [List.length_map]) rfl) .nil))))) .nil ?_)
   refine AW.rg hE rfl (mvD rfl (asD rfl (OL.nil (AW.rg hE rfl (mvD rfl (add_i64 rfl rfl (by omega) (asD rfl ?_)))))))
   refine OL.nil ?_
   exact AW.again (x := j) (j + 1) (by omega) ⟨by omega, Knows.app .rq3 (.cons (by have e := pathsStep_all n j; rw [show (pathsF n j).length = i by omega] at e; exact vle_of_eq (congrArg (fun z => V.d (dPs z)) e)) .rq1), .nil⟩
 ·try simp only [dx9] at h13
  refine AW.exit (AW.seq ?_)
  obtain rfl : j = k := by omega
  exact AW.rg hE rfl (mvD rfl (asD rfl (OL.nil (AW.ret (RetQ.r ⟨_, .tmp rfl .nil, .le (VLe.refl _)⟩)))))
def cmpS (a b : List Int) : Int := if a.length ≠ b.length then (if a.length < b.length then -1 else 1) else cmpL a b
theorem cmpS_same {a b : List Int} (h : a.length = b.length) : cmpS a b = cmpL a b := if_neg (by omega)
theorem ref05_CompareS {l m : List Int} (nl : l.length ≤ 1099511627776) : FSpec P F.ref05_Compare [.d (ints l), .d (ints m)] (.d (dI (cmpS l m))) := by
 refine FSpec.intro fn.ref05_Compare (by rfl) (by rfl) (nb9 (by rfl)) fun E hE => (AW.sg hE rfl (asD rfl (OL.nil (AW.seq (AW.sg hE rfl (mvD rfl (lnL sl.ints rfl rfl ?_)))))))
 refine mvD rfl (lnL sl.ints rfl rfl (c_neq rfl rfl rfl (OL.nil (AW.cond rfl (fun hn => ?_) (fun hn => ?_)))))
 ·have hn : l.length ≠ m.length := fun e => nd_t hn (by rw [e])
  refine AW.seq (AW.sg hE rfl (mvD rfl (lnL sl.ints rfl rfl (mvD rfl (lnL sl.ints rfl rfl (c_lss rfl rfl rfl (OL.nil ?_)))))))
  refine AW.cond rfl (fun hlt => ?_) (fun hlt => ?_)
  ·have hlt : l.length < m.length := by have := of_decide_eq_true hlt; omega
   exact AW.sg hE rfl (asD rfl (OL.nil (AW.ret (RetQ.r ⟨_, .tmp rfl .nil, .le (VLe.int (by unfold cmpS; rw [if_pos hn, if_pos hlt]))⟩))))
  ·have hlt : ¬ l.length < m.length := by have := of_decide_eq_false hlt; omega
   exact AW.skip (AW.sg hE rfl (asD rfl (OL.nil (AW.ret (RetQ.r ⟨_, .tmp rfl .nil, .le (VLe.int (by unfold cmpS; rw [if_pos hn, if_neg hlt]))⟩)))))
 ·have hn : l.length = m.length := by have := nd_f hn; omega
  rw [cmpS_same hn]
  refine AW.skip (AW.seq (AW.sg hE rfl (asD rfl (OL.nil (AW.block ?_)))))
  refine AW.whileK (α := Nat) [(0, _), (1, _)] [] (fun i => [(5, .d (dI i))]) (fun i => []) (fun i => i ≤ l.length ∧ cmpL l m = cmpL (l.drop i) (m.drop i)) (fun i => l.length - i) 0 (.cons (knD rfl) (.cons (knD rfl) .nil)) .nil ⟨⟨Nat.zero_le _, rfl⟩, .rq1, .nil⟩ ?_
  rintro i ⟨h1, h3⟩
  have h1 : i ≤ l.length := h1
  have h3 : cmpL l m = cmpL (l.drop i) (m.drop i) := h3
  refine AW.seq (AW.sg hE rfl (mvD rfl (mvD rfl (lnL sl.ints rfl rfl (c_lss rfl rfl rfl (OL.nil (AW.cond rfl (fun h19 => ?_) (fun h19 => ?_))))))))
  ·try simp only [dx9] at h19
   refine AW.skip (AW.seq (AW.block (AW.seq (AW.seq (AW.dg 1 [0,1,2,3,4,5,6,7,8] order_free hE rfl (by kernel_rfl) (OI.of_OL (os := [_,_,_,_,_,_,_,_,_]) rfl ?_))))))
   refine mvD rfl (mvD rfl (ixLn sl.ints 0 rfl rfl (by omega) rfl rfl (ldRC ce.int rfl (mvD rfl (mvD rfl (ixLn sl.ints 0 rfl rfl (by omega) rfl rfl (ldRC ce.int rfl ?_)))))))
   refine c_lss rfl rfl rfl (OL.nil (AW.cond rfl (fun ha => ?_) (fun ha => ?_)))
   ·have ha := of_decide_eq_true ha
    exact AW.sg hE rfl (asD rfl (OL.nil (AW.ret (RetQ.r ⟨_, .tmp rfl .nil, .le (VLe.int (by rw [h3, cmpL_drop (by omega) (by omega), show cmpI (l.getD i 0) (m.getD i 0) = -1 from if_pos ha, if_neg (by decide)]))⟩))))
   ·have ha := of_decide_eq_false ha
    refine AW.skip (AW.seq (AW.dg 1 [0,1,2,3,4,5,6,7,8] order_free hE rfl (by kernel_rfl) (OI.of_OL (os := [_,_,_,_,_,_,_,_,_]) rfl ?_)))
    refine mvD rfl (mvD rfl (ixLn sl.ints 0 rfl rfl (by omega) rfl rfl (ldRC ce.int rfl (mvD rfl (mvD rfl (ixLn sl.ints 0 rfl rfl (by omega) rfl rfl (ldRC ce.int rfl ?_)))))))
    refine c_gtr rfl rfl rfl (OL.nil (AW.cond rfl (fun hb => ?_) (fun hb => ?_)))
    ·have hb := of_decide_eq_true hb
     exact AW.sg hE rfl (asD rfl (OL.nil (AW.ret (RetQ.r ⟨_, .tmp rfl .nil, .le (VLe.int (by rw [h3, cmpL_drop (by omega) (by omega), show cmpI (l.getD i 0) (m.getD i 0) = 1 by unfold cmpI; rw [if_neg ha, if_pos hb], if_neg (by decide)]))⟩))))
    ·have hb := of_decide_eq_false hb
     exact AW.skip (AW.rg hE rfl (mvD rfl (add_i64 rfl rfl (by omega) (asD rfl (OL.nil (AW.again (x := i) (i + 1) (by omega) ⟨⟨by omega, by rw [h3, cmpL_drop (by omega) (by omega), if_pos (by unfold cmpI; rw [if_neg ha, if_neg hb])]⟩, Knows.app .rq2 .rq1, .nil⟩))))))
  ·try simp only [dx9] at h19
   exact AW.exit (AW.sg hE rfl (asD rfl (OL.nil (AW.ret (RetQ.r ⟨_, .tmp rfl .nil, .le (VLe.int (by rw [h3, List.drop_eq_nil_of_le (show l.length ≤ i by omega), List.drop_eq_nil_of_le (show m.length ≤ i by omega), cmpL]))⟩)))))
abbrev cellsW (w : Rat × List Int) : List V := [.d (ints w.2), .d (dB (ofQ w.1).neg), .d (u32s (ofQ w.1).num), .d (u32s (ofQ w.1).den)]
abbrev vWay (w : Rat × List Int) : V := .ag (cellsW w)
abbrev dWay (w : Rat × List Int) : D := .ag [ints w.2, dB (ofQ w.1).neg, u32s (ofQ w.1).num, u32s (ofQ w.1).den]
theorem vd_way {w : Rat × List Int} : VD (vWay w) (dWay w) := VD.ag (.cons (VC.d _) (.cons (VC.d _) (.cons (VC.d _) (.cons (VC.d _) .nil))))
def befW (a b : Rat × List Int) : Bool := decide (b.1 < a.1 ∨ (a.1 = b.1 ∧ cmpS a.2 b.2 < 0))
theorem ref35_Before {a b : Rat × List Int} (ha : sz a.1 ≤ 68719476736) (hb : sz b.1 ≤ 68719476736) (nl : a.2.length ≤ 1099511627776) : FSpec P F.ref35_Before [vWay a, vWay b] (.d (dB (befW a b))) := by
 refine FSpec.intro fn.ref35_Before (by rfl) (by rfl) (nb9 (by rfl)) fun E hE => (AW.sg hE rfl (bxA rfl rfl fun b2 => (bxA rfl rfl fun b3 => (asD rfl (OL.nil (AW.seq (AW.sg hE rfl ?_)))))))
 refine faP fd.Way_1 rfl rfl (ldPA ag.Rat rfl rfl (vs := [_,_,_]) rfl (nb9 rfl) (faP fd.Way_1 rfl rfl (ldPA ag.Rat rfl rfl (vs := [_,_,_]) rfl (nb9 rfl) (clv rfl (.cons (VLe.refl _) (.cons (VLe.refl _) (.nil))) (ref_CompareQ (x := a.1) (y := b.1) (by omega) (by omega)) (asD rfl (OL.nil (AW.sg hE rfl ?_)))))))
 refine mvD rfl (c_neq rfl rfl rfl (OL.nil (AW.cond rfl (fun hc => ?_) (fun hc => ?_))))
 ·have hc := nd_t hc
  exact AW.sg hE rfl (mvD rfl (c_gtr rfl rfl rfl (asD rfl (OL.nil (AW.ret (RetQ.r ⟨_, .tmp rfl .nil, .le (VLe.bool (decide_eq_decide.2 ⟨fun e => .inl (cmpQ_gt.1 e), fun e => cmpQ_gt.2 (e.resolve_right fun k => hc (cmpQ_eq.2 k.1))⟩))⟩))))))
 ·have hc := nd_f hc
  refine AW.skip (AW.sg hE rfl (faP fd.Way_0 rfl rfl (ldPC ce.ints rfl rfl rfl (faP fd.Way_0 rfl rfl (ldPC ce.ints rfl rfl rfl (clv rfl (.cons (VLe.refl _) (.cons (VLe.refl _) (.nil))) (ref05_CompareS nl) (c_lss rfl rfl rfl ?_)))))))
  exact asD rfl (OL.nil (AW.ret (RetQ.r ⟨_, .tmp rfl .nil, .le (VLe.bool (decide_eq_decide.2 ⟨fun e => .inr ⟨cmpQ_eq.1 hc, e⟩, fun e => (e.resolve_left fun k => Rat.ne_of_lt k (cmpQ_eq.1 hc).symm).2⟩))⟩)))
theorem ref35_states {h : HM} {l : List Int} (hs : InS h.st l) (nl : l.length ≤ 1024) : FSpec P F.ref35_states [vHM h, .d (ints l)] (.d (dB true)) := by
 refine FSpec.intro fn.ref35_states (by rfl) (by rfl) (nb9 (by rfl)) fun E hE => (AW.sg hE rfl (bxA rfl rfl fun b2 => (asD rfl (OL.nil (AW.seq (AW.sg hE rfl (asD rfl ?_)))))))
 refine OL.nil (AW.block (AW.whileK (α := Nat) [(1, _), (2, _)] [(2, _)] (fun i => [(5, .d (dI i))]) (fun i => []) (fun i => i ≤ l.length) (fun i => l.length - i) 0 (.cons (knD rfl) (.cons (knP rfl) .nil)) (.cons (owB rfl) .nil) ⟨Nat.zero_le _, .rq1, .nil⟩ ?_))
 intro i h1
 have h1 : i ≤ l.length := h1
 refine AW.seq (AW.sg hE rfl (mvD rfl (mvD rfl (lnL sl.ints rfl rfl (c_lss rfl rfl rfl (OL.nil (AW.cond rfl (fun h9 => ?_) (fun h9 => ?_))))))))
 ·try simp only [dx9] at h9
  refine AW.skip (AW.seq (AW.block (AW.seq ?_)))
  have hx := hs (l.getD i 0) (getD_mem (by omega) 0)
  refine AW.dg 1 [0,1,2,3,4,5,6,7,8,9,10,11,12,13] order_free hE rfl (by kernel_rfl) (OI.of_OL (os := [_,_,_,_,_,_,_,_,_,_,_,_,_,_]) rfl ?_)
  refine mvD rfl (mvD rfl (ixLn sl.ints 0 rfl rfl (by omega) rfl rfl (ldRC ce.int rfl (c_lss rfl rfl (c := false) (by exact decide_eq_false (by omega)) (mvD rfl (OL.yes rfl (mvD rfl ?_)))))))
  refine OL.yes rfl (mvD rfl (OL.yes rfl (ixLn sl.ints 0 rfl rfl (by omega) rfl rfl (OL.yes rfl (ldRC ce.int rfl (OL.yes rfl (faP fd.Hidden_1 rfl rfl ?_)))))))
  refine OL.yes rfl (ldPC ce.int rfl rfl rfl (OL.yes rfl (c_geq rfl rfl (c := false) (by exact decide_eq_false (by omega)) (pkF rfl rfl (OL.nil (AW.cond rfl (fun hno => absurd hno (by decide)) (fun _ => ?_)))))))
  exact AW.skip (AW.rg hE rfl (mvD rfl (add_i64 rfl rfl (by omega) (asD rfl (OL.nil (AW.again (x := i) (i + 1) (by omega) ⟨by omega, Knows.app .rq2 .rq1, Owns.app (.cons rfl .nil) (.nil)⟩))))))
 ·try simp only [dx9] at h9
  exact AW.exit (AW.sg hE rfl (asD rfl (OL.nil (AW.ret (RetQ.r ⟨_, .tmp rfl .nil, .le (VLe.refl _)⟩)))))
set_option maxRecDepth 4000 in
set_option maxHeartbeats 1600000 in
theorem ref35_joint {h : HM} {B : Nat} {w p : List Int} (f : h.Form B) (k : WordOK h w) (hw : w.length ≤ 6) (hp : p ∈ pathsF h.st w.length) : FSpec P F.ref35_joint [vHM h, .d (ints w), .d (ints p)] (vQ (jointE h w p)) := by
 have n1 := f.st1
 have s1 := f.sym1
 have e1 := f.ini
 have e2 := f.trans
 have e3 := f.stop
 have e4 := f.emit
 have zE := f.zE
 have bB := f.bB
 have hpl := (pathsF_mem hp).1
 have zj := jointE_sz f hw p
 have z0 : sz (0 : Rat) ≤ 1 := by rw [sz_zero]; decide
 have z1 : sz (1 : Rat) ≤ 1 := by rw [sz_one]; decide
 refine FSpec.intro fn.ref35_joint (by rfl) (by rfl) (nb9 (by rfl)) fun E hE => (AW.sg hE rfl (bxA rfl rfl fun b3 => (al z.Rat rfl fun b6 => (OL.nil (AW.seq (AW.sg hE rfl (mvD rfl ?_)))))))
 refine lnL sl.ints rfl rfl (c_eql rfl rfl rfl (OL.nil (AW.cond rfl (fun h0 => ?_) (fun h0 => ?_))))
 ·have h0 : w.length = 0 := by have := of_decide_eq_true h0; omega
  rw [show jointE h w p = h.empty from if_pos h0]
  refine AW.sg hE rfl (faP fd.Hidden_2 rfl rfl (ldPA ag.Rat rfl rfl (vs := [_,_,_]) rfl (nb9 rfl) (bd z.Rat pl.Rat (cs := [_,_,_]) rfl (clv rfl (.cons (VLe.refl _) (.cons vle_q0 .nil)) (ref_AddQ (x := h.empty) (y := 0) (by omega) (by omega)) ?_))))
  rw [Rat.add_zero]
  exact sto sz.Rat rfl rfl rfl rfl rfl (nb9 rfl) (cells2 := [_,_,_]) rfl (OL.nil (AW.ret (RetQ.r ⟨_, .cellA rfl rfl ag.Rat (nb9 rfl) .nil, .ag (.cons (.le (VLe.refl _)) (.cons (.le (VLe.refl _)) (.cons (.le (VLe.refl _)) .nil)))⟩)))
 ·have h0 : w.length ≠ 0 := fun e => of_decide_eq_false h0 (by omega)
  rw [show jointE h w p = wgt h w p w.length * h.stop.getD (atP p (w.length - 1)) 0 from if_neg h0]
  refine AW.skip (AW.sg hE rfl (clv rfl (.cons (VLe.refl _) (.nil)) (ref33_Whole1) (al z.Rat rfl fun b7 => (sto sz.Rat rfl rfl rfl rfl rfl (nb9 rfl) (cells2 := [_,_,_]) rfl (OL.nil (AW.seq (AW.sg hE rfl ?_)))))))
  refine asD rfl (OL.nil (AW.block ?_))
  refine AW.whileK (α := Nat) [(1, _), (2, _), (3, _), (6, _), (7, _)] [(3, _), (6, _)] (fun t => [(8, .d (dI t))]) (fun t => [(7, .box b7 T.Rat (cellsQ (if t = 0 then 1 else wgt h w p t)))]) (fun t => t ≤ w.length) (fun t => w.length - t) 0 (.cons (knD rfl) (.cons (knD rfl) (.cons (knP rfl) (.cons (knP rfl) (.cons (knP rfl) .nil))))) (.cons (owB rfl) (.cons (owB rfl) .nil)) ⟨Nat.zero_le _, .rq1, .cons rfl .nil⟩ ?_
  intro t h1
  have h1 : t ≤ w.length := h1
  have zw := wgt_sz f w p t
  refine AW.seq (AW.sg hE rfl (mvD rfl (mvD rfl (lnL sl.ints rfl rfl (c_lss rfl rfl rfl (OL.nil (AW.cond rfl (fun h20 => ?_) (fun h20 => ?_))))))))
  ·try simp only [dx9] at h20
   refine AW.skip (AW.seq (AW.block ?_))
   have hx := k.symX (t := t) (by omega)
   have hat := atP_lt (t := t) hp (by omega)
   have ti := f.trow (atP p (t - 1)) (by have := (atP_lt (t := t - 1) hp (by omega)).1; omega)
   have ei := f.erow (atP p t) (by omega)
   have ht1 := atP_lt (t := t - 1) hp (by omega)
   have zt := tr_sz f (atP p (t - 1)) (atP p t)
   have ze := em_sz f (atP p t) (symX w t)
   have zm := sz_mul (wgt h w p t) (trQ h (atP p (t - 1)) (atP p t))
   refine AW.midK (α := Unit) [(1, _), (2, _), (3, _), (6, _), (7, _), (8, _)] [(3, _), (6, _)] (fun _u => []) (fun _u => [(7, .box b7 T.Rat (cellsQ (if t = 0 then wgt h w p t else wgt h w p t * trQ h (atP p (t - 1)) (atP p t))))]) (fun _u => True) (.cons (knD rfl) (.cons (knD rfl) (.cons (knP rfl) (.cons (knP rfl) (.cons (knP rfl) (.cons (knD rfl) .nil)))))) (.cons (owB rfl) (.cons (owB rfl) .nil)) ?_ ?_
   ·refine AW.sg hE rfl (mvD rfl (c_eql rfl rfl rfl (OL.nil (AW.cond rfl (fun h2 => ?_) (fun h2 => ?_)))))
    ·have h2 : t = 0 := by have := of_decide_eq_true h2; omega
     subst h2
     have h00 := atP_lt (t := 0) hp (by omega)
     refine AW.dg 1 [0,1,2,3,4,5,6,7] order_free hE rfl (by kernel_rfl) (OI.of_OL (os := [_,_,_,_,_,_,_,_]) rfl ?_)
     refine faP fd.Hidden_3 rfl rfl (ldPC ce.Rats rfl rfl rfl (mvD rfl (ixLe 0 sl.ints 0 rfl rfl (by omega) (by omega) rfl rfl (ldRC ce.int rfl ?_))))
     rw [h00.2]
     exact ixLn sl.Rats 0 rfl rfl (by omega) rfl rfl (ldRA ag.Rat rfl (vs := [_,_,_]) rfl (nb9 rfl) (sto sz.Rat rfl rfl rfl rfl rfl (nb9 rfl) (cells2 := [_,_,_]) rfl (OL.nil (AW.reach () ⟨trivial, Knows.app .rq6 (.nil), Owns.app (.cons rfl (.cons rfl .nil)) (.cons (by rw [if_pos rfl]; rfl) .nil)⟩))))
    ·have h2 : t ≠ 0 := by have := of_decide_eq_false h2; omega
     refine AW.boxW 7 (cellsQ (wgt h w p t)) rfl (by rw [if_neg h2]; exact VLes.refl _) (AW.dg 1 [0,1,2,3,4,5,6,7,8,9,10,11,12,13,14,15,16,17] order_free hE rfl (by kernel_rfl) (OI.of_OL (os := [_,_,_,_,_,_,_,_,_,_,_,_,_,_,_,_,_,_]) rfl ?_))
     refine ldPA ag.Rat rfl rfl (vs := [_,_,_]) rfl (nb9 rfl) (faP fd.Hidden_4 rfl rfl (ldPC ce.Ratss rfl rfl rfl (mvD rfl (mvD rfl (bo rfl rfl (bin_sub (c := ((t - 1 : Nat) : Int)) (by omega) (wrap_i64 (by omega))) (ixLn sl.ints 0 rfl rfl (by omega) rfl rfl (ldRC ce.int rfl ?_)))))))
     rw [ht1.2]
     refine ixLn sl.Ratss [] rfl rfl (by omega) rfl rfl (ldRC ce.Rats rfl (mvD rfl (mvD rfl (ixLn sl.ints 0 rfl rfl (by omega) rfl rfl (ldRC ce.int rfl ?_)))))
     rw [hat.2]
     refine ixLn sl.Rats 0 rfl rfl (by omega) rfl rfl (ldRA ag.Rat rfl (vs := [_,_,_]) rfl (nb9 rfl) (clv rfl (.cons (VLe.refl _) (.cons (VLe.refl _) (.nil))) (ref_MulQ (x := wgt h w p t) (y := trQ h (atP p (t - 1)) (atP p t)) (by omega) (by omega)) (sto sz.Rat rfl rfl rfl rfl rfl (nb9 rfl) (cells2 := [_,_,_]) rfl (OL.nil ?_))))
     exact AW.reach () ⟨trivial, Knows.app .rq6 (.nil), Owns.app (.cons rfl (.cons rfl .nil)) (.cons (by rw [show (if t = 0 then wgt h w p t else wgt h w p t * trQ h (atP p (t - 1)) (atP p t)) = wgt h w p t * trQ h (atP p (t - 1)) (atP p t) from if_neg h2]; rfl) .nil)⟩
   rintro ⟨⟩ hφ
   have zi : sz (if t = 0 then wgt h w p t else wgt h w p t * trQ h (atP p (t - 1)) (atP p t)) ≤ 40000 := by
    split <;> omega
   refine AW.dg 1 [0,1,2,3,4,5,6,7,8,9,10,11,12,13,14,15,16,17] order_free hE rfl (by kernel_rfl) (OI.of_OL (os := [_,_,_,_,_,_,_,_,_,_,_,_,_,_,_,_,_,_]) rfl ?_)
   refine ldPA ag.Rat rfl rfl (vs := [_,_,_]) rfl (nb9 rfl) (faP fd.Hidden_6 rfl rfl (ldPC ce.Ratss rfl rfl rfl (mvD rfl (mvD rfl (ixLn sl.ints 0 rfl rfl (by omega) rfl rfl (ldRC ce.int rfl ?_))))))
   rw [hat.2]
   refine ixLn sl.Ratss [] rfl rfl (by omega) rfl rfl (ldRC ce.Rats rfl (mvD rfl (mvD rfl (ixLn sl.ints 0 rfl rfl (by omega) rfl rfl (ldRC ce.int rfl ?_)))))
   rw [hx.2]
   refine bo rfl rfl (bin_sub (c := (symX w t : Int)) (by omega) (wrap_i64 (by omega))) (ixLn sl.Rats 0 rfl rfl (by omega) rfl rfl (ldRA ag.Rat rfl (vs := [_,_,_]) rfl (nb9 rfl) (clv rfl (.cons (VLe.refl _) (.cons (VLe.refl _) (.nil))) (ref_MulQ (x := (if t = 0 then wgt h w p t else wgt h w p t * trQ h (atP p (t - 1)) (atP p t))) (y := emQ h (atP p t) (symX w t)) (by omega) (by omega)) ?_)))
   rw [show (if t = 0 then wgt h w p t else wgt h w p t * trQ h (atP p (t - 1)) (atP p t)) * emQ h (atP p t) (symX w t) = wgt h w p (t + 1) from rfl]
   refine sto sz.Rat rfl rfl rfl rfl rfl (nb9 rfl) (cells2 := [_,_,_]) rfl (OL.nil (AW.rg hE rfl (mvD rfl (add_i64 rfl rfl (by omega) (asD rfl (OL.nil ?_))))))
   exact AW.again (x := t) (t + 1) (by omega) ⟨by omega, Knows.app .rq5 .rq1, Owns.app (.cons rfl (.cons rfl .nil)) (.cons (by rw [if_neg (Nat.succ_ne_zero t)]; rfl) .nil)⟩
  ·try simp only [dx9] at h20
   refine AW.exit (AW.seq ?_)
   obtain rfl : t = w.length := by omega
   have hle := atP_lt (t := w.length - 1) hp (by omega)
   have zs := stop_sz f (atP p (w.length - 1))
   refine AW.boxW 7 (cellsQ (wgt h w p w.length)) rfl (by rw [if_neg h0]; exact VLes.refl _) (AW.dg 1 [0,1,2,3,4,5,6,7,8,9,10,11,12] order_free hE rfl (by kernel_rfl) (OI.of_OL (os := [_,_,_,_,_,_,_,_,_,_,_,_,_]) rfl ?_))
   refine ldPA ag.Rat rfl rfl (vs := [_,_,_]) rfl (nb9 rfl) (faP fd.Hidden_5 rfl rfl (ldPC ce.Rats rfl rfl rfl (mvD rfl (mvD rfl (lnL sl.ints rfl rfl (bo rfl rfl (bin_sub (c := ((w.length - 1 : Nat) : Int)) (by omega) (wrap_i64 (by omega))) (ixLn sl.ints 0 rfl rfl (by omega) rfl rfl ?_)))))))
   refine ldRC ce.int rfl ?_
   rw [hle.2]
   exact ixLn sl.Rats 0 rfl rfl (by omega) rfl rfl (ldRA ag.Rat rfl (vs := [_,_,_]) rfl (nb9 rfl) (clv rfl (.cons (VLe.refl _) (.cons (VLe.refl _) (.nil))) (ref_MulQ (x := wgt h w p w.length) (y := h.stop.getD (atP p (w.length - 1)) 0) (by omega) (by omega)) (sto sz.Rat rfl rfl rfl rfl rfl (nb9 rfl) (cells2 := [_,_,_]) rfl (OL.nil (AW.ret (RetQ.r ⟨_, .cellA rfl rfl ag.Rat (nb9 rfl) .nil, .ag (.cons (.le (VLe.refl _)) (.cons (.le (VLe.refl _)) (.cons (.le (VLe.refl _)) .nil)))⟩))))))
theorem ref35_Joint {h : HM} {B : Nat} {w p : List Int} (g : h.Good B) (k : WordOK h w) (hw : w.length ≤ 6) (hp : p ∈ pathsF h.st w.length) : FSpec P F.ref35_Joint [vHM h, .d (ints w), .d (ints p)] (.tup [vQ (jointE h w p), .d (dI 0)]) := by
 have hpl := (pathsF_mem hp).1
 have hin : InS h.st p := (pathsF_mem hp).2
 refine FSpec.intro fn.ref35_Joint (by rfl) (by rfl) (nb9 (by rfl)) fun E hE => (AW.sg hE rfl (bxA rfl rfl fun b3 => (al z.Rat rfl fun b6 => (asD rfl (OL.nil (AW.seq (AW.sg hE rfl ?_)))))))
 refine ldPA ag.Hidden rfl rfl (vs := [_,_,_,_,_,_,_,_,_,_,_]) rfl (nb9 rfl) (mvD rfl (clv rfl (.cons (VLe.refl _) (.cons (VLe.refl _) (.nil))) (ref34_Check g k) (asD rfl (OL.nil (AW.sg hE rfl (mvD rfl (c_neq rfl rfl (c := false) (by exact cne_f (by omega)) ?_)))))))
 refine OL.nil (AW.cond rfl (fun hno => absurd hno (by decide)) (fun _ => ?_))
 refine AW.skip (AW.seq (AW.sg hE rfl (mvD rfl (lnL sl.ints rfl rfl (mvD rfl (lnL sl.ints rfl rfl (c_neq rfl rfl (c := false) (by exact cne_f (by omega)) ?_)))))))
 refine mvD rfl (OL.yes rfl (ldPA ag.Hidden rfl rfl (vs := [_,_,_,_,_,_,_,_,_,_,_]) rfl (nb9 rfl) (OL.yes rfl (mvD rfl (OL.yes rfl (clv rfl (.cons (VLe.refl _) (.cons (VLe.refl _) (.nil))) (ref35_states hin (by omega)) (OL.yes rfl ?_)))))))
 refine nt rfl (pkF rfl rfl (OL.nil (AW.cond rfl (fun hno => absurd hno (by decide)) (fun _ => ?_))))
 refine AW.skip (AW.sg hE rfl (ldPA ag.Hidden rfl rfl (vs := [_,_,_,_,_,_,_,_,_,_,_]) rfl (nb9 rfl) (mvD rfl (mvD rfl (clv rfl (.cons (VLe.refl _) (.cons (VLe.refl _) (.cons (VLe.refl _) (.nil)))) (ref35_joint g.form k hw hp) (sto sz.Rat rfl rfl rfl rfl rfl (nb9 rfl) (cells2 := [_,_,_]) rfl (asD rfl ?_)))))))
 exact OL.nil (AW.ret (RetQ.r ⟨_, .cellA rfl rfl ag.Rat (nb9 rfl) (.tmp rfl .nil), _, .cons (.ag (.cons (.le (VLe.refl _)) (.cons (.le (VLe.refl _)) (.cons (.le (VLe.refl _)) .nil)))) (.cons (.le (VLe.refl _)) .nil), rfl⟩))
end Go.Proofs.YtonndaibggjmjaaGreat

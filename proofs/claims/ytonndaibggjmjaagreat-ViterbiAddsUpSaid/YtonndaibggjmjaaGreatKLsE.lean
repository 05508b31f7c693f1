/-
  Walks of the specification of chapter 35, for the law on exhaustive search: the joint probability, the order of ways, all paths (printed by mk2.py).
-/
import Derived.Test.YtonndaibggjmjaaGreatKLsD
import Derived.Test.YtonndaibggjmjaaGreatKChk
import Derived.Test.YtonndaibggjmjaaGreatKMod34d
import Derived.Test.YtonndaibggjmjaaGreatKMod63
set_option linter.unusedVariables false
set_option linter.unusedSimpArgs false
namespace Go.Proofs.YtonndaibggjmjaaGreat
open Go Go.AL
theorem ref05_Alphabet {n : Nat} (hs : 1 ≤ n ∧ n ≤ 32) : FSpec P F.ref05_Alphabet [.d (dI n)] (.d (dB true)) := by
 refine FSpec.intro fn.ref05_Alphabet (by rfl) (by rfl) (nb9 (by rfl)) fun E hE => (AW.sg hE rfl (asD rfl (OL.nil (AW.sg hE rfl (mvD rfl (c_geq rfl rfl (c := true) (by exact decide_eq_true (by omega)) (mvD rfl ?_)))))))
 exact OL.yes rfl (mvD rfl (OL.yes rfl (c_leq rfl rfl (c := true) (by exact decide_eq_true (by omega)) (pkT rfl rfl (asD rfl (OL.nil (AW.ret (RetQ.r ⟨_, .tmp rfl .nil, .le (VLe.refl _)⟩))))))))
theorem ref05_Valid {h : HM} {w : List Int} (k : WordOK h w) (hs : 1 ≤ h.sym ∧ h.sym ≤ 32) : FSpec P F.ref05_Valid [.d (ints w), .d (dI h.sym)] (.d (dB true)) := by
 have k1 := k.1
 refine FSpec.intro fn.ref05_Valid (by rfl) (by rfl) (nb9 (by rfl)) fun E hE => (AW.sg hE rfl (asD rfl (OL.nil (AW.seq (AW.sg hE rfl (mvD rfl (clv rfl (.cons (VLe.refl _) (.nil)) (ref05_Alphabet hs) ?_)))))))
 refine nt rfl (mvD rfl (OL.yes rfl (mvD rfl (OL.yes rfl (lnL sl.ints rfl rfl (OL.yes rfl (c_gtr rfl rfl (c := false) (by exact decide_eq_false (by omega)) ?_)))))))
 refine pkF rfl rfl (OL.nil (AW.cond rfl (fun hno => absurd hno (by decide)) (fun _ => ?_)))
 refine AW.skip (AW.seq (AW.sg hE rfl (asD rfl (OL.nil (AW.block (AW.whileK (α := Nat) [(0, _), (1, _)] [] (fun i => [(5, .d (dI i))]) (fun i => []) (fun i => i ≤ w.length) (fun i => w.length - i) 0 (.cons (knD rfl) (.cons (knD rfl) .nil)) .nil ⟨Nat.zero_le _, .rq1, .nil⟩ ?_))))))
 intro i h1
 refine AW.seq (AW.sg hE rfl (mvD rfl (mvD rfl (lnL sl.ints rfl rfl (c_lss rfl rfl rfl (OL.nil (AW.cond rfl (fun h17 => ?_) (fun h17 => ?_))))))))
 ·try simp only [dx9] at h17
  refine AW.skip (AW.seq (AW.block (AW.seq ?_)))
  have kg := k.get (t := i) (by omega)
  refine AW.rg hE rfl (mvD rfl (mvD rfl (ixLn sl.ints 0 rfl rfl (by omega) rfl rfl (ldRC ce.int rfl (c_lss rfl rfl (c := false) (by exact decide_eq_false (by omega)) (mvD rfl (OL.yes rfl ?_)))))))
  refine mvD rfl (OL.yes rfl (mvD rfl (OL.yes rfl (ixLn sl.ints 0 rfl rfl (by omega) rfl rfl (OL.yes rfl (ldRC ce.int rfl (OL.yes rfl ?_)))))))
  refine mvD rfl (OL.yes rfl (c_gtr rfl rfl (c := false) (by exact decide_eq_false (by omega)) (pkF rfl rfl (OL.nil (AW.cond rfl (fun hno => absurd hno (by decide)) (fun _ => ?_))))))
  exact AW.skip (AW.rg hE rfl (mvD rfl (add_i64 rfl rfl (by omega) (asD rfl (OL.nil (AW.again (x := i) (i + 1) (by omega) ⟨by omega, Knows.app .rq2 .rq1, .nil⟩))))))
 ·try simp only [dx9] at h17
  exact AW.exit (AW.sg hE rfl (asD rfl (OL.nil (AW.ret (RetQ.r ⟨_, .tmp rfl .nil, .le (VLe.refl _)⟩)))))
theorem ref34_Check {h : HM} {B : Nat} {w : List Int} (g : h.Good B) (k : WordOK h w) : FSpec P F.ref34_Check [vHM h, .d (ints w)] (.d (dI 0)) := by
 have s0 := g.form.sym0
 have s1 := g.form.sym1
 refine FSpec.intro fn.ref34_Check (by rfl) (by rfl) (nb9 (by rfl)) fun E hE => (AW.sg hE rfl (bxA rfl rfl fun b2 => (asD rfl (OL.nil (AW.seq (AW.sg hE rfl (ldPA ag.Hidden rfl rfl (vs := [_,_,_,_,_,_,_,_,_,_,_]) rfl (nb9 rfl) ?_)))))))
 refine clv rfl (.cons (VLe.refl _) (.nil)) (ref33_Check g) (asD rfl (OL.nil (AW.sg hE rfl (mvD rfl (c_neq rfl rfl (c := false) (by exact cne_f (by omega)) (OL.nil (AW.cond rfl (fun hno => absurd hno (by decide)) (fun _ => ?_))))))))
 refine AW.skip (AW.seq (AW.sg hE rfl (mvD rfl (faP fd.Hidden_0 rfl rfl (ldPC ce.int rfl rfl rfl (clv rfl (.cons (VLe.refl _) (.cons (VLe.refl _) (.nil))) (ref05_Valid k ⟨s0, s1⟩) (nt rfl ?_)))))))
 refine OL.nil (AW.cond rfl (fun hno => absurd hno (by decide)) (fun _ => ?_))
 exact AW.skip (AW.sg hE rfl (asD rfl (OL.nil (AW.ret (RetQ.r ⟨_, .tmp rfl .nil, .le (VLe.refl _)⟩)))))
end Go.Proofs.YtonndaibggjmjaaGreat

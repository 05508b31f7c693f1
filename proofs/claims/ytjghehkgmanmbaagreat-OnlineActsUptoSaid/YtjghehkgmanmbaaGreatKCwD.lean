/-
  Walks of the specification of chapter 36 on any input (printed by mk2.py).
-/
import Derived.Test.YtjghehkgmanmbaaGreatKSaC
import Derived.Test.YtjghehkgmanmbaaGreatKMod34b
set_option linter.unusedVariables false
set_option linter.unusedSimpArgs false
namespace Go.Proofs.YtjghehkgmanmbaaGreat
open Go Go.AL
theorem ref05_Alphabet {n : Nat} (hs : 1 ≤ n ∧ n ≤ 32) : FSpec P F.ref05_Alphabet [.d (dI n)] (.d (dB true)) := by
 refine FSpec.intro fn.ref05_Alphabet (by rfl) (by rfl) (nb9 (by rfl)) fun E hE => ?_
 refine AW.sg hE rfl ?_
 refine asD rfl ?_
 refine OL.nil ?_
 refine AW.sg hE rfl ?_
 refine mvD rfl ?_
 refine c_geq rfl rfl (c := true) (by first | exact decide_eq_true (by omega) | exact decide_eq_false (by omega) | exact cne_f (by omega) | exact cne_t (by omega) | rfl) ?_
 refine mvD rfl ?_
 refine OL.yes rfl ?_
 refine mvD rfl ?_
 refine OL.yes rfl ?_
 refine c_leq rfl rfl (c := true) (by first | exact decide_eq_true (by omega) | exact decide_eq_false (by omega) | exact cne_f (by omega) | exact cne_t (by omega) | rfl) ?_
 refine pkT rfl rfl ?_
 refine asD rfl ?_
 refine OL.nil ?_
 exact AW.ret (RetQ.r ⟨_, .tmp rfl .nil, .le (by first | exact VLe.refl _ | exact VLe.mt | exact vle_q0 | exact VLe.int (by omega) | exact VLe.bool (by simp_all))⟩)
theorem ref05_ValidA {h : HM} {w : List Int} (nw : w.length ≤ 1048576) (hs : 1 ≤ h.sym ∧ h.sym ≤ 32) : FSpec P F.ref05_Valid [.d (ints w), .d (dI h.sym)] (.d (dB (wokB h w))) := by
 refine FSpec.intro fn.ref05_Valid (by rfl) (by rfl) (nb9 (by rfl)) fun E hE => ?_
 refine AW.sg hE rfl ?_
 refine asD rfl ?_
 refine OL.nil ?_
 refine AW.seq ?_
 refine AW.sg hE rfl ?_
 refine mvD rfl ?_
 refine clv rfl (.cons (VLe.refl _) (.nil)) (ref05_Alphabet hs) ?_
 refine nt rfl ?_
 refine mvD rfl ?_
 refine OL.yes rfl ?_
 first | refine mvD rfl ?_ | refine mvO rfl ?_ | refine mvM rfl ?_
 refine OL.yes rfl ?_
 first | refine lnL sl.ints rfl rfl ?_ | refine lnO sl.ints rfl rfl ?_ | refine lnM sl.ints rfl rfl ?_ | refine lnD sl.ints rfl rfl rfl ?_
 refine OL.yes rfl ?_
 refine c_gtr rfl rfl rfl ?_
 refine pkF rfl rfl ?_
 refine OL.nil ?_
 refine AW.cond rfl (fun c13 => ?_) (fun c13 => ?_)
 ·have c13 := of_decide_eq_true c13
  refine AW.sg hE rfl ?_
  refine asD rfl ?_
  refine OL.nil ?_
  exact AW.ret (RetQ.r ⟨_, .tmp rfl .nil, .le (VLe.bool (wokB_f fun k => by have := k.1; omega))⟩)
 ·have c13 := of_decide_eq_false c13
  refine AW.skip ?_
  refine AW.seq ?_
  refine AW.sg hE rfl ?_
  refine asD rfl ?_
  refine OL.nil ?_
  refine AW.block ?_
  refine AW.whileK (α := Nat) [(0, _), (1, _)] [] (fun i => [(5, .d (dI i))]) (fun i => []) (fun i => i ≤ w.length ∧ ∀ j, j < i → 1 ≤ w.getD j 0 ∧ w.getD j 0 ≤ h.sym) (fun i => w.length - i) 0 (by repeat (first | exact Knows.nil | refine Knows.cons (by first | exact knD rfl | exact knA rfl | exact knP rfl | exact knO rfl | exact knM rfl | exact knE rfl | exact knR rfl | exact knF rfl | exact knT rfl | exact knJ) ?_)) .nil ⟨⟨Nat.zero_le _, fun j hj => absurd hj (Nat.not_lt_zero j)⟩, .cons (by first | exact VLe.refl _ | exact VLe.int (by omega) | exact VLe.mt | exact vle_q0 | exact VLe.osl | exact VLe.ptr) .nil, .nil⟩ ?_
  rintro i ⟨h1, h2⟩
  refine AW.seq ?_
  refine AW.sg hE rfl ?_
  refine mvD rfl ?_
  first | refine mvD rfl ?_ | refine mvO rfl ?_ | refine mvM rfl ?_
  first | refine lnL sl.ints rfl rfl ?_ | refine lnO sl.ints rfl rfl ?_ | refine lnM sl.ints rfl rfl ?_ | refine lnD sl.ints rfl rfl rfl ?_
  refine c_lss rfl rfl rfl ?_
  refine OL.nil ?_
  refine AW.cond rfl (fun h17 => ?_) (fun h17 => ?_)
  ·try simp only [dx9] at h17
   refine AW.skip ?_
   refine AW.seq ?_
   refine AW.block ?_
   refine AW.sg hE rfl ?_
   first | refine mvD rfl ?_ | refine mvO rfl ?_ | refine mvM rfl ?_
   refine mvD rfl ?_
   first | refine ixO sl.ints rfl rfl (by omega) (by omega) rfl ?_ | refine ixLn sl.ints 0 rfl rfl (by omega) rfl rfl ?_ | refine ixL sl.ints 0 rfl rfl (by omega) (by omega) rfl rfl ?_
   first | refine ldRC ce.int rfl ?_ | refine ldPC ce.int rfl rfl rfl ?_
   refine c_lss rfl rfl rfl ?_
   refine mvD rfl ?_
   refine OL.split 25 rfl (fun a1 => ?_) (fun a1 => ?_)
   ·have a1 : w.getD i 0 < 1 := of_decide_eq_true a1
    refine OL.nd rfl ?_
    refine OL.nd rfl ?_
    refine OL.nd rfl ?_
    refine OL.nd rfl ?_
    refine OL.nd rfl ?_
    refine OL.nd rfl ?_
    refine pkT rfl rfl ?_
    refine OL.nil ?_
    refine AW.cond rfl (fun _ => ?_) (fun hno => absurd hno (by decide))
    refine AW.sg hE rfl ?_
    refine asD rfl ?_
    refine OL.nil ?_
    exact AW.ret (RetQ.r ⟨_, .tmp rfl .nil, .le (VLe.bool (wokB_f fun k => by have := k.2 _ (getD_mem (show i < w.length by omega) 0); omega))⟩)
   ·have a1 : 1 ≤ w.getD i 0 := Int.not_lt.1 (of_decide_eq_false a1)
    refine OL.yes rfl ?_
    first | refine mvD rfl ?_ | refine mvO rfl ?_ | refine mvM rfl ?_
    refine OL.yes rfl ?_
    refine mvD rfl ?_
    refine OL.yes rfl ?_
    first | refine ixO sl.ints rfl rfl (by omega) (by omega) rfl ?_ | refine ixLn sl.ints 0 rfl rfl (by omega) rfl rfl ?_ | refine ixL sl.ints 0 rfl rfl (by omega) (by omega) rfl rfl ?_
    refine OL.yes rfl ?_
    first | refine ldRC ce.int rfl ?_ | refine ldPC ce.int rfl rfl rfl ?_
    refine OL.yes rfl ?_
    refine mvD rfl ?_
    refine OL.yes rfl ?_
    refine c_gtr rfl rfl rfl ?_
    refine pkF rfl rfl ?_
    refine OL.nil ?_
    refine AW.cond rfl (fun a2 => ?_) (fun a2 => ?_)
    ·have a2 : (h.sym : Int) < w.getD i 0 := of_decide_eq_true a2
     refine AW.sg hE rfl ?_
     refine asD rfl ?_
     refine OL.nil ?_
     exact AW.ret (RetQ.r ⟨_, .tmp rfl .nil, .le (VLe.bool (wokB_f fun k => by have := k.2 _ (getD_mem (show i < w.length by omega) 0); omega))⟩)
    ·have a2 : w.getD i 0 ≤ h.sym := Int.not_lt.1 (of_decide_eq_false a2)
     refine AW.skip ?_
     refine AW.rg hE rfl ?_
     refine mvD rfl ?_
     refine add_i64 rfl rfl (by omega) ?_
     refine asD rfl ?_
     refine OL.nil ?_
     exact AW.again (x := i) (i + 1) (by first | omega | (simp only []; omega)) ⟨⟨by omega, upto_stp h2 ⟨a1, a2⟩⟩, Knows.app .rq2 (.cons (by first | exact VLe.refl _ | exact VLe.int (by omega) | exact VLe.mt | exact vle_q0 | exact VLe.osl | exact VLe.ptr) .nil), .nil⟩
  ·try simp only [dx9] at h17
   refine AW.exit ?_
   refine AW.sg hE rfl ?_
   refine asD rfl ?_
   refine OL.nil ?_
   exact AW.ret (RetQ.r ⟨_, .tmp rfl .nil, .le (VLe.bool (wokB_t ⟨by omega, fun x hx => by obtain ⟨j, hj, rfl⟩ := mem_ix 0 hx; exact h2 j (by omega)⟩))⟩)
end Go.Proofs.YtjghehkgmanmbaaGreat

set_option linter.unusedVariables false
set_option linter.unusedSimpArgs false
namespace Go.Proofs.YtjghehkgmanmbaaGreat
open Go Go.AL
theorem ref34_CheckR {h : RM} {w : List Int} (zz : h.Sz) (nw : w.length ≤ 1048576) : FSpec P F.ref34_Check [vRM h, .d (ints w)] (.d (dI (wrdE h w))) := by
 refine FSpec.intro fn.ref34_Check (by rfl) (by rfl) (nb9 (by rfl)) fun E hE => (AW.sg hE rfl (bxA rfl rfl fun b2 => (asD rfl (OL.nil (AW.seq (AW.sg hE rfl (ldPA ag.Hidden rfl rfl (vs := [_,_,_,_,_,_,_,_,_,_,_]) rfl (nb9 rfl) ?_)))))))
 refine clv rfl (.cons (VLe.refl _) (.nil)) (ref33_CheckR zz) (asD rfl (OL.nil (AW.sg hE rfl (mvD rfl (c_neq rfl rfl rfl (OL.nil (AW.cond rfl (fun c11 => ?_) (fun c11 => ?_))))))))
 ·have c11 : ¬ chkP h = 0 := by simpa using c11
  exact AW.sg hE rfl (mvD rfl (asD rfl (OL.nil (AW.ret (RetQ.r ⟨_, .tmp rfl .nil, .le (VLe.int ((wrdE_e c11).symm))⟩)))))
 ·have c11 : chkP h = 0 := by simpa using c11
  obtain ⟨g, hv⟩ := chkP_good zz c11
  have s0 := g.form.sym0
  have s1 := g.form.sym1
  refine AW.boxW 2 (cellsHM (hm h)) rfl (vles_of_eq (V.ag.inj hv)) (AW.skip (AW.seq (AW.sg hE rfl (mvD rfl (faP fd.Hidden_0 rfl rfl (ldPC ce.int rfl rfl rfl (clv rfl (.cons (VLe.refl _) (.cons (VLe.refl _) (.nil))) (ref05_ValidA (h := hm h) nw ⟨s0, s1⟩) ?_)))))))
  refine nt rfl (OL.nil (AW.cond rfl (fun a1 => ?_) (fun a1 => ?_)))
  ·have a1 : ¬ WordOK (hm h) w := wokB_ff (by simpa using a1)
   exact AW.sg hE rfl (asD rfl (OL.nil (AW.ret (RetQ.r ⟨_, .tmp rfl .nil, .le (VLe.int ((wrdE_1 c11 a1).symm))⟩))))
  ·have a1 : WordOK (hm h) w := wokB_tt (by simpa using a1)
   exact AW.skip (AW.sg hE rfl (asD rfl (OL.nil (AW.ret (RetQ.r ⟨_, .tmp rfl .nil, .le (VLe.int ((wrdE_0 c11 a1).symm))⟩)))))
end Go.Proofs.YtjghehkgmanmbaaGreat

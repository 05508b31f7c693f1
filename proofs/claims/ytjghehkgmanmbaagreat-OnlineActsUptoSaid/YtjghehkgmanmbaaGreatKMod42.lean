/-
  M, part 42: drawings of any model.
-/
import Derived.Test.YtjghehkgmanmbaaGreatKVaC
import Derived.Test.YtjghehkgmanmbaaGreatKMod41
import Derived.Test.YtjghehkgmanmbaaGreatKAlgd
import Derived.Test.YtjghehkgmanmbaaGreatKMod40e
set_option linter.unusedVariables false
set_option linter.unusedSimpArgs false
namespace Go.Proofs.YtjghehkgmanmbaaGreat
open Go Go.AL
theorem ref_half : FSpec P F.ref01_Make [.d (dI 1), .d (dI 2)] (.tup [vQ (1 / 2), .d (dI 0)]) := by
 have h := ref_Make (n := 1) (d := 2) (by decide) (by decide) (by decide)
 rw [half_eq] at h; exact h
theorem ref05_Compare {l m : List Int} (nl : l.length ≤ 9223372036854775807) : FSpec P F.ref05_Compare [.d (ints l), .d (ints m)] (.d (dI (cmpI l m))) := by
 refine FSpec.intro fn.ref05_Compare (by rfl) (by rfl) (nb9 (by rfl)) fun E hE => (AW.sg hE rfl (asD rfl (OL.nil (AW.seq (AW.sg hE rfl (mvD rfl (lnL sl.ints rfl rfl ?_)))))))
 refine mvD rfl (lnL sl.ints rfl rfl (c_neq rfl rfl rfl (OL.nil (AW.cond rfl (fun h10 => ?_) (fun h10 => ?_)))))
 ·have hl : l.length ≠ m.length := by simp at h10; omega
  refine AW.seq (AW.sg hE rfl (mvD rfl (lnL sl.ints rfl rfl (mvD rfl (lnL sl.ints rfl rfl (c_lss rfl rfl rfl (OL.nil ?_)))))))
  refine AW.cond rfl (fun h15 => ?_) (fun h15 => ?_)
  ·try simp only [dx9] at h15
   exact AW.sg hE rfl (asD rfl (OL.nil (AW.ret (RetQ.r ⟨_, .tmp rfl .nil, .le (VLe.int (by unfold cmpI; rw [if_pos hl, if_pos (by omega)]))⟩))))
  ·try simp only [dx9] at h15
   exact AW.skip (AW.sg hE rfl (asD rfl (OL.nil (AW.ret (RetQ.r ⟨_, .tmp rfl .nil, .le (VLe.int (by unfold cmpI; rw [if_pos hl, if_neg (by omega)]))⟩)))))
 ·have hl : l.length = m.length := by simp at h10; omega
  refine AW.skip (AW.seq (AW.sg hE rfl (asD rfl (OL.nil (AW.block ?_)))))
  refine AW.whileK (α := Nat) [(0, _), (1, _)] [] (fun i => [(5, .d (dI i))]) (fun i => []) (fun i => i ≤ l.length ∧ lexI (l.drop i) (m.drop i) = lexI l m) (fun i => l.length - i) 0 (.cons (knD rfl) (.cons (knD rfl) .nil)) .nil ⟨⟨Nat.zero_le _, rfl⟩, .rq1, .nil⟩ ?_
  rintro i ⟨h1, h2⟩
  refine AW.seq (AW.sg hE rfl (mvD rfl (mvD rfl (lnL sl.ints rfl rfl (c_lss rfl rfl rfl (OL.nil (AW.cond rfl (fun h19 => ?_) (fun h19 => ?_))))))))
  ·try simp only [dx9] at h19
   refine AW.skip (AW.seq (AW.block (AW.seq (AW.seq (AW.dg 1 [0,1,2,3,4,5,6,7,8] order_free hE rfl (by kernel_rfl) (OI.of_OL (os := [_,_,_,_,_,_,_,_,_]) rfl ?_))))))
   refine mvD rfl (mvD rfl (ixLn sl.ints 0 rfl rfl (by omega) rfl rfl (ldRC ce.int rfl (mvD rfl (mvD rfl (ixLn sl.ints 0 rfl rfl (by omega) rfl rfl (ldRC ce.int rfl ?_)))))))
   refine c_lss rfl rfl rfl (OL.nil (AW.cond rfl (fun h30 => ?_) (fun h30 => ?_)))
   ·try simp only [dx9] at h30
    exact AW.sg hE rfl (asD rfl (OL.nil (AW.ret (RetQ.r ⟨_, .tmp rfl .nil, .le (VLe.int (by unfold cmpI; rw [if_neg (by omega), ← h2, lexI_step (by omega) (by omega), if_pos h30]))⟩))))
   ·try simp only [dx9] at h30
    refine AW.skip (AW.seq (AW.dg 1 [0,1,2,3,4,5,6,7,8] order_free hE rfl (by kernel_rfl) (OI.of_OL (os := [_,_,_,_,_,_,_,_,_]) rfl ?_)))
    refine mvD rfl (mvD rfl (ixLn sl.ints 0 rfl rfl (by omega) rfl rfl (ldRC ce.int rfl (mvD rfl (mvD rfl (ixLn sl.ints 0 rfl rfl (by omega) rfl rfl (ldRC ce.int rfl ?_)))))))
    refine c_gtr rfl rfl rfl (OL.nil (AW.cond rfl (fun h39 => ?_) (fun h39 => ?_)))
    ·try simp only [dx9] at h39
     exact AW.sg hE rfl (asD rfl (OL.nil (AW.ret (RetQ.r ⟨_, .tmp rfl .nil, .le (VLe.int (by unfold cmpI; rw [if_neg (by omega), ← h2, lexI_step (by omega) (by omega), if_neg h30, if_pos h39]))⟩))))
    ·try simp only [dx9] at h39
     exact AW.skip (AW.rg hE rfl (mvD rfl (add_i64 rfl rfl (by omega) (asD rfl (OL.nil (AW.again (x := i) (i + 1) (by omega) ⟨⟨by omega, by rw [lexI_step (by omega) (by omega), if_neg h30, if_neg h39] at h2; exact h2⟩, Knows.app .rq2 .rq1, .nil⟩))))))
  ·try simp only [dx9] at h19
   exact AW.exit (AW.sg hE rfl (asD rfl (OL.nil (AW.ret (RetQ.r ⟨_, .tmp rfl .nil, .le (VLe.int (by unfold cmpI; rw [if_neg (by omega), ← h2, List.drop_eq_nil_of_le (by omega)]; simp [lexI]))⟩)))))
end Go.Proofs.YtjghehkgmanmbaaGreat

set_option linter.unusedVariables false
set_option linter.unusedSimpArgs false
namespace Go.AL
open Go Go.BigFrame
def bitsN (b n : Nat) : List Int := (List.range b).map fun i => ((n / 2 ^ (b - 1 - i) % 2 : Nat) : Int)
end Go.AL

set_option linter.unusedVariables false
set_option linter.unusedSimpArgs false
namespace Go.AL
open Go Go.BigFrame
structure DRun where
 st : List Int
 w : List Int
 u : Int
def dr0 : DRun := ⟨[], [], 0⟩
def LastIs (out : List DRun) (st w : List Int) : Prop := 0 < out.length ∧ (out.getD (out.length - 1) dr0).st = st ∧ (out.getD (out.length - 1) dr0).w = w
instance (out : List DRun) (st w : List Int) : Decidable (LastIs out st w) := inferInstanceAs (Decidable (_ ∧ _))
def DRun.iv (h : HM) (x : DRun) : Span := rangeS h x.st x.w
structure Asc (h : HM) (b n : Nat) (out : List DRun) : Prop where
 ok : ∀ i, i < out.length → RunOK h (out.getD i dr0).st (out.getD i dr0).w
 asc : ∀ i, i + 1 < out.length → ((out.getD i dr0).iv h).before ((out.getD (i + 1) dr0).iv h)
 last : 0 < out.length → ∃ j u, j < n ∧ draw h (bitsN b j) = .run (out.getD (out.length - 1) dr0).st (out.getD (out.length - 1) dr0).w u
end Go.AL

set_option linter.unusedVariables false
set_option linter.unusedSimpArgs false
namespace Go.AL
open Go Go.BigFrame
theorem dn_lite {h : HM} (g : h.GoodW 1048576) (hs : h.st ≤ 4) (hy : h.sym ≤ 4) : ll h.dn ≤ 42992000 := Nat.le_trans (HM.dn_ll g hs hy) (by decide)
def RM.Lite (h : RM) : Prop := chkP h = 0 → h.st ≤ 4 ∧ h.sym ≤ 4
theorem RM.Lite.ll {h : RM} (l : h.Lite) (z : h.Sz) (e : chkP h = 0) : Go.AL.ll (hm h).dn ≤ 42992000 := by
 obtain ⟨g, _⟩ := chkP_good z e
 have h1 := (l e).1
 have h2 := (l e).2
 exact dn_lite g (by show h.st.toNat ≤ 4; omega) (by show h.sym.toNat ≤ 4; omega)
open Classical in
structure Aok (h : HM) (out : List DRun) : Prop where
 ok : ∀ i, i < out.length → RunOK h (out.getD i dr0).st (out.getD i dr0).w
end Go.AL

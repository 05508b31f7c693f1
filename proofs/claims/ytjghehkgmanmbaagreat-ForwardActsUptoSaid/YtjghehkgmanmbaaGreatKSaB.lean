/-
  Walks of drawings of any model, part 2: the package's three functions (printed by mk2.py).
-/
import Derived.Test.YtjghehkgmanmbaaGreatKVaC
import Derived.Test.YtjghehkgmanmbaaGreatKMod41
import Derived.Test.YtjghehkgmanmbaaGreatKAlgd
import Derived.Test.YtjghehkgmanmbaaGreatKMod40e
import Derived.Test.YtjghehkgmanmbaaGreatKAlg25
set_option linter.unusedVariables false
set_option linter.unusedSimpArgs false
namespace Go.Proofs.YtjghehkgmanmbaaGreat
open Go Go.AL
theorem ref_half : FSpec P F.ref01_Make [.d (dI 1), .d (dI 2)] (.tup [vQ (1 / 2), .d (dI 0)]) := by
 have h := ref_Make (n := 1) (d := 2) (by decide) (by decide) (by decide)
 rw [half_eq] at h; exact h
end Go.Proofs.YtjghehkgmanmbaaGreat

set_option linter.unusedVariables false
set_option linter.unusedSimpArgs false
namespace Go.AL
open Go Go.BigFrame
def bitsN (b n : Nat) : List Int := (List.range b).map fun i => ((n / 2 ^ (b - 1 - i) % 2 : Nat) : Int)
end Go.AL

set_option linter.unusedVariables false
set_option linter.unusedSimpArgs false
namespace Go.AL
open Go Go.BigFrame
structure DRun where
 st : List Int
 w : List Int
 u : Int
def dr0 : DRun := ⟨[], [], 0⟩
def LastIs (out : List DRun) (st w : List Int) : Prop := 0 < out.length ∧ (out.getD (out.length - 1) dr0).st = st ∧ (out.getD (out.length - 1) dr0).w = w
instance (out : List DRun) (st w : List Int) : Decidable (LastIs out st w) := inferInstanceAs (Decidable (_ ∧ _))
def DRun.iv (h : HM) (x : DRun) : Span := rangeS h x.st x.w
structure Asc (h : HM) (b n : Nat) (out : List DRun) : Prop where
 ok : ∀ i, i < out.length → RunOK h (out.getD i dr0).st (out.getD i dr0).w
 asc : ∀ i, i + 1 < out.length → ((out.getD i dr0).iv h).before ((out.getD (i + 1) dr0).iv h)
 last : 0 < out.length → ∃ j u, j < n ∧ draw h (bitsN b j) = .run (out.getD (out.length - 1) dr0).st (out.getD (out.length - 1) dr0).w u
end Go.AL

set_option linter.unusedVariables false
set_option linter.unusedSimpArgs false
namespace Go.AL
open Go Go.BigFrame
theorem dn_lite {h : HM} (g : h.GoodW 1048576) (hs : h.st ≤ 4) (hy : h.sym ≤ 4) : ll h.dn ≤ 42992000 := Nat.le_trans (HM.dn_ll g hs hy) (by decide)
def RM.Lite (h : RM) : Prop := chkP h = 0 → h.st ≤ 4 ∧ h.sym ≤ 4
theorem RM.Lite.ll {h : RM} (l : h.Lite) (z : h.Sz) (e : chkP h = 0) : Go.AL.ll (hm h).dn ≤ 42992000 := by
 obtain ⟨g, _⟩ := chkP_good z e
 have h1 := (l e).1
 have h2 := (l e).2
 exact dn_lite g (by show h.st.toNat ≤ 4; omega) (by show h.sym.toNat ≤ 4; omega)
open Classical in
structure Aok (h : HM) (out : List DRun) : Prop where
 ok : ∀ i, i < out.length → RunOK h (out.getD i dr0).st (out.getD i dr0).w
end Go.AL

set_option linter.unusedVariables false
set_option linter.unusedSimpArgs false
namespace Go.Proofs.YtjghehkgmanmbaaGreat
open Go Go.AL
noncomputable def wokB (h : HM) (w : List Int) : Bool := @decide (WordOK h w) (Classical.propDecidable _)
theorem wokB_t {h : HM} {w : List Int} (f : WordOK h w) : true = wokB h w := (@decide_eq_true _ (Classical.propDecidable _) f).symm
theorem wokB_f {h : HM} {w : List Int} (f : ¬ WordOK h w) : false = wokB h w := (@decide_eq_false _ (Classical.propDecidable _) f).symm
theorem wokB_tt {h : HM} {w : List Int} (e : wokB h w = true) : WordOK h w := Classical.byContradiction fun n => by rw [← wokB_f n] at e; cases e
theorem wokB_ff {h : HM} {w : List Int} (e : wokB h w = false) : ¬ WordOK h w := fun n => by rw [← wokB_t n] at e; cases e
theorem words_ValidA {h : HM} {w : List Int} (nw : w.length ≤ 1048576) (hs : 1 ≤ h.sym ∧ h.sym ≤ 32) : FSpec P F.words_Valid [.d (ints w), .d (dI h.sym)] (.d (dB (wokB h w))) := by
 refine FSpec.intro fn.words_Valid (by rfl) (by rfl) (nb9 (by rfl)) fun E hE => (AW.sg hE rfl (asD rfl (OL.nil (AW.seq (AW.sg hE rfl (mvD rfl (lnL sl.ints rfl rfl ?_)))))))
 refine mvD rfl (OL.nil (AW.block ?_))
 refine AW.whileK (α := Nat) [(0, _), (1, _), (7, _), (8, _)] [] (fun i => [(9, .d (dI i))]) (fun i => []) (fun i => i ≤ w.length ∧ ∀ j, j < i → 1 ≤ w.getD j 0 ∧ w.getD j 0 ≤ h.sym) (fun i => w.length - i) 0 (.cons (knD rfl) (.cons (knD rfl) (.cons (knD rfl) (.cons (knD rfl) .nil)))) .nil ⟨⟨Nat.zero_le _, fun j hj => absurd hj (Nat.not_lt_zero j)⟩, .cons (VLe.refl _) .nil, .nil⟩ ?_
 rintro i ⟨h1, h2⟩
 refine AW.sg hE rfl (c_lss rfl rfl rfl (OL.nil (AW.seq (AW.cond rfl (fun h10 => ?_) (fun h10 => ?_)))))
 ·try simp only [dx9] at h10
  refine AW.skip (AW.seq (AW.block (AW.sg hE rfl (ixLn sl.ints 0 rfl rfl (by omega) rfl rfl (ldRC ce.int rfl (asD rfl (OL.nil ?_)))))))
  refine AW.sg hE rfl (mvD rfl (c_lss rfl rfl rfl (mvD rfl (OL.split 15 rfl (fun a1 => ?_) (fun a1 => ?_)))))
  ·have a1 : w.getD i 0 < 1 := of_decide_eq_true a1
   refine OL.no rfl (by decide) (OL.no rfl (by decide) (OL.no rfl (by decide) (pkT rfl rfl (OL.nil (AW.cond rfl (fun _ => ?_) (fun hno => absurd hno (by decide)))))))
   exact AW.sg hE rfl (asD rfl (OL.nil (AW.ret (RetQ.r ⟨_, .tmp rfl .nil, .le (VLe.bool (wokB_f fun k => by have := k.2 _ (getD_mem (show i < w.length by omega) 0); omega))⟩))))
  ·have a1 : 1 ≤ w.getD i 0 := Int.not_lt.1 (of_decide_eq_false a1)
   refine OL.yes rfl (mvD rfl (OL.yes rfl (mvD rfl (OL.yes rfl (c_gtr rfl rfl rfl (pkF rfl rfl (OL.nil ?_)))))))
   refine AW.cond rfl (fun a2 => ?_) (fun a2 => ?_)
   ·have a2 : (h.sym : Int) < w.getD i 0 := of_decide_eq_true a2
    exact AW.sg hE rfl (asD rfl (OL.nil (AW.ret (RetQ.r ⟨_, .tmp rfl .nil, .le (VLe.bool (wokB_f fun k => by have := k.2 _ (getD_mem (show i < w.length by omega) 0); omega))⟩))))
   ·have a2 : w.getD i 0 ≤ h.sym := Int.not_lt.1 (of_decide_eq_false a2)
    exact AW.skip (AW.rg hE rfl (add_i64 rfl rfl (by omega) (mvD rfl (OL.nil (AW.again (x := i) (i + 1) (by omega) ⟨⟨by omega, upto_stp h2 ⟨a1, a2⟩⟩, Knows.app (.cons (VLe.refl _) (.cons (VLe.refl _) (.cons (VLe.refl _) (.cons (VLe.refl _) .nil)))) (.cons (VLe.refl _) .nil), .nil⟩)))))
 ·try simp only [dx9] at h10
  refine AW.exit (AW.sg hE rfl (mvD rfl (c_geq rfl rfl (c := true) (by exact decide_eq_true (by omega)) (mvD rfl (OL.yes rfl (mvD rfl (OL.yes rfl ?_)))))))
  refine c_leq rfl rfl (c := true) (by exact decide_eq_true (by omega)) (pkT rfl rfl (mvD rfl (OL.yes rfl (mvD rfl (OL.yes rfl (lnL sl.ints rfl rfl (OL.yes rfl ?_)))))))
  refine c_leq rfl rfl rfl (pkT rfl rfl (asD rfl (OL.nil ?_)))
  exact AW.ret (RetQ.r ⟨_, .tmp rfl .nil, .le (VLe.bool (by rcases Nat.lt_or_ge 256 w.length with hh | hh; rw [← wokB_f fun k => by have := k.1; omega]; exact decide_eq_false (by omega); rw [← wokB_t ⟨hh, fun x hx => by obtain ⟨j, hj, rfl⟩ := mem_ix 0 hx; exact h2 j (by omega)⟩]; exact decide_eq_true (by omega)))⟩)
end Go.Proofs.YtjghehkgmanmbaaGreat

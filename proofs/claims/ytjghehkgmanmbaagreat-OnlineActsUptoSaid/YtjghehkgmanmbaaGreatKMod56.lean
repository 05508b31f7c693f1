/-
  M, part 56: a whole word, decoded on any model.
-/
import Derived.Test.YtjghehkgmanmbaaGreatKMod54
set_option linter.unusedVariables false
set_option linter.unusedSimpArgs false
namespace Go.AL
open Go Go.BigFrame
def allS (h : HM) (w : List Int) (n : Nat) : Prop := ∀ t, t < n → someN h (runD h w t).1 (symX w t) h.st = true
theorem allS_zero (h : HM) (w : List Int) : allS h w 0 := fun t ht => absurd ht (Nat.not_lt_zero t)
theorem allS_succ {h : HM} {w : List Int} {n : Nat} (a : allS h w n) (e : someN h (runD h w n).1 (symX w n) h.st = true) : allS h w (n + 1) := fun t ht => by
 rcases Nat.lt_or_ge t n with h1 | h1
 ·exact a t h1
 ·obtain rfl : t = n := by omega
  exact e
theorem run_val {h : HM} {w : List Int} (g : h.GoodW 1048576) (hn : w.length ≤ 256) : ∀ t, t ≤ w.length → allS h w t → ValD (1 + 2097152 * t) h (runD h w t).1
 | 0, _, _ => val_open
 | t + 1, ht, a => by
  have k := run_val g hn t (by omega) fun s hs => a s (by omega)
  have e := run_t h w t
  have h1 := step_val g k (by omega) (by omega) (someN_iff.1 (a t (Nat.lt_succ_self t)))
  rw [show 1 + 2097152 * t + 2097152 = 1 + 2097152 * (t + 1) by omega] at h1
  exact h1
open Classical in
noncomputable def rnE (h : HM) (w : List Int) : Int := if allS h w w.length then finE h (runD h w w.length).1 else 11
open Classical in
noncomputable def rnP (h : HM) (w : List Int) : List Int := if allS h w w.length then finP h (runD h w w.length).1 else []
open Classical in
noncomputable def rnQ (h : HM) (w : List Int) : Rat := if allS h w w.length then (finF h (runD h w w.length).1 (runD h w w.length).1.sc.length).1 else 0
open Classical in
noncomputable def rnW (h : HM) (w : List Int) : List Int := if allS h w w.length ∧ finE h (runD h w w.length).1 = 0 then (runD h w w.length).2 ++ List.replicate ((finP h (runD h w w.length).1).length - (runD h w w.length).2.length) 0 else []
theorem rn_not {h : HM} {w : List Int} (n : ¬ allS h w w.length) : rnE h w = 11 ∧ rnP h w = [] ∧ rnQ h w = 0 ∧ rnW h w = [] := ⟨if_neg n, if_neg n, if_neg n, if_neg fun k => n k.1⟩
theorem rn_all {h : HM} {w : List Int} (a : allS h w w.length) : rnE h w = finE h (runD h w w.length).1 ∧ rnP h w = finP h (runD h w w.length).1 ∧ rnQ h w = (finF h (runD h w w.length).1 (runD h w w.length).1.sc.length).1 := ⟨if_pos a, if_pos a, if_pos a⟩
theorem rnW_no {h : HM} {w : List Int} (e : finE h (runD h w w.length).1 ≠ 0) : rnW h w = [] := if_neg fun k => e k.2
theorem rnW_ok {h : HM} {w : List Int} (a : allS h w w.length) (e : finE h (runD h w w.length).1 = 0) : rnW h w = (runD h w w.length).2 ++ List.replicate ((finP h (runD h w w.length).1).length - (runD h w w.length).2.length) 0 := if_pos ⟨a, e⟩
theorem finE_or (h : HM) (o : Dec) : finE h o = 0 ∨ finE h o = 11 := by unfold finE; split <;> simp
theorem finE_no {h : HM} {o : Dec} (e : finE h o ≠ 0) : (finF h o o.sc.length).1 = 0 ∧ finP h o = [] := by
 unfold finE at e
 split at e
 ·rename_i h1; exact ⟨h1, if_pos h1⟩
 ·exact absurd rfl e
theorem finE_yes {h : HM} {o : Dec} (e : finE h o = 0) : finP h o = o.dn ++ (finF h o o.sc.length).2 := by
 unfold finE at e
 split at e
 ·cases e
 ·rename_i h1; exact if_neg h1
open Classical in
noncomputable def rwE (r : RM) (w : List Int) : Int := if wrdE r w = 0 then rnE (hm r) w else wrdE r w
open Classical in
noncomputable def rwP (r : RM) (w : List Int) : List Int := if wrdE r w = 0 then rnP (hm r) w else []
open Classical in
noncomputable def rwQ (r : RM) (w : List Int) : Rat := if wrdE r w = 0 then rnQ (hm r) w else 0
open Classical in
noncomputable def rwW (r : RM) (w : List Int) : List Int := if wrdE r w = 0 then rnW (hm r) w else []
theorem rw_no {r : RM} {w : List Int} (n : ¬ wrdE r w = 0) : rwE r w = wrdE r w ∧ rwP r w = [] ∧ rwQ r w = 0 ∧ rwW r w = [] := ⟨if_neg n, if_neg n, if_neg n, if_neg n⟩
theorem rw_yes {r : RM} {w : List Int} (e : wrdE r w = 0) : rwE r w = rnE (hm r) w ∧ rwP r w = rnP (hm r) w ∧ rwQ r w = rnQ (hm r) w ∧ rwW r w = rnW (hm r) w := ⟨if_pos e, if_pos e, if_pos e, if_pos e⟩
end Go.AL

/-
  M, chapter 40, part 7: the runs that all lists of some bits choose ascend.
-/
import Derived.Test.YtcebciggodhmcaaGreatMod40f
set_option linter.unusedVariables false
set_option linter.unusedSimpArgs false
namespace Go.AL
open Go Go.BigFrame

structure DRun where
  st : List Int
  w : List Int
  u : Int
def dr0 : DRun := ⟨[], [], 0⟩
def LastIs (out : List DRun) (st w : List Int) : Prop := 0 < out.length ∧ (out.getD (out.length - 1) dr0).st = st ∧ (out.getD (out.length - 1) dr0).w = w
instance (out : List DRun) (st w : List Int) : Decidable (LastIs out st w) := inferInstanceAs (Decidable (_ ∧ _))
def addRun (out : List DRun) : Drawing → List DRun
  | .err _ => out
  | .run st w u => if LastIs out st w then out else out ++ [⟨st, w, u⟩]
def allF (h : HM) (b : Nat) : Nat → List DRun
  | 0 => []
  | n + 1 => addRun (allF h b n) (draw h (bitsN b n))
theorem addRun_len (out : List DRun) (d : Drawing) : (addRun out d).length ≤ out.length + 1 := by
  cases d with
  | err e => exact Nat.le_succ _
  | run st w u => unfold addRun; simp only; split <;> simp
theorem allF_len (h : HM) (b : Nat) : ∀ n, (allF h b n).length ≤ n
  | 0 => Nat.le_refl _
  | n + 1 => Nat.le_trans (addRun_len _ _) (Nat.succ_le_succ (allF_len h b n))
def DRun.iv (h : HM) (x : DRun) : Span := rangeS h x.st x.w
structure Asc (h : HM) (b n : Nat) (out : List DRun) : Prop where
  ok : ∀ i, i < out.length → RunOK h (out.getD i dr0).st (out.getD i dr0).w
  asc : ∀ i, i + 1 < out.length → ((out.getD i dr0).iv h).before ((out.getD (i + 1) dr0).iv h)
  last : 0 < out.length → ∃ j u, j < n ∧ draw h (bitsN b j) = .run (out.getD (out.length - 1) dr0).st (out.getD (out.length - 1) dr0).w u
/-- The numbers that begin with all bits lie in the run's interval. -/
theorem bits_in {h : HM} {B b n : Nat} (g : h.Good B) {st w : List Int} {u : Nat} (hd : draw h (bitsN b n) = .run st w u) : (rdN (bitsN b n) b).read.inside (rangeS h st w) := by
  have hu := draw_used hd
  rw [bitsN_len] at hu
  have h1 := rdN_inside (bitsN b n) u (b - u)
  rw [show u + (b - u) = b by omega] at h1
  exact inside_trans h1 (draw_range g hd).1
theorem asc_new {h : HM} {B b j n : Nat} (g : h.Good B) {st w st2 w2 : List Int} {u u2 : Nat} (hjn : j < n) (hn : n < 2 ^ b) (hj : draw h (bitsN b j) = .run st w u) (hd : draw h (bitsN b n) = .run st2 w2 u2) (hne : ¬ (st = st2 ∧ w = w2)) : (rangeS h st w).before (rangeS h st2 w2) := by
  rcases range_apart g (draw_ok g.form hj) (draw_ok g.form hd) hne with e | e
  · exact e
  · exfalso
    have h1 := bits_before hjn hn
    have h2 := before_in e (bits_in g hd) (bits_in g hj)
    have h3 : (rdN (bitsN b j) b).read.lo + (rdN (bitsN b j) b).read.len ≤ (rdN (bitsN b n) b).read.lo := h1
    have h4 : (rdN (bitsN b n) b).read.lo + (rdN (bitsN b n) b).read.len ≤ (rdN (bitsN b j) b).read.lo := h2
    have h5 := lenT_pos b
    rw [rdN_len] at h3 h4
    grind
theorem allF_asc {h : HM} {B b : Nat} (g : h.Good B) : ∀ n, n ≤ 2 ^ b → Asc h b n (allF h b n)
  | 0, _ => ⟨fun i hi => absurd hi (Nat.not_lt_zero i), fun i hi => absurd hi (Nat.not_lt_zero (i + 1)), fun hi => absurd hi (Nat.lt_irrefl 0)⟩
  | n + 1, hn => by
    have ih := allF_asc (b := b) g n (by omega)
    rw [allF]
    cases hd : draw h (bitsN b n) with
    | err e => exact ⟨ih.ok, ih.asc, fun hl => by obtain ⟨j, u, hj, e⟩ := ih.last hl; exact ⟨j, u, by omega, e⟩⟩
    | run st w u =>
      have hok := draw_ok g.form hd
      unfold addRun
      simp only
      split
      · exact ⟨ih.ok, ih.asc, fun hl => by obtain ⟨j, u, hj, e⟩ := ih.last hl; exact ⟨j, u, by omega, e⟩⟩
      · rename_i hno
        have hlt : ∀ i, i < (allF h b n).length → (allF h b n ++ [(⟨st, w, u⟩ : DRun)]).getD i dr0 = (allF h b n).getD i dr0 := fun i hi => getD_app_lt hi dr0
        have hla : (allF h b n ++ [(⟨st, w, u⟩ : DRun)]).getD (allF h b n).length dr0 = ⟨st, w, u⟩ := getD_snoc_len _ _ _
        have hlen : (allF h b n ++ [(⟨st, w, u⟩ : DRun)]).length = (allF h b n).length + 1 := by simp
        refine ⟨fun i hi => ?_, fun i hi => ?_, fun _ => ?_⟩
        · rcases Nat.lt_or_ge i (allF h b n).length with h1 | h1
          · rw [hlt i h1]; exact ih.ok i h1
          · obtain rfl : i = (allF h b n).length := by omega
            rw [hla]; exact hok
        · rcases Nat.lt_or_ge (i + 1) (allF h b n).length with h1 | h1
          · rw [hlt i (by omega), hlt (i + 1) h1]; exact ih.asc i h1
          · have e : i + 1 = (allF h b n).length := by omega
            rw [hlt i (by omega), e, hla]
            obtain ⟨j, u2, hj, hdj⟩ := ih.last (by omega)
            rw [show (allF h b n).length - 1 = i by omega] at hdj
            exact asc_new g hj (by omega) hdj hd fun e2 => hno ⟨by omega, by rw [show (allF h b n).length - 1 = i by omega]; exact e2.1, by rw [show (allF h b n).length - 1 = i by omega]; exact e2.2⟩
        · rw [hlen, Nat.add_sub_cancel, hla]
          exact ⟨n, u, by omega, hd⟩
end Go.AL

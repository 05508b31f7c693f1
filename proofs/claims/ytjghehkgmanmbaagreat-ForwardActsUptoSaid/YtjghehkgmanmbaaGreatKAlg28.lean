/-
  AL, part 28: operations that are right of the machine by their own proof: slices of an owned row from a place on, copies within one row.
-/
import Derived.Test.YtjghehkgmanmbaaGreatKAlg27
set_option linter.unusedVariables false
set_option linter.unusedSimpArgs false
namespace Go.AL
open Go Go.BigFrame
def SO (P : Program) (E : Env) (o : Oper) (K : S → Prop) (s : S) : Prop :=
 ∀ F a w, Run E F s a w → Good P ((execOp a.eval o).run P w) fun u w' => ∃ F' s', Run E F' s' (a.put o.dst u) w' ∧ K s'
def SG (P : Program) (E : Env) (ops : Array Oper) (o : Oper) (K : S → Prop) (s : S) : Prop := OG P 0 ops o K s ∨ (o.guard = none ∧ SO P E o K s)
theorem SG.sound {P : Program} {E : Env} {F : Hp} {s : S} {a : Act} {w : World} {ops : Array Oper} {i : Nat} {o : Oper} {K : S → Prop} {Q' : Exit → Act → World → Prop} {next : Act → World → Prop} (ho : ops[i]? = some o) (h : SG P E ops o K s) (hr : Run E F s a w) (hd : Below' E.n o.dst)
  (hk : ∀ F' s' a' w', Run E F' s' a' w' → K s' → next a' w') : wpOp P ops Q' i next a w := by
 rcases h with h | ⟨hg, h⟩
 ·exact OG.sound ho h hr hd hk
 ·unfold wpOp
  simp only [ho]
  rw [if_pos (by simp [Region.wanted, hg])]
  exact .inl ((h F a w hr).wp fun u w' ⟨F', s', hr', hk'⟩ => hk F' s' _ w' hr' hk')
theorem SG.of_SO {P : Program} {E : Env} {ops : Array Oper} {K : S → Prop} {s : S} {dst : Option Nat} {op : Op} {ty : TypeId} {pos : String} {after : Array Edge} (h : SO P E ⟨dst, op, ty, pos, after, none⟩ K s) : SG P E ops ⟨dst, op, ty, pos, after, none⟩ K s := .inr ⟨rfl, h⟩
def SL (P : Program) (E : Env) (ops : Array Oper) (K : S → Prop) : List Oper → S → Prop
 | [], s => K s
 | o :: r, s => SG P E ops o (SL P E ops K r) s
theorem SL.wpList {P : Program} {E : Env} {ops : Array Oper} {Q : Exit → S → Prop} : ∀ (l : List Oper) {s : S} {a : Act} {F : Hp} {w : World}, Run E F s a w → (∀ o, o ∈ l → Below' E.n o.dst) → SL P E ops (Q .normal) l s →
  Go.wpList P ops (PostQ E Q) l a w
 | [], s, a, F, w, hr, _, h => ⟨F, s, hr, h⟩
 | o :: r, s, a, F, w, hr, hd, h => by
  have hdo := hd o (List.mem_cons_self ..)
  have hdr := fun x hx => hd x (List.mem_cons_of_mem _ hx)
  unfold Go.wpList
  unfold SL at h
  rcases h with h | ⟨hg, h⟩
  ·unfold OG at h
   cases hg : o.guard with
   | none =>
    simp only [hg] at h
    rw [if_pos (by simp [Region.wanted, hg])]
    exact .inl ((h.sound hr hdo).wp fun u w' ⟨F', s', hr', hk⟩ => SL.wpList r hr' hdr hk)
   | some q =>
    obtain ⟨j, want⟩ := q
    simp only [hg] at h
    obtain ⟨b, h1, h2⟩ := h
    have hy := gval_yielded hr h1
    rcases h2 with ⟨e, h2⟩ | ⟨e, h2⟩
    ·rw [if_pos (by simp [Region.wanted, hg, hy, e])]
     exact .inl ((h2.sound hr hdo).wp fun u w' ⟨F', s', hr', hk⟩ => SL.wpList r hr' hdr hk)
    ·rw [if_neg (by simp [Region.wanted, hg, hy, e])]
     exact SL.wpList r (hr.junk hdo) hdr h2
  ·rw [if_pos (by simp [Region.wanted, hg])]
   exact .inl ((h F a w hr).wp fun u w' ⟨F', s', hr', hk⟩ => SL.wpList r hr' hdr hk)
theorem AW.regionS {P : Program} {E : Env} {s : S} {id : Nat} {ops : Array Oper} {Q : Exit → S → Prop} (hd : dstOK E.n ops = true) (h : SL P E ops (Q .normal) ops.toList s) : AW P E (.region id ops false) Q s :=
 fun _ _ _ hr => wp_region_list (SL.wpList _ hr (dstOK.spec hd) h)
theorem SL.ofOL {P : Program} {E : Env} {ops : Array Oper} {K : S → Prop} {o : Oper} {r : List Oper} {s : S} (h : OL P 0 ops (SL P E ops K r) [o] s) : SL P E ops K (o :: r) s := .inl h
theorem SL.ofSO {P : Program} {E : Env} {ops : Array Oper} {K : S → Prop} {o : Oper} {r : List Oper} {s : S} (hg : o.guard = none) (h : SO P E o (SL P E ops K r) s) : SL P E ops K (o :: r) s := .inr ⟨hg, h⟩
section
variable {P : Program} {E : Env} {K : S → Prop} {s : S}
theorem Run.drop {E : Env} {F : Hp} {s : S} {a : Act} {w : World} (h : Run E F s a w) (id : Nat) : Run E F ⟨s.ρ, upd s.M id none⟩ a w := by
 have part : ∀ j q, (upd s.M id none) j = some q → s.M j = some q := fun j q hq => by unfold upd at hq; split at hq; cases hq; exact hq
 exact ⟨sim_sub h.sim part, h.grow, h.f0, h.fnew, fun j q k hq hk => h.mnew j q k (part j q hq) hk, h.size, h.defers, h.slots⟩
theorem Run.undrop {E : Env} {F : Hp} {s : S} {a : Act} {w : World} {id : Nat} (h : Run E F ⟨s.ρ, upd s.M id none⟩ a w) : Run E F ⟨s.ρ, upd s.M id (some deadBlk)⟩ a w := by
 have part : ∀ j q, (upd s.M id (some deadBlk)) j = some q → q = deadBlk ∨ (upd s.M id none) j = some q := fun j q hq => by
  unfold upd at hq ⊢
  split at hq
  ·exact .inl (Option.some.inj hq).symm
  ·rename_i e; rw [if_neg e]; exact .inr hq
 have no : ∀ k, ¬ deadBlk.owns k := fun k hk => absurd hk.1 (Nat.lt_irrefl 0)
 refine ⟨⟨h.sim.imm, fun j q hq => ?_, fun j q k hq hk => ?_, fun i j bi bj k hi hj ki kj => ?_⟩, h.grow, h.f0, h.fnew, fun j q k hq hk => ?_, h.size, h.defers, h.slots⟩
 ·rcases part j q hq with rfl | h1
  ·exact ⟨Nat.le_refl _, fun x hx => by simp at hx, fun hc => absurd hc (Nat.lt_irrefl 0)⟩
  ·exact h.sim.own j q h1
 ·rcases part j q hq with rfl | h1
  ·exact absurd hk (no k)
  ·exact h.sim.apart j q k h1 hk
 ·rcases part i bi hi with rfl | h1
  ·exact absurd ki (no k)
  ·rcases part j bj hj with rfl | h2
   ·exact absurd kj (no k)
   ·exact h.sim.inj i j bi bj k h1 h2 ki kj
 ·rcases part j q hq with rfl | h1
  ·exact absurd hk (no k)
  ·exact h.mnew j q k h1 hk
end
end Go.AL

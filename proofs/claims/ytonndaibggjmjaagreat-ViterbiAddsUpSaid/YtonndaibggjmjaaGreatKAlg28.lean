/-
  AL, part 28: operations that are right of the machine by their own proof: slices of an owned row from a place on, copies within one row.
-/
import Derived.Test.YtonndaibggjmjaaGreatKAlg26
set_option linter.unusedVariables false
set_option linter.unusedSimpArgs false
namespace Go.AL
open Go Go.BigFrame
def pS (s0 : S) (val : Nat → (Nat → Nat × Nat) → V) (blk : Nat → (Nat → Nat × Nat) → Option Blk) (own : Nat → Option Nat) (β : Nat → Nat × Nat) (L : Array Bool) : S :=
  ⟨fun t => match own t with | some i => if L.getD i false = true then val t β else s0.ρ t | none => s0.ρ t,
   fun t => match own t with | some i => if L.getD i false = true then (match blk t β with | some b => some b | none => s0.M t) else s0.M t | none => s0.M t⟩
def depB (ops : Array Oper) (i j : Nat) : Bool := match ops[i]? with | some o => o.after.toList.any fun e => Region.binds .any e && e.on == j | none => false
structure Come (ops : Array Oper) (L : Array Bool) (i : Nat) : Prop where
 size : L.size = ops.size
 no : L.getD i false = false
 dep : ∀ j, depB ops i j = true → L.getD j false = true
 closed : ∀ k j, L.getD k false = true → depB ops k j = true → L.getD j false = true
section
variable {P : Program} {E : Env} {s0 : S} {val : Nat → (Nat → Nat × Nat) → V} {blk : Nat → (Nat → Nat × Nat) → Option Blk} {own : Nat → Option Nat} {β : Nat → Nat × Nat} {L : Array Bool}
theorem pS_old {t : Nat} (h : own t = none) : (pS s0 val blk own β L).ρ t = s0.ρ t := by simp only [pS, h]
theorem pS_new {t i : Nat} (h : own t = some i) (hi : L.getD i false = true) : (pS s0 val blk own β L).ρ t = val t β := by simp only [pS, h, hi, if_true]
theorem pS_Mold {t : Nat} (h : own t = none) : (pS s0 val blk own β L).M t = s0.M t := by simp only [pS, h]
theorem pS_none (hL : ∀ i, L.getD i false = false) : pS s0 val blk own β L = s0 := by
 cases s0 with
 | mk ρ M =>
  simp only [pS, S.mk.injEq]
  constructor
  ·funext t
   cases own t with
   | none => rfl
   | some i => simp [hL i]
  ·funext t
   cases own t with
   | none => rfl
   | some i => simp [hL i]
theorem getD_set_b {i j : Nat} (hi : i < L.size) : (L.setIfInBounds i true).getD j false = if j = i then true else L.getD j false := by
 simp only [Array.getD_eq_getD_getElem?, Array.getElem?_setIfInBounds]
 by_cases hji : i = j
 ·subst hji; simp [hi]
 ·simp [hji, Ne.symm hji]
theorem S_ext {a b : S} (h1 : ∀ t, a.ρ t = b.ρ t) (h2 : ∀ t, a.M t = b.M t) : a = b := by
 cases a; cases b
 simp only [S.mk.injEq]
 exact ⟨funext h1, funext h2⟩
theorem pS_other {t i : Nat} (hi : i < L.size) (hne : own t ≠ some i) : (pS s0 val blk own β L).ρ t = (pS s0 val blk own β (L.setIfInBounds i true)).ρ t ∧ (pS s0 val blk own β L).M t = (pS s0 val blk own β (L.setIfInBounds i true)).M t := by
 cases ho : own t with
 | none => rw [pS_old ho, pS_old ho, pS_Mold ho, pS_Mold ho]; exact ⟨rfl, rfl⟩
 | some j =>
  have hj : j ≠ i := fun e => hne (by rw [ho, e])
  have e := getD_set_b (L := L) (i := i) (j := j) hi
  rw [if_neg hj] at e
  simp only [pS, ho, e]
  exact ⟨by first | trivial | rfl, by first | trivial | rfl⟩
theorem pS_put {d i : Nat} (h : own d = some i) (hu : ∀ t, own t = some i → t = d) (hi : i < L.size) (hb : blk d β = none) : (pS s0 val blk own β L).put (some d) (val d β) = pS s0 val blk own β (L.setIfInBounds i true) := by
 have hs : (L.setIfInBounds i true).getD i false = true := by rw [getD_set_b hi, if_pos rfl]
 refine S_ext (fun t => ?_) (fun t => ?_)
 ·show upd (pS s0 val blk own β L).ρ d (val d β) t = _
  by_cases ht : t = d
  ·subst ht; rw [upd_same, pS_new h hs]
  ·rw [upd_ne _ _ ht]; exact (pS_other hi fun e => ht (hu t e)).1
 ·show (pS s0 val blk own β L).M t = _
  by_cases ht : t = d
  ·subst ht
   simp only [pS, h, hs, hb, if_true, ite_self]
  ·exact (pS_other hi fun e => ht (hu t e)).2
theorem OG.of_OL {m : Nat} {ops : Array Oper} {o : Oper} {K : S → Prop} {s : S} (h : OL P m ops K [o] s) : OG P m ops o K s := h
theorem lt_size {ops : Array Oper} (n : Nat) {i : Nat} (h : L.size = ops.size) (hn : ops.size = n) (hi : i < n) : i < L.size := by omega
end
end Go.AL

set_option linter.unusedVariables false
set_option linter.unusedSimpArgs false
namespace Go.AL
open Go Go.BigFrame
def SO (P : Program) (E : Env) (o : Oper) (K : S → Prop) (s : S) : Prop :=
 ∀ F a w, Run E F s a w → Good P ((execOp a.eval o).run P w) fun u w' => ∃ F' s', Run E F' s' (a.put o.dst u) w' ∧ K s'
def SG (P : Program) (E : Env) (ops : Array Oper) (o : Oper) (K : S → Prop) (s : S) : Prop := OG P 0 ops o K s ∨ (o.guard = none ∧ SO P E o K s)
theorem SG.sound {P : Program} {E : Env} {F : Hp} {s : S} {a : Act} {w : World} {ops : Array Oper} {i : Nat} {o : Oper} {K : S → Prop} {Q' : Exit → Act → World → Prop} {next : Act → World → Prop} (ho : ops[i]? = some o) (h : SG P E ops o K s) (hr : Run E F s a w) (hd : Below' E.n o.dst)
  (hk : ∀ F' s' a' w', Run E F' s' a' w' → K s' → next a' w') : wpOp P ops Q' i next a w := by
 rcases h with h | ⟨hg, h⟩
 ·exact OG.sound ho h hr hd hk
 ·unfold wpOp
  simp only [ho]
  rw [if_pos (by simp [Region.wanted, hg])]
  exact .inl ((h F a w hr).wp fun u w' ⟨F', s', hr', hk'⟩ => hk F' s' _ w' hr' hk')
theorem SG.of_SO {P : Program} {E : Env} {ops : Array Oper} {K : S → Prop} {s : S} {dst : Option Nat} {op : Op} {ty : TypeId} {pos : String} {after : Array Edge} (h : SO P E ⟨dst, op, ty, pos, after, none⟩ K s) : SG P E ops ⟨dst, op, ty, pos, after, none⟩ K s := .inr ⟨rfl, h⟩
def SL (P : Program) (E : Env) (ops : Array Oper) (K : S → Prop) : List Oper → S → Prop
 | [], s => K s
 | o :: r, s => SG P E ops o (SL P E ops K r) s
theorem SL.wpList {P : Program} {E : Env} {ops : Array Oper} {Q : Exit → S → Prop} : ∀ (l : List Oper) {s : S} {a : Act} {F : Hp} {w : World}, Run E F s a w → (∀ o, o ∈ l → Below' E.n o.dst) → SL P E ops (Q .normal) l s →
  Go.wpList P ops (PostQ E Q) l a w
 | [], s, a, F, w, hr, _, h => ⟨F, s, hr, h⟩
 | o :: r, s, a, F, w, hr, hd, h => by
  have hdo := hd o (List.mem_cons_self ..)
  have hdr := fun x hx => hd x (List.mem_cons_of_mem _ hx)
  unfold Go.wpList
  unfold SL at h
  rcases h with h | ⟨hg, h⟩
  ·unfold OG at h
   cases hg : o.guard with
   | none =>
    simp only [hg] at h
    rw [if_pos (by simp [Region.wanted, hg])]
    exact .inl ((h.sound hr hdo).wp fun u w' ⟨F', s', hr', hk⟩ => SL.wpList r hr' hdr hk)
   | some q =>
    obtain ⟨j, want⟩ := q
    simp only [hg] at h
    obtain ⟨b, h1, h2⟩ := h
    have hy := gval_yielded hr h1
    rcases h2 with ⟨e, h2⟩ | ⟨e, h2⟩
    ·rw [if_pos (by simp [Region.wanted, hg, hy, e])]
     exact .inl ((h2.sound hr hdo).wp fun u w' ⟨F', s', hr', hk⟩ => SL.wpList r hr' hdr hk)
    ·rw [if_neg (by simp [Region.wanted, hg, hy, e])]
     exact SL.wpList r (hr.junk hdo) hdr h2
  ·rw [if_pos (by simp [Region.wanted, hg])]
   exact .inl ((h F a w hr).wp fun u w' ⟨F', s', hr', hk⟩ => SL.wpList r hr' hdr hk)
theorem SL.ofOL {P : Program} {E : Env} {ops : Array Oper} {K : S → Prop} {o : Oper} {r : List Oper} {s : S} (h : OL P 0 ops (SL P E ops K r) [o] s) : SL P E ops K (o :: r) s := .inl h
theorem SL.ofSO {P : Program} {E : Env} {ops : Array Oper} {K : S → Prop} {o : Oper} {r : List Oper} {s : S} (hg : o.guard = none) (h : SO P E o (SL P E ops K r) s) : SL P E ops K (o :: r) s := .inr ⟨hg, h⟩
section
variable {P : Program} {E : Env} {K : S → Prop} {s : S}
theorem Run.drop {E : Env} {F : Hp} {s : S} {a : Act} {w : World} (h : Run E F s a w) (id : Nat) : Run E F ⟨s.ρ, upd s.M id none⟩ a w := by
 have part : ∀ j q, (upd s.M id none) j = some q → s.M j = some q := fun j q hq => by unfold upd at hq; split at hq; cases hq; exact hq
 exact ⟨sim_sub h.sim part, h.grow, h.f0, h.fnew, fun j q k hq hk => h.mnew j q k (part j q hq) hk, h.size, h.defers, h.slots⟩
theorem Run.undrop {E : Env} {F : Hp} {s : S} {a : Act} {w : World} {id : Nat} (h : Run E F ⟨s.ρ, upd s.M id none⟩ a w) : Run E F ⟨s.ρ, upd s.M id (some deadBlk)⟩ a w := by
 have part : ∀ j q, (upd s.M id (some deadBlk)) j = some q → q = deadBlk ∨ (upd s.M id none) j = some q := fun j q hq => by
  unfold upd at hq ⊢
  split at hq
  ·exact .inl (Option.some.inj hq).symm
  ·rename_i e; rw [if_neg e]; exact .inr hq
 have no : ∀ k, ¬ deadBlk.owns k := fun k hk => absurd hk.1 (Nat.lt_irrefl 0)
 refine ⟨⟨h.sim.imm, fun j q hq => ?_, fun j q k hq hk => ?_, fun i j bi bj k hi hj ki kj => ?_⟩, h.grow, h.f0, h.fnew, fun j q k hq hk => ?_, h.size, h.defers, h.slots⟩
 ·rcases part j q hq with rfl | h1
  ·exact ⟨Nat.le_refl _, fun x hx => by simp at hx, fun hc => absurd hc (Nat.lt_irrefl 0)⟩
  ·exact h.sim.own j q h1
 ·rcases part j q hq with rfl | h1
  ·exact absurd hk (no k)
  ·exact h.sim.apart j q k h1 hk
 ·rcases part i bi hi with rfl | h1
  ·exact absurd ki (no k)
  ·rcases part j bj hj with rfl | h2
   ·exact absurd kj (no k)
   ·exact h.sim.inj i j bi bj k h1 h2 ki kj
 ·rcases part j q hq with rfl | h1
  ·exact absurd hk (no k)
  ·exact h.mnew j q k h1 hk
end
end Go.AL

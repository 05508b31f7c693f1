/-
  AL, part 29: rows of rows, appended to in place: a function that takes an owned row over and hands one back.
-/
import Derived.Test.YtonndaibggjmjaaGreatKAlg28
set_option linter.unusedVariables false
set_option linter.unusedSimpArgs false
namespace Go.AL
open Go Go.BigFrame
section
variable {P : Program} {ev : Operand → V} {a : Act} {F : Hp} {w : World} {M : Mem}
theorem RowOK.shrink {b c e sz : Nat} {es : List D} (h : RowOK F w b c e sz es) (n : Nat) : RowOK F w b c e sz (es.take n) := by
 obtain ⟨g0, g1, g2⟩ := h
 refine ⟨by rw [List.length_take]; omega, fun x hx => g1 x (List.mem_of_mem_take hx), fun hc => ?_⟩
 obtain ⟨cs, k1, k2, k3, k4⟩ := g2 hc
 refine ⟨cs, k1, k2, k3, fun i d u hd hu => k4 i d u ?_ hu⟩
 obtain ⟨r, hr'⟩ := flat_take (es := es) n
 rw [hr', List.getElem?_append_left (List.getElem?_eq_some_iff.1 hd).1]
 exact hd
theorem Sim.swap {id : Nat} {bl bl' : Blk} (h : Sim F M w) (hM : M id = some bl) (ho : ∀ k, bl'.owns k → bl.owns k) (hb : BlkOK F w bl') : Sim F (upd M id (some bl')) w := by
 have part : ∀ j q, (upd M id (some bl')) j = some q → (j = id ∧ q = bl') ∨ (j ≠ id ∧ M j = some q) := fun j q hq => by
  unfold upd at hq
  split at hq
  ·rename_i e1; cases hq; exact .inl ⟨e1, rfl⟩
  ·rename_i e1; exact .inr ⟨e1, hq⟩
 have own2 : ∀ j q k, (upd M id (some bl')) j = some q → q.owns k → ∃ q', M j = some q' ∧ q'.owns k := fun j q k hq hk => by
  rcases part j q hq with ⟨rfl, rfl⟩ | ⟨_, h1⟩
  ·exact ⟨bl, hM, ho k hk⟩
  ·exact ⟨q, h1, hk⟩
 refine ⟨h.imm, fun j q hq => ?_, fun j q k hq hk => ?_, fun i j bi bj k hi hj ki kj => ?_⟩
 ·rcases part j q hq with ⟨_, rfl⟩ | ⟨_, h1⟩
  ·exact hb
  ·exact h.own j q h1
 ·obtain ⟨q', h1, h2⟩ := own2 j q k hq hk
  exact h.apart j q' k h1 h2
 ·obtain ⟨qi, h1, h2⟩ := own2 i bi k hi ki
  obtain ⟨qj, h3, h4⟩ := own2 j bj k hj kj
  exact h.inj i j qi qj k h1 h3 h2 h4
theorem Run.swap {E : Env} {s : S} {id : Nat} {bl bl' : Blk} (h : Run E F s a w) (hM : s.M id = some bl) (ho : ∀ k, bl'.owns k → bl.owns k) (hb : BlkOK F w bl') : Run E F ⟨s.ρ, upd s.M id (some bl')⟩ a w :=
 ⟨h.sim.swap hM ho hb, h.grow, h.f0, h.fnew, fun j q k hq hk => by
  have hq2 : upd s.M id (some bl') j = some q := hq
  unfold upd at hq2
  split at hq2
  ·rename_i e1; subst e1
   obtain rfl : bl' = q := Option.some.inj hq2
   exact h.mnew _ _ k hM (ho k hk)
  ·exact h.mnew j q k hq2 hk, h.size, h.defers, h.slots⟩
end
section
variable {P : Program} {E : Env} {K : S → Prop} {s : S} {pos : String} {after : Array Edge} {ty : Nat}
theorem SO.mono {o : Oper} {K' : S → Prop} (h : SO P E o K s) (hk : ∀ s, K s → K' s) : SO P E o K' s := fun F a w hr => (h F a w hr).mono fun _ _ ⟨F', s', h1, h2⟩ => ⟨F', s', h1, hk s' h2⟩
theorem SO.shrink {o : Oper} {id b c e sz : Nat} {es : List D} (n : Nat) (hM : s.M id = some (.row b c e sz es)) (h : SO P E o K ⟨s.ρ, upd s.M id (some (.row b c e sz (es.take n)))⟩) : SO P E o K s := fun F a w hr =>
 h F a w (hr.swap hM (fun k hk => hk) ((hr.sim.own id _ hM : RowOK F w b c e sz es).shrink n))
theorem AW.shrink {k : Code} {Q : Exit → S → Prop} {id b c e sz : Nat} {es : List D} (n : Nat) (hM : s.M id = some (.row b c e sz es)) (h : AW P E k Q ⟨s.ρ, upd s.M id (some (.row b c e sz (es.take n)))⟩) : AW P E k Q s := fun F a w hr =>
 h F a w (hr.swap hM (fun k hk => hk) ((hr.sim.own id _ hM : RowOK F w b c e sz es).shrink n))
end
def FSpecO (P : Program) (f : Nat) (args : V → List V) (n e sz : Nat) (es : List D) (n' : Nat) (es' : List D) : Prop :=
 HasBody P f ∧ ∀ (F : Hp) (w : World) (vals : List Value) (b c : Nat), Sim F (mem1 0 (.row b c e sz es)) w → SimVs F vals (args (.osl 0 b n c)) →
  Calls P f vals.toArray w fun x w' => ∃ v F' b' c', x = .returned v ∧ After F (mem1 0 (.row b c e sz es)) w F' (mem1 0 (.row b' c' e sz es')) w' ∧ SimV F' v (.osl 0 b' n' c')
section
variable {P : Program}
theorem FSpecO.intro {f : Nat} {fn : Func} {code : Code} {args : V → List V} {n e sz n' : Nat} {es es' : List D} (hf : P.funcs[f]? = some fn) (hname : (fn.name == "runtime.NumGoroutine") = false) (hb : fn.body = some code) (hn : ∀ v, (args v).length ≤ fn.ntmps) (t : Nat) (hres : fn.results.toList = [.tmp t])
  (h : ∀ (E : Env) (b c : Nat), E.n = fn.ntmps → AW P E code (fun x s => (x = .normal ∨ x = .ret) ∧ ∃ id b' cp es0, s.ρ t = .osl id b' n' cp ∧ s.M id = some (.row b' cp e sz es0) ∧ n' ≤ es0.length ∧ es0.take n' = es') ⟨argsρ (args (.osl 0 b n c)), mem1 0 (.row b c e sz es)⟩) : FSpecO P f args n e sz es n' es' := by
 refine ⟨by simp [HasBody, hf, hname, hb], fun F w vals b c hS hv => calls_of_wp hf hb ?_⟩
 generalize hA : args (.osl 0 b n c) = A at hv
 have hAn : A.length ≤ fn.ntmps := by rw [← hA]; exact hn _
 have hlen : vals.length = A.length := hv.1
 have hrun : Run ⟨w, F, Owned (mem1 0 (.row b c e sz es)), fn.ntmps⟩ F ⟨argsρ A, mem1 0 (.row b c e sz es)⟩ { tmps := vals.toArray ++ Array.replicate (fn.ntmps - vals.toArray.size) undef, defers := [] } w := by
  refine ⟨hS, Grow.refl _ _, Hp.le.refl F, fun k p q => absurd p q, fun id blk k hm ho => .inr ⟨id, blk, hm, ho⟩, by simp; omega, rfl, fun t => ?_⟩
  simp only [argsρ]
  by_cases ht : t < A.length
  ·have h1 : A[t]? = some A[t] := List.getElem?_eq_getElem ht
   have h2 : vals[t]? = some (vals[t]'(by omega)) := List.getElem?_eq_getElem (by omega)
   rw [List.getD_eq_getElem?_getD, h1, Array.getD_eq_getD_getElem?, Array.getElem?_append_left (by simpa [hlen] using ht), List.getElem?_toArray, h2]
   exact hv.2 t _ _ h1 h2
  ·rw [List.getD_eq_getElem?_getD, List.getElem?_eq_none (by omega)]
   exact .junk
 have hh := h ⟨w, F, Owned (mem1 0 (.row b c e sz es)), fn.ntmps⟩ b c rfl
 rw [hA] at hh
 refine wp_mono (hh F _ w hrun) fun x a' w' ⟨F', s', hr, hq, id, b', cp, es0, h1, h2, h3, h4⟩ => ?_
 have done : a'.defers = [] ∧ ∃ v, (results fn a'.tmps).run P w' = .ok v w' ∧ ∃ v' F' b' c', Ending.returned v = .returned v' ∧ After F (mem1 0 (.row b c e sz es)) w F' (mem1 0 (.row b' c' e sz es')) w' ∧ SimV F' v' (.osl 0 b' n' c') := by
  have ok : BlkOK F' w' (.row b' cp e sz es') := by subst h4; exact RowOK.shrink (hr.sim.own id _ h2) n'
  refine ⟨hr.defers, a'.tmps.getD t undef, ?_, a'.tmps.getD t undef, F', b', cp, rfl, ⟨hr.grow, hr.f0, ⟨hr.sim.imm, fun j q hq => ?_, fun j q k hq hk => ?_, fun i j bi bj k hi hj _ _ => ?_⟩, hr.fnew, fun k ⟨j, q, hq, hk⟩ => ?_⟩, ?_⟩
  ·rw [results_eq, Sem.run_bind, Array.mapM_eq_mapM_toList, Sem.run_map, hres]
   simp [rvSem, List.mapM_cons, List.mapM_nil]
  ·obtain ⟨_, rfl⟩ := mem1_get hq
   exact ok
  ·obtain ⟨_, rfl⟩ := mem1_get hq
   exact hr.sim.apart id _ k h2 hk
  ·rw [(mem1_get hi).1, (mem1_get hj).1]
  ·obtain ⟨_, rfl⟩ := mem1_get hq
   exact hr.mnew id _ k h2 hk
  ·have hs := hr.slots t
   rw [h1] at hs
   generalize a'.tmps.getD t undef = v at hs
   cases hs with
   | osl p q => exact .osl p q
 rcases hq with rfl | rfl
 ·exact done
 ·exact done
theorem vle_osl {id id2 b n c : Nat} : VLe (.osl id b n c) (.osl id2 b n c) := fun F v h => by
 cases h with
 | osl p q => exact .osl p q
end
end Go.AL

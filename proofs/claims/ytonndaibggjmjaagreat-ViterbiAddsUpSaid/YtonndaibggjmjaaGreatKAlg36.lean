/-
  AL, part 36: what is left at the end of a function, put into the form that is asked for.
-/
import Derived.Test.YtonndaibggjmjaaGreatKAlg33
set_option linter.unusedVariables false
set_option linter.unusedSimpArgs false
namespace Go.AL
open Go
theorem FSpecR.data {P : Program} {f n e sz : Nat} {args : List V} {es : List D} (h : FSpecR P f args n e sz es) (hn : n = es.length) : FSpec P f args (.d (.sl es)) :=
 ⟨h.1, fun F w vals hF hv => (h.2 F w vals hF hv).mono fun x w' ⟨v, F', b, c, he, hx, hv, hok, hfr⟩ => by
  have key : ∀ j blk, (fun j => if j = 0 then some (Blk.row b c e sz es) else none) j = some blk → j = 0 ∧ blk = .row b c e sz es := fun j blk hj => by
   simp only at hj
   split at hj
   ·rename_i e; cases hj; exact ⟨e, rfl⟩
   ·cases hj
  have hS2 : Sim F' (fun j => if j = 0 then some (.row b c e sz es) else none) w' := by
   refine ⟨hx.imm, fun j blk hj => ?_, fun j blk k hj hk => ?_, fun i j bi bj k hi hj ki kj => ?_⟩
   ·obtain ⟨_, rfl⟩ := key j blk hj; exact hok
   ·obtain ⟨_, rfl⟩ := key j blk hj; exact (hfr k hk).2
   ·rw [(key i bi hi).1, (key j bj hj).1]
  obtain ⟨F2, b1, b2, b3, b4⟩ := freeze_row (id := 0) hS2 rfl
  refine ⟨v, F2, he, ⟨hx.grow, hx.le.trans b1, b2.imm, fun k p q => ?_⟩, ?_⟩
  ·cases hf : F' k with
   | none =>
    obtain ⟨j, blk, hj, hk⟩ := b3 k hf q
    obtain ⟨_, rfl⟩ := key j blk hj
    exact (hfr k hk).1
   | some o => exact hx.new k p (by rw [hf]; simp)
  ·have h1 := b4 v n hv (by omega)
   rw [hn, List.take_length] at h1
   cases hv
   exact .d h1 rfl⟩
end Go.AL

set_option linter.unusedVariables false
set_option linter.unusedSimpArgs false
namespace Go.AL
open Go Go.BigFrame
section
variable {P : Program} {m : Nat} {ops : Array Oper} {K : S → Prop} {r : List Oper} {s : S} {dst : Option Nat} {ty : TypeId} {pos : String} {after : Array Edge}
theorem mkI {t : Nat} {x : Operand} {v : V} (hT : ConcT P t) (hx : s.ev x = v) (h : OL P m ops K r (s.put dst (.ifc t v))) : OL P m ops K (⟨dst, .makeInterface t x, ty, pos, after, none⟩ :: r) s := OL.pure (.mkIf hT hx) h
theorem tA {t a : Nat} {x : Operand} {v : V} (hT : ConcT P a) (hx : s.ev x = .ifc a v) (h : OL P m ops K r (s.put dst v)) : OL P m ops K (⟨dst, .typeAssert x t a false, ty, pos, after, none⟩ :: r) s := OL.pure (.tAss hT hx) h
theorem mvI {x : Operand} {t : Nat} {y : V} (hx : s.ev x = .ifc t y) (h : OL P m ops K r (s.put dst (.ifc t y))) : OL P m ops K (⟨dst, .move x, ty, pos, after, none⟩ :: r) s := OL.pure (hx ▸ Pure.move x) h
theorem asI {x : Operand} {t : Nat} {y : V} (hx : s.ev x = .ifc t y) (h : OL P m ops K r (s.put dst (.ifc t y))) : OL P m ops K (⟨dst, .assign x, ty, pos, after, none⟩ :: r) s := OL.pure (hx ▸ Pure.assign x) h
theorem knI {k t : Nat} {y : V} (h : s.ρ k = .ifc t y) : VLe (s.ρ k) (.ifc t y) := vle_of_eq h
theorem clIM {x : Operand} {name : String} {args : Array Operand} {ats : Array TypeId} {fid : Nat} {rv res : V} {args' : List V} {Mc Mc' : Mem} (hr : RecvR P s.ev s.M x name fid rv) (ha : VLes (rv :: args.toList.map s.ev) args')
  (hc : ∀ id blk, Mc id = some blk → s.M id = some blk) (hc' : ∀ id, Mc id = none ↔ Mc' id = none) (hs : FSpecM P fid args' Mc res Mc') (h : OL P 0 ops K r ((⟨s.ρ, s.M.over Mc Mc'⟩ : S).put dst res)) :
  OL P 0 ops K (⟨dst, .call { callee := .invoke x name, args := args, argTypes := ats }, ty, pos, after, none⟩ :: r) s := OL.callM (.inv hr ha hc hc' hs) h
theorem SO.callEI {α : Type} {E : Env} {x : Operand} {name : String} {args : Array Operand} {ats : Array TypeId} {fid : Nat} {rv : V} {args' : List V} {Mc : Mem} {Mk : α → Mem} {res : α → V} {φ : α → Prop} {g : Option (Nat × Bool)} (hd : Below' E.n dst)
  (hrv : RecvR P s.ev s.M x name fid rv) (ha : VLes (rv :: args.toList.map s.ev) args') (hc : ∀ id blk, Mc id = some blk → s.M id = some blk) (hs : FSpecE P fid args' Mc res Mk φ) (hc' : ∀ x, φ x → ∀ id, Mc id = none → Mk x id = none)
  (h : ∀ x, φ x → K ((⟨s.ρ, s.M.over Mc (Mk x)⟩ : S).put dst (res x))) : SO P E ⟨dst, .call { callee := .invoke x name, args := args, argTypes := ats }, ty, pos, after, g⟩ K s := fun F a w hr => by
 have key : ∃ u, SimV F u rv ∧ Sem.run P (do let d ← resolve a.eval { callee := .invoke x name, args := args, argTypes := ats } ty; invoke d.target d.args) w = .ok (.enter fid (u :: args.toList.map a.eval).toArray) w := by
  cases hrv with
  | p hx hm =>
   have h := hr.eval x; rw [hx] at h
   generalize hax : a.eval x = ax at h
   cases h with
   | ifc h => exact ⟨_, h, run_inv hax hm hs.1 w⟩
  | v hx hm hT hM =>
   have h := hr.eval x; rw [hx] at h
   generalize hax : a.eval x = ax at h
   cases h with
   | ifc h =>
    cases h with
    | ptr =>
     obtain ⟨u, hcell, hsim⟩ := box_cell0 hr.sim hM
     exact ⟨u, hsim, run_invV hax hm hT hcell hs.1⟩
 obtain ⟨u, hu, hrun⟩ := key
 have hvs : SimVs F (u :: args.toList.map a.eval) args' := simVs_le (simVs_cons hu (simVs_map hr.eval _)) ha
 have hcc := hs.2 F w _ (sim_sub hr.sim hc) hvs
 unfold execOp
 rw [hrun]
 exact hcc.mono fun e2 w' ⟨x, hφ, v, F', he, hA, hv⟩ => ⟨v, he, F', _, hr.after_put (After.over hr.sim hc (hc' x hφ) hA) hd hv, h x hφ⟩
end
end Go.AL

set_option linter.unusedVariables false
set_option linter.unusedSimpArgs false
namespace Go.AL
open Go Go.BigFrame
section
variable {P : Program} {E : Env} {F : Hp} {s : S} {a : Act} {w : World}
theorem AW.post {c : Code} {Q Q' : Exit → S → Prop} (h : AW P E c Q' s) (hq : ∀ e s', Q' e s' → ∀ F a w, Run E F s' a w → ∃ F' s2, Run E F' s2 a w ∧ Q e s2) : AW P E c Q s := fun F a w hr =>
 wp_mono (h F a w hr) fun e a w ⟨_, s', hr', hq'⟩ => hq e s' hq' _ a w hr'
theorem Run.rename (id id2 : Nat) (hM : s.M id2 = none) (hr : Run E F s a w) : Run E F ⟨s.ρ, fun j => if j = id2 then s.M id else if j = id then none else s.M j⟩ a w := by
 have key : ∀ j blk, (fun j => if j = id2 then s.M id else if j = id then none else s.M j) j = some blk → (j = id2 ∧ s.M id = some blk) ∨ (j ≠ id2 ∧ j ≠ id ∧ s.M j = some blk) := fun j blk hj => by
  simp only at hj
  split at hj
  ·rename_i e; exact .inl ⟨e, hj⟩
  ·split at hj
   ·cases hj
   ·rename_i e1 e2; exact .inr ⟨e1, e2, hj⟩
 have any : ∀ j blk, (fun j => if j = id2 then s.M id else if j = id then none else s.M j) j = some blk → ∃ i, s.M i = some blk := fun j blk hj => by
  rcases key j blk hj with ⟨_, h⟩ | ⟨_, _, h⟩
  ·exact ⟨id, h⟩
  ·exact ⟨j, h⟩
 refine ⟨⟨hr.sim.imm, fun j blk hj => let ⟨i, hi⟩ := any j blk hj; hr.sim.own i blk hi, fun j blk k hj hk => let ⟨i, hi⟩ := any j blk hj; hr.sim.apart i blk k hi hk, fun i j bi bj k hi hj ki kj => ?_⟩,
  hr.grow, hr.f0, hr.fnew, fun j blk k hj hk => let ⟨i, hi⟩ := any j blk hj; hr.mnew i blk k hi hk, hr.size, hr.defers, hr.slots⟩
 rcases key i bi hi with ⟨e1, h1⟩ | ⟨e1, e1', h1⟩ <;> rcases key j bj hj with ⟨e2, h2⟩ | ⟨e2, e2', h2⟩
 ·omega
 ·have := hr.sim.inj id j bi bj k h1 h2 ki kj; omega
 ·have := hr.sim.inj i id bi bj k h1 h2 ki kj; omega
 ·exact hr.sim.inj i j bi bj k h1 h2 ki kj
theorem Run.boxW (id : Nat) {b t : Nat} {cells : List V} (cells2 : List V) (hM : s.M id = some (.box b t cells)) (hl : VLes cells cells2) (hr : Run E F s a w) : Run E F ⟨s.ρ, upd s.M id (some (.box b t cells2))⟩ a w := by
 have key : ∀ j blk, upd s.M id (some (.box b t cells2)) j = some blk → (j = id ∧ blk = .box b t cells2) ∨ (j ≠ id ∧ s.M j = some blk) := fun j blk hj => by
  unfold upd at hj
  split at hj
  ·rename_i e; cases hj; exact .inl ⟨e, rfl⟩
  ·rename_i e; exact .inr ⟨e, hj⟩
 have any : ∀ j blk k, upd s.M id (some (.box b t cells2)) j = some blk → blk.owns k → ∃ bl, s.M j = some bl ∧ bl.owns k := fun j blk k hj hk => by
  rcases key j blk hj with ⟨rfl, rfl⟩ | ⟨_, h⟩
  ·exact ⟨_, hM, hk⟩
  ·exact ⟨_, h, hk⟩
 refine ⟨⟨hr.sim.imm, fun j blk hj => ?_, fun j blk k hj hk => ?_, fun i j bi bj k hi hj ki kj => ?_⟩, hr.grow, hr.f0, hr.fnew, fun j blk k hj hk => ?_, hr.size, hr.defers, hr.slots⟩
 ·rcases key j blk hj with ⟨rfl, rfl⟩ | ⟨_, h⟩
  ·obtain ⟨cs, h1, h2, h3, h4⟩ := hr.sim.own _ _ hM
   refine ⟨cs, h1, by rw [h2]; exact hl.length, h3, fun i v u hv hu => ?_⟩
   obtain ⟨x, hx, hle⟩ := hl.get i v hv
   exact hle _ _ (h4 i x u hx hu)
  ·exact hr.sim.own _ _ h
 ·obtain ⟨bl, hb, ho⟩ := any j blk k hj hk
  exact hr.sim.apart j bl k hb ho
 ·obtain ⟨b1, hb1, ho1⟩ := any i bi k hi ki
  obtain ⟨b2, hb2, ho2⟩ := any j bj k hj kj
  exact hr.sim.inj i j b1 b2 k hb1 hb2 ho1 ho2
 ·obtain ⟨bl, hb, ho⟩ := any j blk k hj hk
  exact hr.mnew j bl k hb ho
theorem Run.to (hr : Run E F s a w) (l : List (Nat × V)) (M : List (Nat × Blk)) (hl : Knows s l) (hM : Owns s M) : Run E F (st l M) a w := hr.weak ⟨lk_le hl, lk_own hM⟩
end
section
variable {P : Program} {m : Nat} {ops : Array Oper} {K : S → Prop} {r : List Oper} {s : S} {dst : Option Nat} {ty : TypeId} {pos : String} {after : Array Edge}
theorem mvB {x : Operand} {id b z o n c : Nat} (hx : s.ev x = .osb id b z o n c) (h : OL P m ops K r (s.put dst (.osb id b z o n c))) : OL P m ops K (⟨dst, .move x, ty, pos, after, none⟩ :: r) s := OL.pure (hx ▸ Pure.move x) h
theorem asB {x : Operand} {id b z o n c : Nat} (hx : s.ev x = .osb id b z o n c) (h : OL P m ops K r (s.put dst (.osb id b z o n c))) : OL P m ops K (⟨dst, .assign x, ty, pos, after, none⟩ :: r) s := OL.pure (hx ▸ Pure.assign x) h
theorem knB {k id b z o n c : Nat} (h : s.ρ k = .osb id b z o n c) : VLe (s.ρ k) (.osb id b z o n c) := vle_of_eq h
end
end Go.AL

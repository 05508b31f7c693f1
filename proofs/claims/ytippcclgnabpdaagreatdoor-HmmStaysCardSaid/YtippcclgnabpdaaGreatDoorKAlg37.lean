/-
  AL, part 37: rows of rows of rows: the innermost rows become data within a pool of rows of heads.
-/
import Derived.Test.YtippcclgnabpdaaGreatDoorKAlg33
set_option linter.unusedVariables false
set_option linter.unusedSimpArgs false
namespace Go.AL
open Go
theorem FSpecR.data {P : Program} {f n e sz : Nat} {args : List V} {es : List D} (h : FSpecR P f args n e sz es) (hn : n = es.length) : FSpec P f args (.d (.sl es)) :=
 ⟨h.1, fun F w vals hF hv => (h.2 F w vals hF hv).mono fun x w' ⟨v, F', b, c, he, hx, hv, hok, hfr⟩ => by
  have key : ∀ j blk, (fun j => if j = 0 then some (Blk.row b c e sz es) else none) j = some blk → j = 0 ∧ blk = .row b c e sz es := fun j blk hj => by
   simp only at hj
   split at hj
   ·rename_i e; cases hj; exact ⟨e, rfl⟩
   ·cases hj
  have hS2 : Sim F' (fun j => if j = 0 then some (.row b c e sz es) else none) w' := by
   refine ⟨hx.imm, fun j blk hj => ?_, fun j blk k hj hk => ?_, fun i j bi bj k hi hj ki kj => ?_⟩
   ·obtain ⟨_, rfl⟩ := key j blk hj; exact hok
   ·obtain ⟨_, rfl⟩ := key j blk hj; exact (hfr k hk).2
   ·rw [(key i bi hi).1, (key j bj hj).1]
  obtain ⟨F2, b1, b2, b3, b4⟩ := freeze_row (id := 0) hS2 rfl
  refine ⟨v, F2, he, ⟨hx.grow, hx.le.trans b1, b2.imm, fun k p q => ?_⟩, ?_⟩
  ·cases hf : F' k with
   | none =>
    obtain ⟨j, blk, hj, hk⟩ := b3 k hf q
    obtain ⟨_, rfl⟩ := key j blk hj
    exact (hfr k hk).1
   | some o => exact hx.new k p (by rw [hf]; simp)
  ·have h1 := b4 v n hv (by omega)
   rw [hn, List.take_length] at h1
   cases hv
   exact .d h1 rfl⟩
end Go.AL

set_option linter.unusedVariables false
set_option linter.unusedSimpArgs false
namespace Go.AL
open Go Go.BigFrame
section
variable {P : Program} {m : Nat} {ops : Array Oper} {K : S → Prop} {r : List Oper} {s : S} {dst : Option Nat} {ty : TypeId} {pos : String} {after : Array Edge}
theorem knI {k t : Nat} {y : V} (h : s.ρ k = .ifc t y) : VLe (s.ρ k) (.ifc t y) := vle_of_eq h
end
end Go.AL

set_option linter.unusedVariables false
set_option linter.unusedSimpArgs false
namespace Go.AL
open Go Go.BigFrame
section
variable {P : Program} {E : Env} {F : Hp} {s : S} {a : Act} {w : World}
theorem AW.post {c : Code} {Q Q' : Exit → S → Prop} (h : AW P E c Q' s) (hq : ∀ e s', Q' e s' → ∀ F a w, Run E F s' a w → ∃ F' s2, Run E F' s2 a w ∧ Q e s2) : AW P E c Q s := fun F a w hr =>
 wp_mono (h F a w hr) fun e a w ⟨_, s', hr', hq'⟩ => hq e s' hq' _ a w hr'
theorem Run.rename (id id2 : Nat) (hM : s.M id2 = none) (hr : Run E F s a w) : Run E F ⟨s.ρ, fun j => if j = id2 then s.M id else if j = id then none else s.M j⟩ a w := by
 have key : ∀ j blk, (fun j => if j = id2 then s.M id else if j = id then none else s.M j) j = some blk → (j = id2 ∧ s.M id = some blk) ∨ (j ≠ id2 ∧ j ≠ id ∧ s.M j = some blk) := fun j blk hj => by
  simp only at hj
  split at hj
  ·rename_i e; exact .inl ⟨e, hj⟩
  ·split at hj
   ·cases hj
   ·rename_i e1 e2; exact .inr ⟨e1, e2, hj⟩
 have any : ∀ j blk, (fun j => if j = id2 then s.M id else if j = id then none else s.M j) j = some blk → ∃ i, s.M i = some blk := fun j blk hj => by
  rcases key j blk hj with ⟨_, h⟩ | ⟨_, _, h⟩
  ·exact ⟨id, h⟩
  ·exact ⟨j, h⟩
 refine ⟨⟨hr.sim.imm, fun j blk hj => let ⟨i, hi⟩ := any j blk hj; hr.sim.own i blk hi, fun j blk k hj hk => let ⟨i, hi⟩ := any j blk hj; hr.sim.apart i blk k hi hk, fun i j bi bj k hi hj ki kj => ?_⟩,
  hr.grow, hr.f0, hr.fnew, fun j blk k hj hk => let ⟨i, hi⟩ := any j blk hj; hr.mnew i blk k hi hk, hr.size, hr.defers, hr.slots⟩
 rcases key i bi hi with ⟨e1, h1⟩ | ⟨e1, e1', h1⟩ <;> rcases key j bj hj with ⟨e2, h2⟩ | ⟨e2, e2', h2⟩
 ·omega
 ·have := hr.sim.inj id j bi bj k h1 h2 ki kj; omega
 ·have := hr.sim.inj i id bi bj k h1 h2 ki kj; omega
 ·exact hr.sim.inj i j bi bj k h1 h2 ki kj
theorem Run.boxW (id : Nat) {b t : Nat} {cells : List V} (cells2 : List V) (hM : s.M id = some (.box b t cells)) (hl : VLes cells cells2) (hr : Run E F s a w) : Run E F ⟨s.ρ, upd s.M id (some (.box b t cells2))⟩ a w := by
 have key : ∀ j blk, upd s.M id (some (.box b t cells2)) j = some blk → (j = id ∧ blk = .box b t cells2) ∨ (j ≠ id ∧ s.M j = some blk) := fun j blk hj => by
  unfold upd at hj
  split at hj
  ·rename_i e; cases hj; exact .inl ⟨e, rfl⟩
  ·rename_i e; exact .inr ⟨e, hj⟩
 have any : ∀ j blk k, upd s.M id (some (.box b t cells2)) j = some blk → blk.owns k → ∃ bl, s.M j = some bl ∧ bl.owns k := fun j blk k hj hk => by
  rcases key j blk hj with ⟨rfl, rfl⟩ | ⟨_, h⟩
  ·exact ⟨_, hM, hk⟩
  ·exact ⟨_, h, hk⟩
 refine ⟨⟨hr.sim.imm, fun j blk hj => ?_, fun j blk k hj hk => ?_, fun i j bi bj k hi hj ki kj => ?_⟩, hr.grow, hr.f0, hr.fnew, fun j blk k hj hk => ?_, hr.size, hr.defers, hr.slots⟩
 ·rcases key j blk hj with ⟨rfl, rfl⟩ | ⟨_, h⟩
  ·obtain ⟨cs, h1, h2, h3, h4⟩ := hr.sim.own _ _ hM
   refine ⟨cs, h1, by rw [h2]; exact hl.length, h3, fun i v u hv hu => ?_⟩
   obtain ⟨x, hx, hle⟩ := hl.get i v hv
   exact hle _ _ (h4 i x u hx hu)
  ·exact hr.sim.own _ _ h
 ·obtain ⟨bl, hb, ho⟩ := any j blk k hj hk
  exact hr.sim.apart j bl k hb ho
 ·obtain ⟨b1, hb1, ho1⟩ := any i bi k hi ki
  obtain ⟨b2, hb2, ho2⟩ := any j bj k hj kj
  exact hr.sim.inj i j b1 b2 k hb1 hb2 ho1 ho2
 ·obtain ⟨bl, hb, ho⟩ := any j blk k hj hk
  exact hr.mnew j bl k hb ho
theorem Run.to (hr : Run E F s a w) (l : List (Nat × V)) (M : List (Nat × Blk)) (hl : Knows s l) (hM : Owns s M) : Run E F (st l M) a w := hr.weak ⟨lk_le hl, lk_own hM⟩
end
section
variable {P : Program} {m : Nat} {ops : Array Oper} {K : S → Prop} {r : List Oper} {s : S} {dst : Option Nat} {ty : TypeId} {pos : String} {after : Array Edge}
theorem mvB {x : Operand} {id b z o n c : Nat} (hx : s.ev x = .osb id b z o n c) (h : OL P m ops K r (s.put dst (.osb id b z o n c))) : OL P m ops K (⟨dst, .move x, ty, pos, after, none⟩ :: r) s := OL.pure (hx ▸ Pure.move x) h
theorem asB {x : Operand} {id b z o n c : Nat} (hx : s.ev x = .osb id b z o n c) (h : OL P m ops K r (s.put dst (.osb id b z o n c))) : OL P m ops K (⟨dst, .assign x, ty, pos, after, none⟩ :: r) s := OL.pure (hx ▸ Pure.assign x) h
theorem knB {k id b z o n c : Nat} (h : s.ρ k = .osb id b z o n c) : VLe (s.ρ k) (.osb id b z o n c) := vle_of_eq h
theorem slB {x lo : Operand} {t e sz by_ id b n c l n2 : Nat} {k : IntKind} (hT : SliceT P t e sz by_) (hx : s.ev x = .osl id b n c) (hy : s.ev lo = .d (.sc (.int k (l : Int)))) (hl : l ≤ n) (hn : n - l = n2) (h : OL P m ops K r (s.put dst (.osb id b sz l n2 (c - l)))) : OL P m ops K (⟨dst, .slice t x (some lo) none none, ty, pos, after, none⟩ :: r) s := by subst hn; exact OL.pure (.cutB hx hy hT hl) h
theorem ixBn {x y : Operand} {t e sz by_ id b o l c n i : Nat} {k : IntKind} (hT : SliceT P t e sz by_) (hx : s.ev x = .osb id b sz o l c) (hy : s.ev y = .d (.sc (.int k (n : Int)))) (hl : n < l) (hi : o + n = i) (h : OL P m ops K r (s.put dst (.eptr id b sz i 0))) : OL P m ops K (⟨dst, .indexAddr t x y, ty, pos, after, none⟩ :: r) s := by subst hi; exact OL.pure (.ixB hx hy hT hl) h
theorem lnB {t e sz by_ id b o n c : Nat} {x : Operand} {ats : Array TypeId} (hT : SliceT P t e sz by_) (ha : ats = #[t]) (hx : s.ev x = .osb id b sz o n c) (h : OL P m ops K r (s.put dst (.d (.sc (.int .i64 n))))) : OL P m ops K (⟨dst, .call { callee := .builtin .len, args := #[x], argTypes := ats }, ty, pos, after, none⟩ :: r) s := OL.pure (.lenB ha hx hT) h
end
end Go.AL

set_option linter.unusedVariables false
set_option linter.unusedSimpArgs false
namespace Go.AL
open Go Go.BigFrame
theorem PoolOK.heads {F : Hp} {w : World} {e : Nat} {L : List (Nat × List (Nat × List D))} (h : PoolOK F w e 1 (L.map fun r => (r.1, r.2.map hdP)))
  (hr : ∀ r, r ∈ L → ∀ q, q ∈ r.2 → Rep F (.slice (some ⟨q.1, 0, none⟩) q.2.length q.2.length) (.sl q.2)) : PoolOK F w e 1 (L.map fun r => (r.1, r.2.map fun q => .sl q.2)) := by
 refine ⟨fun i j p q hi hj h1 h2 he => ?_, fun p hp => ?_⟩
 ·rw [List.getElem?_map] at hi hj
  cases hx : L[i]? with
  | none => rw [hx] at hi; cases hi
  | some x =>
   cases hy : L[j]? with
   | none => rw [hy] at hj; cases hj
   | some y =>
    rw [hx] at hi; rw [hy] at hj
    cases hi; cases hj
    refine h.1 i j (x.1, x.2.map hdP) (y.1, y.2.map hdP) (by rw [List.getElem?_map, hx]; rfl) (by rw [List.getElem?_map, hy]; rfl) (by simpa using h1) (by simpa using h2) he
 ·obtain ⟨r, hL, rfl⟩ := List.mem_map.1 hp
  have k := h.2 (r.1, r.2.map hdP) (List.mem_map.2 ⟨r, hL, rfl⟩)
  have k2 := RowOK.heads k (hr r hL)
  simp only [List.length_map] at k2 ⊢
  exact k2
section
variable {P : Program} {m : Nat} {ops : Array Oper} {K : S → Prop} {s : S} {dst : Option Nat} {ty : Nat} {pos : String} {after : Array Edge} {r : List Oper}
theorem fdC {x : Operand} {t f off : Nat} {vs : List V} {v : V} (hT : FieldC P t f off) (hx : s.ev x = .ag vs) (hv : vs[off]? = some v) (h : OL P m ops K r (s.put dst v)) : OL P m ops K (⟨dst, .field t x f, ty, pos, after, none⟩ :: r) s := OL.pure (.fldC hx hT hv) h
theorem stF {x y : Operand} {t id b z i j n c e : Nat} {es es2 : List D} {d el el2 : D} (hT : (P.info? t).map (·.size) = some n) (hx : s.ev x = .eptr id b z i j) (hy : VD (s.ev y) d) (hM : s.M id = some (.row b c e z es)) (hl : d.cells.length = n) (hel : es[i]? = some el) (hj : j + n ≤ z) (he : el2.cells = el.cells.take j ++ d.cells ++ el.cells.drop (j + n)) (hc : es.set i el2 = es2)
  (h : OL P m ops K r ⟨s.ρ, upd s.M id (some (.row b c e z es2))⟩) : OL P m ops K (⟨none, .store t x y, ty, pos, after, none⟩ :: r) s := by subst hc; exact OL.store (.rowF hx hy hM hT hl hel hj he) h
theorem evF {x : Operand} {f : Nat} {y : List V} (h : s.ev x = .fn f y) : s.ev x = .fn f y := h
end
end Go.AL

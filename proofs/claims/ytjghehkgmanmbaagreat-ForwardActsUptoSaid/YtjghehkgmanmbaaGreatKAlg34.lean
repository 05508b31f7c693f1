/-
  AL, part 34: a function that hands back a new row, read as data.
-/
import Derived.Test.YtjghehkgmanmbaaGreatKAlg33
set_option linter.unusedVariables false
set_option linter.unusedSimpArgs false
namespace Go.AL
open Go
theorem FSpecR.data {P : Program} {f n e sz : Nat} {args : List V} {es : List D} (h : FSpecR P f args n e sz es) (hn : n = es.length) : FSpec P f args (.d (.sl es)) :=
 ⟨h.1, fun F w vals hF hv => (h.2 F w vals hF hv).mono fun x w' ⟨v, F', b, c, he, hx, hv, hok, hfr⟩ => by
  have key : ∀ j blk, (fun j => if j = 0 then some (Blk.row b c e sz es) else none) j = some blk → j = 0 ∧ blk = .row b c e sz es := fun j blk hj => by
   simp only at hj
   split at hj
   ·rename_i e; cases hj; exact ⟨e, rfl⟩
   ·cases hj
  have hS2 : Sim F' (fun j => if j = 0 then some (.row b c e sz es) else none) w' := by
   refine ⟨hx.imm, fun j blk hj => ?_, fun j blk k hj hk => ?_, fun i j bi bj k hi hj ki kj => ?_⟩
   ·obtain ⟨_, rfl⟩ := key j blk hj; exact hok
   ·obtain ⟨_, rfl⟩ := key j blk hj; exact (hfr k hk).2
   ·rw [(key i bi hi).1, (key j bj hj).1]
  obtain ⟨F2, b1, b2, b3, b4⟩ := freeze_row (id := 0) hS2 rfl
  refine ⟨v, F2, he, ⟨hx.grow, hx.le.trans b1, b2.imm, fun k p q => ?_⟩, ?_⟩
  ·cases hf : F' k with
   | none =>
    obtain ⟨j, blk, hj, hk⟩ := b3 k hf q
    obtain ⟨_, rfl⟩ := key j blk hj
    exact (hfr k hk).1
   | some o => exact hx.new k p (by rw [hf]; simp)
  ·have h1 := b4 v n hv (by omega)
   rw [hn, List.take_length] at h1
   cases hv
   exact .d h1 rfl⟩
theorem AW.rowLen {P : Program} {E : Env} {k : Code} {Q : Exit → S → Prop} {s : S} (d : Nat) {b c e sz : Nat} {es : List D} (hM : s.M d = some (.row b c e sz es)) (h : es.length ≤ c → AW P E k Q s) : AW P E k Q s := fun F a w hr =>
 h (hr.sim.own d _ hM : RowOK F w b c e sz es).1 F a w hr
end Go.AL

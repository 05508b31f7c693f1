/-
  AL, part 24: a contract with one owned block, under another name of the block.
-/
import Derived.Test.YtjghehkgmanmbaaGreatKAlgd
import Derived.Test.YtjghehkgmanmbaaGreatKNumb
set_option linter.unusedVariables false
set_option linter.unusedSimpArgs false
namespace Go.AL
open Go Go.BigFrame
theorem mem1_get {i : Nat} {blk b : Blk} {id : Nat} (h : mem1 i blk id = some b) : id = i ∧ b = blk := by
 unfold mem1 at h
 split at h
 ·rename_i e; exact ⟨e, by cases h; rfl⟩
 ·cases h
theorem mem1_self (i : Nat) (blk : Blk) : mem1 i blk i = some blk := by unfold mem1; rw [if_pos rfl]
theorem Sim.ren1 {F : Hp} {i j : Nat} {blk : Blk} {w : World} (h : Sim F (mem1 j blk) w) : Sim F (mem1 i blk) w :=
 ⟨h.imm, fun id b hb => by obtain ⟨_, rfl⟩ := mem1_get hb; exact h.own j _ (mem1_self _ _), fun id b k hb hk => by obtain ⟨_, rfl⟩ := mem1_get hb; exact h.apart j _ k (mem1_self _ _) hk,
  fun a b ba bb k ha hb _ _ => by rw [(mem1_get ha).1, (mem1_get hb).1]⟩
theorem Owned.ren1 {i j : Nat} {blk : Blk} {k : Nat} (h : Owned (mem1 j blk) k) : Owned (mem1 i blk) k := by
 obtain ⟨id, b, hb, hk⟩ := h
 obtain ⟨_, rfl⟩ := mem1_get hb
 exact ⟨i, _, mem1_self _ _, hk⟩
theorem FSpecM.ren1 {P : Program} {f i j : Nat} {args args2 : List V} {blk blk' : Blk} {res : V} (h : FSpecM P f args (mem1 i blk) res (mem1 i blk')) (ha : VLes args2 args) : FSpecM P f args2 (mem1 j blk) res (mem1 j blk') :=
 ⟨h.1, fun F w vals hS hv => (h.2 F w vals hS.ren1 (simVs_le hv ha)).mono fun e w' ⟨v, F', he, hA, hs⟩ =>
  ⟨v, F', he, ⟨hA.grow.mono fun k hk => hk.ren1, hA.le, hA.sim.ren1, fun k a b => (hA.new k a b).imp (fun x => x) Owned.ren1, fun k hk => (hA.mnew k hk.ren1).imp (fun x => x) Owned.ren1⟩, hs⟩⟩
end Go.AL

/-
  AL, part 25: a region whose order is open, by all of its orders.
-/
import Derived.Test.YtjghehkgmanmbaaGreatKAlgd
import Derived.Test.YtjghehkgmanmbaaGreatKNumb
set_option linter.unusedVariables false
set_option linter.unusedSimpArgs false
namespace Go.AL
open Go Go.BigFrame
theorem mem1_get {i : Nat} {blk b : Blk} {id : Nat} (h : mem1 i blk id = some b) : id = i ∧ b = blk := by
 unfold mem1 at h
 split at h
 ·rename_i e; exact ⟨e, by cases h; rfl⟩
 ·cases h
theorem mem1_self (i : Nat) (blk : Blk) : mem1 i blk i = some blk := by unfold mem1; rw [if_pos rfl]
theorem Sim.ren1 {F : Hp} {i j : Nat} {blk : Blk} {w : World} (h : Sim F (mem1 j blk) w) : Sim F (mem1 i blk) w :=
 ⟨h.imm, fun id b hb => by obtain ⟨_, rfl⟩ := mem1_get hb; exact h.own j _ (mem1_self _ _), fun id b k hb hk => by obtain ⟨_, rfl⟩ := mem1_get hb; exact h.apart j _ k (mem1_self _ _) hk,
  fun a b ba bb k ha hb _ _ => by rw [(mem1_get ha).1, (mem1_get hb).1]⟩
theorem Owned.ren1 {i j : Nat} {blk : Blk} {k : Nat} (h : Owned (mem1 j blk) k) : Owned (mem1 i blk) k := by
 obtain ⟨id, b, hb, hk⟩ := h
 obtain ⟨_, rfl⟩ := mem1_get hb
 exact ⟨i, _, mem1_self _ _, hk⟩
theorem FSpecM.ren1 {P : Program} {f i j : Nat} {args args2 : List V} {blk blk' : Blk} {res : V} (h : FSpecM P f args (mem1 i blk) res (mem1 i blk')) (ha : VLes args2 args) : FSpecM P f args2 (mem1 j blk) res (mem1 j blk') :=
 ⟨h.1, fun F w vals hS hv => (h.2 F w vals hS.ren1 (simVs_le hv ha)).mono fun e w' ⟨v, F', he, hA, hs⟩ =>
  ⟨v, F', he, ⟨hA.grow.mono fun k hk => hk.ren1, hA.le, hA.sim.ren1, fun k a b => (hA.new k a b).imp (fun x => x) Owned.ren1, fun k hk => (hA.mnew k hk.ren1).imp (fun x => x) Owned.ren1⟩, hs⟩⟩
end Go.AL

set_option linter.unusedVariables false
set_option linter.unusedSimpArgs false
namespace Go.AL
open Go Go.BigFrame
section
variable {P : Program}
def OT (P : Program) (ops : Array Oper) (K : S → Prop) : Nat → Array Bool → S → Prop
 | 0, listed, s => Region.ready .any ops listed = [] ∧ K s
 | n + 1, listed, s => Region.ready .any ops listed ≠ [] ∧ ∀ i, i ∈ Region.ready .any ops listed → ∃ o, ops[i]? = some o ∧ OG P 0 ops o (OT P ops K n (listed.setIfInBounds i true)) s
theorem wpAny_tree {E : Env} {Q : Exit → S → Prop} {ops : Array Oper} (hd : ∀ o, o ∈ ops.toList → Below' E.n o.dst) :
  ∀ (fuel : Nat) (listed : Array Bool) (s : S) (F : Hp) (a : Act) (w : World), Run E F s a w → OT P ops (Q .normal) fuel listed s → wpAny P .any ops (PostQ E Q) fuel listed a w := by
 intro fuel
 induction fuel with
 | zero => exact fun listed s F a w hr h => ⟨h.1, ⟨F, s, hr, h.2⟩⟩
 | succ fuel ih =>
  intro listed s F a w hr h
  refine ⟨fun e => absurd e h.1, fun i hi => ?_⟩
  obtain ⟨o, ho, hog⟩ := h.2 i hi
  exact OG.sound ho hog hr (hd o (by
   obtain ⟨h1, h2⟩ := Array.getElem?_eq_some_iff.1 ho
   rw [← h2]; exact Array.getElem_mem_toList h1)) fun F' s' a' w' hr' hk => ih _ s' F' a' w' hr' hk
theorem AW.region_tree {E : Env} {id : Nat} {ops : Array Oper} {Q : Exit → S → Prop} {s : S} (hf : P.follows .mixedOrders = true) (hd : dstOK E.n ops = true)
  (h : OT P ops (Q .normal) ops.size (Array.replicate ops.size false) s) : AW P E (.region id ops true) Q s := fun F a w hr => by
 have hrun : Run E F s a { w with drawn := w.drawn + 1 } := ⟨⟨hr.sim.imm, fun id blk hm => (hr.sim.own id blk hm).keep (Hp.le.refl F) fun _ _ => rfl, hr.sim.apart, hr.sim.inj⟩, ⟨hr.grow.os, hr.grow.tape, hr.grow.output, hr.grow.size, hr.grow.block⟩, hr.f0, hr.fnew, hr.mnew, hr.size, hr.defers, hr.slots⟩
 exact wp_region_any hf (wpAny_tree (dstOK.spec hd) ops.size _ s F a _ hrun h)
def OTs (P : Program) (ops : Array Oper) (K : S → Prop) (n : Nat) (listed : Array Bool) (s : S) : List Nat → List Oper → Prop
 | [], [] => True
 | i :: l, o :: os => OL P 0 ops (OT P ops K n (listed.setIfInBounds i true)) [o] s ∧ OTs P ops K n listed s l os
 | _, _ => False
theorem OTs.get {ops : Array Oper} {K : S → Prop} {n : Nat} {listed : Array Bool} {s : S} : ∀ (l : List Nat) (os : List Oper), l.map (fun i => ops[i]?) = os.map some → OTs P ops K n listed s l os → ∀ i, i ∈ l → ∃ o, ops[i]? = some o ∧ OG P 0 ops o (OT P ops K n (listed.setIfInBounds i true)) s
 | [], _, _, _, i, hi => by simp at hi
 | j :: l, [], h, _, _, _ => by simp at h
 | j :: l, o :: os, h, ht, i, hi => by
  simp only [List.map_cons, List.cons.injEq] at h
  rcases List.mem_cons.1 hi with rfl | hi
  ·exact ⟨o, h.1, ht.1⟩
  ·exact OTs.get l os h.2 ht.2 i hi
theorem OT.node {ops : Array Oper} {K : S → Prop} {n : Nat} {listed : Array Bool} {s : S} (l : List Nat) {os : List Oper} (h : Region.ready .any ops listed = l) (hne : l ≠ []) (ho : l.map (fun i => ops[i]?) = os.map some) (ht : OTs P ops K n listed s l os) : OT P ops K (n + 1) listed s :=
 ⟨by rw [h]; exact hne, fun i hi => OTs.get l os ho ht i (by rw [← h]; exact hi)⟩
theorem OT.leaf {ops : Array Oper} {K : S → Prop} {listed : Array Bool} {s : S} (h : Region.ready .any ops listed = []) (hk : K s) : OT P ops K 0 listed s := ⟨h, hk⟩
end
end Go.AL

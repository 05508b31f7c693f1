/-
  AL, part 31: regions whose order is open, with a memory that is told layer by layer.
-/
import Derived.Test.YtonndaibggjmjaaGreatKAlg30
set_option linter.unusedVariables false
set_option linter.unusedSimpArgs false
namespace Go.AL
open Go Go.BigFrame
structure Tell where
 id : Nat
 op : Nat
 b : (Nat → Nat × Nat) → Blk
def mfT : List Tell → Mem → (Nat → Nat × Nat) → Array Bool → Mem
 | [], M0, _, _ => M0
 | x :: r, M0, β, L => if L.getD x.op false = true then upd (mfT r M0 β L) x.id (some (x.b β)) else mfT r M0 β L
section
variable {x : Tell} {r ts : List Tell} {M0 : Mem} {β β' : Nat → Nat × Nat} {L : Array Bool} {i d t : Nat}
theorem mfT_none (hL : ∀ i, L.getD i false = false) : ∀ ts, mfT ts M0 β L = M0
 | [] => rfl
 | x :: r => by rw [mfT, hL, if_neg (by decide), mfT_none hL r]
theorem mfT_skip (h : t ≠ x.id) {v : Option Blk} (hr : mfT r M0 β L t = v) : mfT (x :: r) M0 β L t = v := by
 rw [mfT]
 split
 ·rw [upd_ne _ _ h]; exact hr
 ·exact hr
theorem mfT_no (h : L.getD x.op false = false) {v : Option Blk} (hr : mfT r M0 β L t = v) : mfT (x :: r) M0 β L t = v := by
 rw [mfT, h, if_neg (by decide)]; exact hr
theorem mfT_yes {b : Blk} (h : L.getD x.op false = true) (hb : x.b β = b) (ht : t = x.id) : mfT (x :: r) M0 β L t = some b := by
 subst ht
 rw [mfT, h, if_pos rfl, upd_same, hb]
theorem mfT_same (hi : i < L.size) : ∀ {ts : List Tell}, (ts.all fun x => x.op != i) = true → mfT ts M0 β (L.setIfInBounds i true) = mfT ts M0 β L
 | [], _ => rfl
 | x :: r, h => by
  rw [List.all_cons, Bool.and_eq_true] at h
  have h1 : x.op ≠ i := by simpa using h.1
  rw [mfT, mfT, mfT_same hi h.2, getD_set_b hi, if_neg h1]
theorem mfT_rest (hi : i < L.size) : ∀ {ts : List Tell}, (ts.all fun x => x.op != i) = true → (∀ y, y ∈ ts → L.getD y.op false = true → y.id ≠ d → y.b β' = y.b β) → ∀ t, t ≠ d → mfT ts M0 β' (L.setIfInBounds i true) t = mfT ts M0 β L t
 | [], _, _, t, _ => rfl
 | x :: r, h, hs, t, ht => by
  rw [List.all_cons, Bool.and_eq_true] at h
  have h1 : x.op ≠ i := by simpa using h.1
  have ih := mfT_rest hi h.2 (fun y hy => hs y (List.mem_cons_of_mem _ hy)) t ht
  rw [mfT, mfT, getD_set_b hi, if_neg h1]
  by_cases hf : L.getD x.op false = true
  ·rw [if_pos hf, if_pos hf]
   by_cases hx : t = x.id
   ·subst hx; rw [upd_same, upd_same, hs x (List.mem_cons_self ..) hf ht]
   ·rw [upd_ne _ _ hx, upd_ne _ _ hx, ih]
  ·rw [if_neg hf, if_neg hf, ih]
theorem mfT_here {b : Blk} (hi : i < L.size) (hx : x.op = i) (hd : x.id = d) (hb : x.b β' = b) (hn : L.getD i false = false) (h : (r.all fun x => x.op != i) = true)
  (hs : ∀ y, y ∈ r → L.getD y.op false = true → y.id ≠ d → y.b β' = y.b β) : mfT (x :: r) M0 β' (L.setIfInBounds i true) = upd (mfT (x :: r) M0 β L) d (some b) := by
 subst hx hd
 rw [mfT, mfT, getD_set_b hi, if_pos rfl, if_pos rfl, hn, if_neg (by decide), hb]
 funext t
 by_cases ht : t = x.id
 ·subst ht; rw [upd_same, upd_same]
 ·rw [upd_ne _ _ ht, upd_ne _ _ ht, mfT_rest hi h hs t ht]
theorem mfT_pass {b : Blk} (hi : i < L.size) (hx : x.op ≠ i) (hd : x.id ≠ d ∨ L.getD x.op false = false) (hb : L.getD x.op false = true → x.b β' = x.b β) (hr : mfT r M0 β' (L.setIfInBounds i true) = upd (mfT r M0 β L) d (some b)) :
  mfT (x :: r) M0 β' (L.setIfInBounds i true) = upd (mfT (x :: r) M0 β L) d (some b) := by
 rw [mfT, mfT, getD_set_b hi, if_neg hx]
 by_cases hf : L.getD x.op false = true
 ·rw [if_pos hf, if_pos hf, hr, hb hf]
  have hne : x.id ≠ d := hd.resolve_right fun e => by rw [e] at hf; cases hf
  funext t
  by_cases h1 : t = x.id
  ·subst h1; rw [upd_same, upd_ne _ _ hne, upd_same]
  ·rw [upd_ne _ _ h1]
   by_cases h2 : t = d
   ·subst h2; rw [upd_same, upd_same]
   ·rw [upd_ne _ _ h2, upd_ne _ _ h2, upd_ne _ _ h1]
 ·rw [if_neg hf, if_neg hf, hr]
end
section
variable {s : S} {d t : Nat} {v : V}
theorem put_old (h : t ≠ d) {w : V} (hs : s.ρ t = w) : (s.put (some d) v).ρ t = w := by
 show upd s.ρ d v t = w
 rw [upd_ne _ _ h]; exact hs
theorem sto_rho {M' : Mem} {w : V} (h : s.ρ t = w) : (⟨s.ρ, M'⟩ : S).ρ t = w := h
end
def closB (ops : Array Oper) : Nat → List Nat → List Nat
 | 0, S => S
 | i + 1, S => closB ops i (if S.contains i then S ++ (List.range i).filter (depB ops i) else S)
theorem clos_listed {ops : Array Oper} {L : Array Bool} {last : Nat} (c : Come ops L last) : ∀ (n : Nat) (S : List Nat), (∀ j, j ∈ S → L.getD j false = true) → ∀ j, j ∈ closB ops n S → L.getD j false = true
 | 0, S, h, j, hj => h j hj
 | i + 1, S, h, j, hj => by
  rw [closB] at hj
  refine clos_listed c i _ (fun k hk => ?_) j hj
  split at hk
  ·rename_i hi
   rcases List.mem_append.1 hk with hk | hk
   ·exact h k hk
   ·exact c.closed i k (h i (List.contains_iff_mem.1 hi)) (List.mem_filter.1 hk).2
  ·exact h k hk
def lastB (ops : Array Oper) (last : Nat) : Bool := (List.range last).all fun j => (closB ops last ((List.range last).filter (depB ops last))).contains j
theorem lastB_all {ops : Array Oper} {L : Array Bool} {last : Nat} (c : Come ops L last) (h : lastB ops last = true) : ∀ j, j < last → L.getD j false = true := fun j hj => by
 have h1 := List.all_eq_true.1 h j (List.mem_range.2 hj)
 exact clos_listed c last _ (fun k hk => c.dep k (List.mem_filter.1 hk).2) j (List.contains_iff_mem.1 h1)
theorem AW.region_planT {P : Program} {E : Env} {s0 : S} {id : Nat} {ops : Array Oper} {Q : Exit → S → Prop} (val : Nat → (Nat → Nat × Nat) → V) (own : Nat → Option Nat) (ts : List Tell) (last : Nat) (hf : P.follows .mixedOrders = true) (hd : dstOK E.n ops = true)
  (hsz : ops.size = last + 1) (he : edgesOK ops (List.range ops.size) = true) (hall : lastB ops last = true)
  (hob : ∀ i, i < last → ∀ β L, Come ops L i → ∃ o, ops[i]? = some o ∧ SG P E ops o (fun s' => ∃ β', s' = pG s0 val own (mfT ts s0.M) β' (L.setIfInBounds i true)) (pG s0 val own (mfT ts s0.M) β L))
  (hfin : ∀ β L, Come ops L last → (∀ j, j < last → L.getD j false = true) → ∃ o, ops[last]? = some o ∧ SG P E ops o (Q .normal) (pG s0 val own (mfT ts s0.M) β L)) : AW P E (.region id ops true) Q s0 := fun F a w hr => by
 have hnone : ∀ i, (Array.replicate ops.size false).getD i false = false := fun i => by
  simp only [Array.getD_eq_getD_getElem?, Array.getElem?_replicate]
  split <;> rfl
 have h0 : pG s0 val own (mfT ts s0.M) (fun _ => (0, 0)) (Array.replicate ops.size false) = s0 := pG_none hnone (mfT_none hnone _)
 have hrun : Run E F s0 a { w with drawn := w.drawn + 1 } := ⟨⟨hr.sim.imm, fun id blk hm => (hr.sim.own id blk hm).keep (Hp.le.refl F) fun _ _ => rfl, hr.sim.apart, hr.sim.inj⟩, ⟨hr.grow.os, hr.grow.tape, hr.grow.output, hr.grow.size, hr.grow.block⟩, hr.f0, hr.fnew, hr.mnew, hr.size, hr.defers, hr.slots⟩
 refine wp_region_any hf (wpAny_planG (St := fun β L => pG s0 val own (mfT ts s0.M) β L) (dstOK.spec hd) hsz (fun i o ho => edgesOK.spec _ he i o (List.mem_range.2 (Array.getElem?_eq_some_iff.1 ho).1) ho)
  (fun L c j hj => lastB_all c hall j hj) hob (fun β L c => hfin β L c (lastB_all c hall)) ops.size _ (fun _ => (0, 0)) F a _ (by simp) ?_ (hnone last) (fun k j hk => by rw [hnone] at hk; cases hk) (by rw [h0]; exact hrun))
 have : ((List.range ops.size).filter fun i => !(Array.replicate ops.size false).getD i true) = List.range ops.size := List.filter_eq_self.2 fun x hx => by
  have hx := List.mem_range.1 hx
  simp [Array.getD, hx]
 rw [this, List.length_range]
def lateB (ops : Array Oper) (k j : Nat) : Bool := (closB ops k ((List.range k).filter (depB ops k))).contains j
theorem clos_closed {ops : Array Oper} {L : Array Bool} (hc : ∀ k j, L.getD k false = true → depB ops k j = true → L.getD j false = true) : ∀ (n : Nat) (S : List Nat), (∀ j, j ∈ S → L.getD j false = true) → ∀ j, j ∈ closB ops n S → L.getD j false = true
 | 0, S, h, j, hj => h j hj
 | i + 1, S, h, j, hj => by
  rw [closB] at hj
  refine clos_closed hc i _ (fun k hk => ?_) j hj
  split at hk
  ·rename_i hi
   rcases List.mem_append.1 hk with hk | hk
   ·exact h k hk
   ·exact hc i k (h i (List.contains_iff_mem.1 hi)) (List.mem_filter.1 hk).2
  ·exact h k hk
theorem come_lateT {ops : Array Oper} {L : Array Bool} {i k : Nat} (c : Come ops L i) (h : lateB ops k i = true) : L.getD k false = false := by
 cases e : L.getD k false with
 | false => rfl
 | true =>
  have := clos_closed c.closed k _ (fun j hj => c.closed k j e (List.mem_filter.1 hj).2) i (List.contains_iff_mem.1 h)
  rw [c.no] at this
  cases this
theorem come_notT {ops : Array Oper} {L : Array Bool} {i k : Nat} {p : Prop} (c : Come ops L i) (h : lateB ops k i = true) (e : L.getD k false = true) : p := by
 rw [come_lateT c h] at e; cases e
theorem come_dep {ops : Array Oper} {L : Array Bool} {i j : Nat} (c : Come ops L i) (h : lateB ops i j = true) : L.getD j false = true :=
 clos_closed c.closed i _ (fun k hk => c.dep k (List.mem_filter.1 hk).2) j (List.contains_iff_mem.1 h)
end Go.AL

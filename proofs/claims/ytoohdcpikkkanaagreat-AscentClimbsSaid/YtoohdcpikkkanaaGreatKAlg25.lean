/-
  AL, part 25: a region whose order is open, by all of its orders.
-/
import Derived.Test.YtoohdcpikkkanaaGreatKNumb
import Derived.Test.YtoohdcpikkkanaaGreatKHmmB
import Derived.Test.YtoohdcpikkkanaaGreatKAlgd
set_option linter.unusedVariables false
set_option linter.unusedSimpArgs false
namespace Go.AL
open Go Go.BigFrame
def symX (w : List Int) (t : Nat) : Nat := (w.getD t 0).toNat - 1
def WordOK (h : HM) (w : List Int) : Prop := w.length ≤ 256 ∧ ∀ x, x ∈ w → 1 ≤ x ∧ x ≤ h.sym
theorem WordOK.get {h : HM} {w : List Int} (k : WordOK h w) {t : Nat} (ht : t < w.length) : 1 ≤ w.getD t 0 ∧ w.getD t 0 ≤ h.sym := k.2 _ (getD_mem ht 0)
theorem WordOK.symX {h : HM} {w : List Int} (k : WordOK h w) {t : Nat} (ht : t < w.length) : Go.AL.symX w t < h.sym ∧ w.getD t 0 = ((Go.AL.symX w t + 1 : Nat) : Int) := by
 have := k.get ht
 unfold Go.AL.symX
 omega
theorem cmpQ_gt {x y : Rat} : 0 < cmpQ x y ↔ y < x := by
 rw [← Rat.not_le, ← cmpQ_le]; omega
theorem map_getD_range {α : Type} {n k : Nat} (f : Nat → α) (d : α) (hk : k < n) : ((List.range n).map f).getD k d = f k := by
 rw [List.getD_eq_getElem?_getD, List.getElem?_map, List.getElem?_range hk]; rfl
def fillF {α : Type} (d : α) (g : Nat → α) (n i : Nat) : List α := (List.range n).map fun j => if j < i then g j else d
theorem fillF_len {α : Type} (d : α) (g : Nat → α) (n i : Nat) : (fillF d g n i).length = n := by simp [fillF]
theorem fillF_zero {α : Type} (d : α) (g : Nat → α) (n : Nat) : fillF d g n 0 = List.replicate n d := by
 refine List.ext_getElem (by simp [fillF]) fun k h1 h2 => ?_
 simp [fillF]
theorem fillF_set {α : Type} {d : α} {g : Nat → α} {n i : Nat} (hi : i < n) : (fillF d g n i).set i (g i) = fillF d g n (i + 1) := by
 refine List.ext_getElem (by simp [fillF]) fun k h1 h2 => ?_
 rw [List.getElem_set]
 simp only [fillF, List.getElem_map, List.getElem_range]
 by_cases he : i = k
 ·subst he; rw [if_pos rfl, if_pos (by omega)]
 ·rw [if_neg he]
  by_cases h3 : k < i
  ·rw [if_pos h3, if_pos (by omega)]
  ·rw [if_neg h3, if_neg (by omega)]
theorem fillF_all {α : Type} (d : α) (g : Nat → α) (n : Nat) : fillF d g n n = (List.range n).map g := by
 refine List.map_congr_left fun j hj => ?_
 rw [if_pos (List.mem_range.1 hj)]
end Go.AL

set_option linter.unusedVariables false
set_option linter.unusedSimpArgs false
namespace Go.Proofs.YtoohdcpikkkanaaGreat
open Go Go.AL
theorem words_Valid {h : HM} {w : List Int} (k : WordOK h w) (hs : 1 ≤ h.sym ∧ h.sym ≤ 32) : FSpec P F.words_Valid [.d (ints w), .d (dI h.sym)] (.d (dB true)) := by
 have k1 := k.1
 refine FSpec.intro fn.words_Valid (by rfl) (by rfl) (nb9 (by rfl)) fun E hE => (AW.sg hE rfl (asD rfl (OL.nil (AW.seq (AW.sg hE rfl (mvD rfl (lnL sl.ints rfl rfl ?_)))))))
 refine mvD rfl (OL.nil (AW.block ?_))
 refine AW.whileK (α := Nat) [(0, _), (1, _), (7, _), (8, _)] [] (fun i => [(9, .d (dI i))]) (fun i => []) (fun i => i ≤ w.length) (fun i => w.length - i) 0 (.cons (knD rfl) (.cons (knD rfl) (.cons (knD rfl) (.cons (knD rfl) .nil)))) .nil ⟨Nat.zero_le _, .cons (VLe.refl _) .nil, .nil⟩ ?_
 intro i h1
 refine AW.sg hE rfl (c_lss rfl rfl rfl (OL.nil (AW.seq (AW.cond rfl (fun h10 => ?_) (fun h10 => ?_)))))
 ·try simp only [dx9] at h10
  refine AW.skip (AW.seq (AW.block (AW.sg hE rfl (ixLn sl.ints 0 rfl rfl (by omega) rfl rfl (ldRC ce.int rfl (asD rfl (OL.nil ?_)))))))
  refine AW.seq ?_
  have kg := k.get (t := i) (by omega)
  refine AW.rg hE rfl (mvD rfl (c_lss rfl rfl (c := false) (by exact decide_eq_false (by omega)) (mvD rfl (OL.yes rfl (mvD rfl (OL.yes rfl (mvD rfl ?_)))))))
  refine OL.yes rfl (c_gtr rfl rfl (c := false) (by exact decide_eq_false (by omega)) (pkF rfl rfl (OL.nil (AW.cond rfl (fun hno => absurd hno (by decide)) (fun _ => ?_)))))
  exact AW.skip (AW.rg hE rfl (add_i64 rfl rfl (by omega) (mvD rfl (OL.nil (AW.again (x := i) (i + 1) (by omega) ⟨by omega, Knows.app (.cons (VLe.refl _) (.cons (VLe.refl _) (.cons (VLe.refl _) (.cons (VLe.refl _) .nil)))) (.cons (VLe.refl _) .nil), .nil⟩)))))
 ·try simp only [dx9] at h10
  refine AW.exit (AW.sg hE rfl (mvD rfl (c_geq rfl rfl (c := true) (by exact decide_eq_true (by omega)) (mvD rfl (OL.yes rfl (mvD rfl (OL.yes rfl ?_)))))))
  refine c_leq rfl rfl (c := true) (by exact decide_eq_true (by omega)) (pkT rfl rfl (mvD rfl (OL.yes rfl (mvD rfl (OL.yes rfl (lnL sl.ints rfl rfl (OL.yes rfl ?_)))))))
  exact c_leq rfl rfl (c := true) (by exact decide_eq_true (by omega)) (pkT rfl rfl (asD rfl (OL.nil (AW.ret (RetQ.r ⟨_, .tmp rfl .nil, .le (VLe.refl _)⟩)))))
end Go.Proofs.YtoohdcpikkkanaaGreat

set_option linter.unusedVariables false
set_option linter.unusedSimpArgs false
namespace Go.Proofs.YtoohdcpikkkanaaGreat
open Go Go.AL
theorem fresh_Rat {q : Rat} (hz : sz q ≤ 68719476736) : FSpec P F.fresh_Rat [vQ q] (vQ q) := by
 have s1 := sz_num q
 have s2 := sz_den q
 have l1 : (ofQ q).num.length ≤ 8796093022208 := by rw [show (ofQ q).num = lim q.num.natAbs from rfl]; omega
 have l2 : (ofQ q).den.length ≤ 8796093022208 := by by_cases e : q.den = 1 <;> simp [ofQ, e]; omega
 refine FSpec.intro fn.fresh_Rat (by rfl) (by rfl) (nb9 (by rfl)) fun E hE => (AW.sg hE rfl (bxA rfl rfl fun b1 => (al z.Rat rfl fun b2 => (OL.nil (AW.seq (AW.dg 1 [0,1,2,3,4,5,6,7,8,9] order_free hE rfl (by kernel_rfl) (OI.of_OL (os := [_,_,_,_,_,_,_,_,_,_]) rfl ?_)))))))
 refine faP fd.Rat_0 rfl rfl (ldPC ce.bool rfl rfl rfl (faP fd.Rat_1 rfl rfl (ldPC ce.u32s rfl rfl rfl (clv rfl (.cons (VLe.refl _) .nil) (clone_u32s l1) (faP fd.Rat_2 rfl rfl (ldPC ce.u32s rfl rfl rfl (clv rfl (.cons (VLe.refl _) .nil) (clone_u32s l2) ?_)))))))
 exact bd2 (cs := [_,_,_]) z.Rat pl.Rat (pvC (by exact evD rfl) (pvC (by exact evD rfl) (pvC (by exact evD rfl) (pvN)))) (by rfl) (sto sz.Rat rfl rfl rfl rfl rfl (nb9 rfl) (cells2 := [_,_,_]) rfl (OL.nil (AW.ret (RetQ.r ⟨_, .cellA rfl rfl ag.Rat (nb9 rfl) .nil, .ag (.cons (.le (VLe.refl _)) (.cons (.le (VLe.refl _)) (.cons (.le (VLe.refl _)) .nil)))⟩))))
end Go.Proofs.YtoohdcpikkkanaaGreat

set_option linter.unusedVariables false
set_option linter.unusedSimpArgs false
namespace Go.AL
open Go Go.BigFrame
theorem mem1_get {i : Nat} {blk b : Blk} {id : Nat} (h : mem1 i blk id = some b) : id = i ∧ b = blk := by
 unfold mem1 at h
 split at h
 ·rename_i e; exact ⟨e, by cases h; rfl⟩
 ·cases h
theorem mem1_self (i : Nat) (blk : Blk) : mem1 i blk i = some blk := by unfold mem1; rw [if_pos rfl]
theorem Sim.ren1 {F : Hp} {i j : Nat} {blk : Blk} {w : World} (h : Sim F (mem1 j blk) w) : Sim F (mem1 i blk) w :=
 ⟨h.imm, fun id b hb => by obtain ⟨_, rfl⟩ := mem1_get hb; exact h.own j _ (mem1_self _ _), fun id b k hb hk => by obtain ⟨_, rfl⟩ := mem1_get hb; exact h.apart j _ k (mem1_self _ _) hk,
  fun a b ba bb k ha hb _ _ => by rw [(mem1_get ha).1, (mem1_get hb).1]⟩
theorem Owned.ren1 {i j : Nat} {blk : Blk} {k : Nat} (h : Owned (mem1 j blk) k) : Owned (mem1 i blk) k := by
 obtain ⟨id, b, hb, hk⟩ := h
 obtain ⟨_, rfl⟩ := mem1_get hb
 exact ⟨i, _, mem1_self _ _, hk⟩
theorem FSpecM.ren1 {P : Program} {f i j : Nat} {args args2 : List V} {blk blk' : Blk} {res : V} (h : FSpecM P f args (mem1 i blk) res (mem1 i blk')) (ha : VLes args2 args) : FSpecM P f args2 (mem1 j blk) res (mem1 j blk') :=
 ⟨h.1, fun F w vals hS hv => (h.2 F w vals hS.ren1 (simVs_le hv ha)).mono fun e w' ⟨v, F', he, hA, hs⟩ =>
  ⟨v, F', he, ⟨hA.grow.mono fun k hk => hk.ren1, hA.le, hA.sim.ren1, fun k a b => (hA.new k a b).imp (fun x => x) Owned.ren1, fun k hk => (hA.mnew k hk.ren1).imp (fun x => x) Owned.ren1⟩, hs⟩⟩
def V.frb (id b : Nat) (ds : List D) : V → V
 | .ptr i b2 off => if i = id then (if b2 = b then .ref (ds.drop off) else .ptr i b2 off) else .ptr i b2 off
 | v => v
def Blk.frb (id b : Nat) (ds : List D) : Blk → Blk
 | .box x t cells => .box x t (cells.map (V.frb id b ds))
 | k => k
theorem V.frb_sim {F F' : Hp} {id b : Nat} {ds : List D} (hle : Hp.le F F') (h : ∀ off, SimV F' (.pointer (some ⟨b, off, none⟩)) (.ref (ds.drop off))) {u : Value} {v : V} (hv : SimV F u v) : SimV F' u (v.frb id b ds) := by
 cases v with
 | ptr i b2 off =>
  simp only [V.frb]
  split
  ·split
   ·rename_i e
    subst e
    cases hv
    exact h off
   ·exact hv.mono hle
  ·exact hv.mono hle
 | _ => exact hv.mono hle
theorem freeze_box {F : Hp} {M : Mem} {w : World} (h : Sim F M w) {id b t : Nat} {cells : List V} {ds : List D} (hM : M id = some (.box b t cells)) (hd : VCs cells ds) :
  ∃ F', Hp.le F F' ∧ Sim F' (upd M id none) w ∧ (∀ k, F k = none → F' k ≠ none → Owned M k) ∧ ∀ off, SimV F' (.pointer (some ⟨b, off, none⟩)) (.ref (ds.drop off)) := by
 have hin : ∀ id' blk' k, (upd M id none) id' = some blk' → blk'.owns k → id' ≠ id ∧ M id' = some blk' := fun id' blk' k hm hk => by
  unfold upd at hm
  split at hm
  ·cases hm
  ·rename_i hne; exact ⟨hne, hm⟩
 obtain ⟨cs, hh, hl, h1, hr⟩ := h.own id _ hM
 have hFb : F b = none := h.apart id _ b hM rfl
 have hle : Hp.le F (F.add b (.cells cs.toArray t (0, 0))) := fun k o hk => by
  unfold Hp.add
  split
  ·rename_i e'; subst e'; rw [hFb] at hk; cases hk
  ·exact hk
 refine ⟨F.add b (.cells cs.toArray t (0, 0)), hle, ⟨fun k o hk => ?_, fun id' blk' hm => ?_, fun id' blk' k hm hk => ?_, fun i j bi bj k hi hj ki kj => ?_⟩, fun k hk hn => ?_, fun off => .ref (us := fun k => cs.getD (off + k) undef) fun k d hd' => ?_⟩
 ·unfold Hp.add at hk
  split at hk
  ·rename_i e'; subst e'; cases hk; exact hh
  ·exact h.imm k o hk
 ·have hm' : M id' = some blk' := by unfold upd at hm; split at hm; cases hm; exact hm
  exact (h.own id' blk' hm').keep hle fun k _ => rfl
 ·obtain ⟨hne, hm'⟩ := hin id' blk' k hm hk
  unfold Hp.add
  split
  ·rename_i e'; subst e'
   exact absurd (h.inj id' id _ _ _ hm' hM hk rfl) hne
  ·exact h.apart id' blk' k hm' hk
 ·exact h.inj i j bi bj k (hin i bi k hi ki).2 (hin j bj k hj kj).2 ki kj
 ·unfold Hp.add at hn
  split at hn
  ·rename_i e'; subst e'; exact ⟨id, _, hM, rfl⟩
  ·exact absurd hk hn
 ·rw [List.getElem?_drop] at hd'
  obtain ⟨c, hc, hcd⟩ := hd.get (off + k) d hd'
  have hlt : off + k < cs.length := by rw [hl]; exact (List.getElem?_eq_some_iff.1 hc).1
  have hu : cs[off + k]? = some (cs.getD (off + k) undef) := by rw [List.getD_eq_getElem?_getD, List.getElem?_eq_getElem hlt]; rfl
  refine ⟨?_, h1 _ (List.mem_of_getElem? hu), ((hcd F _ (hr (off + k) c _ hc hu)).1).mono hle⟩
  rw [addr_add]
  simp only [cellF, Hp.add, if_true, List.getElem?_toArray, hu]
  rfl
theorem AW.freezeBox {P : Program} {E : Env} {k : Code} {Q : Exit → S → Prop} {s : S} (id : Nat) {b t : Nat} {cells : List V} (ds : List D) (hM : s.M id = some (.box b t cells)) (hd : VCs cells ds)
  (h : AW P E k Q ⟨fun t => (s.ρ t).frb id b ds, fun j => if j = id then none else (s.M j).map (Blk.frb id b ds)⟩) : AW P E k Q s := fun F a w hr => by
 obtain ⟨F', h1, h2, h3, h4⟩ := freeze_box hr.sim hM hd
 refine h F' a w ?_
 have part : ∀ j blk, (fun j => if j = id then none else (s.M j).map (Blk.frb id b ds)) j = some blk → ∃ bl, (upd s.M id none) j = some bl ∧ s.M j = some bl ∧ blk = bl.frb id b ds := fun j blk hj => by
  simp only at hj
  split at hj
  ·cases hj
  ·rename_i hne
   cases hq : s.M j with
   | none => rw [hq] at hj; cases hj
   | some bl => rw [hq] at hj; cases hj; exact ⟨bl, by rw [upd_ne _ _ hne]; exact hq, rfl, rfl⟩
 have ow : ∀ (bl : Blk) (k : Nat), (bl.frb id b ds).owns k → bl.owns k := fun bl k hk => by cases bl <;> exact hk
 refine ⟨⟨h2.imm, fun j blk hj => ?_, fun j blk k hj ho => ?_, fun i j bi bj k hi hj hoi hoj => ?_⟩, hr.grow, hr.f0.trans h1, fun k p q => ?_, fun j blk k hj ho => ?_, hr.size, hr.defers, fun t => V.frb_sim h1 h4 (hr.slots t)⟩
 ·obtain ⟨bl, hb, hb0, rfl⟩ := part j blk hj
  have ok := h2.own j bl hb
  cases bl with
  | row => exact ok
  | pool => exact ok
  | mat => exact ok
  | box x t cells =>
   obtain ⟨cs, g1, g2, g3, g4⟩ := hr.sim.own j _ hb0
   refine ⟨cs, g1, by simpa using g2, g3, fun i v u hv hu => ?_⟩
   rw [List.getElem?_map] at hv
   cases hq : cells[i]? with
   | none => rw [hq] at hv; cases hv
   | some v0 => rw [hq] at hv; cases hv; exact V.frb_sim h1 h4 (g4 i v0 u hq hu)
 ·obtain ⟨bl, hb, _, rfl⟩ := part j blk hj
  exact h2.apart j bl k hb (ow bl k ho)
 ·obtain ⟨b1, hb1, _, rfl⟩ := part i bi hi
  obtain ⟨b2, hb2, _, rfl⟩ := part j bj hj
  exact h2.inj i j b1 b2 k hb1 hb2 (ow _ _ hoi) (ow _ _ hoj)
 ·cases hf : F k with
  | none =>
   obtain ⟨i, bl, hi, ho⟩ := h3 k hf q
   exact hr.mnew i bl k hi ho
  | some o => exact hr.fnew k p (by rw [hf]; simp)
 ·obtain ⟨bl, _, hb, rfl⟩ := part j blk hj
  exact hr.mnew j bl k hb (ow _ _ ho)
theorem frb_self {id b off : Nat} {ds : List D} : V.frb id b ds (.ptr id b off) = .ref (ds.drop off) := by simp [V.frb]
end Go.AL

set_option linter.unusedVariables false
set_option linter.unusedSimpArgs false
namespace Go.AL
open Go Go.BigFrame
section
variable {P : Program}
def OT (P : Program) (ops : Array Oper) (K : S → Prop) : Nat → Array Bool → S → Prop
 | 0, listed, s => Region.ready .any ops listed = [] ∧ K s
 | n + 1, listed, s => Region.ready .any ops listed ≠ [] ∧ ∀ i, i ∈ Region.ready .any ops listed → ∃ o, ops[i]? = some o ∧ OG P 0 ops o (OT P ops K n (listed.setIfInBounds i true)) s
def OTs (P : Program) (ops : Array Oper) (K : S → Prop) (n : Nat) (listed : Array Bool) (s : S) : List Nat → List Oper → Prop
 | [], [] => True
 | i :: l, o :: os => OL P 0 ops (OT P ops K n (listed.setIfInBounds i true)) [o] s ∧ OTs P ops K n listed s l os
 | _, _ => False
theorem OTs.get {ops : Array Oper} {K : S → Prop} {n : Nat} {listed : Array Bool} {s : S} : ∀ (l : List Nat) (os : List Oper), l.map (fun i => ops[i]?) = os.map some → OTs P ops K n listed s l os → ∀ i, i ∈ l → ∃ o, ops[i]? = some o ∧ OG P 0 ops o (OT P ops K n (listed.setIfInBounds i true)) s
 | [], _, _, _, i, hi => by simp at hi
 | j :: l, [], h, _, _, _ => by simp at h
 | j :: l, o :: os, h, ht, i, hi => by
  simp only [List.map_cons, List.cons.injEq] at h
  rcases List.mem_cons.1 hi with rfl | hi
  ·exact ⟨o, h.1, ht.1⟩
  ·exact OTs.get l os h.2 ht.2 i hi
end
end Go.AL

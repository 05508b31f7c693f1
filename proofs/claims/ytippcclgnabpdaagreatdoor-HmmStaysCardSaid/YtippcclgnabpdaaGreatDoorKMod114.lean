/-
  M, chapter 33: states that last longer: a model without silent states in which one state stays as long as a list of shares says.
-/
import Derived.Test.YtippcclgnabpdaaGreatDoorKAlg37
import Derived.Test.YtippcclgnabpdaaGreatDoorKNumb
set_option linter.unusedVariables false
set_option linter.unusedSimpArgs false
namespace Go.AL
open Go Go.BigFrame
section
variable {P : Program} {E : Env} {K : S → Prop} {s : S} {pos : String} {after : Array Edge} {ty : Nat}
theorem upd_again {M : Mem} {id : Nat} {blk : Blk} (h : M id = some blk) : upd M id (some blk) = M := by
 funext k
 unfold upd
 split
 ·rename_i e; rw [e]; exact h.symm
 ·rfl
theorem After.none {F : Hp} {M : Mem} {w : World} (h : Sim F M w) : After F M w F M w := ⟨Grow.refl _ _, Hp.le.refl F, h, fun k a b => absurd a b, fun _ k => .inr k⟩
theorem builtin_clear {ats : Array TypeId} {ty : TypeId} {cs : Array Bool} {args : Array Value} : builtin .clear ats ty cs args = (do pure (.value (← Builtin.clear_ ats ty args))) := rfl
theorem clear_exec {a : Act} {w w' : World} {o : Oper} {x : Operand} {t : Nat} {v : Value} (ho : o.op = .call { callee := .builtin .clear, args := #[x], argTypes := #[t] }) {R : Value → World → Prop}
  (hr : (Builtin.clear_ #[t] o.type #[a.eval x]).run P w = .ok v w') (h : R v w') : Good P ((execOp a.eval o).run P w) R := by
 unfold execOp; rw [ho]
 simp only [resolve, Sem.run_bind, Sem.run_pure, Result.andThen_ok, invoke, builtin_clear]
 have e1 : (#[x].map a.eval) = #[a.eval x] := by simp
 rw [e1, hr]
 exact h
theorem SO.clearB {dst : Option Nat} {t e sz by_ id b o n c cb : Nat} {x : Operand} {es : List D} {z : D} {zs : List V} (hd : Below' E.n dst) (hT : SliceT P t e sz by_) (hz : ZeroT P e zs) (hc : VCs zs z.cells) (hx : s.ev x = .osb id b sz o n c) (hM : s.M id = some (.row b cb e sz es)) (hn : o + n = es.length)
  (h : K ((⟨s.ρ, upd s.M id (some (.row b cb e sz (es.take o ++ List.replicate n z)))⟩ : S).put dst (.tup []))) :
  SO P E ⟨dst, .call { callee := .builtin .clear, args := #[x], argTypes := #[t] }, ty, pos, after, none⟩ K s := fun F a w hr => by
 have hx' := hr.eval x
 rw [hx] at hx'
 generalize hax : a.eval x = ax at hx'
 obtain ⟨g0, g1, g2⟩ := hr.sim.own id _ hM
 obtain ⟨i, zv, hi, hzv, h1, h2, h3⟩ := hT.parts
 obtain ⟨i', zv', hi', hzv', z1, z2, z3⟩ := hz.parts
 rw [hi] at hi'; cases hi'
 rw [hzv] at hzv'; cases hzv'
 have hzl : zs.length = sz := by rw [← h2, z3]
 have hdl : z.cells.length = sz := by rw [← hc.length, hzl]
 cases hx' with
 | @osb ao _ _ _ _ _ _ ha hnc =>
  rcases Nat.eq_zero_or_pos n with h0 | h0
  ·subst h0
   have e1 : es.take o ++ List.replicate 0 z = es := by rw [List.replicate_zero, List.append_nil, List.take_of_length_le (by omega)]
   rw [e1, upd_again hM] at h
   refine clear_exec (o := ⟨dst, .call { callee := .builtin .clear, args := #[x], argTypes := #[t] }, ty, pos, after, none⟩) (v := .tuple #[]) (w' := w) rfl ?_ ⟨F, _, hr.after_put (After.none hr.sim) hd (.tup (us := []) rfl fun i c u h => by simp at h), h⟩
   rw [hax]
   cases ao <;> simp [Builtin.clear_, run_underlying hT.u]
  ·rw [ha (by omega)] at hax
   obtain ⟨cs, hh, hcl, c1, c2⟩ := g2 (by omega)
   have hfit : o * sz + n * sz ≤ cs.length := by rw [hcl, ← Nat.add_mul, hn]; exact Nat.mul_le_mul_right _ g0
   have hget : ∀ (j : Nat) (u : Value), (Builtin.zeroCells zv.cells n).toList[j]? = some u → j < n * sz ∧ zv.cells.toList[j % sz]? = some u := fun j u hu => by
    have hj : j < n * sz := by have := (List.getElem?_eq_some_iff.1 hu).1; simpa [Builtin.zeroCells, h1] using this
    refine ⟨hj, ?_⟩
    simp only [Builtin.zeroCells, Array.toList_map, Array.toList_range, h1, List.getElem?_map, List.getElem?_range hj, Option.map_some, Option.some.injEq] at hu
    have hlt : j % sz < zv.cells.size := by rw [h1]; exact Nat.mod_lt _ hT.pos
    rw [getElem!_pos zv.cells (j % sz) hlt] at hu
    rw [← hu]
    simp [hlt]
   have hzlen : (Builtin.zeroCells zv.cells n).toList.length = n * sz := by simp [Builtin.zeroCells, h1]
   have hone : ∀ v, v ∈ (Builtin.zeroCells zv.cells n).toList → v.oneCell' = true := fun u hu => by
    obtain ⟨j, hj⟩ := List.mem_iff_getElem?.1 hu
    exact hT.one hi hzv u (List.mem_of_getElem? (hget j u hj).2)
   have hst := run_storeCells_at P b (o * sz) e (Builtin.zeroCells zv.cells n).toList 0 cs.toArray w hh (by rw [hzlen]; simp; omega) hone
   rw [Nat.add_zero, hzlen] at hst
   have hs : ∀ y, y ∈ es.take o ++ List.replicate n z → y.cells.length = sz := fun y hy => by
    rcases List.mem_append.1 hy with hy | hy
    ·exact g1 y (List.mem_of_mem_take hy)
    ·rw [(List.mem_replicate.1 hy).2]; exact hdl
   have hto : (es.take o).length = o := by rw [List.length_take]; omega
   have hlen : (es.take o ++ List.replicate n z).length = es.length := by rw [List.length_append, hto, List.length_replicate]; exact hn
   have hA : After F s.M w F (upd s.M id (some (.row b cb e sz (es.take o ++ List.replicate n z)))) (w.setRow b (cs.take (o * sz) ++ (Builtin.zeroCells zv.cells n).toList ++ cs.drop (o * sz + n * sz)).toArray) := by
    refine After.set_block hr.sim hM ⟨by omega, rfl⟩ (fun k hk => hk.2) hh fun w' hw' => ⟨by rw [hlen]; exact g0, hs, fun _ => ⟨_, hw', ?_, fun v hv => ?_, fun j d u hjd hju => ?_⟩⟩
    ·rw [List.length_append, List.length_append, List.length_take, List.length_drop, hzlen]; omega
    ·rcases List.mem_append.1 hv with hv | hv
     ·rcases List.mem_append.1 hv with hv | hv
      ·exact c1 v (List.mem_of_mem_take hv)
      ·exact hone v hv
     ·exact c1 v (List.mem_of_mem_drop hv)
    ·rw [List.flatMap_append] at hjd
     have hfo : ((es.take o).flatMap D.cells).length = o * sz := by rw [flat_length fun y hy => g1 y (List.mem_of_mem_take hy), hto]
     rcases Nat.lt_or_ge j (o * sz) with hj | hj
     ·rw [List.getElem?_append_left (by rw [hfo]; exact hj)] at hjd
      rw [List.append_assoc, List.getElem?_append_left (by rw [List.length_take]; omega), List.getElem?_take_of_lt hj] at hju
      refine c2 j d u ?_ hju
      obtain ⟨r, hr2⟩ := flat_take (es := es) o
      rw [hr2, List.getElem?_append_left (by rw [hfo]; exact hj)]
      exact hjd
     ·rw [List.getElem?_append_right (by rw [hfo]; exact hj), hfo] at hjd
      have hsr : ∀ y, y ∈ List.replicate n z → y.cells.length = sz := fun y hy => by rw [(List.mem_replicate.1 hy).2]; exact hdl
      have hjn : j - o * sz < n * sz := by
       have := (List.getElem?_eq_some_iff.1 hjd).1
       rwa [flat_length hsr, List.length_replicate] at this
      rw [List.append_assoc, List.getElem?_append_right (by rw [List.length_take]; omega), List.length_take, Nat.min_eq_left (by omega), List.getElem?_append_left (by rw [hzlen]; exact hjn)] at hju
      obtain ⟨_, hzu⟩ := hget _ u hju
      have hq : (j - o * sz) / sz < n := Nat.div_lt_of_lt_mul (by rw [Nat.mul_comm sz n]; exact hjn)
      have hmod : (j - o * sz) % sz < sz := Nat.mod_lt _ hT.pos
      have hg := flat_get hsr (i := (j - o * sz) / sz) (e := z) (by rw [List.getElem?_replicate, if_pos hq]) ((j - o * sz) % sz) hmod
      rw [Nat.mul_comm, Nat.div_add_mod] at hg
      rw [hg] at hjd
      obtain ⟨x', hx2, hvc⟩ := hc.get _ _ hjd
      rw [← z1, List.getElem?_map, hzu] at hx2
      simp only [Option.map_some, Option.some.injEq] at hx2
      rw [← hx2] at hvc
      exact (hvc F u (absV_sim F u)).1
   refine clear_exec (o := ⟨dst, .call { callee := .builtin .clear, args := #[x], argTypes := #[t] }, ty, pos, after, none⟩) (v := .tuple #[]) rfl ?_ ⟨F, _, hr.after_put hA hd (.tup (us := []) rfl fun i c u h => by simp at h), h⟩
   rw [hax]
   have e2 : (zeroValue e).run P w = .ok zv w := by simp [zeroValue, typeInfo, hi, hzv]
   obtain ⟨m, rfl⟩ : ∃ m, n = m + 1 := ⟨n - 1, by omega⟩
   simp [Builtin.clear_, run_underlying hT.u, e2, hst]
end
end Go.AL

set_option linter.unusedVariables false
set_option linter.unusedSimpArgs false
set_option linter.unusedVariables false
set_option linter.unusedSimpArgs false
namespace Go.AL
open Go Go.BigFrame
section
variable {P : Program} {E : Env} {K : S → Prop} {s : S} {ty : Nat} {pos : String} {after : Array Edge}
theorem RO.all {M Mk : Mem} {id b n c e sz : Nat} {es : List D} {d : D} (hM : M id = some (.row b c e sz es)) (hk : Mk id = Option.none) (hn : n = es.length) (hd : d = .sl es) : RO M Mk (.osl id b n c) (.d d) := by
 subst hn hd
 have h := RO.osl (M := M) (Mk := Mk) hM hk (Nat.le_refl es.length)
 rwa [List.take_length] at h
end
end Go.AL

set_option linter.unusedVariables false
set_option linter.unusedSimpArgs false
set_option linter.unusedVariables false
namespace Go.AL
open Go Go.BigFrame
section
variable {d l : List Rat} {s i k n : Nat} {h : HM}
def entR (d : List Rat) (s i : Nat) : List Rat := if i = s then d else [1]
def sprI (d : List Rat) (s : Nat) (l : List Rat) (i : Nat) : List Rat := (entR d s i).map fun q => l.getD i 0 * q
def sprR (d : List Rat) (s : Nat) (l : List Rat) : List Rat := (List.range l.length).flatMap (sprI d s l)
def cpI (d : List Rat) (s i k : Nat) : List (Nat × Nat) := (List.range k).map fun k => (i, k)
def cpN (d : List Rat) (s : Nat) : Nat → List (Nat × Nat)
 | 0 => []
 | i + 1 => cpN d s i ++ cpI d s i (entR d s i).length
def rowX (h : HM) (d : List Rat) (s n a : Nat) (c : Nat × Nat) : List Rat := if c.2 = 0 then sprR d s (h.trans.getD c.1 []) else (List.range n).map fun j => if j + 1 = a then 1 else 0
def trX (h : HM) (d : List Rat) (s n : Nat) (cs : List (Nat × Nat)) : List (List Rat) := (List.range cs.length).map fun a => rowX h d s n a (cs.getD a (0, 0))
def stX (h : HM) (cs : List (Nat × Nat)) : List Rat := cs.map fun c => if c.2 = 0 then h.stop.getD c.1 0 else 0
def emX (h : HM) (cs : List (Nat × Nat)) : List (List Rat) := cs.map fun c => h.emit.getD c.1 []
def tiX (h : HM) (cs : List (Nat × Nat)) : List Int := cs.map fun c => h.ties.getD c.1 0
def xpHM (h : HM) (d : List Rat) (s : Nat) : HM := ⟨h.sym, (sprR d s h.ini).length, h.empty, sprR d s h.ini, trX h d s (sprR d s h.ini).length (cpN d s h.st), stX h (cpN d s h.st), emX h (cpN d s h.st), List.replicate (cpN d s h.st).length false, tiX h (cpN d s h.st)⟩
theorem trX_snoc (cs : List (Nat × Nat)) (c : Nat × Nat) : trX h d s n (cs ++ [c]) = trX h d s n cs ++ [rowX h d s n cs.length c] := by
 unfold trX
 rw [List.length_append, List.length_singleton, List.range_succ, List.map_append]
 congr 1
 ·refine List.map_congr_left fun a ha => ?_
  rw [List.getD_eq_getElem?_getD, List.getElem?_append_left (List.mem_range.1 ha), ← List.getD_eq_getElem?_getD]
 ·simp
theorem trX_len (cs : List (Nat × Nat)) : (trX h d s n cs).length = cs.length := by simp [trX]
theorem stX_snoc (cs : List (Nat × Nat)) (c : Nat × Nat) : stX h (cs ++ [c]) = stX h cs ++ [if c.2 = 0 then h.stop.getD c.1 0 else 0] := by simp [stX]
theorem emX_snoc (cs : List (Nat × Nat)) (c : Nat × Nat) : emX h (cs ++ [c]) = emX h cs ++ [h.emit.getD c.1 []] := by simp [emX]
theorem tiX_snoc (cs : List (Nat × Nat)) (c : Nat × Nat) : tiX h (cs ++ [c]) = tiX h cs ++ [h.ties.getD c.1 0] := by simp [tiX]
theorem cpI_succ : cpI d s i (k + 1) = cpI d s i k ++ [(i, k)] := by unfold cpI; rw [List.range_succ, List.map_append]; rfl
theorem cpI_len : (cpI d s i k).length = k := by simp [cpI]
theorem cpN_all (st : Nat) : ∀ c, c ∈ cpN d s st → c.1 < st ∧ c.2 < (entR d s c.1).length := by
 induction st with
 | zero => intro c hc; cases hc
 | succ i ih =>
  intro c hc
  rcases List.mem_append.1 hc with hc | hc
  ·have := ih c hc; exact ⟨by omega, this.2⟩
  ·obtain ⟨k, hk, rfl⟩ := List.mem_map.1 hc
   exact ⟨Nat.lt_succ_self _, List.mem_range.1 hk⟩
theorem cpN_prev (st : Nat) : ∀ a, a < (cpN d s st).length → ((cpN d s st).getD a (0, 0)).2 ≠ 0 → 1 ≤ a := fun a ha hk => by
 rcases Nat.eq_zero_or_pos a with rfl | h0
 ·exfalso
  apply hk
  induction st with
  | zero => rfl
  | succ i ih =>
   rw [cpN] at hk ha ⊢
   rcases Nat.eq_zero_or_pos (cpN d s i).length with e | e
   ·rw [List.eq_nil_of_length_eq_zero e, List.nil_append]
    unfold cpI
    cases hl : (entR d s i).length with
    | zero => rfl
    | succ q => rw [List.range_succ_eq_map]; rfl
   ·rw [List.getD_eq_getElem?_getD, List.getElem?_append_left e, ← List.getD_eq_getElem?_getD] at hk ⊢
    exact ih e hk
 ·exact h0
theorem spr_len : (sprR d s l).length = (cpN d s l.length).length := by
 unfold sprR
 generalize l.length = n
 induction n with
 | zero => rfl
 | succ i ih => rw [List.range_succ, List.flatMap_append, List.length_append, ih, cpN, List.length_append, cpI_len]; simp [sprI]
theorem cpN_len (h1 : 1 ≤ d.length) : ∀ st : Nat, (cpN d s st).length = if s < st then st - 1 + d.length else st
 | 0 => by simp [cpN]
 | i + 1 => by
  rw [cpN, List.length_append, cpN_len h1 i, cpI_len]
  unfold entR
  by_cases e : i = s
  ·subst e
   rw [if_pos rfl, if_neg (by omega), if_pos (by omega)]; omega
  ·rw [if_neg e]
   by_cases e2 : s < i
   ·rw [if_pos e2, if_pos (by omega)]; simp; omega
   ·rw [if_neg e2, if_neg (by omega)]; rfl
theorem sumQ_mulL (c : Rat) : ∀ l : List Rat, sumQ (l.map fun q => c * q) = c * sumQ l
 | [] => by rw [List.map_nil, sumQ_nil, Rat.mul_zero]
 | x :: l => by rw [List.map_cons, sumQ_cons, sumQ_mulL c l, sumQ_cons, Rat.mul_add]
theorem spr_sum (hd : sumQ d = 1) : sumQ (sprR d s l) = sumQ l := by
 have key : ∀ n, n ≤ l.length → sumQ ((List.range n).flatMap (sprI d s l)) = sumQ (l.take n) := fun n => by
  induction n with
  | zero => intro _; simp
  | succ i ih =>
   intro hn
   rw [List.range_succ, List.flatMap_append, sumQ_app, ih (by omega), sumQ_take_succ (by omega)]
   congr 1
   have : (List.flatMap (sprI d s l) [i]) = sprI d s l i := by simp
   rw [this]
   unfold sprI
   rw [sumQ_mulL]
   unfold entR
   split
   ·rw [hd, Rat.mul_one]
   ·rw [sumQ_cons, sumQ_nil, Rat.add_zero, Rat.mul_one]
 have := key l.length (Nat.le_refl _)
 rw [List.take_length] at this
 exact this
theorem share_mul {p q : Rat} (hp : Share p) (hq : Share q) : Share (p * q) := by
 refine ⟨Rat.mul_nonneg hp.1 hq.1, ?_⟩
 have h1 := Rat.mul_le_mul_of_nonneg_right hp.2 hq.1
 rw [Rat.one_mul] at h1
 exact Rat.le_trans h1 hq.2
theorem one_share : Share 1 := ⟨by decide, by decide⟩
theorem zero_share : Share 0 := ⟨by decide, by decide⟩
theorem ent_shares (hd : Shares d) : Shares (entR d s i) := by
 unfold entR
 split
 ·exact hd
 ·intro q hq; rw [List.mem_singleton.1 hq]; exact one_share
theorem ent_small {B : Nat} (hB : 1 ≤ B) (hd : Small B d) : Small B (entR d s i) := by
 unfold entR
 split
 ·exact hd
 ·intro q hq; rw [List.mem_singleton.1 hq, sz_one]; exact hB
theorem spr_mem {q : Rat} (hq : q ∈ sprR d s l) : ∃ i, i < l.length ∧ ∃ r, r ∈ entR d s i ∧ q = l.getD i 0 * r := by
 obtain ⟨i, hi, hm⟩ := List.mem_flatMap.1 hq
 obtain ⟨r, hr, rfl⟩ := List.mem_map.1 hm
 exact ⟨i, List.mem_range.1 hi, r, hr, rfl⟩
theorem spr_shares (hd : Shares d) (hl : Shares l) : Shares (sprR d s l) := fun q hq => by
 obtain ⟨i, hi, r, hr, rfl⟩ := spr_mem hq
 exact share_mul (hl.get i) (ent_shares hd r hr)
theorem spr_small {B C : Nat} (hB : 1 ≤ B) (hC : 1 ≤ C) (hd : Small B d) (hl : Small C l) : Small (B + C) (sprR d s l) := fun q hq => by
 obtain ⟨i, hi, r, hr, rfl⟩ := spr_mem hq
 have h1 := sz_mul (l.getD i 0) r
 have h2 := hl.get hC i
 have h3 := ent_small (s := s) (i := i) hB hd r hr
 omega
theorem unit_sum (n a : Nat) (h1 : 1 ≤ a) (h2 : a ≤ n) : sumQ ((List.range n).map fun j => if j + 1 = a then (1 : Rat) else 0) = 1 := by
 have key : ∀ n, sumQ ((List.range n).map fun j => if j + 1 = a then (1 : Rat) else 0) = if a ≤ n then 1 else 0 := fun n => by
  induction n with
  | zero => rw [if_neg (by omega)]; rfl
  | succ i ih =>
   rw [List.range_succ, List.map_append, sumQ_app, ih]
   show _ + sumQ [if i + 1 = a then (1 : Rat) else 0] = _
   rw [sumQ_cons, sumQ_nil, Rat.add_zero]
   by_cases e : a ≤ i
   ·rw [if_pos e, if_neg (by omega), if_pos (by omega), Rat.add_zero]
   ·rw [if_neg e, Rat.zero_add]
    by_cases e2 : i + 1 = a
    ·rw [if_pos e2, if_pos (by omega)]
    ·rw [if_neg e2, if_neg (by omega)]
 rw [key, if_pos h2]
theorem map_mem {α β : Type} {f : α → β} {l : List α} {d : α} {e : β} {i : Nat} (h : i < l.length) : (l.map f).getD i e = f (l.getD i d) := by
 rw [List.getD_eq_getElem?_getD, List.getElem?_map, List.getElem?_eq_getElem h, List.getD_eq_getElem?_getD, List.getElem?_eq_getElem h]; rfl
theorem trX_get {cs : List (Nat × Nat)} {a : Nat} (ha : a < cs.length) : (trX h d s n cs).getD a [] = rowX h d s n a (cs.getD a (0, 0)) := by
 unfold trX
 rw [map_mem (d := 0) (by rw [List.length_range]; exact ha), List.getD_eq_getElem?_getD, List.getElem?_range ha]; rfl
theorem xp_good {b B : Nat} (g : HM.GoodX b B h) (hs : s < h.st) (d1 : 1 ≤ d.length) (hd : Shares d) (hsum : sumQ d = 1) (hz : Small B d) (hn : h.st - 1 + d.length ≤ 12) (hb : B + B ≤ b) : HM.GoodX b (B + B) (xpHM h d s) := by
 have f := g.form
 have hcl : (cpN d s h.st).length = h.st - 1 + d.length := by rw [cpN_len d1, if_pos hs]
 have hil : (sprR d s h.ini).length = (cpN d s h.st).length := by rw [spr_len, f.ini]
 have hst : (xpHM h d s).st = (cpN d s h.st).length := hil
 have B1 := f.b1
 have hc : ∀ a, a < (cpN d s h.st).length → ((cpN d s h.st).getD a (0, 0)).1 < h.st := fun a ha => (cpN_all h.st _ (getD_mem ha _)).1
 have out : ∀ {α : Type} {l : List α} {e : α} {i : Nat}, l.length ≤ i → l.getD i e = e := fun h => getD_ge h
 have row : ∀ a, (h1 : a < (cpN d s h.st).length) → (rowX h d s (sprR d s h.ini).length a ((cpN d s h.st).getD a (0, 0))).length = (cpN d s h.st).length ∧ Shares (rowX h d s (sprR d s h.ini).length a ((cpN d s h.st).getD a (0, 0))) ∧ Small (B + B) (rowX h d s (sprR d s h.ini).length a ((cpN d s h.st).getD a (0, 0))) ∧ sumQ (rowX h d s (sprR d s h.ini).length a ((cpN d s h.st).getD a (0, 0)) ++ [(stX h (cpN d s h.st)).getD a 0]) = 1 := fun a ha => by
  have hi := hc a ha
  have hp := cpN_prev (d := d) (s := s) h.st a ha
  have hx : (stX h (cpN d s h.st)).getD a 0 = if ((cpN d s h.st).getD a (0, 0)).2 = 0 then h.stop.getD ((cpN d s h.st).getD a (0, 0)).1 0 else 0 := map_mem ha
  rw [hx]
  generalize (cpN d s h.st).getD a (0, 0) = c at *
  unfold rowX
  by_cases e : c.2 = 0
  ·rw [if_pos e, if_pos e]
   refine ⟨by rw [spr_len, f.trow _ hi], spr_shares hd (g.pT _), spr_small B1 B1 hz (f.zT _), ?_⟩
   rw [sumQ_app, spr_sum hsum, ← sumQ_app]
   exact g.sT _ hi
  ·rw [if_neg e, if_neg e]
   have h1 := hp e
   refine ⟨by rw [List.length_map, List.length_range, hil], fun q hq => ?_, fun q hq => ?_, ?_⟩
   ·obtain ⟨j, _, rfl⟩ := List.mem_map.1 hq
    split
    ·exact one_share
    ·exact zero_share
   ·obtain ⟨j, _, rfl⟩ := List.mem_map.1 hq
    split
    ·rw [sz_one]; omega
    ·rw [sz_zero]; omega
   ·rw [sumQ_app, unit_sum _ _ h1 (by omega), sumQ_cons, sumQ_nil, Rat.add_zero, Rat.add_zero]
 refine ⟨⟨f.sym0, f.sym1, by rw [hst]; omega, by rw [hst]; omega, rfl, ?_, fun i hi => ?_, ?_, ?_, fun i hi => ?_, ?_, ?_, fun i hi => ?_, by omega, hb, ?_, ?_, ?_, fun i => ?_, fun i => ?_⟩, g.pE, spr_shares hd g.pI, ?_, fun i => ?_, fun i => ?_, ?_, fun i hi => ?_, fun i hi => ?_, fun i j hi hj ht => ?_⟩
 ·show (trX h d s _ _).length = _; rw [trX_len, hst]
 ·rw [hst] at hi ⊢
  show ((trX h d s _ _).getD i []).length = _
  rw [trX_get hi]; exact (row i hi).1
 ·show (stX h _).length = _; rw [hst]; simp [stX]
 ·show (emX h _).length = _; rw [hst]; simp [emX]
 ·rw [hst] at hi
  show ((emX h (cpN d s h.st)).getD i []).length = h.sym
  rw [emX, map_mem (d := (0, 0)) hi]; exact f.erow _ (hc i hi)
 ·show List.replicate _ false = _; rw [hst]
 ·show (tiX h _).length = _; rw [hst]; simp [tiX]
 ·rw [hst] at hi ⊢
  show 0 ≤ (tiX h (cpN d s h.st)).getD i 0 ∧ (tiX h (cpN d s h.st)).getD i 0 < _
  rw [tiX, map_mem (d := (0, 0)) hi]
  have := f.tie _ (hc i hi)
  omega
 ·have := f.zE; show sz h.empty ≤ _; omega
 ·exact spr_small B1 B1 hz f.zI
 ·intro q hq
  obtain ⟨c, _, rfl⟩ := List.mem_map.1 hq
  split
  ·have := f.zS.get B1 c.1; omega
  ·rw [sz_zero]; omega
 ·show Small _ ((trX h d s _ _).getD i [])
  rcases Nat.lt_or_ge i (cpN d s h.st).length with hi | hi
  ·rw [trX_get hi]; exact (row i hi).2.2.1
  ·rw [out (by rw [trX_len]; exact hi)]; exact Small.nil
 ·show Small _ ((emX h _).getD i [])
  rcases Nat.lt_or_ge i (cpN d s h.st).length with hi | hi
  ·rw [emX, map_mem (d := (0, 0)) hi]; exact (f.zM _).mono (by omega)
  ·rw [out (by simp [emX]; exact hi)]; exact Small.nil
 ·intro q hq
  obtain ⟨c, _, rfl⟩ := List.mem_map.1 hq
  split
  ·exact g.pS.get _
  ·exact zero_share
 ·show Shares ((trX h d s _ _).getD i [])
  rcases Nat.lt_or_ge i (cpN d s h.st).length with hi | hi
  ·rw [trX_get hi]; exact (row i hi).2.1
  ·rw [out (by rw [trX_len]; exact hi)]; intro q hq; cases hq
 ·show Shares ((emX h _).getD i [])
  rcases Nat.lt_or_ge i (cpN d s h.st).length with hi | hi
  ·rw [emX, map_mem (d := (0, 0)) hi]; exact g.pM _
  ·rw [out (by simp [emX]; exact hi)]; intro q hq; cases hq
 ·show sumQ (sprR d s h.ini ++ [h.empty]) = 1
  rw [sumQ_app, spr_sum hsum, ← sumQ_app]; exact g.sI
 ·rw [hst] at hi
  show sumQ ((trX h d s _ _).getD i [] ++ [(stX h _).getD i 0]) = 1
  rw [trX_get hi]; exact (row i hi).2.2.2
 ·rw [hst] at hi
  show sumQ ((emX h _).getD i []) = 1
  rw [emX, map_mem (d := (0, 0)) hi]; exact g.sM _ (hc i hi)
 ·rw [hst] at hi
  have hj2 : j < (cpN d s h.st).length := by omega
  change (tiX h _).getD i 0 = (tiX h _).getD j 0 at ht
  show (emX h _).getD i [] = (emX h _).getD j []
  rw [tiX, map_mem (d := (0, 0)) hi, map_mem (d := (0, 0)) hj2] at ht
  rw [emX, map_mem (d := (0, 0)) hi, map_mem (d := (0, 0)) hj2]
  have hi' := hc i hi
  have hj' := hc j hj2
  generalize ((cpN d s h.st).getD i (0, 0)).1 = p at *
  generalize ((cpN d s h.st).getD j (0, 0)).1 = q at *
  rcases Nat.lt_trichotomy p q with e | e | e
  ·exact (g.tied q p hj' e ht.symm).symm
  ·rw [e]
  ·exact g.tied p q hi' e ht
end
end Go.AL

/-
  AL, part 26: rows of rows: heads of rows as data, rows that are given to a pool and taken out of it, rows that become data within an outer row.
-/
import Derived.Test.YtippcclgnabpdaaGreatDoorKAlg25
set_option linter.unusedVariables false
set_option linter.unusedSimpArgs false
namespace Go.AL
open Go Go.BigFrame
section
variable {P : Program} {E : Env} {c : Code} {Q : Exit → S → Prop} {s : S}
theorem AW.repart {M' : Mem} (hok : ∀ F w, Sim F s.M w → ∀ id blk, M' id = some blk → BlkOK F w blk)
  (hinj : ∀ F w, Sim F s.M w → ∀ i j bi bj k, M' i = some bi → M' j = some bj → bi.owns k → bj.owns k → i = j)
  (hsub : ∀ id blk k, M' id = some blk → blk.owns k → ∃ id' blk', s.M id' = some blk' ∧ blk'.owns k) (h : AW P E c Q ⟨s.ρ, M'⟩) : AW P E c Q s := fun F a w hr => by
 refine h F a w ⟨⟨hr.sim.imm, hok F w hr.sim, fun id blk k hm hk => ?_, hinj F w hr.sim⟩, hr.grow, hr.f0, hr.fnew, fun id blk k hm hk => ?_, hr.size, hr.defers, hr.slots⟩
 ·obtain ⟨id', blk', h1, h2⟩ := hsub id blk k hm hk
  exact hr.sim.apart id' blk' k h1 h2
 ·obtain ⟨id', blk', h1, h2⟩ := hsub id blk k hm hk
  exact hr.mnew id' blk' k h1 h2
theorem owL {k e sz : Nat} {rs : List (Nat × List D)} (h : s.M k = some (.pool e sz rs)) : s.M k = some (.pool e sz rs) := h
theorem owT {k b cc e e2 sz : Nat} {rs : List (Nat × List D)} (h : s.M k = some (.mat b cc e e2 sz rs)) : s.M k = some (.mat b cc e e2 sz rs) := h
theorem AW.take (x p i : Nat) {b e sz : Nat} {es : List D} {rs : List (Nat × List D)} (hx : s.M x = none) (hp : s.M p = some (.pool e sz rs)) (hi : rs[i]? = some (b, es))
  (h : AW P E c Q ⟨s.ρ, upd (upd s.M p (some (.pool e sz (rs.set i (b, []))))) x (some (.row b es.length e sz es))⟩) : AW P E c Q s := by
 have hxp : x ≠ p := fun e => by rw [e, hp] at hx; cases hx
 have hil : i < rs.length := (List.getElem?_eq_some_iff.1 hi).1
 have part : ∀ id blk, upd (upd s.M p (some (.pool e sz (rs.set i (b, []))))) x (some (.row b es.length e sz es)) id = some blk → (id = x ∧ blk = .row b es.length e sz es) ∨ (id = p ∧ blk = .pool e sz (rs.set i (b, []))) ∨ (id ≠ p ∧ id ≠ x ∧ s.M id = some blk) := fun id blk hm => by
  unfold upd at hm
  split at hm
  ·rename_i e; cases hm; exact .inl ⟨e, rfl⟩
  ·split at hm
   ·rename_i e; cases hm; exact .inr (.inl ⟨e, rfl⟩)
   ·rename_i h1 h2; exact .inr (.inr ⟨h2, h1, hm⟩)
 have get : ∀ j q, (rs.set i (b, []))[j]? = some q → 0 < q.2.length → j ≠ i ∧ rs[j]? = some q := fun j q hj h0 => by
  rw [List.getElem?_set] at hj
  split at hj
  ·cases hj; exact absurd h0 (by simp)
  ·rename_i e; exact ⟨Ne.symm e, hj⟩
 have own2 : ∀ k, poolOwns (rs.set i (b, [])) k → ∃ j q, j ≠ i ∧ rs[j]? = some q ∧ 0 < q.2.length ∧ k = q.1 := fun k ⟨q, hq, h0, hk⟩ => by
  obtain ⟨j, hj⟩ := List.mem_iff_getElem?.1 hq
  obtain ⟨e, h1⟩ := get j q hj h0
  exact ⟨j, q, e, h1, h0, hk⟩
 have up : ∀ k, poolOwns (rs.set i (b, [])) k → poolOwns rs k := fun k hk => by
  obtain ⟨j, q, _, h1, h0, e⟩ := own2 k hk
  exact ⟨q, List.mem_of_getElem? h1, h0, e⟩
 have upx : ∀ k, (Blk.row b es.length e sz es).owns k → poolOwns rs k := fun k ⟨h0, hk⟩ => ⟨_, List.mem_of_getElem? hi, h0, hk⟩
 refine AW.repart (fun F w hS id blk hm => ?_) (fun F w hS u v bu bv k hu hv ku kv => ?_) (fun id blk k hm hk => ?_) h
 ·have o2 := hS.own p _ hp
  rcases part id blk hm with ⟨_, rfl⟩ | ⟨_, rfl⟩ | ⟨_, _, h⟩
  ·exact o2.2 _ (List.mem_of_getElem? hi)
  ·refine ⟨fun u v q r hu hv q0 r0 hqr => o2.1 u v q r (get u q hu q0).2 (get v r hv r0).2 q0 r0 hqr, fun q hq => ?_⟩
   obtain ⟨j, hj⟩ := List.mem_iff_getElem?.1 hq
   rw [List.getElem?_set] at hj
   split at hj
   ·cases hj; exact ⟨by simp, by simp, fun h0 => absurd h0 (by simp)⟩
   ·exact o2.2 q (List.mem_of_getElem? hj)
  ·exact hS.own id blk h
 ·have o2 := hS.own p _ hp
  have xp : ∀ k, (Blk.row b es.length e sz es).owns k → poolOwns (rs.set i (b, [])) k → False := fun k ⟨h0, hk⟩ hk2 => by
   obtain ⟨j, q, ne, h1, h2, h3⟩ := own2 k hk2
   exact ne (o2.1 j i q (b, es) h1 hi h2 h0 (by rw [← h3, hk]))
  rcases part u bu hu with ⟨eu, rfl⟩ | ⟨eu, rfl⟩ | ⟨nu, nx, h1⟩ <;> rcases part v bv hv with ⟨ev, rfl⟩ | ⟨ev, rfl⟩ | ⟨nv, nx2, h2⟩
  ·rw [eu, ev]
  ·exact (xp k ku kv).elim
  ·exact absurd (hS.inj v p _ _ k h2 hp kv (upx k ku)) nv
  ·exact (xp k kv ku).elim
  ·rw [eu, ev]
  ·exact absurd (hS.inj v p _ _ k h2 hp kv (up k ku)) nv
  ·exact absurd (hS.inj u p _ _ k h1 hp ku (upx k kv)) nu
  ·exact absurd (hS.inj u p _ _ k h1 hp ku (up k kv)) nu
  ·exact hS.inj u v bu bv k h1 h2 ku kv
 ·rcases part id blk hm with ⟨_, rfl⟩ | ⟨_, rfl⟩ | ⟨_, _, h⟩
  ·exact ⟨p, _, hp, upx k hk⟩
  ·exact ⟨p, _, hp, up k hk⟩
  ·exact ⟨id, blk, h, hk⟩
end
section
variable {F : Hp} {w : World} {M : Mem}
theorem flat1 {es : List D} (h : ∀ x, x ∈ es → x.cells.length = 1) {i : Nat} {d : D} (hd : (es.flatMap D.cells)[i]? = some d) : ∃ x, es[i]? = some x ∧ x.cells[0]? = some d := by
 have hl : i < es.length := by
  have h1 := (List.getElem?_eq_some_iff.1 hd).1
  rw [flat_length h, Nat.mul_one] at h1
  exact h1
 have hx : es[i]? = some es[i] := List.getElem?_eq_getElem hl
 have h2 := flat_get h hx 0 (by decide)
 rw [Nat.mul_one, Nat.add_zero] at h2
 exact ⟨_, hx, by rw [← h2]; exact hd⟩
theorem RowOK.read {b c e : Nat} {es es2 : List D} (h : RowOK F w b c e 1 es) (hl : es2.length = es.length) (h1 : ∀ x, x ∈ es2 → x.cells.length = 1)
  (hr : ∀ (i : Nat) (x y : D) (u : Value), es[i]? = some x → es2[i]? = some y → (∀ d : D, x.cells[0]? = some d → Rep F u d) → ∀ d : D, y.cells[0]? = some d → Rep F u d) : RowOK F w b c e 1 es2 := by
 obtain ⟨g0, g1, g2⟩ := h
 refine ⟨by omega, h1, fun hc => ?_⟩
 obtain ⟨cs, k1, k2, k3, k4⟩ := g2 hc
 refine ⟨cs, k1, k2, k3, fun i d u hd hu => ?_⟩
 obtain ⟨y, hy, hyd⟩ := flat1 h1 hd
 have hil : i < es.length := by have := (List.getElem?_eq_some_iff.1 hy).1; omega
 have hx : es[i]? = some es[i] := List.getElem?_eq_getElem hil
 refine hr i _ y u hx hy (fun d' hd' => k4 i d' u ?_ hu) d hyd
 have h2 := flat_get g1 hx 0 (by decide)
 rw [Nat.mul_one, Nat.add_zero] at h2
 rw [h2]; exact hd'
end
open Classical in
noncomputable def poolHp (F : Hp) (rs : List (Nat × List D)) (w : World) : Hp := fun k => if poolOwns rs k then w.heap[k]? else F k
theorem freeze_pool {F : Hp} {M : Mem} {w : World} (h : Sim F M w) {p e sz : Nat} {rs : List (Nat × List D)} (hp : M p = some (.pool e sz rs)) :
  ∃ F', Hp.le F F' ∧ Sim F' (upd M p none) w ∧ (∀ k, F k = none → F' k ≠ none → Owned M k) ∧ ∀ q, q ∈ rs → Rep F' (.slice (some ⟨q.1, 0, none⟩) q.2.length q.2.length) (.sl q.2) := by
 have hle : Hp.le F (poolHp F rs w) := fun k o hk => by
  unfold poolHp
  split
  ·exact h.imm k o hk
  ·exact hk
 have hin : ∀ id' blk', (upd M p none) id' = some blk' → id' ≠ p ∧ M id' = some blk' := fun id' blk' hm => by
  unfold upd at hm
  split at hm
  ·cases hm
  ·rename_i hne; exact ⟨hne, hm⟩
 have hown := h.own p _ hp
 refine ⟨poolHp F rs w, hle, ⟨fun k o hk => ?_, fun id blk hm => (h.own id blk (hin id blk hm).2).keep hle fun _ _ => rfl, fun id blk k hm hk => ?_, fun i j bi bj k hi hj ki kj => h.inj i j bi bj k (hin i bi hi).2 (hin j bj hj).2 ki kj⟩, fun k hk hn => ?_, fun q hq => ?_⟩
 ·unfold poolHp at hk
  split at hk
  ·exact hk
  ·exact h.imm k o hk
 ·obtain ⟨hne, hm⟩ := hin id blk hm
  unfold poolHp
  split
  ·rename_i ho
   exact absurd (h.inj id p _ _ k hm hp hk ho) hne
  ·exact h.apart id blk k hm hk
 ·unfold poolHp at hn
  split at hn
  ·rename_i ho; exact ⟨p, _, hp, ho⟩
  ·exact absurd hk hn
 ·obtain ⟨g0, g1, g2⟩ := hown.2 q hq
  rcases Nat.eq_zero_or_pos q.2.length with h0 | h0
  ·rw [h0, List.eq_nil_of_length_eq_zero h0]; exact Rep.nil_
  ·obtain ⟨cs, k1, k2, k3, k4⟩ := g2 h0
   refine Rep.row (cs := cs) (t := e) (fr := (0, 0)) (sz := sz) (by unfold poolHp; rw [if_pos ⟨q, hq, h0, rfl⟩]; exact k1) rfl (Nat.le_refl _) g1 (by omega) k3 fun i d u hd hu => (k4 i d u hd hu).mono hle
theorem RowOK.heads {F : Hp} {w : World} {b c e : Nat} {rs : List (Nat × List D)} (h : RowOK F w b c e 1 (rs.map hdP)) (hr : ∀ q, q ∈ rs → Rep F (.slice (some ⟨q.1, 0, none⟩) q.2.length q.2.length) (.sl q.2)) : RowOK F w b c e 1 (rs.map fun q => .sl q.2) := by
 refine h.read (by simp) (fun x hx => by obtain ⟨q, _, rfl⟩ := List.mem_map.1 hx; rfl) fun i x y u hx hy hu d hd => ?_
 rw [List.getElem?_map] at hx hy
 cases hq : rs[i]? with
 | none => rw [hq] at hx; cases hx
 | some q =>
  rw [hq] at hx hy
  cases hx; cases hy; cases hd
  have hu2 := hu _ rfl
  cases hu2 with
  | sc _ => exact hr q (List.mem_of_getElem? hq)
def memM (b c e e2 sz : Nat) (rs : List (Nat × List D)) : Mem := fun j => if j = 0 then some (.row b c e 1 (rs.map hdP)) else if j = 1 then some (.pool e2 sz rs) else none
theorem memM_get {b c e e2 sz : Nat} {rs : List (Nat × List D)} {j : Nat} {blk : Blk} (h : memM b c e e2 sz rs j = some blk) : (j = 0 ∧ blk = .row b c e 1 (rs.map hdP)) ∨ (j = 1 ∧ blk = .pool e2 sz rs) := by
 unfold memM at h
 split at h
 ·rename_i e; cases h; exact .inl ⟨e, rfl⟩
 ·split at h
  ·rename_i e; cases h; exact .inr ⟨e, rfl⟩
  ·cases h
theorem map_zip_snd {bs : List Nat} {rows : List (List D)} (h : bs.length = rows.length) : (bs.zip rows).map Prod.snd = rows := by
 rw [List.map_snd_zip]; omega
theorem FSpecX.data {P : Program} {f n e e2 sz : Nat} {args : List V} {rows : List (List D)} (h : FSpecX P f args n e e2 sz rows) (hn : n = rows.length) : FSpec P f args (.d (.sl (rows.map .sl))) :=
 ⟨h.1, fun F w vals hF hv => (h.2 F w vals hF hv).mono fun x w' ⟨v, F', b, c, bs, he, hx, hv, hl, hok, hfr⟩ => by
  have hS : Sim F' (memM b c e e2 sz (bs.zip rows)) w' := by
   refine ⟨hx.imm, fun j blk hj => ?_, fun j blk k hj hk => ?_, fun i j bi bj k hi hj ki kj => ?_⟩
   ·rcases memM_get hj with ⟨_, rfl⟩ | ⟨_, rfl⟩
    ·exact hok.1
    ·exact hok.2.1
   ·rcases memM_get hj with ⟨_, rfl⟩ | ⟨_, rfl⟩
    ·exact (hfr k (.inl hk)).2
    ·exact (hfr k (.inr hk)).2
   ·rcases memM_get hi with ⟨ei, rfl⟩ | ⟨ei, rfl⟩ <;> rcases memM_get hj with ⟨ej, rfl⟩ | ⟨ej, rfl⟩
    ·rw [ei, ej]
    ·obtain ⟨k1, k2⟩ := ki; subst k2; exact absurd kj (hok.2.2 k1)
    ·obtain ⟨k1, k2⟩ := kj; subst k2; exact absurd ki (hok.2.2 k1)
    ·rw [ei, ej]
  obtain ⟨F1, a1, a2, a3, a4⟩ := freeze_pool (p := 1) hS rfl
  have r1 : RowOK F1 w' b c e 1 (((bs.zip rows)).map fun q => .sl q.2) := RowOK.heads (a2.own 0 _ rfl) a4
  have hS2 : Sim F1 (fun j => if j = 0 then some (.row b c e 1 (((bs.zip rows)).map fun q => .sl q.2)) else none) w' := by
   have key : ∀ j blk, (fun j => if j = 0 then some (Blk.row b c e 1 (((bs.zip rows)).map fun q => .sl q.2)) else none) j = some blk → j = 0 ∧ blk = .row b c e 1 (((bs.zip rows)).map fun q => .sl q.2) := fun j blk hj => by
    simp only at hj
    split at hj
    ·rename_i e; cases hj; exact ⟨e, rfl⟩
    ·cases hj
   refine ⟨a2.imm, fun j blk hj => ?_, fun j blk k hj hk => ?_, fun i j bi bj k hi hj ki kj => ?_⟩
   ·obtain ⟨_, rfl⟩ := key j blk hj; exact r1
   ·obtain ⟨_, rfl⟩ := key j blk hj; exact a2.apart 0 _ k rfl hk
   ·rw [(key i bi hi).1, (key j bj hj).1]
  obtain ⟨F2, b1, b2, b3, b4⟩ := freeze_row (id := 0) hS2 rfl
  have hlen : (((bs.zip rows)).map fun q : Nat × List D => D.sl q.2).length = n := by rw [List.length_map, List.length_zip, hl, Nat.min_self, hn]
  have hmap : ((bs.zip rows)).map (fun q : Nat × List D => D.sl q.2) = rows.map .sl := by
   rw [show (fun q : Nat × List D => D.sl q.2) = D.sl ∘ Prod.snd from rfl, ← List.map_map, map_zip_snd hl]
  have owned : ∀ k, Owned (memM b c e e2 sz (bs.zip rows)) k → w.heap.size ≤ k := fun k ⟨j, blk, hj, hk⟩ => by
   rcases memM_get hj with ⟨_, rfl⟩ | ⟨_, rfl⟩
   ·exact (hfr k (.inl hk)).1
   ·exact (hfr k (.inr hk)).1
  refine ⟨v, F2, he, ⟨hx.grow, (hx.le.trans a1).trans b1, b2.imm, fun k p q => ?_⟩, ?_⟩
  ·cases hf1 : F1 k with
   | none =>
    obtain ⟨j, blk, hj, hk⟩ := b3 k hf1 q
    simp only at hj
    split at hj
    ·cases hj; exact (hfr k (.inl hk)).1
    ·cases hj
   | some o1 =>
    cases hf2 : F' k with
    | none => exact owned k (a3 k hf2 (by rw [hf1]; simp))
    | some o2 => exact hx.new k p (by rw [hf2]; simp)
  ·have h1 := b4 v n (hv.mono a1) (by omega)
   rw [← hlen, List.take_length, hmap] at h1
   cases hv
   exact .d h1 rfl⟩
theorem FSpecX.intro {P : Program} {f : Nat} {fn : Func} {c : Code} {args : List V} {n e e2 sz : Nat} {rows : List (List D)} (hf : P.funcs[f]? = some fn) (hname : (fn.name == "runtime.NumGoroutine") = false) (hb : fn.body = some c) (hn : args.length ≤ fn.ntmps) (t : Nat) (hres : fn.results.toList = [.tmp t])
  (h : ∀ E : Env, E.n = fn.ntmps → AW P E c (fun x s => (x = .normal ∨ x = .ret) ∧ ∃ o p b cp rs, s.ρ t = .osl o b n cp ∧ s.M o = some (.row b cp e 1 (rs.map hdP)) ∧ s.M p = some (.pool e2 sz rs) ∧ o ≠ p ∧ rs.map Prod.snd = rows) ⟨argsρ args, noMem⟩) : FSpecX P f args n e e2 sz rows := by
 refine ⟨by simp [HasBody, hf, hname, hb], fun F w vals hF hv => calls_of_wp hf hb ?_⟩
 have hlen : vals.length = args.length := hv.1
 have hrun : Run ⟨w, F, Owned noMem, fn.ntmps⟩ F ⟨argsρ args, noMem⟩ { tmps := vals.toArray ++ Array.replicate (fn.ntmps - vals.toArray.size) undef, defers := [] } w := by
  refine ⟨sim_none hF, Grow.refl _ _, Hp.le.refl F, fun k p q => absurd p q, fun id blk k hm ho => .inr ⟨id, blk, hm, ho⟩, by simp; omega, rfl, fun t => ?_⟩
  simp only [argsρ]
  by_cases ht : t < args.length
  ·have h1 : args[t]? = some args[t] := List.getElem?_eq_getElem ht
   have h2 : vals[t]? = some (vals[t]'(by omega)) := List.getElem?_eq_getElem (by omega)
   rw [List.getD_eq_getElem?_getD, h1, Array.getD_eq_getD_getElem?, Array.getElem?_append_left (by simpa [hlen] using ht), List.getElem?_toArray, h2]
   exact hv.2 t _ _ h1 h2
  ·rw [List.getD_eq_getElem?_getD, List.getElem?_eq_none (by omega)]
   exact .junk
 refine wp_mono (h ⟨w, F, Owned noMem, fn.ntmps⟩ rfl F _ w hrun) fun x a' w' ⟨F', s', hr, hq, o, p, b, cp, rs, h1, h2, h3, h4, h5⟩ => ?_
 have ez : (rs.map Prod.fst).zip rows = rs := by
  rw [← h5, List.zip_map', List.map_id'']
  intro q; rfl
 have done : a'.defers = [] ∧ ∃ v, (results fn a'.tmps).run P w' = .ok v w' ∧ ∃ (v' : Value) (F' : Hp) (b c : Nat) (bs : List Nat), Ending.returned v = .returned v' ∧ Ext F w F' w' ∧ SimV F' v' (.osl 0 b n c) ∧ bs.length = rows.length ∧ BlkOK F' w' (.mat b c e e2 sz (bs.zip rows)) ∧ ∀ k, (Blk.mat b c e e2 sz (bs.zip rows)).owns k → w.heap.size ≤ k ∧ F' k = none := by
  refine ⟨hr.defers, a'.tmps.getD t undef, ?_, a'.tmps.getD t undef, F', b, cp, rs.map Prod.fst, rfl, ⟨hr.grow.mono fun i x => owned_none i x, hr.f0, hr.sim.imm, fun k p q => (hr.fnew k p q).resolve_right (owned_none k)⟩, ?_, by rw [← h5]; simp, ?_, fun k hk => ?_⟩
  ·rw [results_eq, Sem.run_bind, Array.mapM_eq_mapM_toList, Sem.run_map, hres]
   simp [rvSem, List.mapM_cons, List.mapM_nil]
  ·have hs := hr.slots t
   rw [h1] at hs
   generalize a'.tmps.getD t undef = v at hs
   cases hs with
   | osl p q => exact .osl p q
  ·rw [ez]
   refine ⟨hr.sim.own o _ h2, hr.sim.own p _ h3, fun hc hk => h4 (hr.sim.inj o p _ _ b h2 h3 ⟨hc, rfl⟩ hk)⟩
  ·rw [ez] at hk
   rcases hk with hk | hk
   ·exact ⟨(hr.mnew o _ k h2 hk).resolve_right (owned_none _), hr.sim.apart o _ k h2 hk⟩
   ·exact ⟨(hr.mnew p _ k h3 hk).resolve_right (owned_none _), hr.sim.apart p _ k h3 hk⟩
 rcases hq with rfl | rfl
 ·exact done
 ·exact done
section
variable {P : Program} {ops : Array Oper} {K : S → Prop} {r : List Oper} {s : S} {ty : TypeId} {pos : String} {after : Array Edge}
theorem lt1O {t e sz by_ d : Nat} {x : Operand} {y : D} (hT : SliceT P t e sz by_) (hx : VD (s.ev x) y) (hs : y.cells.length = sz) (h24 : sz ≤ 16777216) (hM : s.M d = none)
  (h : ∀ b, OL P 0 ops K r ⟨upd s.ρ d (.osl d b 1 1), upd s.M d (some (.row b 1 e sz [y]))⟩) : OL P 0 ops K (⟨some d, .buildSlice t 1 #[(0, x)], ty, pos, after, none⟩ :: r) s :=
 OL.new (.lit (xs := [y]) hT rfl rfl (by omega) (by omega) (fun i p z hp hz => by cases i <;> simp at hp hz; subst hp hz; exact hx) (fun z hz => by simp at hz; subst hz; exact hs)) hM rfl fun b _ => h b
end
section
variable {P : Program} {m : Nat} {ops : Array Oper} {K : S → Prop} {r : List Oper} {s : S} {ty : TypeId} {pos : String} {after : Array Edge}
theorem mkLd {α : Type} {t e sz by_ n cp d : Nat} {x y : Operand} {k k2 : IntKind} (f : α → D) (d0 : α) {zs : List V} (hT : SliceT P t e sz by_) (hz : ZeroT P e zs) (hc : VCs zs (f d0).cells) (hx : s.ev x = .d (.sc (.int k (n : Int)))) (hy : s.ev y = .d (.sc (.int k2 (cp : Int))))
  (hn : n ≤ cp) (hb : by_ * cp ≤ 281474976710656) (hm : cp ≤ 9223372036854775807) (hM : s.M d = none) (hnm : nameR m ⟨some d, .makeSlice t x y, ty, pos, after, none⟩ = true)
  (h : ∀ b, OL P m ops K r ⟨upd s.ρ d (.osl d b n cp), upd s.M d (some (.row b cp e sz ((List.replicate n d0).map f)))⟩) : OL P m ops K (⟨some d, .makeSlice t x y, ty, pos, after, none⟩ :: r) s :=
 OL.newd (.make hx hy hT hz hc hn hb hm) hM hnm fun b _ => by
  show OL P m ops K r ⟨upd s.ρ d (.osl d b n cp), upd s.M d (some (.row b cp e sz (List.replicate n (f d0))))⟩
  rw [← List.map_replicate]
  exact h b
end
end Go.AL

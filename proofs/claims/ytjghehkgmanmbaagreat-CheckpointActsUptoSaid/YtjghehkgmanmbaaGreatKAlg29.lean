/-
  AL, part 29: rows of rows, appended to in place: a function that takes an owned row over and hands one back.
-/
import Derived.Test.YtjghehkgmanmbaaGreatKAlg28
set_option linter.unusedVariables false
set_option linter.unusedSimpArgs false
namespace Go.AL
open Go Go.BigFrame
section
variable {P : Program} {ev : Operand → V} {a : Act} {F : Hp} {w : World} {M : Mem}
def RawL (F : Hp) (w : World) (x : Value) (sz : Nat) (xs : List D) : Prop :=
 ∃ (xo : Option Addr) (cx : Nat), x = .slice xo xs.length cx ∧ (0 < xs.length → ∃ (ad : Addr) (news : List Value), xo = some ad ∧ news.length = xs.length * sz ∧ (∀ j u, news[j]? = some u → w.cell? (ad.add j) = some u) ∧ (∀ u, u ∈ news → u.oneCell' = true) ∧
  ∀ (i : Nat) (d : D) (u : Value), (xs.flatMap D.cells)[i]? = some d → news[i]? = some u → Rep F u d)
theorem RawL.of_row (hS : Sim F M w) {id b n c e sz : Nat} {es : List D} {u : Value} (hM : M id = some (.row b c e sz es)) (hu : SimV F u (.osl id b n c)) (hn : n ≤ es.length) : RawL F w u sz (es.take n) := by
 obtain ⟨g0, g1, g2⟩ := hS.own id _ hM
 have hl : (es.take n).length = n := by rw [List.length_take]; omega
 cases hu with
 | @osl ao _ _ _ _ ha hc =>
  refine ⟨ao, c, by rw [hl], fun h0 => ?_⟩
  obtain ⟨cs, hh, hcl, h1, hr⟩ := g2 (by omega)
  obtain ⟨r, hr'⟩ := flat_take (es := es) n
  have hle : n * sz ≤ cs.length := by rw [hcl]; exact Nat.mul_le_mul_right _ hc
  refine ⟨⟨b, 0, none⟩, cs.take (n * sz), ha (by omega), by rw [List.length_take, hl]; omega, fun j v hj => ?_, fun v hv => h1 v (List.mem_of_mem_take hv), fun i d v hd hv => ?_⟩
  ·refine cell_of_box hh 0 j v ?_
   rw [Nat.zero_add]
   have hjn : j < n * sz := by
    have := (List.getElem?_eq_some_iff.1 hj).1
    rw [List.length_take] at this; omega
   rwa [List.getElem?_take_of_lt hjn] at hj
  ·have hin : i < n * sz := by
    have := (List.getElem?_eq_some_iff.1 hv).1
    rw [List.length_take] at this; omega
   rw [List.getElem?_take_of_lt hin] at hv
   refine hr i d v ?_ hv
   rw [hr', List.getElem?_append_left (List.getElem?_eq_some_iff.1 hd).1]
   exact hd
theorem RowOK.shrink {b c e sz : Nat} {es : List D} (h : RowOK F w b c e sz es) (n : Nat) : RowOK F w b c e sz (es.take n) := by
 obtain ⟨g0, g1, g2⟩ := h
 refine ⟨by rw [List.length_take]; omega, fun x hx => g1 x (List.mem_of_mem_take hx), fun hc => ?_⟩
 obtain ⟨cs, k1, k2, k3, k4⟩ := g2 hc
 refine ⟨cs, k1, k2, k3, fun i d u hd hu => k4 i d u ?_ hu⟩
 obtain ⟨r, hr'⟩ := flat_take (es := es) n
 rw [hr', List.getElem?_append_left (List.getElem?_eq_some_iff.1 hd).1]
 exact hd
theorem Sim.swap {id : Nat} {bl bl' : Blk} (h : Sim F M w) (hM : M id = some bl) (ho : ∀ k, bl'.owns k → bl.owns k) (hb : BlkOK F w bl') : Sim F (upd M id (some bl')) w := by
 have part : ∀ j q, (upd M id (some bl')) j = some q → (j = id ∧ q = bl') ∨ (j ≠ id ∧ M j = some q) := fun j q hq => by
  unfold upd at hq
  split at hq
  ·rename_i e1; cases hq; exact .inl ⟨e1, rfl⟩
  ·rename_i e1; exact .inr ⟨e1, hq⟩
 have own2 : ∀ j q k, (upd M id (some bl')) j = some q → q.owns k → ∃ q', M j = some q' ∧ q'.owns k := fun j q k hq hk => by
  rcases part j q hq with ⟨rfl, rfl⟩ | ⟨_, h1⟩
  ·exact ⟨bl, hM, ho k hk⟩
  ·exact ⟨q, h1, hk⟩
 refine ⟨h.imm, fun j q hq => ?_, fun j q k hq hk => ?_, fun i j bi bj k hi hj ki kj => ?_⟩
 ·rcases part j q hq with ⟨_, rfl⟩ | ⟨_, h1⟩
  ·exact hb
  ·exact h.own j q h1
 ·obtain ⟨q', h1, h2⟩ := own2 j q k hq hk
  exact h.apart j q' k h1 h2
 ·obtain ⟨qi, h1, h2⟩ := own2 i bi k hi ki
  obtain ⟨qj, h3, h4⟩ := own2 j bj k hj kj
  exact h.inj i j qi qj k h1 h3 h2 h4
theorem Run.swap {E : Env} {s : S} {id : Nat} {bl bl' : Blk} (h : Run E F s a w) (hM : s.M id = some bl) (ho : ∀ k, bl'.owns k → bl.owns k) (hb : BlkOK F w bl') : Run E F ⟨s.ρ, upd s.M id (some bl')⟩ a w :=
 ⟨h.sim.swap hM ho hb, h.grow, h.f0, h.fnew, fun j q k hq hk => by
  have hq2 : upd s.M id (some bl') j = some q := hq
  unfold upd at hq2
  split at hq2
  ·rename_i e1; subst e1
   obtain rfl : bl' = q := Option.some.inj hq2
   exact h.mnew _ _ k hM (ho k hk)
  ·exact h.mnew j q k hq2 hk, h.size, h.defers, h.slots⟩
theorem append_grow (hS : Sim F M w) {t ty e sz by_ : Nat} (hT : SliceT P t e sz by_) {d id b n' cap : Nat} {es xs : List D} {u : Value} (hu : SimV F u (.osl id b n' cap)) (hn : n' = es.length) (h0n : 0 < n') (hcap : cap = n')
  (hM : M id = some (.row b cap e sz es)) {x : Value} (hx : RawL F w x sz xs) (h0 : 0 < xs.length) (hsz : ∀ y, y ∈ xs → y.cells.length = sz) (hb : (n' + xs.length) * by_ ≤ 140737488355328) (hm : n' + xs.length ≤ 4611686018427387904) :
  ∃ (v : Value) (w' : World) (b' c' : Nat), (Builtin.append_ #[t, t] ty #[u, x]).run P w = .ok v w' ∧ After F M w F (upd M d (some (.row b' c' e sz (es ++ xs)))) w' ∧
   SimV F v (.osl d b' (n' + xs.length) c') ∧ v.oneCell' = true := by
 obtain ⟨i, z, hi, hz, hz1, hz2, hz3⟩ := hT.parts
 have hone := hT.one hi hz
 obtain ⟨g0, g1, g2⟩ := hS.own id _ hM
 have hsz' : ∀ y, y ∈ es ++ xs → y.cells.length = sz := fun y hy => (List.mem_append.1 hy).elim (g1 y) (hsz y)
 obtain ⟨cs, hh, hl, h1, hr⟩ := g2 (by omega)
 obtain ⟨xo, cx, hxe, hx⟩ := hx
 subst hxe
 obtain ⟨ad, news, rfl, hnl, hnc', hn1, hnr⟩ := hx h0
 have hu2 : u = .slice (some ⟨b, 0, none⟩) n' cap := by cases hu with | osl ha _ => rw [ha (by omega)]
 subst hu2
 have hnc : n' ≤ cap := by omega
 have hbyt : (n' + xs.length) * i.bytes ≤ 140737488355328 := by rw [hz3]; exact hb
 have hol : (cs.take (n' * sz)).length = n' * i.size := by
  have : n' * sz ≤ cap * sz := Nat.mul_le_mul_right _ hnc
  rw [List.length_take, hz2]; omega
 have hrun := run_append_grow (P := P) w t ty e i z hT.u hi hz ⟨b, 0, none⟩ n' cap (cs.take (n' * sz)) hol
  (fun j v hj => by
   refine cell_of_box hh 0 j v ?_
   rw [Nat.zero_add]
   rw [List.getElem?_take] at hj
   split at hj
   ·exact hj
   ·cases hj)
  ad xs.length cx news (by rw [hz2]; exact hnl) hnc' (by omega) (by omega) (growslice_fits (by omega) hbyt)
 have hge := grownCap_ge w (n' + xs.length) cap e
 refine ⟨_, _, w.heap.size, grownCap w (n' + xs.length) cap e, hrun, (new_row hS d e _ sz (cs.take (n' * sz) ++ news ++ (Builtin.zeroCells z.cells (grownCap w (n' + xs.length) cap e - (n' + xs.length))).toList) (es ++ xs)
  (by rw [List.length_append]; omega) ?_ (fun u hu => ?_) hsz' (fun k x u hx hu => ?_) rfl rfl rfl ?_), .osl (fun _ => rfl) hge, rfl⟩
 ·rw [List.length_append, List.length_append, hol, hz2, hnl, zc_len hz1, ← Nat.add_mul, ← Nat.add_mul]
  congr 1; omega
 ·simp only [List.mem_append] at hu
  rcases hu with (hu | hu) | hu
  ·exact h1 u (List.mem_of_mem_take hu)
  ·exact hn1 u hu
  ·exact zeroCells_one hone _ u hu
 ·have hfl : (es.flatMap D.cells).length = n' * sz := by rw [flat_length g1, hn]
  rw [hz2] at hol
  rw [List.flatMap_append] at hx
  have hklt : k < n' * sz + news.length := by
   have := (List.getElem?_eq_some_iff.1 hx).1
   rw [List.length_append, hfl, flat_length hsz, ← hnl] at this
   exact this
  rw [List.append_assoc, List.getElem?_append, hol] at hu
  rw [List.getElem?_append, hfl] at hx
  split at hx
  ·rename_i hk
   rw [if_pos hk, List.getElem?_take, if_pos hk] at hu
   exact hr k x u hx hu
  ·rename_i hk
   rw [if_neg hk, List.getElem?_append_left (by omega)] at hu
   exact hnr _ x u hx hu
 ·show w.heap.push (Obj.cells _ e) = _
  congr 2
  apply Array.ext'
  simp
theorem make_raw (hS : Sim F M w) {t e by_ n cp : Nat} {k k' : IntKind} {zr : Value} (hT : SliceT P t e 1 by_) (hz : (P.info? e).bind (fun i => i.zero.map fun z => z.cells.toList) = some [zr]) (hn : n ≤ cp) (hb : by_ * cp ≤ 281474976710656) (hm : cp ≤ 9223372036854775807) (d : Nat) :
  ∃ (v : Value) (w' : World) (b : Nat), (Instr.makeSlice t (.int k (n : Int)) (.int k' (cp : Int))).run P w = .ok v w' ∧ After F M w F (upd M d (some (.row b cp e 1 (List.replicate n (.sc zr))))) w' ∧
   SimV F v (.osl d b n cp) ∧ v.oneCell' = true := by
 obtain ⟨i, zv, hi, hzv, h1, h2, h3⟩ := hT.parts
 rw [hi] at hz
 simp only [Option.bind_some, hzv, Option.map_some, Option.some.injEq] at hz
 have hone := hT.one hi hzv
 rw [hz] at hone
 obtain ⟨sz, hsz⟩ : ∃ sz, sz = 1 := ⟨1, rfl⟩
 rw [← hsz] at h1 h2
 have hpos : 0 < sz := by omega
 have hb' : (i.bytes : Int) * (cp : Int) ≤ 281474976710656 := by
  have : ((i.bytes * cp : Nat) : Int) ≤ 281474976710656 := by rw [h3]; omega
  rwa [Int.natCast_mul] at this
 have hrun := run_make (P := P) w t e i zv hT.u hi hzv k k' (n : Int) (cp : Int) (by omega) (by omega) hb' (by omega)
 simp only [Int.toNat_natCast] at hrun
 rw [h2] at hrun
 have hget : ∀ (j : Nat) (u : Value), (madeCells zv.cells (cp * sz)).toList[j]? = some u → j < cp * sz ∧ zv.cells.toList[j % sz]? = some u := fun j u hu => by
  have hj : j < cp * sz := by have := (List.getElem?_eq_some_iff.1 hu).1; simpa [madeCells] using this
  refine ⟨hj, ?_⟩
  simp only [madeCells, Array.toList_map, Array.toList_range, List.getElem?_map, List.getElem?_range hj, Option.map_some, Option.some.injEq] at hu
  have hlt : j % sz < zv.cells.size := by rw [h1]; exact Nat.mod_lt _ hpos
  rw [h1, getElem!_pos zv.cells (j % sz) hlt] at hu
  rw [← hu]
  simp [hlt]
 refine ⟨_, _, w.heap.size, hrun, new_row hS d e cp 1 (madeCells zv.cells (cp * sz)).toList _ (by simpa using hn) (by simp [madeCells, hsz]) (fun u hu => ?_) (fun x hx => ?_) (fun j x u hx hu => ?_) rfl rfl rfl (by rw [Array.toArray_toList]; rfl), .osl (fun _ => rfl) hn, rfl⟩
 ·obtain ⟨j, hj⟩ := List.mem_iff_getElem?.1 hu
  exact hT.one hi hzv u (List.mem_of_getElem? (hget j u hj).2)
 ·rw [(List.mem_replicate.1 hx).2]; rfl
 ·obtain ⟨hj, hzu⟩ := hget j u hu
  rw [hz, hsz, Nat.mod_one] at hzu
  obtain rfl : zr = u := by simpa using hzu
  have hx2 : x ∈ (List.replicate n (D.sc zr)).flatMap D.cells := List.mem_of_getElem? hx
  obtain ⟨y, hy, hxy⟩ := List.mem_flatMap.1 hx2
  rw [(List.mem_replicate.1 hy).2] at hxy
  obtain rfl : x = .sc zr := by simpa [D.cells] using hxy
  exact .sc (hone zr (List.mem_singleton.2 rfl))
end
section
variable {P : Program} {E : Env} {K : S → Prop} {s : S} {pos : String} {after : Array Edge} {ty : Nat}
theorem SO.mono {o : Oper} {K' : S → Prop} (h : SO P E o K s) (hk : ∀ s, K s → K' s) : SO P E o K' s := fun F a w hr => (h F a w hr).mono fun _ _ ⟨F', s', h1, h2⟩ => ⟨F', s', h1, hk s' h2⟩
theorem SO.of_OW {o : Oper} (hd : Below' E.n o.dst) (h : OW P 0 o K s) : SO P E o K s := fun _ _ _ hr => h.sound hr hd
theorem SO.shrink {o : Oper} {id b c e sz : Nat} {es : List D} (n : Nat) (hM : s.M id = some (.row b c e sz es)) (h : SO P E o K ⟨s.ρ, upd s.M id (some (.row b c e sz (es.take n)))⟩) : SO P E o K s := fun F a w hr =>
 h F a w (hr.swap hM (fun k hk => hk) ((hr.sim.own id _ hM : RowOK F w b c e sz es).shrink n))
theorem AW.shrink {k : Code} {Q : Exit → S → Prop} {id b c e sz : Nat} {es : List D} (n : Nat) (hM : s.M id = some (.row b c e sz es)) (h : AW P E k Q ⟨s.ρ, upd s.M id (some (.row b c e sz (es.take n)))⟩) : AW P E k Q s := fun F a w hr =>
 h F a w (hr.swap hM (fun k hk => hk) ((hr.sim.own id _ hM : RowOK F w b c e sz es).shrink n))
theorem AW.nilIn {k : Code} {Q : Exit → S → Prop} {o b c e i : Nat} {es : List D} (hM : s.M o = some (.row b c e 1 es)) (hi : es[i]? = some (.sc (.slice none 0 0))) (h : AW P E k Q ⟨s.ρ, upd s.M o (some (.row b c e 1 (es.set i (.sl []))))⟩) : AW P E k Q s := fun F a w hr => by
 refine h F a w (hr.swap hM (fun k hk => hk) ?_)
 obtain ⟨g0, g1, g2⟩ := hr.sim.own o _ hM
 have h1 : ∀ x, x ∈ es.set i (.sl []) → x.cells.length = 1 := fun x hx => by
  rcases List.mem_or_eq_of_mem_set hx with h | rfl
  ·exact g1 x h
  ·rfl
 refine ⟨by rw [List.length_set]; exact g0, h1, fun hc => ?_⟩
 obtain ⟨cs, k1, k2, k3, k4⟩ := g2 hc
 refine ⟨cs, k1, k2, k3, fun j d u hd hu => ?_⟩
 have f1 : ∀ l : List D, (∀ x, x ∈ l → x.cells.length = 1) → ∀ (j : Nat) (d : D), (l.flatMap D.cells)[j]? = some d → ∃ x, l[j]? = some x ∧ x.cells = [d] := fun l hl j d hd => by
  have hj : j < l.length := by
   have := (List.getElem?_eq_some_iff.1 hd).1
   rwa [flat_length hl, Nat.mul_one] at this
  have hx := flat_get hl (i := j) (e := l[j]) (List.getElem?_eq_getElem hj) 0 (by decide)
  rw [Nat.mul_one, Nat.add_zero, hd] at hx
  refine ⟨l[j], List.getElem?_eq_getElem hj, ?_⟩
  have h2 := hl l[j] (List.getElem_mem hj)
  cases hq : l[j].cells with
  | nil => rw [hq] at h2; cases h2
  | cons y r =>
   rw [hq] at hx h2
   have hr0 : r = [] := List.eq_nil_of_length_eq_zero (by simpa using h2)
   subst hr0
   simp at hx
   rw [hx]
 have f2 : ∀ (j : Nat) (x d : D), es[j]? = some x → x.cells = [d] → (es.flatMap D.cells)[j]? = some d := fun j x d hx hxc => by
  have := flat_get g1 hx 0 (by decide)
  rw [Nat.mul_one, Nat.add_zero, hxc] at this
  exact this
 obtain ⟨x, hx1, hx2⟩ := f1 _ h1 j d hd
 by_cases hji : i = j
 ·subst hji
  have hlt : i < es.length := (List.getElem?_eq_some_iff.1 hi).1
  rw [List.getElem?_set_self hlt] at hx1
  obtain rfl : D.sl [] = x := Option.some.inj hx1
  have hd2 : d = .sl [] := by simpa [D.cells] using hx2.symm
  subst hd2
  have := k4 i _ u (f2 i _ _ hi rfl) hu
  cases this with
  | sc _ => exact Rep.nil_
 ·rw [List.getElem?_set_ne hji] at hx1
  exact k4 j d u (f2 j x d hx1 hx2) hu
theorem SO.appNone {dst : Option Nat} {t e sz by_ : Nat} {x y : Operand} {es : List D} (hd : Below' E.n dst) (hT : SliceT P t e sz by_) (hx : s.ev x = .d (.sl es)) (hy : VC (s.ev y) (.sl [])) (h : K (s.put dst (.d (.sl es)))) :
  SO P E ⟨dst, .call { callee := .builtin .append, args := #[x, y], argTypes := #[t, t] }, ty, pos, after, none⟩ K s := fun F a w hr => by
 have hx' := hr.eval x
 rw [hx] at hx'
 have hy' := (hy F _ (hr.eval y)).1
 generalize hax : a.eval x = ax at hx'
 generalize hay : a.eval y = ay at hy'
 have hx2 := hx'
 cases hx' with
 | d hR ho =>
  obtain ⟨ao, n, c, rfl, hnc⟩ : ∃ ao n c, ax = .slice ao n c ∧ n ≤ c := by cases hR with | sl _ q => exact ⟨_, _, _, rfl, q⟩
  obtain ⟨xo, cx, rfl⟩ : ∃ xo cx, ay = .slice xo 0 cx := by cases hy' with | sl q => cases q; exact ⟨_, _, rfl⟩
  refine append_exec (o := ⟨dst, .call { callee := .builtin .append, args := #[x, y], argTypes := #[t, t] }, ty, pos, after, none⟩) rfl (by rw [hax, hay]; exact run_append_none (P := P) t ty hT ao xo n c cx hnc w) ?_
  exact ⟨F, _, hr.ext_put (Ext.refl hr.sim.imm) hd hx2, h⟩
theorem SO.appGrow {t e sz by_ i j b n b2 n2 c2 e2 d : Nat} {x y : Operand} {es es2 : List D} (hd : d < E.n) (hT : SliceT P t e sz by_) (hx : s.ev x = .osl i b n n) (hM : s.M i = some (.row b n e sz es)) (hn : n = es.length) (h0n : 0 < n) (hy : s.ev y = .osl j b2 n2 c2) (hM2 : s.M j = some (.row b2 c2 e2 sz es2)) (hn2 : n2 ≤ es2.length) (h0 : 0 < n2)
  (hmd : s.M d = none) (hb : (n + n2) * by_ ≤ 140737488355328) (hm : n + n2 ≤ 4611686018427387904) (h : K (s.put (some d) (.d (.sl (es ++ es2.take n2))))) :
  SO P E ⟨some d, .call { callee := .builtin .append, args := #[x, y], argTypes := #[t, t] }, ty, pos, after, none⟩ K s := fun F a w hr => by
 have hx' := hr.eval x
 rw [hx] at hx'
 have hy' := hr.eval y
 rw [hy] at hy'
 have hl : (es2.take n2).length = n2 := by rw [List.length_take]; omega
 obtain ⟨v, w', b', c', h1, h2, h3, h4⟩ := append_grow (P := P) (ty := ty) (d := d) hr.sim hT hx' hn h0n rfl hM (RawL.of_row hr.sim hM2 hy' hn2) (by omega) (fun z hz => (hr.sim.own j _ hM2 : RowOK F w b2 c2 e2 sz es2).2.1 z (List.mem_of_mem_take hz)) (by rw [hl]; exact hb) (by rw [hl]; exact hm)
 obtain ⟨F', f1, f2⟩ := row_both (M' := s.M) h2 h3 (by rw [List.length_append, hn]) h4
 have e1 : upd s.M d none = s.M := by funext j; unfold upd; split; rename_i e2; rw [e2, hmd]; rfl
 rw [e1] at f1
 refine append_exec (o := ⟨some d, .call { callee := .builtin .append, args := #[x, y], argTypes := #[t, t] }, ty, pos, after, none⟩) rfl h1 ?_
 exact ⟨F', _, hr.after_put (dst := some d) f1 hd f2, h⟩
theorem SO.appKeep {t e sz by_ id b n c d : Nat} {x y : Operand} {es xs : List D} (hd : d < E.n) (hT : SliceT P t e sz by_) (hx : s.ev x = .osl id b n c) (hM : s.M id = some (.row b c e sz es)) (hn : n ≤ es.length) (hy : VC (s.ev y) (.sl xs)) (hsz : ∀ y, y ∈ xs → y.cells.length = sz)
  (hb : (n + xs.length) * by_ ≤ 140737488355328) (hm : n + xs.length ≤ 4611686018427387904) (h : ∀ b' c', K ⟨upd s.ρ d (.osl id b' (n + xs.length) c'), upd s.M id (some (.row b' c' e sz (es.take n ++ xs)))⟩) :
  SO P E ⟨some d, .call { callee := .builtin .append, args := #[x, y], argTypes := #[t, t] }, ty, pos, after, none⟩ K s := fun F a w hr => by
 have hs := hr.swap hM (bl' := .row b c e sz (es.take n)) (fun k hk => hk) ((hr.sim.own id _ hM : RowOK F w b c e sz es).shrink n)
 have hx' := hs.eval x
 rw [show (⟨s.ρ, upd s.M id (some (.row b c e sz (es.take n)))⟩ : S).ev x = s.ev x by cases x <;> rfl, hx] at hx'
 have hy' := vc_rep hy (hr.eval y)
 obtain ⟨v, w', b', c', h1, h2, h3, h4⟩ := append_owned (P := P) (ty := ty) (d := id) hs.sim hT hx' (by rw [List.length_take]; omega) (upd_same _ _ _) (.inr rfl) hy' hsz hb hm
 have e1 : ∀ q, upd (upd (upd s.M id (some (.row b c e sz (es.take n)))) id none) id q = upd s.M id q := fun q => by rw [upd_upd, upd_upd]
 rw [e1] at h2
 refine append_exec (o := ⟨some d, .call { callee := .builtin .append, args := #[x, y], argTypes := #[t, t] }, ty, pos, after, none⟩) rfl h1 ?_
 exact ⟨F, _, hs.after_put (dst := some d) h2 hd h3, h b' c'⟩
theorem SO.cutAll {dst : Option Nat} {t e sz by_ id b n c : Nat} {x y : Operand} {k : IntKind} (hd : Below' E.n dst) (hT : SliceT P t e sz by_) (hx : s.ev x = .osl id b n c) (hy : s.ev y = .d (.sc (.int k (0 : Nat)))) (h : K (s.put dst (.osl id b n c))) :
  SO P E ⟨dst, .slice t x (some y) none none, ty, pos, after, none⟩ K s := fun F a w hr => by
 have hx' := hr.eval x
 rw [hx] at hx'
 generalize hax : a.eval x = ax at hx'
 cases hx' with
 | osl ha hc =>
  have hb := bounds_run (P := P) (w := w) (a := a) (ev := s.ev) (lo := some y) (hi := none) (l := 0) (h := n) (n := n) (c := c) ⟨k, hy⟩ rfl hr.eval (Nat.zero_le _) hc
  refine Good.mono (R := fun u w' => w' = w ∧ SimV F u (.osl id b n c)) ?_ fun u w' ⟨e1, hv⟩ => by
   subst e1
   exact ⟨F, _, hr.ext_put (Ext.refl hr.sim.imm) hd hv, h⟩
  unfold execOp
  simp only [hax, Instr.sliceAt, Instr.slice, Sem.run_bind, Sem.run_pure, Result.andThen_ok, run_underlying hT.u, Option.map_none, sizeOf_run hT] at hb ⊢
  rw [hb]
  simp only [Result.andThen_ok]
  refine ⟨rfl, ?_⟩
  refine (?_ : SimV F (.slice _ (n - 0) (c - 0)) (.osl id b n c))
  rw [Nat.sub_zero, Nat.sub_zero]
  refine .osl (fun h0 => ?_) hc
  rw [ha h0]
  simp [Addr.add]
theorem SO.cutEnd {dst : Option Nat} {t e sz by_ id b n c : Nat} {x y : Operand} {k : IntKind} (hd : Below' E.n dst) (hT : SliceT P t e sz by_) (hx : s.ev x = .osl id b n c) (hy : s.ev y = .d (.sc (.int k (n : Nat)))) (h : K (s.put dst (.d (.sl [])))) :
  SO P E ⟨dst, .slice t x (some y) none none, ty, pos, after, none⟩ K s := fun F a w hr => by
 have hx' := hr.eval x
 rw [hx] at hx'
 generalize hax : a.eval x = ax at hx'
 cases hx' with
 | osl ha hc =>
  have hb := bounds_run (P := P) (w := w) (a := a) (ev := s.ev) (lo := some y) (hi := none) (l := n) (h := n) (n := n) (c := c) ⟨k, hy⟩ rfl hr.eval (Nat.le_refl _) hc
  refine Good.mono (R := fun u w' => w' = w ∧ SimV F u (.d (.sl []))) ?_ fun u w' ⟨e1, hv⟩ => by
   subst e1
   exact ⟨F, _, hr.ext_put (Ext.refl hr.sim.imm) hd hv, h⟩
  unfold execOp
  simp only [hax, Instr.sliceAt, Instr.slice, Sem.run_bind, Sem.run_pure, Result.andThen_ok, run_underlying hT.u, Option.map_none, sizeOf_run hT] at hb ⊢
  rw [hb]
  simp only [Result.andThen_ok]
  refine ⟨rfl, ?_⟩
  refine (?_ : SimV F (.slice _ (n - n) (c - n)) (.d (.sl [])))
  rw [Nat.sub_self]
  exact .d Rep.nil_ rfl
theorem SO.makeNil {t e by_ n cp d : Nat} {x y : Operand} {k k' : IntKind} {zr : Value} (hd : d < E.n) (hx : s.ev x = .d (.sc (.int k (n : Int)))) (hy : s.ev y = .d (.sc (.int k' (cp : Int)))) (hT : SliceT P t e 1 by_) (hz : (P.info? e).bind (fun i => i.zero.map fun z => z.cells.toList) = some [zr])
  (hn : n ≤ cp) (hb : by_ * cp ≤ 281474976710656) (hm : cp ≤ 9223372036854775807) (h : ∀ b, K ⟨upd s.ρ d (.osl d b n cp), upd s.M d (some (.row b cp e 1 (List.replicate n (.sc zr))))⟩) :
  SO P E ⟨some d, .makeSlice t x y, ty, pos, after, none⟩ K s := fun F a w hr => by
 have hx' := hr.eval x; rw [hx] at hx'
 have hy' := hr.eval y; rw [hy] at hy'
 obtain ⟨v, w', b, h1, h2, h3, _⟩ := make_raw (P := P) (k := k) (k' := k') hr.sim hT hz hn hb hm d
 exact exec_ok (o := ⟨some d, .makeSlice t x y, ty, pos, after, none⟩) rfl (by rw [sc_val hx', sc_val hy']; exact h1) ⟨F, _, hr.after_put (dst := some d) h2 hd h3, h b⟩
end
def FSpecO (P : Program) (f : Nat) (args : V → List V) (n e sz : Nat) (es : List D) (n' : Nat) (es' : List D) : Prop :=
 HasBody P f ∧ ∀ (F : Hp) (w : World) (vals : List Value) (b c : Nat), Sim F (mem1 0 (.row b c e sz es)) w → SimVs F vals (args (.osl 0 b n c)) →
  Calls P f vals.toArray w fun x w' => ∃ v F' b' c', x = .returned v ∧ After F (mem1 0 (.row b c e sz es)) w F' (mem1 0 (.row b' c' e sz es')) w' ∧ SimV F' v (.osl 0 b' n' c')
section
variable {P : Program}
theorem FSpecO.intro {f : Nat} {fn : Func} {code : Code} {args : V → List V} {n e sz n' : Nat} {es es' : List D} (hf : P.funcs[f]? = some fn) (hname : (fn.name == "runtime.NumGoroutine") = false) (hb : fn.body = some code) (hn : ∀ v, (args v).length ≤ fn.ntmps) (t : Nat) (hres : fn.results.toList = [.tmp t])
  (h : ∀ (E : Env) (b c : Nat), E.n = fn.ntmps → AW P E code (fun x s => (x = .normal ∨ x = .ret) ∧ ∃ id b' cp es0, s.ρ t = .osl id b' n' cp ∧ s.M id = some (.row b' cp e sz es0) ∧ n' ≤ es0.length ∧ es0.take n' = es') ⟨argsρ (args (.osl 0 b n c)), mem1 0 (.row b c e sz es)⟩) : FSpecO P f args n e sz es n' es' := by
 refine ⟨by simp [HasBody, hf, hname, hb], fun F w vals b c hS hv => calls_of_wp hf hb ?_⟩
 generalize hA : args (.osl 0 b n c) = A at hv
 have hAn : A.length ≤ fn.ntmps := by rw [← hA]; exact hn _
 have hlen : vals.length = A.length := hv.1
 have hrun : Run ⟨w, F, Owned (mem1 0 (.row b c e sz es)), fn.ntmps⟩ F ⟨argsρ A, mem1 0 (.row b c e sz es)⟩ { tmps := vals.toArray ++ Array.replicate (fn.ntmps - vals.toArray.size) undef, defers := [] } w := by
  refine ⟨hS, Grow.refl _ _, Hp.le.refl F, fun k p q => absurd p q, fun id blk k hm ho => .inr ⟨id, blk, hm, ho⟩, by simp; omega, rfl, fun t => ?_⟩
  simp only [argsρ]
  by_cases ht : t < A.length
  ·have h1 : A[t]? = some A[t] := List.getElem?_eq_getElem ht
   have h2 : vals[t]? = some (vals[t]'(by omega)) := List.getElem?_eq_getElem (by omega)
   rw [List.getD_eq_getElem?_getD, h1, Array.getD_eq_getD_getElem?, Array.getElem?_append_left (by simpa [hlen] using ht), List.getElem?_toArray, h2]
   exact hv.2 t _ _ h1 h2
  ·rw [List.getD_eq_getElem?_getD, List.getElem?_eq_none (by omega)]
   exact .junk
 have hh := h ⟨w, F, Owned (mem1 0 (.row b c e sz es)), fn.ntmps⟩ b c rfl
 rw [hA] at hh
 refine wp_mono (hh F _ w hrun) fun x a' w' ⟨F', s', hr, hq, id, b', cp, es0, h1, h2, h3, h4⟩ => ?_
 have done : a'.defers = [] ∧ ∃ v, (results fn a'.tmps).run P w' = .ok v w' ∧ ∃ v' F' b' c', Ending.returned v = .returned v' ∧ After F (mem1 0 (.row b c e sz es)) w F' (mem1 0 (.row b' c' e sz es')) w' ∧ SimV F' v' (.osl 0 b' n' c') := by
  have ok : BlkOK F' w' (.row b' cp e sz es') := by subst h4; exact RowOK.shrink (hr.sim.own id _ h2) n'
  refine ⟨hr.defers, a'.tmps.getD t undef, ?_, a'.tmps.getD t undef, F', b', cp, rfl, ⟨hr.grow, hr.f0, ⟨hr.sim.imm, fun j q hq => ?_, fun j q k hq hk => ?_, fun i j bi bj k hi hj _ _ => ?_⟩, hr.fnew, fun k ⟨j, q, hq, hk⟩ => ?_⟩, ?_⟩
  ·rw [results_eq, Sem.run_bind, Array.mapM_eq_mapM_toList, Sem.run_map, hres]
   simp [rvSem, List.mapM_cons, List.mapM_nil]
  ·obtain ⟨_, rfl⟩ := mem1_get hq
   exact ok
  ·obtain ⟨_, rfl⟩ := mem1_get hq
   exact hr.sim.apart id _ k h2 hk
  ·rw [(mem1_get hi).1, (mem1_get hj).1]
  ·obtain ⟨_, rfl⟩ := mem1_get hq
   exact hr.mnew id _ k h2 hk
  ·have hs := hr.slots t
   rw [h1] at hs
   generalize a'.tmps.getD t undef = v at hs
   cases hs with
   | osl p q => exact .osl p q
 rcases hq with rfl | rfl
 ·exact done
 ·exact done
theorem vle_osl {id id2 b n c : Nat} : VLe (.osl id b n c) (.osl id2 b n c) := fun F v h => by
 cases h with
 | osl p q => exact .osl p q
theorem SO.callO {E : Env} {K : S → Prop} {s : S} {pos : String} {after : Array Edge} {ty : Nat} {f : Operand} {args : Array Operand} {ats : Array TypeId} {fid id b c n e sz n' : Nat} {caps : List V} {argsF : V → List V} {es es' : List D} {dst : Option Nat} (hd : Below' E.n dst) (hf : s.ev f = .fn fid caps)
  (hM : s.M id = some (.row b c e sz es)) (ha : VLes (args.toList.map s.ev ++ caps) (argsF (.osl 0 b n c))) (hs : FSpecO P fid argsF n e sz es n' es')
  (h : ∀ b' c', K ((⟨s.ρ, upd s.M id (some (.row b' c' e sz es'))⟩ : S).put dst (.osl id b' n' c'))) : SO P E ⟨dst, .call { callee := .value f, args := args, argTypes := ats }, ty, pos, after, none⟩ K s := fun F a w hr => by
 have hf' := hr.eval f; rw [hf] at hf'
 generalize haf : a.eval f = af at hf'
 cases hf' with
 | @fn _ us _ hl hrr =>
  have hvs : SimVs F (args.toList.map a.eval ++ us) (argsF (.osl 0 b n c)) := simVs_le (simVs_app (simVs_map hr.eval _) ⟨hl, hrr⟩) ha
  have hsub : ∀ j q, mem1 id (.row b c e sz es) j = some q → s.M j = some q := fun j q hj => by obtain ⟨rfl, rfl⟩ := mem1_get hj; exact hM
  have hcc := hs.2 F w _ b c (Sim.ren1 (i := 0) (sim_sub hr.sim hsub)) hvs
  unfold execOp
  have e1 : (args.map a.eval ++ us.toArray) = (args.toList.map a.eval ++ us).toArray := by simp
  simp only [resolve, haf, Deferred.ofValue, Sem.run_bind, Sem.run_pure, Result.andThen_ok, invoke, Array.empty_append, e1, run_call_fn hs.1]
  refine hcc.mono fun e2 w' ⟨v, F', b', c', he, hA, hv⟩ => ⟨v, he, F', _, ?_, h b' c'⟩
  have hA2 : After F (mem1 id (.row b c e sz es)) w F' (mem1 id (.row b' c' e sz es')) w' :=
   ⟨hA.grow.mono fun k hk => hk.ren1, hA.le, hA.sim.ren1, fun k p q => (hA.new k p q).imp (fun x => x) Owned.ren1, fun k hk => (hA.mnew k hk.ren1).imp (fun x => x) Owned.ren1⟩
  have hov := After.over hr.sim hsub (fun j hj => by unfold mem1 at hj ⊢; split at hj; cases hj; rename_i h1; rw [if_neg h1]) hA2
  have e3 : s.M.over (mem1 id (.row b c e sz es)) (mem1 id (.row b' c' e sz es')) = upd s.M id (some (.row b' c' e sz es')) := by
   funext j
   unfold Mem.over mem1 upd
   by_cases hj : j = id
   ·simp [hj]
   ·simp [hj]
  rw [e3] at hov
  exact hr.after_put hov hd (by cases hv with | osl p q => exact .osl p q)
end
section
variable {s0 : S} {val : Nat → (Nat → Nat × Nat) → V} {blk : Nat → (Nat → Nat × Nat) → Option Blk} {own : Nat → Option Nat} {β : Nat → Nat × Nat} {L : Array Bool}
theorem pS_addM {d e i : Nat} {x : Nat × Nat} {b : Blk} {v : V} (hd : own d = some i) (he : own e = some i) (hde : d ≠ e) (hu : ∀ t, own t = some i → t = d ∨ t = e) (hi : i < L.size) (hno : L.getD i false = false) (hv : val d (upd β d x) = v) (hve : val e (upd β d x) = s0.ρ e) (hbd : blk d (upd β d x) = none) (hbe : blk e (upd β d x) = some b)
  (hs : ∀ t j, own t = some j → L.getD j false = true → val t (upd β d x) = val t β ∧ blk t (upd β d x) = blk t β) :
  (⟨upd (pS s0 val blk own β L).ρ d v, upd (pS s0 val blk own β L).M e (some b)⟩ : S) = pS s0 val blk own (upd β d x) (L.setIfInBounds i true) := by
 rw [← pS_putM (β := upd β d x) hd he hde hu hi hno hve hbd hbe, hv]
 have same : ∀ t, (pS s0 val blk own β L).ρ t = (pS s0 val blk own (upd β d x) L).ρ t ∧ (pS s0 val blk own β L).M t = (pS s0 val blk own (upd β d x) L).M t := fun t => by
  cases ho : own t with
  | none => rw [pS_old ho, pS_old ho, pS_Mold ho, pS_Mold ho]; exact ⟨rfl, rfl⟩
  | some j =>
   cases hj : L.getD j false with
   | true =>
    obtain ⟨h1, h2⟩ := hs t j ho hj
    simp only [pS, ho, hj, h1, h2]
    exact ⟨by first | trivial | rfl, by first | trivial | rfl⟩
   | false =>
    rw [pS_M0 ho hj, pS_M0 ho hj]
    simp only [pS, ho, hj]
    exact ⟨by first | trivial | rfl, by first | trivial | rfl⟩
 have e1 : (pS s0 val blk own β L).ρ = (pS s0 val blk own (upd β d x) L).ρ := funext fun t => (same t).1
 have e2 : (pS s0 val blk own β L).M = (pS s0 val blk own (upd β d x) L).M := funext fun t => (same t).2
 rw [e1, e2]
end
end Go.AL

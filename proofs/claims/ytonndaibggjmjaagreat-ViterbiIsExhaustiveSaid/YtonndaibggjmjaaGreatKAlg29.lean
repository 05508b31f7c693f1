/-
  AL, part 29: rows of rows, appended to in place: a function that takes an owned row over and hands one back.
-/
import Derived.Test.YtonndaibggjmjaaGreatKAlg28
set_option linter.unusedVariables false
set_option linter.unusedSimpArgs false
namespace Go.AL
open Go Go.BigFrame
section
variable {P : Program} {ev : Operand → V} {a : Act} {F : Hp} {w : World} {M : Mem}
def RawL (F : Hp) (w : World) (x : Value) (sz : Nat) (xs : List D) : Prop :=
 ∃ (xo : Option Addr) (cx : Nat), x = .slice xo xs.length cx ∧ (0 < xs.length → ∃ (ad : Addr) (news : List Value), xo = some ad ∧ news.length = xs.length * sz ∧ (∀ j u, news[j]? = some u → w.cell? (ad.add j) = some u) ∧ (∀ u, u ∈ news → u.oneCell' = true) ∧
  ∀ (i : Nat) (d : D) (u : Value), (xs.flatMap D.cells)[i]? = some d → news[i]? = some u → Rep F u d)
theorem RowOK.shrink {b c e sz : Nat} {es : List D} (h : RowOK F w b c e sz es) (n : Nat) : RowOK F w b c e sz (es.take n) := by
 obtain ⟨g0, g1, g2⟩ := h
 refine ⟨by rw [List.length_take]; omega, fun x hx => g1 x (List.mem_of_mem_take hx), fun hc => ?_⟩
 obtain ⟨cs, k1, k2, k3, k4⟩ := g2 hc
 refine ⟨cs, k1, k2, k3, fun i d u hd hu => k4 i d u ?_ hu⟩
 obtain ⟨r, hr'⟩ := flat_take (es := es) n
 rw [hr', List.getElem?_append_left (List.getElem?_eq_some_iff.1 hd).1]
 exact hd
theorem Sim.swap {id : Nat} {bl bl' : Blk} (h : Sim F M w) (hM : M id = some bl) (ho : ∀ k, bl'.owns k → bl.owns k) (hb : BlkOK F w bl') : Sim F (upd M id (some bl')) w := by
 have part : ∀ j q, (upd M id (some bl')) j = some q → (j = id ∧ q = bl') ∨ (j ≠ id ∧ M j = some q) := fun j q hq => by
  unfold upd at hq
  split at hq
  ·rename_i e1; cases hq; exact .inl ⟨e1, rfl⟩
  ·rename_i e1; exact .inr ⟨e1, hq⟩
 have own2 : ∀ j q k, (upd M id (some bl')) j = some q → q.owns k → ∃ q', M j = some q' ∧ q'.owns k := fun j q k hq hk => by
  rcases part j q hq with ⟨rfl, rfl⟩ | ⟨_, h1⟩
  ·exact ⟨bl, hM, ho k hk⟩
  ·exact ⟨q, h1, hk⟩
 refine ⟨h.imm, fun j q hq => ?_, fun j q k hq hk => ?_, fun i j bi bj k hi hj ki kj => ?_⟩
 ·rcases part j q hq with ⟨_, rfl⟩ | ⟨_, h1⟩
  ·exact hb
  ·exact h.own j q h1
 ·obtain ⟨q', h1, h2⟩ := own2 j q k hq hk
  exact h.apart j q' k h1 h2
 ·obtain ⟨qi, h1, h2⟩ := own2 i bi k hi ki
  obtain ⟨qj, h3, h4⟩ := own2 j bj k hj kj
  exact h.inj i j qi qj k h1 h3 h2 h4
theorem Run.swap {E : Env} {s : S} {id : Nat} {bl bl' : Blk} (h : Run E F s a w) (hM : s.M id = some bl) (ho : ∀ k, bl'.owns k → bl.owns k) (hb : BlkOK F w bl') : Run E F ⟨s.ρ, upd s.M id (some bl')⟩ a w :=
 ⟨h.sim.swap hM ho hb, h.grow, h.f0, h.fnew, fun j q k hq hk => by
  have hq2 : upd s.M id (some bl') j = some q := hq
  unfold upd at hq2
  split at hq2
  ·rename_i e1; subst e1
   obtain rfl : bl' = q := Option.some.inj hq2
   exact h.mnew _ _ k hM (ho k hk)
  ·exact h.mnew j q k hq2 hk, h.size, h.defers, h.slots⟩
theorem append_raw (hS : Sim F M w) {t ty e sz by_ : Nat} (hT : SliceT P t e sz by_) {d id b n c : Nat} {es xs : List D} {u : Value} (hu : SimV F u (.osl id b n c)) (hn : n = es.length)
  (hM : M id = some (.row b c e sz es)) (hd : M d = none ∨ d = id)
  {x : Value} (hx : RawL F w x sz xs) (hsz : ∀ y, y ∈ xs → y.cells.length = sz) (hb : (n + xs.length) * by_ ≤ 140737488355328) (hm : n + xs.length ≤ 4611686018427387904) :
  ∃ (v : Value) (w' : World) (b' c' : Nat), (Builtin.append_ #[t, t] ty #[u, x]).run P w = .ok v w' ∧ After F M w F (upd (upd M id none) d (some (.row b' c' e sz (es ++ xs)))) w' ∧
   SimV F v (.osl d b' (n + xs.length) c') ∧ v.oneCell' = true := by
 obtain ⟨i, z, hi, hz, hz1, hz2, hz3⟩ := hT.parts
 have hone := hT.one hi hz
 obtain ⟨g0, g1, g2⟩ := hS.own id _ hM
 have hsz' : ∀ y, y ∈ es ++ xs → y.cells.length = sz := fun y hy => (List.mem_append.1 hy).elim (g1 y) (hsz y)
 have hdrop : Sim F (upd M id none) w := by
  have part : ∀ j bl, (upd M id none) j = some bl → M j = some bl := fun j bl h => by unfold upd at h; split at h; cases h; exact h
  exact ⟨hS.imm, fun j bl h => hS.own j bl (part j bl h), fun j bl k h => hS.apart j bl k (part j bl h), fun j j' bl bl' k h h' => hS.inj j j' bl bl' k (part j bl h) (part j' bl' h')⟩
 have lift : ∀ {F' : Hp} {M' : Mem} {w' : World}, After F (upd M id none) w F' M' w' → After F M w F' M' w' := fun h => by
  have sub : ∀ k, Owned (upd M id none) k → Owned M k := fun k ⟨j, bl, hj, ho⟩ => ⟨j, bl, by unfold upd at hj; split at hj; cases hj; exact hj, ho⟩
  exact ⟨h.grow.mono sub, h.le, h.sim, fun k x y => (h.new k x y).imp (fun q => q) (sub k), fun k x => (h.mnew k x).imp (fun q => q) (sub k)⟩
 cases u with
 | slice ao n' cap =>
  have hun : n' = n ∧ cap = c ∧ (0 < c → ao = some ⟨b, 0, none⟩) ∧ n ≤ c := by cases hu with | osl h1 h2 => exact ⟨rfl, rfl, h1, h2⟩
  obtain ⟨rfl, rfl, hao, hnc⟩ := hun
  obtain ⟨xo, cx, hxe, hx⟩ := hx
  subst hxe
  ·have _h := hT.pos
   rcases Nat.eq_zero_or_pos xs.length with h0 | h0
   ·
    have hnil : xs = [] := List.eq_nil_of_length_eq_zero h0
    subst hnil
    have hr := run_append_none (P := P) t ty hT ao xo n' cap cx hnc w
    refine ⟨_, w, b, cap, by simpa using hr, ?_, by simpa using SimV.osl hao hnc, rfl⟩
    simp only [List.append_nil]
    have part : ∀ j bl, (upd (upd M id none) d (some (.row b cap e sz es))) j = some bl → (j = d ∧ bl = .row b cap e sz es) ∨ (j ≠ d ∧ j ≠ id ∧ M j = some bl) := fun j bl h => by
     unfold upd at h
     split at h
     ·rename_i e1; cases h; exact .inl ⟨e1, rfl⟩
     ·rename_i e1
      split at h
      ·cases h
      ·rename_i e2; exact .inr ⟨e1, e2, h⟩
    refine ⟨Grow.refl _ _, Hp.le.refl F, ⟨hS.imm, fun j bl h => ?_, fun j bl k h ho => ?_, fun j j' bl bl' k h h' ho ho' => ?_⟩, fun k x y => absurd x y, fun k ⟨j, bl, h, ho⟩ => ?_⟩
    ·rcases part j bl h with ⟨_, rfl⟩ | ⟨_, _, h⟩
     ·exact hS.own id _ hM
     ·exact hS.own j bl h
    ·rcases part j bl h with ⟨_, rfl⟩ | ⟨_, _, h⟩
     ·exact hS.apart id _ k hM ho
     ·exact hS.apart j bl k h ho
    ·rcases part j bl h with ⟨e1, f1⟩ | ⟨n1, m1, q1⟩ <;> rcases part j' bl' h' with ⟨e2, f2⟩ | ⟨n2, m2, q2⟩
     ·rw [e1, e2]
     ·rw [f1] at ho; exact absurd (hS.inj id j' _ _ k hM q2 ho ho') (Ne.symm m2)
     ·rw [f2] at ho'; exact absurd (hS.inj j id _ _ k q1 hM ho ho') m1
     ·exact hS.inj j j' bl bl' k q1 q2 ho ho'
    ·rcases part j bl h with ⟨_, rfl⟩ | ⟨_, _, h⟩
     ·exact .inr ⟨id, _, hM, ho⟩
     ·exact .inr ⟨j, bl, h, ho⟩
   ·obtain ⟨ad, news, rfl, hnl, hnc', hn1, hnr⟩ := hx h0
    by_cases hc0 : 0 < cap
    ·have hao := hao hc0
     subst hao
     obtain ⟨cs, hh, hl, h1, hr⟩ := g2 hc0
     by_cases hroom : n' + xs.length ≤ cap
     ·
      have hfit : n' * i.size + news.length ≤ cs.length := by rw [hz2, hnl, hl, ← Nat.add_mul]; exact Nat.mul_le_mul_right _ hroom
      have hrun := run_append_room (P := P) w t ty e i hT.u hi b n' cap cs.toArray hh ad xs.length cx news (by rw [hz2]; exact hnl) hnc' hn1 hroom (by simpa using hfit)
      have hlen : (cs.take (n' * sz) ++ news ++ cs.drop (n' * sz + news.length)).length = cap * sz := by
       rw [List.length_append, List.length_append, List.length_take, List.length_drop]
       rw [hz2] at hfit; omega
      rw [hz2] at hrun hfit
      simp only at hrun
      refine ⟨_, _, b, cap, hrun, ?_, .osl (fun _ => rfl) hroom, rfl⟩
      have hheap := setRow_heap w b cs.toArray (cs.take (n' * sz) ++ news ++ cs.drop (n' * sz + news.length)).toArray e (0, 0) hh
      have hother := fun k (hk : k ≠ b) => setRow_other w b k (cs.take (n' * sz) ++ news ++ cs.drop (n' * sz + news.length)).toArray hk
      have hFb : F b = none := hS.apart id _ b hM ⟨hc0, rfl⟩
      have part : ∀ j bl, (upd (upd M id none) d (some (.row b cap e sz (es ++ xs)))) j = some bl → (j = d ∧ bl = .row b cap e sz (es ++ xs)) ∨ (j ≠ d ∧ j ≠ id ∧ M j = some bl) := fun j bl h => by
       unfold upd at h
       split at h
       ·rename_i e1; cases h; exact .inl ⟨e1, rfl⟩
       ·rename_i e1
        split at h
        ·cases h
        ·rename_i e2; exact .inr ⟨e1, e2, h⟩
      have hown : BlkOK F (w.setRow b (cs.take (n' * sz) ++ news ++ cs.drop (n' * sz + news.length)).toArray) (.row b cap e sz (es ++ xs)) := by
       refine ⟨by rw [List.length_append]; omega, hsz', fun _ => ⟨_, hheap, hlen, fun u hu => ?_, fun k x u hx hu => ?_⟩⟩
       ·simp only [List.mem_append] at hu
        rcases hu with (hu | hu) | hu
        ·exact h1 u (List.mem_of_mem_take hu)
        ·exact hn1 u hu
        ·exact h1 u (List.mem_of_mem_drop hu)
       ·have hfl : (es.flatMap D.cells).length = n' * sz := by rw [flat_length g1, hn]
        rw [List.flatMap_append] at hx
        have hklt : k < n' * sz + news.length := by
         have := (List.getElem?_eq_some_iff.1 hx).1
         rw [List.length_append, hfl, flat_length hsz, ← hnl] at this
         exact this
        have htl : (cs.take (n' * sz)).length = n' * sz := by rw [List.length_take]; omega
        rw [List.append_assoc, List.getElem?_append, htl] at hu
        rw [List.getElem?_append, hfl] at hx
        split at hx
        ·rename_i hk
         rw [if_pos hk, List.getElem?_take, if_pos hk] at hu
         exact hr k x u hx hu
        ·rename_i hk
         rw [if_neg hk, List.getElem?_append_left (by omega)] at hu
         exact hnr _ x u hx hu
      refine ⟨⟨rfl, rfl, rfl, by simp, fun k _ hk => hother k fun e1 => hk (e1 ▸ ⟨id, _, hM, hc0, rfl⟩)⟩, Hp.le.refl F, ⟨fun k o hk => ?_, fun j bl h => ?_, fun j bl k h ho => ?_, fun j j' bl bl' k h h' ho ho' => ?_⟩, fun k x y => absurd x y, fun k ⟨j, bl, h, ho⟩ => ?_⟩
      ·rw [hother k (fun e1 => by subst e1; rw [hFb] at hk; cases hk)]
       exact hS.imm k o hk
      ·rcases part j bl h with ⟨_, rfl⟩ | ⟨_, nj, hq⟩
       ·exact hown
       ·exact (hS.own j bl hq).keep (Hp.le.refl F) fun k hk => hother k fun e1 => nj (hS.inj j id _ _ k hq hM hk ⟨hc0, e1⟩)
      ·rcases part j bl h with ⟨_, rfl⟩ | ⟨_, _, h⟩
       ·exact hS.apart id _ k hM ho
       ·exact hS.apart j bl k h ho
      ·rcases part j bl h with ⟨e1, f1⟩ | ⟨n1, m1, q1⟩ <;> rcases part j' bl' h' with ⟨e2, f2⟩ | ⟨n2, m2, q2⟩
       ·rw [e1, e2]
       ·rw [f1] at ho; exact absurd (hS.inj id j' _ _ k hM q2 ho ho') (Ne.symm m2)
       ·rw [f2] at ho'; exact absurd (hS.inj j id _ _ k q1 hM ho ho') m1
       ·exact hS.inj j j' bl bl' k q1 q2 ho ho'
      ·rcases part j bl h with ⟨_, rfl⟩ | ⟨_, _, h⟩
       ·exact .inr ⟨id, _, hM, ho⟩
       ·exact .inr ⟨j, bl, h, ho⟩
     ·
      have hbyt : (n' + xs.length) * i.bytes ≤ 140737488355328 := by rw [hz3]; exact hb
      have hol : (cs.take (n' * sz)).length = n' * i.size := by
       have : n' * sz ≤ cap * sz := Nat.mul_le_mul_right _ hnc
       rw [List.length_take, hz2]; omega
      have hrun := run_append_grow (P := P) w t ty e i z hT.u hi hz ⟨b, 0, none⟩ n' cap (cs.take (n' * sz)) hol
       (fun j v hj => by
        refine cell_of_box hh 0 j v ?_
        rw [Nat.zero_add]
        rw [List.getElem?_take] at hj
        split at hj
        ·exact hj
        ·cases hj)
       ad xs.length cx news (by rw [hz2]; exact hnl) hnc' (by omega) (by omega) (growslice_fits (by omega) hbyt)
      have hge := grownCap_ge w (n' + xs.length) cap e
      refine ⟨_, _, w.heap.size, grownCap w (n' + xs.length) cap e, hrun, lift (new_row hdrop d e _ sz (cs.take (n' * sz) ++ news ++ (Builtin.zeroCells z.cells (grownCap w (n' + xs.length) cap e - (n' + xs.length))).toList) (es ++ xs)
       (by rw [List.length_append]; omega) ?_ (fun u hu => ?_) hsz' (fun k x u hx hu => ?_) rfl rfl rfl ?_), .osl (fun _ => rfl) hge, rfl⟩
      ·rw [List.length_append, List.length_append, hol, hz2, hnl, zc_len hz1, ← Nat.add_mul, ← Nat.add_mul]
       congr 1; omega
      ·simp only [List.mem_append] at hu
       rcases hu with (hu | hu) | hu
       ·exact h1 u (List.mem_of_mem_take hu)
       ·exact hn1 u hu
       ·exact zeroCells_one hone _ u hu
      ·have hfl : (es.flatMap D.cells).length = n' * sz := by rw [flat_length g1, hn]
       rw [hz2] at hol
       rw [List.flatMap_append] at hx
       have hklt : k < n' * sz + news.length := by
        have := (List.getElem?_eq_some_iff.1 hx).1
        rw [List.length_append, hfl, flat_length hsz, ← hnl] at this
        exact this
       rw [List.append_assoc, List.getElem?_append, hol] at hu
       rw [List.getElem?_append, hfl] at hx
       split at hx
       ·rename_i hk
        rw [if_pos hk, List.getElem?_take, if_pos hk] at hu
        exact hr k x u hx hu
       ·rename_i hk
        rw [if_neg hk, List.getElem?_append_left (by omega)] at hu
        exact hnr _ x u hx hu
      ·show w.heap.push (Obj.cells _ e) = _
       congr 2
       apply Array.ext'
       simp
    ·
     have hcz : cap = 0 := by omega
     subst hcz
     have hnz : n' = 0 := by omega
     subst hnz
     have hes : es = [] := List.eq_nil_of_length_eq_zero hn.symm
     subst hes
     have hbyt : xs.length * i.bytes ≤ 140737488355328 := by rw [hz3]; simpa using hb
     have hge := grownCap_ge w (0 + xs.length) 0 e
     have hge' := grownCap_ge w xs.length 0 e
     have hrun : (Builtin.append_ #[t, t] ty #[.slice ao 0 0, .slice (some ad) xs.length cx]).run P w =
       .ok (.slice (some ⟨w.heap.size, 0, none⟩) xs.length (grownCap w xs.length 0 e)) (w.drew.alloc (.cells (news ++ (Builtin.zeroCells z.cells (grownCap w xs.length 0 e - xs.length)).toList).toArray e)) := by
      cases ao with
      | none =>
       rw [run_append_nil (P := P) w t ty e i z hT.u hi hz ad xs.length cx news (by rw [hz2]; exact hnl) hnc' h0 (by omega) (by omega)]
       have e1 : news.toArray ++ Builtin.zeroCells z.cells (grownCap w xs.length 0 e - xs.length) = (news ++ (Builtin.zeroCells z.cells (grownCap w xs.length 0 e - xs.length)).toList).toArray := by apply Array.ext'; simp
       rw [e1]
      | some a0 =>
       have := run_append_grow (P := P) w t ty e i z hT.u hi hz a0 0 0 [] (by simp) (by simp) ad xs.length cx news (by rw [hz2]; exact hnl) hnc' (by omega) (by omega) (growslice_fits (by omega) (by simpa using hbyt))
       simp only [Nat.zero_add] at this
       rw [this]
       have e1 : ([] : List Value).toArray ++ news.toArray ++ Builtin.zeroCells z.cells (grownCap w xs.length 0 e - xs.length) = (news ++ (Builtin.zeroCells z.cells (grownCap w xs.length 0 e - xs.length)).toList).toArray := by apply Array.ext'; simp
       rw [e1]
     refine ⟨_, _, w.heap.size, grownCap w xs.length 0 e, hrun, lift (new_row hdrop d e _ sz (news ++ (Builtin.zeroCells z.cells (grownCap w xs.length 0 e - xs.length)).toList) ([] ++ xs) (by simpa using hge') ?_ (fun u hu => ?_) hsz' (fun k x u hx hu => ?_) rfl rfl rfl ?_), by rw [Nat.zero_add]; exact .osl (fun _ => rfl) hge', rfl⟩
     ·rw [List.length_append, hnl, zc_len hz1, ← Nat.add_mul]
      congr 1; omega
     ·simp only [List.mem_append] at hu
      rcases hu with hu | hu
      ·exact hn1 u hu
      ·exact zeroCells_one hone _ u hu
     ·simp only [List.nil_append] at hx
      have hklt : k < news.length := by
       have := (List.getElem?_eq_some_iff.1 hx).1
       rw [flat_length hsz, ← hnl] at this
       exact this
      rw [List.getElem?_append_left hklt] at hu
      exact hnr _ x u hx hu
     ·rfl
 | _ => cases hu
end
section
variable {P : Program} {E : Env} {K : S → Prop} {s : S} {pos : String} {after : Array Edge} {ty : Nat}
theorem SO.mono {o : Oper} {K' : S → Prop} (h : SO P E o K s) (hk : ∀ s, K s → K' s) : SO P E o K' s := fun F a w hr => (h F a w hr).mono fun _ _ ⟨F', s', h1, h2⟩ => ⟨F', s', h1, hk s' h2⟩
theorem SO.shrink {o : Oper} {id b c e sz : Nat} {es : List D} (n : Nat) (hM : s.M id = some (.row b c e sz es)) (h : SO P E o K ⟨s.ρ, upd s.M id (some (.row b c e sz (es.take n)))⟩) : SO P E o K s := fun F a w hr =>
 h F a w (hr.swap hM (fun k hk => hk) ((hr.sim.own id _ hM : RowOK F w b c e sz es).shrink n))
theorem AW.shrink {k : Code} {Q : Exit → S → Prop} {id b c e sz : Nat} {es : List D} (n : Nat) (hM : s.M id = some (.row b c e sz es)) (h : AW P E k Q ⟨s.ρ, upd s.M id (some (.row b c e sz (es.take n)))⟩) : AW P E k Q s := fun F a w hr =>
 h F a w (hr.swap hM (fun k hk => hk) ((hr.sim.own id _ hM : RowOK F w b c e sz es).shrink n))
theorem SO.appKeep {t e sz by_ id b n c d : Nat} {x y : Operand} {es xs : List D} (hd : d < E.n) (hT : SliceT P t e sz by_) (hx : s.ev x = .osl id b n c) (hM : s.M id = some (.row b c e sz es)) (hn : n ≤ es.length) (hy : VC (s.ev y) (.sl xs)) (hsz : ∀ y, y ∈ xs → y.cells.length = sz)
  (hb : (n + xs.length) * by_ ≤ 140737488355328) (hm : n + xs.length ≤ 4611686018427387904) (h : ∀ b' c', K ⟨upd s.ρ d (.osl id b' (n + xs.length) c'), upd s.M id (some (.row b' c' e sz (es.take n ++ xs)))⟩) :
  SO P E ⟨some d, .call { callee := .builtin .append, args := #[x, y], argTypes := #[t, t] }, ty, pos, after, none⟩ K s := fun F a w hr => by
 have hs := hr.swap hM (bl' := .row b c e sz (es.take n)) (fun k hk => hk) ((hr.sim.own id _ hM : RowOK F w b c e sz es).shrink n)
 have hx' := hs.eval x
 rw [show (⟨s.ρ, upd s.M id (some (.row b c e sz (es.take n)))⟩ : S).ev x = s.ev x by cases x <;> rfl, hx] at hx'
 have hy' := vc_rep hy (hr.eval y)
 obtain ⟨v, w', b', c', h1, h2, h3, h4⟩ := append_owned (P := P) (ty := ty) (d := id) hs.sim hT hx' (by rw [List.length_take]; omega) (upd_same _ _ _) (.inr rfl) hy' hsz hb hm
 have e1 : ∀ q, upd (upd (upd s.M id (some (.row b c e sz (es.take n)))) id none) id q = upd s.M id q := fun q => by rw [upd_upd, upd_upd]
 rw [e1] at h2
 refine append_exec (o := ⟨some d, .call { callee := .builtin .append, args := #[x, y], argTypes := #[t, t] }, ty, pos, after, none⟩) rfl h1 ?_
 exact ⟨F, _, hs.after_put (dst := some d) h2 hd h3, h b' c'⟩
end
def FSpecO (P : Program) (f : Nat) (args : V → List V) (n e sz : Nat) (es : List D) (n' : Nat) (es' : List D) : Prop :=
 HasBody P f ∧ ∀ (F : Hp) (w : World) (vals : List Value) (b c : Nat), Sim F (mem1 0 (.row b c e sz es)) w → SimVs F vals (args (.osl 0 b n c)) →
  Calls P f vals.toArray w fun x w' => ∃ v F' b' c', x = .returned v ∧ After F (mem1 0 (.row b c e sz es)) w F' (mem1 0 (.row b' c' e sz es')) w' ∧ SimV F' v (.osl 0 b' n' c')
section
variable {P : Program}
theorem FSpecO.intro {f : Nat} {fn : Func} {code : Code} {args : V → List V} {n e sz n' : Nat} {es es' : List D} (hf : P.funcs[f]? = some fn) (hname : (fn.name == "runtime.NumGoroutine") = false) (hb : fn.body = some code) (hn : ∀ v, (args v).length ≤ fn.ntmps) (t : Nat) (hres : fn.results.toList = [.tmp t])
  (h : ∀ (E : Env) (b c : Nat), E.n = fn.ntmps → AW P E code (fun x s => (x = .normal ∨ x = .ret) ∧ ∃ id b' cp es0, s.ρ t = .osl id b' n' cp ∧ s.M id = some (.row b' cp e sz es0) ∧ n' ≤ es0.length ∧ es0.take n' = es') ⟨argsρ (args (.osl 0 b n c)), mem1 0 (.row b c e sz es)⟩) : FSpecO P f args n e sz es n' es' := by
 refine ⟨by simp [HasBody, hf, hname, hb], fun F w vals b c hS hv => calls_of_wp hf hb ?_⟩
 generalize hA : args (.osl 0 b n c) = A at hv
 have hAn : A.length ≤ fn.ntmps := by rw [← hA]; exact hn _
 have hlen : vals.length = A.length := hv.1
 have hrun : Run ⟨w, F, Owned (mem1 0 (.row b c e sz es)), fn.ntmps⟩ F ⟨argsρ A, mem1 0 (.row b c e sz es)⟩ { tmps := vals.toArray ++ Array.replicate (fn.ntmps - vals.toArray.size) undef, defers := [] } w := by
  refine ⟨hS, Grow.refl _ _, Hp.le.refl F, fun k p q => absurd p q, fun id blk k hm ho => .inr ⟨id, blk, hm, ho⟩, by simp; omega, rfl, fun t => ?_⟩
  simp only [argsρ]
  by_cases ht : t < A.length
  ·have h1 : A[t]? = some A[t] := List.getElem?_eq_getElem ht
   have h2 : vals[t]? = some (vals[t]'(by omega)) := List.getElem?_eq_getElem (by omega)
   rw [List.getD_eq_getElem?_getD, h1, Array.getD_eq_getD_getElem?, Array.getElem?_append_left (by simpa [hlen] using ht), List.getElem?_toArray, h2]
   exact hv.2 t _ _ h1 h2
  ·rw [List.getD_eq_getElem?_getD, List.getElem?_eq_none (by omega)]
   exact .junk
 have hh := h ⟨w, F, Owned (mem1 0 (.row b c e sz es)), fn.ntmps⟩ b c rfl
 rw [hA] at hh
 refine wp_mono (hh F _ w hrun) fun x a' w' ⟨F', s', hr, hq, id, b', cp, es0, h1, h2, h3, h4⟩ => ?_
 have done : a'.defers = [] ∧ ∃ v, (results fn a'.tmps).run P w' = .ok v w' ∧ ∃ v' F' b' c', Ending.returned v = .returned v' ∧ After F (mem1 0 (.row b c e sz es)) w F' (mem1 0 (.row b' c' e sz es')) w' ∧ SimV F' v' (.osl 0 b' n' c') := by
  have ok : BlkOK F' w' (.row b' cp e sz es') := by subst h4; exact RowOK.shrink (hr.sim.own id _ h2) n'
  refine ⟨hr.defers, a'.tmps.getD t undef, ?_, a'.tmps.getD t undef, F', b', cp, rfl, ⟨hr.grow, hr.f0, ⟨hr.sim.imm, fun j q hq => ?_, fun j q k hq hk => ?_, fun i j bi bj k hi hj _ _ => ?_⟩, hr.fnew, fun k ⟨j, q, hq, hk⟩ => ?_⟩, ?_⟩
  ·rw [results_eq, Sem.run_bind, Array.mapM_eq_mapM_toList, Sem.run_map, hres]
   simp [rvSem, List.mapM_cons, List.mapM_nil]
  ·obtain ⟨_, rfl⟩ := mem1_get hq
   exact ok
  ·obtain ⟨_, rfl⟩ := mem1_get hq
   exact hr.sim.apart id _ k h2 hk
  ·rw [(mem1_get hi).1, (mem1_get hj).1]
  ·obtain ⟨_, rfl⟩ := mem1_get hq
   exact hr.mnew id _ k h2 hk
  ·have hs := hr.slots t
   rw [h1] at hs
   generalize a'.tmps.getD t undef = v at hs
   cases hs with
   | osl p q => exact .osl p q
 rcases hq with rfl | rfl
 ·exact done
 ·exact done
theorem vle_osl {id id2 b n c : Nat} : VLe (.osl id b n c) (.osl id2 b n c) := fun F v h => by
 cases h with
 | osl p q => exact .osl p q
end
end Go.AL

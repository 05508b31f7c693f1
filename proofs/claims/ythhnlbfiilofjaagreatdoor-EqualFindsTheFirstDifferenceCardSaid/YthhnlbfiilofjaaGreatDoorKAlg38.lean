/-
  AL, part 38: the elements of a row from some place on become zero.
-/
import Derived.Test.YthhnlbfiilofjaaGreatDoorKWkC
import Derived.Test.YthhnlbfiilofjaaGreatDoorKAlg37
set_option linter.unusedVariables false
set_option linter.unusedSimpArgs false
namespace Go.Proofs.YthhnlbfiilofjaaGreatDoor
open Go Go.AL
theorem vd_w {q : Rat} : VD (vW q) (dW q) := VD.ag (.cons (VC.d _) (.cons (VC.d _) (.cons (VC.d _) (.cons (VC.d _) (.cons (VC.d _) (.cons (VC.d _) (.cons (VC.d _) (.cons (VC.d _) .nil))))))))
theorem insertA0 {l : List Arc9} {b n c : Nat} (hn : n ≤ 20) : FSpecM P F.slices_insertionSortCmpFunc_Arc [.osl 1000 b n c, .d (dI n), .d (dI n), .fn F.automaton_order []] (mem1 1000 (rowA b c (l))) (.tup []) (mem1 1000 (rowA b c (l))) := by
 refine FSpecM.intro fn.slices_insertionSortCmpFunc_Arc (by rfl) (by rfl) (nb9 (by rfl)) fun E hE => (AW.sg hE rfl (mvD rfl (add_i64 rfl rfl (by omega) (asD rfl (OL.nil (AW.block ?_))))))
 refine AW.whileK (α := Unit) [(0, _), (1, _), (2, _), (3, _)] [] (fun _u => [(8, .d (dI ((n : Int) + 1)))]) (fun _u => [(1000, rowA b c (l))]) (fun _u => True) (fun _u => 0) () (.cons (knO rfl) (.cons (knD rfl) (.cons (knD rfl) (.cons (knF rfl) .nil)))) .nil ⟨trivial, .rq1, .cons rfl .nil⟩ ?_
 rintro ⟨⟩ -
 refine AW.seq (AW.sg hE rfl (mvD rfl (mvD rfl (c_lss rfl rfl rfl (OL.nil (AW.cond rfl (fun hno => absurd hno (by simp; omega)) (fun _ => ?_)))))))
 exact AW.exit (⟨⟨_, .nil, _, .nil, rfl⟩, mem1_keep rfl⟩)
theorem stableA {l : List Arc9} {b n c : Nat} (hl : l.length = n) (hn : 1 ≤ n ∧ n ≤ 20) : FSpecM P F.slices_stableCmpFunc_Arc [.osl 1000 b n c, .d (dI n), .fn F.automaton_order []] (mem1 1000 (rowA b c (l))) (.tup []) (mem1 1000 (rowA b c (sortG ltA (n - 1) l))) := by
 refine FSpecM.intro fn.slices_stableCmpFunc_Arc (by rfl) (by rfl) (nb9 (by rfl)) fun E hE => (AW.sg hE rfl (asD rfl (OL.nil (AW.sg hE rfl (mvD rfl (asD rfl (asD rfl ?_)))))))
 refine OL.nil ?_
 refine AW.midK (α := Nat × List Arc9) [(0, _), (1, _), (2, _), (6, _)] [] (fun (k, u) => [(7, .d (dI (20 * k : Nat)))]) (fun (k, u) => [(1000, rowA b c (u))]) (fun (k, u) => (k = 0 ∧ l = u ∧ n < 20) ∨ (k = 1 ∧ n = 20 ∧ u = sortG ltA (n - 1) l)) (.cons (knO rfl) (.cons (knD rfl) (.cons (knF rfl) (.cons (knD rfl) .nil)))) .nil ?_ ?_
 ·refine AW.block ?_
  refine AW.whileK (α := Nat × List Arc9) [(0, _), (1, _), (2, _), (6, _)] [] (fun (k, u) => [(7, .d (dI (20 * k : Nat))), (8, .d (dI (20 * k + 20 : Nat)))]) (fun (k, u) => [(1000, rowA b c (u))]) (fun (k, u) => (k = 0 ∧ l = u) ∨ (k = 1 ∧ n = 20 ∧ u = sortG ltA (n - 1) l)) (fun (k, u) => 1 - k) (0, l) (.cons (knO rfl) (.cons (knD rfl) (.cons (knF rfl) (.cons (knD rfl) .nil)))) .nil ⟨.inl ⟨rfl, rfl⟩, .rq2, .cons rfl .nil⟩ ?_
  rintro ⟨k, u⟩ h1
  have h1 : (k = 0 ∧ l = u) ∨ (k = 1 ∧ n = 20 ∧ u = sortG ltA (n - 1) l) := h1
  refine AW.seq (AW.sg hE rfl (mvD rfl (mvD rfl (c_leq rfl rfl rfl (OL.nil (AW.cond rfl (fun h13 => ?_) (fun h13 => ?_)))))))
  ·try simp only [dx9] at h13
   refine AW.skip (AW.block (AW.sg hE rfl (mvO rfl (mvD rfl (mvD rfl (mvF rfl ?_))))))
   obtain ⟨rfl, rfl⟩ : k = 0 ∧ l = u := h1.resolve_right fun e => by omega
   refine OL.callM (v := .tup []) (.mk (args' := [.osl 1000 b n c, .d (dI 0), .d (dI n), .fn F.automaton_order []]) rfl (.cons (VLe.refl _) (.cons (VLe.refl _) (.cons (VLe.int (by omega)) (.cons (VLe.refl _) (.nil))))) (mem1_keep (id := 1000) (blk := rowA b c l) rfl) mem1_sub (insertA (n := n) hl hn)) ?_
   refine OL.nil (AW.sg hE rfl (mvD rfl (asD rfl (OL.nil (AW.rg hE rfl (mvD rfl (mvD rfl ?_)))))))
   refine add_i64 rfl rfl (by omega) (asD rfl (OL.nil ?_))
   exact AW.again (x := (0, l)) (1, sortG ltA (n - 1) l) (by (simp only []; omega)) ⟨.inr ⟨rfl, by omega, rfl⟩, Knows.app .rq4 .rq2, .cons rfl .nil⟩
  ·try simp only [dx9] at h13
   exact AW.exit (AW.reach (k, u) ⟨h1.imp (fun e => ⟨e.1, e.2, by omega⟩) id, Knows.app .rq4 .rq1, .cons rfl .nil⟩)
 rintro ⟨k, u⟩ h1
 refine AW.seq ?_
 rcases h1 with ⟨rfl, rfl, h0⟩ | ⟨rfl, h0, rfl⟩
 ·have h2 : n ≤ 20 := hn.2
  refine AW.rg hE rfl (mvO rfl (mvD rfl (mvD rfl (mvF rfl ?_))))
  refine OL.callM (v := .tup []) (.mk (args' := [.osl 1000 b n c, .d (dI 0), .d (dI n), .fn F.automaton_order []]) rfl (.cons (VLe.refl _) (.cons (VLe.refl _) (.cons (VLe.refl _) (.cons (VLe.refl _) (.nil))))) (mem1_keep (id := 1000) (blk := rowA b c l) rfl) mem1_sub (insertA (n := n) hl hn)) ?_
  refine OL.nil (AW.block ?_)
  refine AW.whileK (α := Unit) [(0, _), (1, _), (2, _)] [] (fun _u => [(6, .d (dI 20))]) (fun _u => [(1000, rowA b c (sortG ltA (n - 1) l))]) (fun _u => True) (fun _u => 0) () (.cons (knO rfl) (.cons (knD rfl) (.cons (knF rfl) .nil))) .nil ⟨trivial, .rq1, .cons rfl .nil⟩ ?_
  rintro ⟨⟩ -
  refine AW.seq (AW.sg hE rfl (mvD rfl (mvD rfl (c_lss rfl rfl rfl (OL.nil (AW.cond rfl (fun hno => absurd hno (by simp; omega)) (fun _ => ?_)))))))
  exact AW.exit (⟨⟨_, .nil, _, .nil, rfl⟩, mem1_keep rfl⟩)
 ·have h2 : n ≤ 20 := hn.2
  refine AW.rg hE rfl (mvO rfl (mvD rfl (mvD rfl (mvF rfl ?_))))
  refine OL.callM (v := .tup []) (.mk (args' := [.osl 1000 b n c, .d (dI n), .d (dI n), .fn F.automaton_order []]) rfl (.cons (VLe.refl _) (.cons (VLe.int (by omega)) (.cons (VLe.refl _) (.cons (VLe.refl _) (.nil))))) (mem1_keep (id := 1000) (blk := rowA b c (sortG ltA (n - 1) l)) rfl) mem1_sub (insertA0 (n := n) hn.2)) ?_
  refine OL.nil (AW.block ?_)
  refine AW.whileK (α := Unit) [(0, _), (1, _), (2, _)] [] (fun _u => [(6, .d (dI 20))]) (fun _u => [(1000, rowA b c (sortG ltA (n - 1) l))]) (fun _u => True) (fun _u => 0) () (.cons (knO rfl) (.cons (knD rfl) (.cons (knF rfl) .nil))) .nil ⟨trivial, .rq1, .cons rfl .nil⟩ ?_
  rintro ⟨⟩ -
  refine AW.seq (AW.sg hE rfl (mvD rfl (mvD rfl (c_lss rfl rfl rfl (OL.nil (AW.cond rfl (fun hno => absurd hno (by simp; omega)) (fun _ => ?_)))))))
  exact AW.exit (⟨⟨_, .nil, _, .nil, rfl⟩, mem1_keep rfl⟩)
theorem sortStableA {l : List Arc9} {b n c : Nat} (hl : l.length = n) (hn : 1 ≤ n ∧ n ≤ 20) : FSpecM P F.slices_SortStableFunc_Arc_Arc [.osl 1000 b n c, .fn F.automaton_order []] (mem1 1000 (rowA b c (l))) (.tup []) (mem1 1000 (rowA b c (sortG ltA (n - 1) l))) := by
 refine FSpecM.intro fn.slices_SortStableFunc_Arc_Arc (by rfl) (by rfl) (nb9 (by rfl)) fun E hE => (AW.rg hE rfl (mvO rfl (mvO rfl (lnO sl.Arcs rfl rfl (mvF rfl (OL.callM (v := .tup []) (.mk (args' := [.osl 1000 b n c, .d (dI n), .fn F.automaton_order []]) rfl (.cons (VLe.refl _) (.cons (VLe.refl _) (.cons (VLe.refl _) (.nil)))) (mem1_keep (id := 1000) (blk := rowA b c l) rfl) mem1_sub (stableA hl hn)) (OL.nil ?_)))))))
 exact ⟨⟨_, .nil, _, .nil, rfl⟩, mem1_keep rfl⟩
end Go.Proofs.YthhnlbfiilofjaaGreatDoor

set_option linter.unusedVariables false
set_option linter.unusedSimpArgs false
namespace Go.AL
open Go Go.BigFrame
section
variable {P : Program} {E : Env} {K : S → Prop} {s : S} {pos : String} {after : Array Edge} {ty : Nat}
theorem upd_again {M : Mem} {id : Nat} {blk : Blk} (h : M id = some blk) : upd M id (some blk) = M := by
 funext k
 unfold upd
 split
 ·rename_i e; rw [e]; exact h.symm
 ·rfl
theorem After.none {F : Hp} {M : Mem} {w : World} (h : Sim F M w) : After F M w F M w := ⟨Grow.refl _ _, Hp.le.refl F, h, fun k a b => absurd a b, fun _ k => .inr k⟩
theorem builtin_clear {ats : Array TypeId} {ty : TypeId} {cs : Array Bool} {args : Array Value} : builtin .clear ats ty cs args = (do pure (.value (← Builtin.clear_ ats ty args))) := rfl
theorem clear_exec {a : Act} {w w' : World} {o : Oper} {x : Operand} {t : Nat} {v : Value} (ho : o.op = .call { callee := .builtin .clear, args := #[x], argTypes := #[t] }) {R : Value → World → Prop}
  (hr : (Builtin.clear_ #[t] o.type #[a.eval x]).run P w = .ok v w') (h : R v w') : Good P ((execOp a.eval o).run P w) R := by
 unfold execOp; rw [ho]
 simp only [resolve, Sem.run_bind, Sem.run_pure, Result.andThen_ok, invoke, builtin_clear]
 have e1 : (#[x].map a.eval) = #[a.eval x] := by simp
 rw [e1, hr]
 exact h
theorem SO.clearB {dst : Option Nat} {t e sz by_ id b o n c cb : Nat} {x : Operand} {es : List D} {z : D} {zs : List V} (hd : Below' E.n dst) (hT : SliceT P t e sz by_) (hz : ZeroT P e zs) (hc : VCs zs z.cells) (hx : s.ev x = .osb id b sz o n c) (hM : s.M id = some (.row b cb e sz es)) (hn : o + n = es.length)
  (h : K ((⟨s.ρ, upd s.M id (some (.row b cb e sz (es.take o ++ List.replicate n z)))⟩ : S).put dst (.tup []))) :
  SO P E ⟨dst, .call { callee := .builtin .clear, args := #[x], argTypes := #[t] }, ty, pos, after, none⟩ K s := fun F a w hr => by
 have hx' := hr.eval x
 rw [hx] at hx'
 generalize hax : a.eval x = ax at hx'
 obtain ⟨g0, g1, g2⟩ := hr.sim.own id _ hM
 obtain ⟨i, zv, hi, hzv, h1, h2, h3⟩ := hT.parts
 obtain ⟨i', zv', hi', hzv', z1, z2, z3⟩ := hz.parts
 rw [hi] at hi'; cases hi'
 rw [hzv] at hzv'; cases hzv'
 have hzl : zs.length = sz := by rw [← h2, z3]
 have hdl : z.cells.length = sz := by rw [← hc.length, hzl]
 cases hx' with
 | @osb ao _ _ _ _ _ _ ha hnc =>
  rcases Nat.eq_zero_or_pos n with h0 | h0
  ·subst h0
   have e1 : es.take o ++ List.replicate 0 z = es := by rw [List.replicate_zero, List.append_nil, List.take_of_length_le (by omega)]
   rw [e1, upd_again hM] at h
   refine clear_exec (o := ⟨dst, .call { callee := .builtin .clear, args := #[x], argTypes := #[t] }, ty, pos, after, none⟩) (v := .tuple #[]) (w' := w) rfl ?_ ⟨F, _, hr.after_put (After.none hr.sim) hd (.tup (us := []) rfl fun i c u h => by simp at h), h⟩
   rw [hax]
   cases ao <;> simp [Builtin.clear_, run_underlying hT.u]
  ·rw [ha (by omega)] at hax
   obtain ⟨cs, hh, hcl, c1, c2⟩ := g2 (by omega)
   have hfit : o * sz + n * sz ≤ cs.length := by rw [hcl, ← Nat.add_mul, hn]; exact Nat.mul_le_mul_right _ g0
   have hget : ∀ (j : Nat) (u : Value), (Builtin.zeroCells zv.cells n).toList[j]? = some u → j < n * sz ∧ zv.cells.toList[j % sz]? = some u := fun j u hu => by
    have hj : j < n * sz := by have := (List.getElem?_eq_some_iff.1 hu).1; simpa [Builtin.zeroCells, h1] using this
    refine ⟨hj, ?_⟩
    simp only [Builtin.zeroCells, Array.toList_map, Array.toList_range, h1, List.getElem?_map, List.getElem?_range hj, Option.map_some, Option.some.injEq] at hu
    have hlt : j % sz < zv.cells.size := by rw [h1]; exact Nat.mod_lt _ hT.pos
    rw [getElem!_pos zv.cells (j % sz) hlt] at hu
    rw [← hu]
    simp [hlt]
   have hzlen : (Builtin.zeroCells zv.cells n).toList.length = n * sz := by simp [Builtin.zeroCells, h1]
   have hone : ∀ v, v ∈ (Builtin.zeroCells zv.cells n).toList → v.oneCell' = true := fun u hu => by
    obtain ⟨j, hj⟩ := List.mem_iff_getElem?.1 hu
    exact hT.one hi hzv u (List.mem_of_getElem? (hget j u hj).2)
   have hst := run_storeCells_at P b (o * sz) e (Builtin.zeroCells zv.cells n).toList 0 cs.toArray w hh (by rw [hzlen]; simp; omega) hone
   rw [Nat.add_zero, hzlen] at hst
   have hs : ∀ y, y ∈ es.take o ++ List.replicate n z → y.cells.length = sz := fun y hy => by
    rcases List.mem_append.1 hy with hy | hy
    ·exact g1 y (List.mem_of_mem_take hy)
    ·rw [(List.mem_replicate.1 hy).2]; exact hdl
   have hto : (es.take o).length = o := by rw [List.length_take]; omega
   have hlen : (es.take o ++ List.replicate n z).length = es.length := by rw [List.length_append, hto, List.length_replicate]; exact hn
   have hA : After F s.M w F (upd s.M id (some (.row b cb e sz (es.take o ++ List.replicate n z)))) (w.setRow b (cs.take (o * sz) ++ (Builtin.zeroCells zv.cells n).toList ++ cs.drop (o * sz + n * sz)).toArray) := by
    refine After.set_block hr.sim hM ⟨by omega, rfl⟩ (fun k hk => hk.2) hh fun w' hw' => ⟨by rw [hlen]; exact g0, hs, fun _ => ⟨_, hw', ?_, fun v hv => ?_, fun j d u hjd hju => ?_⟩⟩
    ·rw [List.length_append, List.length_append, List.length_take, List.length_drop, hzlen]; omega
    ·rcases List.mem_append.1 hv with hv | hv
     ·rcases List.mem_append.1 hv with hv | hv
      ·exact c1 v (List.mem_of_mem_take hv)
      ·exact hone v hv
     ·exact c1 v (List.mem_of_mem_drop hv)
    ·rw [List.flatMap_append] at hjd
     have hfo : ((es.take o).flatMap D.cells).length = o * sz := by rw [flat_length fun y hy => g1 y (List.mem_of_mem_take hy), hto]
     rcases Nat.lt_or_ge j (o * sz) with hj | hj
     ·rw [List.getElem?_append_left (by rw [hfo]; exact hj)] at hjd
      rw [List.append_assoc, List.getElem?_append_left (by rw [List.length_take]; omega), List.getElem?_take_of_lt hj] at hju
      refine c2 j d u ?_ hju
      obtain ⟨r, hr2⟩ := flat_take (es := es) o
      rw [hr2, List.getElem?_append_left (by rw [hfo]; exact hj)]
      exact hjd
     ·rw [List.getElem?_append_right (by rw [hfo]; exact hj), hfo] at hjd
      have hsr : ∀ y, y ∈ List.replicate n z → y.cells.length = sz := fun y hy => by rw [(List.mem_replicate.1 hy).2]; exact hdl
      have hjn : j - o * sz < n * sz := by
       have := (List.getElem?_eq_some_iff.1 hjd).1
       rwa [flat_length hsr, List.length_replicate] at this
      rw [List.append_assoc, List.getElem?_append_right (by rw [List.length_take]; omega), List.length_take, Nat.min_eq_left (by omega), List.getElem?_append_left (by rw [hzlen]; exact hjn)] at hju
      obtain ⟨_, hzu⟩ := hget _ u hju
      have hq : (j - o * sz) / sz < n := Nat.div_lt_of_lt_mul (by rw [Nat.mul_comm sz n]; exact hjn)
      have hmod : (j - o * sz) % sz < sz := Nat.mod_lt _ hT.pos
      have hg := flat_get hsr (i := (j - o * sz) / sz) (e := z) (by rw [List.getElem?_replicate, if_pos hq]) ((j - o * sz) % sz) hmod
      rw [Nat.mul_comm, Nat.div_add_mod] at hg
      rw [hg] at hjd
      obtain ⟨x', hx2, hvc⟩ := hc.get _ _ hjd
      rw [← z1, List.getElem?_map, hzu] at hx2
      simp only [Option.map_some, Option.some.injEq] at hx2
      rw [← hx2] at hvc
      exact (hvc F u (absV_sim F u)).1
   refine clear_exec (o := ⟨dst, .call { callee := .builtin .clear, args := #[x], argTypes := #[t] }, ty, pos, after, none⟩) (v := .tuple #[]) rfl ?_ ⟨F, _, hr.after_put hA hd (.tup (us := []) rfl fun i c u h => by simp at h), h⟩
   rw [hax]
   have e2 : (zeroValue e).run P w = .ok zv w := by simp [zeroValue, typeInfo, hi, hzv]
   obtain ⟨m, rfl⟩ : ∃ m, n = m + 1 := ⟨n - 1, by omega⟩
   simp [Builtin.clear_, run_underlying hT.u, e2, hst]
end
end Go.AL

/-
  Walks of the list of paths, part 1: the heap of beginnings (printed by mk2.py).
-/
import Derived.Test.YtonndaibggjmjaaGreatKVitC
import Derived.Test.YtonndaibggjmjaaGreatKAlg36
import Derived.Test.YtonndaibggjmjaaGreatKMod63
set_option linter.unusedVariables false
set_option linter.unusedSimpArgs false
namespace Go.Proofs.YtonndaibggjmjaaGreat
open Go Go.AL
abbrev dPrt (p : Prt) : D := .ag [dB (ofQ p.best).neg, u32s (ofQ p.best).num, u32s (ofQ p.best).den, dB (ofQ p.so).neg, u32s (ofQ p.so).num, u32s (ofQ p.so).den, ints p.path]
abbrev cellsP (p : Prt) : List V := [.d (dB (ofQ p.best).neg), .d (u32s (ofQ p.best).num), .d (u32s (ofQ p.best).den), .d (dB (ofQ p.so).neg), .d (u32s (ofQ p.so).num), .d (u32s (ofQ p.so).den), .d (ints p.path)]
abbrev vPrt (p : Prt) : V := .ag (cellsP p)
abbrev d0P : Prt := ⟨0, 0, []⟩
abbrev rowP (q c : Nat) (ps : List Prt) : Blk := .row q c T.part 7 (ps.map dPrt)
abbrev hpL (b q c n : Nat) (ps : List Prt) : List (Nat × Blk) := [(1000, .box b T.heap [.osl 1001 q n c]), (1001, rowP q c ps)]
def hpM (b q c n : Nat) (ps : List Prt) : Mem := lk none ((hpL b q c n ps).map fun p => (p.1, some p.2))
theorem hpM_none {b q c n q2 c2 n2 : Nat} {ps ps2 : List Prt} (id : Nat) (h : hpM b q c n ps id = none) : hpM b q2 c2 n2 ps2 id = none := by
 unfold hpM at *
 simp only [hpL, List.map_cons, List.map_nil, lk] at h ⊢
 repeat (split at h; · cases h)
 simp only [*, if_false]
theorem hpM_iff {b q c n q2 c2 n2 : Nat} {ps ps2 : List Prt} (id : Nat) : hpM b q c n ps id = none ↔ hpM b q2 c2 n2 ps2 id = none := ⟨hpM_none id, hpM_none id⟩
abbrev vHp (b : Nat) : V := .ifc T.pheap (.ptr 1000 b 0)
def SzP (ps : List Prt) : Prop := ∀ p, p ∈ ps → sz p.best ≤ 34359738368 ∧ p.path.length ≤ 1024
theorem SzP.get {ps : List Prt} (h : SzP ps) {i : Nat} (hi : i < ps.length) : sz (ps.getD i d0P).best ≤ 34359738368 ∧ (ps.getD i d0P).path.length ≤ 1024 := h _ (getD_mem hi d0P)
theorem SzP.perm {l ps : List Prt} (h : SzP ps) (e : l.Perm ps) : SzP l := fun p hp => h p (e.mem_iff.1 hp)
theorem mv_Len : MethV P T.pheap T.heap "Len" F.viterbi_parts_Len := ⟨by kernel_rfl, by kernel_rfl⟩
theorem mv_Less : MethV P T.pheap T.heap "Less" F.viterbi_parts_Less := ⟨by kernel_rfl, by kernel_rfl⟩
theorem mv_Swap : MethV P T.pheap T.heap "Swap" F.viterbi_parts_Swap := ⟨by kernel_rfl, by kernel_rfl⟩
theorem mp_Push : MethP P T.pheap "Push" F.viterbi_parts_Push := ⟨by kernel_rfl, by kernel_rfl⟩
theorem mp_Pop : MethP P T.pheap "Pop" F.viterbi_parts_Pop := ⟨by kernel_rfl, by kernel_rfl⟩
theorem rowP_el {ps : List Prt} {i : Nat} (hi : i < ps.length) : (ps.map dPrt)[i]? = some (dPrt (ps.getD i d0P)) := by rw [List.getElem?_map, List.getD_eq_getElem?_getD, List.getElem?_eq_getElem hi]; rfl
theorem vd_prt {p : Prt} : VD (vPrt p) (dPrt p) := VD.ag (.cons (VC.d _) (.cons (VC.d _) (.cons (VC.d _) (.cons (VC.d _) (.cons (VC.d _) (.cons (VC.d _) (.cons (VC.d _) .nil)))))))
theorem half_up {j : Nat} (hj : j ≤ 4611686018427387904) : bin .quo (.int .i64 ((j : Int) - 1)) (.int .i64 2) = some (.int .i64 (((j - 1) / 2 : Nat) : Int)) := by
 cases j with
 | zero =>
  show bin .quo (.int .i64 (-1)) (.int .i64 2) = some (.int .i64 0)
  simp only [bin, true_and]
  rw [if_pos (by decide), show Int.tdiv (-1) 2 = 0 by decide, wrap_i64 ⟨by decide, by decide⟩]
 | succ j => exact quoN j 2 (by omega) (by omega) (by decide)
theorem swp_map {ps : List Prt} {i j : Nat} : ((ps.map dPrt).set i (dPrt (ps.getD j d0P))).set j (dPrt (ps.getD i d0P)) = (swpL d0P ps i j).map dPrt := by
 unfold swpL
 rw [List.map_set, List.map_set]
def cmpI (a b : Int) : Int := if a < b then -1 else if b < a then 1 else 0
theorem cmpL_drop {l m : List Int} {i : Nat} (h1 : i < l.length) (h2 : i < m.length) : cmpL (l.drop i) (m.drop i) = if cmpI (l.getD i 0) (m.getD i 0) = 0 then cmpL (l.drop (i + 1)) (m.drop (i + 1)) else cmpI (l.getD i 0) (m.getD i 0) := by
 have e1 : l.getD i 0 = l[i] := by rw [List.getD_eq_getElem?_getD, List.getElem?_eq_getElem h1]; rfl
 have e2 : m.getD i 0 = m[i] := by rw [List.getD_eq_getElem?_getD, List.getElem?_eq_getElem h2]; rfl
 rw [List.drop_eq_getElem_cons h1, List.drop_eq_getElem_cons h2, cmpL, e1, e2]
 unfold cmpI
 by_cases a : l[i] < m[i]
 ·rw [if_pos a, if_pos a, if_neg (by decide)]
 ·rw [if_neg a, if_neg a]
  by_cases b : m[i] < l[i]
  ·rw [if_pos b, if_pos b, if_neg (by decide)]
  ·rw [if_neg b, if_neg b, if_pos rfl]
theorem cmp_isNaN_int {x : Int} : FSpec P F.cmp_isNaN_int [.d (dI x)] (.d (dB false)) := by
 refine FSpec.intro fn.cmp_isNaN_int (by rfl) (by rfl) (nb9 (by rfl)) fun E hE => (AW.sg hE rfl (asD rfl (OL.nil (AW.sg hE rfl (mvD rfl (mvD rfl (c_neq rfl rfl rfl ?_)))))))
 exact asD rfl (OL.nil (AW.ret (RetQ.r ⟨_, .tmp rfl .nil, .le (VLe.bool (by simp_all))⟩)))
theorem cmp_Compare_int {x y : Int} : FSpec P F.cmp_Compare_int [.d (dI x), .d (dI y)] (.d (dI (cmpI x y))) := by
 refine FSpec.intro fn.cmp_Compare_int (by rfl) (by rfl) (nb9 (by rfl)) fun E hE => (AW.sg hE rfl (asD rfl (OL.nil (AW.sg hE rfl (mvD rfl (clv rfl (.cons (VLe.refl _) (.nil)) (cmp_isNaN_int) (asD rfl ?_)))))))
 refine OL.nil (AW.sg hE rfl (mvD rfl (clv rfl (.cons (VLe.refl _) (.nil)) (cmp_isNaN_int) (asD rfl (OL.nil (AW.seq (AW.sg hE rfl ?_)))))))
 refine mvD rfl (OL.nil (AW.cond rfl (fun hno => absurd hno (by decide)) (fun _ => ?_)))
 refine AW.skip (AW.seq (AW.sg hE rfl (mvD rfl (OL.nil (AW.cond rfl (fun hno => absurd hno (by decide)) (fun _ => ?_))))))
 refine AW.skip (AW.seq (AW.sg hE rfl (mvD rfl (mvD rfl (c_lss rfl rfl rfl (OL.nil (AW.cond rfl (fun h1 => ?_) (fun h1 => ?_))))))))
 ·have h1 := of_decide_eq_true h1
  exact AW.sg hE rfl (asD rfl (OL.nil (AW.ret (RetQ.r ⟨_, .tmp rfl .nil, .le (VLe.int ((if_pos h1).symm))⟩))))
 ·have h1 := of_decide_eq_false h1
  refine AW.skip (AW.seq (AW.sg hE rfl (mvD rfl (mvD rfl (c_gtr rfl rfl rfl (OL.nil (AW.cond rfl (fun h2 => ?_) (fun h2 => ?_))))))))
  ·have h2 := of_decide_eq_true h2
   exact AW.sg hE rfl (asD rfl (OL.nil (AW.ret (RetQ.r ⟨_, .tmp rfl .nil, .le (VLe.int (by unfold cmpI; rw [if_neg h1, if_pos h2]))⟩))))
  ·have h2 := of_decide_eq_false h2
   exact AW.skip (AW.sg hE rfl (asD rfl (OL.nil (AW.ret (RetQ.r ⟨_, .tmp rfl .nil, .le (VLe.int (by unfold cmpI; rw [if_neg h1, if_neg h2]))⟩)))))
theorem compare_ints {l m : List Int} (nl : l.length ≤ 1099511627776) : FSpec P F.slices_Compare_ints_int [.d (ints l), .d (ints m)] (.d (dI (cmpL l m))) := by
 refine FSpec.intro fn.slices_Compare_ints_int (by rfl) (by rfl) (nb9 (by rfl)) fun E hE => (AW.sg hE rfl (asD rfl (OL.nil (AW.seq (AW.sg hE rfl (mvD rfl (lnL sl.ints rfl rfl ?_)))))))
 refine mvD rfl (OL.nil (AW.block ?_))
 refine AW.whileK (α := Nat) [(0, _), (1, _), (9, _), (10, _)] [] (fun i => [(11, .d (dI i))]) (fun i => []) (fun i => i ≤ l.length ∧ i ≤ m.length ∧ cmpL l m = cmpL (l.drop i) (m.drop i)) (fun i => l.length - i) 0 (.cons (knD rfl) (.cons (knD rfl) (.cons (knD rfl) (.cons (knD rfl) .nil)))) .nil ⟨⟨Nat.zero_le _, Nat.zero_le _, rfl⟩, .rq1, .nil⟩ ?_
 rintro i ⟨h1, h2, h3⟩
 have h1 : i ≤ l.length := h1
 have h2 : i ≤ m.length := h2
 have h3 : cmpL l m = cmpL (l.drop i) (m.drop i) := h3
 refine AW.sg hE rfl (c_lss rfl rfl rfl (OL.nil (AW.seq (AW.cond rfl (fun h12 => ?_) (fun h12 => ?_)))))
 ·try simp only [dx9] at h12
  refine AW.skip (AW.seq (AW.block (AW.sg hE rfl (mvD rfl (ixLn sl.ints 0 rfl rfl (by omega) rfl rfl (ldRC ce.int rfl (asD rfl ?_)))))))
  refine asD rfl (OL.nil (AW.seq (AW.sg hE rfl (mvD rfl (mvD rfl (lnL sl.ints rfl rfl (c_geq rfl rfl rfl ?_)))))))
  refine OL.nil (AW.cond rfl (fun hm => ?_) (fun hm => ?_))
  ·have hm : m.length ≤ i := by have := of_decide_eq_true hm; omega
   exact AW.sg hE rfl (asD rfl (OL.nil (AW.ret (RetQ.r ⟨_, .tmp rfl .nil, .le (VLe.int (by rw [h3, List.drop_eq_nil_of_le hm, List.drop_eq_getElem_cons (show i < l.length by omega), cmpL]))⟩))))
  ·have hm : i < m.length := by have := of_decide_eq_false hm; omega
   refine AW.skip (AW.sg hE rfl (mvD rfl (mvD rfl (ixLn sl.ints 0 rfl rfl (by omega) rfl rfl (ldRC ce.int rfl (asD rfl (OL.nil ?_)))))))
   refine AW.sg hE rfl (mvD rfl (mvD rfl (clv rfl (.cons (VLe.refl _) (.cons (VLe.refl _) (.nil))) (cmp_Compare_int) (asD rfl (OL.nil (AW.sg hE rfl (mvD rfl ?_)))))))
   refine c_neq rfl rfl rfl (OL.nil (AW.cond rfl (fun hc => ?_) (fun hc => ?_)))
   ·have hc := nd_t hc
    exact AW.sg hE rfl (mvD rfl (asD rfl (OL.nil (AW.ret (RetQ.r ⟨_, .tmp rfl .nil, .le (VLe.int (by rw [h3, cmpL_drop (by omega) hm, if_neg hc]))⟩)))))
   ·have hc := nd_f hc
    exact AW.skip (AW.rg hE rfl (add_i64 rfl rfl (by omega) (mvD rfl (OL.nil (AW.again (x := i) (i + 1) (by omega) ⟨⟨by omega, by omega, by rw [h3, cmpL_drop (by omega) (by omega), if_pos hc]⟩, Knows.app .rq4 .rq1, .nil⟩)))))
 ·try simp only [dx9] at h12
  refine AW.exit (AW.seq (AW.sg hE rfl (mvD rfl (lnL sl.ints rfl rfl (mvD rfl (lnL sl.ints rfl rfl (c_lss rfl rfl rfl ?_)))))))
  refine OL.nil (AW.cond rfl (fun hl => ?_) (fun hl => ?_))
  ·have hl : l.length < m.length := by have := of_decide_eq_true hl; omega
   exact AW.sg hE rfl (asD rfl (OL.nil (AW.ret (RetQ.r ⟨_, .tmp rfl .nil, .le (VLe.int (by rw [h3, List.drop_eq_nil_of_le (show l.length ≤ i by omega), List.drop_eq_getElem_cons (show i < m.length by omega), cmpL]))⟩))))
  ·have hl : m.length ≤ l.length := by have := of_decide_eq_false hl; omega
   exact AW.skip (AW.sg hE rfl (asD rfl (OL.nil (AW.ret (RetQ.r ⟨_, .tmp rfl .nil, .le (VLe.int (by rw [h3, List.drop_eq_nil_of_le (show l.length ≤ i by omega), List.drop_eq_nil_of_le (show m.length ≤ i by omega), cmpL]))⟩)))))
theorem clone_intsR {l : List Int} (nl : l.length ≤ 1099511627776) : FSpecR P F.slices_Clone_ints_int [.d (ints l)] l.length T.int 1 (l.map dI) := by
 refine FSpecR.intro fn.slices_Clone_ints_int (by rfl) (by rfl) (nb9 (by rfl)) 2 rfl fun E hE => (AW.sg hE rfl (asM rfl (OL.nil (AW.seq (AW.sg hE rfl (mvD rfl (isNil sl.ints.u rfl (fun y hy => by obtain ⟨a, _, rfl⟩ := List.mem_map.1 hy; exact Nat.succ_pos _) rfl fun b hb => ?_)))))))
 refine OL.nil (AW.cond rfl (fun h => ?_) (fun h => ?_))
 ·have hL : l = [] := by have := hb h; simpa using this
  subst hL
  exact AW.sg hE rfl (asM rfl (OL.nil (AW.own 2 99 T.int 1 rfl rfl (AW.ret ⟨.inr rfl, 99, 0, 0, [], rfl, rfl, Nat.le_refl _, rfl⟩))))
 ·have _h := h
  exact AW.skip (AW.sg hE rfl (lt0 sl.ints (mvD rfl (apM sl.ints rfl rfl (VC.d _) dI_len (by simp; omega) (by simp; omega) rfl fun b7 c7 => (asO rfl (OL.nil (AW.ret ⟨.inr rfl, 7, b7, c7, l.map dI, by show V.osl 7 b7 (List.map dI l).length c7 = _; rw [List.length_map], rfl, by rw [List.length_map]; exact Nat.le_refl _, List.take_of_length_le (by rw [List.length_map]; exact Nat.le_refl _)⟩)))))))
theorem parts_Len {q n c : Nat} : FSpec P F.viterbi_parts_Len [.osl 1001 q n c] (.d (dI n)) := by
 refine FSpec.intro fn.viterbi_parts_Len (by rfl) (by rfl) (nb9 (by rfl)) fun E hE => (AW.sg hE rfl (asD rfl (OL.nil (AW.sg hE rfl (mvO rfl (lnO sl.heap rfl rfl (asD rfl ?_)))))))
 exact OL.nil (AW.ret (RetQ.r ⟨_, .tmp rfl .nil, .le (VLe.refl _)⟩))
theorem parts_Less {q n c i j : Nat} {ps : List Prt} (hn : n = ps.length) (hi : i < n) (hj : j < n) (hz : SzP ps) : FSpecM P F.viterbi_parts_Less [.osl 1001 q n c, .d (dI i), .d (dI j)] (mem1 1001 (rowP q c ps)) (.d (dB (decide (ltP (ps.getD i d0P) (ps.getD j d0P))))) (mem1 1001 (rowP q c ps)) := by
 have zi := hz.get (show i < ps.length by omega)
 have zj := hz.get (show j < ps.length by omega)
 refine FSpecM.intro fn.viterbi_parts_Less (by rfl) (by rfl) (nb9 (by rfl)) fun E hE => (AW.sg hE rfl (asD rfl (OL.nil (AW.seq (AW.seq (AW.dg 1 [0,1,2,3,4,5,6,7,8,9,10,11] order_free hE rfl (by kernel_rfl) (OI.of_OL (os := [_,_,_,_,_,_,_,_,_,_,_,_]) rfl ?_)))))))
 refine mvO rfl (mvD rfl (ixOn sl.heap rfl rfl hi (faE fd.part_0 rfl rfl (ldEA ag.Rat (by decide) rfl rfl (rowP_el (show i < ps.length by omega)) (vs := cellsQ (ps.getD i d0P).best) rfl (nb9 rfl) (mvO rfl (mvD rfl (ixOn sl.heap rfl rfl hj ?_)))))))
 refine faE fd.part_0 rfl rfl (ldEA ag.Rat (by decide) rfl rfl (rowP_el (show j < ps.length by omega)) (vs := cellsQ (ps.getD j d0P).best) rfl (nb9 rfl) (clv rfl (.cons (VLe.refl _) (.cons (VLe.refl _) (.nil))) (rational_CompareQ (x := (ps.getD i d0P).best) (y := (ps.getD j d0P).best) (by omega) (by omega)) (asD rfl (OL.nil (AW.sg hE rfl (mvD rfl (c_neq rfl rfl rfl ?_)))))))
 refine OL.nil (AW.cond rfl (fun hc => ?_) (fun hc => ?_))
 ·have hc := nd_t hc
  exact AW.sg hE rfl (mvD rfl (c_gtr rfl rfl rfl (asD rfl (OL.nil (AW.ret ⟨⟨_, .tmp rfl .nil, .le (VLe.bool (decide_eq_decide.2 ⟨fun e => .inl (cmpQ_gt.1 e), fun e => cmpQ_gt.2 (e.resolve_right fun k => hc (cmpQ_eq.2 k.1))⟩))⟩, mem1_keep rfl⟩)))))
 ·have hc := nd_f hc
  refine AW.skip (AW.seq (AW.dg 1 [0,1,2,3,4,5,6,7,8,9,10,11,12] order_free hE rfl (by kernel_rfl) (OI.of_OL (os := [_,_,_,_,_,_,_,_,_,_,_,_,_]) rfl ?_)))
  refine mvO rfl (mvD rfl (ixOn sl.heap rfl rfl hi (faE fd.part_2 rfl rfl (ldEC ce.ints (by decide) rfl rfl (rowP_el (show i < ps.length by omega)) rfl (mvO rfl (mvD rfl (ixOn sl.heap rfl rfl hj ?_)))))))
  exact faE fd.part_2 rfl rfl (ldEC ce.ints (by decide) rfl rfl (rowP_el (show j < ps.length by omega)) rfl (clv rfl (.cons (VLe.refl _) (.cons (VLe.refl _) (.nil))) (compare_ints (l := (ps.getD i d0P).path) (m := (ps.getD j d0P).path) (by omega)) (c_lss rfl rfl rfl (asD rfl (OL.nil (AW.ret ⟨⟨_, .tmp rfl .nil, .le (VLe.bool (decide_eq_decide.2 ⟨fun e => .inr ⟨cmpQ_eq.1 hc, e⟩, fun e => (e.resolve_left fun k => by rw [cmpQ_eq.1 hc] at k; exact absurd k Rat.lt_irrefl).2⟩))⟩, mem1_keep rfl⟩))))))
theorem parts_Swap {q n c i j : Nat} {ps : List Prt} (hn : n = ps.length) (hi : i < n) (hj : j < n) : FSpecM P F.viterbi_parts_Swap [.osl 1001 q n c, .d (dI i), .d (dI j)] (mem1 1001 (rowP q c ps)) (.tup []) (mem1 1001 (rowP q c (swpL d0P ps i j))) := by
 refine FSpecM.intro fn.viterbi_parts_Swap (by rfl) (by rfl) (nb9 (by rfl)) fun E hE => (AW.dg 1 [0,1,2,3,4,5,6,7,8,9,10,11,12,13,14,15] order_free hE rfl (by kernel_rfl) (OI.of_OL (os := [_,_,_,_,_,_,_,_,_,_,_,_,_,_,_,_]) rfl ?_))
 refine mvO rfl (mvD rfl (mvO rfl (mvD rfl (mvO rfl (mvD rfl (ixOn sl.heap rfl rfl hj (ldEA ag.part (by decide) rfl rfl (rowP_el (show j < ps.length by omega)) (vs := cellsP (ps.getD j d0P)) rfl (nb9 rfl) ?_)))))))
 refine mvO rfl (mvD rfl (ixOn sl.heap rfl rfl hi (ldEA ag.part (by decide) rfl rfl (rowP_el (show i < ps.length by omega)) (vs := cellsP (ps.getD i d0P)) rfl (nb9 rfl) (ixOn sl.heap rfl rfl hi (stE sz.part rfl (d := dPrt (ps.getD j d0P)) vd_prt rfl rfl (by rw [List.length_map]; omega) rfl (ixOn sl.heap rfl rfl hj (stE sz.part rfl (d := dPrt (ps.getD i d0P)) vd_prt rfl rfl (by rw [List.length_set, List.length_map]; omega) swp_map ?_)))))))
 exact OL.nil (⟨⟨[], .nil, [], .nil, rfl⟩, mem1_keep rfl⟩)
theorem heap_up {b q c : Nat} {ps : List Prt} {j : Nat} (hj : j < ps.length) (hu : UpInv ltP d0P ps.length ps j) (hz : SzP ps) (hN : ps.length ≤ 1000000) : FSpecE P F.container_heap_up [vHp b, .d (dI j)] (hpM b q c ps.length ps) (fun _ : List Prt => .tup []) (fun l => hpM b q c ps.length l) (fun l => l.Perm ps ∧ HeapN ltP d0P ps.length l) := by
 refine FSpecE.intro fn.container_heap_up (by rfl) (by rfl) (nb9 (by rfl)) fun E hE => (AW.block ?_)
 refine AW.whileK (α := Nat × List Prt) [(0, _)] [] (fun (i, l) => [(1, .d (dI i))]) (fun (i, l) => [(1000, .box b T.heap [.osl 1001 q ps.length c]), (1001, rowP q c l)]) (fun (i, l) => i < ps.length ∧ l.Perm ps ∧ UpInv ltP d0P ps.length l i) (fun (i, l) => i) (j, ps) (.cons (knI rfl) .nil) .nil ⟨⟨hj, List.Perm.refl _, hu⟩, .rq1, .cons rfl (.cons rfl .nil)⟩ ?_
 rintro ⟨i, l⟩ ⟨h1, hp, hul⟩
 have h1 : i < ps.length := h1
 have hp : l.Perm ps := hp
 have hul : UpInv ltP d0P ps.length l i := hul
 have hln := hp.length_eq
 have hzl := hz.perm hp
 refine AW.block (AW.sg hE rfl (mvD rfl (sub_i64 rfl rfl (by omega) (bo rfl rfl (half_up (by omega)) (asD rfl (OL.nil (AW.seq ?_)))))))
 refine AW.sg hE rfl (mvD rfl (mvD rfl (c_eql rfl rfl rfl (OL.split 10 rfl (fun h0 => ?_) (fun h0 => ?_)))))
 ·have h0 : i = 0 := by have := of_decide_eq_true h0; omega
  refine mvD rfl (OL.nd rfl (OL.nd rfl (OL.nd rfl (OL.nd rfl (OL.nd rfl (pkT rfl rfl (OL.nil ?_)))))))
  refine AW.cond rfl (fun _ => ?_) (fun hno => absurd hno (by decide))
  exact AW.exit (⟨l, ⟨hp, up_done hul (.inl h0)⟩, ⟨[], .nil, [], .nil, rfl⟩, fun id blk hk => lk_own (l := hpL b q c ps.length l) (.cons rfl (.cons rfl trivial)) id blk hk⟩)
 ·have h0 : 0 < i := by have := of_decide_eq_false h0; omega
  refine mvD rfl (OL.yes rfl (mvI rfl (OL.yes rfl (mvD rfl (OL.yes rfl (mvD rfl (OL.yes rfl ?_)))))))
  refine clIM (args' := [.osl 1001 q ps.length c, .d (dI i), .d (dI ((i - 1) / 2 : Nat))]) (.v (t := T.pheap) (e := T.heap) rfl mv_Less ce.heap rfl) (VLes.refl _) (mem1_keep rfl) mem1_sub (parts_Less (i := i) (j := ((i - 1) / 2 : Nat)) hln.symm (by omega) (by omega) hzl) ?_
  refine OL.yes rfl (nt rfl (pkF rfl rfl (OL.nil (AW.cond rfl (fun hl => ?_) (fun hl => ?_)))))
  ·have hl : ¬ ltP (l.getD i d0P) (l.getD ((i - 1) / 2) d0P) := nd_t hl
   exact AW.exit (⟨l, ⟨hp, up_done hul (.inr hl)⟩, ⟨[], .nil, [], .nil, rfl⟩, fun id blk hk => lk_own (l := hpL b q c ps.length l) (.cons rfl (.cons rfl trivial)) id blk hk⟩)
  ·have hlt : ltP (l.getD i d0P) (l.getD ((i - 1) / 2) d0P) := nd_f hl
   refine AW.skip (AW.sg hE rfl (mvI rfl (mvD rfl (mvD rfl ?_))))
   refine clIM (args' := [.osl 1001 q ps.length c, .d (dI ((i - 1) / 2 : Nat)), .d (dI i)]) (.v (t := T.pheap) (e := T.heap) rfl mv_Swap ce.heap rfl) (VLes.refl _) (mem1_keep rfl) mem1_sub (parts_Swap (i := ((i - 1) / 2 : Nat)) (j := i) hln.symm (by omega) (by omega)) ?_
   refine OL.nil (AW.rg hE rfl (mvD rfl (asD rfl (OL.nil ?_))))
   exact AW.again (x := (i, l)) ((i - 1) / 2, swpL d0P l ((i - 1) / 2) i) (by simp only []; omega) ⟨⟨by omega, (swpL_perm (by omega) (by omega) (by omega)).trans hp, up_step ltP_weak hul (by omega) (by omega) h1 hlt⟩, Knows.app .rq1 .rq1, .cons rfl (.cons rfl .nil)⟩
set_option maxRecDepth 4000 in
set_option maxHeartbeats 1600000 in
theorem heap_down {b q c n : Nat} {ps : List Prt} (hn : n ≤ ps.length) (hu : DownInv ltP d0P n ps 0) (hz : SzP ps) (hN : ps.length ≤ 1000000) : FSpecE P F.container_heap_down [vHp b, .d (dI 0), .d (dI n)] (hpM b q c ps.length ps) (fun _ : List Prt => .junk) (fun l => hpM b q c ps.length l) (fun l => l.Perm ps ∧ HeapN ltP d0P n l ∧ ∀ k, n ≤ k → l.getD k d0P = ps.getD k d0P) := by
 refine FSpecE.intro fn.container_heap_down (by rfl) (by rfl) (nb9 (by rfl)) fun E hE => (AW.sg hE rfl (asD rfl (OL.nil (AW.sg hE rfl (mvD rfl (asD rfl (OL.nil ?_)))))))
 refine AW.seq (AW.block ?_)
 refine AW.whileK (α := Nat × List Prt) [(0, _), (1, _), (2, _), (6, _)] [] (fun (i, l) => [(7, .d (dI i))]) (fun (i, l) => [(1000, .box b T.heap [.osl 1001 q ps.length c]), (1001, rowP q c l)]) (fun (i, l) => i ≤ n ∧ l.Perm ps ∧ DownInv ltP d0P n l i ∧ ∀ k, n ≤ k → l.getD k d0P = ps.getD k d0P) (fun (i, l) => n - i) (0, ps) (.cons (knI rfl) (.cons (knD rfl) (.cons (knD rfl) (.cons (knD rfl) .nil)))) .nil ⟨⟨Nat.zero_le _, List.Perm.refl _, hu, fun _ _ => rfl⟩, .rq1, .cons rfl (.cons rfl .nil)⟩ ?_
 rintro ⟨i, l⟩ ⟨h1, hp, hul, htl⟩
 have h1 : i ≤ n := h1
 have hp : l.Perm ps := hp
 have hul : DownInv ltP d0P n l i := hul
 have htl : ∀ k, n ≤ k → l.getD k d0P = ps.getD k d0P := htl
 have hln := hp.length_eq
 have hzl := hz.perm hp
 refine AW.block (AW.sg hE rfl (mvD rfl (bo rfl rfl (bin_mul (c := ((2 * i : Nat) : Int)) (by omega) (wrap_i64 (by omega))) (bo rfl rfl (bin_add (c := ((2 * i + 1 : Nat) : Int)) (by omega) (wrap_i64 (by omega))) (asD rfl (OL.nil (AW.seq ?_)))))))
 refine AW.sg hE rfl (mvD rfl (mvD rfl (c_geq rfl rfl rfl (OL.split 17 rfl (fun h2 => ?_) (fun h2 => ?_)))))
 ·have h2 : n ≤ 2 * i + 1 := by have := of_decide_eq_true h2; omega
  refine mvD rfl (OL.nd rfl (OL.nd rfl (pkT rfl rfl (OL.nil (AW.cond rfl (fun _ => ?_) (fun hno => absurd hno (by decide)))))))
  exact AW.exit (AW.sg hE rfl (mvD rfl (mvD rfl (c_gtr rfl rfl rfl (asD rfl (OL.nil (AW.ret ⟨l, ⟨hp, down_done hul (fun m m0 m1 m2 => by omega), htl⟩, ⟨_, .tmp rfl .nil, .le (VLe.junk _)⟩, fun id blk hk => lk_own (l := hpL b q c ps.length l) (.cons rfl (.cons rfl trivial)) id blk hk⟩)))))))
 ·have h2 : 2 * i + 1 < n := by have := of_decide_eq_false h2; omega
  refine mvD rfl (OL.yes rfl (mvD rfl (OL.yes rfl (c_lss rfl rfl (c := false) (by exact decide_eq_false (by omega)) (pkF rfl rfl (OL.nil (AW.cond rfl (fun hno => absurd hno (by decide)) (fun _ => ?_))))))))
  refine AW.skip (AW.sg hE rfl (mvD rfl (asD rfl (OL.nil ?_))))
  refine AW.midK (α := Nat) [(0, _), (1, _), (2, _), (6, _), (7, _)] [] (fun k => [(9, .d (dI k))]) (fun k => [(1000, .box b T.heap [.osl 1001 q ps.length c]), (1001, rowP q c l)]) (fun k => 0 < k ∧ k < n ∧ (k - 1) / 2 = i ∧ (∀ m, 0 < m → m < n → (m - 1) / 2 = i → ¬ ltP (l.getD m d0P) (l.getD k d0P))) (.cons (knI rfl) (.cons (knD rfl) (.cons (knD rfl) (.cons (knD rfl) (.cons (knD rfl) .nil))))) .nil ?_ ?_
  ·refine AW.sg hE rfl (mvD rfl (bo rfl rfl (bin_add (c := ((2 * i + 2 : Nat) : Int)) (by omega) (wrap_i64 (by omega))) (asD rfl (OL.nil ?_))))
   refine AW.midK (α := Bool) [(0, _), (1, _), (2, _), (6, _), (7, _), (9, _), (10, _)] [] (fun w => [(33, .d (dB w))]) (fun w => [(1000, .box b T.heap [.osl 1001 q ps.length c]), (1001, rowP q c l)]) (fun w => (w = true → 2 * i + 2 < n ∧ ltP (l.getD (2 * i + 2) d0P) (l.getD (2 * i + 1) d0P)) ∧ (w = false → 2 * i + 2 < n → ¬ ltP (l.getD (2 * i + 2) d0P) (l.getD (2 * i + 1) d0P))) (.cons (knI rfl) (.cons (knD rfl) (.cons (knD rfl) (.cons (knD rfl) (.cons (knD rfl) (.cons (knD rfl) (.cons (knD rfl) .nil))))))) .nil ?_ ?_
   ·refine AW.rg hE rfl (mvD rfl (mvD rfl (c_lss rfl rfl rfl (OL.split 27 rfl (fun h3 => ?_) (fun h3 => ?_)))))
    ·have h3 : 2 * i + 2 < n := by have := of_decide_eq_true h3; omega
     refine mvD rfl (OL.yes rfl (mvI rfl (OL.yes rfl (mvD rfl (OL.yes rfl (mvD rfl (OL.yes rfl ?_)))))))
     refine clIM (args' := [.osl 1001 q ps.length c, .d (dI (2 * i + 2 : Nat)), .d (dI (2 * i + 1 : Nat))]) (.v (t := T.pheap) (e := T.heap) rfl mv_Less ce.heap rfl) (VLes.refl _) (mem1_keep rfl) mem1_sub (parts_Less (i := (2 * i + 2 : Nat)) (j := (2 * i + 1 : Nat)) hln.symm (by omega) (by omega) hzl) ?_
     refine pkT rfl rfl (OL.nil ?_)
     exact AW.reach (decide (ltP (l.getD (2 * i + 2) d0P) (l.getD (2 * i + 1) d0P))) ⟨⟨fun e => ⟨h3, of_decide_eq_true e⟩, fun e _ => of_decide_eq_false e⟩, Knows.app .rq7 .rq1, .cons rfl (.cons rfl .nil)⟩
    ·have h3 : n ≤ 2 * i + 2 := by have := of_decide_eq_false h3; omega
     refine mvD rfl (OL.nd rfl (OL.nd rfl (OL.nd rfl (OL.nd rfl (pkF rfl rfl (OL.nil ?_))))))
     exact AW.reach false ⟨⟨fun e => (by cases e), fun _ e => absurd e (by omega)⟩, Knows.app .rq7 .rq1, .cons rfl (.cons rfl .nil)⟩
   rintro w ⟨hwt, hwf⟩
   refine AW.cond rfl (fun hw => ?_) (fun hw => ?_)
   ·have hwt := hwt hw
    refine AW.rg hE rfl (mvD rfl (asD rfl (OL.nil ?_)))
    exact AW.reach (2 * i + 2) ⟨⟨by omega, hwt.1, by omega, fun m m0 m1 m2 => by
      have : m = 2 * i + 1 ∨ m = 2 * i + 2 := by omega
      rcases this with rfl | rfl
      ·exact ltP_weak.asym _ _ hwt.2
      ·exact ltP_weak.irr _⟩, Knows.app .rq5 .rq1, .cons rfl (.cons rfl .nil)⟩
   ·have hwf := hwf hw
    refine AW.skip ?_
    exact AW.reach (2 * i + 1) ⟨⟨by omega, h2, by omega, fun m m0 m1 m2 => by
      have : m = 2 * i + 1 ∨ m = 2 * i + 2 := by omega
      rcases this with rfl | rfl
      ·exact ltP_weak.irr _
      ·exact hwf m1⟩, Knows.app .rq5 .rq1, .cons rfl (.cons rfl .nil)⟩
  rintro k hk
  have hk : 0 < k ∧ k < n ∧ (k - 1) / 2 = i ∧ (∀ m, 0 < m → m < n → (m - 1) / 2 = i → ¬ ltP (l.getD m d0P) (l.getD k d0P)) := hk
  obtain ⟨hk0, hkn, hki, _⟩ := id hk
  refine AW.seq (AW.sg hE rfl (mvI rfl (mvD rfl (mvD rfl (clIM (args' := [.osl 1001 q ps.length c, .d (dI k), .d (dI i)]) (.v (t := T.pheap) (e := T.heap) rfl mv_Less ce.heap rfl) (VLes.refl _) (mem1_keep rfl) mem1_sub (parts_Less (i := k) (j := i) hln.symm (by omega) (by omega) hzl) (nt rfl (OL.nil ?_)))))))
  refine AW.cond rfl (fun hl => ?_) (fun hl => ?_)
  ·have hl : ¬ ltP (l.getD k d0P) (l.getD i d0P) := nd_t hl
   exact AW.exit (AW.sg hE rfl (mvD rfl (mvD rfl (c_gtr rfl rfl rfl (asD rfl (OL.nil (AW.ret ⟨l, ⟨hp, down_done hul (fun m m0 m1 m2 => ltP_weak.trans _ _ _ (hk.2.2.2 m m0 m1 m2) hl), htl⟩, ⟨_, .tmp rfl .nil, .le (VLe.junk _)⟩, fun id blk hk => lk_own (l := hpL b q c ps.length l) (.cons rfl (.cons rfl trivial)) id blk hk⟩)))))))
  ·have hl : ltP (l.getD k d0P) (l.getD i d0P) := nd_f hl
   refine AW.skip (AW.sg hE rfl (mvI rfl (mvD rfl (mvD rfl (clIM (args' := [.osl 1001 q ps.length c, .d (dI i), .d (dI k)]) (.v (t := T.pheap) (e := T.heap) rfl mv_Swap ce.heap rfl) (VLes.refl _) (mem1_keep rfl) mem1_sub (parts_Swap (i := i) (j := k) hln.symm (by omega) (by omega)) (OL.nil (AW.rg hE rfl ?_)))))))
   refine mvD rfl (asD rfl (OL.nil ?_))
   exact AW.again (x := (i, l)) (k, swpL d0P l i k) (by simp only []; omega) ⟨⟨by omega, (swpL_perm (by omega) (by omega) (by omega)).trans hp, down_step ltP_weak hul (by omega) hk.1 hk.2.1 hk.2.2.1 hl hk.2.2.2, fun m hm => by rw [swpL_get (by omega) (by omega), if_neg (by omega), if_neg (by omega)]; exact htl m hm⟩, Knows.app .rq4 .rq1, .cons rfl (.cons rfl .nil)⟩
end Go.Proofs.YtonndaibggjmjaaGreat

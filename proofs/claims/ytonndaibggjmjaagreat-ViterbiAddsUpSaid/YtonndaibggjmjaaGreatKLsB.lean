/-
  Walks of the list of paths, part 2: the heap of beginnings grows and shrinks (printed by mk2.py).
-/
import Derived.Test.YtonndaibggjmjaaGreatKLsA
set_option linter.unusedVariables false
set_option linter.unusedSimpArgs false
namespace Go.Proofs.YtonndaibggjmjaaGreat
open Go Go.AL
theorem push_end {E : Env} {fn : Func} (hres : fn.results = #[]) {b n : Nat} {ps : List Prt} {p : Prt} {e : Exit} {s : S} (h : e = .normal ∧ ∃ q2 c2, Owns s [(1000, .box b T.heap [.osl 11 q2 (n + 1) c2]), (11, rowP q2 c2 (ps ++ [p]))]) (F : Hp) (a : Act) (w : World) (hr : Run E F s a w) :
  ∃ F' s2, Run E F' s2 a w ∧ RetE P fn (fun x : Nat × Nat => hpM b x.1 x.2 (n + 1) (ps ++ [p])) (fun _ => .tup []) (fun _ => True) e s2 := by
 obtain ⟨rfl, q2, c2, ho⟩ := h
 have r1 := hr.to [] _ .nil ho
 have r2 := Run.rename 11 1001 rfl r1
 have r3 := Run.boxW 1000 [.osl 1001 q2 (n + 1) c2] rfl (.cons vle_osl .nil) r2
 exact ⟨F, _, r3, (q2, c2), trivial, ⟨[], by rw [hres]; exact .nil, [], .nil, rfl⟩, fun id blk hk => lk_own (l := hpL b q2 c2 (n + 1) (ps ++ [p])) (.cons rfl (.cons rfl trivial)) id blk hk⟩
theorem snoc_lt {ps : List Prt} {p : Prt} {k : Nat} (hk : k < ps.length) : (ps ++ [p]).getD k d0P = ps.getD k d0P := by
 rw [List.getD_eq_getElem?_getD, List.getElem?_append_left hk, ← List.getD_eq_getElem?_getD]
theorem push_up {ps : List Prt} {p : Prt} (h : HeapN ltP d0P ps.length ps) : UpInv ltP d0P (ps.length + 1) (ps ++ [p]) ps.length :=
 ⟨fun k h0 hk hn => by rw [snoc_lt (by omega), snoc_lt (by omega)]; exact h k h0 (by omega), fun h0 k k0 hk e => by omega⟩
theorem pop_down {ps : List Prt} {n : Nat} (hl : ps.length = n + 1) (h : HeapN ltP d0P (n + 1) ps) : DownInv ltP d0P n (swpL d0P ps 0 n) 0 :=
 ⟨fun k h0 hk hn => by rw [swpL_get (by omega) (by omega), if_neg (by omega), if_neg (by omega), swpL_get (by omega) (by omega), if_neg (by omega), if_neg hn]; exact h k h0 (by omega), fun h0 => absurd h0 (Nat.lt_irrefl 0)⟩
theorem take_heap {l : List Prt} {n : Nat} (h : HeapN ltP d0P n l) : HeapN ltP d0P n (l.take n) := fun k h0 hk => by
 have e : ∀ j, j < n → (l.take n).getD j d0P = l.getD j d0P := fun j hj => by rw [List.getD_eq_getElem?_getD, List.getElem?_take_of_lt hj, ← List.getD_eq_getElem?_getD]
 rw [e k hk, e _ (by omega)]
 exact h k h0 hk
theorem take_last {l : List Prt} {n : Nat} (hl : l.length = n + 1) : (l.getD n d0P :: l.take n).Perm l := by
 have e : l = l.take n ++ [l.getD n d0P] := by
  rw [List.getD_eq_getElem?_getD, List.getElem?_eq_getElem (by omega), Option.getD_some]
  have := List.take_succ_eq_append_getElem (show n < l.length by omega)
  rw [← this, List.take_of_length_le (by omega)]
 exact (List.perm_append_comm (l₁ := [l.getD n d0P])).trans (by rw [← e])
theorem parts_LenM {q n c : Nat} {blk : Blk} : FSpecM P F.viterbi_parts_Len [.osl 1001 q n c] (mem1 1001 blk) (.d (dI n)) (mem1 1001 blk) := by
 refine FSpecM.intro fn.viterbi_parts_Len (by rfl) (by rfl) (nb9 (by rfl)) fun E hE => (AW.sg hE rfl (asD rfl (OL.nil (AW.sg hE rfl (mvO rfl (lnO sl.heap rfl rfl (asD rfl ?_)))))))
 exact OL.nil (AW.ret ⟨⟨_, .tmp rfl .nil, .le (VLe.refl _)⟩, mem1_keep rfl⟩)
theorem parts_Push {b q c n : Nat} {ps : List Prt} {p : Prt} (hn : n = ps.length) (hN : n ≤ 1000000) : FSpecE P F.viterbi_parts_Push [.ptr 1000 b 0, .ifc T.part (vPrt p)] (hpM b q c n ps) (fun _ : Nat × Nat => .tup []) (fun x => hpM b x.1 x.2 (n + 1) (ps ++ [p])) (fun _ => True) := by
 refine FSpecE.intro fn.viterbi_parts_Push (by rfl) (by rfl) (nb9 (by rfl)) fun E hE => (AW.post (Q' := fun e s => e = .normal ∧ ∃ q2 c2, Owns s [(1000, .box b T.heap [.osl 11 q2 (n + 1) c2]), (11, rowP q2 c2 (ps ++ [p]))]) ?_ (fun e s h F a w hr => push_end rfl h F a w hr))
 refine AW.dg 2 [0,1,2,3,4,5,6,7,8,9] order_free hE rfl (by kernel_rfl) (OI.of_OL (os := [_,_,_,_,_,_,_,_,_,_]) rfl ?_)
 refine mvP rfl (mvP rfl (ncP rfl (ldPC ce.heap rfl rfl rfl (mvI rfl (tA cc.part rfl (lt1 (y := dPrt p) sl.heap vd_prt rfl (by decide) ?_))))))
 refine apO sl.heap rfl rfl rfl (by rw [List.length_map]; exact hn) (VC.d _) (fun y hy => by rw [List.mem_singleton.1 hy]; rfl) (by simp only [List.length_singleton]; omega) (by simp only [List.length_singleton]; omega) (.inl rfl) (ys := (ps ++ [p]).map dPrt) (by rw [List.map_append]; rfl) (n2 := n + 1) rfl fun q2 c2 => ?_
 exact ncP rfl (sto sz.heap rfl rfl rfl rfl rfl (nb9 rfl) rfl (OL.nil (⟨rfl, q2, c2, .cons rfl (.cons rfl trivial)⟩)))
theorem parts_Pop {b q c n : Nat} {ps : List Prt} (hl : ps.length = n + 1) (hN : n ≤ 1000000) : FSpecM P F.viterbi_parts_Pop [.ptr 1000 b 0] (hpM b q c (n + 1) ps) (.ifc T.part (vPrt (ps.getD n d0P))) (hpM b q c n (ps.take n)) := by
 refine FSpecM.intro fn.viterbi_parts_Pop (by rfl) (by rfl) (nb9 (by rfl)) fun E hE => (AW.sg hE rfl (asD rfl (OL.nil (AW.sg hE rfl (mvP rfl (ncP rfl (ldPC ce.heap rfl rfl rfl ?_)))))))
 refine lnO sl.heap rfl rfl (bo rfl rfl (bin_sub (c := (n : Int)) (by omega) (wrap_i64 (by omega))) (asD rfl (OL.nil (AW.sg hE rfl (mvP rfl (ncP rfl (ldPC ce.heap rfl rfl rfl ?_)))))))
 refine mvD rfl (ixOn (i := n) sl.heap rfl rfl (by omega) (ldEA ag.part (by decide) rfl rfl (rowP_el (show n < ps.length by omega)) (vs := cellsP (ps.getD n d0P)) rfl (nb9 rfl) (al z.part rfl fun b4 => (sto sz.part rfl rfl rfl rfl rfl (nb9 rfl) (cells2 := [_,_,_,_,_,_,_]) rfl (OL.nil (AW.sg hE rfl (mvP rfl ?_)))))))
 refine mvP rfl (ncP rfl (ldPC ce.heap rfl rfl rfl (mvD rfl (slO (h := n) sl.heap rfl rfl (by omega) (ncP rfl (sto sz.heap rfl rfl rfl rfl rfl (nb9 rfl) rfl (OL.nil ?_)))))))
 refine AW.seq (AW.shrink (id := 1001) n rfl ?_)
 rw [← List.map_take]
 exact AW.rg hE rfl (ldPA ag.part rfl rfl (vs := [_,_,_,_,_,_,_]) rfl (nb9 rfl) (mkI cc.part rfl (asI rfl (OL.nil (AW.ret ⟨⟨_, .tmp rfl .nil, .le (VLe.refl _)⟩, (fun id blk hk => lk_own (l := hpL b q c n (ps.take n)) (.cons rfl (.cons rfl trivial)) id blk hk)⟩)))))
set_option maxRecDepth 4000 in
set_option maxHeartbeats 1600000 in
theorem heap_Push {b q c n : Nat} {ps : List Prt} {p : Prt} (hn : n = ps.length) (hN : n ≤ 900000) (hh : HeapN ltP d0P n ps) (hz : SzP (p :: ps)) : FSpecE P F.container_heap_Push [vHp b, .ifc T.part (vPrt p)] (hpM b q c n ps) (fun _ : Nat × Nat × List Prt => .tup []) (fun x => hpM b x.1 x.2.1 (n + 1) x.2.2) (fun x => x.2.2.Perm (p :: ps) ∧ HeapN ltP d0P (n + 1) x.2.2) := by
 subst hn
 have hl : (ps ++ [p]).length = ps.length + 1 := by rw [List.length_append]; rfl
 have hpp : (ps ++ [p]).Perm (p :: ps) := List.perm_append_comm (l₁ := ps) (l₂ := [p])
 have hup := fun q2 c2 => heap_up (b := b) (q := q2) (c := c2) (ps := ps ++ [p]) (j := ps.length) (by omega) (by rw [hl]; exact push_up hh) (hz.perm hpp) (by omega)
 rw [hl] at hup
 refine FSpecE.intro fn.container_heap_Push (by rfl) (by rfl) (nb9 (by rfl)) fun E hE => (AW.seq (AW.regionK (by rw [hE]; rfl) (SK.ofOL (mvI rfl (OL.nil ?_)))))
 refine SK.ofOL (mvI rfl (OL.nil ?_))
 refine SK.ofSO (SO.callEI (args' := [.ptr 1000 b 0, .ifc T.part (vPrt p)]) (show 6 < E.n by rw [hE]; exact Nat.le_of_ble_eq_true (by rfl)) (.p rfl mp_Push) (VLes.refl _) (Mc := hpM b q c ps.length ps) (fun id blk hk => lk_own (l := hpL b q c ps.length ps) (.cons rfl (.cons rfl trivial)) id blk hk) (parts_Push (p := p) rfl (by omega)) (fun x _ id hk => hpM_none id hk) ?_)
 rintro ⟨q2, c2⟩ _
 refine SK.nil (AW.regionK (by rw [hE]; rfl) (SK.ofOL (mvI rfl (OL.nil ?_))))
 refine SK.ofOL (mvI rfl (OL.nil ?_))
 refine SK.ofOL (clIM (args' := [.osl 1001 q2 (ps.length + 1) c2]) (.v (t := T.pheap) (e := T.heap) rfl mv_Len ce.heap rfl) (VLes.refl _) (Mc := mem1 1001 (rowP q2 c2 (ps ++ [p]))) (mem1_keep rfl) mem1_sub parts_LenM (OL.nil ?_))
 refine SK.ofOL (bo rfl rfl (bin_sub (c := (ps.length : Int)) (by omega) (wrap_i64 (by omega))) (OL.nil ?_))
 refine SK.ofSO (SO.callE (args' := [vHp b, .d (dI ps.length)]) (show 11 < E.n by rw [hE]; exact Nat.le_of_ble_eq_true (by rfl)) rfl (VLes.refl _) (Mc := hpM b q2 c2 (ps.length + 1) (ps ++ [p])) (fun id blk hk => lk_own (l := hpL b q2 c2 (ps.length + 1) (ps ++ [p])) (.cons rfl (.cons rfl trivial)) id blk hk) (hup q2 c2) (fun x _ id hk => hpM_none id hk) ?_)
 rintro l ⟨hp, hh2⟩
 exact SK.nil (⟨(q2, c2, l), ⟨hp.trans hpp, hh2⟩, ⟨[], .nil, [], .nil, rfl⟩, (fun id blk hk => lk_own (l := hpL b q2 c2 (ps.length + 1) l) (.cons rfl (.cons rfl trivial)) id blk hk)⟩)
set_option maxRecDepth 4000 in
set_option maxHeartbeats 1600000 in
theorem heap_Pop {b q c n : Nat} {ps : List Prt} (hl : ps.length = n + 1) (hN : n ≤ 900000) (hh : HeapN ltP d0P (n + 1) ps) (hz : SzP ps) : FSpecE P F.container_heap_Pop [vHp b] (hpM b q c (n + 1) ps) (fun _ : List Prt => .ifc T.part (vPrt (ps.getD 0 d0P))) (fun l => hpM b q c n l) (fun l => (ps.getD 0 d0P :: l).Perm ps ∧ HeapN ltP d0P n l) := by
 have hsl : (swpL d0P ps 0 n).length = n + 1 := by rw [swpL_len, hl]
 have hsp : (swpL d0P ps 0 n).Perm ps := by
  by_cases h0 : n = 0
  ·subst h0
   match ps, hl with
   | [x], _ => exact List.Perm.refl _
  ·exact swpL_perm (by omega) (by omega) (by omega)
 have hdn := heap_down (b := b) (q := q) (c := c) (n := n) (ps := swpL d0P ps 0 n) (by omega) (pop_down hl hh) (hz.perm hsp) (by omega)
 rw [hsl] at hdn
 refine FSpecE.intro fn.container_heap_Pop (by rfl) (by rfl) (nb9 (by rfl)) fun E hE => (AW.sg hE rfl (asD rfl (OL.nil (AW.sg hE rfl (mvI rfl (clIM (args' := [.osl 1001 q (n + 1) c]) (.v (t := T.pheap) (e := T.heap) rfl mv_Len ce.heap rfl) (VLes.refl _) (Mc := mem1 1001 (rowP q c ps)) (mem1_keep rfl) mem1_sub parts_LenM (bo rfl rfl (bin_sub (c := (n : Int)) (by omega) (wrap_i64 (by omega))) ?_)))))))
 refine asD rfl (OL.nil (AW.sg hE rfl (mvI rfl (mvD rfl (clIM (args' := [.osl 1001 q (n + 1) c, .d (dI (0 : Nat)), .d (dI n)]) (.v (t := T.pheap) (e := T.heap) rfl mv_Swap ce.heap rfl) (VLes.refl _) (mem1_keep rfl) mem1_sub (parts_Swap (i := 0) (j := n) (ps := ps) hl.symm (by omega) (by omega)) (OL.nil (AW.seq ?_)))))))
 refine AW.regionK (by rw [hE]; rfl) (SK.ofOL (mvI rfl (OL.nil ?_)))
 refine SK.ofOL (mvD rfl (OL.nil ?_))
 refine SK.ofSO (SO.callE (args' := [vHp b, .d (dI 0), .d (dI n)]) (show 12 < E.n by rw [hE]; exact Nat.le_of_ble_eq_true (by rfl)) rfl (VLes.refl _) (Mc := hpM b q c (n + 1) (swpL d0P ps 0 n)) (fun id blk hk => lk_own (l := hpL b q c (n + 1) (swpL d0P ps 0 n)) (.cons rfl (.cons rfl trivial)) id blk hk) hdn (fun x _ id hk => hpM_none id hk) ?_)
 rintro l ⟨hp, hh2, htl⟩
 have e0 : l.getD n d0P = ps.getD 0 d0P := by rw [htl n (Nat.le_refl n), swpL_get (by omega) (by omega), if_pos rfl]
 have hll : l.length = n + 1 := hp.length_eq.trans hsl
 have hpop := parts_Pop (b := b) (q := q) (c := c) hll (by omega)
 rw [e0] at hpop
 exact SK.nil (AW.sg hE rfl (mvI rfl (clIM (args' := [.ptr 1000 b 0]) (.p rfl mp_Pop) (VLes.refl _) (Mc := hpM b q c (n + 1) l) (Mc' := hpM b q c n (l.take n)) (fun id blk hk => lk_own (l := hpL b q c (n + 1) l) (.cons rfl (.cons rfl trivial)) id blk hk) (fun id => hpM_iff id) hpop (asI rfl (OL.nil (AW.ret ⟨l.take n, ⟨by rw [← e0]; exact ((take_last hll).trans hp).trans hsp, take_heap hh2⟩, ⟨_, .tmp rfl .nil, .le (VLe.refl _)⟩, (fun id blk hk => lk_own (l := hpL b q c n (l.take n)) (.cons rfl (.cons rfl trivial)) id blk hk)⟩))))))
end Go.Proofs.YtonndaibggjmjaaGreat

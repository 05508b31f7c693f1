/-
  Walks for chapter 39, part 5: copies; sums; refusals; expected numbers of all words (printed by mk2.py).
-/
import Derived.Test.YtoohdcpikkkanaaGreatKAsD
import Derived.Test.YtoohdcpikkkanaaGreatKMod39c
set_option linter.unusedVariables false
set_option linter.unusedSimpArgs false
namespace Go.Proofs.YtoohdcpikkkanaaGreat
open Go Go.AL
abbrev dIss (l : List (List Int)) : D := .sl (l.map ints)
theorem list_range_getD {α : Type} (l : List α) (d : α) : (List.range l.length).map (fun j => l.getD j d) = l := by
 refine List.ext_getElem (by simp) fun k h1 h2 => ?_
 simp [List.getD_eq_getElem?_getD, List.getElem?_eq_getElem h2]
theorem fresh_eachRat {l : List (Rat)} {C : Nat} (hl : Small C l) (hC : 1 ≤ C ∧ C ≤ 68719476736) (nl : l.length ≤ 1048576) : FSpec P F.fresh_each_Rat [.d (dQs l), .fn F.fresh_Rat []] (.d (dQs l)) := by
 refine FSpec.intro fn.fresh_each_Rat (by rfl) (by rfl) (nb9 (by rfl)) fun E hE => (AW.sg hE rfl (asM rfl (OL.nil (AW.seq (AW.sg hE rfl (mvD rfl (isNil sl.Rats.u rfl (fun y hy => by obtain ⟨a, _, rfl⟩ := List.mem_map.1 hy; exact Nat.succ_pos _) rfl fun b hb => ?_)))))))
 refine OL.nil (AW.cond rfl (fun h => ?_) (fun h => ?_))
 ·have hL : l = [] := by have := hb h; simpa using this
  exact AW.sg hE rfl (asM rfl (OL.nil (AW.ret (RetQ.r ⟨_, .tmp rfl .nil, .le (hL ▸ VLe.mt)⟩))))
 ·have _h := h
  refine AW.skip (AW.sg hE rfl (mvD rfl (lnL sl.Rats rfl rfl (mkL dQ 0 sl.Rats z.Rat vcs_q0 rfl rfl (Nat.le_refl _) (by omega) (by omega) rfl fun b12 => (asO rfl (OL.nil (AW.seq ?_)))))))
  refine AW.sg hE rfl (mvD rfl (lnL sl.Rats rfl rfl (mvD rfl (OL.nil (AW.block ?_)))))
  refine AW.whileK (α := Nat) [(1, _), (4, _), (5, _), (13, _), (14, _)] [] (fun i => [(15, .d (dI i))]) (fun i => [(12, .row b12 l.length T.Rat 3 ((fillF 0 (fun j => l.getD j 0) l.length i).map dQ))]) (fun i => i ≤ l.length) (fun i => l.length - i) 0 (.cons (knF rfl) (.cons (knM rfl) (.cons (knO rfl) (.cons (knD rfl) (.cons (knD rfl) .nil))))) .nil ⟨Nat.zero_le _, .cons (VLe.refl _) .nil, .cons (by rw [fillF_zero]; rfl) .nil⟩ ?_
  intro i h1
  have h1 : i ≤ l.length := h1
  have hfl := fillF_len 0 (fun j => l.getD j 0) l.length i
  refine AW.sg hE rfl (c_lss rfl rfl rfl (OL.nil (AW.seq (AW.cond rfl (fun h16 => ?_) (fun h16 => ?_)))))
  ·try simp only [dx9] at h16
   refine AW.skip (AW.seq (AW.block (AW.sg hE rfl (mvD rfl (ixLn sl.Rats 0 rfl rfl (by omega) rfl rfl (ldRA ag.Rat rfl (vs := [_,_,_]) rfl (nb9 rfl) (al z.Rat rfl fun b7 => ?_)))))))
   refine asD rfl (sto sz.Rat rfl rfl rfl rfl rfl (nb9 rfl) (cells2 := [_,_,_]) rfl (OL.nil (AW.rg hE rfl (mvO rfl (mvD rfl (mvF rfl (ldPA ag.Rat rfl rfl (vs := [_,_,_]) rfl (nb9 rfl) ?_)))))))
   refine clv rfl (.cons (VLe.refl _) (.nil)) (fresh_Rat (Nat.le_trans (hl.get hC.1 i) hC.2)) (ixOn sl.Rats rfl rfl (by omega) (stE sz.Rat rfl vd_q rfl rfl (by rw [List.length_map]; omega) (es2 := (fillF 0 (fun j => l.getD j 0) l.length (i + 1)).map dQ) (by rw [← fillF_set (show i < l.length by omega), List.map_set]) (OL.nil (AW.rg hE rfl (add_i64 rfl rfl (by omega) (mvD rfl (OL.nil ?_)))))))
   exact AW.again (x := i) (i + 1) (by omega) ⟨by omega, Knows.app (.cons (VLe.refl _) (.cons (VLe.refl _) (.cons (VLe.refl _) (.cons (VLe.refl _) (.cons (VLe.refl _) .nil))))) (.cons (VLe.refl _) .nil), .cons rfl .nil⟩
  ·try simp only [dx9] at h16
   refine AW.exit (AW.seq ?_)
   obtain rfl : i = l.length := by omega
   have hfr : (List.range l.length).map (fun j => l.getD j 0) = l := list_range_getD l 0
   refine AW.freeze 12 rfl (AW.to [(5, .d (dQs l))] [] (.cons (frz_osl (by rw [List.length_map, fillF_len]) (by rw [fillF_all, hfr])) .nil) .nil ?_)
   exact AW.rg hE rfl (mvD rfl (asD rfl (OL.nil (AW.ret (RetQ.r ⟨_, .tmp rfl .nil, .le (VLe.refl _)⟩)))))
theorem fresh_Rats {l : List (Rat)} {C : Nat} (hl : Small C l) (hC : 1 ≤ C ∧ C ≤ 68719476736) (nl : l.length ≤ 1048576) : FSpec P F.fresh_Rats [.d (dQs l)] (.d (dQs l)) := by
 refine FSpec.intro fn.fresh_Rats (by rfl) (by rfl) (nb9 (by rfl)) fun E hE => (AW.sg hE rfl (asM rfl (OL.nil (AW.sg hE rfl (mvD rfl (clv rfl (.cons (VLe.refl _) (.cons (VLe.refl _) (.nil))) (fresh_eachRat hl hC nl) (asD rfl ?_)))))))
 exact OL.nil (AW.ret (RetQ.r ⟨_, .tmp rfl .nil, .le (VLe.refl _)⟩))
theorem fresh_eachRats {l : List (List Rat)} {C : Nat} (hl : ∀ i, Small C (l.getD i []) ∧ (l.getD i []).length ≤ 1048576) (hC : 1 ≤ C ∧ C ≤ 68719476736) (nl : l.length ≤ 1048576) : FSpec P F.fresh_each_Rats [.d (dQss l), .fn F.fresh_Rats []] (.d (dQss l)) := by
 refine FSpec.intro fn.fresh_each_Rats (by rfl) (by rfl) (nb9 (by rfl)) fun E hE => (AW.sg hE rfl (asM rfl (OL.nil (AW.seq (AW.sg hE rfl (mvD rfl (isNil sl.Ratss.u rfl (fun y hy => by obtain ⟨a, _, rfl⟩ := List.mem_map.1 hy; exact Nat.succ_pos _) rfl fun b hb => ?_)))))))
 refine OL.nil (AW.cond rfl (fun h => ?_) (fun h => ?_))
 ·have hL : l = [] := by have := hb h; simpa using this
  exact AW.sg hE rfl (asM rfl (OL.nil (AW.ret (RetQ.r ⟨_, .tmp rfl .nil, .le (hL ▸ VLe.mt)⟩))))
 ·have _h := h
  refine AW.skip (AW.sg hE rfl (mvD rfl (lnL sl.Ratss rfl rfl (mkL dQs [] sl.Ratss z.Rats vcs_mt_rowF rfl rfl (Nat.le_refl _) (by omega) (by omega) rfl fun b12 => (asO rfl (OL.nil (AW.seq ?_)))))))
  refine AW.sg hE rfl (mvD rfl (lnL sl.Ratss rfl rfl (mvD rfl (OL.nil (AW.block ?_)))))
  refine AW.whileK (α := Nat) [(1, _), (4, _), (5, _), (13, _), (14, _)] [] (fun i => [(15, .d (dI i))]) (fun i => [(12, .row b12 l.length T.Rats 1 ((fillF [] (fun j => l.getD j []) l.length i).map dQs))]) (fun i => i ≤ l.length) (fun i => l.length - i) 0 (.cons (knF rfl) (.cons (knM rfl) (.cons (knO rfl) (.cons (knD rfl) (.cons (knD rfl) .nil))))) .nil ⟨Nat.zero_le _, .cons (VLe.refl _) .nil, .cons (by rw [fillF_zero]; rfl) .nil⟩ ?_
  intro i h1
  have h1 : i ≤ l.length := h1
  have hfl := fillF_len [] (fun j => l.getD j []) l.length i
  refine AW.sg hE rfl (c_lss rfl rfl rfl (OL.nil (AW.seq (AW.cond rfl (fun h16 => ?_) (fun h16 => ?_)))))
  ·try simp only [dx9] at h16
   refine AW.skip (AW.seq (AW.block (AW.sg hE rfl (mvD rfl (ixLn sl.Ratss [] rfl rfl (by omega) rfl rfl (ldRC ce.Rats rfl (asD rfl ?_)))))))
   refine asD rfl (OL.nil (AW.rg hE rfl (mvO rfl (mvD rfl (mvF rfl (mvD rfl (clv rfl (.cons (VLe.refl _) (.nil)) (fresh_Rats (hl i).1 hC (hl i).2) ?_)))))))
   exact ixOn sl.Ratss rfl rfl (by omega) (stE sz.Rats rfl (VC.d _).vd rfl rfl (by rw [List.length_map]; omega) (es2 := (fillF [] (fun j => l.getD j []) l.length (i + 1)).map dQs) (by rw [← fillF_set (show i < l.length by omega), List.map_set]) (OL.nil (AW.rg hE rfl (add_i64 rfl rfl (by omega) (mvD rfl (OL.nil (AW.again (x := i) (i + 1) (by omega) ⟨by omega, Knows.app (.cons (VLe.refl _) (.cons (VLe.refl _) (.cons (VLe.refl _) (.cons (VLe.refl _) (.cons (VLe.refl _) .nil))))) (.cons (VLe.refl _) .nil), .cons rfl .nil⟩)))))))
  ·try simp only [dx9] at h16
   refine AW.exit (AW.seq ?_)
   obtain rfl : i = l.length := by omega
   have hfr : (List.range l.length).map (fun j => l.getD j []) = l := list_range_getD l []
   refine AW.freeze 12 rfl (AW.to [(5, .d (dQss l))] [] (.cons (frz_osl (by rw [List.length_map, fillF_len]) (by rw [fillF_all, hfr])) .nil) .nil ?_)
   exact AW.rg hE rfl (mvD rfl (asD rfl (OL.nil (AW.ret (RetQ.r ⟨_, .tmp rfl .nil, .le (VLe.refl _)⟩)))))
theorem fresh_Rows {l : List (List Rat)} {C : Nat} (hl : ∀ i, Small C (l.getD i []) ∧ (l.getD i []).length ≤ 1048576) (hC : 1 ≤ C ∧ C ≤ 68719476736) (nl : l.length ≤ 1048576) : FSpec P F.fresh_Rows [.d (dQss l)] (.d (dQss l)) := by
 refine FSpec.intro fn.fresh_Rows (by rfl) (by rfl) (nb9 (by rfl)) fun E hE => (AW.sg hE rfl (asM rfl (OL.nil (AW.sg hE rfl (mvD rfl (clv rfl (.cons (VLe.refl _) (.cons (VLe.refl _) (.nil))) (fresh_eachRats hl hC nl) (asD rfl ?_)))))))
 exact OL.nil (AW.ret (RetQ.r ⟨_, .tmp rfl .nil, .le (VLe.refl _)⟩))
theorem row_small {l : List (List Rat)} {n m C : Nat} (hl : l.length = n) (hr : ∀ i, i < n → (l.getD i []).length = m) (hz : ∀ i, Small C (l.getD i [])) (hm : m ≤ 1048576) (i : Nat) : Small C (l.getD i []) ∧ (l.getD i []).length ≤ 1048576 := by
 refine ⟨hz i, ?_⟩
 rcases Nat.lt_or_ge i n with h | h
 ·rw [hr i h]; exact hm
 ·rw [getD_ge (by omega)]; exact Nat.zero_le _
set_option maxRecDepth 6000 in
set_option maxHeartbeats 3200000 in
theorem fresh_Hidden {h : HM} {B : Nat} (f : h.Form B) : FSpec P F.fresh_Hidden [vHM h] (vHM h) := by
 have n1 := f.st1
 have s1 := f.sym1
 have e1 := f.ini
 have e2 := f.trans
 have e3 := f.stop
 have e4 := f.emit
 have e5 := f.ties
 have e6 : h.silent.length = h.st := by rw [f.silent]; simp
 have hb1 := f.b1
 have bB := f.bB
 have zE := f.zE
 refine FSpec.intro fn.fresh_Hidden (by rfl) (by rfl) (nb9 (by rfl)) fun E hE => (AW.sg hE rfl (bxA rfl rfl fun b1 => (al z.Hidden rfl fun b2 => (OL.nil (AW.seq (AW.dg 1 [0,1,2,3,4,5,6,7,8,9,10,11,12,13,14,15,16,17,18,19,20,21,22,23,24,25,26] order_free hE rfl (by kernel_rfl) (OI.of_OL (os := [_,_,_,_,_,_,_,_,_,_,_,_,_,_,_,_,_,_,_,_,_,_,_,_,_,_,_]) rfl ?_)))))))
 refine faP fd.Hidden_0 rfl rfl (ldPC ce.int rfl rfl rfl (faP fd.Hidden_1 rfl rfl (ldPC ce.int rfl rfl rfl (faP fd.Hidden_2 rfl rfl (ldPA ag.Rat rfl rfl (vs := [_,_,_]) rfl (nb9 rfl) (clv rfl (.cons (VLe.refl _) (.nil)) (fresh_Rat (q := h.empty) (by omega)) (faP fd.Hidden_3 rfl rfl ?_)))))))
 refine ldPC ce.Rats rfl rfl rfl (clv rfl (.cons (VLe.refl _) (.nil)) (fresh_Rats f.zI ⟨hb1, by omega⟩ (by omega)) (faP fd.Hidden_4 rfl rfl (ldPC ce.Ratss rfl rfl rfl (clv rfl (.cons (VLe.refl _) (.nil)) (fresh_Rows (row_small f.trans f.trow f.zT (by omega)) ⟨hb1, by omega⟩ (by omega)) (faP fd.Hidden_5 rfl rfl (ldPC ce.Rats rfl rfl rfl (clv rfl (.cons (VLe.refl _) (.nil)) (fresh_Rats f.zS ⟨hb1, by omega⟩ (by omega)) ?_)))))))
 refine faP fd.Hidden_6 rfl rfl (ldPC ce.Ratss rfl rfl rfl (clv rfl (.cons (VLe.refl _) (.nil)) (fresh_Rows (row_small f.emit f.erow f.zM (by omega)) ⟨hb1, by omega⟩ (by omega)) (faP fd.Hidden_7 rfl rfl (ldPC ce.bools rfl rfl rfl (clv rfl (.cons (VLe.refl _) (.nil)) (clone_bools (by omega)) (faP fd.Hidden_8 rfl rfl (ldPC ce.ints rfl rfl rfl ?_)))))))
 refine clv rfl (.cons (VLe.refl _) (.nil)) (clone_ints (by omega)) ?_
 refine bd2 (cs := [_,_,_,_,_,_,_,_,_,_,_]) z.Hidden pl.Hidden (pvC (by exact evD rfl) (pvC (by exact evD rfl) (pvC (by exact evA rfl) (pvC (by exact evD rfl) (pvC (by exact evD rfl) (pvC (by exact evD rfl) (pvC (by exact evD rfl) (pvC (by exact evD rfl) (pvC (by exact evD rfl) (pvN)))))))))) (by rfl) ?_
 refine sto sz.Hidden rfl rfl rfl rfl rfl (nb9 rfl) (cells2 := [_,_,_,_,_,_,_,_,_,_,_]) rfl (OL.nil ?_)
 exact AW.ret (RetQ.r ⟨_, .cellA rfl rfl ag.Hidden (nb9 rfl) .nil, .ag (.cons (.le (VLe.refl _)) (.cons (.le (VLe.refl _)) (.cons (.le (VLe.refl _)) (.cons (.le (VLe.refl _)) (.cons (.le (VLe.refl _)) (.cons (.le (VLe.refl _)) (.cons (.le (VLe.refl _)) (.cons (.le (VLe.refl _)) (.cons (.le (VLe.refl _)) (.cons (.le (VLe.refl _)) (.cons (.le (VLe.refl _)) .nil)))))))))))⟩)
theorem ascent_add {a l : List Rat} {n b C1 C2 : Nat} (ha : a.length = n) (hl : l.length ≤ n) (hn : n ≤ 1048576) (z1 : Small C1 a) (z2 : Small C2 l) (g1 : 1 ≤ C1 ∧ C1 ≤ 68719476736) (g2 : 1 ≤ C2 ∧ C2 ≤ 68719476736) : FSpecM P F.ascent_add [.osl 1000 b n n, .d (dQs l)] (mem1 1000 (.row b n T.Rat 3 ((a).map dQ))) (.tup []) (mem1 1000 (.row b n T.Rat 3 ((addL a l).map dQ))) := by
 have hal : (addL a l).length = n := (addL_len a l).trans ha
 refine FSpecM.intro fn.ascent_add (by rfl) (by rfl) (nb9 (by rfl)) fun E hE => (AW.sg hE rfl (mvD rfl (lnL sl.Rats rfl rfl (mvD rfl (OL.nil (AW.block ?_))))))
 refine AW.whileK (α := Nat) [(0, _), (6, _), (7, _)] [] (fun i => [(8, .d (dI i))]) (fun i => [(1000, .row b n T.Rat 3 ((mixB (addL a l) a n i).map dQ))]) (fun i => i ≤ l.length) (fun i => l.length - i) 0 (.cons (knO rfl) (.cons (knD rfl) (.cons (knD rfl) .nil))) .nil ⟨Nat.zero_le _, .cons (VLe.refl _) .nil, .cons (by rw [mixB_zero ha]; rfl) .nil⟩ ?_
 intro i h1
 have h1 : i ≤ l.length := h1
 have hml := mixB_len (addL a l) a n i
 refine AW.sg hE rfl (c_lss rfl rfl rfl (OL.nil (AW.seq (AW.cond rfl (fun h9 => ?_) (fun h9 => ?_)))))
 ·try simp only [dx9] at h9
  refine AW.skip (AW.seq (AW.block (AW.seq ?_)))
  have zi := z1.get g1.1 i
  have zj := z2.get g2.1 i
  have hmg := mixB_get (a := addL a l) (b := a) (show i < n by omega)
  have hag := addL_get (a := a) (l := l) (show i < a.length by omega)
  refine AW.rg hE rfl (mvD rfl (ixLn sl.Rats 0 rfl rfl (by omega) rfl rfl (ldRA ag.Rat rfl (vs := [_,_,_]) rfl (nb9 rfl) (al z.Rat rfl fun b5 => (asD rfl (sto sz.Rat rfl rfl rfl rfl rfl (nb9 rfl) (cells2 := [_,_,_]) rfl (OL.nil ?_)))))))
  refine AW.dg 1 [0,1,2,3,4,5,6,7,8,9] order_free hE rfl (by kernel_rfl) (OI.of_OL (os := [_,_,_,_,_,_,_,_,_,_]) rfl ?_)
  refine mvO rfl (mvD rfl (mvO rfl (mvD rfl (ixOn sl.Rats rfl rfl (by omega) (ldEAL ag.Rat 0 (by decide) rfl rfl (by omega) (vs := [_,_,_]) rfl (nb9 rfl) ?_)))))
  rw [hmg]
  refine ldPA ag.Rat rfl rfl (vs := [_,_,_]) rfl (nb9 rfl) (clv rfl (.cons (VLe.refl _) (.cons (VLe.refl _) (.nil))) (rational_AddQ (x := a.getD i 0) (y := l.getD i 0) (by omega) (by omega)) (ixOn sl.Rats rfl rfl (by omega) (stE sz.Rat rfl vd_q rfl rfl (by rw [List.length_map]; omega) (es2 := (mixB (addL a l) a n (i + 1)).map dQ) (by rw [← mixB_set (show i < n by omega) hag]; exact List.map_set.symm) (OL.nil (AW.rg hE rfl (add_i64 rfl rfl (by omega) (mvD rfl ?_)))))))
  exact OL.nil (AW.again (x := i) (i + 1) (by omega) ⟨by omega, Knows.app (.cons (VLe.refl _) (.cons (VLe.refl _) (.cons (VLe.refl _) .nil))) (.cons (VLe.refl _) .nil), .cons rfl .nil⟩)
 ·try simp only [dx9] at h9
  refine AW.exit ?_
  have hfin : mixB (addL a l) a n i = addL a l := by
   obtain rfl : i = l.length := by omega
   refine List.ext_getElem (by rw [mixB_len, hal]) fun k h1 h2 => ?_
   have hk : k < n := by rw [mixB_len] at h1; exact h1
   rw [← getD_lt h1 0, ← getD_lt h2 0]
   unfold mixB
   rw [map_get9 _ _ hk]
   split
   ·rfl
   ·rw [addL_get (by omega), getD_ge (l := l) (by omega), Rat.add_zero]
  rw [hfin]
  exact ⟨⟨_, .nil, _, .nil, rfl⟩, mem1_keep rfl⟩
theorem ascent_sum {l : List Rat} {C : Nat} (hz : Small C l) (h1C : 1 ≤ C ∧ C ≤ 34359738368) (hC : l.length * (C + 1) + 1 ≤ 68719476736) (hn : l.length ≤ 1048576) : FSpec P F.ascent_sum [.d (dQs l)] (vQ (sumQ l)) := by
 refine FSpec.intro fn.ascent_sum (by rfl) (by rfl) (nb9 (by rfl)) fun E hE => (AW.sg hE rfl (al z.Rat rfl fun b2 => (OL.nil (AW.sg hE rfl (bd z.Rat pl.Rat (cs := [_,_,_]) rfl (al z.Rat rfl fun b3 => (sto sz.Rat rfl rfl rfl rfl rfl (nb9 rfl) (cells2 := [_,_,_]) rfl ?_)))))))
 refine OL.nil (AW.seq (AW.sg hE rfl (mvD rfl (lnL sl.Rats rfl rfl (mvD rfl (OL.nil (AW.block ?_)))))))
 refine AW.boxW 3 (cellsQ 0) rfl vles_q ?_
 refine AW.whileK (α := Nat) [(2, _), (3, _), (7, _), (8, _)] [(2, _)] (fun i => [(9, .d (dI i))]) (fun i => [(3, .box b3 T.Rat (cellsQ (sumQ (l.take i))))]) (fun i => i ≤ l.length) (fun i => l.length - i) 0 (.cons (knP rfl) (.cons (knP rfl) (.cons (knD rfl) (.cons (knD rfl) .nil)))) (.cons (owB rfl) .nil) ⟨Nat.zero_le _, .cons (VLe.refl _) .nil, .cons rfl .nil⟩ ?_
 intro i h1
 have h1 : i ≤ l.length := h1
 refine AW.sg hE rfl (c_lss rfl rfl rfl (OL.nil (AW.seq (AW.cond rfl (fun h10 => ?_) (fun h10 => ?_)))))
 ·try simp only [dx9] at h10
  refine AW.skip (AW.seq (AW.block (AW.seq ?_)))
  have zi := hz.get h1C.1 i
  have zs := sumQ_sz (hz.take i)
  have hti := take_len (l := l) (i := i) (by omega)
  have hmul : (l.take i).length * (C + 1) ≤ l.length * (C + 1) := Nat.mul_le_mul_right _ (by omega)
  refine AW.rg hE rfl (ixLn sl.Rats 0 rfl rfl (by omega) rfl rfl (ldRA ag.Rat rfl (vs := [_,_,_]) rfl (nb9 rfl) (al z.Rat rfl fun b5 => (sto sz.Rat rfl rfl rfl rfl rfl (nb9 rfl) (cells2 := [_,_,_]) rfl (OL.nil (AW.rg hE rfl (ldPA ag.Rat rfl rfl (vs := [_,_,_]) rfl (nb9 rfl) ?_)))))))
  refine ldPA ag.Rat rfl rfl (vs := [_,_,_]) rfl (nb9 rfl) (clv rfl (.cons (VLe.refl _) (.cons (VLe.refl _) (.nil))) (rational_AddQ (x := sumQ (l.take i)) (y := l.getD i 0) (by omega) (by omega)) (sto sz.Rat rfl rfl rfl rfl rfl (nb9 rfl) (cells2 := [_,_,_]) rfl (OL.nil (AW.rg hE rfl (add_i64 rfl rfl (by omega) (mvD rfl (OL.nil ?_)))))))
  exact AW.again (x := i) (i + 1) (by omega) ⟨by omega, Knows.app (.cons (VLe.refl _) (.cons (VLe.refl _) (.cons (VLe.refl _) (.cons (VLe.refl _) .nil)))) (.cons (VLe.refl _) .nil), Owns.app (.cons rfl .nil) (.cons (by rw [sumQ_take_succ (by omega)]; rfl) .nil)⟩
 ·try simp only [dx9] at h10
  refine AW.exit (AW.seq ?_)
  obtain rfl : i = l.length := by omega
  rw [List.take_length]
  exact AW.rg hE rfl (ldPA ag.Rat rfl rfl (vs := [_,_,_]) rfl (nb9 rfl) (sto sz.Rat rfl rfl rfl rfl rfl (nb9 rfl) (cells2 := [_,_,_]) rfl (OL.nil (AW.ret (RetQ.r ⟨_, .cellA rfl rfl ag.Rat (nb9 rfl) .nil, .ag (.cons (.le (VLe.refl _)) (.cons (.le (VLe.refl _)) (.cons (.le (VLe.refl _)) .nil)))⟩)))))
theorem ascent_divided {l : List Rat} {y : Rat} {C : Nat} (hz : Small C l) (hC : 1 ≤ C ∧ C ≤ 68719476736) (hn : l.length ≤ 1048576) (hy : sz y ≤ 68719476736) (h0 : y ≠ 0) : FSpec P F.ascent_divided [.d (dQs l), vQ y] (.d (dQs (l.map fun x => x / y))) := by
 have hdl : (l.map fun x => x / y).length = l.length := List.length_map ..
 refine FSpec.intro fn.ascent_divided (by rfl) (by rfl) (nb9 (by rfl)) fun E hE => (AW.sg hE rfl (bxA rfl rfl fun b3 => (asM rfl (OL.nil (AW.sg hE rfl (mvD rfl (lnL sl.Rats rfl rfl ?_)))))))
 refine mkL dQ 0 sl.Rats z.Rat vcs_q0 (n := l.length) (cp := l.length) rfl rfl (Nat.le_refl _) (by omega) (by omega) rfl fun b10 => (asO rfl (OL.nil (AW.seq (AW.sg hE rfl (mvD rfl (lnL sl.Rats rfl rfl (mvD rfl ?_)))))))
 refine OL.nil (AW.block ?_)
 refine AW.whileK (α := Nat) [(3, _), (4, _), (5, _), (11, _), (12, _)] [(3, _)] (fun i => [(13, .d (dI i))]) (fun i => [(10, .row b10 l.length T.Rat 3 ((mixA (l.map fun x => x / y) 0 l.length i).map dQ))]) (fun i => i ≤ l.length) (fun i => l.length - i) 0 (.cons (knP rfl) (.cons (knM rfl) (.cons (knO rfl) (.cons (knD rfl) (.cons (knD rfl) .nil))))) (.cons (owB rfl) .nil) ⟨Nat.zero_le _, .cons (VLe.refl _) .nil, .cons (by rw [mixA_zero]; rfl) .nil⟩ ?_
 intro i h1
 have h1 : i ≤ l.length := h1
 have hml := mixA_len (l.map fun x => x / y) 0 l.length i
 refine AW.sg hE rfl (c_lss rfl rfl rfl (OL.nil (AW.seq (AW.cond rfl (fun h14 => ?_) (fun h14 => ?_)))))
 ·try simp only [dx9] at h14
  refine AW.skip (AW.seq (AW.block (AW.seq ?_)))
  have zi := hz.get hC.1 i
  have hdg : (l.map fun x => x / y).getD i 0 = l.getD i 0 / y := by rw [List.getD_eq_getElem?_getD, List.getElem?_map, List.getElem?_eq_getElem (show i < l.length by omega), getD_lt (show i < l.length by omega)]; rfl
  refine AW.rg hE rfl (mvD rfl (ixLn sl.Rats 0 rfl rfl (by omega) rfl rfl (ldRA ag.Rat rfl (vs := [_,_,_]) rfl (nb9 rfl) (al z.Rat rfl fun b7 => (asD rfl (sto sz.Rat rfl rfl rfl rfl rfl (nb9 rfl) (cells2 := [_,_,_]) rfl (OL.nil ?_)))))))
  refine AW.rg hE rfl (mvO rfl (mvD rfl (ldPA ag.Rat rfl rfl (vs := [_,_,_]) rfl (nb9 rfl) (ldPA ag.Rat rfl rfl (vs := [_,_,_]) rfl (nb9 rfl) (clv rfl (.cons (VLe.refl _) (.cons (VLe.refl _) (.nil))) (ascent_over (x := l.getD i 0) (y := y) (by omega) (by omega) h0) (ixOn sl.Rats rfl rfl (by omega) (stE sz.Rat rfl vd_q rfl rfl (by rw [List.length_map]; omega) (es2 := (mixA (l.map fun x => x / y) 0 l.length (i + 1)).map dQ) (by rw [← mixA_set (show i < l.length by omega) hdg]; exact List.map_set.symm) ?_)))))))
  exact OL.nil (AW.rg hE rfl (add_i64 rfl rfl (by omega) (mvD rfl (OL.nil (AW.again (x := i) (i + 1) (by omega) ⟨by omega, Knows.app (.cons (VLe.refl _) (.cons (VLe.refl _) (.cons (VLe.refl _) (.cons (VLe.refl _) (.cons (VLe.refl _) .nil))))) (.cons (VLe.refl _) .nil), Owns.app (.cons rfl .nil) (.cons rfl .nil)⟩)))))
 ·try simp only [dx9] at h14
  refine AW.exit (AW.seq ?_)
  obtain rfl : i = l.length := by omega
  rw [mixA_all hdl (Nat.le_refl _)]
  exact AW.rg hE rfl (mvO rfl (asO rfl (OL.nil (AW.ret (RetQ.r ⟨_, .tmp rfl .nil, RO.row rfl (by rw [List.length_map, hdl]) rfl⟩)))))
theorem ascent_refuseW {h : HM} {B : Nat} {D : List (List Int)} (g : h.GoodW B) (k : DataOK h D) : FSpec P F.ascent_refuse [vHM h, .d (dIss D)] (.d (dI 0)) := by
 have s0 := g.form.sym0
 have s1 := g.form.sym1
 have k1 := k.len
 refine FSpec.intro fn.ascent_refuse (by rfl) (by rfl) (nb9 (by rfl)) fun E hE => (AW.sg hE rfl (bxA rfl rfl fun b2 => (asD rfl (OL.nil (AW.seq (AW.sg hE rfl (ldPA ag.Hidden rfl rfl (vs := [_,_,_,_,_,_,_,_,_,_,_]) rfl (nb9 rfl) ?_)))))))
 refine clv rfl (.cons (VLe.refl _) (.nil)) (hmm_Valid_okW g) (asD rfl (OL.nil (AW.sg hE rfl (mvD rfl (c_neq rfl rfl (c := false) (by exact cne_f (by omega)) (OL.nil (AW.cond rfl (fun hno => absurd hno (by decide)) (fun _ => ?_))))))))
 refine AW.skip (AW.seq (AW.sg hE rfl (ldPA ag.Hidden rfl rfl (vs := [_,_,_,_,_,_,_,_,_,_,_]) rfl (nb9 rfl) (clv rfl (.cons (VLe.refl _) (.nil)) (hmm_Plain_okW g) (nt rfl (OL.nil (AW.cond rfl (fun hno => absurd hno (by decide)) (fun _ => ?_))))))))
 refine AW.skip (AW.seq (AW.sg hE rfl (mvD rfl (lnL sl.intss rfl rfl (c_lss rfl rfl (c := false) (by exact decide_eq_false (by omega)) (mvD rfl (OL.yes rfl ?_)))))))
 refine mvD rfl (OL.yes rfl (lnL sl.intss rfl rfl (OL.yes rfl (c_gtr rfl rfl (c := false) (by exact decide_eq_false (by omega)) (pkF rfl rfl (OL.nil (AW.cond rfl (fun hno => absurd hno (by decide)) (fun _ => ?_))))))))
 refine AW.skip (AW.seq (AW.sg hE rfl (mvD rfl (lnL sl.intss rfl rfl (mvD rfl (OL.nil (AW.block ?_)))))))
 refine AW.whileK (α := Nat) [(2, _), (24, _), (25, _)] [(2, _)] (fun i => [(26, .d (dI i))]) (fun i => []) (fun i => i ≤ D.length) (fun i => D.length - i) 0 (.cons (knP rfl) (.cons (knD rfl) (.cons (knD rfl) .nil))) (.cons (owB rfl) .nil) ⟨Nat.zero_le _, .cons (VLe.refl _) .nil, .nil⟩ ?_
 intro i h1
 have h1 : i ≤ D.length := h1
 refine AW.sg hE rfl (c_lss rfl rfl rfl (OL.nil (AW.seq (AW.cond rfl (fun h27 => ?_) (fun h27 => ?_)))))
 ·try simp only [dx9] at h27
  refine AW.skip (AW.seq (AW.block (AW.seq ?_)))
  have kw := (k.get (show i < D.length by omega)).1
  refine AW.rg hE rfl (ixLn sl.intss [] rfl rfl (by omega) rfl rfl (ldRC ce.ints rfl (asD rfl (OL.nil (AW.sg hE rfl (mvD rfl (faP fd.Hidden_0 rfl rfl ?_)))))))
  refine ldPC ce.int rfl rfl rfl (clv rfl (.cons (VLe.refl _) (.cons (VLe.refl _) (.nil))) (words_Valid kw ⟨s0, s1⟩) (nt rfl (OL.nil (AW.cond rfl (fun hno => absurd hno (by decide)) (fun _ => ?_)))))
  exact AW.skip (AW.rg hE rfl (add_i64 rfl rfl (by omega) (mvD rfl (OL.nil (AW.again (x := i) (i + 1) (by omega) ⟨by omega, Knows.app (.cons (VLe.refl _) (.cons (VLe.refl _) (.cons (VLe.refl _) .nil))) (.cons (VLe.refl _) .nil), Owns.app (.cons rfl .nil) (.nil)⟩)))))
 ·try simp only [dx9] at h27
  exact AW.exit (AW.sg hE rfl (asD rfl (OL.nil (AW.ret (RetQ.r ⟨_, .tmp rfl .nil, .le (VLe.refl _)⟩)))))
theorem ascent_refuse {h : HM} {B : Nat} {D : List (List Int)} (g : h.Good B) (k : DataOK h D) : FSpec P F.ascent_refuse [vHM h, .d (dIss D)] (.d (dI 0)) := ascent_refuseW g.w k
end Go.Proofs.YtoohdcpikkkanaaGreat

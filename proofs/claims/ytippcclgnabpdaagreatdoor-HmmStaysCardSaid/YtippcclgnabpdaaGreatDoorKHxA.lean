/-
  Walks of package hmm: passing through no silent states, picking, spreading, stays (printed by mk2.py).
-/
import Derived.Test.YtippcclgnabpdaaGreatDoorKHmmB
import Derived.Test.YtippcclgnabpdaaGreatDoorKMod70
import Derived.Test.YtippcclgnabpdaaGreatDoorKWkB
import Derived.Test.YtippcclgnabpdaaGreatDoorKMod114
set_option linter.unusedVariables false
set_option linter.unusedSimpArgs false
namespace Go.Proofs.YtippcclgnabpdaaGreatDoor
open Go Go.AL
abbrev upI (n : Nat) : List Int := (List.range n).map fun i : Nat => (i : Int)
theorem upI_len {n : Nat} : (upI n).length = n := by simp
theorem upI_get {n i : Nat} (h : i < n) : (upI n).getD i 0 = (i : Int) := map_getD_range _ _ h
abbrev dStay (s : Nat) (d : List Rat) : D := .ag [dI s, dQs d]
theorem spr_succ {d l : List Rat} {s i : Nat} : (List.range (i + 1)).flatMap (sprI d s l) = (List.range i).flatMap (sprI d s l) ++ sprI d s l i := by
 rw [List.range_succ, List.flatMap_append]; simp
theorem sprI_snoc {d l : List Rat} {s i k : Nat} (h : k < (entR d s i).length) : (sprI d s l i).take (k + 1) = (sprI d s l i).take k ++ [l.getD i 0 * (entR d s i).getD k 0] := by
 unfold sprI
 rw [take_succ_getD (by rw [List.length_map]; exact h) 0, map_mem (d := 0) h]
theorem sprI_len {d l : List Rat} {s i : Nat} : (sprI d s l i).length = (entR d s i).length := by unfold sprI; rw [List.length_map]
theorem spr_lenle {d l : List Rat} {s : Nat} (h : d.length ≤ 16) : ∀ i : Nat, ((List.range i).flatMap (sprI d s l)).length ≤ i * 16
 | 0 => by simp
 | i + 1 => by
  rw [spr_succ, List.length_append, sprI_len, Nat.succ_mul]
  have := spr_lenle (l := l) (s := s) h i
  have : (entR d s i).length ≤ 16 := by unfold entR; split; exact h; exact (by decide : 1 ≤ 16)
  omega
theorem list_range_getD {α : Type} (l : List α) (d : α) : (List.range l.length).map (fun j => l.getD j d) = l := by
 refine List.ext_getElem (by simp) fun k h1 h2 => ?_
 simp [List.getD_eq_getElem?_getD, List.getElem?_eq_getElem h2]
theorem fresh_eachRat {l : List (Rat)} {C : Nat} (hl : Small C l) (hC : 1 ≤ C ∧ C ≤ 68719476736) (nl : l.length ≤ 1048576) : FSpec P F.fresh_each_Rat [.d (dQs l), .fn F.fresh_Rat []] (.d (dQs l)) := by
 refine FSpec.intro fn.fresh_each_Rat (by rfl) (by rfl) (nb9 (by rfl)) fun E hE => (AW.sg hE rfl (asM rfl (OL.nil (AW.seq (AW.sg hE rfl (mvD rfl (isNil sl.Rats.u rfl (fun y hy => by obtain ⟨a, _, rfl⟩ := List.mem_map.1 hy; exact Nat.succ_pos _) rfl fun b hb => ?_)))))))
 refine OL.nil (AW.cond rfl (fun h => ?_) (fun h => ?_))
 ·have hL : l = [] := by have := hb h; simpa using this
  exact AW.sg hE rfl (asM rfl (OL.nil (AW.ret (RetQ.r ⟨_, .tmp rfl .nil, .le (hL ▸ VLe.mt)⟩))))
 ·have _h := h
  refine AW.skip (AW.sg hE rfl (mvD rfl (lnL sl.Rats rfl rfl (mkL dQ 0 sl.Rats z.Rat vcs_q0 rfl rfl (Nat.le_refl _) (by omega) (by omega) rfl fun b12 => (asO rfl (OL.nil (AW.seq ?_)))))))
  refine AW.sg hE rfl (mvD rfl (lnL sl.Rats rfl rfl (mvD rfl (OL.nil (AW.block ?_)))))
  refine AW.whileK (α := Nat) [(1, _), (4, _), (5, _), (13, _), (14, _)] [] (fun i => [(15, .d (dI i))]) (fun i => [(12, .row b12 l.length T.Rat 3 ((fillF 0 (fun j => l.getD j 0) l.length i).map dQ))]) (fun i => i ≤ l.length) (fun i => l.length - i) 0 (.cons (knF rfl) (.cons (knM rfl) (.cons (knO rfl) (.cons (knD rfl) (.cons (knD rfl) .nil))))) .nil ⟨Nat.zero_le _, .rq1, .cons (by rw [fillF_zero]; rfl) .nil⟩ ?_
  intro i h1
  have h1 : i ≤ l.length := h1
  have hfl := fillF_len 0 (fun j => l.getD j 0) l.length i
  refine AW.sg hE rfl (c_lss rfl rfl rfl (OL.nil (AW.seq (AW.cond rfl (fun h16 => ?_) (fun h16 => ?_)))))
  ·try simp only [dx9] at h16
   refine AW.skip (AW.seq (AW.block (AW.sg hE rfl (mvD rfl (ixLn sl.Rats 0 rfl rfl (by omega) rfl rfl (ldRA ag.Rat rfl (vs := [_,_,_]) rfl (nb9 rfl) (al z.Rat rfl fun b7 => ?_)))))))
   refine asD rfl (sto sz.Rat rfl rfl rfl rfl rfl (nb9 rfl) (cells2 := [_,_,_]) rfl (OL.nil (AW.rg hE rfl (mvO rfl (mvD rfl (mvF rfl (ldPA ag.Rat rfl rfl (vs := [_,_,_]) rfl (nb9 rfl) ?_)))))))
   refine clv rfl (.cons (VLe.refl _) (.nil)) (fresh_Rat (Nat.le_trans (hl.get hC.1 i) hC.2)) (ixOn sl.Rats rfl rfl (by omega) (stE sz.Rat rfl vd_q rfl rfl (by rw [List.length_map]; omega) (es2 := (fillF 0 (fun j => l.getD j 0) l.length (i + 1)).map dQ) (by rw [← fillF_set (show i < l.length by omega), List.map_set]) (OL.nil (AW.rg hE rfl (add_i64 rfl rfl (by omega) (mvD rfl (OL.nil ?_)))))))
   exact AW.again (x := i) (i + 1) (by omega) ⟨by omega, Knows.app .rq5 .rq1, .cons rfl .nil⟩
  ·try simp only [dx9] at h16
   refine AW.exit (AW.seq ?_)
   obtain rfl : i = l.length := by omega
   have hfr : (List.range l.length).map (fun j => l.getD j 0) = l := list_range_getD l 0
   refine AW.freeze 12 rfl (AW.to [(5, .d (dQs l))] [] (.cons (frz_osl (by rw [List.length_map, fillF_len]) (by rw [fillF_all, hfr])) .nil) .nil ?_)
   exact AW.rg hE rfl (mvD rfl (asD rfl (OL.nil (AW.ret (RetQ.r ⟨_, .tmp rfl .nil, .le (VLe.refl _)⟩)))))
theorem fresh_Rats {l : List (Rat)} {C : Nat} (hl : Small C l) (hC : 1 ≤ C ∧ C ≤ 68719476736) (nl : l.length ≤ 1048576) : FSpec P F.fresh_Rats [.d (dQs l)] (.d (dQs l)) := by
 refine FSpec.intro fn.fresh_Rats (by rfl) (by rfl) (nb9 (by rfl)) fun E hE => (AW.sg hE rfl (asM rfl (OL.nil (AW.sg hE rfl (mvD rfl (clv rfl (.cons (VLe.refl _) (.cons (VLe.refl _) (.nil))) (fresh_eachRat hl hC nl) (asD rfl ?_)))))))
 exact OL.nil (AW.ret (RetQ.r ⟨_, .tmp rfl .nil, .le (VLe.refl _)⟩))
theorem hmm_weightW {q : Rat} : FSpec P F.hmm_weight [vQ q] (vW q) := by
 refine FSpec.intro fn.hmm_weight (by rfl) (by rfl) (nb9 (by rfl)) fun E hE => (AW.sg hE rfl (bxA rfl rfl fun b1 => (al z.Weight rfl fun b2 => (OL.nil (AW.sg hE rfl (ldPA ag.Rat rfl rfl (vs := [_,_,_]) rfl (nb9 rfl) (bd z.Weight pl.Weight (cs := [_,_,_,_,_,_,_,_]) rfl ?_)))))))
 refine sto sz.Weight rfl rfl rfl rfl rfl (nb9 rfl) (cells2 := [_,_,_,_,_,_,_,_]) rfl (OL.nil ?_)
 exact AW.ret (RetQ.r ⟨_, .cellA rfl rfl ag.Weight (nb9 rfl) .nil, .ag (.cons (.le (VLe.refl _)) (.cons (.le (VLe.refl _)) (.cons (.le (VLe.refl _)) (.cons (.le (VLe.refl _)) (.cons (.le (VLe.refl _)) (.cons (.le (VLe.refl _)) (.cons (.le (VLe.mt)) (.cons (.le (VLe.mt)) .nil))))))))⟩)
theorem through0 {h : HM} {l : List Rat} {e : Rat} {C : Nat} (hl : Small C l) (hC : 1 ≤ C ∧ C ≤ 68719476736) (nl : l.length ≤ 1048576) (he : sz e ≤ 68719476736) : FSpec P F.hmm_through [vHM h, .d (ints []), .d (dQs l), vQ e] (.tup [.d (dQs l), vQ e]) := by
 refine FSpec.intro fn.hmm_through (by rfl) (by rfl) (nb9 (by rfl)) fun E hE => (AW.sg hE rfl (bxA rfl rfl fun b4 => (bxA rfl rfl fun b7 => (asM rfl (al z.Rat rfl fun b9 => (OL.nil (AW.seq ?_)))))))
 refine AW.dg 1 [0,1,2,3,4,5] order_free hE rfl (by kernel_rfl) (OI.of_OL (os := [_,_,_,_,_,_]) rfl ?_)
 refine mvD rfl (clv rfl (.cons (VLe.refl _) (.nil)) (fresh_Rats hl hC nl) (ldPA ag.Rat rfl rfl (vs := [_,_,_]) rfl (nb9 rfl) (clv rfl (.cons (VLe.refl _) (.nil)) (fresh_Rat (q := e) he) (asD rfl (sto sz.Rat rfl rfl rfl rfl rfl (nb9 rfl) (cells2 := [_,_,_]) rfl (OL.nil (AW.seq ?_)))))))
 refine AW.sg hE rfl (mvD rfl (lnL sl.ints rfl rfl (mvD rfl (OL.nil (AW.block ?_)))))
 refine AW.whileK (α := Unit) [(2, _), (4, _), (7, _), (8, _), (9, _), (19, _), (20, _)] [(4, _), (9, _)] (fun _u => [(21, .d (dI 0))]) (fun _u => [(7, .box b7 T.Rat (cellsQ e))]) (fun _u => True) (fun _u => 0) () (.cons (knD rfl) (.cons (knP rfl) (.cons (knP rfl) (.cons (knM rfl) (.cons (knP rfl) (.cons (knD rfl) (.cons (knD rfl) .nil))))))) (.cons (owB rfl) (.cons (owB rfl) .nil)) ⟨trivial, .rq1, .cons rfl .nil⟩ ?_
 rintro ⟨⟩ -
 refine AW.sg hE rfl (c_lss rfl rfl rfl (OL.nil (AW.seq (AW.cond rfl (fun hno => absurd hno (by simp)) (fun _ => ?_)))))
 refine AW.exit (AW.seq (AW.region_tree order_free (by rw [hE]; rfl) (OT.node [0, 1] (os := [_,_]) (by kernel_rfl) (by decide) rfl ⟨?_, ?_, trivial⟩)))
 ·refine mvD rfl (OL.nil (OT.node [1, 2] (os := [_,_]) (by kernel_rfl) (by decide) rfl ⟨?_, ?_, trivial⟩))
  ·refine ldPA ag.Rat rfl rfl (vs := [_,_,_]) rfl (nb9 rfl) (OL.nil (OT.node [2] (os := [_]) (by kernel_rfl) (by decide) rfl ⟨?_, trivial⟩))
   refine asD rfl (OL.nil (OT.node [3] (os := [_]) (by kernel_rfl) (by decide) rfl ⟨?_, trivial⟩))
   exact sto sz.Rat rfl rfl rfl rfl rfl (nb9 rfl) (cells2 := [_,_,_]) rfl (OL.nil (OT.leaf (by kernel_rfl) (AW.ret (RetQ.r ⟨_, .tmp rfl (.cellA rfl rfl ag.Rat (nb9 rfl) .nil), _, .cons (.le (VLe.refl _)) (.cons (.ag (.cons (.le (VLe.refl _)) (.cons (.le (VLe.refl _)) (.cons (.le (VLe.refl _)) .nil)))) .nil), rfl⟩))))
  ·refine asD rfl (OL.nil (OT.node [1] (os := [_]) (by kernel_rfl) (by decide) rfl ⟨?_, trivial⟩))
   refine ldPA ag.Rat rfl rfl (vs := [_,_,_]) rfl (nb9 rfl) (OL.nil (OT.node [3] (os := [_]) (by kernel_rfl) (by decide) rfl ⟨?_, trivial⟩))
   exact sto sz.Rat rfl rfl rfl rfl rfl (nb9 rfl) (cells2 := [_,_,_]) rfl (OL.nil (OT.leaf (by kernel_rfl) (AW.ret (RetQ.r ⟨_, .tmp rfl (.cellA rfl rfl ag.Rat (nb9 rfl) .nil), _, .cons (.le (VLe.refl _)) (.cons (.ag (.cons (.le (VLe.refl _)) (.cons (.le (VLe.refl _)) (.cons (.le (VLe.refl _)) .nil)))) .nil), rfl⟩))))
 ·refine ldPA ag.Rat rfl rfl (vs := [_,_,_]) rfl (nb9 rfl) (OL.nil (OT.node [0] (os := [_]) (by kernel_rfl) (by decide) rfl ⟨?_, trivial⟩))
  refine mvD rfl (OL.nil (OT.node [2] (os := [_]) (by kernel_rfl) (by decide) rfl ⟨?_, trivial⟩))
  refine asD rfl (OL.nil (OT.node [3] (os := [_]) (by kernel_rfl) (by decide) rfl ⟨?_, trivial⟩))
  exact sto sz.Rat rfl rfl rfl rfl rfl (nb9 rfl) (cells2 := [_,_,_]) rfl (OL.nil (OT.leaf (by kernel_rfl) (AW.ret (RetQ.r ⟨_, .tmp rfl (.cellA rfl rfl ag.Rat (nb9 rfl) .nil), _, .cons (.le (VLe.refl _)) (.cons (.ag (.cons (.le (VLe.refl _)) (.cons (.le (VLe.refl _)) (.cons (.le (VLe.refl _)) .nil)))) .nil), rfl⟩))))
theorem pickH {l : List Rat} {n : Nat} (hl : l.length = n) (hn : n ≤ 1048576) : FSpec P F.hmm_Emitting_1 [.d (dQs l), .ref [ints (upI n)]] (.d (dQs l)) := by
 have hul := upI_len (n := n)
 refine FSpec.intro fn.hmm_Emitting_1 (by rfl) (by rfl) (nb9 (by rfl)) fun E hE => (AW.sg hE rfl (asM rfl (OL.nil (AW.sg hE rfl (ldRC ce.ints rfl (lnL sl.ints rfl rfl ?_))))))
 rw [hul]
 refine mkL dQ 0 sl.Rats z.Rat vcs_q0 rfl rfl (Nat.le_refl _) (by omega) (by omega) rfl fun b9 => (asO rfl (OL.nil (AW.seq (AW.sg hE rfl (ldRC ce.ints rfl (lnL sl.ints rfl rfl ?_))))))
 rw [hul]
 refine mvD rfl (OL.nil (AW.block ?_))
 refine AW.whileK (α := Nat) [(0, _), (3, _), (4, _), (10, _), (11, _)] [] (fun i => [(12, .d (dI i))]) (fun i => [(9, .row b9 n T.Rat 3 ((fillF 0 (fun j => l.getD j 0) n i).map dQ))]) (fun i => i ≤ n) (fun i => n - i) 0 (.cons (knD rfl) (.cons (knM rfl) (.cons (knO rfl) (.cons (knD rfl) (.cons (knD rfl) .nil))))) .nil ⟨Nat.zero_le _, .rq1, .cons (by rw [fillF_zero]; rfl) .nil⟩ ?_
 intro i h1
 have h1 : i ≤ n := h1
 have hfl := fillF_len (d := (0 : Rat)) (g := fun j => l.getD j 0) (n := n) (i := i)
 refine AW.sg hE rfl (c_lss rfl rfl rfl (OL.nil (AW.seq (AW.cond rfl (fun h13 => ?_) (fun h13 => ?_)))))
 ·try simp only [dx9] at h13
  refine AW.skip (AW.seq (AW.block (AW.seq ?_)))
  have hi : i < n := by omega
  have hug := upI_get hi
  refine AW.rg hE rfl (mvD rfl (ixLn sl.ints 0 rfl rfl (by omega) rfl rfl (ldRC ce.int rfl (asD rfl (asD rfl (OL.nil (AW.rg hE rfl ?_)))))))
  refine mvO rfl (mvD rfl (mvD rfl (mvD rfl (ixLe i sl.Rats 0 rfl (congrArg (fun z => V.d (dI z)) hug) rfl (by omega) rfl rfl (ldRA ag.Rat rfl (vs := [_,_,_]) rfl (nb9 rfl) (ixOn sl.Rats rfl rfl (by omega) (stE sz.Rat rfl (d := dQ (l.getD i 0)) vd_q rfl rfl (by rw [List.length_map]; omega) (es2 := (fillF 0 (fun j => l.getD j 0) n (i + 1)).map dQ) (by rw [← fillF_set hi, List.map_set]) ?_)))))))
  exact OL.nil (AW.rg hE rfl (add_i64 rfl rfl (by omega) (mvD rfl (OL.nil (AW.again (x := i) (i + 1) (by omega) ⟨by omega, Knows.app .rq5 .rq1, .cons rfl .nil⟩)))))
 ·try simp only [dx9] at h13
  refine AW.exit (AW.seq ?_)
  obtain rfl : i = n := by omega
  have hfr : (List.range i).map (fun j => l.getD j 0) = l := by rw [← hl]; exact list_range_getD l 0
  refine AW.freeze 9 rfl (AW.to [(4, .d (dQs l))] [] (.cons (frz_osl (by rw [List.length_map, fillF_len]) (by rw [fillF_all, hfr])) .nil) .nil ?_)
  exact AW.rg hE rfl (mvD rfl (asD rfl (OL.nil (AW.ret (RetQ.r ⟨_, .tmp rfl .nil, .le (VLe.refl _)⟩)))))
set_option maxHeartbeats 1600000 in
theorem spreadH {l d : List Rat} {s n : Nat} (hl : l.length = n) (hn : n ≤ 64) (hd : d.length ≤ 16) (zl : ∀ i, sz (l.getD i 0) ≤ 1048576) (zd : ∀ i j, sz ((entR d s i).getD j 0) ≤ 1048576) : FSpec P F.hmm_Expand_1 [.d (dQs l), .ref [dQss ((List.range n).map (entR d s))]] (.d (dQs (sprR d s l))) := by
 refine FSpec.intro fn.hmm_Expand_1 (by rfl) (by rfl) (nb9 (by rfl)) fun E hE => (AW.sg hE rfl (asM rfl (OL.nil (AW.sg hE rfl (asM rfl (OL.nil (AW.seq ?_)))))))
 refine AW.seq (AW.own 4 30 T.Rat 3 rfl rfl (AW.rg hE rfl (mvD rfl (lnL sl.Rats rfl rfl (mvD rfl (OL.nil (AW.block ?_)))))))
 refine AW.whileK (α := Nat × Nat × Nat) [(1, _), (3, _), (9, _), (10, _)] [] (fun (i, bq, cq) => [(4, .osl 30 bq ((List.range i).flatMap (sprI d s l)).length cq), (11, .d (dI i))]) (fun (i, bq, cq) => [(30, .row bq cq T.Rat 3 (((List.range i).flatMap (sprI d s l)).map dQ))]) (fun (i, bq, cq) => i ≤ n) (fun (i, bq, cq) => n - i) (0, 0, 0) (.cons (knR rfl) (.cons (knM rfl) (.cons (knD rfl) (.cons (knD rfl) .nil)))) .nil ⟨Nat.zero_le _, .rq2, .cons rfl .nil⟩ ?_
 rintro ⟨i, bq, cq⟩ h1
 have h1 : i ≤ n := h1
 have hpl := spr_lenle (l := l) (s := s) hd i
 refine AW.sg hE rfl (c_lss rfl rfl rfl (OL.nil (AW.seq (AW.cond rfl (fun h12 => ?_) (fun h12 => ?_)))))
 ·try simp only [dx9] at h12
  refine AW.skip (AW.seq (AW.block (AW.seq ?_)))
  have hi : i < n := by omega
  have hge : ((List.range n).map (entR d s)).getD i [] = entR d s i := map_getD_range _ _ hi
  refine AW.rg hE rfl (mvD rfl (ixLn sl.Rats 0 rfl rfl (by omega) rfl rfl (ldRA ag.Rat rfl (vs := [_,_,_]) rfl (nb9 rfl) (al z.Rat rfl fun b6 => (asD rfl (sto sz.Rat rfl rfl rfl rfl rfl (nb9 rfl) (cells2 := [_,_,_]) rfl (OL.nil ?_)))))))
  refine AW.sg hE rfl (ldRC ce.Ratss rfl (mvD rfl (ixLn sl.Ratss [] rfl rfl (by rw [List.length_map, List.length_range]; exact hi) rfl rfl (ldRC ce.Rats rfl (lnL sl.Rats rfl rfl ?_)))))
  rw [hge]
  refine mvD rfl (OL.nil (AW.block ?_))
  refine AW.whileK (α := Nat × Nat × Nat) [(1, _), (3, _), (6, _), (9, _), (10, _), (11, _), (19, _), (20, _)] [(6, _)] (fun (k, bq, cq) => [(4, .osl 30 bq (((List.range i).flatMap (sprI d s l)) ++ (sprI d s l i).take k).length cq), (21, .d (dI k))]) (fun (k, bq, cq) => [(30, .row bq cq T.Rat 3 ((((List.range i).flatMap (sprI d s l)) ++ (sprI d s l i).take k).map dQ))]) (fun (k, bq, cq) => k ≤ (entR d s i).length) (fun (k, bq, cq) => (entR d s i).length - k) (0, bq, cq) (.cons (knR rfl) (.cons (knM rfl) (.cons (knP rfl) (.cons (knD rfl) (.cons (knD rfl) (.cons (knD rfl) (.cons (knD rfl) (.cons (knD rfl) .nil)))))))) (.cons (owB rfl) .nil) ⟨Nat.zero_le _, .cons (by rw [List.take_zero, List.append_nil]; exact VLe.refl _) .rq1, .cons (by rw [List.take_zero, List.append_nil]; rfl) .nil⟩ ?_
  rintro ⟨k, bq, cq⟩ h2
  have h2 : k ≤ (entR d s i).length := h2
  have hel : (entR d s i).length ≤ 16 := by unfold entR; split; exact hd; exact (by decide : 1 ≤ 16)
  have hcl : (((List.range i).flatMap (sprI d s l)) ++ (sprI d s l i).take k).length ≤ i * 16 + 16 := by rw [List.length_append, List.length_take]; omega
  refine AW.sg hE rfl (c_lss rfl rfl rfl (OL.nil (AW.seq (AW.cond rfl (fun h22 => ?_) (fun h22 => ?_)))))
  ·try simp only [dx9] at h22
   refine AW.skip (AW.seq (AW.block (AW.seq ?_)))
   have hk : k < (entR d s i).length := by omega
   have z1 := zl i
   have z2 := zd i k
   have z3 := sz_mul (l.getD i 0) ((entR d s i).getD k 0)
   refine AW.rg hE rfl (ixLn sl.Rats 0 rfl rfl hk rfl rfl (ldRA ag.Rat rfl (vs := [_,_,_]) rfl (nb9 rfl) (al z.Rat rfl fun b8 => (sto sz.Rat rfl rfl rfl rfl rfl (nb9 rfl) (cells2 := [_,_,_]) rfl (OL.nil (AW.rg hE rfl (mvO rfl ?_)))))))
   refine ldPA ag.Rat rfl rfl (vs := [_,_,_]) rfl (nb9 rfl) (ldPA ag.Rat rfl rfl (vs := [_,_,_]) rfl (nb9 rfl) (clv rfl .rq2 (rational_MulQ (by omega) (by omega)) (lt1 (y := dQ (l.getD i 0 * (entR d s i).getD k 0)) sl.Rats vd_q rfl (by decide) ?_)))
   refine apO sl.Rats rfl rfl rfl (by rw [List.length_map]) (VC.d _) (fun y hy => by rw [List.mem_singleton.1 hy]; rfl) (by simp only [List.length_singleton]; omega) (by simp only [List.length_singleton]; omega) (.inr rfl) (ys := (((List.range i).flatMap (sprI d s l)) ++ (sprI d s l i).take (k + 1)).map dQ) (by rw [sprI_snoc hk, ← List.append_assoc]; simp) (n2 := (((List.range i).flatMap (sprI d s l)) ++ (sprI d s l i).take (k + 1)).length) (by rw [sprI_snoc hk, ← List.append_assoc]; simp only [List.length_append, List.length_singleton]) fun b30 c30 => ?_
   refine asO rfl (OL.nil (AW.rg hE rfl (add_i64 rfl rfl (by omega) (mvD rfl (OL.nil ?_)))))
   exact AW.again (x := (k, bq, cq)) (k + 1, b30, c30) (by (simp only []; omega)) ⟨by omega, Knows.app .rq8 .rq2, Owns.app (.cons rfl .nil) (.cons rfl .nil)⟩
  ·try simp only [dx9] at h22
   refine AW.exit ?_
   have hk9 : (List.range (i + 1)).flatMap (sprI d s l) = (((List.range i).flatMap (sprI d s l)) ++ (sprI d s l i).take k) := by rw [spr_succ, List.take_of_length_le (by rw [sprI_len]; omega)]
   refine AW.rg hE rfl (add_i64 rfl rfl (by omega) (mvD rfl (OL.nil ?_)))
   exact AW.again (x := (i, bq, cq)) (i + 1, bq, cq) (by (simp only []; omega)) ⟨by omega, Knows.app .rq4 (.cons (by rw [hk9]; exact VLe.refl _) .rq1), .cons (by rw [hk9]; rfl) .nil⟩
 ·try simp only [dx9] at h12
  refine AW.exit (AW.seq ?_)
  obtain rfl : i = n := by omega
  have hfin : ((List.range i).flatMap (sprI d s l)) = sprR d s l := by unfold sprR; rw [hl]
  refine AW.freeze 30 rfl (AW.to [(4, .d (dQs (sprR d s l)))] [] (.cons (frz_osl (by rw [List.length_map]) (by rw [hfin])) .nil) .nil ?_)
  exact AW.rg hE rfl (mvD rfl (asD rfl (OL.nil (AW.ret (RetQ.r ⟨_, .tmp rfl .nil, .le (VLe.refl _)⟩)))))
end Go.Proofs.YtippcclgnabpdaaGreatDoor

/-
  Walks of the list of paths, part 3: a beginning is extended (printed by mk2.py).
-/
import Derived.Test.YtonndaibggjmjaaGreatKLsB
import Derived.Test.YtonndaibggjmjaaGreatKAlg31
set_option linter.unusedVariables false
set_option linter.unusedSimpArgs false
namespace Go.Proofs.YtonndaibggjmjaaGreat
open Go Go.AL
theorem vd_to {x y : V} {d : D} (h : x = y) (hd : VD y d) : VD x d := h ▸ hd
theorem vc_to {x y : V} {d : D} (h : x = y) (hd : VC y d) : VC x d := h ▸ hd
theorem upd_noneB {f : Nat → Option Blk} {d e : Nat} {b : Option Blk} (hne : e ≠ d) (h : f e = none) : upd (upd f d b) e none = upd f d b := by
 funext t
 by_cases ht : t = e
 ·subst ht; rw [upd_same, upd_ne _ _ hne, h]
 ·rw [upd_ne _ _ ht]
theorem over_old {s : S} {Mc Mk : Mem} {t d : Nat} {v : V} {w : Option Blk} (h : Mc t = none) (hs : s.M t = w) : ((⟨s.ρ, s.M.over Mc Mk⟩ : S).put (some d) v).M t = w := by
 show (if (Mc t).isSome then Mk t else s.M t) = w
 rw [h]; exact hs
theorem kids_succ (bst : List Int → Rat) (x : List Int) (i : Nat) : kidsP (i + 1) bst x = kidsP i bst x ++ (if 0 < bst (x ++ [(i : Int)]) then [x ++ [(i : Int)]] else []) := by
 unfold kidsP
 rw [List.range_succ, List.map_append, List.filter_append]
 congr 1
 by_cases h : 0 < bst (x ++ [(i : Int)])
 ·rw [if_pos h]; simp [h]
 ·rw [if_neg h]; simp [h]
theorem sgn_gt {q : Rat} : 0 < sgnQ q ↔ 0 < q := by
 rw [← sgnQ_pos]
 have h := sgnQ_cases q
 omega
theorem so_sz {h : HM} {B : Nat} (f : h.Form B) (w p : List Int) (hp : p.length ≤ 256) : sz (soL h w p) ≤ 1048576 := by
 unfold soL
 split
 ·rw [sz_zero]; decide
 ·have := wgt_sz f w p p.length; omega
theorem bst_sz {h : HM} {B : Nat} (f : h.Form B) {w p : List Int} (i : Nat) (hw : w.length ≤ 256) (hp : p.length < w.length) : sz (bstL h w (p ++ [(i : Int)])) ≤ 2097152 := by
 rw [bst_so p i hp]
 have h1 := so_sz f w (p ++ [(i : Int)]) (by rw [List.length_append, List.length_singleton]; omega)
 have h2 := (restG_szB f w every (d := w.length - 1 - p.length) (by omega)).get (by decide) i
 have := sz_mul (soL h w (p ++ [(i : Int)])) ((restG h w every (w.length - 1 - p.length)).getD i 0)
 omega
theorem kids_sz {h : HM} {B : Nat} (f : h.Form B) {w p : List Int} (n : Nat) (hw : w.length ≤ 256) (hp : p.length < w.length) : SzP ((kidsP n (bstL h w) p).map (prtL h w)) := fun y hy => by
 obtain ⟨z, hz, rfl⟩ := List.mem_map.1 hy
 obtain ⟨⟨i, hi, rfl⟩, _⟩ := kids_mem.1 hz
 have := bst_sz f i hw hp
 refine ⟨by show sz (bstL h w (p ++ [(i : Int)])) ≤ _; omega, ?_⟩
 show (p ++ [(i : Int)]).length ≤ 1024
 rw [List.length_append, List.length_singleton]; omega
theorem kids_len (n : Nat) (bst : List Int → Rat) (x : List Int) : (kidsP n bst x).length ≤ n := by
 refine Nat.le_trans (List.length_filter_le ..) ?_
 rw [List.length_map, List.length_range]; exact Nat.le_refl _
theorem SzP.app {a b : List Prt} (ha : SzP a) (hb : SzP b) : SzP (a ++ b) := fun p hp => (List.mem_append.1 hp).elim (ha p) (hb p)
theorem fr_range {n : Nat} {p : List Int} (h : InS n p) (h0 : 1 ≤ n) : -1 ≤ frL p ∧ frL p < (n : Int) := by
 unfold frL
 split
 ·omega
 ·have := h (p.getD (p.length - 1) 0) (getD_mem (by omega) 0); omega
theorem grow_perm {h : HM} {w p : List Int} {i : Nat} {ps l l2 : List Prt} (hp : l.Perm ((kidsP i (bstL h w) p).map (prtL h w) ++ ps)) (hk : 0 < bstL h w (p ++ [(i : Int)])) (hp2 : l2.Perm (prtL h w (p ++ [(i : Int)]) :: l)) :
  l2.Perm ((kidsP (i + 1) (bstL h w) p).map (prtL h w) ++ ps) := by
 rw [kids_succ, if_pos hk, List.map_append, List.map_singleton]
 refine hp2.trans ((List.Perm.cons _ hp).trans ?_)
 rw [List.append_assoc]
 exact (List.perm_middle (a := prtL h w (p ++ [(i : Int)])) (l₁ := (kidsP i (bstL h w) p).map (prtL h w)) (l₂ := ps)).symm
abbrev exL (h : HM) (w : List Int) (b1 b4 b q c n : Nat) (ps : List Prt) : List (Nat × Blk) := [(1, .box b1 T.ptable [.ref (cellsT h w (colsG h w every w.length))]), (4, .box b4 T.pheap [.ptr 1000 b 0]), (1000, .box b T.heap [.osl 1001 q n c]), (1001, rowP q c ps)]
def exM (h : HM) (w : List Int) (b1 b4 b q c n : Nat) (ps : List Prt) : Mem := lk none ((exL h w b1 b4 b q c n ps).map fun p => (p.1, some p.2))
theorem exM_none {h : HM} {w : List Int} {b1 b4 b q c n q2 c2 n2 : Nat} {ps ps2 : List Prt} (id : Nat) (hk : exM h w b1 b4 b q c n ps id = none) : exM h w b1 b4 b q2 c2 n2 ps2 id = none := by
 unfold exM at *
 simp only [exL, List.map_cons, List.map_nil, lk] at hk ⊢
 repeat (split at hk; · cases hk)
 simp only [*, if_false]
def ownX12 : Nat → Option Nat
 | 56 => some 0
 | 57 => some 1
 | 58 => some 2
 | 59 => some 3
 | 60 => some 4
 | 61 => some 5
 | 62 => some 6
 | 63 => some 7
 | 64 => some 8
 | 65 => some 9
 | 66 => some 10
 | 67 => some 11
 | _ => none
theorem ownX12_inj {t i : Nat} (h : ownX12 t = some i) : t = [56, 57, 58, 59, 60, 61, 62, 63, 64, 65, 66, 67].getD i 0 := by
 unfold ownX12 at h
 split at h <;> first | (cases h; rfl) | cases h
noncomputable def valX12 (b b5 : Nat) (p : List Int) (i : Nat) (y : Prt) (t : Nat) (β : Nat → Nat × Nat) : V :=
 match t with
 | 56 => .ptr 1000 b 0
 | 57 => vHp b
 | 58 => vQ y.best
 | 59 => vQ y.so
 | 60 => .ptr 5 b5 6
 | 61 => .d (ints p)
 | 62 => .osl 62 (β 62).1 p.length (β 62).2
 | 63 => .d (dI i)
 | 64 => .d (.sl [dI i])
 | 65 => .d (ints (p ++ [(i : Int)]))
 | 66 => vPrt y
 | 67 => .ifc T.part (vPrt y)
 | _ => .junk
noncomputable abbrev telX12 (b b5 : Nat) (p : List Int) (i : Nat) (y : Prt) : List Tell := [⟨62, 9, fun β => deadBlk⟩, ⟨62, 6, fun β => .row (β 62).1 (β 62).2 T.int 1 (p.map dI)⟩]
theorem casX12 {p : Nat → Prop} (h0 : p 0) (h1 : p 1) (h2 : p 2) (h3 : p 3) (h4 : p 4) (h5 : p 5) (h6 : p 6) (h7 : p 7) (h8 : p 8) (h9 : p 9) (h10 : p 10) (h11 : p 11) : ∀ i, i < 12 → p i := fun i hi => by
 have : i = 0 ∨ i = 1 ∨ i = 2 ∨ i = 3 ∨ i = 4 ∨ i = 5 ∨ i = 6 ∨ i = 7 ∨ i = 8 ∨ i = 9 ∨ i = 10 ∨ i = 11 := by omega
 rcases this with rfl | rfl | rfl | rfl | rfl | rfl | rfl | rfl | rfl | rfl | rfl | rfl <;> assumption
set_option maxRecDepth 8000 in
set_option maxHeartbeats 3200000 in
theorem vit_extend {h : HM} {B : Nat} {w : List Int} {x : Prt} {b1 b4 b q c : Nat} {ps : List Prt} (f : h.Form B) (k : WordOK h w) (hin : InS h.st x.path) (hl : x.path.length < w.length) (hso : x.path.length ≠ 0 → x.so = soL h w x.path) (hh : HeapN ltP d0P ps.length ps) (hz : SzP ps) (hN : ps.length + h.st ≤ 800000) : FSpecE P F.viterbi_List_1 [vPrt x, .ptr 1 b1 0, .ref (dHM h), .ref [ints w], .ptr 4 b4 0] (exM h w b1 b4 b q c ps.length ps) (fun _ : Nat × Nat × List Prt => .tup []) (fun y => exM h w b1 b4 b y.1 y.2.1 y.2.2.length y.2.2) (fun y => y.2.2.Perm ((kidsP h.st (bstL h w) x.path).map (prtL h w) ++ ps) ∧ HeapN ltP d0P y.2.2.length y.2.2) := by
 have k1 := k.1
 have n0 := f.st0
 have n1 := f.st1
 have hfr := fr_range hin n0
 have hrl := restG_len h w every (w.length - 1 - x.path.length)
 have hsx := so_sz f w x.path (by omega)
 have hcl := colsG_len h w every w.length
 have hx := k.symX (t := x.path.length) hl
 refine FSpecE.intro fn.viterbi_List_1 (by rfl) (by rfl) (nb9 (by rfl)) fun E hE => (AW.sg hE rfl (bxA rfl rfl fun b5 => (OL.nil (AW.sg hE rfl (faP fd.part_2 rfl rfl (ldPC ce.ints rfl rfl rfl (lnL sl.ints rfl rfl ?_)))))))
 refine asD rfl (asD rfl (OL.nil ?_))
 refine AW.midK (α := Unit) [(1, _), (2, _), (3, _), (4, _), (5, _), (6, _)] [(1, _), (4, _), (5, _), (1000, _), (1001, _)] (fun _u => [(7, .d (dI (frL x.path)))]) (fun _u => []) (fun _u => True) (.cons (knP rfl) (.cons (knR rfl) (.cons (knR rfl) (.cons (knP rfl) (.cons (knP rfl) (.cons (knD rfl) .nil)))))) (.cons (owB rfl) (.cons (owB rfl) (.cons (owB rfl) (.cons (owB rfl) (.cons (owR rfl) .nil))))) ?_ ?_
 ·refine AW.sg hE rfl (mvD rfl (c_gtr rfl rfl rfl (OL.nil (AW.cond rfl (fun h0 => ?_) (fun h0 => ?_)))))
  ·have h0 : 0 < x.path.length := by have := of_decide_eq_true h0; omega
   refine AW.rg hE rfl (faP fd.part_2 rfl rfl (ldPC ce.ints rfl rfl rfl (mvD rfl (bo rfl rfl (bin_sub (c := ((x.path.length - 1 : Nat) : Int)) (by omega) (wrap_i64 (by omega))) (ixLn sl.ints 0 rfl rfl (by omega) rfl rfl (ldRC ce.int rfl (asD rfl ?_)))))))
   refine OL.nil ?_
   exact AW.reach () ⟨trivial, Knows.app .rq6 (.cons (VLe.int (by unfold frL; rw [if_neg (by omega)])) .nil), Owns.app (.cons rfl (.cons rfl (.cons rfl (.cons rfl (.cons rfl .nil))))) (.nil)⟩
  ·have h0 : x.path.length = 0 := by have := of_decide_eq_false h0; omega
   refine AW.skip ?_
   exact AW.reach () ⟨trivial, Knows.app .rq6 (.cons (VLe.int (by unfold frL; rw [if_pos h0])) .nil), Owns.app (.cons rfl (.cons rfl (.cons rfl (.cons rfl (.cons rfl .nil))))) (.nil)⟩
 rintro ⟨⟩ hφ
 refine AW.sg hE rfl (ldPC ce.ptable rfl rfl rfl (ncR rfl (faR fd.table_2 rfl rfl (ldRC ce.Ratss rfl (mvD rfl (ixLn sl.Ratss [] rfl rfl (by omega) rfl rfl (ldRC ce.Rats rfl ?_)))))))
 rw [colsG_get hl (by omega)]
 refine lnL sl.Rats rfl rfl (mvD rfl (OL.nil (AW.block ?_)))
 refine AW.whileK (α := Nat × Nat × Nat × List Prt) [(2, _), (3, _), (4, _), (5, _), (6, _), (7, _), (29, _), (30, _)] [(1, _), (4, _), (5, _)] (fun (i, q, c, l) => [(31, .d (dI i))]) (fun (i, q, c, l) => [(1000, .box b T.heap [.osl 1001 q l.length c]), (1001, rowP q c l)]) (fun (i, q, c, l) => i ≤ h.st ∧ l.Perm ((kidsP i (bstL h w) x.path).map (prtL h w) ++ ps) ∧ HeapN ltP d0P l.length l) (fun (i, q, c, l) => h.st - i) (0, q, c, ps) (.cons (knR rfl) (.cons (knR rfl) (.cons (knP rfl) (.cons (knP rfl) (.cons (knD rfl) (.cons (knD rfl) (.cons (knD rfl) (.cons (knD rfl) .nil)))))))) (.cons (owB rfl) (.cons (owB rfl) (.cons (owB rfl) .nil))) ⟨⟨Nat.zero_le _, List.Perm.refl _, hh⟩, .rq1, .cons rfl (.cons rfl .nil)⟩ ?_
 rintro ⟨i, q, c, l⟩ ⟨h1, hp, hhl⟩
 have h1 : i ≤ h.st := h1
 have hp : l.Perm ((kidsP i (bstL h w) x.path).map (prtL h w) ++ ps) := hp
 have hhl : HeapN ltP d0P l.length l := hhl
 have hkl := kids_len i (bstL h w) x.path
 have hpl := hp.length_eq
 rw [List.length_append, List.length_map] at hpl
 refine AW.sg hE rfl (c_lss rfl rfl rfl (OL.nil (AW.seq (AW.cond rfl (fun h32 => ?_) (fun h32 => ?_)))))
 ·try simp only [dx9] at h32
  refine AW.skip (AW.seq (AW.block (AW.seq ?_)))
  have hi : i < h.st := by omega
  have hri := (restG_szB f w every (d := w.length - 1 - x.path.length) (by omega)).get (by decide) i
  have hez := entQ_sz f (frL x.path) i (symX w x.path.length)
  have hsz := so_sz f w (x.path ++ [(i : Int)]) (by rw [List.length_append, List.length_singleton]; omega)
  have hbz := bst_sz f i k1 hl
  have hzc : SzP ((prtL h w (x.path ++ [(i : Int)])) :: l) := (SzP.app (a := [(prtL h w (x.path ++ [(i : Int)]))]) (fun y hy => by rw [List.mem_singleton.1 hy]; exact ⟨by show sz (bstL h w (x.path ++ [(i : Int)])) ≤ _; omega, by show (x.path ++ [(i : Int)]).length ≤ _; rw [List.length_append, List.length_singleton]; omega⟩) ((SzP.app (kids_sz f i k1 hl) hz).perm hp))
  refine AW.rg hE rfl (mvD rfl (ixLn sl.Rats 0 rfl rfl (by omega) rfl rfl (ldRA ag.Rat rfl (vs := [_,_,_]) rfl (nb9 rfl) (al z.Rat rfl fun b9 => (asD rfl (sto sz.Rat rfl rfl rfl rfl rfl (nb9 rfl) (cells2 := [_,_,_]) rfl (OL.nil ?_)))))))
  refine AW.seq (AW.dg 1 [0,1,2,3,4,5,6,7,8,9] order_free hE rfl (by kernel_rfl) (OI.of_OL (os := [_,_,_,_,_,_,_,_,_,_]) rfl ?_))
  refine ldRA ag.Hidden rfl (vs := [_,_,_,_,_,_,_,_,_,_,_]) rfl (nb9 rfl) (mvD rfl (mvD rfl (ldRC ce.ints rfl (mvD rfl (ixLn sl.ints 0 rfl rfl (by omega) rfl rfl (ldRC ce.int rfl ?_))))))
  rw [hx.2]
  refine clv rfl (.cons (VLe.refl _) (.cons (VLe.refl _) (.cons (VLe.refl _) (.cons (VLe.refl _) (.nil))))) (viterbi_enter f hfr hi hx.1) (al z.Rat rfl fun b10 => (sto sz.Rat rfl rfl rfl rfl rfl (nb9 rfl) (cells2 := [_,_,_]) rfl (OL.nil ?_)))
  refine AW.midK (α := Unit) [(2, _), (3, _), (4, _), (5, _), (6, _), (7, _), (8, _), (9, _), (10, _), (29, _), (30, _), (31, _)] [(1, _), (4, _), (5, _), (9, _), (1000, _), (1001, _)] (fun _u => []) (fun _u => [(10, .box b10 T.Rat (cellsQ (soL h w (x.path ++ [(i : Int)]))))]) (fun _u => True) (.cons (knR rfl) (.cons (knR rfl) (.cons (knP rfl) (.cons (knP rfl) (.cons (knD rfl) (.cons (knD rfl) (.cons (knD rfl) (.cons (knP rfl) (.cons (knP rfl) (.cons (knD rfl) (.cons (knD rfl) (.cons (knD rfl) .nil)))))))))))) (.cons (owB rfl) (.cons (owB rfl) (.cons (owB rfl) (.cons (owB rfl) (.cons (owB rfl) (.cons (owR rfl) .nil)))))) ?_ ?_
  ·refine AW.sg hE rfl (mvD rfl (c_gtr rfl rfl rfl (OL.nil (AW.cond rfl (fun h0 => ?_) (fun h0 => ?_)))))
   ·have h0 : 0 < x.path.length := by have := of_decide_eq_true h0; omega
    have hxs := hso (by omega)
    refine AW.rg hE rfl (faP fd.part_1 rfl rfl (ldPA ag.Rat rfl rfl (vs := [_,_,_]) rfl (nb9 rfl) (ldPA ag.Rat rfl rfl (vs := [_,_,_]) rfl (nb9 rfl) (clv rfl (.cons (VLe.refl _) (.cons (VLe.refl _) (.nil))) (rational_MulQ (x := x.so) (y := (entQ h (frL x.path) i (symX w x.path.length))) (by rw [hxs]; omega) (by omega)) (sto sz.Rat rfl rfl rfl rfl rfl (nb9 rfl) (cells2 := [_,_,_]) rfl (OL.nil ?_))))))
    exact AW.reach () ⟨trivial, Knows.app .rq12 (.nil), Owns.app (.cons rfl (.cons rfl (.cons rfl (.cons rfl (.cons rfl (.cons rfl .nil)))))) (.cons (by rw [so_child x.path i hin, if_pos h0, ← hso (by omega)]; rfl) .nil)⟩
   ·have h0 : x.path.length = 0 := by have := of_decide_eq_false h0; omega
    refine AW.skip ?_
    exact AW.reach () ⟨trivial, Knows.app .rq12 (.nil), Owns.app (.cons rfl (.cons rfl (.cons rfl (.cons rfl (.cons rfl (.cons rfl .nil)))))) (.cons (by rw [so_child x.path i hin, if_neg (by omega), show frL x.path = -1 from if_pos h0]; rfl) .nil)⟩
  rintro ⟨⟩ hφ
  refine AW.sg hE rfl (ldPA ag.Rat rfl rfl (vs := [_,_,_]) rfl (nb9 rfl) (ldPA ag.Rat rfl rfl (vs := [_,_,_]) rfl (nb9 rfl) (clv rfl (.cons (VLe.refl _) (.cons (VLe.refl _) (.nil))) (rational_MulQ (x := soL h w (x.path ++ [(i : Int)])) (y := (restG h w every (w.length - 1 - x.path.length)).getD i 0) (by omega) (by omega)) ?_)))
  rw [← bst_so x.path i hl]
  refine al z.Rat rfl fun b11 => (sto sz.Rat rfl rfl rfl rfl rfl (nb9 rfl) (cells2 := [_,_,_]) rfl (OL.nil (AW.sg hE rfl (ldPA ag.Rat rfl rfl (vs := [_,_,_]) rfl (nb9 rfl) (clv rfl (.cons (VLe.refl _) (.nil)) (rational_SignQ (x := bstL h w (x.path ++ [(i : Int)])) (by omega)) (c_gtr rfl rfl rfl (OL.nil ?_)))))))
  refine AW.cond rfl (fun hb => ?_) (fun hb => ?_)
  ·have hb : 0 < bstL h w (x.path ++ [(i : Int)]) := sgn_gt.1 (of_decide_eq_true hb)
   refine AW.region_planT (valX12 b b5 x.path i (prtL h w (x.path ++ [(i : Int)]))) ownX12 (telX12 b b5 x.path i (prtL h w (x.path ++ [(i : Int)]))) 12 order_free (by rw [hE]; rfl) (by rfl) (by kernel_rfl) (by kernel_rfl) ?_ ?_
   ·refine casX12 ?_ ?_ ?_ ?_ ?_ ?_ ?_ ?_ ?_ ?_ ?_ ?_
    ·exact fun β L c9 => ⟨_, rfl, .inl (OG.of_OL (ldPC ce.pheap ((pG_old rfl).trans rfl) ((pG_M (mfT_skip (show (4:Nat) ≠ 62 by decide) (mfT_skip (show (4:Nat) ≠ 62 by decide) rfl))) : _ = some (.box b4 T.pheap [.ptr 1000 b 0])) (v := .ptr 1000 b 0) rfl ⟨β, pG_put (d := 56) (i := 0) rfl (fun t ht => ownX12_inj ht) (lt_size 13 c9.size rfl (by decide)) (mfT_same (lt_size 13 c9.size rfl (by decide)) (by rfl))⟩))⟩
    ·exact fun β L c9 => ⟨_, rfl, .inl (OG.of_OL (mkI cc.pheap (pG_new rfl (come_dep (j := 0) c9 (by kernel_rfl))) ⟨β, pG_put (d := 57) (i := 1) rfl (fun t ht => ownX12_inj ht) (lt_size 13 c9.size rfl (by decide)) (mfT_same (lt_size 13 c9.size rfl (by decide)) (by rfl))⟩))⟩
    ·exact fun β L c9 => ⟨_, rfl, .inl (OG.of_OL (ldPA ag.Rat ((pG_old rfl).trans rfl) ((pG_M (mfT_skip (show (11:Nat) ≠ 62 by decide) (mfT_skip (show (11:Nat) ≠ 62 by decide) rfl))) : _ = some (.box b11 T.Rat (cellsQ (bstL h w (x.path ++ [(i : Int)]))))) (vs := cellsQ (bstL h w (x.path ++ [(i : Int)]))) rfl (nb9 rfl) ⟨β, pG_put (d := 58) (i := 2) rfl (fun t ht => ownX12_inj ht) (lt_size 13 c9.size rfl (by decide)) (mfT_same (lt_size 13 c9.size rfl (by decide)) (by rfl))⟩))⟩
    ·exact fun β L c9 => ⟨_, rfl, .inl (OG.of_OL (ldPA ag.Rat ((pG_old rfl).trans rfl) ((pG_M (mfT_skip (show (10:Nat) ≠ 62 by decide) (mfT_skip (show (10:Nat) ≠ 62 by decide) rfl))) : _ = some (.box b10 T.Rat (cellsQ (soL h w (x.path ++ [(i : Int)]))))) (vs := cellsQ (soL h w (x.path ++ [(i : Int)]))) rfl (nb9 rfl) ⟨β, pG_put (d := 59) (i := 3) rfl (fun t ht => ownX12_inj ht) (lt_size 13 c9.size rfl (by decide)) (mfT_same (lt_size 13 c9.size rfl (by decide)) (by rfl))⟩))⟩
    ·exact fun β L c9 => ⟨_, rfl, .inl (OG.of_OL (faP fd.part_2 (b := b5) (o := 0) (id := 5) ((pG_old rfl).trans rfl) rfl ⟨β, pG_put (d := 60) (i := 4) rfl (fun t ht => ownX12_inj ht) (lt_size 13 c9.size rfl (by decide)) (mfT_same (lt_size 13 c9.size rfl (by decide)) (by rfl))⟩))⟩
    ·exact fun β L c9 => ⟨_, rfl, .inl (OG.of_OL (ldPC ce.ints (pG_new rfl (come_dep (j := 4) c9 (by kernel_rfl))) ((pG_M (mfT_skip (show (5:Nat) ≠ 62 by decide) (mfT_skip (show (5:Nat) ≠ 62 by decide) rfl))) : _ = some (.box b5 T.part (cellsP x))) (v := .d (ints x.path)) rfl ⟨β, pG_put (d := 61) (i := 5) rfl (fun t ht => ownX12_inj ht) (lt_size 13 c9.size rfl (by decide)) (mfT_same (lt_size 13 c9.size rfl (by decide)) (by rfl))⟩))⟩
    ·exact fun β L c9 => ⟨_, rfl, .inl (OG.of_OL (clR rfl (.cons (vle_of_eq (pG_new rfl (come_dep (j := 5) c9 (by kernel_rfl)))) .nil) (clone_intsR (l := x.path) (by omega)) (pG_M (mfT_no (by exact come_lateT c9 (by kernel_rfl)) (mfT_no (by exact c9.no) rfl))) fun b8 c8 => ⟨upd β 62 (b8, c8), pG_set (d := 62) (i := 6) (x := (b8, c8)) rfl (fun t ht => ownX12_inj ht) (lt_size 13 c9.size rfl (by decide)) rfl (mfT_pass (lt_size 13 c9.size rfl (by decide)) (show (9:Nat) ≠ 6 by decide) (.inr (come_lateT c9 (by kernel_rfl))) (by exact fun _ => rfl) (mfT_here (lt_size 13 c9.size rfl (by decide)) rfl rfl rfl c9.no (by rfl) (fun y hy => absurd hy List.not_mem_nil))) (fun t j ho hl => by unfold ownX12 at ho; split at ho <;> cases ho <;> first | rfl | (rw [c9.no] at hl; cases hl) | exact come_notT c9 (by kernel_rfl) hl)⟩))⟩
    ·exact fun β L c9 => ⟨_, rfl, .inl (OG.of_OL (mvD (y := dI i) ((pG_old rfl).trans rfl) ⟨β, pG_put (d := 63) (i := 7) rfl (fun t ht => ownX12_inj ht) (lt_size 13 c9.size rfl (by decide)) (mfT_same (lt_size 13 c9.size rfl (by decide)) (by rfl))⟩))⟩
    ·exact fun β L c9 => ⟨_, rfl, .inl (OG.of_OL (lt1 (y := dI i) sl.ints (vd_to (pG_new rfl (come_dep (j := 7) c9 (by kernel_rfl))) (VC.d _).vd) rfl (by decide) ⟨β, pG_put (d := 64) (i := 8) rfl (fun t ht => ownX12_inj ht) (lt_size 13 c9.size rfl (by decide)) (mfT_same (lt_size 13 c9.size rfl (by decide)) (by rfl))⟩))⟩
    ·exact fun β L c9 => ⟨_, rfl, .inl (OG.of_OL (apOD sl.ints rfl (pG_new rfl (come_dep (j := 6) c9 (by kernel_rfl))) (pG_M (mfT_no (by exact c9.no) (mfT_yes (come_dep (j := 6) c9 (by kernel_rfl)) rfl rfl))) (by rw [List.length_map]) (vc_to (pG_new rfl (come_dep (j := 8) c9 (by kernel_rfl))) (VC.d _)) (fun y hy => by rw [List.mem_singleton.1 hy]; rfl) (by simp only [List.length_singleton]; omega) (by simp only [List.length_singleton]; omega) (.inl (pG_M (mfT_skip (show (65:Nat) ≠ 62 by decide) (mfT_skip (show (65:Nat) ≠ 62 by decide) rfl)))) (ys := (x.path ++ [(i : Int)]).map dI) (by rw [List.map_append]; rfl) ⟨upd β 65 (0, 0), pG_set (d := 65) (i := 9) (x := (0, 0)) rfl (fun t ht => ownX12_inj ht) (lt_size 13 c9.size rfl (by decide)) rfl (Eq.trans (mfT_here (lt_size 13 c9.size rfl (by decide)) rfl rfl rfl c9.no (by rfl) (List.forall_mem_cons.2 ⟨(fun _ hne => absurd rfl hne), (fun y hy => absurd hy List.not_mem_nil)⟩)) (upd_noneB (by decide) (pG_M (mfT_skip (show (65:Nat) ≠ 62 by decide) (mfT_skip (show (65:Nat) ≠ 62 by decide) rfl)))).symm) (fun t j ho hl => by unfold ownX12 at ho; split at ho <;> cases ho <;> first | rfl | (rw [c9.no] at hl; cases hl) | exact come_notT c9 (by kernel_rfl) hl)⟩))⟩
    ·exact fun β L c9 => ⟨_, rfl, .inl (OG.of_OL (bd2 (cs := [_,_,_,_,_,_,_]) z.part pl.part (pvC (pG_new rfl (come_dep (j := 2) c9 (by kernel_rfl))) (pvC (pG_new rfl (come_dep (j := 3) c9 (by kernel_rfl))) (pvC (pG_new rfl (come_dep (j := 9) c9 (by kernel_rfl))) pvN))) (by rfl) ⟨β, pG_put (d := 66) (i := 10) rfl (fun t ht => ownX12_inj ht) (lt_size 13 c9.size rfl (by decide)) (mfT_same (lt_size 13 c9.size rfl (by decide)) (by rfl))⟩))⟩
    ·exact fun β L c9 => ⟨_, rfl, .inl (OG.of_OL (mkI cc.part (pG_new rfl (come_dep (j := 10) c9 (by kernel_rfl))) ⟨β, pG_put (d := 67) (i := 11) rfl (fun t ht => ownX12_inj ht) (lt_size 13 c9.size rfl (by decide)) (mfT_same (lt_size 13 c9.size rfl (by decide)) (by rfl))⟩))⟩
   refine fun β L c9 hA => ⟨_, rfl, SG.of_SO (SO.callE (args' := [vHp b, .ifc T.part (vPrt (prtL h w (x.path ++ [(i : Int)])))]) (show 68 < E.n by rw [hE]; exact Nat.le_of_ble_eq_true (by rfl)) rfl (.cons (vle_of_eq (pG_new rfl (hA 1 (by decide)))) (.cons (vle_of_eq (pG_new rfl (hA 11 (by decide)))) .nil)) (Mc := hpM b q c l.length l) (fun id blk hk => lk_own (l := hpL b q c l.length l) (.cons (pG_M (mfT_skip (show (1000:Nat) ≠ 62 by decide) (mfT_skip (show (1000:Nat) ≠ 62 by decide) rfl))) (.cons (pG_M (mfT_skip (show (1001:Nat) ≠ 62 by decide) (mfT_skip (show (1001:Nat) ≠ 62 by decide) rfl))) trivial)) id blk hk) (heap_Push (p := (prtL h w (x.path ++ [(i : Int)]))) rfl (by omega) hhl hzc) (fun x _ id hk => hpM_none id hk) ?_)⟩
   rintro ⟨q2, c2, l2⟩ ⟨hp2, hh2⟩
   have hl2 := hp2.length_eq
   have hl2 : l2.length = l.length + 1 := hl2
   refine AW.to [(1, _), (2, _), (3, _), (4, _), (5, _), (6, _), (7, _), (29, _), (30, _), (31, _)] [(1, _), (4, _), (5, _), (1000, .box b T.heap [.osl 1001 q2 l2.length c2]), (1001, rowP q2 c2 l2)] (.cons (vle_of_eq (put_old (by decide) (sto_rho ((pG_old rfl).trans rfl)))) (.cons (vle_of_eq (put_old (by decide) (sto_rho ((pG_old rfl).trans rfl)))) (.cons (vle_of_eq (put_old (by decide) (sto_rho ((pG_old rfl).trans rfl)))) (.cons (vle_of_eq (put_old (by decide) (sto_rho ((pG_old rfl).trans rfl)))) (.cons (vle_of_eq (put_old (by decide) (sto_rho ((pG_old rfl).trans rfl)))) (.cons (vle_of_eq (put_old (by decide) (sto_rho ((pG_old rfl).trans rfl)))) (.cons (vle_of_eq (put_old (by decide) (sto_rho ((pG_old rfl).trans rfl)))) (.cons (vle_of_eq (put_old (by decide) (sto_rho ((pG_old rfl).trans rfl)))) (.cons (vle_of_eq (put_old (by decide) (sto_rho ((pG_old rfl).trans rfl)))) (.cons (vle_of_eq (put_old (by decide) (sto_rho ((pG_old rfl).trans rfl)))) (.nil))))))))))) (.cons (over_old rfl (pG_M (mfT_skip (show (1:Nat) ≠ 62 by decide) (mfT_skip (show (1:Nat) ≠ 62 by decide) rfl)))) (.cons (over_old rfl (pG_M (mfT_skip (show (4:Nat) ≠ 62 by decide) (mfT_skip (show (4:Nat) ≠ 62 by decide) rfl)))) (.cons (over_old rfl (pG_M (mfT_skip (show (5:Nat) ≠ 62 by decide) (mfT_skip (show (5:Nat) ≠ 62 by decide) rfl)))) (.cons (by rw [hl2]; rfl) (.cons rfl (.nil)))))) ?_
   refine AW.rg hE rfl (add_i64 rfl rfl (by omega) (mvD rfl (OL.nil ?_)))
   exact AW.again (x := (i, q, c, l)) (i + 1, q2, c2, l2) (by (simp only []; omega)) ⟨⟨by omega, grow_perm hp hb hp2, by rw [hl2]; exact hh2⟩, Knows.app .rq8 .rq1, Owns.app (.cons rfl (.cons rfl (.cons rfl .nil))) (.cons rfl (.cons rfl .nil))⟩
  ·have hb : ¬ 0 < bstL h w (x.path ++ [(i : Int)]) := fun e => of_decide_eq_false hb (sgn_gt.2 e)
   refine AW.skip (AW.rg hE rfl (add_i64 rfl rfl (by omega) (mvD rfl (OL.nil ?_))))
   exact AW.again (x := (i, q, c, l)) (i + 1, q, c, l) (by (simp only []; omega)) ⟨⟨by omega, by rw [kids_succ, if_neg hb, List.append_nil]; exact hp, hhl⟩, Knows.app .rq8 .rq1, Owns.app (.cons rfl (.cons rfl (.cons rfl .nil))) (.cons rfl (.cons rfl .nil))⟩
 ·try simp only [dx9] at h32
  exact AW.exit (⟨(q, c, l), ⟨by obtain rfl : i = h.st := (by omega); exact hp, hhl⟩, ⟨[], .nil, [], .nil, rfl⟩, fun id blk hk => lk_own (l := exL h w b1 b4 b q c l.length l) (.cons rfl (.cons rfl (.cons rfl (.cons rfl trivial)))) id blk hk⟩)
end Go.Proofs.YtonndaibggjmjaaGreat

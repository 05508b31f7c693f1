/-
  Walks of the specification of package online, on any input, part 2: one more symbol (printed by mk2.py).
-/
import Derived.Test.YtjghehkgmanmbaaGreatKOxD
set_option linter.unusedVariables false
set_option linter.unusedSimpArgs false
namespace Go.Proofs.YtjghehkgmanmbaaGreat
open Go Go.AL
abbrev dPs (l : List (List Int)) : D := .sl (l.map ints)
theorem AW.two {P : Program} {E : Env} {c : Code} {Q : Exit → S → Prop} {s' : S} (z : Bool) (s : S) (h : AW P E c Q s) (ht : z = true → AW P E c Q s → AW P E c Q s') (hf : z = false → AW P E c Q s → AW P E c Q s') : AW P E c Q s' := by
 cases hz : z
 ·exact hf hz h
 ·exact ht hz h
theorem lcpL_left (d : List Int) {x y : List Int} : lcpL (d ++ x) (d ++ y) = d.length + lcpL x y := by
 induction d with
 | nil => exact (Nat.zero_add _).symm
 | cons a d ih => rw [List.cons_append, List.cons_append, lcpL, if_pos rfl, ih, List.length_cons]; omega
def pathW (h : HM) (o : Dec) (x j : Nat) : List Int := if 0 < newS h o x j then o.dn ++ newT h o x j else []
def refP (h : HM) (o : Dec) (j i : Nat) : List Int := if 0 < (pickF h o j i).1 then o.dn ++ (pickF h o j i).2 else []
theorem com_shift {al : Nat → Bool} {ps qs : Nat → List Int} {d : List Int} (hq : ∀ j, al j = true → qs j = d ++ ps j) : ∀ n, ((comF al ps n).1 < 0 → comF al qs n = (-1, [])) ∧ (¬ (comF al ps n).1 < 0 → comF al qs n = ((((comF al ps n).1.toNat + d.length : Nat) : Int), d ++ (comF al ps n).2))
 | 0 => ⟨fun _ => rfl, fun h => absurd (by rw [comF]; decide) h⟩
 | n + 1 => by
  obtain ⟨i1, i2⟩ := com_shift hq n
  cases ha : al n with
  | false => rw [com_dead ha, com_dead ha]; exact ⟨i1, i2⟩
  | true =>
   by_cases hn : (comF al ps n).1 < 0
   ·have hc := com_first ha hn
    have hc2 := com_first (ps := qs) ha (by rw [i1 hn]; decide)
    rw [hc, hc2, hq n ha]
    refine ⟨fun h => by simp only [] at h; omega, fun _ => ?_⟩
    simp only [Int.toNat_natCast, List.length_append]
    rw [Nat.add_comm]
   ·have hc := com_more ha hn
    have e := i2 hn
    have hc2 := com_more (ps := qs) ha (by rw [e]; simp only []; omega)
    rw [hc, hc2, e, hq n ha]
    refine ⟨fun h => by simp only [] at h; omega, fun _ => ?_⟩
    simp only [Int.toNat_natCast]
    rw [lcpL_left]
    congr 2
    omega
theorem better_pos {h : HM} {o : Dec} {j i : Nat} {y : List Int} {x : Rat} (ht : o.t ≠ 0) (hb : betterP x y (pickF h o j i)) : 0 < x := by
 rcases hb with hb | ⟨_, hb, _⟩
 ·exact Std.lt_of_le_of_lt (pick_spec ht j i).nonneg hb
 ·exact hb
theorem refP_zero {h : HM} {o : Dec} (k : ValC h o) (j : Nat) : refP h o j 0 = [] := by
 unfold refP
 rw [pickF]
 by_cases h0 : o.t = 0
 ·rw [(k.zero h0).2.2, if_pos h0]; split <;> rfl
 ·rw [if_neg h0, if_neg (by decide)]
theorem refP_cmp {h : HM} {B : Nat} {o : Dec} {i j : Nat} (g : h.GoodW B) (k : ValC h o) (h0 : o.t ≠ 0) (hi : i < o.sc.length) (he : comeQ h o j i = (pickF h o j i).1) (hp : 0 < comeQ h o j i) : cmpS (o.dn ++ o.tl.getD i []) (refP h o j i) = cmpL (o.tl.getD i []) (pickF h o j i).2 := by
 have hd := k.heads h0
 have l1 := (k.len h0).1
 have ps := pick_spec (h := h) h0 j i
 have hlen : ∀ i, i < h.st → 0 < comeQ h o j i → (o.dn ++ o.tl.getD i []).length = o.t := fun i hi hp => (pathsF_mem (hd.live i hi (pos_of_mul (hd.nonneg i hi) (tr_nonneg g i j) hp).1).1).1
 obtain ⟨i2, hi2, e2⟩ := ps.pos (by rw [← he]; exact hp)
 have a := hlen i (by omega) hp
 have b := hlen i2 (by omega) (by
  have e3 := congrArg Prod.fst e2
  simp only at e3
  rw [← e3, ← he]; exact hp)
 unfold refP
 rw [if_pos (by rw [← he]; exact hp), cmpS_same (by rw [a, e2]; exact b.symm), cmpL_left]
theorem refP_new {h : HM} {B : Nat} {o : Dec} {x j : Nat} (g : h.GoodW B) (k : ValC h o) (hp : 0 < newS h o x j) : refP h o j o.sc.length ++ [(j : Int)] = pathW h o x j := by
 have hp2 : 0 < (pickF h o j o.sc.length).1 := by
  refine (pos_of_mul ?_ (em_nonneg g j x) hp).1
  by_cases h0 : o.t = 0
  ·rw [(k.zero h0).1, List.length_nil, pickF, if_pos h0]; exact ini_nonneg g j
  ·exact (pick_spec h0 j _).nonneg
 unfold refP pathW
 rw [if_pos hp2, if_pos hp, newT, if_pos hp, List.append_assoc]
theorem map_range_succ {α : Type} (f : Nat → α) (n : Nat) : (List.range (n + 1)).map f = (List.range n).map f ++ [f n] := by rw [List.range_succ, List.map_append]; rfl
def mixD (h : HM) (o : Dec) (x i : Nat) : List (List Int) := (List.range i).map fun j => (newT h o x j).drop (keepK h o x)
def doneR (h : HM) (o : Dec) (x i : Nat) : List Int := if someN h o x i = true then o.dn ++ cmtF h o x i else []
abbrev cellsOm (h : HM) (t : Nat) (l : List Rat) : List V := [.d (dI h.sym), .d (dI h.st), .d (dB (ofQ h.empty).neg), .d (u32s (ofQ h.empty).num), .d (u32s (ofQ h.empty).den), .d (dQs h.ini), .d (dQss h.trans), .d (dQs h.stop), .d (dQss h.emit), .d (bools h.silent), .d (ints h.ties), .d (dI t), .d (dQs l), .mt, .mt]
theorem vle_om {h : HM} {t : Nat} {l : List Rat} : VLe (.ag (cellsOm h t l)) (vOn h ⟨t, l, [], []⟩) := VLe.ag (.cons (VLe.refl _) (.cons (VLe.refl _) (.cons (VLe.refl _) (.cons (VLe.refl _) (.cons (VLe.refl _) (.cons (VLe.refl _) (.cons (VLe.refl _) (.cons (VLe.refl _) (.cons (VLe.refl _) (.cons (VLe.refl _) (.cons (VLe.refl _) (.cons (VLe.refl _) (.cons (VLe.refl _) (.cons VLe.mt (.cons VLe.mt .nil)))))))))))))))
abbrev cellsOs (h : HM) (t : Nat) (l : List Rat) (q b3 n3 c3 : Nat) (d : List Int) : List V := [.d (dI h.sym), .d (dI h.st), .d (dB (ofQ h.empty).neg), .d (u32s (ofQ h.empty).num), .d (u32s (ofQ h.empty).den), .d (dQs h.ini), .d (dQss h.trans), .d (dQs h.stop), .d (dQss h.emit), .d (bools h.silent), .d (ints h.ties), .d (dI t), .d (dQs l), .osl q b3 n3 c3, .d (ints d)]
theorem ref37_liveP {h : HM} {t b3 n3 c3 i C : Nat} {l : List Rat} {d : List Int} (hz : Small C l) (hC : 1 ≤ C ∧ C ≤ 68719476736) (hi : i < l.length) : FSpec P F.ref37_live [.ag (cellsOs h t l 190 b3 n3 c3 d), .d (dI i)] (.d (dB (decide (0 < l.getD i 0)))) := by
 have zi := hz.get hC.1 i
 refine FSpec.intro fn.ref37_live (by rfl) (by rfl) (nb9 (by rfl)) fun E hE => (AW.sg hE rfl (bxA rfl rfl fun b2 => (asD rfl (OL.nil (AW.sg hE rfl (faP fd.Online_2 rfl rfl (ldPC ce.Rats rfl rfl rfl ?_)))))))
 exact mvD rfl (ixLn sl.Rats 0 rfl rfl hi rfl rfl (ldRA ag.Rat rfl (vs := [_,_,_]) rfl (nb9 rfl) (clv rfl (.cons (VLe.refl _) (.nil)) (ref_SignQ (x := l.getD i 0) (by omega)) (c_gtr rfl rfl rfl (asD rfl (OL.nil (AW.ret (RetQ.r ⟨_, .tmp rfl .nil, .le (VLe.bool (decide_eq_decide.2 sgn_gt))⟩))))))))
set_option maxRecDepth 8000 in
set_option maxHeartbeats 6400000 in
theorem ref37_PushV {h : HM} {K x : Nat} {o : Dec} (g : h.GoodW 1048576) (hp : FSpec P F.ref33_Plain [vHM h] (.d (dB true))) (k : ValD K h o) (hK : K + 2097152 ≤ 1073741824) (ht : o.t ≤ 255) (hx : x < h.sym) : FSpec P F.ref37_Push [vOn h o, .d (dI ((x + 1 : Nat)))] (.tup [vOn (pushH h o x) (pushD h o x), .d (ints (pushC h o x)), .d (dI (pushE h o x))]) := by
 have f := g.form
 have n0 := f.st0
 have n1 := f.st1
 have s1 := f.sym1
 have e1 := f.ini
 have e2 := f.trans
 have e4 := f.emit
 have hK1 := k.K1
 have htl := tails_lenV k
 have hdl := done_lenV k
 have hscl : o.sc.length ≤ h.st := by
   by_cases h0 : o.t = 0
   ·rw [(k.zero h0).1]; exact Nat.zero_le _
   ·rw [(k.len h0).1]; exact Nat.le_refl _
 have zn := fun j => newS_szV f k x j
 have hC2 : 1 ≤ K + 2097152 ∧ K + 2097152 ≤ 68719476736 := by omega
 have hnl := fun j => newT_len (h := h) (x := x) (j := j) htl
 have hpwl : ∀ j, (pathW h o x j).length ≤ 600 := fun j => by
   have := hnl j
   unfold pathW
   split
   ·rw [List.length_append]; omega
   ·exact Nat.zero_le _
 refine FSpec.intro fn.ref37_Push (by rfl) (by rfl) (nb9 (by rfl)) fun E hE => (AW.sg hE rfl (bxA rfl rfl fun b2 => (al z.Online rfl fun b4 => (asM rfl (asD rfl (OL.nil (AW.seq ?_)))))))
 refine AW.sg hE rfl (ldPA ag.Online rfl rfl (vs := [_,_,_,_,_,_,_,_,_,_,_,_,_,_,_]) rfl (nb9 rfl) (clv rfl (.cons (VLe.refl _) (.nil)) (ref37_ValidV g hp k) (nt rfl (OL.nil (AW.cond rfl (fun hno => absurd hno (by decide)) (fun _ => ?_))))))
 refine AW.skip (AW.sg hE rfl (faP fd.Online_0 rfl rfl (ldPA ag.Hidden rfl rfl (vs := [_,_,_,_,_,_,_,_,_,_,_]) rfl (nb9 rfl) (al z.Hidden rfl fun b7 => (sto sz.Hidden rfl rfl rfl rfl rfl (nb9 rfl) (cells2 := [_,_,_,_,_,_,_,_,_,_,_]) rfl (OL.nil (AW.seq ?_)))))))
 refine AW.sg hE rfl (mvD rfl (c_lss rfl rfl (c := false) (by exact decide_eq_false (by omega)) (mvD rfl (OL.yes rfl (mvD rfl (OL.yes rfl (faP fd.Hidden_0 rfl rfl ?_)))))))
 refine OL.yes rfl (ldPC ce.int rfl rfl rfl (OL.yes rfl (c_gtr rfl rfl (c := false) (by exact decide_eq_false (by omega)) (pkF rfl rfl (mvD rfl (OL.yes rfl (faP fd.Online_1 rfl rfl ?_)))))))
 refine OL.yes rfl (ldPC ce.int rfl rfl rfl (OL.yes rfl (c_eql rfl rfl (c := false) (by exact decide_eq_false (by omega)) (pkF rfl rfl (OL.nil (AW.cond rfl (fun hno => absurd hno (by decide)) (fun _ => ?_)))))))
 refine AW.skip (AW.sg hE rfl (ldPA ag.Hidden rfl rfl (vs := [_,_,_,_,_,_,_,_,_,_,_]) rfl (nb9 rfl) (faP fd.Online_1 rfl rfl (ldPC ce.int rfl rfl rfl (add_i64 rfl rfl (by omega) (bd z.Online pl.Online (cs := [_,_,_,_,_,_,_,_,_,_,_,_,_,_,_]) rfl (al z.Online rfl fun b8 => ?_)))))))
 refine sto sz.Online rfl rfl rfl rfl rfl (nb9 rfl) (cells2 := [_,_,_,_,_,_,_,_,_,_,_,_,_,_,_]) rfl (OL.nil (AW.sg hE rfl (asM rfl (OL.nil (AW.sg hE rfl (asD rfl (OL.nil ?_)))))))
 refine AW.seq (AW.sg hE rfl (asD rfl (OL.nil (AW.block (AW.own 9 145 T.ints 1 rfl rfl ?_)))))
 refine AW.boxW 8 (cellsOr h (o.t + 1) 0 0 0) rfl (.cons (VLe.refl _) (.cons (VLe.refl _) (.cons (VLe.refl _) (.cons (VLe.refl _) (.cons (VLe.refl _) (.cons (VLe.refl _) (.cons (VLe.refl _) (.cons (VLe.refl _) (.cons (VLe.refl _) (.cons (VLe.refl _) (.cons (VLe.refl _) (.cons (VLe.refl _) (.cons VLe.mtO .rq2))))))))))))) ?_
 refine AW.row0 132 T.Rat 3 rfl ?_
 refine AW.whileK (α := Nat × Nat × Nat × Nat × Nat) [(1, _), (2, _), (4, _), (5, _), (6, _), (7, _), (8, _)] [(2, _), (4, _), (7, _)] (fun (j, r1, d1, r2, d2) => [(9, .osl 145 r2 j d2), (10, .d (dB (someN h o x j))), (11, .d (dI j))]) (fun (j, r1, d1, r2, d2) => [(8, .box b8 T.Online (cellsOr h (o.t + 1) r1 j d1)), (132, .row r1 d1 T.Rat 3 (((List.range j).map (newS h o x)).map dQ)), (145, .row r2 d2 T.ints 1 (((List.range j).map (pathW h o x)).map ints))]) (fun (j, r1, d1, r2, d2) => j ≤ h.st) (fun (j, r1, d1, r2, d2) => h.st - j) (0, 0, 0, 0, 0) (.cons (knD rfl) (.cons (knP rfl) (.cons (knP rfl) (.cons (knM rfl) (.cons (knD rfl) (.cons (knP rfl) (.cons (knP rfl) .nil))))))) (.cons (owB rfl) (.cons (owB rfl) (.cons (owB rfl) .nil))) ⟨Nat.zero_le _, .rq3, .cons rfl (.cons rfl (.cons rfl .nil))⟩ ?_
 rintro ⟨j, r1, d1, r2, d2⟩ h1
 have h1 : j ≤ h.st := h1
 refine AW.seq (AW.sg hE rfl (mvD rfl (faP fd.Hidden_1 rfl rfl (ldPC ce.int rfl rfl rfl (c_lss rfl rfl rfl (OL.nil (AW.cond rfl (fun h48 => ?_) (fun h48 => ?_))))))))
 ·try simp only [dx9] at h48
  refine AW.skip ?_
  refine AW.midK (α := Bool × Nat × Nat × Nat × Nat) [(1, _), (2, _), (4, _), (5, _), (6, _), (7, _), (8, _), (11, _)] [(2, _), (4, _), (7, _)] (fun (z, b132, c132, b3, c3) => [(9, .osl (if z then 145 else 148) b3 (j + 1) c3), (10, .d (dB (someN h o x (j + 1))))]) (fun (z, b132, c132, b3, c3) => [(8, .box b8 T.Online (cellsOr h (o.t + 1) b132 (j + 1) c132)), (132, .row b132 c132 T.Rat 3 (((List.range (j + 1)).map (newS h o x)).map dQ)), ((if z then 145 else 148), .row b3 c3 T.ints 1 (((List.range (j + 1)).map (pathW h o x)).map ints))]) (fun (z, b132, c132, b3, c3) => True) (.cons (knD rfl) (.cons (knP rfl) (.cons (knP rfl) (.cons (knM rfl) (.cons (knD rfl) (.cons (knP rfl) (.cons (knP rfl) (.cons (knD rfl) .nil)))))))) (.cons (owB rfl) (.cons (owB rfl) (.cons (owB rfl) .nil))) ?_ ?_
  ·refine AW.block (AW.seq ?_)
   have hj : j < h.st := by omega
   refine AW.rg hE rfl (bd z.Rat pl.Rat (cs := [_,_,_]) rfl (al z.Rat rfl fun b12 => (sto sz.Rat rfl rfl rfl rfl rfl (nb9 rfl) (cells2 := [_,_,_]) rfl (asM rfl (OL.nil ?_)))))
   refine AW.midK (α := Nat) [(1, _), (2, _), (4, _), (5, _), (6, _), (7, _), (8, _), (9, _), (10, _), (11, _)] [(2, _), (4, _), (7, _), (8, _), (132, _), (145, _)] (fun b12 => [(12, .ptr 12 b12 0), (13, .d (ints (refP h o j 0)))]) (fun b12 => [(12, .box b12 T.Rat (cellsQ (pickF h o j 0).1))]) (fun b12 => True) (.cons (knD rfl) (.cons (knP rfl) (.cons (knP rfl) (.cons (knM rfl) (.cons (knD rfl) (.cons (knP rfl) (.cons (knP rfl) (.cons (knO rfl) (.cons (knD rfl) (.cons (knD rfl) .nil)))))))))) (.cons (owB rfl) (.cons (owB rfl) (.cons (owB rfl) (.cons (owB rfl) (.cons (owR rfl) (.cons (owR rfl) .nil)))))) ?_ ?_
   ·refine AW.sg hE rfl (faP fd.Online_1 rfl rfl (ldPC ce.int rfl rfl rfl (c_eql rfl rfl rfl (OL.nil (AW.cond rfl (fun h0 => ?_) (fun h0 => ?_))))))
    ·have h0 : o.t = 0 := by have := of_decide_eq_true h0; omega
     refine AW.rg hE rfl (faP fd.Hidden_3 rfl rfl (ldPC ce.Rats rfl rfl rfl (mvD rfl (ixLn sl.Rats 0 rfl rfl (by omega) rfl rfl (ldRA ag.Rat rfl (vs := [_,_,_]) rfl (nb9 rfl) (sto sz.Rat rfl rfl rfl rfl rfl (nb9 rfl) (cells2 := [_,_,_]) rfl (OL.nil ?_)))))))
     exact AW.reach b12 ⟨trivial, Knows.app .rq10 (.cons (VLe.refl _) (.cons (by rw [refP_zero k.toValC]; exact VLe.mt) .nil)), Owns.app (.cons rfl (.cons rfl (.cons rfl (.cons rfl (.cons rfl (.cons rfl .nil)))))) (.cons (by rw [pickF, if_pos h0]; rfl) .nil)⟩
    ·have h0 : o.t ≠ 0 := fun e => of_decide_eq_false h0 (by omega)
     refine AW.boxW 12 (cellsQ 0) rfl vles_q (AW.skip ?_)
     exact AW.reach b12 ⟨trivial, Knows.app .rq10 (.cons (VLe.refl _) (.cons (by rw [refP_zero k.toValC]; exact VLe.mt) .nil)), Owns.app (.cons rfl (.cons rfl (.cons rfl (.cons rfl (.cons rfl (.cons rfl .nil)))))) (.cons (by rw [pickF, if_neg h0]; rfl) .nil)⟩
   rintro b12 hφ
   have hj : j < h.st := by omega
   refine AW.seq (AW.sg hE rfl (asD rfl (OL.nil (AW.block ?_))))
   refine AW.whileK (α := Nat) [(1, _), (2, _), (4, _), (5, _), (6, _), (7, _), (8, _), (9, _), (10, _), (11, _), (12, _)] [(2, _), (4, _), (7, _), (8, _), (132, _), (145, _)] (fun i => [(13, .d (ints (refP h o j i))), (14, .d (dI i))]) (fun i => [(12, .box b12 T.Rat (cellsQ (pickF h o j i).1))]) (fun i => i ≤ o.sc.length) (fun i => o.sc.length - i) 0 (.cons (knD rfl) (.cons (knP rfl) (.cons (knP rfl) (.cons (knM rfl) (.cons (knD rfl) (.cons (knP rfl) (.cons (knP rfl) (.cons (knO rfl) (.cons (knD rfl) (.cons (knD rfl) (.cons (knP rfl) .nil))))))))))) (.cons (owB rfl) (.cons (owB rfl) (.cons (owB rfl) (.cons (owB rfl) (.cons (owR rfl) (.cons (owR rfl) .nil)))))) ⟨Nat.zero_le _, .rq2, .cons rfl .nil⟩ ?_
   intro i h3
   have h3 : i ≤ o.sc.length := h3
   have zp := (zn j).1 i
   have zs := k.small.get hK1.1 i
   have zt := tr_szV f i j
   have zc : sz (comeQ h o j i) ≤ sz (o.sc.getD i 0) + sz (trQ h i j) := sz_mul (o.sc.getD i 0) (trQ h i j)
   refine AW.seq ?_
   refine AW.midK (α := Unit) [(1, _), (2, _), (4, _), (5, _), (6, _), (7, _), (8, _), (9, _), (10, _), (11, _), (12, _), (13, _), (14, _)] [(2, _), (4, _), (7, _), (8, _), (12, _), (132, _), (145, _)] (fun _u => [(68, .d (dB (decide (i < o.sc.length))))]) (fun _u => []) (fun _u => True) (.cons (knD rfl) (.cons (knP rfl) (.cons (knP rfl) (.cons (knM rfl) (.cons (knD rfl) (.cons (knP rfl) (.cons (knP rfl) (.cons (knO rfl) (.cons (knD rfl) (.cons (knD rfl) (.cons (knP rfl) (.cons (knD rfl) (.cons (knD rfl) .nil))))))))))))) (.cons (owB rfl) (.cons (owB rfl) (.cons (owB rfl) (.cons (owB rfl) (.cons (owB rfl) (.cons (owR rfl) (.cons (owR rfl) .nil))))))) ?_ ?_
   ·refine AW.rg hE rfl (mvD rfl (faP fd.Hidden_1 rfl rfl (ldPC ce.int rfl rfl rfl (c_lss rfl rfl rfl (mvD rfl (OL.split 64 rfl (fun g0 => ?_) (fun g0 => ?_)))))))
    ·have g0 : i < h.st := by have := of_decide_eq_true g0; omega
     refine OL.yes rfl (faP fd.Online_1 rfl rfl (OL.yes rfl (ldPC ce.int rfl rfl rfl (OL.yes rfl (c_gtr rfl rfl rfl (pkT rfl rfl (OL.nil ?_)))))))
     exact AW.reach () ⟨trivial, Knows.app .rq13 (.cons (VLe.bool (decide_eq_decide.2 ⟨fun e => by rw [(k.len (show o.t ≠ 0 by omega)).1]; exact g0, fun e => by have h6 : o.t ≠ 0 := (fun h0 => by rw [(k.zero h0).1] at e; exact absurd e (Nat.not_lt_zero _)); omega⟩)) .nil), Owns.app (.cons rfl (.cons rfl (.cons rfl (.cons rfl (.cons rfl (.cons rfl (.cons rfl .nil))))))) (.nil)⟩
    ·have g0 : ¬ i < h.st := by have := of_decide_eq_false g0; omega
     refine OL.nd rfl (OL.nd rfl (OL.nd rfl (pkF rfl rfl (OL.nil ?_))))
     exact AW.reach () ⟨trivial, Knows.app .rq13 (.cons (VLe.bool ((decide_eq_false (by omega)).symm)) .nil), Owns.app (.cons rfl (.cons rfl (.cons rfl (.cons rfl (.cons rfl (.cons rfl (.cons rfl .nil))))))) (.nil)⟩
   rintro ⟨⟩ hφ
   refine AW.cond rfl (fun hi => ?_) (fun hi => ?_)
   ·have hi := of_decide_eq_true hi
    have hn0 : o.t ≠ 0 := fun e => by rw [(k.zero e).1] at hi; exact absurd hi (Nat.not_lt_zero _)
    obtain ⟨l1, l2⟩ := k.len hn0
    have ti := f.trow i (by omega)
    have htli := htl i
    refine AW.skip ?_
    refine AW.midK (α := Unit) [(1, _), (2, _), (4, _), (5, _), (6, _), (7, _), (8, _), (9, _), (10, _), (11, _), (12, _), (14, _)] [(2, _), (4, _), (7, _), (8, _), (132, _), (145, _)] (fun _u => [(13, .d (ints (refP h o j (i + 1))))]) (fun _u => [(12, .box b12 T.Rat (cellsQ (pickF h o j (i + 1)).1))]) (fun _u => True) (.cons (knD rfl) (.cons (knP rfl) (.cons (knP rfl) (.cons (knM rfl) (.cons (knD rfl) (.cons (knP rfl) (.cons (knP rfl) (.cons (knO rfl) (.cons (knD rfl) (.cons (knD rfl) (.cons (knP rfl) (.cons (knD rfl) .nil)))))))))))) (.cons (owB rfl) (.cons (owB rfl) (.cons (owB rfl) (.cons (owB rfl) (.cons (owR rfl) (.cons (owR rfl) .nil)))))) ?_ ?_
    ·refine AW.block (AW.seq (AW.dg 1 [0,1,2,3,4,5,6,7,8,9,10,11,12,13,14,15] order_free hE rfl (by kernel_rfl) (OI.of_OL (os := [_,_,_,_,_,_,_,_,_,_,_,_,_,_,_,_]) rfl ?_)))
     refine faP fd.Online_2 rfl rfl (ldPC ce.Rats rfl rfl rfl (mvD rfl (ixLn sl.Rats 0 rfl rfl (by omega) rfl rfl (ldRA ag.Rat rfl (vs := [_,_,_]) rfl (nb9 rfl) (faP fd.Hidden_4 rfl rfl (ldPC ce.Ratss rfl rfl rfl (mvD rfl ?_)))))))
     refine ixLn sl.Ratss [] rfl rfl (by omega) rfl rfl (ldRC ce.Rats rfl (mvD rfl (ixLn sl.Rats 0 rfl rfl (by omega) rfl rfl (ldRA ag.Rat rfl (vs := [_,_,_]) rfl (nb9 rfl) (clv rfl (.cons (VLe.refl _) (.cons (VLe.refl _) (.nil))) (ref_MulQ (x := o.sc.getD i 0) (y := trQ h i j) (by omega) (by omega)) ?_)))))
     rw [show o.sc.getD i 0 * trQ h i j = (comeQ h o j i) from rfl]
     refine al z.Rat rfl fun b15 => (sto sz.Rat rfl rfl rfl rfl rfl (nb9 rfl) (cells2 := [_,_,_]) rfl (OL.nil (AW.seq (AW.dg 2 [0,1,2,4,5,6,7,8,3,9,10] order_free hE rfl (by kernel_rfl) (OI.of_OL (os := [_,_,_,_,_,_,_,_,_,_,_]) rfl ?_)))))
     refine lt0 sl.ints (faP fd.Online_4 rfl rfl (ldPC ce.ints rfl rfl rfl (faP fd.Online_3 rfl rfl (ldPC ce.intss rfl rfl rfl (mvD rfl (ixLn sl.intss [] rfl rfl (by omega) rfl rfl (ldRC ce.ints rfl ?_)))))))
     refine apM sl.ints rfl rfl (VC.d _) dI_len (by rw [List.length_map]; omega) (by rw [List.length_map]; omega) rfl fun b88 c88 => (apOD sl.ints rfl rfl rfl rfl (VC.d _) dI_len (by simp only [List.length_map]; omega) (by simp only [List.length_map]; omega) (.inl rfl) (ys := (o.dn ++ o.tl.getD i []).map dI) (by rw [List.map_append]) (asD rfl (OL.nil (AW.sg hE rfl (ldPA ag.Rat rfl rfl (vs := [_,_,_]) rfl (nb9 rfl) (ldPA ag.Rat rfl rfl (vs := [_,_,_]) rfl (nb9 rfl) (clv rfl (.cons (VLe.refl _) (.cons (VLe.refl _) (.nil))) (ref_CompareQ (x := (comeQ h o j i)) (y := (pickF h o j i).1) (by omega) (by omega)) ?_)))))))
     refine asD rfl (OL.nil ?_)
     refine AW.midK (α := Unit) [(1, _), (2, _), (4, _), (5, _), (6, _), (7, _), (8, _), (9, _), (10, _), (11, _), (12, _), (13, _), (14, _), (15, _), (16, _)] [(2, _), (4, _), (7, _), (8, _), (12, _), (15, _), (132, _), (145, _)] (fun _u => [(114, .d (dB (decide (betterP (comeQ h o j i) (o.tl.getD i []) (pickF h o j i)))))]) (fun _u => []) (fun _u => True) (.cons (knD rfl) (.cons (knP rfl) (.cons (knP rfl) (.cons (knM rfl) (.cons (knD rfl) (.cons (knP rfl) (.cons (knP rfl) (.cons (knO rfl) (.cons (knD rfl) (.cons (knD rfl) (.cons (knP rfl) (.cons (knD rfl) (.cons (knD rfl) (.cons (knP rfl) (.cons (knD rfl) .nil))))))))))))))) (.cons (owB rfl) (.cons (owB rfl) (.cons (owB rfl) (.cons (owB rfl) (.cons (owB rfl) (.cons (owB rfl) (.cons (owR rfl) (.cons (owR rfl) .nil)))))))) ?_ ?_
     ·refine AW.rg hE rfl (mvD rfl (c_gtr rfl rfl rfl (mvD rfl (OL.split 100 rfl (fun g1 => ?_) (fun g1 => ?_)))))
      ·have g1 := cmpQ_gt.1 (of_decide_eq_true g1)
       refine OL.nd rfl (OL.nd rfl (OL.nd rfl (OL.nd rfl (OL.nd rfl (OL.nd rfl (OL.nd rfl (OL.nd rfl ?_)))))))
       refine OL.nd rfl (OL.nd rfl (OL.nd rfl (OL.nd rfl (OL.nd rfl (pkT rfl rfl (OL.nil ?_))))))
       exact AW.reach () ⟨trivial, Knows.app .rq15 (.cons (VLe.bool ((decide_eq_true (.inl g1)).symm)) .nil), Owns.app (.cons rfl (.cons rfl (.cons rfl (.cons rfl (.cons rfl (.cons rfl (.cons rfl (.cons rfl .nil)))))))) (.nil)⟩
      ·have g1 : ¬ (pickF h o j i).1 < (comeQ h o j i) := fun e => of_decide_eq_false g1 (cmpQ_gt.2 e)
       refine OL.yes rfl (mvD rfl (OL.yes rfl (c_eql rfl rfl rfl (OL.yes rfl (mvD rfl (OL.split 103 rfl (fun g2 => ?_) (fun g2 => ?_)))))))
       ·have g2 : (comeQ h o j i) = (pickF h o j i).1 := cmpQ_eq.1 (of_decide_eq_true g2)
        refine OL.yes rfl (ldPA ag.Rat rfl rfl (vs := [_,_,_]) rfl (nb9 rfl) (OL.yes rfl (clv rfl (.cons (VLe.refl _) (.nil)) (ref_SignQ (x := (comeQ h o j i)) (by omega)) (OL.yes rfl (c_gtr rfl rfl rfl (OL.yes rfl (pkT rfl rfl ?_)))))))
        refine OL.yes rfl (mvD rfl (OL.split 108 rfl (fun g3 => ?_) (fun g3 => ?_)))
        ·have g3 : 0 < (comeQ h o j i) := sgn_gt.1 (of_decide_eq_true g3)
         have hcmp := refP_cmp g k.toValC hn0 hi g2 g3
         refine OL.yes rfl (mvD rfl (OL.yes rfl (mvD rfl (OL.yes rfl (clv rfl (.cons (VLe.refl _) (.cons (VLe.refl _) (.nil))) (ref05_CompareS (by rw [List.length_append]; omega)) ?_)))))
         rw [hcmp]
         refine OL.yes rfl (c_lss rfl rfl rfl (OL.yes rfl (pkT rfl rfl (pkF rfl rfl (OL.nil ?_)))))
         exact AW.reach () ⟨trivial, Knows.app .rq15 (.cons (VLe.bool (decide_eq_decide.2 ⟨fun e => .inr ⟨g2, g3, e⟩, fun e => (e.resolve_left g1).2.2⟩)) .nil), Owns.app (.cons rfl (.cons rfl (.cons rfl (.cons rfl (.cons rfl (.cons rfl (.cons rfl (.cons rfl .nil)))))))) (.nil)⟩
        ·have g3 : ¬ 0 < (comeQ h o j i) := fun e => of_decide_eq_false g3 (sgn_gt.2 e)
         refine OL.nd rfl (OL.nd rfl (OL.nd rfl (OL.nd rfl (OL.yes rfl (pkF rfl rfl (pkF rfl rfl (OL.nil ?_)))))))
         exact AW.reach () ⟨trivial, Knows.app .rq15 (.cons (VLe.bool ((decide_eq_false fun e => g3 (e.resolve_left g1).2.1).symm)) .nil), Owns.app (.cons rfl (.cons rfl (.cons rfl (.cons rfl (.cons rfl (.cons rfl (.cons rfl (.cons rfl .nil)))))))) (.nil)⟩
       ·have g2 : (comeQ h o j i) ≠ (pickF h o j i).1 := fun e => of_decide_eq_false g2 (cmpQ_eq.2 e)
        refine OL.nd rfl (OL.nd rfl (OL.nd rfl (OL.yes rfl (pkF rfl rfl (OL.yes rfl (mvD rfl (OL.nd rfl ?_)))))))
        refine OL.nd rfl (OL.nd rfl (OL.nd rfl (OL.yes rfl (pkF rfl rfl (pkF rfl rfl (OL.nil ?_))))))
        exact AW.reach () ⟨trivial, Knows.app .rq15 (.cons (VLe.bool ((decide_eq_false fun e => g2 (e.resolve_left g1).1).symm)) .nil), Owns.app (.cons rfl (.cons rfl (.cons rfl (.cons rfl (.cons rfl (.cons rfl (.cons rfl (.cons rfl .nil)))))))) (.nil)⟩
     rintro ⟨⟩ hφ
     refine AW.cond rfl (fun gb => ?_) (fun gb => ?_)
     ·have gb := of_decide_eq_true gb
      have hpk : (pickF h o j (i + 1)) = ((comeQ h o j i), o.tl.getD i []) := if_pos gb
      have hrp : (refP h o j (i + 1)) = o.dn ++ o.tl.getD i [] := by unfold refP; rw [hpk, if_pos (better_pos hn0 gb)]
      refine AW.rg hE rfl (ldPA ag.Rat rfl rfl (vs := [_,_,_]) rfl (nb9 rfl) (mvD rfl (sto sz.Rat rfl rfl rfl rfl rfl (nb9 rfl) (cells2 := [_,_,_]) rfl (asD rfl (OL.nil ?_)))))
      exact AW.reach () ⟨trivial, Knows.app .rq12 (.cons (vle_of_eq (by rw [hrp]; rfl)) .nil), Owns.app (.cons rfl (.cons rfl (.cons rfl (.cons rfl (.cons rfl (.cons rfl .nil)))))) (.cons (by rw [hpk]; rfl) .nil)⟩
     ·have gb := of_decide_eq_false gb
      have hpk : (pickF h o j (i + 1)) = (pickF h o j i) := if_neg gb
      have hrp : (refP h o j (i + 1)) = (refP h o j i) := by unfold refP; rw [hpk]
      refine AW.skip ?_
      exact AW.reach () ⟨trivial, Knows.app .rq12 (.cons (vle_of_eq (by rw [hrp]; rfl)) .nil), Owns.app (.cons rfl (.cons rfl (.cons rfl (.cons rfl (.cons rfl (.cons rfl .nil)))))) (.cons (by rw [hpk]; rfl) .nil)⟩
    rintro ⟨⟩ hφ
    refine AW.rg hE rfl (mvD rfl (add_i64 rfl rfl (by omega) (asD rfl (OL.nil ?_))))
    exact AW.again (x := i) (i + 1) (by omega) ⟨by omega, Knows.app .rq11 .rq2, Owns.app (.cons rfl (.cons rfl (.cons rfl (.cons rfl (.cons rfl (.cons rfl .nil)))))) (.cons rfl .nil)⟩
   ·have hi := of_decide_eq_false hi
    refine AW.exit (AW.seq ?_)
    obtain rfl : i = o.sc.length := by omega
    have ej := f.erow j hj
    have zem := em_szV f j x
    have zpn := (zn j).1 o.sc.length
    have znj := (zn j).2
    refine AW.dg 1 [0,1,2,3,4,5,6,7,8,9,10,11] order_free hE rfl (by kernel_rfl) (OI.of_OL (os := [_,_,_,_,_,_,_,_,_,_,_,_]) rfl ?_)
    refine ldPA ag.Rat rfl rfl (vs := [_,_,_]) rfl (nb9 rfl) (faP fd.Hidden_6 rfl rfl (ldPC ce.Ratss rfl rfl rfl (mvD rfl (ixLn sl.Ratss [] rfl rfl (by omega) rfl rfl (ldRC ce.Rats rfl (mvD rfl (bo rfl rfl (bin_sub (c := (x : Int)) (by omega) (wrap_i64 (by omega))) ?_)))))))
    refine ixLn sl.Rats 0 rfl rfl (by omega) rfl rfl (ldRA ag.Rat rfl (vs := [_,_,_]) rfl (nb9 rfl) (clv rfl (.cons (VLe.refl _) (.cons (VLe.refl _) (.nil))) (ref_MulQ (x := (pickF h o j o.sc.length).1) (y := emQ h j x) (by omega) (by omega)) ?_))
    rw [show (pickF h o j o.sc.length).1 * emQ h j x = newS h o x j from rfl]
    refine sto sz.Rat rfl rfl rfl rfl rfl (nb9 rfl) (cells2 := [_,_,_]) rfl (OL.nil (AW.sg hE rfl (faP fd.Online_2 rfl rfl (ldPC ce.Rats rfl rfl rfl (ldPA ag.Rat rfl rfl (vs := [_,_,_]) rfl (nb9 rfl) (lt1 (y := dQ (newS h o x j)) sl.Rats vd_q rfl (by decide) (apO sl.Rats rfl rfl rfl (by simp) (VC.d _) (by simp [D.cells]) (by simp; omega) (by simp; omega) (.inr rfl) (ys := ((List.range (j + 1)).map (newS h o x)).map dQ) (by rw [map_range_succ, List.map_append]; rfl) (n2 := j + 1) (by simp) fun b132 c132 => ?_)))))))
    refine faP fd.Online_2 rfl rfl (sto sz.Rats rfl rfl rfl rfl rfl (nb9 rfl) (cells2 := [_,_,_,_,_,_,_,_,_,_,_,_,_,_,_]) rfl (OL.nil (AW.sg hE rfl (ldPA ag.Rat rfl rfl (vs := [_,_,_]) rfl (nb9 rfl) (clv rfl (.cons (VLe.refl _) (.nil)) (ref_SignQ (x := newS h o x j) (by omega)) (c_gtr rfl rfl rfl (OL.nil ?_)))))))
    refine AW.cond rfl (fun hal => ?_) (fun hal => ?_)
    ·have hal : 0 < newS h o x j := sgn_gt.1 (of_decide_eq_true hal)
     have hnw := refP_new g k.toValC hal
     have hrl : (refP h o j o.sc.length).length ≤ 600 := by have := congrArg List.length hnw; have := hpwl j; rw [List.length_append] at *; omega
     refine AW.sg hE rfl (asD rfl (OL.nil (AW.rg hE rfl (mvO rfl (lt0 sl.ints (mvD rfl (apM sl.ints rfl rfl (VC.d _) dI_len (by rw [List.length_map]; omega) (by rw [List.length_map]; omega) rfl fun b140 c140 => ?_)))))))
     refine mvD rfl (lt1 sl.ints (VC.d _).vd rfl (by decide) ?_)
     refine apOD sl.ints rfl rfl rfl rfl (VC.d _) (by simp [D.cells]) (by simp only [List.length_map, List.length_singleton]; omega) (by simp only [List.length_map, List.length_singleton]; omega) (.inl rfl) (ys := (pathW h o x j).map dI) (by rw [← hnw, List.map_append]; rfl) ?_
     refine lt1 (y := ints (pathW h o x j)) sl.intss (VC.d _).vd rfl (by decide) (apO sl.intss rfl rfl rfl (by simp) (VC.d _) (by simp [D.cells]) (by simp; omega) (by simp; omega) (.inr rfl) (ys := ((List.range (j + 1)).map (pathW h o x)).map ints) (by rw [map_range_succ, List.map_append]; rfl) (n2 := j + 1) (by simp) fun b3 c3 => (asO rfl (OL.nil ?_)))
     exact AW.reach (true, b132, c132, b3, c3) ⟨trivial, Knows.app .rq8 (.cons (VLe.refl _) (.cons (VLe.bool (by rw [someN, if_pos hal])) .nil)), Owns.app (.cons rfl (.cons rfl (.cons rfl .nil))) ((.cons rfl (.cons rfl (.cons rfl .nil))))⟩
    ·have hal : ¬ 0 < newS h o x j := fun e => of_decide_eq_false hal (sgn_gt.2 e)
     have hpd : pathW h o x j = [] := if_neg hal
     refine AW.rg hE rfl (mvO rfl (lt1 (y := ints []) sl.intss VC.mt.vd rfl (by decide) (apO sl.intss rfl rfl rfl (by simp) (VC.d _) (by simp [D.cells]) (by simp; omega) (by simp; omega) (.inl rfl) (ys := ((List.range (j + 1)).map (pathW h o x)).map ints) (by rw [map_range_succ, List.map_append, hpd]; rfl) (n2 := j + 1) (by simp) fun b3 c3 => (asO rfl (OL.nil ?_)))))
     exact AW.reach (false, b132, c132, b3, c3) ⟨trivial, Knows.app .rq8 (.cons (VLe.refl _) (.cons (VLe.bool (by rw [someN, if_neg hal])) .nil)), Owns.app (.cons rfl (.cons rfl (.cons rfl .nil))) ((.cons rfl (.cons rfl (.cons rfl .nil))))⟩
  rintro ⟨z, b132, c132, b3, c3⟩ hφ
  refine AW.two z (st [(1, .d (dI ((x + 1 : Nat)))), (2, .ptr 2 b2 0), (4, .ptr 4 b4 0), (5, .mt), (6, .d (dI 0)), (7, .ptr 7 b7 0), (8, .ptr 8 b8 0), (11, .d (dI j)), (9, .osl 145 b3 (j + 1) c3), (10, .d (dB (someN h o x (j + 1))))] [(2, .box b2 T.Online (cellsOn h o)), (4, .box b4 T.Online [.d (.sc (.int .i64 0)), .d (.sc (.int .i64 0)), .d (.sc (.bool false)), .mt, .mt, .mt, .mt, .mt, .mt, .mt, .mt, .d (.sc (.int .i64 0)), .mt, .mt, .mt]), (7, .box b7 T.Hidden (cellsHM h)), (8, .box b8 T.Online (cellsOr h (o.t + 1) b132 (j + 1) c132)), (132, .row b132 c132 T.Rat 3 (((List.range (j + 1)).map (newS h o x)).map dQ)), (145, .row b3 c3 T.ints 1 (((List.range (j + 1)).map (pathW h o x)).map ints))]) ?m148 ?a148 ?e148
  case a148 => exact fun hz hk => by subst hz; exact AW.to _ _ (by repeat (first | exact Knows.nil | refine Knows.cons (by first | exact knD rfl | exact knA rfl | exact knP rfl | exact knM rfl | exact VLe.osl | exact knJ) ?_)) (by repeat (first | exact Owns.nil | refine Owns.cons (by rfl) ?_)) hk
  case e148 => exact fun hz hk => by subst hz; exact AW.rename 148 145 rfl (AW.to _ _ (by repeat (first | exact Knows.nil | refine Knows.cons (by first | exact knD rfl | exact knA rfl | exact knP rfl | exact knM rfl | exact VLe.osl | exact knJ) ?_)) (by repeat (first | exact Owns.nil | refine Owns.cons (by rfl) ?_)) hk)
  refine AW.rg hE rfl (mvD rfl (add_i64 rfl rfl (by omega) (asD rfl (OL.nil ?_))))
  exact AW.again (x := (j, r1, d1, r2, d2)) (j + 1, b132, c132, b3, c3) (by (simp only []; omega)) ⟨by omega, Knows.app .rq7 .rq3, Owns.app (.cons rfl (.cons rfl (.cons rfl .nil))) (.cons rfl (.cons rfl (.cons rfl .nil)))⟩
 ·try simp only [dx9] at h48
  refine AW.exit (AW.seq (AW.seq ?_))
  obtain rfl : j = h.st := by omega
  refine AW.freeze 132 rfl (AW.boxW 8 (cellsOm h (o.t + 1) ((List.range h.st).map (newS h o x))) rfl (.cons (VLe.refl _) (.cons (VLe.refl _) (.cons (VLe.refl _) (.cons (VLe.refl _) (.cons (VLe.refl _) (.cons (VLe.refl _) (.cons (VLe.refl _) (.cons (VLe.refl _) (.cons (VLe.refl _) (.cons (VLe.refl _) (.cons (VLe.refl _) (.cons (VLe.refl _) (.cons (frz_osl (by simp) rfl) .rq2))))))))))))) (AW.to [(1, .d (dI ((x + 1 : Nat)))), (2, .ptr 2 b2 0), (4, .ptr 4 b4 0), (5, .mt), (6, .d (dI 0)), (7, .ptr 7 b7 0), (8, .ptr 8 b8 0), (9, .osl 145 r2 h.st d2), (10, .d (dB (someN h o x h.st)))] [(2, .box b2 T.Online (cellsOn h o)), (4, .box b4 T.Online [.d (.sc (.int .i64 0)), .d (.sc (.int .i64 0)), .d (.sc (.bool false)), .mt, .mt, .mt, .mt, .mt, .mt, .mt, .mt, .d (.sc (.int .i64 0)), .mt, .mt, .mt]), (7, .box b7 T.Hidden (cellsHM h)), (8, .box b8 T.Online (cellsOm h (o.t + 1) ((List.range h.st).map (newS h o x)))), (145, .row r2 d2 T.ints 1 (((List.range h.st).map (pathW h o x)).map ints))] (by repeat (first | exact Knows.nil | refine Knows.cons (by first | exact knD rfl | exact knA rfl | exact knP rfl | exact knM rfl | exact knO rfl | exact VLe.osl | exact knJ) ?_)) (by repeat (first | exact Owns.nil | refine Owns.cons (by rfl) ?_)) ?_))
  refine AW.freeze 145 rfl (AW.to [(1, .d (dI ((x + 1 : Nat)))), (2, .ptr 2 b2 0), (4, .ptr 4 b4 0), (5, .mt), (6, .d (dI 0)), (7, .ptr 7 b7 0), (8, .ptr 8 b8 0), (9, .d (dPs ((List.range h.st).map (pathW h o x)))), (10, .d (dB (someN h o x h.st)))] [(2, .box b2 T.Online (cellsOn h o)), (4, .box b4 T.Online [.d (.sc (.int .i64 0)), .d (.sc (.int .i64 0)), .d (.sc (.bool false)), .mt, .mt, .mt, .mt, .mt, .mt, .mt, .mt, .d (.sc (.int .i64 0)), .mt, .mt, .mt]), (7, .box b7 T.Hidden (cellsHM h)), (8, .box b8 T.Online (cellsOm h (o.t + 1) ((List.range h.st).map (newS h o x))))] (by repeat (first | exact Knows.nil | refine Knows.cons (by first | exact knD rfl | exact knA rfl | exact knP rfl | exact knM rfl | exact (frz_osl (by simp) rfl) | exact knJ) ?_)) (by repeat (first | exact Owns.nil | refine Owns.cons (by rfl) ?_)) ?_)
  refine AW.rg hE rfl (mvD rfl (nt rfl (OL.nil (AW.cond rfl (fun hs => ?_) (fun hs => ?_)))))
  ·have hs : ¬ someN h o x h.st = true := fun e => by rw [e] at hs; cases hs
   refine AW.sg hE rfl (bd z.Online pl.Online (cs := [_,_,_,_,_,_,_,_,_,_,_,_,_,_,_]) rfl (sto sz.Online rfl rfl rfl rfl rfl (nb9 rfl) (cells2 := [_,_,_,_,_,_,_,_,_,_,_,_,_,_,_]) rfl (asM rfl (asD rfl (OL.nil ?_)))))
   rw [show pushH h o x = HM0 from if_neg hs, show pushD h o x = ⟨0, [], [], []⟩ from if_neg hs, show pushC h o x = [] from if_neg hs, show pushE h o x = 11 from if_neg hs]
   exact AW.ret (RetQ.r ⟨_, .cellA rfl rfl ag.Online (nb9 rfl) (.tmp rfl (.tmp rfl .nil)), _, .cons (.ag (.cons (.le (VLe.refl _)) (.cons (.le (VLe.refl _)) (.cons (.le (vle_of_eq (by show _ = V.d (dB (ofQ 0).neg); rw [ofQ_zero]))) (.cons (.le (by show VLe _ (.d (u32s (ofQ 0).num)); rw [ofQ_zero]; exact VLe.mt)) (.cons (.le (by show VLe _ (.d (u32s (ofQ 0).den)); rw [ofQ_zero]; exact VLe.mt)) (.cons (.le (VLe.mt)) (.cons (.le (VLe.mt)) (.cons (.le (VLe.mt)) (.cons (.le (VLe.mt)) (.cons (.le (VLe.mt)) (.cons (.le (VLe.mt)) (.cons (.le (VLe.refl _)) (.cons (.le (VLe.mt)) (.cons (.le (VLe.mt)) (.cons (.le (VLe.mt)) .nil)))))))))))))))) (.cons (.le (VLe.mt)) (.cons (.le (VLe.refl _)) .nil)), rfl⟩)
  ·have hs : someN h o x h.st = true := by cases e : someN h o x h.st with | true => rfl | false => rw [e] at hs; cases hs
   refine AW.skip (AW.seq ?_)
   have hzr : Small (K + 2097152) ((List.range h.st).map (newS h o x)) := small_map fun j _ => (zn j).2
   have hrs : ((List.range h.st).map (newS h o x)).length = h.st := by simp
   have hrt : ((List.range h.st).map (pathW h o x)).length = h.st := by simp
   obtain ⟨ja, hja, hpa⟩ := someN_iff.1 hs
   have hkk : (comF (fun j => decide (0 < ((List.range h.st).map (newS h o x)).getD j 0)) (fun j => ((List.range h.st).map (pathW h o x)).getD j []) h.st).1 = (((o.dn.length + keepK h o x) : Nat) : Int) := by
    rw [com_congr (al2 := aliveN h o x) (ps2 := pathW h o x) fun i hi => ⟨by rw [map_getD_range _ _ hi]; rfl, map_getD_range _ _ hi⟩]
    have hsh := (com_shift (al := aliveN h o x) (ps := newT h o x) (qs := pathW h o x) (d := o.dn) (fun j ha => if_pos (of_decide_eq_true ha)) h.st).2 (by have := ((com_spec (aliveN h o x) (newT h o x) h.st).some ⟨ja, hja, decide_eq_true hpa⟩).1; omega)
    rw [hsh]
    unfold keepK comK
    simp only []
    omega
   refine AW.rg hE rfl (ldPA ag.Online rfl rfl (vs := [_,_,_,_,_,_,_,_,_,_,_,_,_,_,_]) rfl (nb9 rfl) (mvD rfl ?_))
   refine clv rfl (.cons vle_om .rq1) (ref37_common (h := h) (o := (⟨o.t + 1, ((List.range h.st).map (newS h o x)), [], []⟩ : Dec)) (tls := ((List.range h.st).map (pathW h o x))) hzr hC2 hrs hrt (by omega) (fun j => by rcases Nat.lt_or_ge j h.st with hj | hj; rw [map_getD_range _ _ hj]; have := hpwl j; omega; rw [getD_ge (by omega)]; exact Nat.zero_le _)) ?_
   rw [hkk]
   refine asD rfl (OL.nil (AW.seq (AW.sg hE rfl (asD rfl (OL.nil (AW.block ?_))))))
   refine AW.boxW 8 (cellsOs h (o.t + 1) ((List.range h.st).map (newS h o x)) 190 0 0 0 (doneR h o x 0)) rfl (.cons (VLe.refl _) (.cons (VLe.refl _) (.cons (VLe.refl _) (.cons (VLe.refl _) (.cons (VLe.refl _) (.cons (VLe.refl _) (.cons (VLe.refl _) (.cons (VLe.refl _) (.cons (VLe.refl _) (.cons (VLe.refl _) (.cons (VLe.refl _) (.cons (VLe.refl _) (.cons (VLe.refl _) (.cons VLe.mtO (.cons VLe.mt .nil))))))))))))))) ?_
   refine AW.row0 190 T.ints 1 rfl ?_
   refine AW.whileK (α := Nat × Nat × Nat) [(2, _), (4, _), (5, _), (6, _), (7, _), (8, _), (9, _), (18, _)] [(2, _), (4, _), (7, _)] (fun (i, b3, c3) => [(19, .d (dI i))]) (fun (i, b3, c3) => [(8, .box b8 T.Online (cellsOs h (o.t + 1) ((List.range h.st).map (newS h o x)) 190 b3 i c3 (doneR h o x i))), (190, .row b3 c3 T.ints 1 ((mixD h o x i).map ints))]) (fun (i, b3, c3) => i ≤ h.st) (fun (i, b3, c3) => h.st - i) (0, 0, 0) (.cons (knP rfl) (.cons (knP rfl) (.cons (knM rfl) (.cons (knD rfl) (.cons (knP rfl) (.cons (knP rfl) (.cons (knD rfl) (.cons (knD rfl) .nil)))))))) (.cons (owB rfl) (.cons (owB rfl) (.cons (owB rfl) .nil))) ⟨Nat.zero_le _, .rq1, .cons rfl (.cons rfl .nil)⟩ ?_
   rintro ⟨i, b3, c3⟩ h6
   have h6 : i ≤ h.st := h6
   refine AW.seq (AW.sg hE rfl (mvD rfl (faP fd.Hidden_1 rfl rfl (ldPC ce.int rfl rfl rfl (c_lss rfl rfl rfl (OL.nil (AW.cond rfl (fun h158 => ?_) (fun h158 => ?_))))))))
   ·try simp only [dx9] at h158
    refine AW.skip ?_
    refine AW.midK (α := Bool × Nat × Nat) [(2, _), (4, _), (5, _), (6, _), (7, _), (8, _), (9, _), (18, _), (19, _)] [(2, _), (4, _), (7, _)] (fun (z, q5, y5) => []) (fun (z, q5, y5) => [(8, .box b8 T.Online (cellsOs h (o.t + 1) ((List.range h.st).map (newS h o x)) (if z then 190 else 168) q5 (i + 1) y5 (doneR h o x (i + 1)))), ((if z then 190 else 168), .row q5 y5 T.ints 1 ((mixD h o x (i + 1)).map ints))]) (fun (z, q5, y5) => True) (.cons (knP rfl) (.cons (knP rfl) (.cons (knM rfl) (.cons (knD rfl) (.cons (knP rfl) (.cons (knP rfl) (.cons (knD rfl) (.cons (knD rfl) (.cons (knD rfl) .nil))))))))) (.cons (owB rfl) (.cons (owB rfl) (.cons (owB rfl) .nil))) ?_ ?_
    ·refine AW.block (AW.seq (AW.seq ?_))
     have hi : i < h.st := by omega
     have hge : ((List.range h.st).map (pathW h o x)).getD i [] = pathW h o x i := map_getD_range _ _ hi
     have hgi : ((List.range h.st).map (newS h o x)).getD i 0 = newS h o x i := map_getD_range _ _ hi
     have hpi := hpwl i
     refine AW.rg hE rfl (ldPA ag.Online rfl rfl (vs := [_,_,_,_,_,_,_,_,_,_,_,_,_,_,_]) rfl (nb9 rfl) (mvD rfl (clv rfl (.cons (VLe.refl _) (.cons (VLe.refl _) (.nil))) (ref37_liveP (h := h) (t := o.t + 1) (b3 := b3) (n3 := i) (c3 := c3) (d := doneR h o x i) (i := i) (l := ((List.range h.st).map (newS h o x))) hzr hC2 (by omega)) ?_)))
     rw [hgi]
     refine nt rfl (OL.nil (AW.cond rfl (fun hal => ?_) (fun hal => ?_)))
     ·have hal : ¬ 0 < newS h o x i := fun e => by rw [decide_eq_true e] at hal; cases hal
      have hnd := newT_dead hal
      have hdr : doneR h o x (i + 1) = doneR h o x i := by unfold doneR; rw [someN, if_neg hal, cmtF, if_neg (show ¬ aliveN h o x i = true from fun e => hal (of_decide_eq_true e))]
      refine AW.sg hE rfl (faP fd.Online_3 rfl rfl (ldPC ce.intss rfl rfl rfl (lt1 (y := ints []) sl.intss VC.mt.vd rfl (by decide) ?_)))
      refine apO sl.intss rfl rfl rfl (by simp [mixD]) (VC.d _) (by simp [D.cells]) (by simp; omega) (by simp; omega) (.inl rfl) (ys := (mixD h o x (i + 1)).map ints) (by unfold mixD; rw [map_range_succ, List.map_append, hnd, List.drop_nil]; rfl) (n2 := i + 1) (by simp) fun q5 y5 => ?_
      refine faP fd.Online_3 rfl rfl (sto sz.intss rfl rfl rfl rfl rfl (nb9 rfl) (cells2 := [_,_,_,_,_,_,_,_,_,_,_,_,_,_,_]) rfl (OL.nil (AW.exit ?_)))
      exact AW.reach (false, q5, y5) ⟨trivial, Knows.app .rq9 (.nil), Owns.app (.cons rfl (.cons rfl (.cons rfl .nil))) ((.cons (by rw [hdr]; rfl) (.cons rfl .nil)))⟩
     ·have hal : 0 < newS h o x i := by cases hd : decide (0 < newS h o x i) with | true => exact of_decide_eq_true hd | false => rw [hd] at hal; cases hal
      have hkl : (keepK h o x) ≤ (newT h o x i).length := (com_same (al := aliveN h o x) (ps := newT h o x) hi hi (decide_eq_true hal) (decide_eq_true hal)).1
      have hpe : pathW h o x i = o.dn ++ newT h o x i := if_pos hal
      have hpel : (pathW h o x i).length = o.dn.length + (newT h o x i).length := by rw [hpe, List.length_append]
      have hdr : doneR h o x (i + 1) = o.dn ++ (newT h o x i).take (keepK h o x) := by unfold doneR; rw [someN, if_pos hal, if_pos rfl, cmtF, if_pos (show aliveN h o x i = true from decide_eq_true hal)]
      have htk : (pathW h o x i).take (o.dn.length + keepK h o x) = doneR h o x (i + 1) := by rw [hpe, hdr, List.take_append, List.take_of_length_le (by omega), show (o.dn.length + keepK h o x) - o.dn.length = (keepK h o x) by omega]
      have hdk : (pathW h o x i).drop (o.dn.length + keepK h o x) = (newT h o x i).drop (keepK h o x) := by rw [hpe, List.drop_append, List.drop_eq_nil_of_le (by omega), show (o.dn.length + keepK h o x) - o.dn.length = (keepK h o x) by omega]; rfl
      refine AW.skip (AW.sg hE rfl (lt0 sl.ints (mvD rfl (mvD rfl (ixLn sl.intss [] rfl rfl (by omega) rfl rfl (ldRC ce.ints rfl ?_))))))
      rw [hge]
      refine mvD rfl (slTo sl.ints rfl rfl (fun _ => rfl) (by omega) (l2 := doneR h o x (i + 1)) (by rw [Int.toNat_natCast, htk]) (apMD sl.ints rfl rfl (VC.d _) dI_len (by rw [List.length_map, ← htk, List.length_take]; omega) (by rw [List.length_map, ← htk, List.length_take]; omega) (faP fd.Online_4 rfl rfl (sto sz.ints rfl rfl rfl rfl rfl (nb9 rfl) (cells2 := [_,_,_,_,_,_,_,_,_,_,_,_,_,_,_]) rfl (OL.nil (AW.dg 2 [0,1,2,3,4,5,6,7,8,9,10,11,12,13] order_free hE rfl (by kernel_rfl) (OI.of_OL (os := [_,_,_,_,_,_,_,_,_,_,_,_,_,_]) rfl ?_)))))))
      refine faP fd.Online_3 rfl rfl (ldPC ce.intss rfl rfl rfl (lt0 sl.ints (mvD rfl (mvD rfl (ixLn sl.intss [] rfl rfl (by omega) rfl rfl (ldRC ce.ints rfl ?_))))))
      rw [hge]
      refine mvD rfl (slFrom sl.ints rfl rfl (fun _ => rfl) (by omega) (l2 := (newT h o x i).drop (keepK h o x)) (by rw [Int.toNat_natCast, hdk]) (apMD sl.ints rfl rfl (VC.d _) dI_len (by rw [List.length_map, List.length_drop]; omega) (by rw [List.length_map, List.length_drop]; omega) (lt1 (y := ints ((newT h o x i).drop (keepK h o x))) sl.intss (VC.d _).vd rfl (by decide) (apO sl.intss rfl rfl rfl (by simp [mixD]) (VC.d _) (by simp [D.cells]) (by simp; omega) (by simp; omega) (.inr rfl) (ys := (mixD h o x (i + 1)).map ints) (by unfold mixD; rw [map_range_succ, List.map_append]; rfl) (n2 := i + 1) (by simp) fun q5 y5 => (faP fd.Online_3 rfl rfl ?_)))))
      refine sto sz.intss rfl rfl rfl rfl rfl (nb9 rfl) (cells2 := [_,_,_,_,_,_,_,_,_,_,_,_,_,_,_]) rfl (OL.nil ?_)
      exact AW.reach (true, q5, y5) ⟨trivial, Knows.app .rq9 (.nil), Owns.app (.cons rfl (.cons rfl (.cons rfl .nil))) ((.cons rfl (.cons rfl .nil)))⟩
    rintro ⟨z, q5, y5⟩ hφ
    refine AW.two z (st [(2, .ptr 2 b2 0), (4, .ptr 4 b4 0), (5, .mt), (6, .d (dI 0)), (7, .ptr 7 b7 0), (8, .ptr 8 b8 0), (9, .d (dPs ((List.range h.st).map (pathW h o x)))), (18, .d (dI ((o.dn.length + keepK h o x) : Nat))), (19, .d (dI i))] [(2, .box b2 T.Online (cellsOn h o)), (4, .box b4 T.Online [.d (.sc (.int .i64 0)), .d (.sc (.int .i64 0)), .d (.sc (.bool false)), .mt, .mt, .mt, .mt, .mt, .mt, .mt, .mt, .d (.sc (.int .i64 0)), .mt, .mt, .mt]), (7, .box b7 T.Hidden (cellsHM h)), (8, .box b8 T.Online (cellsOs h (o.t + 1) ((List.range h.st).map (newS h o x)) 190 q5 (i + 1) y5 (doneR h o x (i + 1)))), (190, .row q5 y5 T.ints 1 ((mixD h o x (i + 1)).map ints))]) ?m168 ?a168 ?e168
    case a168 => exact fun hz hk => by subst hz; exact AW.to _ _ (by repeat (first | exact Knows.nil | refine Knows.cons (by first | exact knD rfl | exact knA rfl | exact knP rfl | exact knM rfl | exact VLe.osl | exact knJ) ?_)) (by repeat (first | exact Owns.nil | refine Owns.cons (by rfl) ?_)) hk
    case e168 => exact fun hz hk => by subst hz; exact AW.rename 168 190 rfl (AW.boxW 8 (cellsOs h (o.t + 1) ((List.range h.st).map (newS h o x)) 190 q5 (i + 1) y5 (doneR h o x (i + 1))) rfl (.cons (VLe.refl _) (.cons (VLe.refl _) (.cons (VLe.refl _) (.cons (VLe.refl _) (.cons (VLe.refl _) (.cons (VLe.refl _) (.cons (VLe.refl _) (.cons (VLe.refl _) (.cons (VLe.refl _) (.cons (VLe.refl _) (.cons (VLe.refl _) (.cons (VLe.refl _) (.cons (VLe.refl _) (.cons VLe.osl .rq1)))))))))))))) (AW.to _ _ (by repeat (first | exact Knows.nil | refine Knows.cons (by first | exact knD rfl | exact knA rfl | exact knP rfl | exact knM rfl | exact VLe.osl | exact knJ) ?_)) (by repeat (first | exact Owns.nil | refine Owns.cons (by rfl) ?_)) hk))
    refine AW.rg hE rfl (mvD rfl (add_i64 rfl rfl (by omega) (asD rfl (OL.nil ?_))))
    exact AW.again (x := (i, b3, c3)) (i + 1, q5, y5) (by (simp only []; omega)) ⟨by omega, Knows.app .rq8 .rq1, Owns.app (.cons rfl (.cons rfl (.cons rfl .nil))) (.cons rfl (.cons rfl .nil))⟩
   ·try simp only [dx9] at h158
    refine AW.exit (AW.seq ?_)
    obtain rfl : i = h.st := by omega
    have hdn : doneR h o x h.st = o.dn ++ cmtF h o x h.st := if_pos hs
    have hcl := cmt_len (h := h) (x := x) htl h.st
    have hdnl : (doneR h o x h.st).length = o.dn.length + (cmtF h o x h.st).length := by rw [hdn, List.length_append]
    refine AW.dg 2 [0,1,2,3,4,5,6,7,8,9,10,11] order_free hE rfl (by kernel_rfl) (OI.of_OL (os := [_,_,_,_,_,_,_,_,_,_,_,_]) rfl ?_)
    refine ldPA ag.Online rfl rfl (vs := [_,_,_,_,_,_,_,_,_,_,_,_,_,_,_]) rfl (nb9 rfl) (lt0 sl.ints (faP fd.Online_4 rfl rfl (ldPC ce.ints rfl rfl rfl (faP fd.Online_4 rfl rfl (ldPC ce.ints rfl rfl rfl (lnL sl.ints rfl rfl (slFrom sl.ints rfl rfl (fun _ => rfl) (by omega) (l2 := cmtF h o x h.st) (by rw [Int.toNat_natCast, hdn, List.drop_left]) ?_)))))))
    refine apMD sl.ints rfl rfl (VC.d _) dI_len (by rw [List.length_map]; omega) (by rw [List.length_map]; omega) (sto sz.Online rfl rfl rfl rfl rfl (nb9 rfl) (cells2 := [_,_,_,_,_,_,_,_,_,_,_,_,_,_,_]) rfl (asD rfl (asD rfl (OL.nil ?_))))
    rw [show pushH h o x = h from if_pos hs, show pushD h o x = stepD h o x from if_pos hs, show pushC h o x = cmtF h o x h.st from if_pos hs, show pushE h o x = 0 from if_pos hs]
    exact AW.ret (RetQ.r ⟨_, .cellA rfl rfl ag.Online (nb9 rfl) (.tmp rfl (.tmp rfl .nil)), _, .cons (.ag (.cons (.le (VLe.refl _)) (.cons (.le (VLe.refl _)) (.cons (.le (VLe.refl _)) (.cons (.le (VLe.refl _)) (.cons (.le (VLe.refl _)) (.cons (.le (VLe.refl _)) (.cons (.le (VLe.refl _)) (.cons (.le (VLe.refl _)) (.cons (.le (VLe.refl _)) (.cons (.le (VLe.refl _)) (.cons (.le (VLe.refl _)) (.cons (.le (VLe.refl _)) (.cons (.le (VLe.refl _)) (.cons (RO.row rfl (by simp [mixD]) rfl) (.cons (.le (vle_of_eq (by rw [hdn]; rfl))) .nil)))))))))))))))) (.cons (.le (VLe.refl _)) (.cons (.le (VLe.refl _)) .nil)), rfl⟩)
set_option maxRecDepth 8000 in
set_option maxHeartbeats 1600000 in
theorem ref37_Push4 {r : RDec} {s : Int} (zd : r.Sz) (n : ¬ VR r) : FSpec P F.ref37_Push [vOR r, .d (dI s)] (.tup [vOn HM0 DEC0, .d (ints []), .d (dI 4)]) := by
 refine FSpec.intro fn.ref37_Push (by rfl) (by rfl) (nb9 (by rfl)) fun E hE => (AW.sg hE rfl (bxA rfl rfl fun b2 => (al z.Online rfl fun b4 => (asM rfl (asD rfl (OL.nil (AW.seq ?_)))))))
 refine AW.sg hE rfl (ldPA ag.Online rfl rfl (vs := [_,_,_,_,_,_,_,_,_,_,_,_,_,_,_]) rfl (nb9 rfl) (clv rfl (.cons (VLe.refl _) (.nil)) (ref37_ValidR zd) ?_))
 rw [← vrB_f n]
 refine nt rfl (OL.nil (AW.cond rfl (fun _ => ?_) (fun hno => absurd hno (by decide))))
 refine AW.sg hE rfl (bd z.Online pl.Online (cs := [_,_,_,_,_,_,_,_,_,_,_,_,_,_,_]) rfl (sto sz.Online rfl rfl rfl rfl rfl (nb9 rfl) (cells2 := [_,_,_,_,_,_,_,_,_,_,_,_,_,_,_]) rfl (asM rfl (asD rfl (OL.nil ?_)))))
 exact AW.ret (RetQ.r ⟨_, .cellA rfl rfl ag.Online (nb9 rfl) (.tmp rfl (.tmp rfl .nil)), _, .cons (.ag (.cons (.le (VLe.refl _)) (.cons (.le (VLe.refl _)) (.cons (.le (vle_of_eq (by show _ = V.d (dB (ofQ 0).neg); rw [ofQ_zero]))) (.cons (.le (by show VLe _ (.d (u32s (ofQ 0).num)); rw [ofQ_zero]; exact VLe.mt)) (.cons (.le (by show VLe _ (.d (u32s (ofQ 0).den)); rw [ofQ_zero]; exact VLe.mt)) (.cons (.le (VLe.mt)) (.cons (.le (VLe.mt)) (.cons (.le (VLe.mt)) (.cons (.le (VLe.mt)) (.cons (.le (VLe.mt)) (.cons (.le (VLe.mt)) (.cons (.le (VLe.refl _)) (.cons (.le (VLe.mt)) (.cons (.le (VLe.mt)) (.cons (.le (VLe.mt)) .nil)))))))))))))))) (.cons (.le (VLe.mt)) (.cons (.le (VLe.refl _)) .nil)), rfl⟩)
set_option maxRecDepth 8000 in
set_option maxHeartbeats 1600000 in
theorem ref37_Push1 {r : RDec} {s : Int} (zd : r.Sz) (v : VR r) (n : ¬ PushOK r s) : FSpec P F.ref37_Push [vOR r, .d (dI s)] (.tup [vOn HM0 DEC0, .d (ints []), .d (dI 1)]) := by
 refine FSpec.intro fn.ref37_Push (by rfl) (by rfl) (nb9 (by rfl)) fun E hE => (AW.sg hE rfl (bxA rfl rfl fun b2 => (al z.Online rfl fun b4 => (asM rfl (asD rfl (OL.nil (AW.seq ?_)))))))
 refine AW.sg hE rfl (ldPA ag.Online rfl rfl (vs := [_,_,_,_,_,_,_,_,_,_,_,_,_,_,_]) rfl (nb9 rfl) (clv rfl (.cons (VLe.refl _) (.nil)) (ref37_ValidR zd) ?_))
 rw [← vrB_t v]
 refine nt rfl (OL.nil (AW.cond rfl (fun hno => absurd hno (by decide)) (fun _ => ?_)))
 refine AW.skip (AW.sg hE rfl (faP fd.Online_0 rfl rfl (ldPA ag.Hidden rfl rfl (vs := [_,_,_,_,_,_,_,_,_,_,_]) rfl (nb9 rfl) (al z.Hidden rfl fun b7 => (sto sz.Hidden rfl rfl rfl rfl rfl (nb9 rfl) (cells2 := [_,_,_,_,_,_,_,_,_,_,_]) rfl (OL.nil (AW.seq ?_)))))))
 refine AW.sg hE rfl (mvD rfl (c_lss rfl rfl rfl (OL.split 27 rfl (fun a1 => ?_) (fun a1 => ?_))))
 ·have a1 : s < 1 := of_decide_eq_true a1
  refine mvD rfl (OL.nd rfl (OL.nd rfl (OL.nd rfl (OL.nd rfl (pkT rfl rfl (mvD rfl (OL.nd rfl ?_)))))))
  refine OL.nd rfl (OL.nd rfl (pkT rfl rfl (OL.nil (AW.cond rfl (fun _ => ?_) (fun hno => absurd hno (by decide))))))
  refine AW.sg hE rfl (bd z.Online pl.Online (cs := [_,_,_,_,_,_,_,_,_,_,_,_,_,_,_]) rfl (sto sz.Online rfl rfl rfl rfl rfl (nb9 rfl) (cells2 := [_,_,_,_,_,_,_,_,_,_,_,_,_,_,_]) rfl (asM rfl (asD rfl (OL.nil ?_)))))
  exact AW.ret (RetQ.r ⟨_, .cellA rfl rfl ag.Online (nb9 rfl) (.tmp rfl (.tmp rfl .nil)), _, .cons (.ag (.cons (.le (VLe.refl _)) (.cons (.le (VLe.refl _)) (.cons (.le (vle_of_eq (by show _ = V.d (dB (ofQ 0).neg); rw [ofQ_zero]))) (.cons (.le (by show VLe _ (.d (u32s (ofQ 0).num)); rw [ofQ_zero]; exact VLe.mt)) (.cons (.le (by show VLe _ (.d (u32s (ofQ 0).den)); rw [ofQ_zero]; exact VLe.mt)) (.cons (.le (VLe.mt)) (.cons (.le (VLe.mt)) (.cons (.le (VLe.mt)) (.cons (.le (VLe.mt)) (.cons (.le (VLe.mt)) (.cons (.le (VLe.mt)) (.cons (.le (VLe.refl _)) (.cons (.le (VLe.mt)) (.cons (.le (VLe.mt)) (.cons (.le (VLe.mt)) .nil)))))))))))))))) (.cons (.le (VLe.mt)) (.cons (.le (VLe.refl _)) .nil)), rfl⟩)
 ·have a1 : ¬ s < 1 := of_decide_eq_false a1
  refine mvD rfl (OL.yes rfl (mvD rfl (OL.yes rfl (faP fd.Hidden_0 rfl rfl (OL.yes rfl (ldPC ce.int rfl rfl rfl (OL.yes rfl ?_)))))))
  refine c_gtr rfl rfl rfl (OL.split 32 rfl (fun a2 => ?_) (fun a2 => ?_))
  ·have a2 : r.m.sym < s := of_decide_eq_true a2
   refine pkF rfl rfl (mvD rfl (OL.nd rfl (OL.nd rfl (OL.nd rfl (pkT rfl rfl (OL.nil (AW.cond rfl (fun _ => ?_) (fun hno => absurd hno (by decide)))))))))
   refine AW.sg hE rfl (bd z.Online pl.Online (cs := [_,_,_,_,_,_,_,_,_,_,_,_,_,_,_]) rfl (sto sz.Online rfl rfl rfl rfl rfl (nb9 rfl) (cells2 := [_,_,_,_,_,_,_,_,_,_,_,_,_,_,_]) rfl (asM rfl (asD rfl (OL.nil ?_)))))
   exact AW.ret (RetQ.r ⟨_, .cellA rfl rfl ag.Online (nb9 rfl) (.tmp rfl (.tmp rfl .nil)), _, .cons (.ag (.cons (.le (VLe.refl _)) (.cons (.le (VLe.refl _)) (.cons (.le (vle_of_eq (by show _ = V.d (dB (ofQ 0).neg); rw [ofQ_zero]))) (.cons (.le (by show VLe _ (.d (u32s (ofQ 0).num)); rw [ofQ_zero]; exact VLe.mt)) (.cons (.le (by show VLe _ (.d (u32s (ofQ 0).den)); rw [ofQ_zero]; exact VLe.mt)) (.cons (.le (VLe.mt)) (.cons (.le (VLe.mt)) (.cons (.le (VLe.mt)) (.cons (.le (VLe.mt)) (.cons (.le (VLe.mt)) (.cons (.le (VLe.mt)) (.cons (.le (VLe.refl _)) (.cons (.le (VLe.mt)) (.cons (.le (VLe.mt)) (.cons (.le (VLe.mt)) .nil)))))))))))))))) (.cons (.le (VLe.mt)) (.cons (.le (VLe.refl _)) .nil)), rfl⟩)
  ·have a2 : ¬ r.m.sym < s := of_decide_eq_false a2
   refine pkF rfl rfl (mvD rfl (OL.yes rfl (faP fd.Online_1 rfl rfl (OL.yes rfl (ldPC ce.int rfl rfl rfl (OL.yes rfl (c_eql rfl rfl (c := true) (decide_eq_true (Classical.byContradiction fun e => n ⟨v, by omega, by omega, e⟩)) ?_)))))))
   refine pkF rfl rfl (OL.nil (AW.cond rfl (fun _ => ?_) (fun hno => absurd hno (by decide))))
   refine AW.sg hE rfl (bd z.Online pl.Online (cs := [_,_,_,_,_,_,_,_,_,_,_,_,_,_,_]) rfl (sto sz.Online rfl rfl rfl rfl rfl (nb9 rfl) (cells2 := [_,_,_,_,_,_,_,_,_,_,_,_,_,_,_]) rfl (asM rfl (asD rfl (OL.nil ?_)))))
   exact AW.ret (RetQ.r ⟨_, .cellA rfl rfl ag.Online (nb9 rfl) (.tmp rfl (.tmp rfl .nil)), _, .cons (.ag (.cons (.le (VLe.refl _)) (.cons (.le (VLe.refl _)) (.cons (.le (vle_of_eq (by show _ = V.d (dB (ofQ 0).neg); rw [ofQ_zero]))) (.cons (.le (by show VLe _ (.d (u32s (ofQ 0).num)); rw [ofQ_zero]; exact VLe.mt)) (.cons (.le (by show VLe _ (.d (u32s (ofQ 0).den)); rw [ofQ_zero]; exact VLe.mt)) (.cons (.le (VLe.mt)) (.cons (.le (VLe.mt)) (.cons (.le (VLe.mt)) (.cons (.le (VLe.mt)) (.cons (.le (VLe.mt)) (.cons (.le (VLe.mt)) (.cons (.le (VLe.refl _)) (.cons (.le (VLe.mt)) (.cons (.le (VLe.mt)) (.cons (.le (VLe.mt)) .nil)))))))))))))))) (.cons (.le (VLe.mt)) (.cons (.le (VLe.refl _)) .nil)), rfl⟩)
theorem plainV {r : RDec} (z : r.Sz) (c : chkP r.m = 0) : FSpec P F.ref33_Plain [vHM (hm r.m)] (.d (dB true)) := by
 have h := ref33_PlainR z.m
 rw [(chkP_good z.m c).2, decide_eq_true c] at h
 exact h
theorem ref37_PushA {r : RDec} {s : Int} (z : r.Sz) : FSpec P F.ref37_Push [vOR r, .d (dI s)] (.tup [vOn (pshH r s) (pshD r s), .d (ints (pshC r s)), .d (dI (pshE r s))]) := by
 by_cases v : VR r
 ·by_cases k : PushOK r s
  ·obtain ⟨e1, e2, e3, e4⟩ := psh_ok k
   obtain ⟨g, _⟩ := chkP_good z.m v.p
   have hi := k.hi
   have lo := k.lo
   have h256 := k.t
   have h1 := v.t0
   have h2 := v.time
   have hs : r.m.sym = ((hm r.m).sym : Nat) := (chkP_sym v.p).symm
   have h3 := ref37_PushV (x := (s - 1).toNat) g (plainV z v.p) (v.val z) (by decide) (show r.t.toNat ≤ 255 by omega) (show (s - 1).toNat < (hm r.m).sym by omega)
   rw [show (((s - 1).toNat + 1 : Nat) : Int) = s by omega, ← vOR_eq z v] at h3
   rw [e1, e2, e3, e4]
   exact h3
  ·obtain ⟨e1, e2, e3⟩ := psh_not k
   rw [e1, e2, e3, psh_1 v k]
   exact ref37_Push1 z v k
 ·obtain ⟨e1, e2, e3⟩ := psh_not fun k : PushOK r s => v k.v
  rw [e1, e2, e3, psh_4 v]
  exact ref37_Push4 z v
end Go.Proofs.YtjghehkgmanmbaaGreat

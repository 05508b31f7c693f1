/-
  Walks of package online, on any input: the end of a word (printed by mk2.py).
-/
import Derived.Test.YtjghehkgmanmbaaGreatKOxE
import Derived.Test.YtjghehkgmanmbaaGreatKMod48
set_option linter.unusedVariables false
set_option linter.unusedSimpArgs false
namespace Go.Proofs.YtjghehkgmanmbaaGreat
open Go Go.AL
def own13 : Nat → Option Nat
 | 62 => some 0 | 63 => some 1 | 64 => some 2 | 65 => some 3 | 66 => some 4 | 67 => some 5 | 5 => some 6
 | _ => none
theorem own13_inj {t i : Nat} (h : own13 t = some i) : t = [62, 63, 64, 65, 66, 67, 5].getD i 0 := by
 unfold own13 at h
 split at h <;> first | (cases h; rfl) | cases h
noncomputable def val13 (o : Dec) (c : Rat) (b1 b5 i : Nat) (t : Nat) (_ : Nat → Nat × Nat) : V :=
 match t with
 | 62 => vQ c
 | 63 => .ptr 1 b1 13
 | 64 => .d (dIss o.tl)
 | 65 => .d (dI i)
 | 66 => .ref (ints (o.tl.getD i [])).cells
 | 67 => .d (ints (o.tl.getD i []))
 | 5 => .ptr 5 b5 0
 | _ => .junk
noncomputable def blk13 (c : Rat) (b5 : Nat) (t : Nat) (_ : Nat → Nat × Nat) : Option Blk :=
 match t with
 | 5 => some (.box b5 T.Rat (cellsQ c))
 | _ => none
def refF (h : HM) (o : Dec) (i : Nat) : List Int := if 0 < (finF h o i).1 then o.dn ++ (finF h o i).2 else []
theorem refF_zero {h : HM} {o : Dec} (k : ValC h o) : refF h o 0 = [] := by
 unfold refF
 rw [finF]
 by_cases h0 : o.t = 0
 ·rw [(k.zero h0).2.2, if_pos h0]; split <;> rfl
 ·rw [if_neg h0, if_neg (by decide)]
theorem refF_cmp {h : HM} {B : Nat} {o : Dec} {i : Nat} (g : h.GoodW B) (k : ValC h o) (h0 : o.t ≠ 0) (hi : i < o.sc.length) (he : endQ h o i = (finF h o i).1) (hp : 0 < endQ h o i) : cmpS (o.dn ++ o.tl.getD i []) (refF h o i) = cmpL (o.tl.getD i []) (finF h o i).2 := by
 have hd := k.heads h0
 have l1 := (k.len h0).1
 have ps := fin_spec (h := h) h0 i
 have hlen : ∀ i, i < h.st → 0 < endQ h o i → (o.dn ++ o.tl.getD i []).length = o.t := fun i hi hp => (pathsF_mem (hd.live i hi (pos_of_mul (hd.nonneg i hi) (stop_nonneg g i) hp).1).1).1
 obtain ⟨i2, hi2, e2⟩ := ps.pos (by rw [← he]; exact hp)
 have a := hlen i (by omega) hp
 have b := hlen i2 (by omega) (by
  have e3 := congrArg Prod.fst e2
  simp only at e3
  rw [← e3, ← he]; exact hp)
 unfold refF
 rw [if_pos (by rw [← he]; exact hp), cmpS_same (by rw [a, e2]; exact b.symm), cmpL_left]
theorem fin_nonneg {h : HM} {B : Nat} {o : Dec} (g : h.GoodW B) (k : ValC h o) : 0 ≤ (finF h o o.sc.length).1 := by
 by_cases h0 : o.t = 0
 ·rw [(k.zero h0).1, List.length_nil, finF, if_pos h0]; exact g.pE.1
 ·exact (fin_spec (h := h) h0 _).nonneg
theorem refF_all {h : HM} {B : Nat} {o : Dec} (g : h.GoodW B) (k : ValC h o) : refF h o o.sc.length = finP h o := by
 have hn := fin_nonneg g k
 unfold refF finP
 by_cases hz : (finF h o o.sc.length).1 = 0
 ·rw [if_pos hz, if_neg (by rw [hz]; decide)]
 ·rw [if_neg hz, if_pos (Std.lt_of_le_of_ne hn fun e => hz e.symm)]
theorem bet_pos {h : HM} {o : Dec} {i : Nat} {y : List Int} {x : Rat} (ht : o.t ≠ 0) (hb : betterP x y (finF h o i)) : 0 < x := by
 rcases hb with hb | ⟨_, hb, _⟩
 ·exact Std.lt_of_le_of_lt (fin_spec ht i).nonneg hb
 ·exact hb
open Classical in
noncomputable def fnP (r : RDec) : List Int := if VR r then finP (hm r.m) (decR r) else []
open Classical in
noncomputable def fnQ (r : RDec) : Rat := if VR r then (finF (hm r.m) (decR r) (decR r).sc.length).1 else 0
open Classical in
noncomputable def fnE (r : RDec) : Int := if VR r then finE (hm r.m) (decR r) else 4
set_option maxRecDepth 8000 in
set_option maxHeartbeats 6400000 in
theorem on_FinishV {h : HM} {K : Nat} {o : Dec} (g : h.GoodW 1048576) (k : ValD K h o) : FSpec P F.online_Finish [vOn h o] (.tup [.d (ints (finP h o)), vQ (finF h o o.sc.length).1, .d (dI (finE h o))]) := by
 have f := g.form
 have n0 := f.st0
 have n1 := f.st1
 have hK1 := k.K1
 have htl := tails_lenV k
 have hdl := done_lenV k
 have hle := k.le
 have hscl : o.sc.length ≤ 12 := by
   by_cases h0 : o.t = 0
   ·rw [(k.zero h0).1]; exact Nat.zero_le _
   ·rw [(k.len h0).1]; exact n1
 have zn := fin_szV f k
 refine FSpec.intro fn.online_Finish (by rfl) (by rfl) (nb9 (by rfl)) fun E hE => (AW.sg hE rfl (bxA rfl rfl fun b1 => (asM rfl (al z.Rat rfl fun b3 => (asD rfl (OL.nil (AW.seq ?_)))))))
 refine AW.sg hE rfl (ldPA ag.Online rfl rfl (vs := [_,_,_,_,_,_,_,_,_,_,_,_,_,_,_]) rfl (nb9 rfl) (clv rfl (.cons (VLe.refl _) (.nil)) (on_ValidV g k) (nt rfl (OL.nil (AW.cond rfl (fun hno => absurd hno (by decide)) (fun _ => ?_))))))
 refine AW.skip (AW.sg hE rfl (al z.Rat rfl fun b5 => (OL.nil (AW.sg hE rfl (asM rfl (OL.nil ?_))))))
 refine AW.midK (α := Unit) [(1, _), (2, _), (3, _), (4, _), (5, _)] [(1, _), (3, _)] (fun _u => [(6, .d (ints []))]) (fun _u => [(5, .box b5 T.Rat (cellsQ (finF h o 0).1))]) (fun _u => True) (.cons (knP rfl) (.cons (knM rfl) (.cons (knP rfl) (.cons (knD rfl) (.cons (knP rfl) .nil))))) (.cons (owB rfl) (.cons (owB rfl) .nil)) ?_ ?_
 ·refine AW.sg hE rfl (faP fd.Online_1 rfl rfl (ldPC ce.int rfl rfl rfl (c_eql rfl rfl rfl (OL.nil (AW.cond rfl (fun h0 => ?_) (fun h0 => ?_))))))
  ·have h0 : o.t = 0 := by have := of_decide_eq_true h0; omega
   exact AW.rg hE rfl (faP fd.Online_0 rfl rfl (faP fd.Hidden_2 rfl rfl (ldPA ag.Rat rfl rfl (vs := [_,_,_]) rfl (nb9 rfl) (clv rfl (.cons (VLe.refl _) (.nil)) (fresh_Rat (q := h.empty) (by have := f.zE; have := f.bB; omega)) (sto sz.Rat rfl rfl rfl rfl rfl (nb9 rfl) (cells2 := [_,_,_]) rfl (OL.nil (AW.reach () ⟨trivial, Knows.app .rq5 (.cons (VLe.mt) .nil), Owns.app (.cons rfl (.cons rfl .nil)) (.cons (by rw [finF, if_pos h0]; rfl) .nil)⟩)))))))
  ·have h0 : o.t ≠ 0 := fun e => of_decide_eq_false h0 (by omega)
   exact AW.boxW 5 (cellsQ 0) rfl vles_q (AW.skip (AW.reach () ⟨trivial, Knows.app .rq5 (.cons (VLe.mt) .nil), Owns.app (.cons rfl (.cons rfl .nil)) (.cons (by rw [finF, if_neg h0]; rfl) .nil)⟩))
 rintro ⟨⟩ hφ
 refine AW.seq (AW.sg hE rfl (faP fd.Online_2 rfl rfl (ldPC ce.Rats rfl rfl rfl (lnL sl.Rats rfl rfl (mvD rfl (OL.nil (AW.block ?_)))))))
 refine AW.whileK (α := Nat) [(1, _), (2, _), (3, _), (4, _), (5, _), (23, _), (24, _)] [(1, _), (3, _)] (fun i => [(6, .d (ints (finF h o i).2)), (25, .d (dI i))]) (fun i => [(5, .box b5 T.Rat (cellsQ (finF h o i).1))]) (fun i => i ≤ o.sc.length) (fun i => o.sc.length - i) 0 (.cons (knP rfl) (.cons (knM rfl) (.cons (knP rfl) (.cons (knD rfl) (.cons (knP rfl) (.cons (knD rfl) (.cons (knD rfl) .nil))))))) (.cons (owB rfl) (.cons (owB rfl) .nil)) ⟨Nat.zero_le _, .rq2, .cons rfl .nil⟩ ?_
 intro i h3
 have h3 : i ≤ o.sc.length := h3
 have zp := zn i
 have zs := k.small.get hK1.1 i
 have zt := stop_szV f i
 have zc : sz (endQ h o i) ≤ sz (o.sc.getD i 0) + sz (h.stop.getD i 0) := sz_mul (o.sc.getD i 0) (h.stop.getD i 0)
 have hpkl := fin_len (h := h) htl i
 refine AW.sg hE rfl (c_lss rfl rfl rfl (OL.nil (AW.seq (AW.cond rfl (fun h26 => ?_) (fun h26 => ?_)))))
 ·try simp only [dx9] at h26
  refine AW.skip ?_
  refine AW.midK (α := Unit) [(1, _), (2, _), (3, _), (4, _), (5, _), (23, _), (24, _), (25, _)] [(1, _), (3, _)] (fun _u => [(6, .d (ints (finF h o (i + 1)).2))]) (fun _u => [(5, .box b5 T.Rat (cellsQ (finF h o (i + 1)).1))]) (fun _u => True) (.cons (knP rfl) (.cons (knM rfl) (.cons (knP rfl) (.cons (knD rfl) (.cons (knP rfl) (.cons (knD rfl) (.cons (knD rfl) (.cons (knD rfl) .nil)))))))) (.cons (owB rfl) (.cons (owB rfl) .nil)) ?_ ?_
  ·refine AW.block (AW.seq ?_)
   have hn0 : o.t ≠ 0 := fun e => by have h6 := congrArg List.length (k.zero e).1; rw [List.length_nil] at h6; omega
   obtain ⟨l1, l2⟩ := k.len hn0
   have e3 := f.stop
   refine AW.rg hE rfl (mvD rfl (ixLn sl.Rats 0 rfl rfl (by omega) rfl rfl (ldRA ag.Rat rfl (vs := [_,_,_]) rfl (nb9 rfl) (al z.Rat rfl fun b8 => (asD rfl (sto sz.Rat rfl rfl rfl rfl rfl (nb9 rfl) (cells2 := [_,_,_]) rfl (OL.nil ?_)))))))
   refine AW.seq (AW.dg 1 [0,1,2,3,4,5,6,7,8,9] order_free hE rfl (by kernel_rfl) (OI.of_OL (os := [_,_,_,_,_,_,_,_,_,_]) rfl ?_))
   refine ldPA ag.Rat rfl rfl (vs := [_,_,_]) rfl (nb9 rfl) (faP fd.Online_0 rfl rfl (faP fd.Hidden_5 rfl rfl (ldPC ce.Rats rfl rfl rfl (mvD rfl (ixLn sl.Rats 0 rfl rfl (by omega) rfl rfl (ldRA ag.Rat rfl (vs := [_,_,_]) rfl (nb9 rfl) (clv rfl (.cons (VLe.refl _) (.cons (VLe.refl _) (.nil))) (rational_MulQ (x := o.sc.getD i 0) (y := h.stop.getD i 0) (by omega) (by omega)) ?_)))))))
   rw [show o.sc.getD i 0 * h.stop.getD i 0 = (endQ h o i) from rfl]
   refine al z.Rat rfl fun b9 => (sto sz.Rat rfl rfl rfl rfl rfl (nb9 rfl) (cells2 := [_,_,_]) rfl (OL.nil (AW.sg hE rfl (ldPA ag.Rat rfl rfl (vs := [_,_,_]) rfl (nb9 rfl) (ldPA ag.Rat rfl rfl (vs := [_,_,_]) rfl (nb9 rfl) (clv rfl (.cons (VLe.refl _) (.cons (VLe.refl _) (.nil))) (rational_CompareQ (x := (endQ h o i)) (y := (finF h o i).1) (by omega) (by omega)) (asD rfl ?_)))))))
   refine OL.nil ?_
   refine AW.midK (α := Unit) [(1, _), (2, _), (3, _), (4, _), (5, _), (6, _), (7, _), (9, _), (23, _), (24, _), (25, _)] [(1, _), (3, _), (5, _), (9, _)] (fun _u => [(61, .d (dB (decide (betterP (endQ h o i) (o.tl.getD i []) (finF h o i)))))]) (fun _u => []) (fun _u => True) (.cons (knP rfl) (.cons (knM rfl) (.cons (knP rfl) (.cons (knD rfl) (.cons (knP rfl) (.cons (knD rfl) (.cons (knD rfl) (.cons (knP rfl) (.cons (knD rfl) (.cons (knD rfl) (.cons (knD rfl) .nil))))))))))) (.cons (owB rfl) (.cons (owB rfl) (.cons (owB rfl) (.cons (owB rfl) .nil)))) ?_ ?_
   ·refine AW.rg hE rfl (mvD rfl (c_gtr rfl rfl rfl (mvD rfl (OL.split 43 rfl (fun g1 => ?_) (fun g1 => ?_)))))
    ·have g1 := cmpQ_gt.1 (of_decide_eq_true g1)
     refine OL.nd rfl (OL.nd rfl (OL.nd rfl (OL.nd rfl (OL.nd rfl (OL.nd rfl (OL.nd rfl (OL.nd rfl ?_)))))))
     refine OL.nd rfl (OL.nd rfl (OL.nd rfl (OL.nd rfl (OL.nd rfl (OL.nd rfl (OL.nd rfl (OL.nd rfl ?_)))))))
     refine OL.nd rfl (pkT rfl rfl (OL.nil ?_))
     exact AW.reach () ⟨trivial, Knows.app .rq11 (.cons (VLe.bool ((decide_eq_true (.inl g1)).symm)) .nil), Owns.app (.cons rfl (.cons rfl (.cons rfl (.cons rfl .nil)))) (.nil)⟩
    ·have g1 : ¬ (finF h o i).1 < (endQ h o i) := fun e => of_decide_eq_false g1 (cmpQ_gt.2 e)
     refine OL.yes rfl (mvD rfl (OL.yes rfl (c_eql rfl rfl rfl (OL.yes rfl (mvD rfl (OL.split 46 rfl (fun g2 => ?_) (fun g2 => ?_)))))))
     ·have g2 : (endQ h o i) = (finF h o i).1 := cmpQ_eq.1 (of_decide_eq_true g2)
      refine OL.yes rfl (ldPA ag.Rat rfl rfl (vs := [_,_,_]) rfl (nb9 rfl) (OL.yes rfl (clv rfl (.cons (VLe.refl _) (.nil)) (rational_SignQ (x := (endQ h o i)) (by omega)) (OL.yes rfl (c_gtr rfl rfl rfl (OL.yes rfl (pkT rfl rfl ?_)))))))
      refine OL.yes rfl (mvD rfl (OL.split 51 rfl (fun g3 => ?_) (fun g3 => ?_)))
      ·have g3 : 0 < (endQ h o i) := sgn_gt.1 (of_decide_eq_true g3)
       refine OL.yes rfl (faP fd.Online_3 rfl rfl (OL.yes rfl (ldPC ce.intss rfl rfl rfl (OL.yes rfl (mvD rfl (OL.yes rfl (ixLn sl.intss [] rfl rfl (by omega) rfl rfl ?_)))))))
       refine OL.yes rfl (ldRC ce.ints rfl (OL.yes rfl (mvD rfl (OL.yes rfl (clv rfl (.cons (VLe.refl _) (.cons (VLe.refl _) (.nil))) (compare_ints (by have := htl i; omega)) (OL.yes rfl (c_lss rfl rfl rfl ?_)))))))
       refine OL.yes rfl (pkT rfl rfl (pkF rfl rfl (OL.nil ?_)))
       exact AW.reach () ⟨trivial, Knows.app .rq11 (.cons (VLe.bool (decide_eq_decide.2 ⟨fun e => .inr ⟨g2, g3, e⟩, fun e => (e.resolve_left g1).2.2⟩)) .nil), Owns.app (.cons rfl (.cons rfl (.cons rfl (.cons rfl .nil)))) (.nil)⟩
      ·have g3 : ¬ 0 < (endQ h o i) := fun e => of_decide_eq_false g3 (sgn_gt.2 e)
       refine OL.nd rfl (OL.nd rfl (OL.nd rfl (OL.nd rfl (OL.nd rfl (OL.nd rfl (OL.nd rfl (OL.nd rfl ?_)))))))
       refine OL.yes rfl (pkF rfl rfl (pkF rfl rfl (OL.nil ?_)))
       exact AW.reach () ⟨trivial, Knows.app .rq11 (.cons (VLe.bool ((decide_eq_false fun e => g3 (e.resolve_left g1).2.1).symm)) .nil), Owns.app (.cons rfl (.cons rfl (.cons rfl (.cons rfl .nil)))) (.nil)⟩
     ·have g2 : (endQ h o i) ≠ (finF h o i).1 := fun e => of_decide_eq_false g2 (cmpQ_eq.2 e)
      refine OL.nd rfl (OL.nd rfl (OL.nd rfl (OL.yes rfl (pkF rfl rfl (OL.yes rfl (mvD rfl (OL.nd rfl ?_)))))))
      refine OL.nd rfl (OL.nd rfl (OL.nd rfl (OL.nd rfl (OL.nd rfl (OL.nd rfl (OL.nd rfl (OL.yes rfl ?_)))))))
      refine pkF rfl rfl (pkF rfl rfl (OL.nil ?_))
      exact AW.reach () ⟨trivial, Knows.app .rq11 (.cons (VLe.bool ((decide_eq_false fun e => g2 (e.resolve_left g1).1).symm)) .nil), Owns.app (.cons rfl (.cons rfl (.cons rfl (.cons rfl .nil)))) (.nil)⟩
   rintro ⟨⟩ hφ
   refine AW.cond rfl (fun gb => ?_) (fun gb => ?_)
   ·have gb := of_decide_eq_true gb
    have hpk : (finF h o (i + 1)) = ((endQ h o i), o.tl.getD i []) := if_pos gb
    refine AW.region_plan (val13 o (endQ h o i) b1 b5 i) (blk13 (endQ h o i) b5) own13 7 order_free (by rw [hE]; rfl) (by rfl) (by kernel_rfl) (by kernel_rfl) ?_ ?_
    ·refine cases7 ?_ ?_ ?_ ?_ ?_ ?_ ?_
     ·exact fun β L c => ⟨_, rfl, OG.of_OL (ldPA ag.Rat ((pS_old rfl).trans rfl) ((pS_Mold rfl).trans rfl) (vs := cellsQ (endQ h o i)) rfl (nb9 rfl) ⟨β, pS_put (d := 62) (i := 0) rfl (fun t ht => own13_inj ht) (lt_size 8 c.size rfl (by decide)) rfl⟩)⟩
     ·exact fun β L c => ⟨_, rfl, OG.of_OL (faP fd.Online_3 (b := b1) (o := 0) (id := 1) ((pS_old rfl).trans rfl) rfl ⟨β, pS_put (d := 63) (i := 1) rfl (fun t ht => own13_inj ht) (lt_size 8 c.size rfl (by decide)) rfl⟩)⟩
     ·exact fun β L c => ⟨_, rfl, OG.of_OL (ldPC ce.intss (pS_new rfl (c.dep 1 (by kernel_rfl))) (((pS_Mold rfl).trans rfl : _ = some (.box b1 T.Online (cellsOn h o)))) (v := .d (dIss o.tl)) rfl ⟨β, pS_put (d := 64) (i := 2) rfl (fun t ht => own13_inj ht) (lt_size 8 c.size rfl (by decide)) rfl⟩)⟩
     ·exact fun β L c => ⟨_, rfl, OG.of_OL (mvD (y := dI i) ((pS_old rfl).trans rfl) ⟨β, pS_put (d := 65) (i := 3) rfl (fun t ht => own13_inj ht) (lt_size 8 c.size rfl (by decide)) rfl⟩)⟩
     ·exact fun β L c => ⟨_, rfl, OG.of_OL (ixLn sl.intss [] (l := o.tl) (f := ints) (i := i) (pS_new rfl (c.dep 2 (by kernel_rfl))) (pS_new rfl (c.dep 3 (by kernel_rfl))) (by omega) (cs := (ints (o.tl.getD i [])).cells) rfl rfl ⟨β, pS_put (d := 66) (i := 4) rfl (fun t ht => own13_inj ht) (lt_size 8 c.size rfl (by decide)) rfl⟩)⟩
     ·exact fun β L c => ⟨_, rfl, OG.of_OL (ldRC ce.ints (pS_new rfl (c.dep 4 (by kernel_rfl))) ⟨β, pS_put (d := 67) (i := 5) rfl (fun t ht => own13_inj ht) (lt_size 8 c.size rfl (by decide)) rfl⟩)⟩
     ·exact fun β L c => ⟨_, rfl, OG.of_OL (sto sz.Rat ((pS_rho0 (t := 5) (i := 6) rfl c.no).trans rfl) (pS_new rfl (c.dep 0 (by kernel_rfl))) rfl ((pS_M0 (t := 5) (i := 6) rfl c.no).trans rfl) rfl (nb9 rfl) (cells2 := cellsQ (endQ h o i)) rfl ⟨β, pS_sto (d := 5) (i := 6) rfl (fun t ht => own13_inj ht) (lt_size 8 c.size rfl (by decide)) c.no rfl rfl⟩)⟩
    refine fun β L c => ⟨_, rfl, OG.of_OL (asD (y := ints (o.tl.getD i [])) (pS_new rfl (c.dep 5 (by kernel_rfl))) ?_)⟩
    refine OL.nil ?_
    exact AW.reach () ⟨trivial, Knows.app (.cons (vle_of_eq (putneS (show (1:Nat) ≠ 6 by decide) ((pS_old rfl).trans rfl))) (.cons (vle_of_eq (putneS (show (2:Nat) ≠ 6 by decide) ((pS_old rfl).trans rfl))) (.cons (vle_of_eq (putneS (show (3:Nat) ≠ 6 by decide) ((pS_old rfl).trans rfl))) (.cons (vle_of_eq (putneS (show (4:Nat) ≠ 6 by decide) ((pS_old rfl).trans rfl))) (.cons (vle_of_eq (putneS (show (5:Nat) ≠ 6 by decide) (pS_new (t := 5) (i := 6) rfl (c.dep 6 (by kernel_rfl))))) (.cons (vle_of_eq (putneS (show (23:Nat) ≠ 6 by decide) ((pS_old rfl).trans rfl))) (.cons (vle_of_eq (putneS (show (24:Nat) ≠ 6 by decide) ((pS_old rfl).trans rfl))) (.cons (vle_of_eq (putneS (show (25:Nat) ≠ 6 by decide) ((pS_old rfl).trans rfl))) (.nil))))))))) (.cons (vle_of_eq (putsmS.trans (by rw [hpk]))) .nil), Owns.app (.cons (putM ((pS_Mold (t := 1) rfl).trans rfl)) (.cons (putM ((pS_Mold (t := 3) rfl).trans rfl)) (.nil))) (.cons (putM ((pS_M (t := 5) (i := 6) rfl (c.dep 6 (by kernel_rfl)) rfl).trans (by rw [hpk]))) .nil)⟩
   ·have gb := of_decide_eq_false gb
    have hpk : (finF h o (i + 1)) = (finF h o i) := if_neg gb
    refine AW.skip ?_
    exact AW.reach () ⟨trivial, Knows.app .rq8 (.cons (vle_of_eq (by rw [hpk]; rfl)) .nil), Owns.app (.cons rfl (.cons rfl .nil)) (.cons (by rw [hpk]; rfl) .nil)⟩
  rintro ⟨⟩ hφ
  refine AW.rg hE rfl (add_i64 rfl rfl (by omega) (mvD rfl (OL.nil ?_)))
  exact AW.again (x := i) (i + 1) (by omega) ⟨by omega, Knows.app .rq7 .rq2, Owns.app (.cons rfl (.cons rfl .nil)) (.cons rfl .nil)⟩
 ·try simp only [dx9] at h26
  refine AW.exit (AW.seq (AW.seq ?_))
  obtain rfl : i = o.sc.length := by omega
  refine AW.rg hE rfl (ldPA ag.Rat rfl rfl (vs := [_,_,_]) rfl (nb9 rfl) (clv rfl (.cons (VLe.refl _) (.nil)) (rational_SignQ (x := (finF h o o.sc.length).1) (by omega)) (c_eql rfl rfl rfl (OL.nil (AW.cond rfl (fun hz => ?_) (fun hz => ?_))))))
  ·have hz : (finF h o o.sc.length).1 = 0 := sgnQ_eq.1 (of_decide_eq_true hz)
   refine AW.sg hE rfl (bd z.Rat pl.Rat (cs := [_,_,_]) rfl (asM rfl (sto sz.Rat rfl rfl rfl rfl rfl (nb9 rfl) (cells2 := [_,_,_]) rfl (asD rfl (OL.nil ?_)))))
   exact AW.ret (RetQ.r ⟨_, .tmp rfl (.cellA rfl rfl ag.Rat (nb9 rfl) (.tmp rfl .nil)), _, .cons (.le (by rw [finP, if_pos hz]; exact VLe.mt)) (.cons (.ag (.cons (.le (by rw [hz, ofQ_zero]; exact VLe.refl _)) (.cons (.le (by rw [hz, ofQ_zero]; exact VLe.mt)) (.cons (.le (by rw [hz, ofQ_zero]; exact VLe.mt)) .nil)))) (.cons (.le (VLe.int (by rw [finE, if_pos hz]))) .nil)), rfl⟩)
  ·have hz : (finF h o o.sc.length).1 ≠ 0 := fun e => of_decide_eq_false hz (sgnQ_eq.2 e)
   refine AW.skip (AW.seq (AW.region_tree order_free (by rw [hE]; rfl) (OT.node [0, 2, 5] (os := [_,_,_]) (by kernel_rfl) (by decide) rfl ⟨?_, ?_, ?_, trivial⟩)))
   ·refine faP fd.Online_4 rfl rfl (OL.nil (OT.node [1, 2, 5] (os := [_,_,_]) (by kernel_rfl) (by decide) rfl ⟨?_, ?_, ?_, trivial⟩))
    ·refine ldPC ce.ints rfl rfl rfl (OL.nil (OT.node [2, 5] (os := [_,_]) (by kernel_rfl) (by decide) rfl ⟨?_, ?_, trivial⟩))
     ·refine mvD rfl (OL.nil (OT.node [3, 5] (os := [_,_]) (by kernel_rfl) (by decide) rfl ⟨?_, ?_, trivial⟩))
      ·refine lt2 (y := ints o.dn) (y2 := ints (finF h o o.sc.length).2) sl.intss (VC.d _).vd (VC.d _).vd ⟨rfl, rfl⟩ (by decide) (OL.nil (OT.node [4, 5] (os := [_,_]) (by kernel_rfl) (by decide) rfl ⟨?_, ?_, trivial⟩))
       ·refine clv rfl (.cons (VLe.refl _) (.nil)) (concat_ints (L := [o.dn, (finF h o o.sc.length).2]) (by simp) (by rw [show List.flatten [o.dn, (finF h o o.sc.length).2] = o.dn ++ (finF h o o.sc.length).2 by simp, List.length_append]; omega)) ?_
        rw [show List.flatten [o.dn, (finF h o o.sc.length).2] = o.dn ++ (finF h o o.sc.length).2 by simp]
        refine OL.nil (OT.node [5, 6] (os := [_,_]) (by kernel_rfl) (by decide) rfl ⟨?_, ?_, trivial⟩)
        ·refine ldPA ag.Rat rfl rfl (vs := [_,_,_]) rfl (nb9 rfl) (OL.nil (OT.node [6] (os := [_]) (by kernel_rfl) (by decide) rfl ⟨?_, trivial⟩))
         refine asD rfl (OL.nil (OT.node [7] (os := [_]) (by kernel_rfl) (by decide) rfl ⟨?_, trivial⟩))
         refine sto sz.Rat rfl rfl rfl rfl rfl (nb9 rfl) (cells2 := [_,_,_]) rfl (OL.nil (OT.node [8] (os := [_]) (by kernel_rfl) (by decide) rfl ⟨?_, trivial⟩))
         refine asD rfl (OL.nil (OT.leaf (by kernel_rfl) ?_))
         exact AW.ret (RetQ.r ⟨_, .tmp rfl (.cellA rfl rfl ag.Rat (nb9 rfl) (.tmp rfl .nil)), _, .cons (.le (vle_of_eq (by rw [finP, if_neg hz]; rfl))) (.cons (.ag (.cons (.le (VLe.refl _)) (.cons (.le (VLe.refl _)) (.cons (.le (VLe.refl _)) .nil)))) (.cons (.le (VLe.int (by rw [finE, if_neg hz]))) .nil)), rfl⟩)
        ·refine asD rfl (OL.nil (OT.node [5] (os := [_]) (by kernel_rfl) (by decide) rfl ⟨?_, trivial⟩))
         refine ldPA ag.Rat rfl rfl (vs := [_,_,_]) rfl (nb9 rfl) (OL.nil (OT.node [7] (os := [_]) (by kernel_rfl) (by decide) rfl ⟨?_, trivial⟩))
         refine sto sz.Rat rfl rfl rfl rfl rfl (nb9 rfl) (cells2 := [_,_,_]) rfl (OL.nil (OT.node [8] (os := [_]) (by kernel_rfl) (by decide) rfl ⟨?_, trivial⟩))
         refine asD rfl (OL.nil (OT.leaf (by kernel_rfl) ?_))
         exact AW.ret (RetQ.r ⟨_, .tmp rfl (.cellA rfl rfl ag.Rat (nb9 rfl) (.tmp rfl .nil)), _, .cons (.le (vle_of_eq (by rw [finP, if_neg hz]; rfl))) (.cons (.ag (.cons (.le (VLe.refl _)) (.cons (.le (VLe.refl _)) (.cons (.le (VLe.refl _)) .nil)))) (.cons (.le (VLe.int (by rw [finE, if_neg hz]))) .nil)), rfl⟩)
       ·refine ldPA ag.Rat rfl rfl (vs := [_,_,_]) rfl (nb9 rfl) (OL.nil (OT.node [4] (os := [_]) (by kernel_rfl) (by decide) rfl ⟨?_, trivial⟩))
        refine clv rfl (.cons (VLe.refl _) (.nil)) (concat_ints (L := [o.dn, (finF h o o.sc.length).2]) (by simp) (by rw [show List.flatten [o.dn, (finF h o o.sc.length).2] = o.dn ++ (finF h o o.sc.length).2 by simp, List.length_append]; omega)) ?_
        rw [show List.flatten [o.dn, (finF h o o.sc.length).2] = o.dn ++ (finF h o o.sc.length).2 by simp]
        refine OL.nil (OT.node [6] (os := [_]) (by kernel_rfl) (by decide) rfl ⟨?_, trivial⟩)
        refine asD rfl (OL.nil (OT.node [7] (os := [_]) (by kernel_rfl) (by decide) rfl ⟨?_, trivial⟩))
        refine sto sz.Rat rfl rfl rfl rfl rfl (nb9 rfl) (cells2 := [_,_,_]) rfl (OL.nil (OT.node [8] (os := [_]) (by kernel_rfl) (by decide) rfl ⟨?_, trivial⟩))
        refine asD rfl (OL.nil (OT.leaf (by kernel_rfl) ?_))
        exact AW.ret (RetQ.r ⟨_, .tmp rfl (.cellA rfl rfl ag.Rat (nb9 rfl) (.tmp rfl .nil)), _, .cons (.le (vle_of_eq (by rw [finP, if_neg hz]; rfl))) (.cons (.ag (.cons (.le (VLe.refl _)) (.cons (.le (VLe.refl _)) (.cons (.le (VLe.refl _)) .nil)))) (.cons (.le (VLe.int (by rw [finE, if_neg hz]))) .nil)), rfl⟩)
      ·refine ldPA ag.Rat rfl rfl (vs := [_,_,_]) rfl (nb9 rfl) (OL.nil (OT.node [3] (os := [_]) (by kernel_rfl) (by decide) rfl ⟨?_, trivial⟩))
       refine lt2 (y := ints o.dn) (y2 := ints (finF h o o.sc.length).2) sl.intss (VC.d _).vd (VC.d _).vd ⟨rfl, rfl⟩ (by decide) (OL.nil (OT.node [4] (os := [_]) (by kernel_rfl) (by decide) rfl ⟨?_, trivial⟩))
       refine clv rfl (.cons (VLe.refl _) (.nil)) (concat_ints (L := [o.dn, (finF h o o.sc.length).2]) (by simp) (by rw [show List.flatten [o.dn, (finF h o o.sc.length).2] = o.dn ++ (finF h o o.sc.length).2 by simp, List.length_append]; omega)) ?_
       rw [show List.flatten [o.dn, (finF h o o.sc.length).2] = o.dn ++ (finF h o o.sc.length).2 by simp]
       refine OL.nil (OT.node [6] (os := [_]) (by kernel_rfl) (by decide) rfl ⟨?_, trivial⟩)
       refine asD rfl (OL.nil (OT.node [7] (os := [_]) (by kernel_rfl) (by decide) rfl ⟨?_, trivial⟩))
       refine sto sz.Rat rfl rfl rfl rfl rfl (nb9 rfl) (cells2 := [_,_,_]) rfl (OL.nil (OT.node [8] (os := [_]) (by kernel_rfl) (by decide) rfl ⟨?_, trivial⟩))
       refine asD rfl (OL.nil (OT.leaf (by kernel_rfl) ?_))
       exact AW.ret (RetQ.r ⟨_, .tmp rfl (.cellA rfl rfl ag.Rat (nb9 rfl) (.tmp rfl .nil)), _, .cons (.le (vle_of_eq (by rw [finP, if_neg hz]; rfl))) (.cons (.ag (.cons (.le (VLe.refl _)) (.cons (.le (VLe.refl _)) (.cons (.le (VLe.refl _)) .nil)))) (.cons (.le (VLe.int (by rw [finE, if_neg hz]))) .nil)), rfl⟩)
     ·refine ldPA ag.Rat rfl rfl (vs := [_,_,_]) rfl (nb9 rfl) (OL.nil (OT.node [2] (os := [_]) (by kernel_rfl) (by decide) rfl ⟨?_, trivial⟩))
      refine mvD rfl (OL.nil (OT.node [3] (os := [_]) (by kernel_rfl) (by decide) rfl ⟨?_, trivial⟩))
      refine lt2 (y := ints o.dn) (y2 := ints (finF h o o.sc.length).2) sl.intss (VC.d _).vd (VC.d _).vd ⟨rfl, rfl⟩ (by decide) (OL.nil (OT.node [4] (os := [_]) (by kernel_rfl) (by decide) rfl ⟨?_, trivial⟩))
      refine clv rfl (.cons (VLe.refl _) (.nil)) (concat_ints (L := [o.dn, (finF h o o.sc.length).2]) (by simp) (by rw [show List.flatten [o.dn, (finF h o o.sc.length).2] = o.dn ++ (finF h o o.sc.length).2 by simp, List.length_append]; omega)) ?_
      rw [show List.flatten [o.dn, (finF h o o.sc.length).2] = o.dn ++ (finF h o o.sc.length).2 by simp]
      refine OL.nil (OT.node [6] (os := [_]) (by kernel_rfl) (by decide) rfl ⟨?_, trivial⟩)
      refine asD rfl (OL.nil (OT.node [7] (os := [_]) (by kernel_rfl) (by decide) rfl ⟨?_, trivial⟩))
      refine sto sz.Rat rfl rfl rfl rfl rfl (nb9 rfl) (cells2 := [_,_,_]) rfl (OL.nil (OT.node [8] (os := [_]) (by kernel_rfl) (by decide) rfl ⟨?_, trivial⟩))
      refine asD rfl (OL.nil (OT.leaf (by kernel_rfl) ?_))
      exact AW.ret (RetQ.r ⟨_, .tmp rfl (.cellA rfl rfl ag.Rat (nb9 rfl) (.tmp rfl .nil)), _, .cons (.le (vle_of_eq (by rw [finP, if_neg hz]; rfl))) (.cons (.ag (.cons (.le (VLe.refl _)) (.cons (.le (VLe.refl _)) (.cons (.le (VLe.refl _)) .nil)))) (.cons (.le (VLe.int (by rw [finE, if_neg hz]))) .nil)), rfl⟩)
    ·refine mvD rfl (OL.nil (OT.node [1, 5] (os := [_,_]) (by kernel_rfl) (by decide) rfl ⟨?_, ?_, trivial⟩))
     ·refine ldPC ce.ints rfl rfl rfl (OL.nil (OT.node [3, 5] (os := [_,_]) (by kernel_rfl) (by decide) rfl ⟨?_, ?_, trivial⟩))
      ·refine lt2 (y := ints o.dn) (y2 := ints (finF h o o.sc.length).2) sl.intss (VC.d _).vd (VC.d _).vd ⟨rfl, rfl⟩ (by decide) (OL.nil (OT.node [4, 5] (os := [_,_]) (by kernel_rfl) (by decide) rfl ⟨?_, ?_, trivial⟩))
       ·refine clv rfl (.cons (VLe.refl _) (.nil)) (concat_ints (L := [o.dn, (finF h o o.sc.length).2]) (by simp) (by rw [show List.flatten [o.dn, (finF h o o.sc.length).2] = o.dn ++ (finF h o o.sc.length).2 by simp, List.length_append]; omega)) ?_
        rw [show List.flatten [o.dn, (finF h o o.sc.length).2] = o.dn ++ (finF h o o.sc.length).2 by simp]
        refine OL.nil (OT.node [5, 6] (os := [_,_]) (by kernel_rfl) (by decide) rfl ⟨?_, ?_, trivial⟩)
        ·refine ldPA ag.Rat rfl rfl (vs := [_,_,_]) rfl (nb9 rfl) (OL.nil (OT.node [6] (os := [_]) (by kernel_rfl) (by decide) rfl ⟨?_, trivial⟩))
         refine asD rfl (OL.nil (OT.node [7] (os := [_]) (by kernel_rfl) (by decide) rfl ⟨?_, trivial⟩))
         refine sto sz.Rat rfl rfl rfl rfl rfl (nb9 rfl) (cells2 := [_,_,_]) rfl (OL.nil (OT.node [8] (os := [_]) (by kernel_rfl) (by decide) rfl ⟨?_, trivial⟩))
         refine asD rfl (OL.nil (OT.leaf (by kernel_rfl) ?_))
         exact AW.ret (RetQ.r ⟨_, .tmp rfl (.cellA rfl rfl ag.Rat (nb9 rfl) (.tmp rfl .nil)), _, .cons (.le (vle_of_eq (by rw [finP, if_neg hz]; rfl))) (.cons (.ag (.cons (.le (VLe.refl _)) (.cons (.le (VLe.refl _)) (.cons (.le (VLe.refl _)) .nil)))) (.cons (.le (VLe.int (by rw [finE, if_neg hz]))) .nil)), rfl⟩)
        ·refine asD rfl (OL.nil (OT.node [5] (os := [_]) (by kernel_rfl) (by decide) rfl ⟨?_, trivial⟩))
         refine ldPA ag.Rat rfl rfl (vs := [_,_,_]) rfl (nb9 rfl) (OL.nil (OT.node [7] (os := [_]) (by kernel_rfl) (by decide) rfl ⟨?_, trivial⟩))
         refine sto sz.Rat rfl rfl rfl rfl rfl (nb9 rfl) (cells2 := [_,_,_]) rfl (OL.nil (OT.node [8] (os := [_]) (by kernel_rfl) (by decide) rfl ⟨?_, trivial⟩))
         refine asD rfl (OL.nil (OT.leaf (by kernel_rfl) ?_))
         exact AW.ret (RetQ.r ⟨_, .tmp rfl (.cellA rfl rfl ag.Rat (nb9 rfl) (.tmp rfl .nil)), _, .cons (.le (vle_of_eq (by rw [finP, if_neg hz]; rfl))) (.cons (.ag (.cons (.le (VLe.refl _)) (.cons (.le (VLe.refl _)) (.cons (.le (VLe.refl _)) .nil)))) (.cons (.le (VLe.int (by rw [finE, if_neg hz]))) .nil)), rfl⟩)
       ·refine ldPA ag.Rat rfl rfl (vs := [_,_,_]) rfl (nb9 rfl) (OL.nil (OT.node [4] (os := [_]) (by kernel_rfl) (by decide) rfl ⟨?_, trivial⟩))
        refine clv rfl (.cons (VLe.refl _) (.nil)) (concat_ints (L := [o.dn, (finF h o o.sc.length).2]) (by simp) (by rw [show List.flatten [o.dn, (finF h o o.sc.length).2] = o.dn ++ (finF h o o.sc.length).2 by simp, List.length_append]; omega)) ?_
        rw [show List.flatten [o.dn, (finF h o o.sc.length).2] = o.dn ++ (finF h o o.sc.length).2 by simp]
        refine OL.nil (OT.node [6] (os := [_]) (by kernel_rfl) (by decide) rfl ⟨?_, trivial⟩)
        refine asD rfl (OL.nil (OT.node [7] (os := [_]) (by kernel_rfl) (by decide) rfl ⟨?_, trivial⟩))
        refine sto sz.Rat rfl rfl rfl rfl rfl (nb9 rfl) (cells2 := [_,_,_]) rfl (OL.nil (OT.node [8] (os := [_]) (by kernel_rfl) (by decide) rfl ⟨?_, trivial⟩))
        refine asD rfl (OL.nil (OT.leaf (by kernel_rfl) ?_))
        exact AW.ret (RetQ.r ⟨_, .tmp rfl (.cellA rfl rfl ag.Rat (nb9 rfl) (.tmp rfl .nil)), _, .cons (.le (vle_of_eq (by rw [finP, if_neg hz]; rfl))) (.cons (.ag (.cons (.le (VLe.refl _)) (.cons (.le (VLe.refl _)) (.cons (.le (VLe.refl _)) .nil)))) (.cons (.le (VLe.int (by rw [finE, if_neg hz]))) .nil)), rfl⟩)
      ·refine ldPA ag.Rat rfl rfl (vs := [_,_,_]) rfl (nb9 rfl) (OL.nil (OT.node [3] (os := [_]) (by kernel_rfl) (by decide) rfl ⟨?_, trivial⟩))
       refine lt2 (y := ints o.dn) (y2 := ints (finF h o o.sc.length).2) sl.intss (VC.d _).vd (VC.d _).vd ⟨rfl, rfl⟩ (by decide) (OL.nil (OT.node [4] (os := [_]) (by kernel_rfl) (by decide) rfl ⟨?_, trivial⟩))
       refine clv rfl (.cons (VLe.refl _) (.nil)) (concat_ints (L := [o.dn, (finF h o o.sc.length).2]) (by simp) (by rw [show List.flatten [o.dn, (finF h o o.sc.length).2] = o.dn ++ (finF h o o.sc.length).2 by simp, List.length_append]; omega)) ?_
       rw [show List.flatten [o.dn, (finF h o o.sc.length).2] = o.dn ++ (finF h o o.sc.length).2 by simp]
       refine OL.nil (OT.node [6] (os := [_]) (by kernel_rfl) (by decide) rfl ⟨?_, trivial⟩)
       refine asD rfl (OL.nil (OT.node [7] (os := [_]) (by kernel_rfl) (by decide) rfl ⟨?_, trivial⟩))
       refine sto sz.Rat rfl rfl rfl rfl rfl (nb9 rfl) (cells2 := [_,_,_]) rfl (OL.nil (OT.node [8] (os := [_]) (by kernel_rfl) (by decide) rfl ⟨?_, trivial⟩))
       refine asD rfl (OL.nil (OT.leaf (by kernel_rfl) ?_))
       exact AW.ret (RetQ.r ⟨_, .tmp rfl (.cellA rfl rfl ag.Rat (nb9 rfl) (.tmp rfl .nil)), _, .cons (.le (vle_of_eq (by rw [finP, if_neg hz]; rfl))) (.cons (.ag (.cons (.le (VLe.refl _)) (.cons (.le (VLe.refl _)) (.cons (.le (VLe.refl _)) .nil)))) (.cons (.le (VLe.int (by rw [finE, if_neg hz]))) .nil)), rfl⟩)
     ·refine ldPA ag.Rat rfl rfl (vs := [_,_,_]) rfl (nb9 rfl) (OL.nil (OT.node [1] (os := [_]) (by kernel_rfl) (by decide) rfl ⟨?_, trivial⟩))
      refine ldPC ce.ints rfl rfl rfl (OL.nil (OT.node [3] (os := [_]) (by kernel_rfl) (by decide) rfl ⟨?_, trivial⟩))
      refine lt2 (y := ints o.dn) (y2 := ints (finF h o o.sc.length).2) sl.intss (VC.d _).vd (VC.d _).vd ⟨rfl, rfl⟩ (by decide) (OL.nil (OT.node [4] (os := [_]) (by kernel_rfl) (by decide) rfl ⟨?_, trivial⟩))
      refine clv rfl (.cons (VLe.refl _) (.nil)) (concat_ints (L := [o.dn, (finF h o o.sc.length).2]) (by simp) (by rw [show List.flatten [o.dn, (finF h o o.sc.length).2] = o.dn ++ (finF h o o.sc.length).2 by simp, List.length_append]; omega)) ?_
      rw [show List.flatten [o.dn, (finF h o o.sc.length).2] = o.dn ++ (finF h o o.sc.length).2 by simp]
      refine OL.nil (OT.node [6] (os := [_]) (by kernel_rfl) (by decide) rfl ⟨?_, trivial⟩)
      refine asD rfl (OL.nil (OT.node [7] (os := [_]) (by kernel_rfl) (by decide) rfl ⟨?_, trivial⟩))
      refine sto sz.Rat rfl rfl rfl rfl rfl (nb9 rfl) (cells2 := [_,_,_]) rfl (OL.nil (OT.node [8] (os := [_]) (by kernel_rfl) (by decide) rfl ⟨?_, trivial⟩))
      refine asD rfl (OL.nil (OT.leaf (by kernel_rfl) ?_))
      exact AW.ret (RetQ.r ⟨_, .tmp rfl (.cellA rfl rfl ag.Rat (nb9 rfl) (.tmp rfl .nil)), _, .cons (.le (vle_of_eq (by rw [finP, if_neg hz]; rfl))) (.cons (.ag (.cons (.le (VLe.refl _)) (.cons (.le (VLe.refl _)) (.cons (.le (VLe.refl _)) .nil)))) (.cons (.le (VLe.int (by rw [finE, if_neg hz]))) .nil)), rfl⟩)
    ·refine ldPA ag.Rat rfl rfl (vs := [_,_,_]) rfl (nb9 rfl) (OL.nil (OT.node [1, 2] (os := [_,_]) (by kernel_rfl) (by decide) rfl ⟨?_, ?_, trivial⟩))
     ·refine ldPC ce.ints rfl rfl rfl (OL.nil (OT.node [2] (os := [_]) (by kernel_rfl) (by decide) rfl ⟨?_, trivial⟩))
      refine mvD rfl (OL.nil (OT.node [3] (os := [_]) (by kernel_rfl) (by decide) rfl ⟨?_, trivial⟩))
      refine lt2 (y := ints o.dn) (y2 := ints (finF h o o.sc.length).2) sl.intss (VC.d _).vd (VC.d _).vd ⟨rfl, rfl⟩ (by decide) (OL.nil (OT.node [4] (os := [_]) (by kernel_rfl) (by decide) rfl ⟨?_, trivial⟩))
      refine clv rfl (.cons (VLe.refl _) (.nil)) (concat_ints (L := [o.dn, (finF h o o.sc.length).2]) (by simp) (by rw [show List.flatten [o.dn, (finF h o o.sc.length).2] = o.dn ++ (finF h o o.sc.length).2 by simp, List.length_append]; omega)) ?_
      rw [show List.flatten [o.dn, (finF h o o.sc.length).2] = o.dn ++ (finF h o o.sc.length).2 by simp]
      refine OL.nil (OT.node [6] (os := [_]) (by kernel_rfl) (by decide) rfl ⟨?_, trivial⟩)
      refine asD rfl (OL.nil (OT.node [7] (os := [_]) (by kernel_rfl) (by decide) rfl ⟨?_, trivial⟩))
      refine sto sz.Rat rfl rfl rfl rfl rfl (nb9 rfl) (cells2 := [_,_,_]) rfl (OL.nil (OT.node [8] (os := [_]) (by kernel_rfl) (by decide) rfl ⟨?_, trivial⟩))
      refine asD rfl (OL.nil (OT.leaf (by kernel_rfl) ?_))
      exact AW.ret (RetQ.r ⟨_, .tmp rfl (.cellA rfl rfl ag.Rat (nb9 rfl) (.tmp rfl .nil)), _, .cons (.le (vle_of_eq (by rw [finP, if_neg hz]; rfl))) (.cons (.ag (.cons (.le (VLe.refl _)) (.cons (.le (VLe.refl _)) (.cons (.le (VLe.refl _)) .nil)))) (.cons (.le (VLe.int (by rw [finE, if_neg hz]))) .nil)), rfl⟩)
     ·refine mvD rfl (OL.nil (OT.node [1] (os := [_]) (by kernel_rfl) (by decide) rfl ⟨?_, trivial⟩))
      refine ldPC ce.ints rfl rfl rfl (OL.nil (OT.node [3] (os := [_]) (by kernel_rfl) (by decide) rfl ⟨?_, trivial⟩))
      refine lt2 (y := ints o.dn) (y2 := ints (finF h o o.sc.length).2) sl.intss (VC.d _).vd (VC.d _).vd ⟨rfl, rfl⟩ (by decide) (OL.nil (OT.node [4] (os := [_]) (by kernel_rfl) (by decide) rfl ⟨?_, trivial⟩))
      refine clv rfl (.cons (VLe.refl _) (.nil)) (concat_ints (L := [o.dn, (finF h o o.sc.length).2]) (by simp) (by rw [show List.flatten [o.dn, (finF h o o.sc.length).2] = o.dn ++ (finF h o o.sc.length).2 by simp, List.length_append]; omega)) ?_
      rw [show List.flatten [o.dn, (finF h o o.sc.length).2] = o.dn ++ (finF h o o.sc.length).2 by simp]
      refine OL.nil (OT.node [6] (os := [_]) (by kernel_rfl) (by decide) rfl ⟨?_, trivial⟩)
      refine asD rfl (OL.nil (OT.node [7] (os := [_]) (by kernel_rfl) (by decide) rfl ⟨?_, trivial⟩))
      refine sto sz.Rat rfl rfl rfl rfl rfl (nb9 rfl) (cells2 := [_,_,_]) rfl (OL.nil (OT.node [8] (os := [_]) (by kernel_rfl) (by decide) rfl ⟨?_, trivial⟩))
      refine asD rfl (OL.nil (OT.leaf (by kernel_rfl) ?_))
      exact AW.ret (RetQ.r ⟨_, .tmp rfl (.cellA rfl rfl ag.Rat (nb9 rfl) (.tmp rfl .nil)), _, .cons (.le (vle_of_eq (by rw [finP, if_neg hz]; rfl))) (.cons (.ag (.cons (.le (VLe.refl _)) (.cons (.le (VLe.refl _)) (.cons (.le (VLe.refl _)) .nil)))) (.cons (.le (VLe.int (by rw [finE, if_neg hz]))) .nil)), rfl⟩)
   ·refine mvD rfl (OL.nil (OT.node [0, 5] (os := [_,_]) (by kernel_rfl) (by decide) rfl ⟨?_, ?_, trivial⟩))
    ·refine faP fd.Online_4 rfl rfl (OL.nil (OT.node [1, 5] (os := [_,_]) (by kernel_rfl) (by decide) rfl ⟨?_, ?_, trivial⟩))
     ·refine ldPC ce.ints rfl rfl rfl (OL.nil (OT.node [3, 5] (os := [_,_]) (by kernel_rfl) (by decide) rfl ⟨?_, ?_, trivial⟩))
      ·refine lt2 (y := ints o.dn) (y2 := ints (finF h o o.sc.length).2) sl.intss (VC.d _).vd (VC.d _).vd ⟨rfl, rfl⟩ (by decide) (OL.nil (OT.node [4, 5] (os := [_,_]) (by kernel_rfl) (by decide) rfl ⟨?_, ?_, trivial⟩))
       ·refine clv rfl (.cons (VLe.refl _) (.nil)) (concat_ints (L := [o.dn, (finF h o o.sc.length).2]) (by simp) (by rw [show List.flatten [o.dn, (finF h o o.sc.length).2] = o.dn ++ (finF h o o.sc.length).2 by simp, List.length_append]; omega)) ?_
        rw [show List.flatten [o.dn, (finF h o o.sc.length).2] = o.dn ++ (finF h o o.sc.length).2 by simp]
        refine OL.nil (OT.node [5, 6] (os := [_,_]) (by kernel_rfl) (by decide) rfl ⟨?_, ?_, trivial⟩)
        ·refine ldPA ag.Rat rfl rfl (vs := [_,_,_]) rfl (nb9 rfl) (OL.nil (OT.node [6] (os := [_]) (by kernel_rfl) (by decide) rfl ⟨?_, trivial⟩))
         refine asD rfl (OL.nil (OT.node [7] (os := [_]) (by kernel_rfl) (by decide) rfl ⟨?_, trivial⟩))
         refine sto sz.Rat rfl rfl rfl rfl rfl (nb9 rfl) (cells2 := [_,_,_]) rfl (OL.nil (OT.node [8] (os := [_]) (by kernel_rfl) (by decide) rfl ⟨?_, trivial⟩))
         refine asD rfl (OL.nil (OT.leaf (by kernel_rfl) ?_))
         exact AW.ret (RetQ.r ⟨_, .tmp rfl (.cellA rfl rfl ag.Rat (nb9 rfl) (.tmp rfl .nil)), _, .cons (.le (vle_of_eq (by rw [finP, if_neg hz]; rfl))) (.cons (.ag (.cons (.le (VLe.refl _)) (.cons (.le (VLe.refl _)) (.cons (.le (VLe.refl _)) .nil)))) (.cons (.le (VLe.int (by rw [finE, if_neg hz]))) .nil)), rfl⟩)
        ·refine asD rfl (OL.nil (OT.node [5] (os := [_]) (by kernel_rfl) (by decide) rfl ⟨?_, trivial⟩))
         refine ldPA ag.Rat rfl rfl (vs := [_,_,_]) rfl (nb9 rfl) (OL.nil (OT.node [7] (os := [_]) (by kernel_rfl) (by decide) rfl ⟨?_, trivial⟩))
         refine sto sz.Rat rfl rfl rfl rfl rfl (nb9 rfl) (cells2 := [_,_,_]) rfl (OL.nil (OT.node [8] (os := [_]) (by kernel_rfl) (by decide) rfl ⟨?_, trivial⟩))
         refine asD rfl (OL.nil (OT.leaf (by kernel_rfl) ?_))
         exact AW.ret (RetQ.r ⟨_, .tmp rfl (.cellA rfl rfl ag.Rat (nb9 rfl) (.tmp rfl .nil)), _, .cons (.le (vle_of_eq (by rw [finP, if_neg hz]; rfl))) (.cons (.ag (.cons (.le (VLe.refl _)) (.cons (.le (VLe.refl _)) (.cons (.le (VLe.refl _)) .nil)))) (.cons (.le (VLe.int (by rw [finE, if_neg hz]))) .nil)), rfl⟩)
       ·refine ldPA ag.Rat rfl rfl (vs := [_,_,_]) rfl (nb9 rfl) (OL.nil (OT.node [4] (os := [_]) (by kernel_rfl) (by decide) rfl ⟨?_, trivial⟩))
        refine clv rfl (.cons (VLe.refl _) (.nil)) (concat_ints (L := [o.dn, (finF h o o.sc.length).2]) (by simp) (by rw [show List.flatten [o.dn, (finF h o o.sc.length).2] = o.dn ++ (finF h o o.sc.length).2 by simp, List.length_append]; omega)) ?_
        rw [show List.flatten [o.dn, (finF h o o.sc.length).2] = o.dn ++ (finF h o o.sc.length).2 by simp]
        refine OL.nil (OT.node [6] (os := [_]) (by kernel_rfl) (by decide) rfl ⟨?_, trivial⟩)
        refine asD rfl (OL.nil (OT.node [7] (os := [_]) (by kernel_rfl) (by decide) rfl ⟨?_, trivial⟩))
        refine sto sz.Rat rfl rfl rfl rfl rfl (nb9 rfl) (cells2 := [_,_,_]) rfl (OL.nil (OT.node [8] (os := [_]) (by kernel_rfl) (by decide) rfl ⟨?_, trivial⟩))
        refine asD rfl (OL.nil (OT.leaf (by kernel_rfl) ?_))
        exact AW.ret (RetQ.r ⟨_, .tmp rfl (.cellA rfl rfl ag.Rat (nb9 rfl) (.tmp rfl .nil)), _, .cons (.le (vle_of_eq (by rw [finP, if_neg hz]; rfl))) (.cons (.ag (.cons (.le (VLe.refl _)) (.cons (.le (VLe.refl _)) (.cons (.le (VLe.refl _)) .nil)))) (.cons (.le (VLe.int (by rw [finE, if_neg hz]))) .nil)), rfl⟩)
      ·refine ldPA ag.Rat rfl rfl (vs := [_,_,_]) rfl (nb9 rfl) (OL.nil (OT.node [3] (os := [_]) (by kernel_rfl) (by decide) rfl ⟨?_, trivial⟩))
       refine lt2 (y := ints o.dn) (y2 := ints (finF h o o.sc.length).2) sl.intss (VC.d _).vd (VC.d _).vd ⟨rfl, rfl⟩ (by decide) (OL.nil (OT.node [4] (os := [_]) (by kernel_rfl) (by decide) rfl ⟨?_, trivial⟩))
       refine clv rfl (.cons (VLe.refl _) (.nil)) (concat_ints (L := [o.dn, (finF h o o.sc.length).2]) (by simp) (by rw [show List.flatten [o.dn, (finF h o o.sc.length).2] = o.dn ++ (finF h o o.sc.length).2 by simp, List.length_append]; omega)) ?_
       rw [show List.flatten [o.dn, (finF h o o.sc.length).2] = o.dn ++ (finF h o o.sc.length).2 by simp]
       refine OL.nil (OT.node [6] (os := [_]) (by kernel_rfl) (by decide) rfl ⟨?_, trivial⟩)
       refine asD rfl (OL.nil (OT.node [7] (os := [_]) (by kernel_rfl) (by decide) rfl ⟨?_, trivial⟩))
       refine sto sz.Rat rfl rfl rfl rfl rfl (nb9 rfl) (cells2 := [_,_,_]) rfl (OL.nil (OT.node [8] (os := [_]) (by kernel_rfl) (by decide) rfl ⟨?_, trivial⟩))
       refine asD rfl (OL.nil (OT.leaf (by kernel_rfl) ?_))
       exact AW.ret (RetQ.r ⟨_, .tmp rfl (.cellA rfl rfl ag.Rat (nb9 rfl) (.tmp rfl .nil)), _, .cons (.le (vle_of_eq (by rw [finP, if_neg hz]; rfl))) (.cons (.ag (.cons (.le (VLe.refl _)) (.cons (.le (VLe.refl _)) (.cons (.le (VLe.refl _)) .nil)))) (.cons (.le (VLe.int (by rw [finE, if_neg hz]))) .nil)), rfl⟩)
     ·refine ldPA ag.Rat rfl rfl (vs := [_,_,_]) rfl (nb9 rfl) (OL.nil (OT.node [1] (os := [_]) (by kernel_rfl) (by decide) rfl ⟨?_, trivial⟩))
      refine ldPC ce.ints rfl rfl rfl (OL.nil (OT.node [3] (os := [_]) (by kernel_rfl) (by decide) rfl ⟨?_, trivial⟩))
      refine lt2 (y := ints o.dn) (y2 := ints (finF h o o.sc.length).2) sl.intss (VC.d _).vd (VC.d _).vd ⟨rfl, rfl⟩ (by decide) (OL.nil (OT.node [4] (os := [_]) (by kernel_rfl) (by decide) rfl ⟨?_, trivial⟩))
      refine clv rfl (.cons (VLe.refl _) (.nil)) (concat_ints (L := [o.dn, (finF h o o.sc.length).2]) (by simp) (by rw [show List.flatten [o.dn, (finF h o o.sc.length).2] = o.dn ++ (finF h o o.sc.length).2 by simp, List.length_append]; omega)) ?_
      rw [show List.flatten [o.dn, (finF h o o.sc.length).2] = o.dn ++ (finF h o o.sc.length).2 by simp]
      refine OL.nil (OT.node [6] (os := [_]) (by kernel_rfl) (by decide) rfl ⟨?_, trivial⟩)
      refine asD rfl (OL.nil (OT.node [7] (os := [_]) (by kernel_rfl) (by decide) rfl ⟨?_, trivial⟩))
      refine sto sz.Rat rfl rfl rfl rfl rfl (nb9 rfl) (cells2 := [_,_,_]) rfl (OL.nil (OT.node [8] (os := [_]) (by kernel_rfl) (by decide) rfl ⟨?_, trivial⟩))
      refine asD rfl (OL.nil (OT.leaf (by kernel_rfl) ?_))
      exact AW.ret (RetQ.r ⟨_, .tmp rfl (.cellA rfl rfl ag.Rat (nb9 rfl) (.tmp rfl .nil)), _, .cons (.le (vle_of_eq (by rw [finP, if_neg hz]; rfl))) (.cons (.ag (.cons (.le (VLe.refl _)) (.cons (.le (VLe.refl _)) (.cons (.le (VLe.refl _)) .nil)))) (.cons (.le (VLe.int (by rw [finE, if_neg hz]))) .nil)), rfl⟩)
    ·refine ldPA ag.Rat rfl rfl (vs := [_,_,_]) rfl (nb9 rfl) (OL.nil (OT.node [0] (os := [_]) (by kernel_rfl) (by decide) rfl ⟨?_, trivial⟩))
     refine faP fd.Online_4 rfl rfl (OL.nil (OT.node [1] (os := [_]) (by kernel_rfl) (by decide) rfl ⟨?_, trivial⟩))
     refine ldPC ce.ints rfl rfl rfl (OL.nil (OT.node [3] (os := [_]) (by kernel_rfl) (by decide) rfl ⟨?_, trivial⟩))
     refine lt2 (y := ints o.dn) (y2 := ints (finF h o o.sc.length).2) sl.intss (VC.d _).vd (VC.d _).vd ⟨rfl, rfl⟩ (by decide) (OL.nil (OT.node [4] (os := [_]) (by kernel_rfl) (by decide) rfl ⟨?_, trivial⟩))
     refine clv rfl (.cons (VLe.refl _) (.nil)) (concat_ints (L := [o.dn, (finF h o o.sc.length).2]) (by simp) (by rw [show List.flatten [o.dn, (finF h o o.sc.length).2] = o.dn ++ (finF h o o.sc.length).2 by simp, List.length_append]; omega)) ?_
     rw [show List.flatten [o.dn, (finF h o o.sc.length).2] = o.dn ++ (finF h o o.sc.length).2 by simp]
     refine OL.nil (OT.node [6] (os := [_]) (by kernel_rfl) (by decide) rfl ⟨?_, trivial⟩)
     refine asD rfl (OL.nil (OT.node [7] (os := [_]) (by kernel_rfl) (by decide) rfl ⟨?_, trivial⟩))
     refine sto sz.Rat rfl rfl rfl rfl rfl (nb9 rfl) (cells2 := [_,_,_]) rfl (OL.nil (OT.node [8] (os := [_]) (by kernel_rfl) (by decide) rfl ⟨?_, trivial⟩))
     refine asD rfl (OL.nil (OT.leaf (by kernel_rfl) ?_))
     exact AW.ret (RetQ.r ⟨_, .tmp rfl (.cellA rfl rfl ag.Rat (nb9 rfl) (.tmp rfl .nil)), _, .cons (.le (vle_of_eq (by rw [finP, if_neg hz]; rfl))) (.cons (.ag (.cons (.le (VLe.refl _)) (.cons (.le (VLe.refl _)) (.cons (.le (VLe.refl _)) .nil)))) (.cons (.le (VLe.int (by rw [finE, if_neg hz]))) .nil)), rfl⟩)
   ·refine ldPA ag.Rat rfl rfl (vs := [_,_,_]) rfl (nb9 rfl) (OL.nil (OT.node [0, 2] (os := [_,_]) (by kernel_rfl) (by decide) rfl ⟨?_, ?_, trivial⟩))
    ·refine faP fd.Online_4 rfl rfl (OL.nil (OT.node [1, 2] (os := [_,_]) (by kernel_rfl) (by decide) rfl ⟨?_, ?_, trivial⟩))
     ·refine ldPC ce.ints rfl rfl rfl (OL.nil (OT.node [2] (os := [_]) (by kernel_rfl) (by decide) rfl ⟨?_, trivial⟩))
      refine mvD rfl (OL.nil (OT.node [3] (os := [_]) (by kernel_rfl) (by decide) rfl ⟨?_, trivial⟩))
      refine lt2 (y := ints o.dn) (y2 := ints (finF h o o.sc.length).2) sl.intss (VC.d _).vd (VC.d _).vd ⟨rfl, rfl⟩ (by decide) (OL.nil (OT.node [4] (os := [_]) (by kernel_rfl) (by decide) rfl ⟨?_, trivial⟩))
      refine clv rfl (.cons (VLe.refl _) (.nil)) (concat_ints (L := [o.dn, (finF h o o.sc.length).2]) (by simp) (by rw [show List.flatten [o.dn, (finF h o o.sc.length).2] = o.dn ++ (finF h o o.sc.length).2 by simp, List.length_append]; omega)) ?_
      rw [show List.flatten [o.dn, (finF h o o.sc.length).2] = o.dn ++ (finF h o o.sc.length).2 by simp]
      refine OL.nil (OT.node [6] (os := [_]) (by kernel_rfl) (by decide) rfl ⟨?_, trivial⟩)
      refine asD rfl (OL.nil (OT.node [7] (os := [_]) (by kernel_rfl) (by decide) rfl ⟨?_, trivial⟩))
      refine sto sz.Rat rfl rfl rfl rfl rfl (nb9 rfl) (cells2 := [_,_,_]) rfl (OL.nil (OT.node [8] (os := [_]) (by kernel_rfl) (by decide) rfl ⟨?_, trivial⟩))
      refine asD rfl (OL.nil (OT.leaf (by kernel_rfl) ?_))
      exact AW.ret (RetQ.r ⟨_, .tmp rfl (.cellA rfl rfl ag.Rat (nb9 rfl) (.tmp rfl .nil)), _, .cons (.le (vle_of_eq (by rw [finP, if_neg hz]; rfl))) (.cons (.ag (.cons (.le (VLe.refl _)) (.cons (.le (VLe.refl _)) (.cons (.le (VLe.refl _)) .nil)))) (.cons (.le (VLe.int (by rw [finE, if_neg hz]))) .nil)), rfl⟩)
     ·refine mvD rfl (OL.nil (OT.node [1] (os := [_]) (by kernel_rfl) (by decide) rfl ⟨?_, trivial⟩))
      refine ldPC ce.ints rfl rfl rfl (OL.nil (OT.node [3] (os := [_]) (by kernel_rfl) (by decide) rfl ⟨?_, trivial⟩))
      refine lt2 (y := ints o.dn) (y2 := ints (finF h o o.sc.length).2) sl.intss (VC.d _).vd (VC.d _).vd ⟨rfl, rfl⟩ (by decide) (OL.nil (OT.node [4] (os := [_]) (by kernel_rfl) (by decide) rfl ⟨?_, trivial⟩))
      refine clv rfl (.cons (VLe.refl _) (.nil)) (concat_ints (L := [o.dn, (finF h o o.sc.length).2]) (by simp) (by rw [show List.flatten [o.dn, (finF h o o.sc.length).2] = o.dn ++ (finF h o o.sc.length).2 by simp, List.length_append]; omega)) ?_
      rw [show List.flatten [o.dn, (finF h o o.sc.length).2] = o.dn ++ (finF h o o.sc.length).2 by simp]
      refine OL.nil (OT.node [6] (os := [_]) (by kernel_rfl) (by decide) rfl ⟨?_, trivial⟩)
      refine asD rfl (OL.nil (OT.node [7] (os := [_]) (by kernel_rfl) (by decide) rfl ⟨?_, trivial⟩))
      refine sto sz.Rat rfl rfl rfl rfl rfl (nb9 rfl) (cells2 := [_,_,_]) rfl (OL.nil (OT.node [8] (os := [_]) (by kernel_rfl) (by decide) rfl ⟨?_, trivial⟩))
      refine asD rfl (OL.nil (OT.leaf (by kernel_rfl) ?_))
      exact AW.ret (RetQ.r ⟨_, .tmp rfl (.cellA rfl rfl ag.Rat (nb9 rfl) (.tmp rfl .nil)), _, .cons (.le (vle_of_eq (by rw [finP, if_neg hz]; rfl))) (.cons (.ag (.cons (.le (VLe.refl _)) (.cons (.le (VLe.refl _)) (.cons (.le (VLe.refl _)) .nil)))) (.cons (.le (VLe.int (by rw [finE, if_neg hz]))) .nil)), rfl⟩)
    ·refine mvD rfl (OL.nil (OT.node [0] (os := [_]) (by kernel_rfl) (by decide) rfl ⟨?_, trivial⟩))
     refine faP fd.Online_4 rfl rfl (OL.nil (OT.node [1] (os := [_]) (by kernel_rfl) (by decide) rfl ⟨?_, trivial⟩))
     refine ldPC ce.ints rfl rfl rfl (OL.nil (OT.node [3] (os := [_]) (by kernel_rfl) (by decide) rfl ⟨?_, trivial⟩))
     refine lt2 (y := ints o.dn) (y2 := ints (finF h o o.sc.length).2) sl.intss (VC.d _).vd (VC.d _).vd ⟨rfl, rfl⟩ (by decide) (OL.nil (OT.node [4] (os := [_]) (by kernel_rfl) (by decide) rfl ⟨?_, trivial⟩))
     refine clv rfl (.cons (VLe.refl _) (.nil)) (concat_ints (L := [o.dn, (finF h o o.sc.length).2]) (by simp) (by rw [show List.flatten [o.dn, (finF h o o.sc.length).2] = o.dn ++ (finF h o o.sc.length).2 by simp, List.length_append]; omega)) ?_
     rw [show List.flatten [o.dn, (finF h o o.sc.length).2] = o.dn ++ (finF h o o.sc.length).2 by simp]
     refine OL.nil (OT.node [6] (os := [_]) (by kernel_rfl) (by decide) rfl ⟨?_, trivial⟩)
     refine asD rfl (OL.nil (OT.node [7] (os := [_]) (by kernel_rfl) (by decide) rfl ⟨?_, trivial⟩))
     refine sto sz.Rat rfl rfl rfl rfl rfl (nb9 rfl) (cells2 := [_,_,_]) rfl (OL.nil (OT.node [8] (os := [_]) (by kernel_rfl) (by decide) rfl ⟨?_, trivial⟩))
     refine asD rfl (OL.nil (OT.leaf (by kernel_rfl) ?_))
     exact AW.ret (RetQ.r ⟨_, .tmp rfl (.cellA rfl rfl ag.Rat (nb9 rfl) (.tmp rfl .nil)), _, .cons (.le (vle_of_eq (by rw [finP, if_neg hz]; rfl))) (.cons (.ag (.cons (.le (VLe.refl _)) (.cons (.le (VLe.refl _)) (.cons (.le (VLe.refl _)) .nil)))) (.cons (.le (VLe.int (by rw [finE, if_neg hz]))) .nil)), rfl⟩)
set_option maxRecDepth 8000 in
set_option maxHeartbeats 1600000 in
theorem on_Finish4 {r : RDec} (zd : r.Sz) (n : ¬ VR r) : FSpec P F.online_Finish [vOR r] (.tup [.d (ints []), vQ 0, .d (dI 4)]) := by
 refine FSpec.intro fn.online_Finish (by rfl) (by rfl) (nb9 (by rfl)) fun E hE => (AW.sg hE rfl (bxA rfl rfl fun b1 => (asM rfl (al z.Rat rfl fun b3 => (asD rfl (OL.nil (AW.seq ?_)))))))
 refine AW.sg hE rfl (ldPA ag.Online rfl rfl (vs := [_,_,_,_,_,_,_,_,_,_,_,_,_,_,_]) rfl (nb9 rfl) (clv rfl (.cons (VLe.refl _) (.nil)) (on_ValidR zd) ?_))
 rw [← vrB_f n]
 refine nt rfl (OL.nil (AW.cond rfl (fun _ => ?_) (fun hno => absurd hno (by decide))))
 refine AW.sg hE rfl (bd z.Rat pl.Rat (cs := [_,_,_]) rfl (asM rfl (sto sz.Rat rfl rfl rfl rfl rfl (nb9 rfl) (cells2 := [_,_,_]) rfl (asD rfl (OL.nil ?_)))))
 exact AW.ret (RetQ.r ⟨_, .tmp rfl (.cellA rfl rfl ag.Rat (nb9 rfl) (.tmp rfl .nil)), _, .cons (.le (VLe.mt)) (.cons (.ag (.cons (.le (by rw [ofQ_zero]; exact VLe.refl _)) (.cons (.le (by rw [ofQ_zero]; exact VLe.mt)) (.cons (.le (by rw [ofQ_zero]; exact VLe.mt)) .nil)))) (.cons (.le (VLe.refl _)) .nil)), rfl⟩)
set_option maxRecDepth 8000 in
set_option maxHeartbeats 6400000 in
theorem ref37_FinishV {h : HM} {K : Nat} {o : Dec} (g : h.GoodW 1048576) (hp : FSpec P F.ref33_Plain [vHM h] (.d (dB true))) (k : ValD K h o) : FSpec P F.ref37_Finish [vOn h o] (.tup [.d (ints (finP h o)), vQ (finF h o o.sc.length).1, .d (dI (finE h o))]) := by
 have f := g.form
 have n0 := f.st0
 have n1 := f.st1
 have hK1 := k.K1
 have htl := tails_lenV k
 have hdl := done_lenV k
 have hle := k.le
 have hscl : o.sc.length ≤ h.st := by
   by_cases h0 : o.t = 0
   ·rw [(k.zero h0).1]; exact Nat.zero_le _
   ·rw [(k.len h0).1]; exact Nat.le_refl _
 have zn := fin_szV f k
 have zE := f.zE
 have bB := f.bB
 have sz0 : sz 0 ≤ 68719476736 := by rw [sz_zero]; decide
 refine FSpec.intro fn.ref37_Finish (by rfl) (by rfl) (nb9 (by rfl)) fun E hE => (AW.sg hE rfl (bxA rfl rfl fun b1 => (asM rfl (al z.Rat rfl fun b3 => (asD rfl (OL.nil (AW.seq ?_)))))))
 refine AW.sg hE rfl (ldPA ag.Online rfl rfl (vs := [_,_,_,_,_,_,_,_,_,_,_,_,_,_,_]) rfl (nb9 rfl) (clv rfl (.cons (VLe.refl _) (.nil)) (ref37_ValidV g hp k) (nt rfl (OL.nil (AW.cond rfl (fun hno => absurd hno (by decide)) (fun _ => ?_))))))
 refine AW.skip (AW.sg hE rfl (faP fd.Online_0 rfl rfl (faP fd.Hidden_2 rfl rfl (ldPA ag.Rat rfl rfl (vs := [_,_,_]) rfl (nb9 rfl) (bd z.Rat pl.Rat (cs := [_,_,_]) rfl (clv rfl (.cons (VLe.refl _) (.cons vle_q0 .nil)) (ref_AddQ (x := h.empty) (y := 0) (by omega) sz0) ?_))))))
 rw [Rat.add_zero]
 refine al z.Rat rfl fun b5 => (sto sz.Rat rfl rfl rfl rfl rfl (nb9 rfl) (cells2 := [_,_,_]) rfl (asM rfl (OL.nil ?_)))
 refine AW.midK (α := List V) [(1, _), (2, _), (3, _), (4, _), (5, _)] [(1, _), (3, _)] (fun cs => [(6, .d (ints (refF h o 0)))]) (fun cs => [(5, .box b5 T.Rat cs)]) (fun cs => VLes cs (cellsQ (finF h o 0).1)) (.cons (knP rfl) (.cons (knM rfl) (.cons (knP rfl) (.cons (knD rfl) (.cons (knP rfl) .nil))))) (.cons (owB rfl) (.cons (owB rfl) .nil)) ?_ ?_
 ·refine AW.sg hE rfl (faP fd.Online_1 rfl rfl (ldPC ce.int rfl rfl rfl (c_gtr rfl rfl rfl (OL.nil (AW.cond rfl (fun h0 => ?_) (fun h0 => ?_))))))
  ·have h0 : o.t ≠ 0 := by have := of_decide_eq_true h0; omega
   refine AW.rg hE rfl (bd z.Rat pl.Rat (cs := [_,_,_]) rfl (sto sz.Rat rfl rfl rfl rfl rfl (nb9 rfl) (cells2 := [_,_,_]) rfl (OL.nil ?_)))
   exact AW.reach [.d (dB false), .mt, .mt] ⟨(by rw [finF, if_neg h0]; exact vles_q), Knows.app .rq5 (.cons (by rw [refF_zero k.toValC]; exact VLe.mt) .nil), Owns.app (.cons rfl (.cons rfl .nil)) (.cons rfl .nil)⟩
  ·have h0 : o.t = 0 := by have := of_decide_eq_false h0; omega
   refine AW.skip ?_
   exact AW.reach (cellsQ h.empty) ⟨(by rw [finF, if_pos h0]; exact VLes.refl _), Knows.app .rq5 (.cons (by rw [refF_zero k.toValC]; exact VLe.mt) .nil), Owns.app (.cons rfl (.cons rfl .nil)) (.cons rfl .nil)⟩
 intro cs hcs
 refine AW.boxW 5 (cellsQ (finF h o 0).1) rfl hcs (AW.seq (AW.sg hE rfl (asD rfl (OL.nil (AW.block ?_)))))
 refine AW.whileK (α := Nat) [(1, _), (2, _), (3, _), (4, _), (5, _)] [(1, _), (3, _)] (fun i => [(6, .d (ints (refF h o i))), (7, .d (dI i))]) (fun i => [(5, .box b5 T.Rat (cellsQ (finF h o i).1))]) (fun i => i ≤ o.sc.length) (fun i => o.sc.length - i) 0 (.cons (knP rfl) (.cons (knM rfl) (.cons (knP rfl) (.cons (knD rfl) (.cons (knP rfl) .nil))))) (.cons (owB rfl) (.cons (owB rfl) .nil)) ⟨Nat.zero_le _, .rq2, .cons rfl .nil⟩ ?_
 intro i h3
 have h3 : i ≤ o.sc.length := h3
 have zp := zn i
 have zs := k.small.get hK1.1 i
 have zt := stop_szV f i
 have zc : sz (endQ h o i) ≤ sz (o.sc.getD i 0) + sz (h.stop.getD i 0) := sz_mul (o.sc.getD i 0) (h.stop.getD i 0)
 refine AW.seq ?_
 refine AW.midK (α := Unit) [(1, _), (2, _), (3, _), (4, _), (5, _), (6, _), (7, _)] [(1, _), (3, _), (5, _)] (fun _u => [(33, .d (dB (decide (i < o.sc.length))))]) (fun _u => []) (fun _u => True) (.cons (knP rfl) (.cons (knM rfl) (.cons (knP rfl) (.cons (knD rfl) (.cons (knP rfl) (.cons (knD rfl) (.cons (knD rfl) .nil))))))) (.cons (owB rfl) (.cons (owB rfl) (.cons (owB rfl) .nil))) ?_ ?_
 ·refine AW.rg hE rfl (mvD rfl (faP fd.Online_0 rfl rfl (faP fd.Hidden_1 rfl rfl (ldPC ce.int rfl rfl rfl (c_lss rfl rfl rfl (mvD rfl (OL.split 29 rfl (fun g0 => ?_) (fun g0 => ?_))))))))
  ·have g0 : i < h.st := by have := of_decide_eq_true g0; omega
   refine OL.yes rfl (faP fd.Online_1 rfl rfl (OL.yes rfl (ldPC ce.int rfl rfl rfl (OL.yes rfl (c_gtr rfl rfl rfl (pkT rfl rfl (OL.nil ?_)))))))
   exact AW.reach () ⟨trivial, Knows.app .rq7 (.cons (VLe.bool (decide_eq_decide.2 ⟨fun e => by rw [(k.len (show o.t ≠ 0 by omega)).1]; exact g0, fun e => by have h6 : o.t ≠ 0 := (fun h0 => by rw [(k.zero h0).1] at e; exact absurd e (Nat.not_lt_zero _)); omega⟩)) .nil), Owns.app (.cons rfl (.cons rfl (.cons rfl .nil))) (.nil)⟩
  ·have g0 : ¬ i < h.st := by have := of_decide_eq_false g0; omega
   refine OL.nd rfl (OL.nd rfl (OL.nd rfl (pkF rfl rfl (OL.nil ?_))))
   exact AW.reach () ⟨trivial, Knows.app .rq7 (.cons (VLe.bool ((decide_eq_false (by omega)).symm)) .nil), Owns.app (.cons rfl (.cons rfl (.cons rfl .nil))) (.nil)⟩
 rintro ⟨⟩ hφ
 refine AW.cond rfl (fun hi => ?_) (fun hi => ?_)
 ·have hi := of_decide_eq_true hi
  have hn0 : o.t ≠ 0 := fun e => by rw [(k.zero e).1] at hi; exact absurd hi (Nat.not_lt_zero _)
  obtain ⟨l1, l2⟩ := k.len hn0
  have e3 := f.stop
  have htli := htl i
  refine AW.skip ?_
  refine AW.midK (α := Unit) [(1, _), (2, _), (3, _), (4, _), (5, _), (7, _)] [(1, _), (3, _)] (fun _u => [(6, .d (ints (refF h o (i + 1))))]) (fun _u => [(5, .box b5 T.Rat (cellsQ (finF h o (i + 1)).1))]) (fun _u => True) (.cons (knP rfl) (.cons (knM rfl) (.cons (knP rfl) (.cons (knD rfl) (.cons (knP rfl) (.cons (knD rfl) .nil)))))) (.cons (owB rfl) (.cons (owB rfl) .nil)) ?_ ?_
  ·refine AW.block (AW.seq (AW.dg 1 [0,1,2,3,4,5,6,7,8,9,10,11,12,13] order_free hE rfl (by kernel_rfl) (OI.of_OL (os := [_,_,_,_,_,_,_,_,_,_,_,_,_,_]) rfl ?_)))
   refine faP fd.Online_2 rfl rfl (ldPC ce.Rats rfl rfl rfl (mvD rfl (ixLn sl.Rats 0 rfl rfl (by omega) rfl rfl (ldRA ag.Rat rfl (vs := [_,_,_]) rfl (nb9 rfl) (faP fd.Online_0 rfl rfl (faP fd.Hidden_5 rfl rfl (ldPC ce.Rats rfl rfl rfl ?_)))))))
   refine mvD rfl (ixLn sl.Rats 0 rfl rfl (by omega) rfl rfl (ldRA ag.Rat rfl (vs := [_,_,_]) rfl (nb9 rfl) (clv rfl (.cons (VLe.refl _) (.cons (VLe.refl _) (.nil))) (ref_MulQ (x := o.sc.getD i 0) (y := h.stop.getD i 0) (by omega) (by omega)) ?_)))
   rw [show o.sc.getD i 0 * h.stop.getD i 0 = (endQ h o i) from rfl]
   refine al z.Rat rfl fun b8 => (sto sz.Rat rfl rfl rfl rfl rfl (nb9 rfl) (cells2 := [_,_,_]) rfl (OL.nil (AW.seq (AW.dg 2 [0,1,2,4,5,6,7,8,3,9,10] order_free hE rfl (by kernel_rfl) (OI.of_OL (os := [_,_,_,_,_,_,_,_,_,_,_]) rfl ?_)))))
   refine lt0 sl.ints (faP fd.Online_4 rfl rfl (ldPC ce.ints rfl rfl rfl (faP fd.Online_3 rfl rfl (ldPC ce.intss rfl rfl rfl (mvD rfl (ixLn sl.intss [] rfl rfl (by omega) rfl rfl (ldRC ce.ints rfl ?_)))))))
   refine apM sl.ints rfl rfl (VC.d _) dI_len (by rw [List.length_map]; omega) (by rw [List.length_map]; omega) rfl fun b88 c88 => (apOD sl.ints rfl rfl rfl rfl (VC.d _) dI_len (by simp only [List.length_map]; omega) (by simp only [List.length_map]; omega) (.inl rfl) (ys := (o.dn ++ o.tl.getD i []).map dI) (by rw [List.map_append]) (asD rfl (OL.nil (AW.sg hE rfl (ldPA ag.Rat rfl rfl (vs := [_,_,_]) rfl (nb9 rfl) (ldPA ag.Rat rfl rfl (vs := [_,_,_]) rfl (nb9 rfl) (clv rfl (.cons (VLe.refl _) (.cons (VLe.refl _) (.nil))) (ref_CompareQ (x := (endQ h o i)) (y := (finF h o i).1) (by omega) (by omega)) ?_)))))))
   refine asD rfl (OL.nil ?_)
   refine AW.midK (α := Unit) [(1, _), (2, _), (3, _), (4, _), (5, _), (6, _), (7, _), (8, _), (9, _)] [(1, _), (3, _), (5, _), (8, _)] (fun _u => [(77, .d (dB (decide (betterP (endQ h o i) (o.tl.getD i []) (finF h o i)))))]) (fun _u => []) (fun _u => True) (.cons (knP rfl) (.cons (knM rfl) (.cons (knP rfl) (.cons (knD rfl) (.cons (knP rfl) (.cons (knD rfl) (.cons (knD rfl) (.cons (knP rfl) (.cons (knD rfl) .nil))))))))) (.cons (owB rfl) (.cons (owB rfl) (.cons (owB rfl) (.cons (owB rfl) .nil)))) ?_ ?_
   ·refine AW.rg hE rfl (mvD rfl (c_gtr rfl rfl rfl (mvD rfl (OL.split 63 rfl (fun g1 => ?_) (fun g1 => ?_)))))
    ·have g1 := cmpQ_gt.1 (of_decide_eq_true g1)
     refine OL.nd rfl (OL.nd rfl (OL.nd rfl (OL.nd rfl (OL.nd rfl (OL.nd rfl (OL.nd rfl (OL.nd rfl ?_)))))))
     refine OL.nd rfl (OL.nd rfl (OL.nd rfl (OL.nd rfl (OL.nd rfl (pkT rfl rfl (OL.nil ?_))))))
     exact AW.reach () ⟨trivial, Knows.app .rq9 (.cons (VLe.bool ((decide_eq_true (.inl g1)).symm)) .nil), Owns.app (.cons rfl (.cons rfl (.cons rfl (.cons rfl .nil)))) (.nil)⟩
    ·have g1 : ¬ (finF h o i).1 < (endQ h o i) := fun e => of_decide_eq_false g1 (cmpQ_gt.2 e)
     refine OL.yes rfl (mvD rfl (OL.yes rfl (c_eql rfl rfl rfl (OL.yes rfl (mvD rfl (OL.split 66 rfl (fun g2 => ?_) (fun g2 => ?_)))))))
     ·have g2 : (endQ h o i) = (finF h o i).1 := cmpQ_eq.1 (of_decide_eq_true g2)
      refine OL.yes rfl (ldPA ag.Rat rfl rfl (vs := [_,_,_]) rfl (nb9 rfl) (OL.yes rfl (clv rfl (.cons (VLe.refl _) (.nil)) (ref_SignQ (x := (endQ h o i)) (by omega)) (OL.yes rfl (c_gtr rfl rfl rfl (OL.yes rfl (pkT rfl rfl ?_)))))))
      refine OL.yes rfl (mvD rfl (OL.split 71 rfl (fun g3 => ?_) (fun g3 => ?_)))
      ·have g3 : 0 < (endQ h o i) := sgn_gt.1 (of_decide_eq_true g3)
       have hcmp := refF_cmp g k.toValC hn0 hi g2 g3
       refine OL.yes rfl (mvD rfl (OL.yes rfl (mvD rfl (OL.yes rfl (clv rfl (.cons (VLe.refl _) (.cons (VLe.refl _) (.nil))) (ref05_CompareS (by rw [List.length_append]; omega)) ?_)))))
       rw [hcmp]
       refine OL.yes rfl (c_lss rfl rfl rfl (OL.yes rfl (pkT rfl rfl (pkF rfl rfl (OL.nil ?_)))))
       exact AW.reach () ⟨trivial, Knows.app .rq9 (.cons (VLe.bool (decide_eq_decide.2 ⟨fun e => .inr ⟨g2, g3, e⟩, fun e => (e.resolve_left g1).2.2⟩)) .nil), Owns.app (.cons rfl (.cons rfl (.cons rfl (.cons rfl .nil)))) (.nil)⟩
      ·have g3 : ¬ 0 < (endQ h o i) := fun e => of_decide_eq_false g3 (sgn_gt.2 e)
       refine OL.nd rfl (OL.nd rfl (OL.nd rfl (OL.nd rfl (OL.yes rfl (pkF rfl rfl (pkF rfl rfl (OL.nil ?_)))))))
       exact AW.reach () ⟨trivial, Knows.app .rq9 (.cons (VLe.bool ((decide_eq_false fun e => g3 (e.resolve_left g1).2.1).symm)) .nil), Owns.app (.cons rfl (.cons rfl (.cons rfl (.cons rfl .nil)))) (.nil)⟩
     ·have g2 : (endQ h o i) ≠ (finF h o i).1 := fun e => of_decide_eq_false g2 (cmpQ_eq.2 e)
      refine OL.nd rfl (OL.nd rfl (OL.nd rfl (OL.yes rfl (pkF rfl rfl (OL.yes rfl (mvD rfl (OL.nd rfl ?_)))))))
      refine OL.nd rfl (OL.nd rfl (OL.nd rfl (OL.yes rfl (pkF rfl rfl (pkF rfl rfl (OL.nil ?_))))))
      exact AW.reach () ⟨trivial, Knows.app .rq9 (.cons (VLe.bool ((decide_eq_false fun e => g2 (e.resolve_left g1).1).symm)) .nil), Owns.app (.cons rfl (.cons rfl (.cons rfl (.cons rfl .nil)))) (.nil)⟩
   rintro ⟨⟩ hφ
   refine AW.cond rfl (fun gb => ?_) (fun gb => ?_)
   ·have gb := of_decide_eq_true gb
    have hpk : (finF h o (i + 1)) = ((endQ h o i), o.tl.getD i []) := if_pos gb
    have hrp : (refF h o (i + 1)) = o.dn ++ o.tl.getD i [] := by unfold refF; rw [hpk, if_pos (bet_pos hn0 gb)]
    refine AW.rg hE rfl (ldPA ag.Rat rfl rfl (vs := [_,_,_]) rfl (nb9 rfl) (mvD rfl (sto sz.Rat rfl rfl rfl rfl rfl (nb9 rfl) (cells2 := [_,_,_]) rfl (asD rfl (OL.nil ?_)))))
    exact AW.reach () ⟨trivial, Knows.app .rq6 (.cons (vle_of_eq (by rw [hrp]; rfl)) .nil), Owns.app (.cons rfl (.cons rfl .nil)) (.cons (by rw [hpk]; rfl) .nil)⟩
   ·have gb := of_decide_eq_false gb
    have hpk : (finF h o (i + 1)) = (finF h o i) := if_neg gb
    have hrp : (refF h o (i + 1)) = (refF h o i) := by unfold refF; rw [hpk]
    refine AW.skip ?_
    exact AW.reach () ⟨trivial, Knows.app .rq6 (.cons (vle_of_eq (by rw [hrp]; rfl)) .nil), Owns.app (.cons rfl (.cons rfl .nil)) (.cons (by rw [hpk]; rfl) .nil)⟩
  rintro ⟨⟩ hφ
  refine AW.rg hE rfl (mvD rfl (add_i64 rfl rfl (by omega) (asD rfl (OL.nil ?_))))
  exact AW.again (x := i) (i + 1) (by omega) ⟨by omega, Knows.app .rq5 .rq2, Owns.app (.cons rfl (.cons rfl .nil)) (.cons rfl .nil)⟩
 ·have hi := of_decide_eq_false hi
  refine AW.exit (AW.seq (AW.seq ?_))
  obtain rfl : i = o.sc.length := by omega
  have hra := refF_all g k.toValC
  refine AW.rg hE rfl (ldPA ag.Rat rfl rfl (vs := [_,_,_]) rfl (nb9 rfl) (clv rfl (.cons (VLe.refl _) (.nil)) (ref_SignQ (x := (finF h o o.sc.length).1) (by omega)) (c_eql rfl rfl rfl (OL.nil (AW.cond rfl (fun hz => ?_) (fun hz => ?_))))))
  ·have hz : (finF h o o.sc.length).1 = 0 := sgnQ_eq.1 (of_decide_eq_true hz)
   refine AW.sg hE rfl (bd z.Rat pl.Rat (cs := [_,_,_]) rfl (asM rfl (sto sz.Rat rfl rfl rfl rfl rfl (nb9 rfl) (cells2 := [_,_,_]) rfl (asD rfl (OL.nil ?_)))))
   exact AW.ret (RetQ.r ⟨_, .tmp rfl (.cellA rfl rfl ag.Rat (nb9 rfl) (.tmp rfl .nil)), _, .cons (.le (by rw [finP, if_pos hz]; exact VLe.mt)) (.cons (.ag (.cons (.le (by rw [hz, ofQ_zero]; exact VLe.refl _)) (.cons (.le (by rw [hz, ofQ_zero]; exact VLe.mt)) (.cons (.le (by rw [hz, ofQ_zero]; exact VLe.mt)) .nil)))) (.cons (.le (VLe.int (by rw [finE, if_pos hz]))) .nil)), rfl⟩)
  ·have hz : (finF h o o.sc.length).1 ≠ 0 := fun e => of_decide_eq_false hz (sgnQ_eq.2 e)
   refine AW.skip (AW.seq (AW.region_tree order_free (by rw [hE]; rfl) (OT.node [0, 1] (os := [_,_]) (by kernel_rfl) (by decide) rfl ⟨?_, ?_, trivial⟩)))
   ·refine mvD rfl (OL.nil (OT.node [1, 2] (os := [_,_]) (by kernel_rfl) (by decide) rfl ⟨?_, ?_, trivial⟩))
    ·refine ldPA ag.Rat rfl rfl (vs := [_,_,_]) rfl (nb9 rfl) (OL.nil (OT.node [2] (os := [_]) (by kernel_rfl) (by decide) rfl ⟨?_, trivial⟩))
     refine asD rfl (OL.nil (OT.node [3] (os := [_]) (by kernel_rfl) (by decide) rfl ⟨?_, trivial⟩))
     refine sto sz.Rat rfl rfl rfl rfl rfl (nb9 rfl) (cells2 := [_,_,_]) rfl (OL.nil (OT.node [4] (os := [_]) (by kernel_rfl) (by decide) rfl ⟨?_, trivial⟩))
     refine asD rfl (OL.nil (OT.leaf (by kernel_rfl) ?_))
     exact AW.ret (RetQ.r ⟨_, .tmp rfl (.cellA rfl rfl ag.Rat (nb9 rfl) (.tmp rfl .nil)), _, .cons (.le (vle_of_eq (by rw [hra]; rfl))) (.cons (.ag (.cons (.le (VLe.refl _)) (.cons (.le (VLe.refl _)) (.cons (.le (VLe.refl _)) .nil)))) (.cons (.le (VLe.int (by rw [finE, if_neg hz]))) .nil)), rfl⟩)
    ·refine asD rfl (OL.nil (OT.node [1] (os := [_]) (by kernel_rfl) (by decide) rfl ⟨?_, trivial⟩))
     refine ldPA ag.Rat rfl rfl (vs := [_,_,_]) rfl (nb9 rfl) (OL.nil (OT.node [3] (os := [_]) (by kernel_rfl) (by decide) rfl ⟨?_, trivial⟩))
     refine sto sz.Rat rfl rfl rfl rfl rfl (nb9 rfl) (cells2 := [_,_,_]) rfl (OL.nil (OT.node [4] (os := [_]) (by kernel_rfl) (by decide) rfl ⟨?_, trivial⟩))
     refine asD rfl (OL.nil (OT.leaf (by kernel_rfl) ?_))
     exact AW.ret (RetQ.r ⟨_, .tmp rfl (.cellA rfl rfl ag.Rat (nb9 rfl) (.tmp rfl .nil)), _, .cons (.le (vle_of_eq (by rw [hra]; rfl))) (.cons (.ag (.cons (.le (VLe.refl _)) (.cons (.le (VLe.refl _)) (.cons (.le (VLe.refl _)) .nil)))) (.cons (.le (VLe.int (by rw [finE, if_neg hz]))) .nil)), rfl⟩)
   ·refine ldPA ag.Rat rfl rfl (vs := [_,_,_]) rfl (nb9 rfl) (OL.nil (OT.node [0] (os := [_]) (by kernel_rfl) (by decide) rfl ⟨?_, trivial⟩))
    refine mvD rfl (OL.nil (OT.node [2] (os := [_]) (by kernel_rfl) (by decide) rfl ⟨?_, trivial⟩))
    refine asD rfl (OL.nil (OT.node [3] (os := [_]) (by kernel_rfl) (by decide) rfl ⟨?_, trivial⟩))
    refine sto sz.Rat rfl rfl rfl rfl rfl (nb9 rfl) (cells2 := [_,_,_]) rfl (OL.nil (OT.node [4] (os := [_]) (by kernel_rfl) (by decide) rfl ⟨?_, trivial⟩))
    refine asD rfl (OL.nil (OT.leaf (by kernel_rfl) ?_))
    exact AW.ret (RetQ.r ⟨_, .tmp rfl (.cellA rfl rfl ag.Rat (nb9 rfl) (.tmp rfl .nil)), _, .cons (.le (vle_of_eq (by rw [hra]; rfl))) (.cons (.ag (.cons (.le (VLe.refl _)) (.cons (.le (VLe.refl _)) (.cons (.le (VLe.refl _)) .nil)))) (.cons (.le (VLe.int (by rw [finE, if_neg hz]))) .nil)), rfl⟩)
set_option maxRecDepth 8000 in
set_option maxHeartbeats 1600000 in
theorem ref37_Finish4 {r : RDec} (zd : r.Sz) (n : ¬ VR r) : FSpec P F.ref37_Finish [vOR r] (.tup [.d (ints []), vQ 0, .d (dI 4)]) := by
 refine FSpec.intro fn.ref37_Finish (by rfl) (by rfl) (nb9 (by rfl)) fun E hE => (AW.sg hE rfl (bxA rfl rfl fun b1 => (asM rfl (al z.Rat rfl fun b3 => (asD rfl (OL.nil (AW.seq ?_)))))))
 refine AW.sg hE rfl (ldPA ag.Online rfl rfl (vs := [_,_,_,_,_,_,_,_,_,_,_,_,_,_,_]) rfl (nb9 rfl) (clv rfl (.cons (VLe.refl _) (.nil)) (ref37_ValidR zd) ?_))
 rw [← vrB_f n]
 refine nt rfl (OL.nil (AW.cond rfl (fun _ => ?_) (fun hno => absurd hno (by decide))))
 refine AW.sg hE rfl (bd z.Rat pl.Rat (cs := [_,_,_]) rfl (asM rfl (sto sz.Rat rfl rfl rfl rfl rfl (nb9 rfl) (cells2 := [_,_,_]) rfl (asD rfl (OL.nil ?_)))))
 exact AW.ret (RetQ.r ⟨_, .tmp rfl (.cellA rfl rfl ag.Rat (nb9 rfl) (.tmp rfl .nil)), _, .cons (.le (VLe.mt)) (.cons (.ag (.cons (.le (by rw [ofQ_zero]; exact VLe.refl _)) (.cons (.le (by rw [ofQ_zero]; exact VLe.mt)) (.cons (.le (by rw [ofQ_zero]; exact VLe.mt)) .nil)))) (.cons (.le (VLe.refl _)) .nil)), rfl⟩)
theorem on_FinishA {r : RDec} (z : r.Sz) : FSpec P F.online_Finish [vOR r] (.tup [.d (ints (fnP r)), vQ (fnQ r), .d (dI (fnE r))]) := by
 by_cases v : VR r
 ·obtain ⟨g, _⟩ := chkP_good z.m v.p
  have h3 := on_FinishV g (v.val z)
  rw [← vOR_eq z v] at h3
  rw [show fnP r = finP (hm r.m) (decR r) from if_pos v, show fnQ r = (finF (hm r.m) (decR r) (decR r).sc.length).1 from if_pos v, show fnE r = finE (hm r.m) (decR r) from if_pos v]
  exact h3
 ·rw [show fnP r = [] from if_neg v, show fnQ r = 0 from if_neg v, show fnE r = 4 from if_neg v]
  exact on_Finish4 z v
theorem ref37_FinishA {r : RDec} (z : r.Sz) : FSpec P F.ref37_Finish [vOR r] (.tup [.d (ints (fnP r)), vQ (fnQ r), .d (dI (fnE r))]) := by
 by_cases v : VR r
 ·obtain ⟨g, _⟩ := chkP_good z.m v.p
  have h3 := ref37_FinishV g (plainV z v.p) (v.val z)
  rw [← vOR_eq z v] at h3
  rw [show fnP r = finP (hm r.m) (decR r) from if_pos v, show fnQ r = (finF (hm r.m) (decR r) (decR r).sc.length).1 from if_pos v, show fnE r = finE (hm r.m) (decR r) from if_pos v]
  exact h3
 ·rw [show fnP r = [] from if_neg v, show fnQ r = 0 from if_neg v, show fnE r = 4 from if_neg v]
  exact ref37_Finish4 z v
end Go.Proofs.YtjghehkgmanmbaaGreat

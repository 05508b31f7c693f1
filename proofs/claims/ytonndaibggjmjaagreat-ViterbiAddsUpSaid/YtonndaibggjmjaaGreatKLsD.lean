/-
  Walks of the list of paths, part 4: viterbi.List (printed by mk2.py).
-/
import Derived.Test.YtonndaibggjmjaaGreatKLsC
import Derived.Test.YtonndaibggjmjaaGreatKMod64
set_option linter.unusedVariables false
set_option linter.unusedSimpArgs false
namespace Go.Proofs.YtonndaibggjmjaaGreat
open Go Go.AL
theorem vle_d0P : VLe (.ag [.d (dB false), .mt, .mt, .d (dB false), .mt, .mt, .mt]) (vPrt d0P) := by
 show VLe _ (.ag [.d (dB (ofQ 0).neg), .d (u32s (ofQ 0).num), .d (u32s (ofQ 0).den), .d (dB (ofQ 0).neg), .d (u32s (ofQ 0).num), .d (u32s (ofQ 0).den), .d (ints [])])
 rw [ofQ_zero]
 exact .ag (.cons (VLe.refl _) (.cons VLe.mt (.cons VLe.mt (.cons (VLe.refl _) (.cons VLe.mt (.cons VLe.mt (.cons VLe.mt .nil)))))))
theorem rank0 {h : HM} {w : List Int} {R : List (List Int)} (r : Ranked35 h w R) (h0 : w.length = 0) : R = if 0 < h.empty then [[]] else [] := by
 have e : ∀ c, jointE h w c = h.empty := fun c => if_pos h0
 refine sorted_unique (fun a b => bfQ_asym a b) r.sorted ?_ fun c => (r.all c).trans ?_
 ·split
  ·exact List.pairwise_singleton ..
  ·exact List.Pairwise.nil
 ·rw [e]
  constructor
  ·rintro ⟨⟨a, _⟩, b⟩
   rw [if_pos b, List.eq_nil_of_length_eq_zero (a.trans h0)]
   exact List.mem_singleton.2 rfl
  ·intro k
   split at k
   ·rename_i hp
    rw [List.mem_singleton.1 k]
    exact ⟨⟨h0.symm, fun x hx => by cases hx⟩, hp⟩
   ·cases k
theorem wt_one {st n : Nat} {l : List Prt} {x : Prt} (hl : x.path.length = n) : wtP st n (x :: l) = wtP st n l + 1 := by
 rw [wt_cons, hl, Nat.sub_self, Nat.pow_zero, Nat.add_comm]
theorem bstL_sz {h : HM} {B : Nat} (f : h.Form B) {w p : List Int} (k1 : w.length ≤ 256) (hn : 0 < w.length) (hp : p.length ≤ w.length) : sz (bstL h w p) ≤ 2097152 := by
 have zR := bestR_sz f k1 every
 rw [bestR, if_neg (by omega)] at zR
 unfold bstL
 split
 ·omega
 ·unfold upto AL.follow
  have h1 := wgt_sz f w p p.length
  have h2 := (restG_szB f w every (d := w.length - 1 - (p.length - 1)) (by omega)).get (by decide) (atP p (p.length - 1))
  have := sz_mul (wgt h w p p.length) ((restG h w every (w.length - 1 - (p.length - 1))).getD (atP p (p.length - 1)) 0)
  omega
theorem jinv_sz {h : HM} {B : Nat} (f : h.Form B) {w : List Int} (kw : WordOK h w) (hn : 0 < w.length) {l : List Prt} {O : List (List Int)} (j : JInv h w l O) : SzP l := fun p hp => by
 have hi := (j.s.hp p.path (List.mem_map.2 ⟨p, hp, rfl⟩)).1
 have k1 := kw.1
 have hz := bstL_sz f k1 hn hi
 rw [show bstL h w p.path = p.best from (congrArg Prt.best (j.own p hp)).symm] at hz
 omega
def lstE (R : List (List Int)) : Int := if R.length = 0 then 11 else 0
set_option maxRecDepth 8000 in
set_option maxHeartbeats 6400000 in
theorem vit_List {h : HM} {B : Nat} {w : List Int} {k : Nat} {R : List (List Int)} (g : h.Good B) (kw : WordOK h w) (hk : 1 ≤ k ∧ k ≤ 64) (r : Ranked35 h w R) (hN : (h.st + 1) ^ w.length ≤ 700000) : FSpec P F.viterbi_List [vHM h, .d (ints w), .d (dI k)] (.tup [.d (dIss (R.take k)), .d (dQs ((R.take k).map (jointE h w))), .d (dI (lstE R))]) := by
 have f := g.form
 have k1 := kw.1
 have n0 := f.st0
 have n1 := f.st1
 have zE := f.zE
 have bB := f.bB
 have zR := bestR_sz f k1 every
 refine FSpec.intro fn.viterbi_List (by rfl) (by rfl) (nb9 (by rfl)) fun E hE => (AW.sg hE rfl (bxA rfl rfl fun b3 => (bxD rfl rfl fun b4 => (asM rfl (asM rfl (asD rfl (OL.nil ?_)))))))
 refine AW.seq (AW.sg hE rfl (ldPA ag.Hidden rfl rfl (vs := [_,_,_,_,_,_,_,_,_,_,_]) rfl (nb9 rfl) (ldPC ce.ints rfl rfl rfl (clv rfl (.cons (VLe.refl _) (.cons (VLe.refl _) (.nil))) (viterbi_refuse g kw) (asD rfl (OL.nil (AW.sg hE rfl ?_)))))))
 refine mvD rfl (c_neq rfl rfl (c := false) (by exact cne_f (by omega)) (OL.nil (AW.cond rfl (fun hno => absurd hno (by decide)) (fun _ => ?_))))
 refine AW.skip (AW.seq (AW.sg hE rfl (mvD rfl (c_lss rfl rfl (c := false) (by exact decide_eq_false (by omega)) (mvD rfl (OL.yes rfl (mvD rfl ?_)))))))
 refine OL.yes rfl (c_gtr rfl rfl (c := false) (by exact decide_eq_false (by omega)) (pkF rfl rfl (OL.nil (AW.cond rfl (fun hno => absurd hno (by decide)) (fun _ => ?_)))))
 refine AW.skip (AW.sg hE rfl (ldPA ag.Hidden rfl rfl (vs := [_,_,_,_,_,_,_,_,_,_,_]) rfl (nb9 rfl) (ldPC ce.ints rfl rfl rfl (clv rfl (.cons (VLe.refl _) (.cons (VLe.refl _) (.cons (VLe.refl _) (.nil)))) (vit_newTable (fp := F.viterbi_every) (caps := []) (p := every) g kw fun t i _ _ => viterbi_every) (al z.ptable rfl fun b10 => (sto sz.ptable rfl rfl rfl rfl rfl (nb9 rfl) (cells2 := [_]) rfl (OL.nil ?_)))))))
 refine AW.seq (AW.sg hE rfl (ldPC ce.ints rfl rfl rfl (lnL sl.ints rfl rfl (c_eql rfl rfl rfl (OL.nil (AW.cond rfl (fun h0 => ?_) (fun h0 => ?_)))))))
 ·have h0 : w.length = 0 := by have := of_decide_eq_true h0; omega
  have hR := rank0 r h0
  have hbe : bestR h w every = h.empty := if_pos h0
  have hvp : vitP h w every = [] := if_pos (.inl h0)
  refine AW.sg hE rfl (ldPC ce.ptable rfl rfl rfl (clv rfl (.cons (VLe.refl _) (.nil)) (vit_path g kw) (mvT rfl (ex rfl rfl (ex rfl rfl (ex rfl rfl (al z.Rat rfl fun b12 => ?_)))))))
  refine asD rfl (sto sz.Rat rfl rfl rfl rfl rfl (nb9 rfl) (cells2 := [_,_,_]) rfl (asD rfl (OL.nil (AW.seq (AW.sg hE rfl (mvD rfl (c_neq rfl rfl rfl ?_)))))))
  refine OL.nil (AW.cond rfl (fun he => ?_) (fun he => ?_))
  ·have he : vitE h w every ≠ 0 := by simpa using he
   have hz : ¬ 0 < h.empty := fun e => he (by unfold vitE; rw [hbe, if_neg (fun x => by rw [x] at e; exact absurd e (by decide))])
   have hve : vitE h w every = 11 := by unfold vitE at he ⊢; split at he; rename_i a; rw [if_pos a]; exact absurd rfl he
   rw [if_neg hz] at hR
   subst hR
   exact AW.sg hE rfl (mvD rfl (asM rfl (asM rfl (asD rfl (OL.nil (AW.ret (RetQ.r ⟨_, .tmp rfl (.tmp rfl (.tmp rfl .nil)), _, .cons (.le (by rw [List.take_nil]; exact VLe.mt)) (.cons (.le (by rw [List.take_nil]; exact VLe.mt)) (.cons (.le (VLe.int hve)) .nil)), rfl⟩)))))))
  ·have he : vitE h w every = 0 := by simpa using he
   have hz : 0 < h.empty := (rat_pos g.pE.1).resolve_right fun e => by unfold vitE at he; rw [hbe, if_pos e.symm] at he; cases he
   rw [if_pos hz] at hR
   subst hR
   refine AW.skip (AW.seq (AW.dg 1 [0,1,2,3,4,5,6] order_free hE rfl (by kernel_rfl) (OI.of_OL (os := [_,_,_,_,_,_,_]) rfl ?_)))
   refine mvD rfl (lt1 (y := ints (vitP h w every)) sl.intss (VC.d _).vd rfl (by decide) (ldPA ag.Rat rfl rfl (vs := [_,_,_]) rfl (nb9 rfl) (lt1 (y := dQ (bestR h w every)) sl.Rats vd_q rfl (by decide) (asD rfl (asD rfl (asD rfl (OL.nil ?_)))))))
   exact AW.ret (RetQ.r ⟨_, .tmp rfl (.tmp rfl (.tmp rfl .nil)), _, .cons (.le (vle_of_eq (by rw [hvp, List.take_of_length_le (by simp only [List.length_singleton]; omega)]; rfl))) (.cons (.le (vle_of_eq (by rw [hbe, List.take_of_length_le (by simp only [List.length_singleton]; omega), List.map_singleton, show jointE h w [] = h.empty from if_pos h0]; rfl))) (.cons (.le (VLe.refl _)) .nil)), rfl⟩)
 ·have h0 : 0 < w.length := Nat.pos_of_ne_zero fun e => of_decide_eq_false h0 (by omega)
  refine AW.skip (AW.sg hE rfl (lt0 sl.heap (OL.new (.box (v := .mt) rfl rfl) rfl (by simp [newOK]) fun b51 _ => (al z.pheap rfl fun b14 => (sto sz.pheap rfl rfl rfl rfl rfl (nb9 rfl) (cells2 := [_]) rfl (OL.nil (AW.seq ?_)))))))
  refine AW.rename 51 1000 rfl (AW.deadR 1001 T.part 7 rfl (AW.boxW 1000 [.osl 1001 0 0 0] rfl (.cons vle_mtO .nil) (AW.boxW 14 [.ptr 1000 b51 0] rfl (.cons VLe.ptr .nil) ?_)))
  refine AW.freezeBox 3 (dHM h) rfl (VCs.map_d (dHM h)) (AW.freezeBox 4 [ints w] rfl (VCs.map_d [ints w]) (AW.to [(2, .d (dI k)), (3, .ref (dHM h)), (4, .ref [ints w]), (6, .mt), (7, .mt), (8, .d (dI 0)), (10, .ptr 1 b10 0), (14, .ptr 4 b14 0)] [(10, .box b10 T.ptable [.ref (cellsT h w (colsG h w every w.length))]), (14, .box b14 T.pheap [.ptr 1000 b51 0]), (1000, .box b51 T.heap [.osl 1001 0 0 0]), (1001, rowP 0 0 [])] (.cons (VLe.refl _) (.cons (vle_of_eq (show V.frb 4 b4 [ints w] (V.frb 3 b3 (dHM h) (.ptr 3 b3 0)) = .ref (dHM h) from frb_self2)) (.cons (vle_of_eq (show V.frb 4 b4 [ints w] (.ptr 4 b4 0) = .ref [ints w] from frb_self)) (.cons (VLe.refl _) (.cons (VLe.refl _) (.cons (VLe.refl _) (.cons VLe.ptr (.cons VLe.ptr (.nil))))))))) (.cons rfl (.cons rfl (.cons rfl (.cons rfl (.nil))))) ?_))
  refine AW.rename 10 1 rfl (AW.rename 14 4 rfl (AW.rg hE rfl (mkF (vs := [_,_,_,_]) rfl (asF rfl (OL.nil (AW.seq (AW.regionK (by rw [hE]; rfl) ?_)))))))
  refine SK.ofOL (mvF rfl (OL.nil ?_))
  refine SK.ofOL (bd z.part pl.part (cs := [_,_,_,_,_,_,_]) rfl (OL.nil ?_))
  refine SK.ofSO (SO.callE (args' := [vPrt d0P, .ptr 1 b10 0, .ref (dHM h), .ref [ints w], .ptr 4 b14 0]) (show 55 < E.n by rw [hE]; exact Nat.le_of_ble_eq_true (by rfl)) rfl (.cons vle_d0P (VLes.refl _)) (Mc := exM h w b10 b14 b51 0 0 ([] : List Prt).length ([] : List Prt)) (fun id blk hk => lk_own (l := exL h w b10 b14 b51 0 0 ([] : List Prt).length ([] : List Prt)) (.cons rfl (.cons rfl (.cons (rfl) (.cons rfl trivial)))) id blk hk) (vit_extend (x := d0P) (ps := []) f kw (fun x hx => by cases hx) h0 (fun e => absurd rfl e) (fun k _ hk => absurd hk (Nat.not_lt_zero k)) (fun p hp => by cases hp) (by simp only [List.length_nil]; omega)) (fun x _ id hk => exM_none id hk) ?_)
  rintro ⟨q2, c2, l2⟩ ⟨hp, hh⟩
  have hp : l2.Perm ((kidsP h.st (bstL h w) []).map (prtL h w) ++ []) := hp
  have j0 := JInv.start g h0 hp
  have hw0 : wtP h.st w.length l2 ≤ 700000 := by
   have a := wt_perm (st := h.st) (n := w.length) hp
   rw [List.append_nil] at a
   have b := wt_kids (h := h) (w := w) (st := h.st) (bst := bstL h w) (p := []) h0
   rw [List.length_nil, Nat.sub_zero] at b
   have a : wtP h.st w.length l2 = _ := a
   omega
  refine SK.nil (AW.sg hE rfl (asM rfl (OL.nil (AW.sg hE rfl (asM rfl (OL.nil (AW.own 16 81 T.ints 1 rfl rfl ?_)))))))
  refine AW.own 17 86 T.Rat 3 rfl rfl ?_
  refine AW.midK (α := Nat × Nat × Nat × Nat) [(6, _), (7, _), (8, _)] [] (fun (p1, c1, p2, c2) => [(16, .osl 81 p1 (R.take k).length c1), (17, .osl 86 p2 (R.take k).length c2)]) (fun (p1, c1, p2, c2) => [(81, .row p1 c1 T.ints 1 ((R.take k).map ints)), (86, .row p2 c2 T.Rat 3 (((R.take k).map (jointE h w)).map dQ))]) (fun (p1, c1, p2, c2) => True) (.cons (knM rfl) (.cons (knM rfl) (.cons (knD rfl) .nil))) .nil ?_ ?_
  ·refine AW.block ?_
   refine AW.whileK (α := Nat × Nat × List Prt × List (List Int) × Nat × Nat × Nat × Nat) [(2, _), (4, _), (6, _), (7, _), (8, _), (14, _), (15, _)] [] (fun (q, c, l, O, p1, c1, p2, c2) => [(16, .osl 81 p1 O.length c1), (17, .osl 86 p2 O.length c2)]) (fun (q, c, l, O, p1, c1, p2, c2) => [(1, .box b10 T.ptable [.ref (cellsT h w (colsG h w every w.length))]), (4, .box b14 T.pheap [.ptr 1000 b51 0]), (1000, .box b51 T.heap [.osl 1001 q l.length c]), (1001, rowP q c l), (81, .row p1 c1 T.ints 1 (O.map ints)), (86, .row p2 c2 T.Rat 3 ((O.map (bstL h w)).map dQ))]) (fun (q, c, l, O, p1, c1, p2, c2) => JInv h w l O ∧ HeapN ltP d0P l.length l ∧ O.length ≤ k ∧ wtP h.st w.length l ≤ 700000) (fun (q, c, l, O, p1, c1, p2, c2) => wtP h.st w.length l) (q2, c2, l2, [], 0, 0, 0, 0) (.cons (knD rfl) (.cons (knR rfl) (.cons (knM rfl) (.cons (knM rfl) (.cons (knD rfl) (.cons (knP rfl) (.cons (knF rfl) .nil))))))) .nil ⟨⟨j0, hh, Nat.zero_le _, hw0⟩, .rq2, .cons rfl (.cons rfl (.cons rfl (.cons rfl (.cons rfl (.cons rfl .nil)))))⟩ ?_
   rintro ⟨q, c, l, O, p1, c1, p2, c2⟩ ⟨j, hh, hOk, hw⟩
   have j : JInv h w l O := j
   have hh : HeapN ltP d0P l.length l := hh
   have hOk : O.length ≤ k := hOk
   have hw : wtP h.st w.length l ≤ 700000 := hw
   have hwl := wt_len (st := h.st) (n := w.length) l
   refine AW.seq (AW.sg hE rfl (ldPC ce.pheap rfl rfl rfl (ncP rfl (ldPC ce.heap rfl rfl rfl (clv rfl (.cons (VLe.refl _) (.nil)) (parts_Len) (c_gtr rfl rfl rfl (OL.split 60 rfl (fun ht => ?_) (fun ht => ?_))))))))
   ·have ht : 0 < l.length := by have := of_decide_eq_true ht; omega
    refine mvD rfl (OL.yes rfl (mvO rfl (OL.yes rfl (lnO sl.intss rfl rfl (OL.yes rfl (mvD rfl (OL.yes rfl ?_)))))))
    refine c_lss rfl rfl rfl (pkT rfl rfl (OL.nil (AW.cond rfl (fun ho => ?_) (fun ho => ?_))))
    ·have ho : O.length < k := by have := of_decide_eq_true ho; omega
     refine AW.skip (AW.block (AW.seq ?_))
     obtain ⟨m, hm⟩ : ∃ m, l.length = m + 1 := ⟨l.length - 1, by omega⟩
     have hzl : SzP l := jinv_sz f kw h0 j
     refine AW.regionK (by rw [hE]; rfl) (SK.ofOL (ldPC ce.pheap rfl rfl (v := .ptr 1000 b51 0) rfl (OL.nil ?_)))
     refine SK.ofOL (mkI cc.pheap rfl (OL.nil ?_))
     refine SK.ofSO (SO.callE (args' := [vHp b51]) (show 69 < E.n by rw [hE]; exact Nat.le_of_ble_eq_true (by rfl)) rfl (VLes.refl _) (Mc := hpM b51 q c (m + 1) l) (fun id blk hk => lk_own (l := hpL b51 q c (m + 1) l) (.cons (by rw [← hm]; rfl) (.cons rfl trivial)) id blk hk) (heap_Pop hm (by omega) (by rw [← hm]; exact hh) hzl) (fun x _ id hk => hpM_none id hk) ?_)
     rintro l3 ⟨hp3, hh3⟩
     have hl3 : l3.length = m := by have := hp3.length_eq; rw [List.length_cons] at this; omega
     obtain ⟨x, hx⟩ : ∃ x, x = l.getD 0 d0P := ⟨_, rfl⟩
     rw [← hx] at hp3 ⊢
     refine SK.ofOL (tA cc.part rfl (OL.nil ?_))
     refine SK.ofOL (al z.part rfl fun b18 => OL.nil ?_)
     refine SK.ofOL (sto sz.part rfl rfl rfl rfl rfl (nb9 rfl) (cells2 := cellsP x) rfl (OL.nil ?_))
     refine SK.nil (AW.seq (AW.sg hE rfl (faP fd.part_2 rfl rfl (ldPC ce.ints rfl rfl rfl (lnL sl.ints rfl rfl (ldRC ce.ints rfl (lnL sl.ints rfl rfl ?_)))))))
     refine c_eql rfl rfl rfl (OL.nil (AW.cond rfl (fun hc => ?_) (fun hc => ?_)))
     ·have hxl : x.path.length = w.length := by have := of_decide_eq_true hc; omega
      have hwd : wtP h.st w.length l3 < wtP h.st w.length l := by rw [← wt_perm hp3, wt_one hxl]; omega
      have hxo : x = prtL h w x.path := j.own x (hp3.mem_iff.1 (List.mem_cons_self ..))
      refine AW.seq (AW.dg 2 [0,1,2,3,5,6,7,8,4,9,10,11] order_free hE rfl (by kernel_rfl) (OI.of_OL (os := [_,_,_,_,_,_,_,_,_,_,_,_]) rfl ?_))
      refine mvO rfl (faP fd.part_2 rfl rfl (ldPC ce.ints rfl rfl rfl (lt1 (y := ints x.path) sl.intss (VC.d _).vd rfl (by decide) (mvO rfl (faP fd.part_0 rfl rfl (ldPA ag.Rat rfl rfl (vs := [_,_,_]) rfl (nb9 rfl) (lt1 (y := dQ x.best) sl.Rats vd_q rfl (by decide) ?_)))))))
      refine apO sl.intss rfl rfl rfl (by rw [List.length_map]) (VC.d _) (fun y hy => by rw [List.mem_singleton.1 hy]; rfl) (by simp only [List.length_singleton]; omega) (by simp only [List.length_singleton]; omega) (.inr rfl) (ys := (O ++ [x.path]).map ints) (by rw [List.map_append]; rfl) (n2 := O.length + 1) rfl fun p3 c3 => ?_
      refine apO sl.Rats rfl rfl rfl (by rw [List.length_map, List.length_map]) (VC.d _) (fun y hy => by rw [List.mem_singleton.1 hy]; rfl) (by simp only [List.length_singleton]; omega) (by simp only [List.length_singleton]; omega) (.inr rfl) (ys := ((O ++ [x.path]).map (bstL h w)).map dQ) (by rw [List.map_append, List.map_append, show x.best = bstL h w x.path from congrArg Prt.best hxo]; rfl) (n2 := O.length + 1) rfl fun p4 c4 => ?_
      refine asO rfl (asO rfl (OL.nil (AW.exit ?_)))
      exact AW.again (x := (q, c, l, O, p1, c1, p2, c2)) (q, c, l3, O ++ [x.path], p3, c3, p4, c4) (by exact hwd) ⟨⟨j.emit g hx (by omega) hp3 hh hxl, by rw [hl3]; exact hh3, by rw [List.length_append, List.length_singleton]; omega, by omega⟩, Knows.app .rq7 (.cons (by rw [List.length_append]; exact VLe.refl _) (.cons (by rw [List.length_append]; exact VLe.refl _) .nil)), .cons rfl (.cons rfl (.cons (by rw [hl3]; rfl) (.cons rfl (.cons rfl (.cons rfl .nil)))))⟩
     ·have hpop := j.pop hx (by omega) hp3 hh
      have hxo : x = prtL h w x.path := j.own x (hp3.mem_iff.1 (List.mem_cons_self ..))
      have hxp := hpop.1.hp x.path (List.mem_cons_self ..)
      have hxl : x.path.length < w.length := by have := of_decide_eq_false hc; omega
      refine AW.skip ?_
      have hz3 : SzP l3 := fun p hp => hzl p (hp3.mem_iff.1 (List.mem_cons_of_mem _ hp))
      have hkl := kids_len h.st (bstL h w) x.path
      refine AW.regionK (by rw [hE]; rfl) (SK.ofOL (mvF rfl (OL.nil ?_)))
      refine SK.ofOL (ldPA ag.part rfl rfl (vs := cellsP x) rfl (nb9 rfl) (OL.nil ?_))
      refine SK.ofSO (SO.callE (args' := [vPrt x, .ptr 1 b10 0, .ref (dHM h), .ref [ints w], .ptr 4 b14 0]) (show 89 < E.n by rw [hE]; exact Nat.le_of_ble_eq_true (by rfl)) rfl (VLes.refl _) (Mc := exM h w b10 b14 b51 q c l3.length l3) (fun id blk hk => lk_own (l := exL h w b10 b14 b51 q c l3.length l3) (.cons rfl (.cons rfl (.cons (by rw [hl3]; rfl) (.cons rfl trivial)))) id blk hk) (vit_extend (x := x) (ps := l3) f kw hxp.2.2 hxl (fun e => by rw [hxo]; rfl) (by rw [hl3]; exact hh3) hz3 (by omega)) (fun x _ id hk => exM_none id hk) ?_)
      rintro ⟨q4, c4, l4⟩ ⟨hp4, hh4⟩
      have hwd : wtP h.st w.length l4 < wtP h.st w.length l := by
       have a := wt_perm (st := h.st) (n := w.length) hp4
       rw [wt_app] at a
       have b := wt_kids (h := h) (w := w) (st := h.st) (bst := bstL h w) hxl
       have e := wt_perm (st := h.st) (n := w.length) hp3
       rw [wt_cons] at e
       have a : wtP h.st w.length l4 = _ := a
       omega
      refine SK.nil ?_
      exact AW.again (x := (q, c, l, O, p1, c1, p2, c2)) (q4, c4, l4, O, p1, c1, p2, c2) (by exact hwd) ⟨⟨j.grow g hx (by omega) hp3 hh hxl hp4, hh4, hOk, by omega⟩, Knows.app .rq7 .rq2, .cons rfl (.cons rfl (.cons rfl (.cons rfl (.cons rfl (.cons rfl .nil)))))⟩
    ·have ho : k ≤ O.length := by have := of_decide_eq_false ho; omega
     refine AW.exit ?_
     have hO := j.fin r h0 hOk (.inr ho)
     have hV := j.vals h0
     subst hO
     exact AW.reach (p1, c1, p2, c2) ⟨trivial, Knows.app .rq3 .rq2, .cons rfl (.cons (by rw [← hV]; rfl) .nil)⟩
   ·have ht : l.length = 0 := by have := of_decide_eq_false ht; omega
    refine mvD rfl (OL.nd rfl (OL.nd rfl (OL.nd rfl (OL.nd rfl (pkF rfl rfl (OL.nil (AW.cond rfl (fun hno => absurd hno (by decide)) (fun _ => ?_))))))))
    refine AW.exit ?_
    have hO := j.fin r h0 hOk (.inl ht)
    have hV := j.vals h0
    subst hO
    exact AW.reach (p1, c1, p2, c2) ⟨trivial, Knows.app .rq3 .rq2, .cons rfl (.cons (by rw [← hV]; rfl) .nil)⟩
  rintro ⟨p1, c1, p2, c2⟩ _
  refine AW.seq (AW.sg hE rfl (mvO rfl (lnO sl.intss rfl rfl (c_eql rfl rfl rfl (OL.nil (AW.cond rfl (fun hz => ?_) (fun hz => ?_)))))))
  ·have hz : (R.take k).length = 0 := by have := of_decide_eq_true hz; omega
   have hR0 : R = [] := by rw [List.length_take] at hz; exact List.eq_nil_of_length_eq_zero (by omega)
   subst hR0
   exact AW.sg hE rfl (asM rfl (asM rfl (asD rfl (OL.nil (AW.ret (RetQ.r ⟨_, .tmp rfl (.tmp rfl (.tmp rfl .nil)), _, .cons (.le (by rw [List.take_nil]; exact VLe.mt)) (.cons (.le (by rw [List.take_nil]; exact VLe.mt)) (.cons (.le (VLe.refl _)) .nil)), rfl⟩))))))
  ·have hz : (R.take k).length ≠ 0 := fun e => of_decide_eq_false hz (by omega)
   have hR0 : R.length ≠ 0 := fun e => hz (by rw [List.length_take]; omega)
   refine AW.skip (AW.sg hE rfl (mvO rfl (mvO rfl (asO rfl (asO rfl (asD rfl (OL.nil ?_)))))))
   exact AW.ret (RetQ.r ⟨_, .tmp rfl (.tmp rfl (.tmp rfl .nil)), _, .cons (RO.row rfl (by rw [List.length_map]) rfl) (.cons (RO.row rfl (by rw [List.length_map, List.length_map]) rfl) (.cons (.le (VLe.int (if_neg hR0).symm)) .nil)), rfl⟩)
end Go.Proofs.YtonndaibggjmjaaGreat

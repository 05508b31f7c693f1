/-
  Walks of the specification of package online on any input, part 1: what is common, validity, opening (printed by mk2.py).
-/
import Derived.Test.YtjghehkgmanmbaaGreatKOxC
import Derived.Test.YtjghehkgmanmbaaGreatKVaC
set_option linter.unusedVariables false
set_option linter.unusedSimpArgs false
namespace Go.Proofs.YtjghehkgmanmbaaGreat
open Go Go.AL
def cmpS (a b : List Int) : Int := if a.length ≠ b.length then (if a.length < b.length then -1 else 1) else cmpL a b
theorem cmpS_self (a : List Int) : cmpS a a = 0 := by unfold cmpS; rw [if_neg (by omega), cmpL_self]
theorem cmpS_same {a b : List Int} (h : a.length = b.length) : cmpS a b = cmpL a b := if_neg (by omega)
theorem lcpL_self : ∀ p : List Int, lcpL p p = p.length
 | [] => rfl
 | a :: p => by rw [lcpL, if_pos rfl, lcpL_self p]; rfl
theorem com_dead {al : Nat → Bool} {ps : Nat → List Int} {i : Nat} (ha : al i = false) : comF al ps (i + 1) = comF al ps i := by rw [comF, if_neg (by rw [ha]; decide)]
theorem com_first {al : Nat → Bool} {ps : Nat → List Int} {i : Nat} (ha : al i = true) (hn : (comF al ps i).1 < 0) : comF al ps (i + 1) = ((((ps i).length : Nat) : Int), ps i) := by
 rw [comF, if_pos ha, if_pos hn, lcpL_self, Nat.min_self]
theorem com_more {al : Nat → Bool} {ps : Nat → List Int} {i : Nat} (ha : al i = true) (hn : ¬ (comF al ps i).1 < 0) : comF al ps (i + 1) = (((min (comF al ps i).1.toNat (lcpL (ps i) (comF al ps i).2) : Nat) : Int), (comF al ps i).2) := by
 rw [comF, if_pos ha, if_neg hn]
abbrev cellsOr (h : HM) (t b1 n c1 : Nat) : List V := [.d (dI h.sym), .d (dI h.st), .d (dB (ofQ h.empty).neg), .d (u32s (ofQ h.empty).num), .d (u32s (ofQ h.empty).den), .d (dQs h.ini), .d (dQss h.trans), .d (dQs h.stop), .d (dQss h.emit), .d (bools h.silent), .d (ints h.ties), .d (dI t), .osl 132 b1 n c1, .mt, .mt]
theorem ref_ValidO {x : Rat} (hx : sz x ≤ 274877906944) : FSpec P F.ref01_Valid [vQ x] (.d (dB true)) := by
 have h := ref_Valid (r := ofQ x) (ofQ_ok hx)
 rw [ofQ_good] at h; exact h
def goodB (n : Int) (l : List Int) : Bool := l.all fun x => decide (0 ≤ x ∧ x < n)
theorem good_t {n : Int} {l : List Int} (h : ∀ x, x ∈ l → 0 ≤ x ∧ x < n) : goodB n l = true := List.all_eq_true.2 fun x hx => decide_eq_true (h x hx)
theorem good_of {n : Int} {l : List Int} (h : goodB n l = true) : ∀ x, x ∈ l → 0 ≤ x ∧ x < n := fun x hx => of_decide_eq_true (List.all_eq_true.1 h x hx)
theorem good_f {n : Int} {l : List Int} {i : Nat} (hi : i < l.length) (h : ¬ (0 ≤ l.getD i 0 ∧ l.getD i 0 < n)) : goodB n l = false := by
 cases e : goodB n l with
 | false => rfl
 | true => exact absurd (good_of e _ (getD_mem hi 0)) h
theorem vr_goodD {r : RDec} (v : VR r) (h0 : r.t ≠ 0) : goodB r.m.st r.dn = true := good_t fun x hx => by
 have ht : (decR r).t ≠ 0 := by show r.t.toNat ≠ 0; have := v.t0; omega
 obtain ⟨j, hj, hp⟩ := v.c.some ht
 have := (pathsF_mem ((v.c.heads ht).live j hj hp).1).2 x (List.mem_append.2 (.inl hx))
 rw [chkP_stI v.p]; exact this
theorem vr_goodT {r : RDec} (v : VR r) (h0 : r.t ≠ 0) {i : Nat} (hi : i < r.sc.length) : goodB r.m.st (r.tl.getD i []) = true := good_t fun x hx => by
 by_cases e : 0 < (r.sc.getD i raw0).q
 ·exact (v.fitP h0 i hi e).2.2 x (List.mem_append.2 (.inr hx))
 ·rw [v.deadP i e] at hx; cases hx
theorem vrC2 {r : RDec} (cp : chkP r.m = 0) (t0 : 0 ≤ r.t) (h0 : ¬ r.t = 0) (t1 : r.t ≤ 256) (b3 : (r.sc.length : Int) = r.m.st) (b4 : (r.tl.length : Int) = r.m.st) (hn : r.sc.length = (hm r.m).st) (hsn : SeenV r r.sc.length)
  (hx : ∃ j, j < (hm r.m).st ∧ 0 < (decR r).sc.getD j 0) : decide ((comF (fun j => decide (0 < (decR r).sc.getD j 0)) (fun j => (decR r).tl.getD j []) (hm r.m).st).1 = 0) = vrB r := by
 by_cases hc : (comF (fun j => decide (0 < (decR r).sc.getD j 0)) (fun j => (decR r).tl.getD j []) (hm r.m).st).1 = 0
 ·rw [← vrB_t (SeenV.vr cp (by omega) t1 b3 b4 hsn hx hc)]; exact decide_eq_true hc
 ·rw [← vrB_f fun v => hc (v.c.com (by show r.t.toNat ≠ 0; omega))]; exact decide_eq_false hc
theorem ref05_CompareS {l m : List Int} (nl : l.length ≤ 1099511627776) : FSpec P F.ref05_Compare [.d (ints l), .d (ints m)] (.d (dI (cmpS l m))) := by
 refine FSpec.intro fn.ref05_Compare (by rfl) (by rfl) (nb9 (by rfl)) fun E hE => (AW.sg hE rfl (asD rfl (OL.nil (AW.seq (AW.sg hE rfl (mvD rfl (lnL sl.ints rfl rfl ?_)))))))
 refine mvD rfl (lnL sl.ints rfl rfl (c_neq rfl rfl rfl (OL.nil (AW.cond rfl (fun hn => ?_) (fun hn => ?_)))))
 ·have hn : l.length ≠ m.length := fun e => nd_t hn (by rw [e])
  refine AW.seq (AW.sg hE rfl (mvD rfl (lnL sl.ints rfl rfl (mvD rfl (lnL sl.ints rfl rfl (c_lss rfl rfl rfl (OL.nil ?_)))))))
  refine AW.cond rfl (fun hlt => ?_) (fun hlt => ?_)
  ·have hlt : l.length < m.length := by have := of_decide_eq_true hlt; omega
   exact AW.sg hE rfl (asD rfl (OL.nil (AW.ret (RetQ.r ⟨_, .tmp rfl .nil, .le (VLe.int (by unfold cmpS; rw [if_pos hn, if_pos hlt]))⟩))))
  ·have hlt : ¬ l.length < m.length := by have := of_decide_eq_false hlt; omega
   exact AW.skip (AW.sg hE rfl (asD rfl (OL.nil (AW.ret (RetQ.r ⟨_, .tmp rfl .nil, .le (VLe.int (by unfold cmpS; rw [if_pos hn, if_neg hlt]))⟩)))))
 ·have hn : l.length = m.length := by have := nd_f hn; omega
  rw [cmpS_same hn]
  refine AW.skip (AW.seq (AW.sg hE rfl (asD rfl (OL.nil (AW.block ?_)))))
  refine AW.whileK (α := Nat) [(0, _), (1, _)] [] (fun i => [(5, .d (dI i))]) (fun i => []) (fun i => i ≤ l.length ∧ cmpL l m = cmpL (l.drop i) (m.drop i)) (fun i => l.length - i) 0 (.cons (knD rfl) (.cons (knD rfl) .nil)) .nil ⟨⟨Nat.zero_le _, rfl⟩, .rq1, .nil⟩ ?_
  rintro i ⟨h1, h3⟩
  have h1 : i ≤ l.length := h1
  have h3 : cmpL l m = cmpL (l.drop i) (m.drop i) := h3
  refine AW.seq (AW.sg hE rfl (mvD rfl (mvD rfl (lnL sl.ints rfl rfl (c_lss rfl rfl rfl (OL.nil (AW.cond rfl (fun h19 => ?_) (fun h19 => ?_))))))))
  ·try simp only [dx9] at h19
   refine AW.skip (AW.seq (AW.block (AW.seq (AW.seq (AW.dg 1 [0,1,2,3,4,5,6,7,8] order_free hE rfl (by kernel_rfl) (OI.of_OL (os := [_,_,_,_,_,_,_,_,_]) rfl ?_))))))
   refine mvD rfl (mvD rfl (ixLn sl.ints 0 rfl rfl (by omega) rfl rfl (ldRC ce.int rfl (mvD rfl (mvD rfl (ixLn sl.ints 0 rfl rfl (by omega) rfl rfl (ldRC ce.int rfl ?_)))))))
   refine c_lss rfl rfl rfl (OL.nil (AW.cond rfl (fun ha => ?_) (fun ha => ?_)))
   ·have ha := of_decide_eq_true ha
    exact AW.sg hE rfl (asD rfl (OL.nil (AW.ret (RetQ.r ⟨_, .tmp rfl .nil, .le (VLe.int (by rw [h3, cmpL_drop (by omega) (by omega), show cmpI (l.getD i 0) (m.getD i 0) = -1 from if_pos ha, if_neg (by decide)]))⟩))))
   ·have ha := of_decide_eq_false ha
    refine AW.skip (AW.seq (AW.dg 1 [0,1,2,3,4,5,6,7,8] order_free hE rfl (by kernel_rfl) (OI.of_OL (os := [_,_,_,_,_,_,_,_,_]) rfl ?_)))
    refine mvD rfl (mvD rfl (ixLn sl.ints 0 rfl rfl (by omega) rfl rfl (ldRC ce.int rfl (mvD rfl (mvD rfl (ixLn sl.ints 0 rfl rfl (by omega) rfl rfl (ldRC ce.int rfl ?_)))))))
    refine c_gtr rfl rfl rfl (OL.nil (AW.cond rfl (fun hb => ?_) (fun hb => ?_)))
    ·have hb := of_decide_eq_true hb
     exact AW.sg hE rfl (asD rfl (OL.nil (AW.ret (RetQ.r ⟨_, .tmp rfl .nil, .le (VLe.int (by rw [h3, cmpL_drop (by omega) (by omega), show cmpI (l.getD i 0) (m.getD i 0) = 1 by unfold cmpI; rw [if_neg ha, if_pos hb], if_neg (by decide)]))⟩))))
    ·have hb := of_decide_eq_false hb
     exact AW.skip (AW.rg hE rfl (mvD rfl (add_i64 rfl rfl (by omega) (asD rfl (OL.nil (AW.again (x := i) (i + 1) (by omega) ⟨⟨by omega, by rw [h3, cmpL_drop (by omega) (by omega), if_pos (by unfold cmpI; rw [if_neg ha, if_neg hb])]⟩, Knows.app .rq2 .rq1, .nil⟩))))))
  ·try simp only [dx9] at h19
   exact AW.exit (AW.sg hE rfl (asD rfl (OL.nil (AW.ret (RetQ.r ⟨_, .tmp rfl .nil, .le (VLe.int (by rw [h3, List.drop_eq_nil_of_le (show l.length ≤ i by omega), List.drop_eq_nil_of_le (show m.length ≤ i by omega), cmpL]))⟩)))))
theorem ref37_live {h : HM} {o : Dec} {i C : Nat} (hz : Small C o.sc) (hC : 1 ≤ C ∧ C ≤ 68719476736) (hi : i < o.sc.length) : FSpec P F.ref37_live [vOn h o, .d (dI i)] (.d (dB (decide (0 < o.sc.getD i 0)))) := by
 have zi := hz.get hC.1 i
 refine FSpec.intro fn.ref37_live (by rfl) (by rfl) (nb9 (by rfl)) fun E hE => (AW.sg hE rfl (bxA rfl rfl fun b2 => (asD rfl (OL.nil (AW.sg hE rfl (faP fd.Online_2 rfl rfl (ldPC ce.Rats rfl rfl rfl ?_)))))))
 exact mvD rfl (ixLn sl.Rats 0 rfl rfl hi rfl rfl (ldRA ag.Rat rfl (vs := [_,_,_]) rfl (nb9 rfl) (clv rfl (.cons (VLe.refl _) (.nil)) (ref_SignQ (x := o.sc.getD i 0) (by omega)) (c_gtr rfl rfl rfl (asD rfl (OL.nil (AW.ret (RetQ.r ⟨_, .tmp rfl .nil, .le (VLe.bool (decide_eq_decide.2 sgn_gt))⟩))))))))
set_option maxHeartbeats 800000 in
theorem ref37_common {h : HM} {o : Dec} {tls : List (List Int)} {n C : Nat} (hz : Small C o.sc) (hC : 1 ≤ C ∧ C ≤ 68719476736) (hl : o.sc.length = n) (ht : tls.length = n) (n1 : n ≤ 1048576) (hlen : ∀ j, (tls.getD j []).length ≤ 1099511627776) : FSpec P F.ref37_common [vOn h o, .d (dIss tls)] (.d (dI (comF (fun j => decide (0 < o.sc.getD j 0)) (fun j => tls.getD j []) n).1)) := by
 refine FSpec.intro fn.ref37_common (by rfl) (by rfl) (nb9 (by rfl)) fun E hE => (AW.sg hE rfl (bxA rfl rfl fun b2 => (asD rfl (OL.nil (AW.sg hE rfl (asD rfl (OL.nil ?_)))))))
 refine AW.sg hE rfl (asD rfl (OL.nil (AW.seq (AW.sg hE rfl (asD rfl (OL.nil (AW.block ?_)))))))
 refine AW.whileK (α := Nat × Int) [(1, _), (2, _), (4, _)] [(2, _)] (fun (i, a) => [(5, .d (dI (comF (fun j => decide (0 < o.sc.getD j 0)) (fun j => tls.getD j []) i).1)), (6, .d (dI a)), (7, .d (dI i))]) (fun (i, a) => []) (fun (i, a) => i ≤ n ∧ (((comF (fun j => decide (0 < o.sc.getD j 0)) (fun j => tls.getD j []) i).1 = -1 ∧ a = -1) ∨ (0 ≤ (comF (fun j => decide (0 < o.sc.getD j 0)) (fun j => tls.getD j []) i).1 ∧ ∃ q : Nat, a = (q : Int) ∧ q < i ∧ (comF (fun j => decide (0 < o.sc.getD j 0)) (fun j => tls.getD j []) i).2 = (tls.getD q [])))) (fun (i, a) => n - i) (0, -1) (.cons (knD rfl) (.cons (knP rfl) (.cons (knD rfl) .nil))) (.cons (owB rfl) .nil) ⟨⟨Nat.zero_le _, .inl ⟨rfl, rfl⟩⟩, .rq3, .nil⟩ ?_
 rintro ⟨i, a⟩ ⟨h1, hp⟩
 have h1 : i ≤ n := h1
 have hp : (((comF (fun j => decide (0 < o.sc.getD j 0)) (fun j => tls.getD j []) i).1 = -1 ∧ a = -1) ∨ (0 ≤ (comF (fun j => decide (0 < o.sc.getD j 0)) (fun j => tls.getD j []) i).1 ∧ ∃ q : Nat, a = (q : Int) ∧ q < i ∧ (comF (fun j => decide (0 < o.sc.getD j 0)) (fun j => tls.getD j []) i).2 = (tls.getD q []))) := hp
 refine AW.seq (AW.sg hE rfl (mvD rfl (mvD rfl (lnL sl.intss rfl rfl (c_lss rfl rfl rfl (OL.nil (AW.cond rfl (fun h12 => ?_) (fun h12 => ?_))))))))
 ·try simp only [dx9] at h12
  refine AW.skip ?_
  refine AW.midK (α := Int) [(1, _), (2, _), (4, _), (7, _)] [(2, _)] (fun a2 => [(5, .d (dI (comF (fun j => decide (0 < o.sc.getD j 0)) (fun j => tls.getD j []) (i + 1)).1)), (6, .d (dI a2))]) (fun a2 => []) (fun a2 => (((comF (fun j => decide (0 < o.sc.getD j 0)) (fun j => tls.getD j []) (i + 1)).1 = -1 ∧ a2 = -1) ∨ (0 ≤ (comF (fun j => decide (0 < o.sc.getD j 0)) (fun j => tls.getD j []) (i + 1)).1 ∧ ∃ q : Nat, a2 = (q : Int) ∧ q < (i + 1) ∧ (comF (fun j => decide (0 < o.sc.getD j 0)) (fun j => tls.getD j []) (i + 1)).2 = (tls.getD q [])))) (.cons (knD rfl) (.cons (knP rfl) (.cons (knD rfl) (.cons (knD rfl) .nil)))) (.cons (owB rfl) .nil) ?_ ?_
  ·refine AW.block (AW.seq (AW.sg hE rfl (ldPA ag.Online rfl rfl (vs := [_,_,_,_,_,_,_,_,_,_,_,_,_,_,_]) rfl (nb9 rfl) (mvD rfl (clv rfl (.cons (VLe.refl _) (.cons (VLe.refl _) (.nil))) (ref37_live hz hC (by omega)) (nt rfl (OL.nil ?_)))))))
   refine AW.cond rfl (fun ha => ?_) (fun ha => ?_)
   ·have ha : ¬ 0 < o.sc.getD i 0 := fun e => by rw [decide_eq_true e] at ha; cases ha
    have hcn := com_dead (al := (fun j => decide (0 < o.sc.getD j 0))) (ps := (fun j => tls.getD j [])) (i := i) (decide_eq_false ha)
    refine AW.exit ?_
    exact AW.reach a ⟨by rw [hcn]; exact hp.imp (fun e => e) fun ⟨e1, q, e2, e3, e4⟩ => ⟨e1, q, e2, Nat.lt_succ_of_lt e3, e4⟩, Knows.app .rq4 (.cons (vle_of_eq (by rw [hcn]; rfl)) .rq1), Owns.app (.cons rfl .nil) (.nil)⟩
   ·have ha : 0 < o.sc.getD i 0 := by cases hd : decide (0 < o.sc.getD i 0) with | true => exact of_decide_eq_true hd | false => rw [hd] at ha; cases ha
    refine AW.skip (AW.seq (AW.sg hE rfl (mvD rfl (c_lss rfl rfl rfl (OL.nil (AW.cond rfl (fun hn => ?_) (fun hn => ?_)))))))
    ·have hn : a < 0 := of_decide_eq_true hn
     have hn1 : (comF (fun j => decide (0 < o.sc.getD j 0)) (fun j => tls.getD j []) i).1 < 0 := by rcases hp with hp | ⟨_, q, e, _⟩ <;> omega
     have hcf := com_first (al := (fun j => decide (0 < o.sc.getD j 0))) (ps := (fun j => tls.getD j [])) (decide_eq_true ha) hn1
     have hpl := hlen i
     refine AW.seq (AW.dg 1 [0,1,2,3,4,5,6,7] order_free hE rfl (by kernel_rfl) (OI.of_OL (os := [_,_,_,_,_,_,_,_]) rfl ?_))
     refine mvD rfl (mvD rfl (mvD rfl (ixLn sl.intss [] rfl rfl (by omega) rfl rfl (ldRC ce.ints rfl (lnL sl.ints rfl rfl (asD rfl (asD rfl ?_)))))))
     refine OL.nil (AW.exit ?_)
     exact AW.reach (i : Int) ⟨by rw [hcf]; exact .inr ⟨by simp only []; omega, i, rfl, Nat.lt_succ_self i, rfl⟩, Knows.app .rq4 (.cons (vle_of_eq (by rw [hcf]; rfl)) .rq1), Owns.app (.cons rfl .nil) (.nil)⟩
    ·have hn : ¬ a < 0 := of_decide_eq_false hn
     obtain ⟨hc0, q, rfl, hq, hf2⟩ : 0 ≤ (comF (fun j => decide (0 < o.sc.getD j 0)) (fun j => tls.getD j []) i).1 ∧ ∃ q : Nat, a = (q : Int) ∧ q < i ∧ (comF (fun j => decide (0 < o.sc.getD j 0)) (fun j => tls.getD j []) i).2 = (tls.getD q []) := hp.resolve_left fun e => by omega
     have hcm := com_more (al := (fun j => decide (0 < o.sc.getD j 0))) (ps := (fun j => tls.getD j [])) (decide_eq_true ha) (show ¬ (comF (fun j => decide (0 < o.sc.getD j 0)) (fun j => tls.getD j []) i).1 < 0 by omega)
     rw [hf2] at hcm
     have hcl := com_len (fun j => decide (0 < o.sc.getD j 0)) (fun j => tls.getD j []) i
     rw [hf2] at hcl
     obtain ⟨l2, hl2⟩ : ∃ l2 : Nat, (comF (fun j => decide (0 < o.sc.getD j 0)) (fun j => tls.getD j []) i).1 = (l2 : Int) := ⟨(comF (fun j => decide (0 < o.sc.getD j 0)) (fun j => tls.getD j []) i).1.toNat, by omega⟩
     rw [hl2] at hcl hcm
     rw [Int.toNat_natCast] at hcl hcm
     have hpl := hlen i
     have hpq := hlen q
     refine AW.skip (AW.sg hE rfl (asD rfl (OL.nil (AW.seq (AW.block ?_)))))
     refine AW.whileK (α := Nat) [(1, _), (2, _), (4, _), (5, _), (6, _), (7, _)] [(2, _)] (fun k => [(8, .d (dI k))]) (fun k => []) (fun k => k ≤ min l2 (lcpL (tls.getD i []) (tls.getD q []))) (fun k => min l2 (lcpL (tls.getD i []) (tls.getD q [])) - k) 0 (.cons (knD rfl) (.cons (knP rfl) (.cons (knD rfl) (.cons (knD rfl) (.cons (knD rfl) (.cons (knD rfl) .nil)))))) (.cons (owB rfl) .nil) ⟨Nat.zero_le _, .rq1, .nil⟩ ?_
     intro k h2
     have h2 : k ≤ min l2 (lcpL (tls.getD i []) (tls.getD q [])) := h2
     have hls := lcpL_spec (tls.getD i []) (tls.getD q [])
     have hls1 := hls.1
     refine AW.seq ?_
     refine AW.midK (α := Unit) [(1, _), (2, _), (4, _), (5, _), (6, _), (7, _), (8, _)] [(2, _)] (fun _u => [(55, .d (dB (decide (k < min l2 (lcpL (tls.getD i []) (tls.getD q []))))))]) (fun _u => []) (fun _u => True) (.cons (knD rfl) (.cons (knP rfl) (.cons (knD rfl) (.cons (knD rfl) (.cons (knD rfl) (.cons (knD rfl) (.cons (knD rfl) .nil))))))) (.cons (owB rfl) .nil) ?_ ?_
     ·refine AW.dg 1 [0,1,2,3,4,5,6,7,8,9,10,11,12,13,14,15,16,17,18,19,20,21,22,23,24,25,26,27,28] order_free hE rfl (by kernel_rfl) (OI.of_OL (os := [_,_,_,_,_,_,_,_,_,_,_,_,_,_,_,_,_,_,_,_,_,_,_,_,_,_,_,_,_]) rfl ?_)
      refine mvD rfl (mvD rfl (c_lss rfl rfl rfl (mvD rfl (OL.split 30 rfl (fun g1 => ?_) (fun g1 => ?_)))))
      ·have g1 : k < l2 := by have g5 : (k : Int) < (comF (fun j => decide (0 < o.sc.getD j 0)) (fun j => tls.getD j []) i).1 := of_decide_eq_true g1; omega
       refine OL.yes rfl (mvD rfl (OL.yes rfl (mvD rfl (OL.yes rfl (mvD rfl (OL.yes rfl (ixLn sl.intss [] rfl rfl (by omega) rfl rfl ?_)))))))
       refine OL.yes rfl (ldRC ce.ints rfl (OL.yes rfl (lnL sl.ints rfl rfl (OL.yes rfl (c_lss rfl rfl rfl (pkT rfl rfl (mvD rfl ?_)))))))
       refine OL.split 39 rfl (fun g2 => ?_) (fun g2 => ?_)
       ·have g2 : k < (tls.getD i []).length := by have := of_decide_eq_true g2; omega
        have hnx := lcp_next g2 (show k < (tls.getD q []).length by omega) (by omega)
        refine OL.yes rfl (mvD rfl (OL.yes rfl (mvD rfl (OL.yes rfl (ixLn sl.intss [] rfl rfl (by omega) rfl rfl (OL.yes rfl (ldRC ce.ints rfl ?_)))))))
        refine OL.yes rfl (mvD rfl (OL.yes rfl (ixLn sl.ints 0 rfl rfl (by omega) rfl rfl (OL.yes rfl (ldRC ce.int rfl (OL.yes rfl (mvD rfl ?_)))))))
        refine OL.yes rfl (mvD rfl (OL.yes rfl (ixLn sl.intss [] rfl rfl (by omega) rfl rfl (OL.yes rfl (ldRC ce.ints rfl (OL.yes rfl (mvD rfl ?_)))))))
        refine OL.yes rfl (ixLn sl.ints 0 rfl rfl (by omega) rfl rfl (OL.yes rfl (ldRC ce.int rfl (OL.yes rfl (c_eql rfl rfl rfl (pkT rfl rfl (OL.nil ?_)))))))
        exact AW.reach () ⟨trivial, Knows.app .rq7 (.cons (VLe.bool (decide_eq_decide.2 ⟨fun e => by have := hnx.1 e; omega, fun e => hnx.2 (by omega)⟩)) .nil), Owns.app (.cons rfl .nil) (.nil)⟩
       ·have g2 : ¬ k < (tls.getD i []).length := by have := of_decide_eq_false g2; omega
        refine OL.nd rfl (OL.nd rfl (OL.nd rfl (OL.nd rfl (OL.nd rfl (OL.nd rfl (OL.nd rfl (OL.nd rfl ?_)))))))
        refine OL.nd rfl (OL.nd rfl (OL.nd rfl (OL.nd rfl (OL.nd rfl (OL.nd rfl (OL.nd rfl (pkF rfl rfl ?_)))))))
        refine OL.nil ?_
        exact AW.reach () ⟨trivial, Knows.app .rq7 (.cons (VLe.bool ((decide_eq_false (by omega)).symm)) .nil), Owns.app (.cons rfl .nil) (.nil)⟩
      ·have g1 : ¬ k < l2 := by have g5 : ¬ (k : Int) < (comF (fun j => decide (0 < o.sc.getD j 0)) (fun j => tls.getD j []) i).1 := of_decide_eq_false g1; omega
       refine OL.nd rfl (OL.nd rfl (OL.nd rfl (OL.nd rfl (OL.nd rfl (OL.nd rfl (OL.nd rfl (pkF rfl rfl ?_)))))))
       refine mvD rfl (OL.nd rfl (OL.nd rfl (OL.nd rfl (OL.nd rfl (OL.nd rfl (OL.nd rfl (OL.nd rfl ?_)))))))
       refine OL.nd rfl (OL.nd rfl (OL.nd rfl (OL.nd rfl (OL.nd rfl (OL.nd rfl (OL.nd rfl (OL.nd rfl ?_)))))))
       refine pkF rfl rfl (OL.nil ?_)
       exact AW.reach () ⟨trivial, Knows.app .rq7 (.cons (VLe.bool ((decide_eq_false (by omega)).symm)) .nil), Owns.app (.cons rfl .nil) (.nil)⟩
     rintro ⟨⟩ hφ
     refine AW.cond rfl (fun gk => ?_) (fun gk => ?_)
     ·have gk := of_decide_eq_true gk
      exact AW.skip (AW.block (AW.rg hE rfl (mvD rfl (add_i64 rfl rfl (by omega) (asD rfl (OL.nil (AW.again (x := k) (k + 1) (by omega) ⟨by omega, Knows.app .rq6 .rq1, Owns.app (.cons rfl .nil) (.nil)⟩)))))))
     ·have gk := of_decide_eq_false gk
      refine AW.exit ?_
      have hk : k = min l2 (lcpL (tls.getD i []) (tls.getD q [])) := by omega
      refine AW.rg hE rfl (mvD rfl (asD rfl (OL.nil ?_)))
      exact AW.reach (q : Int) ⟨by rw [hcm]; exact .inr ⟨by simp only []; omega, q, rfl, Nat.lt_succ_of_lt hq, rfl⟩, Knows.app .rq4 (.cons (VLe.int (by rw [hcm, hk])) .rq1), Owns.app (.cons rfl .nil) (.nil)⟩
  rintro a2 hφ
  exact AW.rg hE rfl (mvD rfl (add_i64 rfl rfl (by omega) (asD rfl (OL.nil (AW.again (x := (i, a)) (i + 1, a2) (by (simp only []; omega)) ⟨⟨by omega, hφ⟩, Knows.app .rq3 .rq3, Owns.app (.cons rfl .nil) (.nil)⟩)))))
 ·try simp only [dx9] at h12
  refine AW.exit (AW.seq ?_)
  obtain rfl : i = n := by omega
  exact AW.rg hE rfl (mvD rfl (asD rfl (OL.nil (AW.ret (RetQ.r ⟨_, .tmp rfl .nil, .le (VLe.refl _)⟩)))))
theorem ref37_goodG {l : List Int} {n : Int} (nl : l.length ≤ 1099511627776) : FSpec P F.ref37_good [.d (ints l), .d (dI n)] (.d (dB (goodB n l))) := by
 refine FSpec.intro fn.ref37_good (by rfl) (by rfl) (nb9 (by rfl)) fun E hE => (AW.sg hE rfl (asD rfl (OL.nil (AW.seq (AW.sg hE rfl (asD rfl (OL.nil ?_)))))))
 refine AW.block ?_
 refine AW.whileK (α := Nat) [(0, _), (1, _)] [] (fun i => [(5, .d (dI i))]) (fun i => []) (fun i => i ≤ l.length ∧ ∀ j, j < i → 0 ≤ l.getD j 0 ∧ l.getD j 0 < n) (fun i => l.length - i) 0 (.cons (knD rfl) (.cons (knD rfl) .nil)) .nil ⟨⟨Nat.zero_le _, fun j hj => absurd hj (Nat.not_lt_zero j)⟩, .rq1, .nil⟩ ?_
 rintro i ⟨h1, h2⟩
 refine AW.seq (AW.sg hE rfl (mvD rfl (mvD rfl (lnL sl.ints rfl rfl (c_lss rfl rfl rfl (OL.nil (AW.cond rfl (fun h9 => ?_) (fun h9 => ?_))))))))
 ·try simp only [dx9] at h9
  refine AW.skip (AW.seq (AW.block (AW.sg hE rfl (mvD rfl (mvD rfl (ixLn sl.ints 0 rfl rfl (by omega) rfl rfl (ldRC ce.int rfl ?_)))))))
  refine c_lss rfl rfl rfl (mvD rfl (OL.split 17 rfl (fun g1 => ?_) (fun g1 => ?_)))
  ·have g1 : l.getD i 0 < 0 := of_decide_eq_true g1
   refine OL.nd rfl (OL.nd rfl (OL.nd rfl (OL.nd rfl (OL.nd rfl (OL.nd rfl (pkT rfl rfl (OL.nil ?_)))))))
   refine AW.cond rfl (fun _ => ?_) (fun hno => absurd hno (by decide))
   exact AW.sg hE rfl (asD rfl (OL.nil (AW.ret (RetQ.r ⟨_, .tmp rfl .nil, .le (VLe.bool ((good_f (i := i) (by omega) (by omega)).symm))⟩))))
  ·have g1 : ¬ l.getD i 0 < 0 := of_decide_eq_false g1
   refine OL.yes rfl (mvD rfl (OL.yes rfl (mvD rfl (OL.yes rfl (ixLn sl.ints 0 rfl rfl (by omega) rfl rfl (OL.yes rfl (ldRC ce.int rfl ?_)))))))
   refine OL.yes rfl (mvD rfl (OL.yes rfl (c_geq rfl rfl rfl (pkF rfl rfl (OL.nil (AW.cond rfl (fun g2 => ?_) (fun g2 => ?_)))))))
   ·have g2 : n ≤ l.getD i 0 := of_decide_eq_true g2
    exact AW.sg hE rfl (asD rfl (OL.nil (AW.ret (RetQ.r ⟨_, .tmp rfl .nil, .le (VLe.bool ((good_f (i := i) (by omega) (by omega)).symm))⟩))))
   ·have g2 : ¬ n ≤ l.getD i 0 := of_decide_eq_false g2
    exact AW.skip (AW.rg hE rfl (mvD rfl (add_i64 rfl rfl (by omega) (asD rfl (OL.nil (AW.again (x := i) (i + 1) (by omega) ⟨⟨by omega, fun j hj => by rcases Nat.lt_or_ge j i with h | h; exact h2 j h; obtain rfl : j = i := (by omega); omega⟩, Knows.app .rq2 .rq1, .nil⟩))))))
 ·try simp only [dx9] at h9
  exact AW.exit (AW.sg hE rfl (asD rfl (OL.nil (AW.ret (RetQ.r ⟨_, .tmp rfl .nil, .le (VLe.bool ((good_t fun x hx => by obtain ⟨j, hj, rfl⟩ := mem_ix 0 hx; exact h2 j (by omega)).symm))⟩)))))
theorem ref37_liveR {r : RDec} (zd : r.Sz) {i : Nat} (hi : i < r.sc.length) : FSpec P F.ref37_live [vOR r, .d (dI i)] (.d (dB (decide (0 < (r.sc.getD i raw0).q)))) := by
 have m := zd.sc _ (getD_mem hi raw0)
 refine FSpec.intro fn.ref37_live (by rfl) (by rfl) (nb9 (by rfl)) fun E hE => (AW.sg hE rfl (bxA rfl rfl fun b2 => (asD rfl (OL.nil (AW.sg hE rfl (faP fd.Online_2 rfl rfl (ldPC ce.Rats rfl rfl rfl ?_)))))))
 exact mvD rfl (ixLn sl.Rats raw0 rfl rfl hi rfl rfl (ldRA ag.Rat rfl (vs := [_,_,_]) rfl (nb9 rfl) (clv rfl (.cons (VLe.refl _) (.nil)) (ref_Sign m.ok) (c_gtr rfl rfl rfl (asD rfl (OL.nil (AW.ret (RetQ.r ⟨_, .tmp rfl .nil, .le (VLe.bool (decide_eq_decide.2 sgn_gt))⟩))))))))
theorem ref33_ChanceV {q : Rat} (hs : Share q) (hz : sz q ≤ 68719476736) : FSpec P F.ref33_Chance [vQ q] (.d (dB true)) := by
 have h1K := z1K
 refine FSpec.intro fn.ref33_Chance (by rfl) (by rfl) (nb9 (by rfl)) fun E hE => (AW.sg hE rfl (bxA rfl rfl fun b1 => (asD rfl (OL.nil (AW.seq (AW.dg 1 [0,1,2,3,4,5,6,7,8,9,10,11,12,13] order_free hE rfl (by kernel_rfl) (OI.of_OL (os := [_,_,_,_,_,_,_,_,_,_,_,_,_,_]) rfl ?_)))))))
 refine ldPA ag.Rat rfl rfl (vs := [_,_,_]) rfl (nb9 rfl) (clv rfl (.cons (VLe.refl _) (.nil)) (ref_ValidO (x := q) (by omega)) (mvD rfl (OL.yes rfl (ldPA ag.Rat rfl rfl (vs := [_,_,_]) rfl (nb9 rfl) (OL.yes rfl (clv rfl (.cons (VLe.refl _) (.nil)) (ref_SignQ (x := q) (by omega)) (OL.yes rfl ?_)))))))
 refine c_geq rfl rfl (c := true) (decide_eq_true (sgnQ_nonneg.2 hs.1)) (pkT rfl rfl (mvD rfl (OL.yes rfl (ldPA ag.Rat rfl rfl (vs := [_,_,_]) rfl (nb9 rfl) (OL.yes rfl (clv rfl (.cons (VLe.refl _) (.nil)) (ref33_Whole1) (OL.yes rfl ?_)))))))
 exact clv rfl (.cons (VLe.refl _) (.cons (VLe.refl _) (.nil))) (ref_CompareQ (x := q) (y := 1) (by omega) (by omega)) (OL.yes rfl (c_leq rfl rfl (c := true) (decide_eq_true (cmpQ_le.2 hs.2)) (pkT rfl rfl (asD rfl (OL.nil (AW.ret (RetQ.r ⟨_, .tmp rfl .nil, .le (VLe.refl _)⟩)))))))
set_option maxRecDepth 4000 in
set_option maxHeartbeats 3200000 in
theorem ref37_ValidR {r : RDec} (zd : r.Sz) : FSpec P F.ref37_Valid [vOR r] (.d (dB (vrB r))) := by
 refine FSpec.intro fn.ref37_Valid (by rfl) (by rfl) (nb9 (by rfl)) fun E hE => (AW.sg hE rfl (bxA rfl rfl fun b1 => (asD rfl (OL.nil (AW.seq (AW.midK (α := Bool) [(1, _), (2, _)] [(1, _)] (fun x => [(20, .d (dB x))]) (fun x => []) (fun x => (x = true → ¬ VR r) ∧ (x = false → chkP r.m = 0 ∧ 0 ≤ r.t ∧ r.t ≤ 256)) (.cons (knP rfl) (.cons (knD rfl) .nil)) (.cons (owB rfl) .nil) ?_ ?_))))))
 ·refine AW.rg hE rfl (faP fd.Online_0 rfl rfl (ldPA ag.Hidden rfl rfl (vs := [_,_,_,_,_,_,_,_,_,_,_]) rfl (nb9 rfl) (clv rfl (.cons (VLe.refl _) (.nil)) (ref33_PlainR zd.m) (nt rfl (mvD rfl (OL.split 11 rfl (fun a0 => ?_) (fun a0 => ?_)))))))
  ·have a0 : ¬ chkP r.m = 0 := by simpa using a0
   refine OL.nd rfl (OL.nd rfl (OL.nd rfl (pkT rfl rfl (mvD rfl (OL.nd rfl (OL.nd rfl (OL.nd rfl ?_)))))))
   exact pkT rfl rfl (OL.nil (AW.reach true ⟨⟨fun _ v => a0 v.p, fun e => (by cases e)⟩, Knows.app .rq2 .rq1, Owns.app (.cons rfl .nil) (.nil)⟩))
  ·have cp : chkP r.m = 0 := by simpa using a0
   refine OL.yes rfl (faP fd.Online_1 rfl rfl (OL.yes rfl (ldPC ce.int rfl rfl rfl (OL.yes rfl (c_lss rfl rfl rfl (pkF rfl rfl (mvD rfl ?_)))))))
   refine OL.split 16 rfl (fun a1 => ?_) (fun a1 => ?_)
   ·have a1 : r.t < 0 := of_decide_eq_true a1
    exact OL.nd rfl (OL.nd rfl (OL.nd rfl (pkT rfl rfl (OL.nil (AW.reach true ⟨⟨fun _ v => (by have := v.t0; omega), fun e => (by cases e)⟩, Knows.app .rq2 .rq1, Owns.app (.cons rfl .nil) (.nil)⟩)))))
   ·have a1 : ¬ r.t < 0 := of_decide_eq_false a1
    refine OL.yes rfl (faP fd.Online_1 rfl rfl (OL.yes rfl (ldPC ce.int rfl rfl rfl (OL.yes rfl (c_gtr rfl rfl rfl (pkF rfl rfl (OL.nil ?_)))))))
    exact AW.reach (decide ((256 : Int) < r.t)) ⟨⟨fun e v => (by have := of_decide_eq_true e; have := v.time; omega), fun e => ⟨cp, by omega, by have := of_decide_eq_false e; omega⟩⟩, Knows.app .rq2 .rq1, Owns.app (.cons rfl .nil) (.nil)⟩
 rintro x ⟨hx1, hx2⟩
 refine AW.cond rfl (fun c19 => ?_) (fun c19 => ?_)
 ·have nv := hx1 c19
  exact AW.sg hE rfl (asD rfl (OL.nil (AW.ret (RetQ.r ⟨_, .tmp rfl .nil, .le (VLe.bool (vrB_f nv))⟩))))
 ·obtain ⟨cp, t0, t1⟩ := hx2 c19
  obtain ⟨gg, hv⟩ := chkP_good zd.m cp
  have f := gg.form
  have n1 := f.st1
  have hst := chkP_stI cp
  have zls := zd.ls
  have zlt := zd.lt
  have zld := zd.ld
  refine AW.skip (AW.seq (AW.sg hE rfl (faP fd.Online_1 rfl rfl (ldPC ce.int rfl rfl rfl (c_eql rfl rfl rfl (OL.nil (AW.cond rfl (fun h0 => ?_) (fun h0 => ?_))))))))
  ·have h0 : r.t = 0 := of_decide_eq_true h0
   refine AW.sg hE rfl (faP fd.Online_2 rfl rfl (ldPC ce.Rats rfl rfl rfl (lnL sl.Rats rfl rfl (c_eql rfl rfl rfl (mvD rfl (OL.split 28 rfl (fun b1 => ?_) (fun b1 => ?_)))))))
   ·have b1 : r.sc = [] := List.eq_nil_of_length_eq_zero (by have := of_decide_eq_true b1; omega)
    refine OL.yes rfl (faP fd.Online_3 rfl rfl (OL.yes rfl (ldPC ce.intss rfl rfl rfl (OL.yes rfl (lnL sl.intss rfl rfl (OL.yes rfl (c_eql rfl rfl rfl ?_)))))))
    refine pkT rfl rfl (mvD rfl (OL.split 34 rfl (fun b2 => ?_) (fun b2 => ?_)))
    ·have b2 : r.tl = [] := List.eq_nil_of_length_eq_zero (by have := of_decide_eq_true b2; omega)
     refine OL.yes rfl (faP fd.Online_4 rfl rfl (OL.yes rfl (ldPC ce.ints rfl rfl rfl (OL.yes rfl (lnL sl.ints rfl rfl (OL.yes rfl (c_eql rfl rfl rfl ?_)))))))
     exact pkT rfl rfl (asD rfl (OL.nil (AW.ret (RetQ.r ⟨_, .tmp rfl .nil, .le (VLe.bool (vr0 cp h0 b1 b2))⟩))))
    ·have b2 : r.tl ≠ [] := fun e => by rw [e] at b2; exact of_decide_eq_false b2 rfl
     exact OL.nd rfl (OL.nd rfl (OL.nd rfl (OL.nd rfl (pkF rfl rfl (asD rfl (OL.nil (AW.ret (RetQ.r ⟨_, .tmp rfl .nil, .le (VLe.bool (vrB_f fun v => b2 (v.zeros h0).2.1))⟩))))))))
   ·have b1 : r.sc ≠ [] := fun e => by rw [e] at b1; exact of_decide_eq_false b1 rfl
    refine OL.nd rfl (OL.nd rfl (OL.nd rfl (OL.nd rfl (pkF rfl rfl (mvD rfl (OL.nd rfl (OL.nd rfl ?_)))))))
    exact OL.nd rfl (OL.nd rfl (pkF rfl rfl (asD rfl (OL.nil (AW.ret (RetQ.r ⟨_, .tmp rfl .nil, .le (VLe.bool (vrB_f fun v => b1 (v.zeros h0).1))⟩))))))
  ·have h0 : ¬ r.t = 0 := of_decide_eq_false h0
   refine AW.skip (AW.sg hE rfl (faP fd.Online_0 rfl rfl (faP fd.Hidden_1 rfl rfl (ldPC ce.int rfl rfl rfl (asD rfl (OL.nil (AW.seq ?_)))))))
   refine AW.sg hE rfl (faP fd.Online_2 rfl rfl (ldPC ce.Rats rfl rfl rfl (lnL sl.Rats rfl rfl (mvD rfl (c_neq rfl rfl rfl (mvD rfl (OL.split 48 rfl (fun b3 => ?_) (fun b3 => ?_))))))))
   ·have b3 : ¬ (r.sc.length : Int) = r.m.st := by simpa using b3
    refine OL.nd rfl (OL.nd rfl (OL.nd rfl (OL.nd rfl (OL.nd rfl (pkT rfl rfl (mvD rfl (OL.nd rfl ?_)))))))
    refine OL.nd rfl (OL.nd rfl (OL.nd rfl (OL.nd rfl (pkT rfl rfl (OL.nil (AW.cond rfl (fun _ => ?_) (fun hno => absurd hno (by decide))))))))
    exact AW.sg hE rfl (asD rfl (OL.nil (AW.ret (RetQ.r ⟨_, .tmp rfl .nil, .le (VLe.bool (vrB_f fun v => b3 (v.lens h0).1))⟩))))
   ·have b3 : (r.sc.length : Int) = r.m.st := by simpa using b3
    refine OL.yes rfl (faP fd.Online_3 rfl rfl (OL.yes rfl (ldPC ce.intss rfl rfl rfl (OL.yes rfl (lnL sl.intss rfl rfl (OL.yes rfl (mvD rfl ?_)))))))
    refine OL.yes rfl (c_neq rfl rfl rfl (pkF rfl rfl (mvD rfl (OL.split 55 rfl (fun b4 => ?_) (fun b4 => ?_)))))
    ·have b4 : ¬ (r.tl.length : Int) = r.m.st := by simpa using b4
     refine OL.nd rfl (OL.nd rfl (OL.nd rfl (OL.nd rfl (OL.nd rfl (pkT rfl rfl (OL.nil (AW.cond rfl (fun _ => ?_) (fun hno => absurd hno (by decide)))))))))
     exact AW.sg hE rfl (asD rfl (OL.nil (AW.ret (RetQ.r ⟨_, .tmp rfl .nil, .le (VLe.bool (vrB_f fun v => b4 (v.lens h0).2))⟩))))
    ·have b4 : (r.tl.length : Int) = r.m.st := by simpa using b4
     have hn : r.sc.length = (hm r.m).st := by omega
     refine OL.yes rfl (faP fd.Online_4 rfl rfl (OL.yes rfl (ldPC ce.ints rfl rfl rfl (OL.yes rfl (mvD rfl (OL.yes rfl (clv rfl (.cons (VLe.refl _) (.cons (VLe.refl _) (.nil))) (ref37_goodG (by omega)) ?_)))))))
     refine OL.yes rfl (nt rfl (pkF rfl rfl (OL.nil (AW.cond rfl (fun b5 => ?_) (fun b5 => ?_)))))
     ·have b5 : goodB r.m.st r.dn = false := by simpa using b5
      exact AW.sg hE rfl (asD rfl (OL.nil (AW.ret (RetQ.r ⟨_, .tmp rfl .nil, .le (VLe.bool (vrB_f fun v => (by rw [vr_goodD v h0] at b5; cases b5)))⟩))))
     ·have b5 : goodB r.m.st r.dn = true := by simpa using b5
      refine AW.skip (AW.sg hE rfl (asD rfl (OL.nil (AW.seq (AW.sg hE rfl (asD rfl (OL.nil ?_)))))))
      refine AW.block ?_
      refine AW.whileK (α := Nat) [(1, _), (3, _)] [(1, _)] (fun i => [(4, .d (dB (liveB (decR r) i))), (5, .d (dI i))]) (fun i => []) (fun i => i ≤ r.sc.length ∧ SeenV r i) (fun i => r.sc.length - i) 0 (.cons (knP rfl) (.cons (knD rfl) .nil)) (.cons (owB rfl) .nil) ⟨⟨Nat.zero_le _, .zero⟩, .rq2, .nil⟩ ?_
      rintro i ⟨h1, hsn⟩
      have h1 : i ≤ r.sc.length := h1
      refine AW.seq (AW.sg hE rfl (mvD rfl (mvD rfl (c_lss rfl rfl rfl (OL.nil (AW.cond rfl (fun h64 => ?_) (fun h64 => ?_)))))))
      ·try simp only [dx9] at h64
       refine AW.skip (AW.midK (α := Unit) [(1, _), (3, _), (5, _)] [(1, _)] (fun _u => [(4, .d (dB (liveB (decR r) (i + 1))))]) (fun _u => []) (fun _u => SeenV r (i + 1)) (.cons (knP rfl) (.cons (knD rfl) (.cons (knD rfl) .nil))) (.cons (owB rfl) .nil) ?_ ?_)
       ·refine AW.block (AW.seq (AW.seq ?_))
        have hi : i < r.sc.length := by omega
        have zti := zd.tl i
        refine AW.rg hE rfl (faP fd.Online_2 rfl rfl (ldPC ce.Rats rfl rfl rfl (mvD rfl (ixLn sl.Rats raw0 rfl rfl hi rfl rfl (ldRA ag.Rat rfl (vs := [_,_,_]) rfl (nb9 rfl) (clv rfl (.cons (VLe.refl _) (.nil)) (ref33_ChanceR (zd.sc _ (getD_mem hi raw0))) (nt rfl ?_)))))))
        refine mvD rfl (OL.split 74 rfl (fun b6 => ?_) (fun b6 => ?_))
        ·have b6 : shareR (r.sc.getD i raw0) = false := by simpa using b6
         refine OL.nd rfl (OL.nd rfl (OL.nd rfl (OL.nd rfl (OL.nd rfl (OL.nd rfl (OL.nd rfl (OL.nd rfl ?_)))))))
         refine pkT rfl rfl (OL.nil (AW.cond rfl (fun _ => ?_) (fun hno => absurd hno (by decide))))
         exact AW.sg hE rfl (asD rfl (OL.nil (AW.ret (RetQ.r ⟨_, .tmp rfl .nil, .le (VLe.bool (vrB_f fun v => (by have := v.s _ (getD_mem hi raw0); rw [b6] at this; cases this)))⟩))))
        ·have b6 : shareR (r.sc.getD i raw0) = true := by simpa using b6
         refine OL.yes rfl (faP fd.Online_3 rfl rfl (OL.yes rfl (ldPC ce.intss rfl rfl rfl (OL.yes rfl (mvD rfl (OL.yes rfl (ixLn sl.intss [] rfl rfl (by omega) rfl rfl ?_)))))))
         refine OL.yes rfl (ldRC ce.ints rfl (OL.yes rfl (mvD rfl (OL.yes rfl (clv rfl (.cons (VLe.refl _) (.cons (VLe.refl _) (.nil))) (ref37_goodG (by omega)) (OL.yes rfl (nt rfl ?_)))))))
         refine pkF rfl rfl (OL.nil (AW.cond rfl (fun b7 => ?_) (fun b7 => ?_)))
         ·have b7 : goodB r.m.st (r.tl.getD i []) = false := by simpa using b7
          exact AW.sg hE rfl (asD rfl (OL.nil (AW.ret (RetQ.r ⟨_, .tmp rfl .nil, .le (VLe.bool (vrB_f fun v => (by rw [vr_goodT v h0 hi] at b7; cases b7)))⟩))))
         ·have b7 : goodB r.m.st (r.tl.getD i []) = true := by simpa using b7
          refine AW.skip (AW.seq (AW.sg hE rfl (ldPA ag.Online rfl rfl (vs := [_,_,_,_,_,_,_,_,_,_,_,_,_,_,_]) rfl (nb9 rfl) (mvD rfl (clv rfl (.cons (VLe.refl _) (.cons (VLe.refl _) (.nil))) (ref37_liveR zd hi) (nt rfl (OL.nil ?_)))))))
          refine AW.cond rfl (fun ha => ?_) (fun ha => ?_)
          ·have ha : ¬ 0 < (r.sc.getD i raw0).q := by simpa using ha
           refine AW.seq (AW.sg hE rfl (faP fd.Online_3 rfl rfl (ldPC ce.intss rfl rfl rfl (mvD rfl (ixLn sl.intss [] rfl rfl (by omega) rfl rfl (ldRC ce.ints rfl (lnL sl.ints rfl rfl ?_)))))))
           refine c_gtr rfl rfl rfl (OL.nil (AW.cond rfl (fun b8 => ?_) (fun b8 => ?_)))
           ·have b8 : ¬ r.tl.getD i [] = [] := fun e => by rw [e] at b8; exact absurd (of_decide_eq_true b8) (by decide)
            exact AW.sg hE rfl (asD rfl (OL.nil (AW.ret (RetQ.r ⟨_, .tmp rfl .nil, .le (VLe.bool (vrB_f fun v => b8 (v.deadP i ha)))⟩))))
           ·have b8 : r.tl.getD i [] = [] := List.eq_nil_of_length_eq_zero (by have := of_decide_eq_false b8; omega)
            have hsn2 := hsn.gone b6 ha b8
            exact AW.skip (AW.exit (AW.reach () ⟨hsn2, Knows.app .rq3 (.cons (VLe.bool (by rw [liveB, if_neg (by rw [decR_sc]; exact ha)])) .nil), Owns.app (.cons rfl .nil) (.nil)⟩))
          ·have ha : 0 < (r.sc.getD i raw0).q := by simpa using ha
           refine AW.skip (AW.sg hE rfl (asD rfl (OL.nil (AW.seq ?_))))
           have hwl : (r.dn ++ r.tl.getD i []).length = r.dn.length + (r.tl.getD i []).length := List.length_append
           refine AW.dg 2 [0,1,2,4,5,6,7,8,3,9,10] order_free hE rfl (by kernel_rfl) (OI.of_OL (os := [_,_,_,_,_,_,_,_,_,_,_]) rfl ?_)
           refine lt0 sl.ints (faP fd.Online_4 rfl rfl (ldPC ce.ints rfl rfl rfl (faP fd.Online_3 rfl rfl (ldPC ce.intss rfl rfl rfl (mvD rfl (ixLn sl.intss [] rfl rfl (by omega) rfl rfl (ldRC ce.ints rfl ?_)))))))
           refine apM sl.ints rfl rfl (VC.d _) dI_len (by rw [List.length_map]; omega) (by rw [List.length_map]; omega) rfl fun b98 c98 => (apOD sl.ints rfl rfl rfl rfl (VC.d _) dI_len (by simp only [List.length_map]; omega) (by simp only [List.length_map]; omega) (.inl rfl) (ys := (r.dn ++ r.tl.getD i []).map dI) (by rw [List.map_append]) (asD rfl (OL.nil (AW.sg hE rfl (mvD rfl (lnL sl.ints rfl rfl (faP fd.Online_1 rfl rfl ?_)))))))
           refine ldPC ce.int rfl rfl rfl (c_neq rfl rfl rfl (mvD rfl (OL.split 110 rfl (fun b9 => ?_) (fun b9 => ?_))))
           ·have b9 : ¬ ((r.dn ++ r.tl.getD i []).length : Int) = r.t := by simpa using b9
            refine OL.nd rfl (OL.nd rfl (OL.nd rfl (OL.nd rfl (OL.nd rfl (OL.nd rfl (OL.nd rfl (OL.nd rfl ?_)))))))
            refine pkT rfl rfl (OL.nil (AW.cond rfl (fun _ => ?_) (fun hno => absurd hno (by decide))))
            exact AW.sg hE rfl (asD rfl (OL.nil (AW.ret (RetQ.r ⟨_, .tmp rfl .nil, .le (VLe.bool (vrB_f fun v => b9 (v.fitP h0 i hi ha).1))⟩))))
           ·have b9 : ((r.dn ++ r.tl.getD i []).length : Int) = r.t := by simpa using b9
            refine OL.yes rfl (mvD rfl (OL.yes rfl (mvD rfl (OL.yes rfl (lnL sl.ints rfl rfl (OL.yes rfl (bo rfl rfl (bin_sub (c := (((r.dn ++ r.tl.getD i []).length - 1 : Nat) : Int)) (by omega) (wrap_i64 (by omega))) ?_)))))))
            refine OL.yes rfl (ixLn sl.ints 0 rfl rfl (by omega) rfl rfl (OL.yes rfl (ldRC ce.int rfl (OL.yes rfl (mvD rfl (OL.yes rfl (c_neq rfl rfl rfl ?_)))))))
            refine pkF rfl rfl (OL.nil (AW.cond rfl (fun b10 => ?_) (fun b10 => ?_)))
            ·have b10 : ¬ (r.dn ++ r.tl.getD i []).getD ((r.dn ++ r.tl.getD i []).length - 1) 0 = i := by simpa using b10
             exact AW.sg hE rfl (asD rfl (OL.nil (AW.ret (RetQ.r ⟨_, .tmp rfl .nil, .le (VLe.bool (vrB_f fun v => b10 (v.fitP h0 i hi ha).2.1))⟩))))
            ·have b10 : (r.dn ++ r.tl.getD i []).getD ((r.dn ++ r.tl.getD i []).length - 1) 0 = i := by simpa using b10
             have hsn2 := hsn.live b6 ha ⟨b9, b10, fun x hx => (List.mem_append.1 hx).elim (good_of b5 x) (good_of b7 x)⟩
             exact AW.skip (AW.reach () ⟨hsn2, Knows.app .rq3 (.cons (VLe.bool (by rw [liveB, if_pos (by rw [decR_sc]; exact ha)])) .nil), Owns.app (.cons rfl .nil) (.nil)⟩)
       rintro ⟨⟩ hsn2
       exact AW.rg hE rfl (mvD rfl (add_i64 rfl rfl (by omega) (asD rfl (OL.nil (AW.again (x := i) (i + 1) (by omega) ⟨⟨by omega, hsn2⟩, Knows.app .rq2 .rq2, Owns.app (.cons rfl .nil) (.nil)⟩)))))
      ·try simp only [dx9] at h64
       refine AW.exit (AW.seq ?_)
       obtain rfl : i = r.sc.length := by omega
       have sh := hsn.shares
       refine AW.boxW 1 (cellsOn (hm r.m) (decR r)) rfl (vles_of_eq (cellsOR_eq zd cp t0 sh)) ?_
       have hz : Small 1048576 (decR r).sc := MedL.small zd.sc
       have l1 : (decR r).sc.length = (hm r.m).st := by show (r.sc.map Raw.q).length = _; rw [List.length_map]; exact hn
       have l2 : (decR r).tl.length = (hm r.m).st := by show r.tl.length = _; omega
       refine AW.rg hE rfl (mvD rfl (mvD rfl (OL.split 121 rfl (fun b11 => ?_) (fun b11 => ?_))))
       ·have b11 : liveB (decR r) r.sc.length = true := b11
        rw [hn] at b11
        obtain ⟨j8, hj8, hp8⟩ := liveB_ex b11
        refine OL.yes rfl (ldPA ag.Online rfl rfl (vs := [_,_,_,_,_,_,_,_,_,_,_,_,_,_,_]) rfl (nb9 rfl) (OL.yes rfl (faP fd.Online_3 rfl rfl (OL.yes rfl (ldPC ce.intss rfl rfl rfl (OL.yes rfl (clv rfl (.cons (VLe.refl _) (.cons (VLe.refl _) (.nil))) (ref37_common (n := (hm r.m).st) hz (by decide) l1 l2 (by omega) (fun j => Nat.le_trans (zd.tl j) (by decide))) ?_)))))))
        exact OL.yes rfl (c_eql rfl rfl rfl (pkT rfl rfl (asD rfl (OL.nil (AW.ret (RetQ.r ⟨_, .tmp rfl .nil, .le (VLe.bool (vrC2 cp t0 h0 t1 b3 b4 hn hsn ⟨j8, hj8, hp8⟩))⟩))))))
       ·have b11 : liveB (decR r) r.sc.length = false := b11
        rw [hn] at b11
        refine OL.nd rfl (OL.nd rfl (OL.nd rfl (OL.nd rfl (OL.nd rfl (pkF rfl rfl (asD rfl (OL.nil ?_)))))))
        exact AW.ret (RetQ.r ⟨_, .tmp rfl .nil, .le (VLe.bool (vrB_f fun v => (by obtain ⟨j, hj, hp⟩ := v.c.some (show (decR r).t ≠ 0 by show r.t.toNat ≠ 0; omega); exact liveB_f b11 j hj hp)))⟩)
set_option maxRecDepth 4000 in
set_option maxHeartbeats 1600000 in
theorem ref37_ValidV {h : HM} {K : Nat} {o : Dec} (g : h.GoodW 1048576) (hp : FSpec P F.ref33_Plain [vHM h] (.d (dB true))) (k : ValD K h o) : FSpec P F.ref37_Valid [vOn h o] (.d (dB true)) := by
 have f := g.form
 have n1 := f.st1
 have kle := k.le
 have hz := k.small
 have hC : 1 ≤ K ∧ K ≤ 68719476736 := by have := k.K1; omega
 have htl := tails_lenV k
 have hdl := done_lenV k
 refine FSpec.intro fn.ref37_Valid (by rfl) (by rfl) (nb9 (by rfl)) fun E hE => (AW.sg hE rfl (bxA rfl rfl fun b1 => (asD rfl (OL.nil (AW.seq (AW.sg hE rfl (faP fd.Online_0 rfl rfl ?_)))))))
 refine ldPA ag.Hidden rfl rfl (vs := [_,_,_,_,_,_,_,_,_,_,_]) rfl (nb9 rfl) (clv rfl (.cons (VLe.refl _) (.nil)) (hp) (nt rfl (mvD rfl (OL.yes rfl (faP fd.Online_1 rfl rfl (OL.yes rfl (ldPC ce.int rfl rfl rfl ?_)))))))
 refine OL.yes rfl (c_lss rfl rfl (c := false) (by exact decide_eq_false (by omega)) (pkF rfl rfl (mvD rfl (OL.yes rfl (faP fd.Online_1 rfl rfl (OL.yes rfl (ldPC ce.int rfl rfl rfl ?_)))))))
 refine OL.yes rfl (c_gtr rfl rfl (c := false) (by exact decide_eq_false (by omega)) (pkF rfl rfl (OL.nil (AW.cond rfl (fun hno => absurd hno (by decide)) (fun _ => ?_)))))
 refine AW.skip (AW.seq (AW.sg hE rfl (faP fd.Online_1 rfl rfl (ldPC ce.int rfl rfl rfl (c_eql rfl rfl rfl (OL.nil (AW.cond rfl (fun h0 => ?_) (fun h0 => ?_))))))))
 ·have h0 : o.t = 0 := by have := of_decide_eq_true h0; omega
  obtain ⟨e1, e2, e3⟩ := k.zero h0
  refine AW.sg hE rfl (faP fd.Online_2 rfl rfl (ldPC ce.Rats rfl rfl rfl (lnL sl.Rats rfl rfl (c_eql rfl rfl (c := true) (decide_eq_true (by rw [e1]; rfl)) (mvD rfl (OL.yes rfl (faP fd.Online_3 rfl rfl ?_)))))))
  refine OL.yes rfl (ldPC ce.intss rfl rfl rfl (OL.yes rfl (lnL sl.intss rfl rfl (OL.yes rfl (c_eql rfl rfl (c := true) (decide_eq_true (by rw [e2]; rfl)) (pkT rfl rfl (mvD rfl ?_)))))))
  refine OL.yes rfl (faP fd.Online_4 rfl rfl (OL.yes rfl (ldPC ce.ints rfl rfl rfl (OL.yes rfl (lnL sl.ints rfl rfl (OL.yes rfl (c_eql rfl rfl (c := true) (decide_eq_true (by rw [e3]; rfl)) ?_)))))))
  exact pkT rfl rfl (asD rfl (OL.nil (AW.ret (RetQ.r ⟨_, .tmp rfl .nil, .le (VLe.refl _)⟩))))
 ·have h0 : o.t ≠ 0 := fun e => of_decide_eq_false h0 (by omega)
  obtain ⟨l1, l2⟩ := k.len h0
  have hd := k.heads h0
  obtain ⟨j0, hj0, hp0⟩ := k.some h0
  have hall := (pathsF_mem (hd.live j0 hj0 hp0).1).2
  refine AW.skip (AW.sg hE rfl (faP fd.Online_0 rfl rfl (faP fd.Hidden_1 rfl rfl (ldPC ce.int rfl rfl rfl (asD rfl (OL.nil (AW.seq ?_)))))))
  refine AW.sg hE rfl (faP fd.Online_2 rfl rfl (ldPC ce.Rats rfl rfl rfl (lnL sl.Rats rfl rfl (mvD rfl (c_neq rfl rfl (c := false) (by exact cne_f (by omega)) (mvD rfl (OL.yes rfl ?_)))))))
  refine faP fd.Online_3 rfl rfl (OL.yes rfl (ldPC ce.intss rfl rfl rfl (OL.yes rfl (lnL sl.intss rfl rfl (OL.yes rfl (mvD rfl (OL.yes rfl ?_)))))))
  refine c_neq rfl rfl (c := false) (by exact cne_f (by omega)) (pkF rfl rfl (mvD rfl (OL.yes rfl (faP fd.Online_4 rfl rfl (OL.yes rfl (ldPC ce.ints rfl rfl rfl (OL.yes rfl ?_)))))))
  refine mvD rfl (OL.yes rfl (clv rfl (.cons (VLe.refl _) (.cons (VLe.refl _) (.nil))) (ref37_goodG (n := h.st) (by omega)) ?_))
  rw [good_t fun x hx => hall x (List.mem_append.2 (.inl hx))]
  refine OL.yes rfl (nt rfl (pkF rfl rfl (OL.nil (AW.cond rfl (fun hno => absurd hno (by decide)) (fun _ => ?_)))))
  refine AW.skip (AW.sg hE rfl (asD rfl (OL.nil (AW.seq (AW.sg hE rfl (asD rfl (OL.nil ?_)))))))
  refine AW.block ?_
  refine AW.whileK (α := Nat) [(1, _), (3, _)] [(1, _)] (fun i => [(4, .d (dB (liveB o i))), (5, .d (dI i))]) (fun i => []) (fun i => i ≤ h.st) (fun i => h.st - i) 0 (.cons (knP rfl) (.cons (knD rfl) .nil)) (.cons (owB rfl) .nil) ⟨Nat.zero_le _, .rq2, .nil⟩ ?_
  intro i h1
  have h1 : i ≤ h.st := h1
  refine AW.seq (AW.sg hE rfl (mvD rfl (mvD rfl (c_lss rfl rfl rfl (OL.nil (AW.cond rfl (fun h64 => ?_) (fun h64 => ?_)))))))
  ·try simp only [dx9] at h64
   refine AW.skip (AW.midK (α := Unit) [(1, _), (3, _), (5, _)] [(1, _)] (fun _u => [(4, .d (dB (liveB o (i + 1))))]) (fun _u => []) (fun _u => True) (.cons (knP rfl) (.cons (knD rfl) (.cons (knD rfl) .nil))) (.cons (owB rfl) .nil) ?_ ?_)
   ·refine AW.block (AW.seq (AW.seq ?_))
    have hi : i < h.st := by omega
    have zi : sz (o.sc.getD i 0) ≤ K := hz.get hC.1 i
    have htli := htl i
    have hgt : ∀ x, x ∈ o.tl.getD i [] → 0 ≤ x ∧ x < (h.st : Int) := fun x hx => by
     by_cases e : 0 < o.sc.getD i 0
     ·exact (pathsF_mem (hd.live i hi e).1).2 x (List.mem_append.2 (.inr hx))
     ·rw [k.dead i e] at hx; simp at hx
    refine AW.rg hE rfl (faP fd.Online_2 rfl rfl (ldPC ce.Rats rfl rfl rfl (mvD rfl (ixLn sl.Rats 0 rfl rfl (by omega) rfl rfl (ldRA ag.Rat rfl (vs := [_,_,_]) rfl (nb9 rfl) (clv rfl (.cons (VLe.refl _) (.nil)) (ref33_ChanceV (k.share h0 hi) (by omega)) (nt rfl ?_)))))))
    refine mvD rfl (OL.yes rfl (faP fd.Online_3 rfl rfl (OL.yes rfl (ldPC ce.intss rfl rfl rfl (OL.yes rfl (mvD rfl (OL.yes rfl ?_)))))))
    refine ixLn sl.intss [] rfl rfl (by omega) rfl rfl (OL.yes rfl (ldRC ce.ints rfl (OL.yes rfl (mvD rfl (OL.yes rfl (clv rfl (.cons (VLe.refl _) (.cons (VLe.refl _) (.nil))) (ref37_goodG (n := h.st) (by omega)) ?_))))))
    rw [good_t hgt]
    refine OL.yes rfl (nt rfl (pkF rfl rfl (OL.nil (AW.cond rfl (fun hno => absurd hno (by decide)) (fun _ => ?_)))))
    refine AW.skip (AW.seq (AW.sg hE rfl (ldPA ag.Online rfl rfl (vs := [_,_,_,_,_,_,_,_,_,_,_,_,_,_,_]) rfl (nb9 rfl) (mvD rfl (clv rfl (.cons (VLe.refl _) (.cons (VLe.refl _) (.nil))) (ref37_live hz hC (by omega)) (nt rfl (OL.nil ?_)))))))
    refine AW.cond rfl (fun ha => ?_) (fun ha => ?_)
    ·have ha : ¬ 0 < o.sc.getD i 0 := fun e => by rw [decide_eq_true e] at ha; cases ha
     have hdd := k.dead i ha
     refine AW.seq (AW.sg hE rfl (faP fd.Online_3 rfl rfl (ldPC ce.intss rfl rfl rfl (mvD rfl (ixLn sl.intss [] rfl rfl (by omega) rfl rfl (ldRC ce.ints rfl (lnL sl.ints rfl rfl ?_)))))))
     refine c_gtr rfl rfl (c := false) (decide_eq_false (by rw [hdd]; decide)) (OL.nil (AW.cond rfl (fun hno => absurd hno (by decide)) (fun _ => ?_)))
     exact AW.skip (AW.exit (AW.reach () ⟨trivial, Knows.app .rq3 (.cons (VLe.bool (by rw [liveB, if_neg ha])) .nil), Owns.app (.cons rfl .nil) (.nil)⟩))
    ·have ha : 0 < o.sc.getD i 0 := by cases hd : decide (0 < o.sc.getD i 0) with | true => exact of_decide_eq_true hd | false => rw [hd] at ha; cases ha
     obtain ⟨m1, m2, _⟩ := hd.live i hi ha
     have hwl := (pathsF_mem m1).1
     have hlast := (atP_lt m1 (show o.t - 1 < o.t by omega)).2
     rw [m2] at hlast
     refine AW.skip (AW.sg hE rfl (asD rfl (OL.nil (AW.seq (AW.dg 2 [0,1,2,4,5,6,7,8,3,9,10] order_free hE rfl (by kernel_rfl) (OI.of_OL (os := [_,_,_,_,_,_,_,_,_,_,_]) rfl ?_))))))
     refine lt0 sl.ints (faP fd.Online_4 rfl rfl (ldPC ce.ints rfl rfl rfl (faP fd.Online_3 rfl rfl (ldPC ce.intss rfl rfl rfl (mvD rfl (ixLn sl.intss [] rfl rfl (by omega) rfl rfl (ldRC ce.ints rfl ?_)))))))
     refine apM sl.ints rfl rfl (VC.d _) dI_len (by rw [List.length_map]; omega) (by rw [List.length_map]; omega) rfl fun b98 c98 => (apOD sl.ints rfl rfl rfl rfl (VC.d _) dI_len (by simp only [List.length_map]; omega) (by simp only [List.length_map]; omega) (.inl rfl) (ys := (o.dn ++ o.tl.getD i []).map dI) (by rw [List.map_append]) (asD rfl (OL.nil (AW.sg hE rfl (mvD rfl (lnL sl.ints rfl rfl (faP fd.Online_1 rfl rfl ?_)))))))
     refine ldPC ce.int rfl rfl rfl (c_neq rfl rfl (c := false) (cne_f (by rw [hwl])) (mvD rfl (OL.yes rfl (mvD rfl (OL.yes rfl (mvD rfl (OL.yes rfl ?_)))))))
     refine lnL sl.ints rfl rfl (OL.yes rfl (bo rfl rfl (bin_sub (c := ((o.t - 1 : Nat) : Int)) (by omega) (wrap_i64 (by omega))) (OL.yes rfl (ixLn sl.ints 0 rfl rfl (by omega) rfl rfl (OL.yes rfl (ldRC ce.int rfl ?_))))))
     rw [hlast]
     refine OL.yes rfl (mvD rfl (OL.yes rfl (c_neq rfl rfl (c := false) (by exact cne_f (by omega)) (pkF rfl rfl (OL.nil (AW.cond rfl (fun hno => absurd hno (by decide)) (fun _ => ?_)))))))
     exact AW.skip (AW.reach () ⟨trivial, Knows.app .rq3 (.cons (VLe.bool (by rw [liveB, if_pos ha])) .nil), Owns.app (.cons rfl .nil) (.nil)⟩)
   rintro ⟨⟩ hφ
   exact AW.rg hE rfl (mvD rfl (add_i64 rfl rfl (by omega) (asD rfl (OL.nil (AW.again (x := i) (i + 1) (by omega) ⟨by omega, Knows.app .rq2 .rq2, Owns.app (.cons rfl .nil) (.nil)⟩)))))
  ·try simp only [dx9] at h64
   refine AW.exit (AW.seq ?_)
   obtain rfl : i = h.st := by omega
   rw [liveB_of hj0 hp0]
   refine AW.rg hE rfl (mvD rfl (mvD rfl (OL.yes rfl (ldPA ag.Online rfl rfl (vs := [_,_,_,_,_,_,_,_,_,_,_,_,_,_,_]) rfl (nb9 rfl) (OL.yes rfl (faP fd.Online_3 rfl rfl (OL.yes rfl ?_)))))))
   refine ldPC ce.intss rfl rfl rfl (OL.yes rfl (clv rfl (.cons (VLe.refl _) (.cons (VLe.refl _) (.nil))) (ref37_common hz hC l1 l2 (by omega) (fun j => by have := htl j; omega)) (OL.yes rfl (c_eql rfl rfl (c := true) (decide_eq_true (k.com h0)) (pkT rfl rfl (asD rfl (OL.nil ?_)))))))
   exact AW.ret (RetQ.r ⟨_, .tmp rfl .nil, .le (VLe.refl _)⟩)
set_option maxRecDepth 4000 in
set_option maxHeartbeats 1600000 in
theorem ref37_OpenR {h : RM} (zz : h.Sz) : FSpec P F.ref37_Open [vRM h] (.tup [vOn (opH h) DEC0, .d (dI (chkP h))]) := by
 refine FSpec.intro fn.ref37_Open (by rfl) (by rfl) (nb9 (by rfl)) fun E hE => (AW.sg hE rfl (bxA rfl rfl fun b1 => (al z.Online rfl fun b2 => (asD rfl (OL.nil (AW.seq (AW.sg hE rfl ?_)))))))
 refine ldPA ag.Hidden rfl rfl (vs := [_,_,_,_,_,_,_,_,_,_,_]) rfl (nb9 rfl) (clv rfl (.cons (VLe.refl _) (.nil)) (ref33_CheckR zz) (asD rfl (OL.nil (AW.sg hE rfl (mvD rfl (c_neq rfl rfl rfl (OL.nil ?_)))))))
 refine AW.cond rfl (fun c8 => ?_) (fun c8 => ?_)
 ·have c8 : ¬ chkP h = 0 := by simpa using c8
  rw [show opH h = HM0 from if_neg c8]
  refine AW.sg hE rfl (bd z.Online pl.Online (cs := [_,_,_,_,_,_,_,_,_,_,_,_,_,_,_]) rfl (mvD rfl (sto sz.Online rfl rfl rfl rfl rfl (nb9 rfl) (cells2 := [_,_,_,_,_,_,_,_,_,_,_,_,_,_,_]) rfl (asD rfl (OL.nil ?_)))))
  exact AW.ret (RetQ.r ⟨_, .cellA rfl rfl ag.Online (nb9 rfl) (.tmp rfl .nil), _, .cons (.ag (.cons (.le (VLe.refl _)) (.cons (.le (VLe.refl _)) (.cons (.le (vle_of_eq (by show _ = V.d (dB (ofQ 0).neg); rw [ofQ_zero]))) (.cons (.le (by show VLe _ (.d (u32s (ofQ 0).num)); rw [ofQ_zero]; exact VLe.mt)) (.cons (.le (by show VLe _ (.d (u32s (ofQ 0).den)); rw [ofQ_zero]; exact VLe.mt)) (.cons (.le (VLe.mt)) (.cons (.le (VLe.mt)) (.cons (.le (VLe.mt)) (.cons (.le (VLe.mt)) (.cons (.le (VLe.mt)) (.cons (.le (VLe.mt)) (.cons (.le (VLe.refl _)) (.cons (.le (VLe.mt)) (.cons (.le (VLe.mt)) (.cons (.le (VLe.mt)) .nil)))))))))))))))) (.cons (.le (VLe.refl _)) .nil), rfl⟩)
 ·have c8 : chkP h = 0 := by simpa using c8
  rw [show opH h = hm h from if_pos c8, c8]
  obtain ⟨g, hv⟩ := chkP_good zz c8
  refine AW.boxW 1 (cellsHM (hm h)) rfl (vles_of_eq (V.ag.inj hv)) (AW.skip (AW.sg hE rfl (ldPA ag.Hidden rfl rfl (vs := [_,_,_,_,_,_,_,_,_,_,_]) rfl (nb9 rfl) (bd z.Online pl.Online (cs := [_,_,_,_,_,_,_,_,_,_,_,_,_,_,_]) rfl (sto sz.Online rfl rfl rfl rfl rfl (nb9 rfl) (cells2 := [_,_,_,_,_,_,_,_,_,_,_,_,_,_,_]) rfl (asD rfl (OL.nil ?_)))))))
  exact AW.ret (RetQ.r ⟨_, .cellA rfl rfl ag.Online (nb9 rfl) (.tmp rfl .nil), _, .cons (.ag (.cons (.le (VLe.refl _)) (.cons (.le (VLe.refl _)) (.cons (.le (VLe.refl _)) (.cons (.le (VLe.refl _)) (.cons (.le (VLe.refl _)) (.cons (.le (VLe.refl _)) (.cons (.le (VLe.refl _)) (.cons (.le (VLe.refl _)) (.cons (.le (VLe.refl _)) (.cons (.le (VLe.refl _)) (.cons (.le (VLe.refl _)) (.cons (.le (VLe.refl _)) (.cons (.le (VLe.mt)) (.cons (.le (VLe.mt)) (.cons (.le (VLe.mt)) .nil)))))))))))))))) (.cons (.le (VLe.refl _)) .nil), rfl⟩)
end Go.Proofs.YtjghehkgmanmbaaGreat

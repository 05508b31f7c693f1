/-
  Walks of the specification of chapter 35: ways are put into a list of one (printed by mk2.py).
-/
import Derived.Test.YtjghehkgmanmbaaGreatKCwE
import Derived.Test.YtjghehkgmanmbaaGreatKAlg29
import Derived.Test.YtjghehkgmanmbaaGreatKMod48
set_option linter.unusedVariables false
set_option linter.unusedSimpArgs false
namespace Go.Proofs.YtjghehkgmanmbaaGreat
open Go Go.AL
def cmpI (a b : Int) : Int := if a < b then -1 else if b < a then 1 else 0
theorem cmpL_drop {l m : List Int} {i : Nat} (h1 : i < l.length) (h2 : i < m.length) : cmpL (l.drop i) (m.drop i) = if cmpI (l.getD i 0) (m.getD i 0) = 0 then cmpL (l.drop (i + 1)) (m.drop (i + 1)) else cmpI (l.getD i 0) (m.getD i 0) := by
 have e1 : l.getD i 0 = l[i] := by rw [List.getD_eq_getElem?_getD, List.getElem?_eq_getElem h1]; rfl
 have e2 : m.getD i 0 = m[i] := by rw [List.getD_eq_getElem?_getD, List.getElem?_eq_getElem h2]; rfl
 rw [List.drop_eq_getElem_cons h1, List.drop_eq_getElem_cons h2, cmpL, e1, e2]
 unfold cmpI
 by_cases a : l[i] < m[i]
 ·rw [if_pos a, if_pos a, if_neg (by decide)]
 ·rw [if_neg a, if_neg a]
  by_cases b : m[i] < l[i]
  ·rw [if_pos b, if_pos b, if_neg (by decide)]
  ·rw [if_neg b, if_neg b, if_pos rfl]
def cmpS (a b : List Int) : Int := if a.length ≠ b.length then (if a.length < b.length then -1 else 1) else cmpL a b
theorem cmpS_same {a b : List Int} (h : a.length = b.length) : cmpS a b = cmpL a b := if_neg (by omega)
theorem upneS {ρ : Nat → V} {f : Nat → Option Blk} {a t : Nat} {v y : Option Blk} (h : t ≠ a) (hf : f t = y) : (⟨ρ, upd f a v⟩ : S).M t = y := (upd_ne _ _ h).trans hf
theorem upsmS {ρ : Nat → V} {f : Nat → Option Blk} {a : Nat} {v : Option Blk} : (⟨ρ, upd f a v⟩ : S).M a = v := upd_same _ _ _
theorem rhoS {ρ : Nat → V} {f : Nat → Option Blk} {t : Nat} {v : V} (h : ρ t = v) : (⟨ρ, f⟩ : S).ρ t = v := h
theorem putneS {s : S} {d t : Nat} {v w : V} (h : t ≠ d) (hf : s.ρ t = v) : (s.put (some d) w).ρ t = v := (upd_ne _ _ h).trans hf
theorem putsmS {s : S} {d : Nat} {w : V} : (s.put (some d) w).ρ d = w := upd_same _ _ _
theorem putM {s : S} {d t : Nat} {w : V} {y : Option Blk} (hf : s.M t = y) : (s.put (some d) w).M t = y := hf
abbrev cellsW (w : Rat × List Int) : List V := [.d (ints w.2), .d (dB (ofQ w.1).neg), .d (u32s (ofQ w.1).num), .d (u32s (ofQ w.1).den)]
abbrev vWay (w : Rat × List Int) : V := .ag (cellsW w)
abbrev dWay (w : Rat × List Int) : D := .ag [ints w.2, dB (ofQ w.1).neg, u32s (ofQ w.1).num, u32s (ofQ w.1).den]
theorem vd_way {w : Rat × List Int} : VD (vWay w) (dWay w) := VD.ag (.cons (VC.d _) (.cons (VC.d _) (.cons (VC.d _) (.cons (VC.d _) .nil))))
theorem vd_to {x y : V} {d : D} (h : x = y) (hd : VD y d) : VD x d := h ▸ hd
theorem vc_to {x y : V} {d : D} (h : x = y) (hd : VC y d) : VC x d := h ▸ hd
def befW (a b : Rat × List Int) : Bool := decide (b.1 < a.1 ∨ (a.1 = b.1 ∧ cmpS a.2 b.2 < 0))
theorem come_later {ops : Array Oper} {L : Array Bool} {i k : Nat} (c : Come ops L i) (h : depB ops k i = true) : L.getD k false = false := by
 cases e : L.getD k false with
 | false => rfl
 | true =>
  have := c.closed k i e h
  rw [c.no] at this
  cases this
section
variable {P : Program} {m : Nat} {ops : Array Oper} {K : S → Prop} {r : List Oper} {s : S} {dst : Option Nat} {ty : TypeId} {pos : String} {after : Array Edge}
theorem slMt {t e sz by_ : Nat} {x y : Operand} {k : IntKind} (hT : SliceT P t e sz by_) (hx : s.ev x = .mt) (hy : s.ev y = .d (.sc (.int k (0 : Nat)))) (h : OL P m ops K r (s.put dst .mt)) : OL P m ops K (⟨dst, .slice t x none (some y) none, ty, pos, after, none⟩ :: r) s := OL.pure (.cutM hx hT rfl ⟨k, hy⟩) h
theorem slMf {t e sz by_ : Nat} {x y : Operand} {k : IntKind} (hT : SliceT P t e sz by_) (hx : s.ev x = .mt) (hy : s.ev y = .d (.sc (.int k (0 : Nat)))) (h : OL P m ops K r (s.put dst .mt)) : OL P m ops K (⟨dst, .slice t x (some y) none none, ty, pos, after, none⟩ :: r) s := OL.pure (.cutM hx hT ⟨k, hy⟩ rfl) h
end
theorem cases10 {p : Nat → Prop} (h0 : p 0) (h1 : p 1) (h2 : p 2) (h3 : p 3) (h4 : p 4) (h5 : p 5) (h6 : p 6) (h7 : p 7) (h8 : p 8) (h9 : p 9) : ∀ i, i < 10 → p i := fun i hi => by
 have : i = 0 ∨ i = 1 ∨ i = 2 ∨ i = 3 ∨ i = 4 ∨ i = 5 ∨ i = 6 ∨ i = 7 ∨ i = 8 ∨ i = 9 := by omega
 rcases this with rfl | rfl | rfl | rfl | rfl | rfl | rfl | rfl | rfl | rfl <;> assumption
def ownP : Nat → Option Nat
 | 28 => some 0 | 29 => some 1 | 30 => some 2 | 31 => some 3 | 32 => some 4 | 33 => some 5 | 34 => some 6 | 35 => some 7 | 36 => some 8 | 37 => some 9 | 1000 => some 9
 | _ => none
theorem ownP_inj {t i : Nat} (h : ownP t = some i) (hi : i ≠ 9) : t = [28, 29, 30, 31, 32, 33, 34, 35, 36].getD i 0 := by
 unfold ownP at h
 split at h <;> first | (cases h; rfl) | (cases h; exact absurd rfl hi) | cases h
theorem ownP_two {t : Nat} (h : ownP t = some 9) : t = 37 ∨ t = 1000 := by
 unfold ownP at h
 split at h <;> first | (cases h; done) | (exact .inl rfl) | (exact .inr rfl) | cases h
noncomputable def valB (w : Rat × List Int) (b c : Nat) (t : Nat) (β : Nat → Nat × Nat) : V :=
 match t with
 | 28 | 30 | 33 => .osl 1000 b 1 c
 | 29 | 34 => .d (dI (1 : Nat))
 | 31 => vWay w
 | 32 | 36 => .d (.sl [dWay w])
 | 35 => .d (.sl [])
 | 37 => .osl 1000 (β 37).1 2 (β 37).2
 | _ => .junk
noncomputable def blkB (w a : Rat × List Int) (t : Nat) (β : Nat → Nat × Nat) : Option Blk :=
 match t with
 | 1000 => some (.row (β 37).1 (β 37).2 T.Way 4 [dWay a, dWay w])
 | _ => none
noncomputable def valA (w a : Rat × List Int) (b c : Nat) (t : Nat) (β : Nat → Nat × Nat) : V :=
 match t with
 | 28 | 33 | 35 => .osl 1000 b 1 c
 | 30 => .osl 1000 b 0 c
 | 29 | 34 => .d (dI (0 : Nat))
 | 31 => vWay w
 | 32 => .osl 32 (β 32).1 1 1
 | 36 => .d (.sl [dWay w, dWay a])
 | 37 => .osl 1000 (β 37).1 2 (β 37).2
 | _ => .junk
noncomputable def blkA (w a : Rat × List Int) (t : Nat) (β : Nat → Nat × Nat) : Option Blk :=
 match t with
 | 32 => some (.row (β 32).1 1 T.Way 4 [dWay w])
 | 1000 => some (.row (β 37).1 (β 37).2 T.Way 4 [dWay w, dWay a])
 | _ => none
def ownN : Nat → Option Nat
 | 28 => some 0 | 29 => some 1 | 30 => some 2 | 31 => some 3 | 32 => some 4 | 33 => some 5 | 34 => some 6 | 35 => some 7 | 36 => some 8 | 37 => some 9
 | _ => none
theorem ownN_inj {t i : Nat} (h : ownN t = some i) : t = [28, 29, 30, 31, 32, 33, 34, 35, 36, 37].getD i 0 := by
 unfold ownN at h
 split at h <;> first | (cases h; rfl) | cases h
noncomputable def valN (w : Rat × List Int) (t : Nat) (β : Nat → Nat × Nat) : V :=
 match t with
 | 28 | 30 | 33 | 35 => .mt
 | 29 | 34 => .d (dI (0 : Nat))
 | 31 => vWay w
 | 32 | 36 => .d (.sl [dWay w])
 | 37 => .osl 37 (β 37).1 1 (β 37).2
 | _ => .junk
noncomputable def blkN (w : Rat × List Int) (t : Nat) (β : Nat → Nat × Nat) : Option Blk :=
 match t with
 | 37 => some (.row (β 37).1 (β 37).2 T.Way 4 [dWay w])
 | _ => none
theorem ref05_CompareS {l m : List Int} (nl : l.length ≤ 1099511627776) : FSpec P F.ref05_Compare [.d (ints l), .d (ints m)] (.d (dI (cmpS l m))) := by
 refine FSpec.intro fn.ref05_Compare (by rfl) (by rfl) (nb9 (by rfl)) fun E hE => (AW.sg hE rfl (asD rfl (OL.nil (AW.seq (AW.sg hE rfl (mvD rfl (lnL sl.ints rfl rfl ?_)))))))
 refine mvD rfl (lnL sl.ints rfl rfl (c_neq rfl rfl rfl (OL.nil (AW.cond rfl (fun hn => ?_) (fun hn => ?_)))))
 ·have hn : l.length ≠ m.length := fun e => nd_t hn (by rw [e])
  refine AW.seq (AW.sg hE rfl (mvD rfl (lnL sl.ints rfl rfl (mvD rfl (lnL sl.ints rfl rfl (c_lss rfl rfl rfl (OL.nil ?_)))))))
  refine AW.cond rfl (fun hlt => ?_) (fun hlt => ?_)
  ·have hlt : l.length < m.length := by have := of_decide_eq_true hlt; omega
   exact AW.sg hE rfl (asD rfl (OL.nil (AW.ret (RetQ.r ⟨_, .tmp rfl .nil, .le (VLe.int (by unfold cmpS; rw [if_pos hn, if_pos hlt]))⟩))))
  ·have hlt : ¬ l.length < m.length := by have := of_decide_eq_false hlt; omega
   exact AW.skip (AW.sg hE rfl (asD rfl (OL.nil (AW.ret (RetQ.r ⟨_, .tmp rfl .nil, .le (VLe.int (by unfold cmpS; rw [if_pos hn, if_neg hlt]))⟩)))))
 ·have hn : l.length = m.length := by have := nd_f hn; omega
  rw [cmpS_same hn]
  refine AW.skip (AW.seq (AW.sg hE rfl (asD rfl (OL.nil (AW.block ?_)))))
  refine AW.whileK (α := Nat) [(0, _), (1, _)] [] (fun i => [(5, .d (dI i))]) (fun i => []) (fun i => i ≤ l.length ∧ cmpL l m = cmpL (l.drop i) (m.drop i)) (fun i => l.length - i) 0 (.cons (knD rfl) (.cons (knD rfl) .nil)) .nil ⟨⟨Nat.zero_le _, rfl⟩, .cons (VLe.refl _) .nil, .nil⟩ ?_
  rintro i ⟨h1, h3⟩
  have h1 : i ≤ l.length := h1
  have h3 : cmpL l m = cmpL (l.drop i) (m.drop i) := h3
  refine AW.seq (AW.sg hE rfl (mvD rfl (mvD rfl (lnL sl.ints rfl rfl (c_lss rfl rfl rfl (OL.nil (AW.cond rfl (fun h19 => ?_) (fun h19 => ?_))))))))
  ·try simp only [dx9] at h19
   refine AW.skip (AW.seq (AW.block (AW.seq (AW.seq (AW.dg 1 [0,1,2,3,4,5,6,7,8] order_free hE rfl (by kernel_rfl) (OI.of_OL (os := [_,_,_,_,_,_,_,_,_]) rfl ?_))))))
   refine mvD rfl (mvD rfl (ixLn sl.ints 0 rfl rfl (by omega) rfl rfl (ldRC ce.int rfl (mvD rfl (mvD rfl (ixLn sl.ints 0 rfl rfl (by omega) rfl rfl (ldRC ce.int rfl ?_)))))))
   refine c_lss rfl rfl rfl (OL.nil (AW.cond rfl (fun ha => ?_) (fun ha => ?_)))
   ·have ha := of_decide_eq_true ha
    exact AW.sg hE rfl (asD rfl (OL.nil (AW.ret (RetQ.r ⟨_, .tmp rfl .nil, .le (VLe.int (by rw [h3, cmpL_drop (by omega) (by omega), show cmpI (l.getD i 0) (m.getD i 0) = -1 from if_pos ha, if_neg (by decide)]))⟩))))
   ·have ha := of_decide_eq_false ha
    refine AW.skip (AW.seq (AW.dg 1 [0,1,2,3,4,5,6,7,8] order_free hE rfl (by kernel_rfl) (OI.of_OL (os := [_,_,_,_,_,_,_,_,_]) rfl ?_)))
    refine mvD rfl (mvD rfl (ixLn sl.ints 0 rfl rfl (by omega) rfl rfl (ldRC ce.int rfl (mvD rfl (mvD rfl (ixLn sl.ints 0 rfl rfl (by omega) rfl rfl (ldRC ce.int rfl ?_)))))))
    refine c_gtr rfl rfl rfl (OL.nil (AW.cond rfl (fun hb => ?_) (fun hb => ?_)))
    ·have hb := of_decide_eq_true hb
     exact AW.sg hE rfl (asD rfl (OL.nil (AW.ret (RetQ.r ⟨_, .tmp rfl .nil, .le (VLe.int (by rw [h3, cmpL_drop (by omega) (by omega), show cmpI (l.getD i 0) (m.getD i 0) = 1 by unfold cmpI; rw [if_neg ha, if_pos hb], if_neg (by decide)]))⟩))))
    ·have hb := of_decide_eq_false hb
     exact AW.skip (AW.rg hE rfl (mvD rfl (add_i64 rfl rfl (by omega) (asD rfl (OL.nil (AW.again (x := i) (i + 1) (by omega) ⟨⟨by omega, by rw [h3, cmpL_drop (by omega) (by omega), if_pos (by unfold cmpI; rw [if_neg ha, if_neg hb])]⟩, Knows.app (.cons (VLe.refl _) (.cons (VLe.refl _) .nil)) (.cons (VLe.refl _) .nil), .nil⟩))))))
  ·try simp only [dx9] at h19
   exact AW.exit (AW.sg hE rfl (asD rfl (OL.nil (AW.ret (RetQ.r ⟨_, .tmp rfl .nil, .le (VLe.int (by rw [h3, List.drop_eq_nil_of_le (show l.length ≤ i by omega), List.drop_eq_nil_of_le (show m.length ≤ i by omega), cmpL]))⟩)))))
theorem ref35_Before {a b : Rat × List Int} (ha : sz a.1 ≤ 68719476736) (hb : sz b.1 ≤ 68719476736) (nl : a.2.length ≤ 1099511627776) : FSpec P F.ref35_Before [vWay a, vWay b] (.d (dB (befW a b))) := by
 refine FSpec.intro fn.ref35_Before (by rfl) (by rfl) (nb9 (by rfl)) fun E hE => (AW.sg hE rfl (bxA rfl rfl fun b2 => (bxA rfl rfl fun b3 => (asD rfl (OL.nil (AW.seq (AW.sg hE rfl ?_)))))))
 refine faP fd.Way_1 rfl rfl (ldPA ag.Rat rfl rfl (vs := [_,_,_]) rfl (nb9 rfl) (faP fd.Way_1 rfl rfl (ldPA ag.Rat rfl rfl (vs := [_,_,_]) rfl (nb9 rfl) (clv rfl (.cons (VLe.refl _) (.cons (VLe.refl _) (.nil))) (ref_CompareQ (x := a.1) (y := b.1) (by omega) (by omega)) (asD rfl (OL.nil (AW.sg hE rfl ?_)))))))
 refine mvD rfl (c_neq rfl rfl rfl (OL.nil (AW.cond rfl (fun hc => ?_) (fun hc => ?_))))
 ·have hc := nd_t hc
  exact AW.sg hE rfl (mvD rfl (c_gtr rfl rfl rfl (asD rfl (OL.nil (AW.ret (RetQ.r ⟨_, .tmp rfl .nil, .le (VLe.bool (decide_eq_decide.2 ⟨fun e => .inl (cmpQ_gt.1 e), fun e => cmpQ_gt.2 (e.resolve_right fun k => hc (cmpQ_eq.2 k.1))⟩))⟩))))))
 ·have hc := nd_f hc
  refine AW.skip (AW.sg hE rfl (faP fd.Way_0 rfl rfl (ldPC ce.ints rfl rfl rfl (faP fd.Way_0 rfl rfl (ldPC ce.ints rfl rfl rfl (clv rfl (.cons (VLe.refl _) (.cons (VLe.refl _) (.nil))) (ref05_CompareS nl) (c_lss rfl rfl rfl ?_)))))))
  exact asD rfl (OL.nil (AW.ret (RetQ.r ⟨_, .tmp rfl .nil, .le (VLe.bool (decide_eq_decide.2 ⟨fun e => .inr ⟨cmpQ_eq.1 hc, e⟩, fun e => (e.resolve_left fun k => Rat.ne_of_lt k (cmpQ_eq.1 hc).symm).2⟩))⟩)))
theorem put_zero {v : Value} {w : Rat × List Int} {k : Int} (h : w.1 = 0) : FSpec P F.ref35_put [.d (.sc v), vWay w, .d (dI k)] (.d (.sc v)) := by
 have z0 : sz w.1 ≤ 68719476736 := by rw [h, sz_zero]; decide
 refine FSpec.intro fn.ref35_put (by rfl) (by rfl) (nb9 (by rfl)) fun E hE => (AW.sg hE rfl (bxA rfl rfl fun b4 => (asM rfl (OL.nil (AW.seq (AW.sg hE rfl (faP fd.Way_1 rfl rfl ?_)))))))
 refine ldPA ag.Rat rfl rfl (vs := [_,_,_]) rfl (nb9 rfl) (clv rfl (.cons (VLe.refl _) (.nil)) (ref_SignQ (x := w.1) (by omega)) (c_eql rfl rfl (c := true) (decide_eq_true (sgnQ_eq.2 h)) (OL.nil (AW.cond rfl (fun _ => ?_) (fun hno => absurd hno (by decide))))))
 exact AW.sg hE rfl (mvD rfl (asD rfl (OL.nil (AW.ret (RetQ.r ⟨_, .tmp rfl .nil, .le (VLe.refl _)⟩)))))
theorem put_new {w : Rat × List Int} (hz : sz w.1 ≤ 68719476736) (h0 : w.1 ≠ 0) : FSpecR P F.ref35_put [.mt, vWay w, .d (dI 1)] 1 T.Way 4 [dWay w] := by
 refine FSpecR.intro fn.ref35_put (by rfl) (by rfl) (nb9 (by rfl)) 6 rfl fun E hE => (AW.sg hE rfl (bxA rfl rfl fun b4 => (asM rfl (OL.nil (AW.seq (AW.sg hE rfl (faP fd.Way_1 rfl rfl ?_)))))))
 refine ldPA ag.Rat rfl rfl (vs := [_,_,_]) rfl (nb9 rfl) (clv rfl (.cons (VLe.refl _) (.nil)) (ref_SignQ (x := w.1) (by omega)) (c_eql rfl rfl (c := false) (decide_eq_false fun e => h0 (sgnQ_eq.1 e)) (OL.nil (AW.cond rfl (fun hno => absurd hno (by decide)) (fun _ => ?_)))))
 refine AW.skip (AW.sg hE rfl (mvM rfl (lnM sl.Ways rfl rfl (asD rfl (OL.nil (AW.seq (AW.block ?_)))))))
 refine AW.whileK (α := Unit) [(0, _), (2, _), (4, _), (6, _)] [(4, _)] (fun _u => [(7, .d (dI (0 : Nat)))]) (fun _u => []) (fun _u => True) (fun _u => 0) () (.cons (knM rfl) (.cons (knD rfl) (.cons (knP rfl) (.cons (knM rfl) .nil)))) (.cons (owB rfl) .nil) ⟨trivial, .cons (VLe.refl _) .nil, .nil⟩ ?_
 intro _u hφ
 refine AW.seq (AW.seq (AW.dg 1 [0,1,2,3,4,5,6,7,8,9,10] order_free hE rfl (by kernel_rfl) (OI.of_OL (os := [_,_,_,_,_,_,_,_,_,_,_]) rfl ?_)))
 refine mvD rfl (c_gtr rfl rfl (c := false) (by exact decide_eq_false (by omega)) (mvD rfl (OL.no rfl (by decide) (OL.no rfl (by decide) (OL.no rfl (by decide) (OL.no rfl (by decide) (OL.no rfl (by decide) ?_)))))))
 refine OL.no rfl (by decide) (OL.no rfl (by decide) (pkF rfl rfl (OL.nil (AW.cond rfl (fun hno => absurd hno (by decide)) (fun _ => ?_)))))
 refine AW.exit (AW.seq (AW.region_planS (valN w) (blkN w) ownN 10 order_free (by rw [hE]; rfl) (by rfl) (by kernel_rfl) (by kernel_rfl) ?_ ?_))
 ·refine cases10 ?_ ?_ ?_ ?_ ?_ ?_ ?_ ?_ ?_ ?_
  ·exact fun β L c9 => ⟨_, rfl, .inl (OG.of_OL (mvM ((pS_old rfl).trans rfl) ⟨β, pS_put (d := 28) (i := 0) rfl (fun t ht => ownN_inj ht) (lt_size 11 c9.size rfl (by decide)) rfl⟩))⟩
  ·exact fun β L c9 => ⟨_, rfl, .inl (OG.of_OL (mvD (y := dI (0 : Nat)) ((pS_old rfl).trans rfl) ⟨β, pS_put (d := 29) (i := 1) rfl (fun t ht => ownN_inj ht) (lt_size 11 c9.size rfl (by decide)) rfl⟩))⟩
  ·exact fun β L c9 => ⟨_, rfl, .inl (OG.of_OL (slMt sl.Ways (pS_new rfl (c9.dep 0 (by kernel_rfl))) (pS_new rfl (c9.dep 1 (by kernel_rfl))) ⟨β, pS_put (d := 30) (i := 2) rfl (fun t ht => ownN_inj ht) (lt_size 11 c9.size rfl (by decide)) rfl⟩))⟩
  ·exact fun β L c9 => ⟨_, rfl, .inl (OG.of_OL (ldPA ag.Way ((pS_old rfl).trans rfl) ((pS_Mold rfl).trans rfl) (vs := cellsW w) rfl (nb9 rfl) ⟨β, pS_put (d := 31) (i := 3) rfl (fun t ht => ownN_inj ht) (lt_size 11 c9.size rfl (by decide)) rfl⟩))⟩
  ·exact fun β L c9 => ⟨_, rfl, .inl (OG.of_OL (lt1 (y := dWay w) sl.Ways (vd_to (pS_new rfl (c9.dep 3 (by kernel_rfl))) vd_way) rfl (by decide) ⟨β, pS_put (d := 32) (i := 4) rfl (fun t ht => ownN_inj ht) (lt_size 11 c9.size rfl (by decide)) rfl⟩))⟩
  ·exact fun β L c9 => ⟨_, rfl, .inl (OG.of_OL (mvM ((pS_old rfl).trans rfl) ⟨β, pS_put (d := 33) (i := 5) rfl (fun t ht => ownN_inj ht) (lt_size 11 c9.size rfl (by decide)) rfl⟩))⟩
  ·exact fun β L c9 => ⟨_, rfl, .inl (OG.of_OL (mvD (y := dI (0 : Nat)) ((pS_old rfl).trans rfl) ⟨β, pS_put (d := 34) (i := 6) rfl (fun t ht => ownN_inj ht) (lt_size 11 c9.size rfl (by decide)) rfl⟩))⟩
  ·exact fun β L c9 => ⟨_, rfl, .inl (OG.of_OL (slMf sl.Ways (pS_new rfl (c9.dep 5 (by kernel_rfl))) (pS_new rfl (c9.dep 6 (by kernel_rfl))) ⟨β, pS_put (d := 35) (i := 7) rfl (fun t ht => ownN_inj ht) (lt_size 11 c9.size rfl (by decide)) rfl⟩))⟩
  ·exact fun β L c9 => ⟨_, rfl, SG.of_SO (SO.appNone (dst := some 36) (es := [dWay w]) (show 36 < E.n by rw [hE]; exact Nat.le_of_ble_eq_true rfl) sl.Ways (pS_new rfl (c9.dep 4 (by kernel_rfl))) (vc_to (pS_new rfl (c9.dep 7 (by kernel_rfl))) VC.mt) ⟨β, pS_put (d := 36) (i := 8) rfl (fun t ht => ownN_inj ht) (lt_size 11 c9.size rfl (by decide)) rfl⟩)⟩
  ·exact fun β L c9 => ⟨_, rfl, .inl (OG.of_OL (apM sl.Ways rfl (pS_new rfl (c9.dep 2 (by kernel_rfl))) (xs := [dWay w]) (vc_to (pS_new rfl (c9.dep 8 (by kernel_rfl))) (VC.d _)) (fun y hy => by rw [List.mem_singleton.1 hy]; rfl) (show 1 * 80 ≤ 140737488355328 by decide) (show 1 ≤ 4611686018427387904 by decide) ((pS_M0 (t := 37) (i := 9) rfl c9.no).trans rfl) fun b8 c8 => ⟨upd β 37 (b8, c8), pS_add (d := 37) (i := 9) (x := (b8, c8)) rfl (fun t ht => ownN_inj ht) (lt_size 11 c9.size rfl (by decide)) rfl rfl (fun t j ho hl => by unfold ownN at ho; split at ho <;> cases ho <;> first | exact ⟨rfl, rfl⟩ | (rw [c9.no] at hl; cases hl) | (have hc := c9.closed 9 9 hl (by kernel_rfl); rw [c9.no] at hc; cases hc))⟩))⟩
 refine fun β L c9 => ⟨_, rfl, .inl (OG.of_OL (asO (pS_new rfl (c9.dep 9 (by kernel_rfl))) ?_))⟩
 refine OL.nil ?_
 refine AW.to [(0, .osl 37 (β 37).1 1 (β 37).2), (2, .d (dI 1))] [(37, .row (β 37).1 (β 37).2 T.Way 4 [dWay w])] (.cons (vle_of_eq putsmS) (.cons (vle_of_eq (putneS (by decide) ((pS_old rfl).trans rfl))) .nil)) (.cons (putM (pS_M (t := 37) (i := 9) rfl (c9.dep 9 (by kernel_rfl)) rfl)) .nil) ?_
 refine AW.seq (AW.sg hE rfl (mvO rfl (lnO sl.Ways rfl rfl (mvD rfl (c_gtr rfl rfl (c := false) (by exact decide_eq_false (by omega)) (OL.nil (AW.cond rfl (fun hno => absurd hno (by decide)) (fun _ => ?_))))))))
 exact AW.skip (AW.sg hE rfl (mvO rfl (asO rfl (OL.nil (AW.ret ⟨.inr rfl, _, _, _, _, rfl, rfl, Nat.le_refl 1, rfl⟩)))))
set_option maxRecDepth 8000 in
set_option maxHeartbeats 1600000 in
theorem put_more {w a : Rat × List Int} (hz : sz w.1 ≤ 68719476736) (za : sz a.1 ≤ 68719476736) (nl : w.2.length ≤ 1099511627776) (h0 : w.1 ≠ 0) : FSpecO P F.ref35_put (fun l => [l, vWay w, .d (dI 1)]) 1 T.Way 4 [dWay a] 1 [dWay (if befW w a = true then w else a)] := by
 refine FSpecO.intro fn.ref35_put (by rfl) (by rfl) (fun _ => Nat.le_of_ble_eq_true (by rfl)) 6 rfl fun E b c hE => (AW.rename 0 1000 rfl (AW.sg hE rfl (bxA rfl rfl fun b4 => (asM rfl (OL.nil (AW.seq (AW.sg hE rfl ?_)))))))
 refine faP fd.Way_1 rfl rfl (ldPA ag.Rat rfl rfl (vs := [_,_,_]) rfl (nb9 rfl) (clv rfl (.cons (VLe.refl _) (.nil)) (ref_SignQ (x := w.1) (by omega)) (c_eql rfl rfl (c := false) (decide_eq_false fun e => h0 (sgnQ_eq.1 e)) (OL.nil (AW.cond rfl (fun hno => absurd hno (by decide)) (fun _ => ?_))))))
 refine AW.skip (AW.sg hE rfl (mvO rfl (lnO sl.Ways rfl rfl (asD rfl (OL.nil (AW.seq (AW.block ?_)))))))
 refine AW.whileK (α := Nat) [(2, _), (4, _), (6, _)] [(4, _), (1000, _)] (fun at_ => [(0, .osl 1000 b 1 c), (7, .d (dI at_))]) (fun at_ => []) (fun at_ => at_ ≤ 1 ∧ (at_ = 0 → befW w a = true)) (fun at_ => at_) 1 (.cons (knD rfl) (.cons (knP rfl) (.cons (knM rfl) .nil))) (.cons (owB rfl) (.cons (owR rfl) .nil)) ⟨⟨Nat.le_refl 1, fun e => absurd e (by decide)⟩, .cons (VLe.osl) (.cons (VLe.refl _) .nil), .nil⟩ ?_
 rintro at_ ⟨h1, h2⟩
 have h1 : at_ ≤ 1 := h1
 have h2 : at_ = 0 → befW w a = true := h2
 refine AW.seq (AW.seq (AW.dg 1 [0,1,2,3,4,5,6,7,8,9,10] order_free hE rfl (by kernel_rfl) (OI.of_OL (os := [_,_,_,_,_,_,_,_,_,_,_]) rfl ?_)))
 refine mvD rfl (c_gtr rfl rfl rfl (mvD rfl (OL.split 17 rfl (fun g1 => ?_) (fun g1 => ?_))))
 ·have g1 : 0 < at_ := by have := of_decide_eq_true g1; omega
  obtain rfl : at_ = 1 := by omega
  refine OL.yes rfl (ldPA ag.Way rfl rfl (vs := [_,_,_,_]) rfl (nb9 rfl) (OL.yes rfl (mvO rfl (OL.yes rfl (mvD rfl (OL.yes rfl (bo rfl rfl (bin_sub (c := 0) (by decide) (wrap_i64 (by decide))) ?_)))))))
  refine OL.yes rfl (ixO (n := 0) (i := 0) sl.Ways rfl rfl (by decide) (by decide) rfl (OL.yes rfl (ldEA ag.Way (by decide) rfl rfl rfl (vs := cellsW a) rfl (nb9 rfl) (OL.yes rfl (clv rfl (.cons (VLe.refl _) (.cons (VLe.refl _) (.nil))) (ref35_Before (a := w) (b := a) (by omega) (by omega) nl) (pkT rfl rfl (OL.nil ?_)))))))
  refine AW.cond rfl (fun hb => ?_) (fun hb => ?_)
  ·have _hb := hb
   exact AW.skip (AW.block (AW.rg hE rfl (mvD rfl (bo rfl rfl (bin_sub (c := 0) (by decide) (wrap_i64 (by decide))) (asD rfl (OL.nil (AW.again (x := 1) 0 (by omega) ⟨⟨by omega, fun _ => hb⟩, Knows.app (.cons (VLe.refl _) (.cons (VLe.refl _) (.cons (VLe.refl _) .nil))) (.cons (VLe.refl _) (.cons (VLe.refl _) .nil)), Owns.app (.cons rfl (.cons rfl .nil)) (.nil)⟩)))))))
  ·have _hb := hb
   refine AW.exit (AW.seq (AW.region_planS (valB w b c) (blkB w a) ownP 10 order_free (by rw [hE]; rfl) (by rfl) (by kernel_rfl) (by kernel_rfl) ?_ ?_))
   ·refine cases10 ?_ ?_ ?_ ?_ ?_ ?_ ?_ ?_ ?_ ?_
    ·exact fun β L c9 => ⟨_, rfl, .inl (OG.of_OL (mvO ((pS_old rfl).trans rfl) ⟨β, pS_put (d := 28) (i := 0) rfl (fun t ht => ownP_inj ht (by decide)) (lt_size 11 c9.size rfl (by decide)) rfl⟩))⟩
    ·exact fun β L c9 => ⟨_, rfl, .inl (OG.of_OL (mvD (y := dI (1 : Nat)) ((pS_old rfl).trans rfl) ⟨β, pS_put (d := 29) (i := 1) rfl (fun t ht => ownP_inj ht (by decide)) (lt_size 11 c9.size rfl (by decide)) rfl⟩))⟩
    ·exact fun β L c9 => ⟨_, rfl, .inl (OG.of_OL (slO sl.Ways (pS_new rfl (c9.dep 0 (by kernel_rfl))) (pS_new rfl (c9.dep 1 (by kernel_rfl))) (by decide) ⟨β, pS_put (d := 30) (i := 2) rfl (fun t ht => ownP_inj ht (by decide)) (lt_size 11 c9.size rfl (by decide)) rfl⟩))⟩
    ·exact fun β L c9 => ⟨_, rfl, .inl (OG.of_OL (ldPA ag.Way ((pS_old rfl).trans rfl) ((pS_Mold rfl).trans rfl) (vs := cellsW w) rfl (nb9 rfl) ⟨β, pS_put (d := 31) (i := 3) rfl (fun t ht => ownP_inj ht (by decide)) (lt_size 11 c9.size rfl (by decide)) rfl⟩))⟩
    ·exact fun β L c9 => ⟨_, rfl, .inl (OG.of_OL (lt1 (y := dWay w) sl.Ways (vd_to (pS_new rfl (c9.dep 3 (by kernel_rfl))) vd_way) rfl (by decide) ⟨β, pS_put (d := 32) (i := 4) rfl (fun t ht => ownP_inj ht (by decide)) (lt_size 11 c9.size rfl (by decide)) rfl⟩))⟩
    ·exact fun β L c9 => ⟨_, rfl, .inl (OG.of_OL (mvO ((pS_old rfl).trans rfl) ⟨β, pS_put (d := 33) (i := 5) rfl (fun t ht => ownP_inj ht (by decide)) (lt_size 11 c9.size rfl (by decide)) rfl⟩))⟩
    ·exact fun β L c9 => ⟨_, rfl, .inl (OG.of_OL (mvD (y := dI (1 : Nat)) ((pS_old rfl).trans rfl) ⟨β, pS_put (d := 34) (i := 6) rfl (fun t ht => ownP_inj ht (by decide)) (lt_size 11 c9.size rfl (by decide)) rfl⟩))⟩
    ·exact fun β L c9 => ⟨_, rfl, SG.of_SO (SO.cutEnd (sz := 4) (id := 1000) (b := b) (n := 1) (c := c) (show 35 < E.n by rw [hE]; exact Nat.le_of_ble_eq_true rfl) sl.Ways (pS_new rfl (c9.dep 5 (by kernel_rfl))) (pS_new rfl (c9.dep 6 (by kernel_rfl))) ⟨β, pS_put (d := 35) (i := 7) rfl (fun t ht => ownP_inj ht (by decide)) (lt_size 11 c9.size rfl (by decide)) rfl⟩)⟩
    ·exact fun β L c9 => ⟨_, rfl, SG.of_SO (SO.appNone (dst := some 36) (es := [dWay w]) (show 36 < E.n by rw [hE]; exact Nat.le_of_ble_eq_true rfl) sl.Ways (pS_new rfl (c9.dep 4 (by kernel_rfl))) (vc_to (pS_new rfl (c9.dep 7 (by kernel_rfl))) (VC.d _)) ⟨β, pS_put (d := 36) (i := 8) rfl (fun t ht => ownP_inj ht (by decide)) (lt_size 11 c9.size rfl (by decide)) rfl⟩)⟩
    ·exact fun β L c9 => ⟨_, rfl, SG.of_SO (SO.appKeep (id := 1000) (es := [dWay a]) (n := 1) (xs := [dWay w]) (show 37 < E.n by rw [hE]; exact Nat.le_of_ble_eq_true rfl) sl.Ways (pS_new rfl (c9.dep 2 (by kernel_rfl))) ((pS_M0 (t := 1000) (i := 9) rfl c9.no).trans rfl) (show 1 ≤ 1 by decide) (vc_to (pS_new rfl (c9.dep 8 (by kernel_rfl))) (VC.d _)) (fun y hy => by rw [List.mem_singleton.1 hy]; rfl) (show 2 * 80 ≤ 140737488355328 by decide) (show 2 ≤ 4611686018427387904 by decide) fun b8 c8 => ⟨upd β 37 (b8, c8), pS_addM (d := 37) (e := 1000) (i := 9) (x := (b8, c8)) rfl rfl (by decide) (fun t ht => ownP_two ht) (lt_size 11 c9.size rfl (by decide)) c9.no rfl rfl rfl rfl (fun t j ho hl => by unfold ownP at ho; split at ho <;> cases ho <;> first | exact ⟨rfl, rfl⟩ | (rw [c9.no] at hl; cases hl) | (have hc := c9.closed 9 9 hl (by kernel_rfl); rw [c9.no] at hc; cases hc))⟩)⟩
   refine fun β L c9 => ⟨_, rfl, .inl (OG.of_OL (asO (pS_new rfl (c9.dep 9 (by kernel_rfl))) ?_))⟩
   refine OL.nil ?_
   refine AW.to [(0, .osl 1000 (β 37).1 2 (β 37).2), (2, .d (dI 1))] [(1000, .row (β 37).1 (β 37).2 T.Way 4 [dWay a, dWay w])] (.cons (vle_of_eq putsmS) (.cons (vle_of_eq (putneS (by decide) ((pS_old rfl).trans rfl))) .nil)) (.cons (putM (pS_M (t := 1000) (i := 9) rfl (c9.dep 9 (by kernel_rfl)) rfl)) .nil) ?_
   refine AW.seq (AW.sg hE rfl (mvO rfl (lnO sl.Ways rfl rfl (mvD rfl (c_gtr rfl rfl (c := true) (by exact decide_eq_true (by omega)) (OL.nil (AW.cond rfl (fun _ => ?_) (fun hno => absurd hno (by decide)))))))))
   refine AW.rg hE rfl (mvO rfl (mvD rfl (slO (h := 1) sl.Ways rfl rfl (by decide) (asO rfl (OL.nil (AW.sg hE rfl (mvO rfl ?_)))))))
   exact asO rfl (OL.nil (AW.ret ⟨.inr rfl, 1000, _, _, _, rfl, rfl, (show 1 ≤ 2 by decide), (by rw [hb]; rfl)⟩))
 ·have g1 : at_ = 0 := by have := of_decide_eq_false g1; omega
  subst g1
  have hb := h2 rfl
  refine OL.no rfl (by decide) (OL.no rfl (by decide) (OL.no rfl (by decide) (OL.no rfl (by decide) (OL.no rfl (by decide) (OL.no rfl (by decide) (OL.no rfl (by decide) (pkF rfl rfl ?_)))))))
  refine OL.nil (AW.cond rfl (fun hno => absurd hno (by decide)) (fun _ => ?_))
  refine AW.exit (AW.seq (AW.region_planS (valA w a b c) (blkA w a) ownP 10 order_free (by rw [hE]; rfl) (by rfl) (by kernel_rfl) (by kernel_rfl) ?_ ?_))
  ·refine cases10 ?_ ?_ ?_ ?_ ?_ ?_ ?_ ?_ ?_ ?_
   ·exact fun β L c9 => ⟨_, rfl, .inl (OG.of_OL (mvO ((pS_old rfl).trans rfl) ⟨β, pS_put (d := 28) (i := 0) rfl (fun t ht => ownP_inj ht (by decide)) (lt_size 11 c9.size rfl (by decide)) rfl⟩))⟩
   ·exact fun β L c9 => ⟨_, rfl, .inl (OG.of_OL (mvD (y := dI (0 : Nat)) ((pS_old rfl).trans rfl) ⟨β, pS_put (d := 29) (i := 1) rfl (fun t ht => ownP_inj ht (by decide)) (lt_size 11 c9.size rfl (by decide)) rfl⟩))⟩
   ·exact fun β L c9 => ⟨_, rfl, .inl (OG.of_OL (slO sl.Ways (pS_new rfl (c9.dep 0 (by kernel_rfl))) (pS_new rfl (c9.dep 1 (by kernel_rfl))) (by decide) ⟨β, pS_put (d := 30) (i := 2) rfl (fun t ht => ownP_inj ht (by decide)) (lt_size 11 c9.size rfl (by decide)) rfl⟩))⟩
   ·exact fun β L c9 => ⟨_, rfl, .inl (OG.of_OL (ldPA ag.Way ((pS_old rfl).trans rfl) ((pS_Mold rfl).trans rfl) (vs := cellsW w) rfl (nb9 rfl) ⟨β, pS_put (d := 31) (i := 3) rfl (fun t ht => ownP_inj ht (by decide)) (lt_size 11 c9.size rfl (by decide)) rfl⟩))⟩
   ·exact fun β L c9 => ⟨_, rfl, .inl (OG.of_OL (lt1O (y := dWay w) sl.Ways (vd_to (pS_new rfl (c9.dep 3 (by kernel_rfl))) vd_way) rfl (by decide) ((pS_M0 (t := 32) (i := 4) rfl c9.no).trans rfl) fun b8 => ⟨upd β 32 (b8, 1), pS_add (d := 32) (i := 4) (x := (b8, 1)) rfl (fun t ht => ownP_inj ht (by decide)) (lt_size 11 c9.size rfl (by decide)) rfl rfl (fun t j ho hl => by unfold ownP at ho; split at ho <;> cases ho <;> first | exact ⟨rfl, rfl⟩ | (rw [c9.no] at hl; cases hl) | (have hc := c9.closed 9 4 hl (by kernel_rfl); rw [c9.no] at hc; cases hc))⟩))⟩
   ·exact fun β L c9 => ⟨_, rfl, .inl (OG.of_OL (mvO ((pS_old rfl).trans rfl) ⟨β, pS_put (d := 33) (i := 5) rfl (fun t ht => ownP_inj ht (by decide)) (lt_size 11 c9.size rfl (by decide)) rfl⟩))⟩
   ·exact fun β L c9 => ⟨_, rfl, .inl (OG.of_OL (mvD (y := dI (0 : Nat)) ((pS_old rfl).trans rfl) ⟨β, pS_put (d := 34) (i := 6) rfl (fun t ht => ownP_inj ht (by decide)) (lt_size 11 c9.size rfl (by decide)) rfl⟩))⟩
   ·exact fun β L c9 => ⟨_, rfl, SG.of_SO (SO.cutAll (sz := 4) (id := 1000) (b := b) (n := 1) (c := c) (show 35 < E.n by rw [hE]; exact Nat.le_of_ble_eq_true rfl) sl.Ways (pS_new rfl (c9.dep 5 (by kernel_rfl))) (pS_new rfl (c9.dep 6 (by kernel_rfl))) ⟨β, pS_put (d := 35) (i := 7) rfl (fun t ht => ownP_inj ht (by decide)) (lt_size 11 c9.size rfl (by decide)) rfl⟩)⟩
   ·exact fun β L c9 => ⟨_, rfl, SG.of_SO (SO.appGrow (n := 1) (i := 32) (j := 1000) (es := [dWay w]) (es2 := [dWay a]) (n2 := 1) (show 36 < E.n by rw [hE]; exact Nat.le_of_ble_eq_true rfl) sl.Ways (pS_new rfl (c9.dep 4 (by kernel_rfl))) (pS_M (t := 32) (i := 4) rfl (c9.dep 4 (by kernel_rfl)) rfl) rfl (by decide) (pS_new rfl (c9.dep 7 (by kernel_rfl))) ((pS_M0 (t := 1000) (i := 9) rfl (come_later c9 (by kernel_rfl))).trans rfl) (Nat.le_refl 1) (by decide) ((pS_M0 (t := 36) (i := 8) rfl c9.no).trans rfl) (by decide) (by decide) ⟨β, pS_put (d := 36) (i := 8) rfl (fun t ht => ownP_inj ht (by decide)) (lt_size 11 c9.size rfl (by decide)) rfl⟩)⟩
   ·exact fun β L c9 => ⟨_, rfl, SG.of_SO (SO.appKeep (id := 1000) (es := [dWay a]) (n := 0) (xs := [dWay w, dWay a]) (show 37 < E.n by rw [hE]; exact Nat.le_of_ble_eq_true rfl) sl.Ways (pS_new rfl (c9.dep 2 (by kernel_rfl))) ((pS_M0 (t := 1000) (i := 9) rfl c9.no).trans rfl) (show 0 ≤ 1 by decide) (vc_to (pS_new rfl (c9.dep 8 (by kernel_rfl))) (VC.d _)) (fun y hy => by rcases List.mem_cons.1 hy with rfl | hy; rfl; rw [List.mem_singleton.1 hy]; rfl) (show 2 * 80 ≤ 140737488355328 by decide) (show 2 ≤ 4611686018427387904 by decide) fun b8 c8 => ⟨upd β 37 (b8, c8), pS_addM (d := 37) (e := 1000) (i := 9) (x := (b8, c8)) rfl rfl (by decide) (fun t ht => ownP_two ht) (lt_size 11 c9.size rfl (by decide)) c9.no rfl rfl rfl rfl (fun t j ho hl => by unfold ownP at ho; split at ho <;> cases ho <;> first | exact ⟨rfl, rfl⟩ | (rw [c9.no] at hl; cases hl) | (have hc := c9.closed 9 9 hl (by kernel_rfl); rw [c9.no] at hc; cases hc))⟩)⟩
  refine fun β L c9 => ⟨_, rfl, .inl (OG.of_OL (asO (pS_new rfl (c9.dep 9 (by kernel_rfl))) ?_))⟩
  refine OL.nil ?_
  refine AW.to [(0, .osl 1000 (β 37).1 2 (β 37).2), (2, .d (dI 1))] [(1000, .row (β 37).1 (β 37).2 T.Way 4 [dWay w, dWay a])] (.cons (vle_of_eq putsmS) (.cons (vle_of_eq (putneS (by decide) ((pS_old rfl).trans rfl))) .nil)) (.cons (putM (pS_M (t := 1000) (i := 9) rfl (c9.dep 9 (by kernel_rfl)) rfl)) .nil) ?_
  refine AW.seq (AW.sg hE rfl (mvO rfl (lnO sl.Ways rfl rfl (mvD rfl (c_gtr rfl rfl (c := true) (by exact decide_eq_true (by omega)) (OL.nil (AW.cond rfl (fun _ => ?_) (fun hno => absurd hno (by decide)))))))))
  refine AW.rg hE rfl (mvO rfl (mvD rfl (slO (h := 1) sl.Ways rfl rfl (by decide) (asO rfl (OL.nil (AW.sg hE rfl (mvO rfl ?_)))))))
  exact asO rfl (OL.nil (AW.ret ⟨.inr rfl, 1000, _, _, _, rfl, rfl, (show 1 ≤ 2 by decide), (by rw [hb]; rfl)⟩))
end Go.Proofs.YtjghehkgmanmbaaGreat

/-
  Walks of the specification of chapter 35: ways are put into a list of one (printed by mk2.py).
-/
import Derived.Test.YtcebciggodhmcaaGreatKOnE
import Derived.Test.YtcebciggodhmcaaGreatKOnC
import Derived.Test.YtcebciggodhmcaaGreatKMul
import Derived.Test.YtcebciggodhmcaaGreatKAlg29
import Derived.Test.YtcebciggodhmcaaGreatKMod37d
set_option linter.unusedVariables false
set_option linter.unusedSimpArgs false
namespace Go.Proofs.YtcebciggodhmcaaGreat
open Go Go.AL
abbrev cellsW (w : Rat × List Int) : List V := [.d (ints w.2), .d (dB (ofQ w.1).neg), .d (u32s (ofQ w.1).num), .d (u32s (ofQ w.1).den)]
abbrev vWay (w : Rat × List Int) : V := .ag (cellsW w)
abbrev dWay (w : Rat × List Int) : D := .ag [ints w.2, dB (ofQ w.1).neg, u32s (ofQ w.1).num, u32s (ofQ w.1).den]
theorem vd_way {w : Rat × List Int} : VD (vWay w) (dWay w) := VD.ag (.cons (VC.d _) (.cons (VC.d _) (.cons (VC.d _) (.cons (VC.d _) .nil))))
theorem vd_to {x y : V} {d : D} (h : x = y) (hd : VD y d) : VD x d := h ▸ hd
theorem vc_to {x y : V} {d : D} (h : x = y) (hd : VC y d) : VC x d := h ▸ hd
def befW (a b : Rat × List Int) : Bool := decide (b.1 < a.1 ∨ (a.1 = b.1 ∧ cmpS a.2 b.2 < 0))
theorem come_later {ops : Array Oper} {L : Array Bool} {i k : Nat} (c : Come ops L i) (h : depB ops k i = true) : L.getD k false = false := by
  cases e : L.getD k false with
  | false => rfl
  | true =>
    have := c.closed k i e h
    rw [c.no] at this
    cases this
section
variable {P : Program} {m : Nat} {ops : Array Oper} {K : S → Prop} {r : List Oper} {s : S} {dst : Option Nat} {ty : TypeId} {pos : String} {after : Array Edge}
theorem slMt {t e sz by_ : Nat} {x y : Operand} {k : IntKind} (hT : SliceT P t e sz by_) (hx : s.ev x = .mt) (hy : s.ev y = .d (.sc (.int k (0 : Nat)))) (h : OL P m ops K r (s.put dst .mt)) : OL P m ops K (⟨dst, .slice t x none (some y) none, ty, pos, after, none⟩ :: r) s := OL.pure (.cutM hx hT rfl ⟨k, hy⟩) h
theorem slMf {t e sz by_ : Nat} {x y : Operand} {k : IntKind} (hT : SliceT P t e sz by_) (hx : s.ev x = .mt) (hy : s.ev y = .d (.sc (.int k (0 : Nat)))) (h : OL P m ops K r (s.put dst .mt)) : OL P m ops K (⟨dst, .slice t x (some y) none none, ty, pos, after, none⟩ :: r) s := OL.pure (.cutM hx hT ⟨k, hy⟩ rfl) h
end
theorem cases10 {p : Nat → Prop} (h0 : p 0) (h1 : p 1) (h2 : p 2) (h3 : p 3) (h4 : p 4) (h5 : p 5) (h6 : p 6) (h7 : p 7) (h8 : p 8) (h9 : p 9) : ∀ i, i < 10 → p i := fun i hi => by
  have : i = 0 ∨ i = 1 ∨ i = 2 ∨ i = 3 ∨ i = 4 ∨ i = 5 ∨ i = 6 ∨ i = 7 ∨ i = 8 ∨ i = 9 := by omega
  rcases this with rfl | rfl | rfl | rfl | rfl | rfl | rfl | rfl | rfl | rfl <;> assumption
def ownP : Nat → Option Nat
  | 28 => some 0 | 29 => some 1 | 30 => some 2 | 31 => some 3 | 32 => some 4 | 33 => some 5 | 34 => some 6 | 35 => some 7 | 36 => some 8 | 37 => some 9 | 1000 => some 9
  | _ => none
theorem ownP_inj {t i : Nat} (h : ownP t = some i) (hi : i ≠ 9) : t = [28, 29, 30, 31, 32, 33, 34, 35, 36].getD i 0 := by
  unfold ownP at h
  split at h <;> first | (cases h; rfl) | (cases h; exact absurd rfl hi) | cases h
theorem ownP_two {t : Nat} (h : ownP t = some 9) : t = 37 ∨ t = 1000 := by
  unfold ownP at h
  split at h <;> first | (cases h; done) | (exact .inl rfl) | (exact .inr rfl) | cases h
noncomputable def valB (w : Rat × List Int) (b c : Nat) (t : Nat) (β : Nat → Nat × Nat) : V :=
  match t with
  | 28 | 30 | 33 => .osl 1000 b 1 c
  | 29 | 34 => .d (dI (1 : Nat))
  | 31 => vWay w
  | 32 | 36 => .d (.sl [dWay w])
  | 35 => .d (.sl [])
  | 37 => .osl 1000 (β 37).1 2 (β 37).2
  | _ => .junk
noncomputable def blkB (w a : Rat × List Int) (t : Nat) (β : Nat → Nat × Nat) : Option Blk :=
  match t with
  | 1000 => some (.row (β 37).1 (β 37).2 T.Way 4 [dWay a, dWay w])
  | _ => none
noncomputable def valA (w a : Rat × List Int) (b c : Nat) (t : Nat) (β : Nat → Nat × Nat) : V :=
  match t with
  | 28 | 33 | 35 => .osl 1000 b 1 c
  | 30 => .osl 1000 b 0 c
  | 29 | 34 => .d (dI (0 : Nat))
  | 31 => vWay w
  | 32 => .osl 32 (β 32).1 1 1
  | 36 => .d (.sl [dWay w, dWay a])
  | 37 => .osl 1000 (β 37).1 2 (β 37).2
  | _ => .junk
noncomputable def blkA (w a : Rat × List Int) (t : Nat) (β : Nat → Nat × Nat) : Option Blk :=
  match t with
  | 32 => some (.row (β 32).1 1 T.Way 4 [dWay w])
  | 1000 => some (.row (β 37).1 (β 37).2 T.Way 4 [dWay w, dWay a])
  | _ => none
def ownN : Nat → Option Nat
  | 28 => some 0 | 29 => some 1 | 30 => some 2 | 31 => some 3 | 32 => some 4 | 33 => some 5 | 34 => some 6 | 35 => some 7 | 36 => some 8 | 37 => some 9
  | _ => none
theorem ownN_inj {t i : Nat} (h : ownN t = some i) : t = [28, 29, 30, 31, 32, 33, 34, 35, 36, 37].getD i 0 := by
  unfold ownN at h
  split at h <;> first | (cases h; rfl) | cases h
noncomputable def valN (w : Rat × List Int) (t : Nat) (β : Nat → Nat × Nat) : V :=
  match t with
  | 28 | 30 | 33 | 35 => .mt
  | 29 | 34 => .d (dI (0 : Nat))
  | 31 => vWay w
  | 32 | 36 => .d (.sl [dWay w])
  | 37 => .osl 37 (β 37).1 1 (β 37).2
  | _ => .junk
noncomputable def blkN (w : Rat × List Int) (t : Nat) (β : Nat → Nat × Nat) : Option Blk :=
  match t with
  | 37 => some (.row (β 37).1 (β 37).2 T.Way 4 [dWay w])
  | _ => none
theorem ref35_Before {a b : Rat × List Int} (ha : sz a.1 ≤ 68719476736) (hb : sz b.1 ≤ 68719476736) (nl : a.2.length ≤ 1099511627776) : FSpec P F.ref35_Before [vWay a, vWay b] (.d (dB (befW a b))) := by
  refine FSpec.intro fn.ref35_Before (by rfl) (by rfl) (Nat.le_of_ble_eq_true (by rfl)) fun E hE => ?_
  refine AW.seq ?_
  refine AW.region (by rw [hE]; rfl) ?_
  refine bxA rfl rfl fun b2 => ?_
  refine bxA rfl rfl fun b3 => ?_
  refine asD rfl ?_
  refine OL.nil ?_
  refine AW.seq ?_
  refine AW.seq ?_
  refine AW.region (by rw [hE]; rfl) ?_
  refine faP fd.Way_1 rfl rfl ?_
  refine ldPA ag.Rat rfl rfl (vs := [_, _, _]) rfl (Nat.le_of_ble_eq_true rfl) ?_
  refine faP fd.Way_1 rfl rfl ?_
  refine ldPA ag.Rat rfl rfl (vs := [_, _, _]) rfl (Nat.le_of_ble_eq_true rfl) ?_
  refine clv rfl (.cons (VLe.refl _) (.cons (VLe.refl _) (.nil))) (ref_CompareQ (x := a.1) (y := b.1) (by omega) (by omega)) ?_
  refine asD rfl ?_
  refine OL.nil ?_
  refine AW.seq ?_
  refine AW.region (by rw [hE]; rfl) ?_
  refine mvD rfl ?_
  refine c_neq rfl rfl rfl ?_
  refine OL.nil ?_
  refine AW.cond rfl (fun hc => ?_) (fun hc => ?_)
  · have hc := nd_t hc
    refine AW.seq ?_
    refine AW.region (by rw [hE]; rfl) ?_
    refine mvD rfl ?_
    refine c_gtr rfl rfl rfl ?_
    refine asD rfl ?_
    refine OL.nil ?_
    exact AW.ret (RetQ.r ⟨_, .tmp rfl .nil, .le (VLe.bool (decide_eq_decide.2 ⟨fun e => .inl (cmpQ_gt.1 e), fun e => cmpQ_gt.2 (e.resolve_right fun k => hc (cmpQ_eq.2 k.1))⟩))⟩)
  · have hc := nd_f hc
    refine AW.skip ?_
    refine AW.seq ?_
    refine AW.region (by rw [hE]; rfl) ?_
    refine faP fd.Way_0 rfl rfl ?_
    refine ldPC ce.ints rfl rfl rfl ?_
    refine faP fd.Way_0 rfl rfl ?_
    refine ldPC ce.ints rfl rfl rfl ?_
    refine clv rfl (.cons (VLe.refl _) (.cons (VLe.refl _) (.nil))) (ref05_CompareS nl) ?_
    refine c_lss rfl rfl rfl ?_
    refine asD rfl ?_
    refine OL.nil ?_
    exact AW.ret (RetQ.r ⟨_, .tmp rfl .nil, .le (VLe.bool (decide_eq_decide.2 ⟨fun e => .inr ⟨cmpQ_eq.1 hc, e⟩, fun e => (e.resolve_left fun k => Rat.ne_of_lt k (cmpQ_eq.1 hc).symm).2⟩))⟩)
theorem put_zero {v : Value} {w : Rat × List Int} {k : Int} (h : w.1 = 0) : FSpec P F.ref35_put [.d (.sc v), vWay w, .d (dI k)] (.d (.sc v)) := by
  have z0 : sz w.1 ≤ 68719476736 := by rw [h, sz_zero]; decide
  refine FSpec.intro fn.ref35_put (by rfl) (by rfl) (Nat.le_of_ble_eq_true (by rfl)) fun E hE => ?_
  refine AW.seq ?_
  refine AW.region (by rw [hE]; rfl) ?_
  refine bxA rfl rfl fun b4 => ?_
  refine asM rfl ?_
  refine OL.nil ?_
  refine AW.seq ?_
  refine AW.seq ?_
  refine AW.region (by rw [hE]; rfl) ?_
  refine faP fd.Way_1 rfl rfl ?_
  refine ldPA ag.Rat rfl rfl (vs := [_, _, _]) rfl (Nat.le_of_ble_eq_true rfl) ?_
  refine clv rfl (.cons (VLe.refl _) (.nil)) (ref_SignQ (x := w.1) (by omega)) ?_
  refine c_eql rfl rfl (c := true) (decide_eq_true (sgnQ_eq.2 h)) ?_
  refine OL.nil ?_
  refine AW.cond rfl (fun _ => ?_) (fun hno => absurd hno (by decide))
  refine AW.seq ?_
  refine AW.region (by rw [hE]; rfl) ?_
  refine mvD rfl ?_
  refine asD rfl ?_
  refine OL.nil ?_
  exact AW.ret (RetQ.r ⟨_, .tmp rfl .nil, .le (by first | exact VLe.refl _ | exact VLe.mt | exact vle_q0 | exact VLe.int (by omega) | exact VLe.bool (by simp_all))⟩)
theorem put_new {w : Rat × List Int} (hz : sz w.1 ≤ 68719476736) (h0 : w.1 ≠ 0) : FSpecR P F.ref35_put [.mt, vWay w, .d (dI 1)] 1 T.Way 4 [dWay w] := by
  refine FSpecR.intro fn.ref35_put (by rfl) (by rfl) (Nat.le_of_ble_eq_true (by rfl)) 6 rfl fun E hE => ?_
  refine AW.seq ?_
  refine AW.region (by rw [hE]; rfl) ?_
  refine bxA rfl rfl fun b4 => ?_
  refine asM rfl ?_
  refine OL.nil ?_
  refine AW.seq ?_
  refine AW.seq ?_
  refine AW.region (by rw [hE]; rfl) ?_
  refine faP fd.Way_1 rfl rfl ?_
  refine ldPA ag.Rat rfl rfl (vs := [_, _, _]) rfl (Nat.le_of_ble_eq_true rfl) ?_
  refine clv rfl (.cons (VLe.refl _) (.nil)) (ref_SignQ (x := w.1) (by omega)) ?_
  refine c_eql rfl rfl (c := false) (decide_eq_false fun e => h0 (sgnQ_eq.1 e)) ?_
  refine OL.nil ?_
  refine AW.cond rfl (fun hno => absurd hno (by decide)) (fun _ => ?_)
  refine AW.skip ?_
  refine AW.seq ?_
  refine AW.region (by rw [hE]; rfl) ?_
  refine mvM rfl ?_
  refine lnM sl.Ways rfl rfl ?_
  refine asD rfl ?_
  refine OL.nil ?_
  refine AW.seq ?_
  refine AW.block ?_
  refine AW.whileK (α := Unit) [(0, _), (2, _), (4, _), (6, _)] [(4, _)] (fun _u => [(7, .d (dI (0 : Nat)))]) (fun _u => []) (fun _u => True) (fun _u => 0) () (by repeat (first | exact Knows.nil | refine Knows.cons (by first | exact knD rfl | exact knA rfl | exact knP rfl | exact knO rfl | exact knM rfl | exact knE rfl | exact knR rfl | exact knF rfl | exact knT rfl | exact knJ) ?_)) (.cons (by first | exact owB rfl | exact owR rfl | exact owL rfl | exact owT rfl) .nil) ⟨trivial, .cons (by first | exact VLe.refl _ | exact VLe.int (by omega) | exact VLe.mt | exact vle_q0 | exact VLe.osl | exact VLe.ptr) .nil, .nil⟩ ?_
  intro _u hφ
  refine AW.seq ?_
  refine AW.seq ?_
  refine AW.region_draw 1 [0, 1, 2, 3, 4, 5, 6, 7, 8, 9, 10] order_free (by rw [hE]; rfl) (by kernel_rfl) (OI.of_OL (os := [_, _, _, _, _, _, _, _, _, _, _]) rfl ?_)
  refine mvD rfl ?_
  refine c_gtr rfl rfl (c := false) (by first | exact decide_eq_true (by omega) | exact decide_eq_false (by omega) | exact cne_f (by omega) | exact cne_t (by omega) | rfl) ?_
  refine mvD rfl ?_
  refine OL.no rfl (by decide) ?_
  refine OL.no rfl (by decide) ?_
  refine OL.no rfl (by decide) ?_
  refine OL.no rfl (by decide) ?_
  refine OL.no rfl (by decide) ?_
  refine OL.no rfl (by decide) ?_
  refine OL.no rfl (by decide) ?_
  refine pkF rfl rfl ?_
  refine OL.nil ?_
  refine AW.cond rfl (fun hno => absurd hno (by decide)) (fun _ => ?_)
  refine AW.exit ?_
  refine AW.seq ?_
  refine AW.region_planS (valN w) (blkN w) ownN 10 order_free (by rw [hE]; rfl) (by rfl) (by kernel_rfl) (by kernel_rfl) ?_ ?_
  · refine cases10 ?_ ?_ ?_ ?_ ?_ ?_ ?_ ?_ ?_ ?_
    · exact fun β L c9 => ⟨_, rfl, .inl (OG.of_OL (mvM ((pS_old rfl).trans rfl) ⟨β, pS_put (d := 28) (i := 0) rfl (fun t ht => ownN_inj ht) (lt_size 11 c9.size rfl (by decide)) rfl⟩))⟩
    · exact fun β L c9 => ⟨_, rfl, .inl (OG.of_OL (mvD (y := dI (0 : Nat)) ((pS_old rfl).trans rfl) ⟨β, pS_put (d := 29) (i := 1) rfl (fun t ht => ownN_inj ht) (lt_size 11 c9.size rfl (by decide)) rfl⟩))⟩
    · exact fun β L c9 => ⟨_, rfl, .inl (OG.of_OL (slMt sl.Ways (pS_new rfl (c9.dep 0 (by kernel_rfl))) (pS_new rfl (c9.dep 1 (by kernel_rfl))) ⟨β, pS_put (d := 30) (i := 2) rfl (fun t ht => ownN_inj ht) (lt_size 11 c9.size rfl (by decide)) rfl⟩))⟩
    · exact fun β L c9 => ⟨_, rfl, .inl (OG.of_OL (ldPA ag.Way ((pS_old rfl).trans rfl) ((pS_Mold rfl).trans rfl) (vs := cellsW w) rfl (Nat.le_of_ble_eq_true rfl) ⟨β, pS_put (d := 31) (i := 3) rfl (fun t ht => ownN_inj ht) (lt_size 11 c9.size rfl (by decide)) rfl⟩))⟩
    · exact fun β L c9 => ⟨_, rfl, .inl (OG.of_OL (lt1 (y := dWay w) sl.Ways (vd_to (pS_new rfl (c9.dep 3 (by kernel_rfl))) vd_way) rfl (by decide) ⟨β, pS_put (d := 32) (i := 4) rfl (fun t ht => ownN_inj ht) (lt_size 11 c9.size rfl (by decide)) rfl⟩))⟩
    · exact fun β L c9 => ⟨_, rfl, .inl (OG.of_OL (mvM ((pS_old rfl).trans rfl) ⟨β, pS_put (d := 33) (i := 5) rfl (fun t ht => ownN_inj ht) (lt_size 11 c9.size rfl (by decide)) rfl⟩))⟩
    · exact fun β L c9 => ⟨_, rfl, .inl (OG.of_OL (mvD (y := dI (0 : Nat)) ((pS_old rfl).trans rfl) ⟨β, pS_put (d := 34) (i := 6) rfl (fun t ht => ownN_inj ht) (lt_size 11 c9.size rfl (by decide)) rfl⟩))⟩
    · exact fun β L c9 => ⟨_, rfl, .inl (OG.of_OL (slMf sl.Ways (pS_new rfl (c9.dep 5 (by kernel_rfl))) (pS_new rfl (c9.dep 6 (by kernel_rfl))) ⟨β, pS_put (d := 35) (i := 7) rfl (fun t ht => ownN_inj ht) (lt_size 11 c9.size rfl (by decide)) rfl⟩))⟩
    · exact fun β L c9 => ⟨_, rfl, SG.of_SO (SO.appNone (dst := some 36) (es := [dWay w]) (show 36 < E.n by rw [hE]; exact Nat.le_of_ble_eq_true rfl) sl.Ways (pS_new rfl (c9.dep 4 (by kernel_rfl))) (vc_to (pS_new rfl (c9.dep 7 (by kernel_rfl))) VC.mt) ⟨β, pS_put (d := 36) (i := 8) rfl (fun t ht => ownN_inj ht) (lt_size 11 c9.size rfl (by decide)) rfl⟩)⟩
    · exact fun β L c9 => ⟨_, rfl, .inl (OG.of_OL (apM sl.Ways rfl (pS_new rfl (c9.dep 2 (by kernel_rfl))) (xs := [dWay w]) (vc_to (pS_new rfl (c9.dep 8 (by kernel_rfl))) (VC.d _)) (fun y hy => by rw [List.mem_singleton.1 hy]; rfl) (show 1 * 80 ≤ 140737488355328 by decide) (show 1 ≤ 4611686018427387904 by decide) ((pS_M0 (t := 37) (i := 9) rfl c9.no).trans rfl) fun b8 c8 => ⟨upd β 37 (b8, c8), pS_add (d := 37) (i := 9) (x := (b8, c8)) rfl (fun t ht => ownN_inj ht) (lt_size 11 c9.size rfl (by decide)) rfl rfl (fun t j ho hl => by unfold ownN at ho; split at ho <;> cases ho <;> first | exact ⟨rfl, rfl⟩ | (rw [c9.no] at hl; cases hl) | (have hc := c9.closed 9 9 hl (by kernel_rfl); rw [c9.no] at hc; cases hc))⟩))⟩
  refine fun β L c9 => ⟨_, rfl, .inl (OG.of_OL (asO (pS_new rfl (c9.dep 9 (by kernel_rfl))) ?_))⟩
  refine OL.nil ?_
  refine AW.to [(0, .osl 37 (β 37).1 1 (β 37).2), (2, .d (dI 1))] [(37, .row (β 37).1 (β 37).2 T.Way 4 [dWay w])] (.cons (vle_of_eq putsmS) (.cons (vle_of_eq (putneS (by decide) ((pS_old rfl).trans rfl))) .nil)) (.cons (putM (pS_M (t := 37) (i := 9) rfl (c9.dep 9 (by kernel_rfl)) rfl)) .nil) ?_
  refine AW.seq ?_
  refine AW.seq ?_
  refine AW.region (by rw [hE]; rfl) ?_
  refine mvO rfl ?_
  refine lnO sl.Ways rfl rfl ?_
  refine mvD rfl ?_
  refine c_gtr rfl rfl (c := false) (by first | exact decide_eq_true (by omega) | exact decide_eq_false (by omega) | exact cne_f (by omega) | exact cne_t (by omega) | rfl) ?_
  refine OL.nil ?_
  refine AW.cond rfl (fun hno => absurd hno (by decide)) (fun _ => ?_)
  refine AW.skip ?_
  refine AW.seq ?_
  refine AW.region (by rw [hE]; rfl) ?_
  refine mvO rfl ?_
  refine asO rfl ?_
  refine OL.nil ?_
  exact AW.ret ⟨.inr rfl, _, _, _, _, rfl, rfl, Nat.le_refl 1, rfl⟩
set_option maxRecDepth 8000 in
set_option maxHeartbeats 1600000 in
theorem put_more {w a : Rat × List Int} (hz : sz w.1 ≤ 68719476736) (za : sz a.1 ≤ 68719476736) (nl : w.2.length ≤ 1099511627776) (h0 : w.1 ≠ 0) : FSpecO P F.ref35_put (fun l => [l, vWay w, .d (dI 1)]) 1 T.Way 4 [dWay a] 1 [dWay (if befW w a = true then w else a)] := by
  refine FSpecO.intro fn.ref35_put (by rfl) (by rfl) (fun _ => Nat.le_of_ble_eq_true (by rfl)) 6 rfl fun E b c hE => ?_
  refine AW.rename 0 1000 rfl ?_
  refine AW.seq ?_
  refine AW.region (by rw [hE]; rfl) ?_
  refine bxA rfl rfl fun b4 => ?_
  refine asM rfl ?_
  refine OL.nil ?_
  refine AW.seq ?_
  refine AW.seq ?_
  refine AW.region (by rw [hE]; rfl) ?_
  refine faP fd.Way_1 rfl rfl ?_
  refine ldPA ag.Rat rfl rfl (vs := [_, _, _]) rfl (Nat.le_of_ble_eq_true rfl) ?_
  refine clv rfl (.cons (VLe.refl _) (.nil)) (ref_SignQ (x := w.1) (by omega)) ?_
  refine c_eql rfl rfl (c := false) (decide_eq_false fun e => h0 (sgnQ_eq.1 e)) ?_
  refine OL.nil ?_
  refine AW.cond rfl (fun hno => absurd hno (by decide)) (fun _ => ?_)
  refine AW.skip ?_
  refine AW.seq ?_
  refine AW.region (by rw [hE]; rfl) ?_
  refine mvO rfl ?_
  refine lnO sl.Ways rfl rfl ?_
  refine asD rfl ?_
  refine OL.nil ?_
  refine AW.seq ?_
  refine AW.block ?_
  refine AW.whileK (α := Nat) [(2, _), (4, _), (6, _)] [(4, _), (1000, _)] (fun at_ => [(0, .osl 1000 b 1 c), (7, .d (dI at_))]) (fun at_ => []) (fun at_ => at_ ≤ 1 ∧ (at_ = 0 → befW w a = true)) (fun at_ => at_) 1 (by repeat (first | exact Knows.nil | refine Knows.cons (by first | exact knD rfl | exact knA rfl | exact knP rfl | exact knO rfl | exact knM rfl | exact knE rfl | exact knR rfl | exact knF rfl | exact knT rfl | exact knJ) ?_)) (by repeat (first | exact Owns.nil | refine Owns.cons (by first | exact owB rfl | exact owR rfl | exact owL rfl | exact owT rfl) ?_)) ⟨⟨Nat.le_refl 1, fun e => absurd e (by decide)⟩, .cons (by first | exact VLe.refl _ | exact VLe.int (by omega) | exact VLe.mt | exact vle_q0 | exact VLe.osl | exact VLe.ptr) (.cons (by first | exact VLe.refl _ | exact VLe.int (by omega) | exact VLe.mt | exact vle_q0 | exact VLe.osl | exact VLe.ptr) .nil), .nil⟩ ?_
  rintro at_ ⟨h1, h2⟩
  have h1 : at_ ≤ 1 := h1
  have h2 : at_ = 0 → befW w a = true := h2
  refine AW.seq ?_
  refine AW.seq ?_
  refine AW.region_draw 1 [0, 1, 2, 3, 4, 5, 6, 7, 8, 9, 10] order_free (by rw [hE]; rfl) (by kernel_rfl) (OI.of_OL (os := [_, _, _, _, _, _, _, _, _, _, _]) rfl ?_)
  refine mvD rfl ?_
  refine c_gtr rfl rfl rfl ?_
  refine mvD rfl ?_
  refine OL.split 17 rfl (fun g1 => ?_) (fun g1 => ?_)
  · have g1 : 0 < at_ := by have := of_decide_eq_true g1; omega
    obtain rfl : at_ = 1 := by omega
    refine OL.yes rfl ?_
    refine ldPA ag.Way rfl rfl (vs := [_, _, _, _]) rfl (Nat.le_of_ble_eq_true rfl) ?_
    refine OL.yes rfl ?_
    refine mvO rfl ?_
    refine OL.yes rfl ?_
    refine mvD rfl ?_
    refine OL.yes rfl ?_
    refine bo rfl rfl (bin_sub (c := 0) (by decide) (wrap_i64 (by decide))) ?_
    refine OL.yes rfl ?_
    refine ixO (n := 0) (i := 0) sl.Ways rfl rfl (by decide) (by decide) rfl ?_
    refine OL.yes rfl ?_
    refine ldEA ag.Way (by decide) rfl rfl rfl (vs := cellsW a) rfl (Nat.le_of_ble_eq_true rfl) ?_
    refine OL.yes rfl ?_
    refine clv rfl (.cons (VLe.refl _) (.cons (VLe.refl _) (.nil))) (ref35_Before (a := w) (b := a) (by omega) (by omega) nl) ?_
    refine pkT rfl rfl ?_
    refine OL.nil ?_
    refine AW.cond rfl (fun hb => ?_) (fun hb => ?_)
    · have _hb := hb
      refine AW.skip ?_
      refine AW.block ?_
      refine AW.region (by rw [hE]; rfl) ?_
      refine mvD rfl ?_
      refine bo rfl rfl (bin_sub (c := 0) (by decide) (wrap_i64 (by decide))) ?_
      refine asD rfl ?_
      refine OL.nil ?_
      exact AW.again (x := 1) 0 (by first | omega | (simp only []; omega)) ⟨⟨by omega, fun _ => hb⟩, Knows.app (.cons (VLe.refl _) (.cons (VLe.refl _) (.cons (VLe.refl _) .nil))) (.cons (by first | exact VLe.refl _ | exact VLe.int (by omega) | exact VLe.mt | exact vle_q0 | exact VLe.osl | exact VLe.ptr) (.cons (by first | exact VLe.refl _ | exact VLe.int (by omega) | exact VLe.mt | exact vle_q0 | exact VLe.osl | exact VLe.ptr) .nil)), Owns.app (.cons rfl (.cons rfl .nil)) (.nil)⟩
    · have _hb := hb
      refine AW.exit ?_
      refine AW.seq ?_
      refine AW.region_planS (valB w b c) (blkB w a) ownP 10 order_free (by rw [hE]; rfl) (by rfl) (by kernel_rfl) (by kernel_rfl) ?_ ?_
      · refine cases10 ?_ ?_ ?_ ?_ ?_ ?_ ?_ ?_ ?_ ?_
        · exact fun β L c9 => ⟨_, rfl, .inl (OG.of_OL (mvO ((pS_old rfl).trans rfl) ⟨β, pS_put (d := 28) (i := 0) rfl (fun t ht => ownP_inj ht (by decide)) (lt_size 11 c9.size rfl (by decide)) rfl⟩))⟩
        · exact fun β L c9 => ⟨_, rfl, .inl (OG.of_OL (mvD (y := dI (1 : Nat)) ((pS_old rfl).trans rfl) ⟨β, pS_put (d := 29) (i := 1) rfl (fun t ht => ownP_inj ht (by decide)) (lt_size 11 c9.size rfl (by decide)) rfl⟩))⟩
        · exact fun β L c9 => ⟨_, rfl, .inl (OG.of_OL (slO sl.Ways (pS_new rfl (c9.dep 0 (by kernel_rfl))) (pS_new rfl (c9.dep 1 (by kernel_rfl))) (by decide) ⟨β, pS_put (d := 30) (i := 2) rfl (fun t ht => ownP_inj ht (by decide)) (lt_size 11 c9.size rfl (by decide)) rfl⟩))⟩
        · exact fun β L c9 => ⟨_, rfl, .inl (OG.of_OL (ldPA ag.Way ((pS_old rfl).trans rfl) ((pS_Mold rfl).trans rfl) (vs := cellsW w) rfl (Nat.le_of_ble_eq_true rfl) ⟨β, pS_put (d := 31) (i := 3) rfl (fun t ht => ownP_inj ht (by decide)) (lt_size 11 c9.size rfl (by decide)) rfl⟩))⟩
        · exact fun β L c9 => ⟨_, rfl, .inl (OG.of_OL (lt1 (y := dWay w) sl.Ways (vd_to (pS_new rfl (c9.dep 3 (by kernel_rfl))) vd_way) rfl (by decide) ⟨β, pS_put (d := 32) (i := 4) rfl (fun t ht => ownP_inj ht (by decide)) (lt_size 11 c9.size rfl (by decide)) rfl⟩))⟩
        · exact fun β L c9 => ⟨_, rfl, .inl (OG.of_OL (mvO ((pS_old rfl).trans rfl) ⟨β, pS_put (d := 33) (i := 5) rfl (fun t ht => ownP_inj ht (by decide)) (lt_size 11 c9.size rfl (by decide)) rfl⟩))⟩
        · exact fun β L c9 => ⟨_, rfl, .inl (OG.of_OL (mvD (y := dI (1 : Nat)) ((pS_old rfl).trans rfl) ⟨β, pS_put (d := 34) (i := 6) rfl (fun t ht => ownP_inj ht (by decide)) (lt_size 11 c9.size rfl (by decide)) rfl⟩))⟩
        · exact fun β L c9 => ⟨_, rfl, SG.of_SO (SO.cutEnd (sz := 4) (id := 1000) (b := b) (n := 1) (c := c) (show 35 < E.n by rw [hE]; exact Nat.le_of_ble_eq_true rfl) sl.Ways (pS_new rfl (c9.dep 5 (by kernel_rfl))) (pS_new rfl (c9.dep 6 (by kernel_rfl))) ⟨β, pS_put (d := 35) (i := 7) rfl (fun t ht => ownP_inj ht (by decide)) (lt_size 11 c9.size rfl (by decide)) rfl⟩)⟩
        · exact fun β L c9 => ⟨_, rfl, SG.of_SO (SO.appNone (dst := some 36) (es := [dWay w]) (show 36 < E.n by rw [hE]; exact Nat.le_of_ble_eq_true rfl) sl.Ways (pS_new rfl (c9.dep 4 (by kernel_rfl))) (vc_to (pS_new rfl (c9.dep 7 (by kernel_rfl))) (VC.d _)) ⟨β, pS_put (d := 36) (i := 8) rfl (fun t ht => ownP_inj ht (by decide)) (lt_size 11 c9.size rfl (by decide)) rfl⟩)⟩
        · exact fun β L c9 => ⟨_, rfl, SG.of_SO (SO.appKeep (id := 1000) (es := [dWay a]) (n := 1) (xs := [dWay w]) (show 37 < E.n by rw [hE]; exact Nat.le_of_ble_eq_true rfl) sl.Ways (pS_new rfl (c9.dep 2 (by kernel_rfl))) ((pS_M0 (t := 1000) (i := 9) rfl c9.no).trans rfl) (show 1 ≤ 1 by decide) (vc_to (pS_new rfl (c9.dep 8 (by kernel_rfl))) (VC.d _)) (fun y hy => by rw [List.mem_singleton.1 hy]; rfl) (show 2 * 80 ≤ 140737488355328 by decide) (show 2 ≤ 4611686018427387904 by decide) fun b8 c8 => ⟨upd β 37 (b8, c8), pS_addM (d := 37) (e := 1000) (i := 9) (x := (b8, c8)) rfl rfl (by decide) (fun t ht => ownP_two ht) (lt_size 11 c9.size rfl (by decide)) c9.no rfl rfl rfl rfl (fun t j ho hl => by unfold ownP at ho; split at ho <;> cases ho <;> first | exact ⟨rfl, rfl⟩ | (rw [c9.no] at hl; cases hl) | (have hc := c9.closed 9 9 hl (by kernel_rfl); rw [c9.no] at hc; cases hc))⟩)⟩
      refine fun β L c9 => ⟨_, rfl, .inl (OG.of_OL (asO (pS_new rfl (c9.dep 9 (by kernel_rfl))) ?_))⟩
      refine OL.nil ?_
      refine AW.to [(0, .osl 1000 (β 37).1 2 (β 37).2), (2, .d (dI 1))] [(1000, .row (β 37).1 (β 37).2 T.Way 4 [dWay a, dWay w])] (.cons (vle_of_eq putsmS) (.cons (vle_of_eq (putneS (by decide) ((pS_old rfl).trans rfl))) .nil)) (.cons (putM (pS_M (t := 1000) (i := 9) rfl (c9.dep 9 (by kernel_rfl)) rfl)) .nil) ?_
      refine AW.seq ?_
      refine AW.seq ?_
      refine AW.region (by rw [hE]; rfl) ?_
      refine mvO rfl ?_
      refine lnO sl.Ways rfl rfl ?_
      refine mvD rfl ?_
      refine c_gtr rfl rfl (c := true) (by first | exact decide_eq_true (by omega) | exact decide_eq_false (by omega) | exact cne_f (by omega) | exact cne_t (by omega) | rfl) ?_
      refine OL.nil ?_
      refine AW.cond rfl (fun _ => ?_) (fun hno => absurd hno (by decide))
      refine AW.region (by rw [hE]; rfl) ?_
      refine mvO rfl ?_
      refine mvD rfl ?_
      refine slO (h := 1) sl.Ways rfl rfl (by decide) ?_
      refine asO rfl ?_
      refine OL.nil ?_
      refine AW.seq ?_
      refine AW.region (by rw [hE]; rfl) ?_
      refine mvO rfl ?_
      refine asO rfl ?_
      refine OL.nil ?_
      exact AW.ret ⟨.inr rfl, 1000, _, _, _, rfl, rfl, (show 1 ≤ 2 by decide), (by rw [hb]; rfl)⟩
  · have g1 : at_ = 0 := by have := of_decide_eq_false g1; omega
    subst g1
    have hb := h2 rfl
    refine OL.no rfl (by decide) ?_
    refine OL.no rfl (by decide) ?_
    refine OL.no rfl (by decide) ?_
    refine OL.no rfl (by decide) ?_
    refine OL.no rfl (by decide) ?_
    refine OL.no rfl (by decide) ?_
    refine OL.no rfl (by decide) ?_
    refine pkF rfl rfl ?_
    refine OL.nil ?_
    refine AW.cond rfl (fun hno => absurd hno (by decide)) (fun _ => ?_)
    refine AW.exit ?_
    refine AW.seq ?_
    refine AW.region_planS (valA w a b c) (blkA w a) ownP 10 order_free (by rw [hE]; rfl) (by rfl) (by kernel_rfl) (by kernel_rfl) ?_ ?_
    · refine cases10 ?_ ?_ ?_ ?_ ?_ ?_ ?_ ?_ ?_ ?_
      · exact fun β L c9 => ⟨_, rfl, .inl (OG.of_OL (mvO ((pS_old rfl).trans rfl) ⟨β, pS_put (d := 28) (i := 0) rfl (fun t ht => ownP_inj ht (by decide)) (lt_size 11 c9.size rfl (by decide)) rfl⟩))⟩
      · exact fun β L c9 => ⟨_, rfl, .inl (OG.of_OL (mvD (y := dI (0 : Nat)) ((pS_old rfl).trans rfl) ⟨β, pS_put (d := 29) (i := 1) rfl (fun t ht => ownP_inj ht (by decide)) (lt_size 11 c9.size rfl (by decide)) rfl⟩))⟩
      · exact fun β L c9 => ⟨_, rfl, .inl (OG.of_OL (slO sl.Ways (pS_new rfl (c9.dep 0 (by kernel_rfl))) (pS_new rfl (c9.dep 1 (by kernel_rfl))) (by decide) ⟨β, pS_put (d := 30) (i := 2) rfl (fun t ht => ownP_inj ht (by decide)) (lt_size 11 c9.size rfl (by decide)) rfl⟩))⟩
      · exact fun β L c9 => ⟨_, rfl, .inl (OG.of_OL (ldPA ag.Way ((pS_old rfl).trans rfl) ((pS_Mold rfl).trans rfl) (vs := cellsW w) rfl (Nat.le_of_ble_eq_true rfl) ⟨β, pS_put (d := 31) (i := 3) rfl (fun t ht => ownP_inj ht (by decide)) (lt_size 11 c9.size rfl (by decide)) rfl⟩))⟩
      · exact fun β L c9 => ⟨_, rfl, .inl (OG.of_OL (lt1O (y := dWay w) sl.Ways (vd_to (pS_new rfl (c9.dep 3 (by kernel_rfl))) vd_way) rfl (by decide) ((pS_M0 (t := 32) (i := 4) rfl c9.no).trans rfl) fun b8 => ⟨upd β 32 (b8, 1), pS_add (d := 32) (i := 4) (x := (b8, 1)) rfl (fun t ht => ownP_inj ht (by decide)) (lt_size 11 c9.size rfl (by decide)) rfl rfl (fun t j ho hl => by unfold ownP at ho; split at ho <;> cases ho <;> first | exact ⟨rfl, rfl⟩ | (rw [c9.no] at hl; cases hl) | (have hc := c9.closed 9 4 hl (by kernel_rfl); rw [c9.no] at hc; cases hc))⟩))⟩
      · exact fun β L c9 => ⟨_, rfl, .inl (OG.of_OL (mvO ((pS_old rfl).trans rfl) ⟨β, pS_put (d := 33) (i := 5) rfl (fun t ht => ownP_inj ht (by decide)) (lt_size 11 c9.size rfl (by decide)) rfl⟩))⟩
      · exact fun β L c9 => ⟨_, rfl, .inl (OG.of_OL (mvD (y := dI (0 : Nat)) ((pS_old rfl).trans rfl) ⟨β, pS_put (d := 34) (i := 6) rfl (fun t ht => ownP_inj ht (by decide)) (lt_size 11 c9.size rfl (by decide)) rfl⟩))⟩
      · exact fun β L c9 => ⟨_, rfl, SG.of_SO (SO.cutAll (sz := 4) (id := 1000) (b := b) (n := 1) (c := c) (show 35 < E.n by rw [hE]; exact Nat.le_of_ble_eq_true rfl) sl.Ways (pS_new rfl (c9.dep 5 (by kernel_rfl))) (pS_new rfl (c9.dep 6 (by kernel_rfl))) ⟨β, pS_put (d := 35) (i := 7) rfl (fun t ht => ownP_inj ht (by decide)) (lt_size 11 c9.size rfl (by decide)) rfl⟩)⟩
      · exact fun β L c9 => ⟨_, rfl, SG.of_SO (SO.appGrow (n := 1) (i := 32) (j := 1000) (es := [dWay w]) (es2 := [dWay a]) (n2 := 1) (show 36 < E.n by rw [hE]; exact Nat.le_of_ble_eq_true rfl) sl.Ways (pS_new rfl (c9.dep 4 (by kernel_rfl))) (pS_M (t := 32) (i := 4) rfl (c9.dep 4 (by kernel_rfl)) rfl) rfl (by decide) (pS_new rfl (c9.dep 7 (by kernel_rfl))) ((pS_M0 (t := 1000) (i := 9) rfl (come_later c9 (by kernel_rfl))).trans rfl) (Nat.le_refl 1) (by decide) ((pS_M0 (t := 36) (i := 8) rfl c9.no).trans rfl) (by decide) (by decide) ⟨β, pS_put (d := 36) (i := 8) rfl (fun t ht => ownP_inj ht (by decide)) (lt_size 11 c9.size rfl (by decide)) rfl⟩)⟩
      · exact fun β L c9 => ⟨_, rfl, SG.of_SO (SO.appKeep (id := 1000) (es := [dWay a]) (n := 0) (xs := [dWay w, dWay a]) (show 37 < E.n by rw [hE]; exact Nat.le_of_ble_eq_true rfl) sl.Ways (pS_new rfl (c9.dep 2 (by kernel_rfl))) ((pS_M0 (t := 1000) (i := 9) rfl c9.no).trans rfl) (show 0 ≤ 1 by decide) (vc_to (pS_new rfl (c9.dep 8 (by kernel_rfl))) (VC.d _)) (fun y hy => by rcases List.mem_cons.1 hy with rfl | hy; rfl; rw [List.mem_singleton.1 hy]; rfl) (show 2 * 80 ≤ 140737488355328 by decide) (show 2 ≤ 4611686018427387904 by decide) fun b8 c8 => ⟨upd β 37 (b8, c8), pS_addM (d := 37) (e := 1000) (i := 9) (x := (b8, c8)) rfl rfl (by decide) (fun t ht => ownP_two ht) (lt_size 11 c9.size rfl (by decide)) c9.no rfl rfl rfl rfl (fun t j ho hl => by unfold ownP at ho; split at ho <;> cases ho <;> first | exact ⟨rfl, rfl⟩ | (rw [c9.no] at hl; cases hl) | (have hc := c9.closed 9 9 hl (by kernel_rfl); rw [c9.no] at hc; cases hc))⟩)⟩
    refine fun β L c9 => ⟨_, rfl, .inl (OG.of_OL (asO (pS_new rfl (c9.dep 9 (by kernel_rfl))) ?_))⟩
    refine OL.nil ?_
    refine AW.to [(0, .osl 1000 (β 37).1 2 (β 37).2), (2, .d (dI 1))] [(1000, .row (β 37).1 (β 37).2 T.Way 4 [dWay w, dWay a])] (.cons (vle_of_eq putsmS) (.cons (vle_of_eq (putneS (by decide) ((pS_old rfl).trans rfl))) .nil)) (.cons (putM (pS_M (t := 1000) (i := 9) rfl (c9.dep 9 (by kernel_rfl)) rfl)) .nil) ?_
    refine AW.seq ?_
    refine AW.seq ?_
    refine AW.region (by rw [hE]; rfl) ?_
    refine mvO rfl ?_
    refine lnO sl.Ways rfl rfl ?_
    refine mvD rfl ?_
    refine c_gtr rfl rfl (c := true) (by first | exact decide_eq_true (by omega) | exact decide_eq_false (by omega) | exact cne_f (by omega) | exact cne_t (by omega) | rfl) ?_
    refine OL.nil ?_
    refine AW.cond rfl (fun _ => ?_) (fun hno => absurd hno (by decide))
    refine AW.region (by rw [hE]; rfl) ?_
    refine mvO rfl ?_
    refine mvD rfl ?_
    refine slO (h := 1) sl.Ways rfl rfl (by decide) ?_
    refine asO rfl ?_
    refine OL.nil ?_
    refine AW.seq ?_
    refine AW.region (by rw [hE]; rfl) ?_
    refine mvO rfl ?_
    refine asO rfl ?_
    refine OL.nil ?_
    exact AW.ret ⟨.inr rfl, 1000, _, _, _, rfl, rfl, (show 1 ≤ 2 by decide), (by rw [hb]; rfl)⟩
end Go.Proofs.YtcebciggodhmcaaGreat

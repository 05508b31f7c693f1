/-
  Walks of drawings of any model, part 2: the package's three functions (printed by mk2.py).
-/
import Derived.Test.YtjghehkgmanmbaaGreatKSaA
import Derived.Test.YtjghehkgmanmbaaGreatKMod42
import Derived.Test.YtjghehkgmanmbaaGreatKAlg25
set_option linter.unusedVariables false
set_option linter.unusedSimpArgs false
namespace Go.Proofs.YtjghehkgmanmbaaGreat
open Go Go.AL
abbrev vIv (a b : Rat) : V := .ag [.d (dB (ofQ a).neg), .d (u32s (ofQ a).num), .d (u32s (ofQ a).den), .d (dB (ofQ b).neg), .d (u32s (ofQ b).num), .d (u32s (ofQ b).den)]
abbrev dDr (x : DRun) : D := .ag [ints x.st, ints x.w, dI x.u]
theorem vle_fnp {f i j b o : Nat} : VLe (.fn f [.ptr i b o]) (.fn f [.ptr j b o]) := fun F v h => by
 cases h with
 | @fn _ us _ hl hr =>
  refine .fn hl fun n c u hc hu => ?_
  cases n with
  | zero =>
   have h1 := hr 0 (.ptr i b o) u rfl hu
   cases hc
   cases h1
   exact .ptr
  | succ n => simp at hc
noncomputable def wokB (h : HM) (w : List Int) : Bool := @decide (WordOK h w) (Classical.propDecidable _)
theorem wokB_t {h : HM} {w : List Int} (f : WordOK h w) : true = wokB h w := (@decide_eq_true _ (Classical.propDecidable _) f).symm
theorem wokB_f {h : HM} {w : List Int} (f : ¬ WordOK h w) : false = wokB h w := (@decide_eq_false _ (Classical.propDecidable _) f).symm
theorem wokB_tt {h : HM} {w : List Int} (e : wokB h w = true) : WordOK h w := Classical.byContradiction fun n => by rw [← wokB_f n] at e; cases e
theorem wokB_ff {h : HM} {w : List Int} (e : wokB h w = false) : ¬ WordOK h w := fun n => by rw [← wokB_t n] at e; cases e
theorem index_intsM {l : List Int} {f b : Nat} {blk : Blk} {p : Int → Bool} (hf : ∀ q, q ∈ l → FSpecM P f [.d (dI q), .ptr 1000 b 0] (mem1 1000 blk) (.d (dB (p q))) (mem1 1000 blk)) (nl : l.length ≤ 1099511627776) : FSpecM P F.slices_IndexFunc_ints_int [.d (ints l), .fn f [.ptr 1000 b 0]] (mem1 1000 blk) (.d (dI (idx1 p l))) (mem1 1000 blk) := by
 refine FSpecM.intro fn.slices_IndexFunc_ints_int (by rfl) (by rfl) (nb9 (by rfl)) fun E hE => ?_
 refine AW.sg hE rfl ?_
 refine asD rfl ?_
 refine OL.nil ?_
 refine AW.seq ?_
 refine AW.sg hE rfl ?_
 first | refine mvD rfl ?_ | refine mvO rfl ?_ | refine mvM rfl ?_
 first | refine lnL sl.ints rfl rfl ?_ | refine lnO sl.ints rfl rfl ?_ | refine lnM sl.ints rfl rfl ?_ | refine lnD sl.ints rfl rfl rfl ?_
 refine mvD rfl ?_
 refine OL.nil ?_
 refine AW.block ?_
 refine AW.whileK (α := Nat) [(0, _), (1, _), (7, _)] [] (fun i => [(8, .d (dI i))]) (fun i => [(1000, blk)]) (fun i => i ≤ l.length ∧ ∀ j, j < i → p (l.getD j 0) = false) (fun i => l.length - i) 0 (by repeat (first | exact Knows.nil | refine Knows.cons (by first | exact knD rfl | exact knA rfl | exact knP rfl | exact knO rfl | exact knM rfl | exact knE rfl | exact knR rfl | exact knF rfl | exact knT rfl | exact knJ) ?_)) .nil ⟨⟨Nat.zero_le _, fun j hj => by omega⟩, .cons (by first | exact VLe.refl _ | exact VLe.int (by omega) | exact VLe.mt | exact vle_q0 | exact VLe.osl | exact VLe.ptr) .nil, .cons rfl .nil⟩ ?_
 rintro i ⟨h1, h2⟩
 refine AW.sg hE rfl ?_
 refine c_lss rfl rfl rfl ?_
 refine OL.nil ?_
 refine AW.seq ?_
 refine AW.cond rfl (fun h9 => ?_) (fun h9 => ?_)
 ·try simp only [dx9] at h9
  refine AW.skip ?_
  refine AW.seq ?_
  refine AW.block ?_
  refine AW.sg hE rfl ?_
  refine mvD rfl ?_
  refine asD rfl ?_
  refine OL.nil ?_
  refine AW.sg hE rfl ?_
  first | refine mvD rfl ?_ | refine mvT rfl ?_ | refine mvP rfl ?_ | refine mvR rfl ?_ | refine mvE rfl ?_ | refine mvF rfl ?_ | refine mvA rfl ?_ | refine mvO rfl ?_ | refine mvM rfl ?_ | refine mvJ rfl ?_
  first | refine mvD rfl ?_ | refine mvO rfl ?_ | refine mvM rfl ?_
  refine mvD rfl ?_
  first | refine ixO sl.ints rfl rfl (by omega) (by omega) rfl ?_ | refine ixLn sl.ints 0 rfl rfl (by omega) rfl rfl ?_ | refine ixL sl.ints 0 rfl rfl (by omega) (by omega) rfl rfl ?_
  first | refine ldRC ce.int rfl ?_ | refine ldPC ce.int rfl rfl rfl ?_
  refine OL.callM (v := .d (dB (p (l.getD i 0)))) (.mk (args' := [.d (dI (l.getD i 0)), .ptr 1000 b 0]) rfl (VLes.refl _) (mem1_keep (id := 1000) (blk := blk) rfl) mem1_sub (hf (l.getD i 0) (getD_mem (by omega) _))) ?_
  refine OL.nil ?_
  refine AW.cond rfl (fun h16 => ?_) (fun h16 => ?_)
  ·have h16 := h16
   refine AW.sg hE rfl ?_
   refine mvD rfl ?_
   refine asD rfl ?_
   refine OL.nil ?_
   exact AW.ret ⟨⟨_, .tmp rfl .nil, .le (VLe.int ((idx1_found (by omega) 0 h16 h2).symm))⟩, mem1_keep rfl⟩
  ·have h16 := h16
   refine AW.skip ?_
   refine AW.rg hE rfl ?_
   refine add_i64 rfl rfl (by omega) ?_
   refine mvD rfl ?_
   refine OL.nil ?_
   exact AW.again (x := i) (i + 1) (by first | omega | (simp only []; omega)) ⟨⟨by omega, fun j hj => by rcases Nat.lt_or_ge j i with h | h; exact h2 j h; obtain rfl : j = i := (by omega); exact h16⟩, Knows.app (.cons (VLe.refl _) (.cons (VLe.refl _) (.cons (VLe.refl _) .nil))) (.cons (by first | exact VLe.refl _ | exact VLe.int (by omega) | exact VLe.mt | exact vle_q0 | exact VLe.osl | exact VLe.ptr) .nil), .cons rfl .nil⟩
 ·try simp only [dx9] at h9
  refine AW.exit ?_
  refine AW.sg hE rfl ?_
  refine asD rfl ?_
  refine OL.nil ?_
  exact AW.ret ⟨⟨_, .tmp rfl .nil, .le (VLe.int ((idx1_none 0 fun j hj => h2 j (by omega)).symm))⟩, mem1_keep rfl⟩
theorem contains_intsM {l : List Int} {f b : Nat} {blk : Blk} {p : Int → Bool} (hf : ∀ q, q ∈ l → FSpecM P f [.d (dI q), .ptr 1000 b 0] (mem1 1000 blk) (.d (dB (p q))) (mem1 1000 blk)) (nl : l.length ≤ 1099511627776) : FSpecM P F.slices_ContainsFunc_ints_int [.d (ints l), .fn f [.ptr 1000 b 0]] (mem1 1000 blk) (.d (dB (l.any p))) (mem1 1000 blk) := by
 refine FSpecM.intro fn.slices_ContainsFunc_ints_int (by rfl) (by rfl) (nb9 (by rfl)) fun E hE => ?_
 refine AW.sg hE rfl ?_
 refine asD rfl ?_
 refine OL.nil ?_
 refine AW.sg hE rfl ?_
 first | refine mvD rfl ?_ | refine mvO rfl ?_ | refine mvM rfl ?_
 first | refine mvD rfl ?_ | refine mvT rfl ?_ | refine mvP rfl ?_ | refine mvR rfl ?_ | refine mvE rfl ?_ | refine mvF rfl ?_ | refine mvA rfl ?_ | refine mvO rfl ?_ | refine mvM rfl ?_ | refine mvJ rfl ?_
 refine OL.callM (v := .d (dI (idx1 p l))) (.mk (args' := [.d (ints l), .fn f [.ptr 1000 b 0]]) rfl (VLes.refl _) (mem1_keep (id := 1000) (blk := blk) rfl) mem1_sub (index_intsM hf nl)) ?_
 refine c_geq rfl rfl rfl ?_
 refine asD rfl ?_
 refine OL.nil ?_
 exact AW.ret ⟨⟨_, .tmp rfl .nil, .le (VLe.bool (idx1_any p l))⟩, mem1_keep rfl⟩
theorem sample_Range_1 {h : HM} {b : Nat} {q : Int} : FSpecM P F.sample_Range_1 [.d (dI q), .ptr 1000 b 0] (mem1 1000 (.box b T.Hidden (cellsHM h))) (.d (dB (decide (q < 0 ∨ (h.st : Int) ≤ q)))) (mem1 1000 (.box b T.Hidden (cellsHM h))) := by
 refine FSpecM.intro fn.sample_Range_1 (by rfl) (by rfl) (nb9 (by rfl)) fun E hE => ?_
 refine AW.sg hE rfl ?_
 refine asD rfl ?_
 refine OL.nil ?_
 refine AW.sg hE rfl ?_
 refine mvD rfl ?_
 refine c_lss rfl rfl rfl ?_
 refine OL.split 5 rfl (fun g => ?_) (fun g => ?_)
 ·have g := of_decide_eq_true g
  refine mvD rfl ?_
  refine OL.no rfl (by decide) ?_
  refine OL.no rfl (by decide) ?_
  refine OL.no rfl (by decide) ?_
  refine OL.no rfl (by decide) ?_
  refine pkT rfl rfl ?_
  refine asD rfl ?_
  refine OL.nil ?_
  exact AW.ret ⟨⟨_, .tmp rfl .nil, .le (VLe.bool ((decide_eq_true (.inl g)).symm))⟩, mem1_keep rfl⟩
 ·have g := of_decide_eq_false g
  refine mvD rfl ?_
  refine OL.yes rfl ?_
  refine mvD rfl ?_
  refine OL.yes rfl ?_
  first | refine faP fd.Hidden_1 rfl rfl ?_ | refine faR fd.Hidden_1 rfl rfl ?_ | refine faE fd.Hidden_1 rfl rfl ?_
  refine OL.yes rfl ?_
  first | refine ldRC ce.int rfl ?_ | refine ldPC ce.int rfl rfl rfl ?_
  refine OL.yes rfl ?_
  refine c_geq rfl rfl rfl ?_
  refine pkF rfl rfl ?_
  refine asD rfl ?_
  refine OL.nil ?_
  exact AW.ret ⟨⟨_, .tmp rfl .nil, .le (VLe.bool (decide_eq_decide.2 ⟨fun e => .inr e, fun e => e.resolve_left g⟩))⟩, mem1_keep rfl⟩
theorem words_ValidA {h : HM} {w : List Int} (nw : w.length ≤ 1048576) (hs : 1 ≤ h.sym ∧ h.sym ≤ 32) : FSpec P F.words_Valid [.d (ints w), .d (dI h.sym)] (.d (dB (wokB h w))) := by
 refine FSpec.intro fn.words_Valid (by rfl) (by rfl) (nb9 (by rfl)) fun E hE => ?_
 refine AW.sg hE rfl ?_
 refine asD rfl ?_
 refine OL.nil ?_
 refine AW.seq ?_
 refine AW.sg hE rfl ?_
 first | refine mvD rfl ?_ | refine mvO rfl ?_ | refine mvM rfl ?_
 first | refine lnL sl.ints rfl rfl ?_ | refine lnO sl.ints rfl rfl ?_ | refine lnM sl.ints rfl rfl ?_ | refine lnD sl.ints rfl rfl rfl ?_
 refine mvD rfl ?_
 refine OL.nil ?_
 refine AW.block ?_
 refine AW.whileK (α := Nat) [(0, _), (1, _), (7, _), (8, _)] [] (fun i => [(9, .d (dI i))]) (fun i => []) (fun i => i ≤ w.length ∧ ∀ j, j < i → 1 ≤ w.getD j 0 ∧ w.getD j 0 ≤ h.sym) (fun i => w.length - i) 0 (by repeat (first | exact Knows.nil | refine Knows.cons (by first | exact knD rfl | exact knA rfl | exact knP rfl | exact knO rfl | exact knM rfl | exact knE rfl | exact knR rfl | exact knF rfl | exact knT rfl | exact knJ) ?_)) .nil ⟨⟨Nat.zero_le _, fun j hj => absurd hj (Nat.not_lt_zero j)⟩, .cons (by first | exact VLe.refl _ | exact VLe.int (by omega) | exact VLe.mt | exact vle_q0 | exact VLe.osl | exact VLe.ptr) .nil, .nil⟩ ?_
 rintro i ⟨h1, h2⟩
 refine AW.sg hE rfl ?_
 refine c_lss rfl rfl rfl ?_
 refine OL.nil ?_
 refine AW.seq ?_
 refine AW.cond rfl (fun h10 => ?_) (fun h10 => ?_)
 ·try simp only [dx9] at h10
  refine AW.skip ?_
  refine AW.seq ?_
  refine AW.block ?_
  refine AW.sg hE rfl ?_
  first | refine ixO sl.ints rfl rfl (by omega) (by omega) rfl ?_ | refine ixLn sl.ints 0 rfl rfl (by omega) rfl rfl ?_ | refine ixL sl.ints 0 rfl rfl (by omega) (by omega) rfl rfl ?_
  first | refine ldRC ce.int rfl ?_ | refine ldPC ce.int rfl rfl rfl ?_
  refine asD rfl ?_
  refine OL.nil ?_
  refine AW.sg hE rfl ?_
  refine mvD rfl ?_
  refine c_lss rfl rfl rfl ?_
  refine mvD rfl ?_
  refine OL.split 15 rfl (fun a1 => ?_) (fun a1 => ?_)
  ·have a1 : w.getD i 0 < 1 := of_decide_eq_true a1
   refine OL.no rfl (by decide) ?_
   refine OL.no rfl (by decide) ?_
   refine OL.no rfl (by decide) ?_
   refine pkT rfl rfl ?_
   refine OL.nil ?_
   refine AW.cond rfl (fun _ => ?_) (fun hno => absurd hno (by decide))
   refine AW.sg hE rfl ?_
   refine asD rfl ?_
   refine OL.nil ?_
   exact AW.ret (RetQ.r ⟨_, .tmp rfl .nil, .le (VLe.bool (wokB_f fun k => by have := k.2 _ (getD_mem (show i < w.length by omega) 0); omega))⟩)
  ·have a1 : 1 ≤ w.getD i 0 := Int.not_lt.1 (of_decide_eq_false a1)
   refine OL.yes rfl ?_
   refine mvD rfl ?_
   refine OL.yes rfl ?_
   refine mvD rfl ?_
   refine OL.yes rfl ?_
   refine c_gtr rfl rfl rfl ?_
   refine pkF rfl rfl ?_
   refine OL.nil ?_
   refine AW.cond rfl (fun a2 => ?_) (fun a2 => ?_)
   ·have a2 : (h.sym : Int) < w.getD i 0 := of_decide_eq_true a2
    refine AW.sg hE rfl ?_
    refine asD rfl ?_
    refine OL.nil ?_
    exact AW.ret (RetQ.r ⟨_, .tmp rfl .nil, .le (VLe.bool (wokB_f fun k => by have := k.2 _ (getD_mem (show i < w.length by omega) 0); omega))⟩)
   ·have a2 : w.getD i 0 ≤ h.sym := Int.not_lt.1 (of_decide_eq_false a2)
    refine AW.skip ?_
    refine AW.rg hE rfl ?_
    refine add_i64 rfl rfl (by omega) ?_
    refine mvD rfl ?_
    refine OL.nil ?_
    exact AW.again (x := i) (i + 1) (by first | omega | (simp only []; omega)) ⟨⟨by omega, upto_step h2 ⟨a1, a2⟩⟩, Knows.app (.cons (VLe.refl _) (.cons (VLe.refl _) (.cons (VLe.refl _) (.cons (VLe.refl _) .nil)))) (.cons (by first | exact VLe.refl _ | exact VLe.int (by omega) | exact VLe.mt | exact vle_q0 | exact VLe.osl | exact VLe.ptr) .nil), .nil⟩
 ·try simp only [dx9] at h10
  refine AW.exit ?_
  refine AW.sg hE rfl ?_
  refine mvD rfl ?_
  refine c_geq rfl rfl (c := true) (by first | exact decide_eq_true (by omega) | exact decide_eq_false (by omega) | exact cne_f (by omega) | exact cne_t (by omega) | rfl) ?_
  refine mvD rfl ?_
  refine OL.yes rfl ?_
  refine mvD rfl ?_
  refine OL.yes rfl ?_
  refine c_leq rfl rfl (c := true) (by first | exact decide_eq_true (by omega) | exact decide_eq_false (by omega) | exact cne_f (by omega) | exact cne_t (by omega) | rfl) ?_
  refine pkT rfl rfl ?_
  refine mvD rfl ?_
  refine OL.yes rfl ?_
  first | refine mvD rfl ?_ | refine mvO rfl ?_ | refine mvM rfl ?_
  refine OL.yes rfl ?_
  first | refine lnL sl.ints rfl rfl ?_ | refine lnO sl.ints rfl rfl ?_ | refine lnM sl.ints rfl rfl ?_ | refine lnD sl.ints rfl rfl rfl ?_
  refine OL.yes rfl ?_
  refine c_leq rfl rfl rfl ?_
  refine pkT rfl rfl ?_
  refine asD rfl ?_
  refine OL.nil ?_
  exact AW.ret (RetQ.r ⟨_, .tmp rfl .nil, .le (VLe.bool (by rcases Nat.lt_or_ge 256 w.length with hh | hh; rw [← wokB_f fun k => by have := k.1; omega]; exact decide_eq_false (by omega); rw [← wokB_t ⟨hh, fun x hx => by obtain ⟨j, hj, rfl⟩ := mem_ix 0 hx; exact h2 j (by omega)⟩]; exact decide_eq_true (by omega)))⟩)
theorem sample_Draw_1 {b : Int} : FSpec P F.sample_Draw_1 [.d (dI b)] (.d (dB (!decide (b = 0 ∨ b = 1)))) := by
 refine FSpec.intro fn.sample_Draw_1 (by rfl) (by rfl) (nb9 (by rfl)) fun E hE => ?_
 refine AW.sg hE rfl ?_
 refine asD rfl ?_
 refine OL.nil ?_
 refine AW.sg hE rfl ?_
 refine mvD rfl ?_
 refine c_neq rfl rfl rfl ?_
 refine mvD rfl ?_
 refine OL.split 5 rfl (fun g5 => ?_) (fun g5 => ?_)
 ·try simp only [dx9] at g5
  refine OL.yes rfl ?_
  refine mvD rfl ?_
  refine OL.yes rfl ?_
  refine c_neq rfl rfl rfl ?_
  refine pkT rfl rfl ?_
  refine asD rfl ?_
  refine OL.nil ?_
  exact AW.ret (RetQ.r ⟨_, .tmp rfl .nil, .le (VLe.bool (by rw [show decide (b = 0 ∨ b = 1) = decide (b = 1) from decide_eq_decide.2 (by omega)]))⟩)
 ·try simp only [dx9] at g5
  refine OL.no rfl (by decide) ?_
  refine OL.no rfl (by decide) ?_
  refine pkF rfl rfl ?_
  refine asD rfl ?_
  refine OL.nil ?_
  exact AW.ret (RetQ.r ⟨_, .tmp rfl .nil, .le (VLe.bool (by rw [decide_eq_true (show b = 0 ∨ b = 1 by omega)]; rfl))⟩)
theorem sample_DrawR {h : RM} {bits : List Int} (zz : h.Sz) (lt : h.Lite) (nb : bits.length ≤ 1048576) : FSpec P F.sample_Draw [vRM h, .d (ints bits)] (.tup [vDrawn (drS (drawR h bits)) (drW (drawR h bits)) (drU (drawR h bits)), .d (dI (drE (drawR h bits)))]) := by
 refine FSpec.intro fn.sample_Draw (by rfl) (by rfl) (nb9 (by rfl)) fun E hE => ?_
 refine AW.sg hE rfl ?_
 first | refine bxA rfl rfl fun b2 => ?_ | refine bxD rfl rfl fun b2 => ?_
 refine al z.Drawn rfl fun b4 => ?_
 refine asD rfl ?_
 refine OL.nil ?_
 refine AW.seq ?_
 refine AW.sg hE rfl ?_
 first | refine ldPA ag.Hidden rfl rfl (vs := [_,_,_,_,_,_,_,_,_,_,_]) rfl (nb9 rfl) ?_ | refine ldRA ag.Hidden rfl (vs := [_,_,_,_,_,_,_,_,_,_,_]) rfl (nb9 rfl) ?_
 refine clv rfl (.cons (VLe.refl _) (.nil)) (sample_refuseR zz) ?_
 refine asD rfl ?_
 refine OL.nil ?_
 refine AW.sg hE rfl ?_
 refine mvD rfl ?_
 refine c_neq rfl rfl rfl ?_
 refine OL.nil ?_
 refine AW.cond rfl (fun cp => ?_) (fun cp => ?_)
 ·have cp : ¬ chkP h = 0 := by simpa using cp
  have hdr := drawR_e (h := h) (bits := bits) cp
  refine AW.sg hE rfl ?_
  refine bd z.Drawn pl.Drawn (cs := [_,_,_]) rfl ?_
  refine mvD rfl ?_
  first | refine sto sz.Drawn rfl rfl rfl rfl rfl (nb9 rfl) (cells2 := [_,_,_]) rfl ?_ | refine stE sz.Drawn rfl (VC.d _).vd rfl rfl (by omega) rfl ?_
  refine asD rfl ?_
  refine OL.nil ?_
  exact AW.ret (RetQ.r ⟨_, .cellA rfl rfl ag.Drawn (nb9 rfl) (.tmp rfl .nil), _, .cons (.ag (.cons (.le (by rw [hdr]; exact VLe.mt)) (.cons (.le (by rw [hdr]; exact VLe.mt)) (.cons (.le (VLe.int (by rw [hdr]; rfl))) .nil)))) (.cons (.le (VLe.int (by rw [hdr]; rfl))) .nil), rfl⟩)
 ·have cp : chkP h = 0 := by simpa using cp
  obtain ⟨g, hv⟩ := chkP_good zz cp
  have hQ := (hm h).den
  have hl := lt.ll zz cp
  have s0 := g.form.sym0
  have s1 := g.form.sym1
  refine AW.skip ?_
  refine AW.seq ?_
  refine AW.sg hE rfl ?_
  first | refine mvD rfl ?_ | refine mvO rfl ?_ | refine mvM rfl ?_
  first | refine lnL sl.ints rfl rfl ?_ | refine lnO sl.ints rfl rfl ?_ | refine lnM sl.ints rfl rfl ?_ | refine lnD sl.ints rfl rfl rfl ?_
  refine c_gtr rfl rfl rfl ?_
  refine mvD rfl ?_
  refine OL.split 16 rfl (fun a1 => ?_) (fun a1 => ?_)
  ·have a1 : (2000 : Int) < bits.length := of_decide_eq_true a1
   have hdr := drawR_1 cp (bits := bits) fun b => by have := b.1; omega
   refine OL.no rfl (by decide) ?_
   refine OL.no rfl (by decide) ?_
   refine pkT rfl rfl ?_
   refine OL.nil ?_
   refine AW.cond rfl (fun _ => ?_) (fun hno => absurd hno (by decide))
   refine AW.sg hE rfl ?_
   refine bd z.Drawn pl.Drawn (cs := [_,_,_]) rfl ?_
   first | refine sto sz.Drawn rfl rfl rfl rfl rfl (nb9 rfl) (cells2 := [_,_,_]) rfl ?_ | refine stE sz.Drawn rfl (VC.d _).vd rfl rfl (by omega) rfl ?_
   refine asD rfl ?_
   refine OL.nil ?_
   exact AW.ret (RetQ.r ⟨_, .cellA rfl rfl ag.Drawn (nb9 rfl) (.tmp rfl .nil), _, .cons (.ag (.cons (.le (by rw [hdr]; exact VLe.mt)) (.cons (.le (by rw [hdr]; exact VLe.mt)) (.cons (.le (VLe.int (by rw [hdr]; rfl))) .nil)))) (.cons (.le (VLe.int (by rw [hdr]; rfl))) .nil), rfl⟩)
  ·have a1 : ¬ (2000 : Int) < bits.length := of_decide_eq_false a1
   refine OL.yes rfl ?_
   first | refine mvD rfl ?_ | refine mvO rfl ?_ | refine mvM rfl ?_
   refine OL.yes rfl ?_
   refine clv rfl (.cons (VLe.refl _) (.cons (VLe.refl _) (.nil))) (contains_ints (f := F.sample_Draw_1) (p := fun b => !decide (b = 0 ∨ b = 1)) (fun q _ => sample_Draw_1) (by omega)) ?_
   refine pkF rfl rfl ?_
   refine OL.nil ?_
   refine AW.cond rfl (fun a2 => ?_) (fun a2 => ?_)
   ·have hdr := drawR_1 cp (bits := bits) fun b => by
      rw [any_false fun x hx => by rw [decide_eq_true (b.2 x hx)]; rfl] at a2; cases a2
    refine AW.sg hE rfl ?_
    refine bd z.Drawn pl.Drawn (cs := [_,_,_]) rfl ?_
    first | refine sto sz.Drawn rfl rfl rfl rfl rfl (nb9 rfl) (cells2 := [_,_,_]) rfl ?_ | refine stE sz.Drawn rfl (VC.d _).vd rfl rfl (by omega) rfl ?_
    refine asD rfl ?_
    refine OL.nil ?_
    exact AW.ret (RetQ.r ⟨_, .cellA rfl rfl ag.Drawn (nb9 rfl) (.tmp rfl .nil), _, .cons (.ag (.cons (.le (by rw [hdr]; exact VLe.mt)) (.cons (.le (by rw [hdr]; exact VLe.mt)) (.cons (.le (VLe.int (by rw [hdr]; rfl))) .nil)))) (.cons (.le (VLe.int (by rw [hdr]; rfl))) .nil), rfl⟩)
   ·have hb : BitsOK bits := ⟨by omega, fun x hx => Classical.byContradiction fun e => by rw [List.any_eq_true.2 ⟨x, hx, by rw [decide_eq_false e]; rfl⟩] at a2; cases a2⟩
    rw [drawR_0 cp hb]
    refine AW.skip ?_
    refine AW.sg hE rfl ?_
    first | refine ldPA ag.Hidden rfl rfl (vs := [_,_,_,_,_,_,_,_,_,_,_]) rfl (nb9 rfl) ?_ | refine ldRA ag.Hidden rfl (vs := [_,_,_,_,_,_,_,_,_,_,_]) rfl (nb9 rfl) ?_
    first | refine mvD rfl ?_ | refine mvO rfl ?_ | refine mvM rfl ?_
    refine clv rfl (.cons (vle_of_eq hv) (.cons (VLe.refl _) .nil)) (sample_draw g hQ hl hb.1) ?_
    refine ex rfl rfl ?_
    refine ex rfl rfl ?_
    first | refine sto sz.Drawn rfl rfl rfl rfl rfl (nb9 rfl) (cells2 := [_,_,_]) rfl ?_ | refine stE sz.Drawn rfl (VC.d _).vd rfl rfl (by omega) rfl ?_
    refine asD rfl ?_
    refine OL.nil ?_
    exact AW.ret (RetQ.r ⟨_, .cellA rfl rfl ag.Drawn (nb9 rfl) (.tmp rfl .nil), _, .cons (.ag (.cons (.le (by first | exact VLe.refl _ | exact VLe.mt | exact vle_q0 | exact VLe.int (by omega) | exact VLe.bool (by simp_all))) (.cons (.le (by first | exact VLe.refl _ | exact VLe.mt | exact vle_q0 | exact VLe.int (by omega) | exact VLe.bool (by simp_all))) (.cons (.le (by first | exact VLe.refl _ | exact VLe.mt | exact vle_q0 | exact VLe.int (by omega) | exact VLe.bool (by simp_all))) .nil)))) (.cons (.le (by first | exact VLe.refl _ | exact VLe.mt | exact vle_q0 | exact VLe.int (by omega) | exact VLe.bool (by simp_all))) .nil), rfl⟩)
theorem sample_RangeR {h : RM} {st w : List Int} (zz : h.Sz) (lt : h.Lite) (nst : st.length ≤ 1048576) (nw : w.length ≤ 1048576) : FSpec P F.sample_Range [vRM h, .d (ints st), .d (ints w)] (.tup [vIv (rangeR h st w).2.1 (rangeR h st w).2.2, .d (dI (rangeR h st w).1)]) := by
 refine FSpec.intro fn.sample_Range (by rfl) (by rfl) (nb9 (by rfl)) fun E hE => ?_
 refine AW.sg hE rfl ?_
 first | refine bxA rfl rfl fun b3 => ?_ | refine bxD rfl rfl fun b3 => ?_
 refine al z.Interval rfl fun b6 => ?_
 refine asD rfl ?_
 refine OL.nil ?_
 refine AW.seq ?_
 refine AW.sg hE rfl ?_
 first | refine ldPA ag.Hidden rfl rfl (vs := [_,_,_,_,_,_,_,_,_,_,_]) rfl (nb9 rfl) ?_ | refine ldRA ag.Hidden rfl (vs := [_,_,_,_,_,_,_,_,_,_,_]) rfl (nb9 rfl) ?_
 refine clv rfl (.cons (VLe.refl _) (.nil)) (sample_refuseR zz) ?_
 refine asD rfl ?_
 refine OL.nil ?_
 refine AW.sg hE rfl ?_
 refine mvD rfl ?_
 refine c_neq rfl rfl rfl ?_
 refine OL.nil ?_
 refine AW.cond rfl (fun cp => ?_) (fun cp => ?_)
 ·have cp : ¬ chkP h = 0 := by simpa using cp
  have hdr := rangeR_e (h := h) (st := st) (w := w) cp
  refine AW.sg hE rfl ?_
  refine bd z.Interval pl.Interval (cs := [_,_,_,_,_,_]) rfl ?_
  refine mvD rfl ?_
  first | refine sto sz.Interval rfl rfl rfl rfl rfl (nb9 rfl) (cells2 := [_,_,_,_,_,_]) rfl ?_ | refine stE sz.Interval rfl (VC.d _).vd rfl rfl (by omega) rfl ?_
  refine asD rfl ?_
  refine OL.nil ?_
  exact AW.ret (RetQ.r ⟨_, .cellA rfl rfl ag.Interval (nb9 rfl) (.tmp rfl .nil), _, .cons (.ag (.cons (.le (by show VLe _ (.d (dB (ofQ (rangeR h st w).2.1).neg)); rw [hdr, ofQ_zero]; exact VLe.refl _)) (.cons (.le (by show VLe _ (.d (u32s (ofQ (rangeR h st w).2.1).num)); rw [hdr, ofQ_zero]; exact VLe.mt)) (.cons (.le (by show VLe _ (.d (u32s (ofQ (rangeR h st w).2.1).den)); rw [hdr, ofQ_zero]; exact VLe.mt)) (.cons (.le (by show VLe _ (.d (dB (ofQ (rangeR h st w).2.2).neg)); rw [hdr, ofQ_zero]; exact VLe.refl _)) (.cons (.le (by show VLe _ (.d (u32s (ofQ (rangeR h st w).2.2).num)); rw [hdr, ofQ_zero]; exact VLe.mt)) (.cons (.le (by show VLe _ (.d (u32s (ofQ (rangeR h st w).2.2).den)); rw [hdr, ofQ_zero]; exact VLe.mt)) .nil))))))) (.cons (.le (VLe.int (by rw [hdr]))) .nil), rfl⟩)
 ·have cp : chkP h = 0 := by simpa using cp
  obtain ⟨g, hv⟩ := chkP_good zz cp
  have hQ := (hm h).den
  have hl := lt.ll zz cp
  have s0 := g.form.sym0
  have s1 := g.form.sym1
  refine AW.boxW 3 (cellsHM (hm h)) rfl (vles_of_eq (V.ag.inj hv)) ?_
  refine AW.skip ?_
  refine AW.seq ?_
  refine AW.seq ?_
  have hcon := contains_intsM (l := st) (f := F.sample_Range_1) (p := fun q => decide (q < 0 ∨ ((hm h).st : Int) ≤ q)) (fun q _ => sample_Range_1 (h := hm h) (b := b3) (q := q)) (by omega)
  refine AW.rg hE rfl ?_
  first | refine mvD rfl ?_ | refine mvO rfl ?_ | refine mvM rfl ?_
  first | refine faP fd.Hidden_0 rfl rfl ?_ | refine faR fd.Hidden_0 rfl rfl ?_ | refine faE fd.Hidden_0 rfl rfl ?_
  first | refine ldRC ce.int rfl ?_ | refine ldPC ce.int rfl rfl rfl ?_
  refine clv rfl (.cons (VLe.refl _) (.cons (VLe.refl _) (.nil))) (words_ValidA (h := hm h) nw ⟨s0, s1⟩) ?_
  refine nt rfl ?_
  refine mvD rfl ?_
  refine OL.split 24 rfl (fun a1 => ?_) (fun a1 => ?_)
  ·have a1 : ¬ WordOK (hm h) w := wokB_ff (by simpa using a1)
   have hdr := rangeR_1 cp (st := st) (w := w) fun k => a1 k.word
   refine OL.no rfl (by decide) ?_
   refine OL.no rfl (by decide) ?_
   refine OL.no rfl (by decide) ?_
   refine OL.no rfl (by decide) ?_
   refine OL.no rfl (by decide) ?_
   refine pkT rfl rfl ?_
   refine mvD rfl ?_
   refine OL.no rfl (by decide) ?_
   refine OL.no rfl (by decide) ?_
   refine OL.no rfl (by decide) ?_
   refine pkT rfl rfl ?_
   refine OL.nil ?_
   refine AW.cond rfl (fun _ => ?_) (fun hno => absurd hno (by decide))
   refine AW.sg hE rfl ?_
   refine bd z.Interval pl.Interval (cs := [_,_,_,_,_,_]) rfl ?_
   first | refine sto sz.Interval rfl rfl rfl rfl rfl (nb9 rfl) (cells2 := [_,_,_,_,_,_]) rfl ?_ | refine stE sz.Interval rfl (VC.d _).vd rfl rfl (by omega) rfl ?_
   refine asD rfl ?_
   refine OL.nil ?_
   exact AW.ret (RetQ.r ⟨_, .cellA rfl rfl ag.Interval (nb9 rfl) (.tmp rfl .nil), _, .cons (.ag (.cons (.le (by show VLe _ (.d (dB (ofQ (rangeR h st w).2.1).neg)); rw [hdr, ofQ_zero]; exact VLe.refl _)) (.cons (.le (by show VLe _ (.d (u32s (ofQ (rangeR h st w).2.1).num)); rw [hdr, ofQ_zero]; exact VLe.mt)) (.cons (.le (by show VLe _ (.d (u32s (ofQ (rangeR h st w).2.1).den)); rw [hdr, ofQ_zero]; exact VLe.mt)) (.cons (.le (by show VLe _ (.d (dB (ofQ (rangeR h st w).2.2).neg)); rw [hdr, ofQ_zero]; exact VLe.refl _)) (.cons (.le (by show VLe _ (.d (u32s (ofQ (rangeR h st w).2.2).num)); rw [hdr, ofQ_zero]; exact VLe.mt)) (.cons (.le (by show VLe _ (.d (u32s (ofQ (rangeR h st w).2.2).den)); rw [hdr, ofQ_zero]; exact VLe.mt)) .nil))))))) (.cons (.le (VLe.int (by rw [hdr]))) .nil), rfl⟩)
  ·have a1 : WordOK (hm h) w := wokB_tt (by simpa using a1)
   refine OL.yes rfl ?_
   first | refine mvD rfl ?_ | refine mvO rfl ?_ | refine mvM rfl ?_
   refine OL.yes rfl ?_
   first | refine lnL sl.ints rfl rfl ?_ | refine lnO sl.ints rfl rfl ?_ | refine lnM sl.ints rfl rfl ?_ | refine lnD sl.ints rfl rfl rfl ?_
   refine OL.yes rfl ?_
   first | refine mvD rfl ?_ | refine mvO rfl ?_ | refine mvM rfl ?_
   refine OL.yes rfl ?_
   first | refine lnL sl.ints rfl rfl ?_ | refine lnO sl.ints rfl rfl ?_ | refine lnM sl.ints rfl rfl ?_ | refine lnD sl.ints rfl rfl rfl ?_
   refine OL.yes rfl ?_
   refine c_neq rfl rfl rfl ?_
   refine pkF rfl rfl ?_
   refine mvD rfl ?_
   refine OL.split 31 rfl (fun a2 => ?_) (fun a2 => ?_)
   ·have a2 : st.length ≠ w.length := by simp at a2; omega
    have hdr := rangeR_1 cp (st := st) (w := w) fun k => a2 k.1
    refine OL.no rfl (by decide) ?_
    refine OL.no rfl (by decide) ?_
    refine OL.no rfl (by decide) ?_
    refine pkT rfl rfl ?_
    refine OL.nil ?_
    refine AW.cond rfl (fun _ => ?_) (fun hno => absurd hno (by decide))
    refine AW.sg hE rfl ?_
    refine bd z.Interval pl.Interval (cs := [_,_,_,_,_,_]) rfl ?_
    first | refine sto sz.Interval rfl rfl rfl rfl rfl (nb9 rfl) (cells2 := [_,_,_,_,_,_]) rfl ?_ | refine stE sz.Interval rfl (VC.d _).vd rfl rfl (by omega) rfl ?_
    refine asD rfl ?_
    refine OL.nil ?_
    exact AW.ret (RetQ.r ⟨_, .cellA rfl rfl ag.Interval (nb9 rfl) (.tmp rfl .nil), _, .cons (.ag (.cons (.le (by show VLe _ (.d (dB (ofQ (rangeR h st w).2.1).neg)); rw [hdr, ofQ_zero]; exact VLe.refl _)) (.cons (.le (by show VLe _ (.d (u32s (ofQ (rangeR h st w).2.1).num)); rw [hdr, ofQ_zero]; exact VLe.mt)) (.cons (.le (by show VLe _ (.d (u32s (ofQ (rangeR h st w).2.1).den)); rw [hdr, ofQ_zero]; exact VLe.mt)) (.cons (.le (by show VLe _ (.d (dB (ofQ (rangeR h st w).2.2).neg)); rw [hdr, ofQ_zero]; exact VLe.refl _)) (.cons (.le (by show VLe _ (.d (u32s (ofQ (rangeR h st w).2.2).num)); rw [hdr, ofQ_zero]; exact VLe.mt)) (.cons (.le (by show VLe _ (.d (u32s (ofQ (rangeR h st w).2.2).den)); rw [hdr, ofQ_zero]; exact VLe.mt)) .nil))))))) (.cons (.le (VLe.int (by rw [hdr]))) .nil), rfl⟩)
   ·have a2 : st.length = w.length := by simp at a2; omega
    refine OL.yes rfl ?_
    first | refine mvD rfl ?_ | refine mvO rfl ?_ | refine mvM rfl ?_
    refine OL.yes rfl ?_
    refine mkF (vs := [_]) rfl ?_
    refine OL.yes rfl ?_
    refine OL.callM (v := .d (dB (st.any fun q => decide (q < 0 ∨ ((hm h).st : Int) ≤ q)))) (.mk (args' := [.d (ints st), .fn F.sample_Range_1 [.ptr 3 b3 0]]) rfl (VLes.refl _) (mem1_keep (id := 3) (blk := .box b3 T.Hidden (cellsHM (hm h))) rfl) mem1_sub (hcon.ren1 (.cons (VLe.refl _) (.cons vle_fnp .nil)))) ?_
    refine pkF rfl rfl ?_
    refine OL.nil ?_
    refine AW.cond rfl (fun a3 => ?_) (fun a3 => ?_)
    ·have hdr := rangeR_1 cp (st := st) (w := w) fun k => by
       rw [any_false fun x hx => decide_eq_false (by have := k.2.2.1 x hx; omega)] at a3; cases a3
     refine AW.sg hE rfl ?_
     refine bd z.Interval pl.Interval (cs := [_,_,_,_,_,_]) rfl ?_
     first | refine sto sz.Interval rfl rfl rfl rfl rfl (nb9 rfl) (cells2 := [_,_,_,_,_,_]) rfl ?_ | refine stE sz.Interval rfl (VC.d _).vd rfl rfl (by omega) rfl ?_
     refine asD rfl ?_
     refine OL.nil ?_
     exact AW.ret (RetQ.r ⟨_, .cellA rfl rfl ag.Interval (nb9 rfl) (.tmp rfl .nil), _, .cons (.ag (.cons (.le (by show VLe _ (.d (dB (ofQ (rangeR h st w).2.1).neg)); rw [hdr, ofQ_zero]; exact VLe.refl _)) (.cons (.le (by show VLe _ (.d (u32s (ofQ (rangeR h st w).2.1).num)); rw [hdr, ofQ_zero]; exact VLe.mt)) (.cons (.le (by show VLe _ (.d (u32s (ofQ (rangeR h st w).2.1).den)); rw [hdr, ofQ_zero]; exact VLe.mt)) (.cons (.le (by show VLe _ (.d (dB (ofQ (rangeR h st w).2.2).neg)); rw [hdr, ofQ_zero]; exact VLe.refl _)) (.cons (.le (by show VLe _ (.d (u32s (ofQ (rangeR h st w).2.2).num)); rw [hdr, ofQ_zero]; exact VLe.mt)) (.cons (.le (by show VLe _ (.d (u32s (ofQ (rangeR h st w).2.2).den)); rw [hdr, ofQ_zero]; exact VLe.mt)) .nil))))))) (.cons (.le (VLe.int (by rw [hdr]))) .nil), rfl⟩)
    ·have k : RunOK (hm h) st w := ⟨a2, a1.1, fun x hx => Classical.byContradiction fun e => (by rw [List.any_eq_true.2 ⟨x, hx, decide_eq_true (by omega)⟩] at a3; cases a3), a1.2⟩
     rw [rangeR_0 cp k]
     generalize hm h = h at *
     have f := g.form
     have k1 := k.1
     have k2 := k.2.1
     have n0 := f.st0
     have n1 := f.st1
     have e4 := f.emit
     have rk := range_okW g hQ k
     obtain ⟨r1, r2, r3⟩ := rk.szs hQ.ne hl (by omega)
     refine AW.skip ?_
     refine AW.sg hE rfl ?_
     refine clv rfl (.nil) (sample_one) ?_
     refine bd z.span pl.span (cs := [_,_,_,_,_,_]) rfl ?_
     refine al z.span rfl fun b9 => ?_
     first | refine sto sz.span rfl rfl rfl rfl rfl (nb9 rfl) (cells2 := [_,_,_,_,_,_]) rfl ?_ | refine stE sz.span rfl (VC.d _).vd rfl rfl (by omega) rfl ?_
     refine asD rfl ?_
     refine OL.nil ?_
     refine AW.seq ?_
     refine AW.sg hE rfl ?_
     first | refine mvD rfl ?_ | refine mvO rfl ?_ | refine mvM rfl ?_
     first | refine lnL sl.ints rfl rfl ?_ | refine lnO sl.ints rfl rfl ?_ | refine lnM sl.ints rfl rfl ?_ | refine lnD sl.ints rfl rfl rfl ?_
     refine mvD rfl ?_
     refine OL.nil ?_
     refine AW.block ?_
     refine AW.boxW 9 (cellsSpan .one) rfl vles_span1 ?_
     refine AW.whileK (α := Nat) [(2, _), (3, _), (6, _), (7, _), (9, _), (39, _), (40, _)] [(3, _), (6, _)] (fun t => [(41, .d (dI t)), (10, .d (dI (frJ st t)))]) (fun t => [(9, .box b9 T.span (cellsSpan (spF h st w t).1))]) (fun t => t ≤ w.length) (fun t => w.length - t) 0 (by repeat (first | exact Knows.nil | refine Knows.cons (by first | exact knD rfl | exact knA rfl | exact knP rfl | exact knO rfl | exact knM rfl | exact knE rfl | exact knR rfl | exact knF rfl | exact knT rfl | exact knJ) ?_)) (by repeat (first | exact Owns.nil | refine Owns.cons (by first | exact owB rfl | exact owR rfl | exact owL rfl | exact owT rfl) ?_)) ⟨Nat.zero_le _, .cons (by first | exact VLe.refl _ | exact VLe.int (by omega) | exact VLe.mt | exact vle_q0 | exact VLe.osl | exact VLe.ptr) (.cons (by first | exact VLe.refl _ | exact VLe.int (by omega) | exact VLe.mt | exact vle_q0 | exact VLe.osl | exact VLe.ptr) .nil), .cons rfl .nil⟩ ?_
     intro t h1
     have h1 : t ≤ w.length := h1
     have so := spF_okW g hQ k t h1
     have fj := frJ_range n0 k h1
     have nl := next_len f (spF_fr k h1)
     have ns := next_row g hQ (spF_fr k h1)
     have fe := frI_spF h st w k h1
     refine AW.sg hE rfl ?_
     refine c_lss rfl rfl rfl ?_
     refine OL.nil ?_
     refine AW.seq ?_
     refine AW.cond rfl (fun h42 => ?_) (fun h42 => ?_)
     ·try simp only [dx9] at h42
      refine AW.skip ?_
      refine AW.seq ?_
      refine AW.block ?_
      refine AW.seq ?_
      have hs := k.state (t := t) (by omega)
      have hx := k.word.symX (t := t) (by omega)
      obtain ⟨i, hi⟩ : ∃ i : Nat, st.getD t 0 = (i : Int) := ⟨(st.getD t 0).toNat, by omega⟩
      have hi2 : (st.getD t 0).toNat = i := by omega
      have er := f.erow i (by omega)
      have hsp : spF h st w (t + 1) = (((spF h st w t).1.part (h.next (spF h st w t).2) i).part (h.emit.getD i []) (symX w t), some i) := by rw [spF, hi2]; rfl
      have so1 := so.part (l := h.next (spF h st w t).2) hQ.ne ns i (by omega)
      refine AW.rg hE rfl ?_
      refine mvD rfl ?_
      first | refine ixO sl.ints rfl rfl (by omega) (by omega) rfl ?_ | refine ixLn sl.ints 0 rfl rfl (by omega) rfl rfl ?_ | refine ixL sl.ints 0 rfl rfl (by omega) (by omega) rfl rfl ?_
      first | refine ldRC ce.int rfl ?_ | refine ldPC ce.int rfl rfl rfl ?_
      rw [hi]
      refine asD rfl ?_
      refine asD rfl ?_
      refine OL.nil ?_
      refine AW.seq ?_
      refine AW.dg 1 [0,1,2,3,4,5,6,7,8,9,10,11,12,13,14,15,16,17] order_free hE rfl (by kernel_rfl) (OI.of_OL (os := [_,_,_,_,_,_,_,_,_,_,_,_,_,_,_,_,_,_]) rfl ?_)
      first | refine ldPA ag.span rfl rfl (vs := [_,_,_,_,_,_]) rfl (nb9 rfl) ?_ | refine ldRA ag.span rfl (vs := [_,_,_,_,_,_]) rfl (nb9 rfl) ?_
      first | refine ldPA ag.Hidden rfl rfl (vs := [_,_,_,_,_,_,_,_,_,_,_]) rfl (nb9 rfl) ?_ | refine ldRA ag.Hidden rfl (vs := [_,_,_,_,_,_,_,_,_,_,_]) rfl (nb9 rfl) ?_
      refine mvD rfl ?_
      refine clv rfl (.cons (VLe.refl _) (.cons (VLe.refl _) .nil)) (sample_next f fj) ?_
      rw [← fe, next_frI]
      refine mvD rfl ?_
      refine clv rfl (.cons (VLe.refl _) (.cons (VLe.refl _) (.cons (VLe.refl _) .nil))) (sample_part ⟨hQ.ne, hl⟩ so (by omega) ns (by omega) (by omega)) ?_
      first | refine faP fd.Hidden_6 rfl rfl ?_ | refine faR fd.Hidden_6 rfl rfl ?_ | refine faE fd.Hidden_6 rfl rfl ?_
      first | refine ldRC ce.Ratss rfl ?_ | refine ldPC ce.Ratss rfl rfl rfl ?_
      refine mvD rfl ?_
      first | refine ixO sl.Ratss rfl rfl (by omega) (by omega) rfl ?_ | refine ixLn sl.Ratss [] rfl rfl (by omega) rfl rfl ?_ | refine ixL sl.Ratss [] rfl rfl (by omega) (by omega) rfl rfl ?_
      first | refine ldRC ce.Rats rfl ?_ | refine ldPC ce.Rats rfl rfl rfl ?_
      first | refine mvD rfl ?_ | refine mvO rfl ?_ | refine mvM rfl ?_
      refine mvD rfl ?_
      first | refine ixO sl.ints rfl rfl (by omega) (by omega) rfl ?_ | refine ixLn sl.ints 0 rfl rfl (by omega) rfl rfl ?_ | refine ixL sl.ints 0 rfl rfl (by omega) (by omega) rfl rfl ?_
      first | refine ldRC ce.int rfl ?_ | refine ldPC ce.int rfl rfl rfl ?_
      rw [hx.2]
      refine bo rfl rfl (bin_sub (c := (symX w t : Int)) (by omega) (wrap_i64 (by omega))) ?_
      refine clv rfl (.cons (VLe.refl _) (.cons (VLe.refl _) (.cons (VLe.refl _) .nil))) (sample_part ⟨hQ.ne, hl⟩ so1 (by omega) (emit_row g hQ (show i < h.st by omega)) (by omega) (by rw [er]; exact hx.1)) ?_
      first | refine sto sz.span rfl rfl rfl rfl rfl (nb9 rfl) (cells2 := [_,_,_,_,_,_]) rfl ?_ | refine stE sz.span rfl (VC.d _).vd rfl rfl (by omega) rfl ?_
      refine OL.nil ?_
      refine AW.rg hE rfl ?_
      refine mvD rfl ?_
      refine asD rfl ?_
      refine OL.nil ?_
      refine AW.rg hE rfl ?_
      refine add_i64 rfl rfl (by omega) ?_
      refine mvD rfl ?_
      refine OL.nil ?_
      exact AW.again (x := t) (t + 1) (by first | omega | (simp only []; omega)) ⟨by omega, Knows.app (.cons (VLe.refl _) (.cons (VLe.refl _) (.cons (VLe.refl _) (.cons (VLe.refl _) (.cons (VLe.refl _) (.cons (VLe.refl _) (.cons (VLe.refl _) .nil))))))) (.cons (by first | exact VLe.refl _ | exact VLe.int (by omega) | exact VLe.mt | exact vle_q0 | exact VLe.osl | exact VLe.ptr) (.cons (VLe.int hi.symm) .nil)), Owns.app (.cons rfl (.cons rfl .nil)) (.cons (by rw [hsp]; rfl) .nil)⟩
     ·try simp only [dx9] at h42
      refine AW.exit ?_
      refine AW.seq ?_
      obtain rfl : t = w.length := by omega
      refine AW.dg 1 [0,1,2,3,4,5,6,7] order_free hE rfl (by kernel_rfl) (OI.of_OL (os := [_,_,_,_,_,_,_,_]) rfl ?_)
      first | refine ldPA ag.span rfl rfl (vs := [_,_,_,_,_,_]) rfl (nb9 rfl) ?_ | refine ldRA ag.span rfl (vs := [_,_,_,_,_,_]) rfl (nb9 rfl) ?_
      first | refine ldPA ag.Hidden rfl rfl (vs := [_,_,_,_,_,_,_,_,_,_,_]) rfl (nb9 rfl) ?_ | refine ldRA ag.Hidden rfl (vs := [_,_,_,_,_,_,_,_,_,_,_]) rfl (nb9 rfl) ?_
      refine mvD rfl ?_
      refine clv rfl (.cons (VLe.refl _) (.cons (VLe.refl _) .nil)) (sample_next f fj) ?_
      rw [← fe, next_frI]
      first | refine faP fd.Hidden_1 rfl rfl ?_ | refine faR fd.Hidden_1 rfl rfl ?_ | refine faE fd.Hidden_1 rfl rfl ?_
      first | refine ldRC ce.int rfl ?_ | refine ldPC ce.int rfl rfl rfl ?_
      refine clv rfl (.cons (VLe.refl _) (.cons (VLe.refl _) (.cons (VLe.refl _) .nil))) (sample_part ⟨hQ.ne, hl⟩ so (by omega) ns (by omega) (by omega)) ?_
      rw [show (spF h st w w.length).1.part (h.next (spF h st w w.length).2) h.st = rangeS h st w from rfl]
      first | refine sto sz.span rfl rfl rfl rfl rfl (nb9 rfl) (cells2 := [_,_,_,_,_,_]) rfl ?_ | refine stE sz.span rfl (VC.d _).vd rfl rfl (by omega) rfl ?_
      refine OL.nil ?_
      refine AW.seq ?_
      refine AW.dg 1 [0,1,2,3,4,5,6,7,8,9] order_free hE rfl (by kernel_rfl) (OI.of_OL (os := [_,_,_,_,_,_,_,_,_,_]) rfl ?_)
      first | refine faP fd.span_0 rfl rfl ?_ | refine faR fd.span_0 rfl rfl ?_ | refine faE fd.span_0 rfl rfl ?_
      first | refine ldPA ag.Rat rfl rfl (vs := [_,_,_]) rfl (nb9 rfl) ?_ | refine ldRA ag.Rat rfl (vs := [_,_,_]) rfl (nb9 rfl) ?_
      first | refine faP fd.span_0 rfl rfl ?_ | refine faR fd.span_0 rfl rfl ?_ | refine faE fd.span_0 rfl rfl ?_
      first | refine ldPA ag.Rat rfl rfl (vs := [_,_,_]) rfl (nb9 rfl) ?_ | refine ldRA ag.Rat rfl (vs := [_,_,_]) rfl (nb9 rfl) ?_
      first | refine faP fd.span_1 rfl rfl ?_ | refine faR fd.span_1 rfl rfl ?_ | refine faE fd.span_1 rfl rfl ?_
      first | refine ldPA ag.Rat rfl rfl (vs := [_,_,_]) rfl (nb9 rfl) ?_ | refine ldRA ag.Rat rfl (vs := [_,_,_]) rfl (nb9 rfl) ?_
      refine clv rfl (.cons (by first | exact VLe.refl _ | exact VLe.mt | exact vle_q0 | exact VLe.ptr) (.cons (by first | exact VLe.refl _ | exact VLe.mt | exact vle_q0 | exact VLe.ptr) .nil)) (rational_AddQ (by first | assumption | omega) (by first | assumption | omega)) ?_
      refine bd z.Interval pl.Interval (cs := [_,_,_,_,_,_]) rfl ?_
      first | refine sto sz.Interval rfl rfl rfl rfl rfl (nb9 rfl) (cells2 := [_,_,_,_,_,_]) rfl ?_ | refine stE sz.Interval rfl (VC.d _).vd rfl rfl (by omega) rfl ?_
      refine asD rfl ?_
      refine OL.nil ?_
      exact AW.ret (RetQ.r ⟨_, .cellA rfl rfl ag.Interval (nb9 rfl) (.tmp rfl .nil), _, .cons (.ag (.cons (.le (by first | exact VLe.refl _ | exact VLe.mt | exact vle_q0 | exact VLe.int (by omega) | exact VLe.bool (by simp_all))) (.cons (.le (by first | exact VLe.refl _ | exact VLe.mt | exact vle_q0 | exact VLe.int (by omega) | exact VLe.bool (by simp_all))) (.cons (.le (by first | exact VLe.refl _ | exact VLe.mt | exact vle_q0 | exact VLe.int (by omega) | exact VLe.bool (by simp_all))) (.cons (.le (by first | exact VLe.refl _ | exact VLe.mt | exact vle_q0 | exact VLe.int (by omega) | exact VLe.bool (by simp_all))) (.cons (.le (by first | exact VLe.refl _ | exact VLe.mt | exact vle_q0 | exact VLe.int (by omega) | exact VLe.bool (by simp_all))) (.cons (.le (by first | exact VLe.refl _ | exact VLe.mt | exact vle_q0 | exact VLe.int (by omega) | exact VLe.bool (by simp_all))) .nil))))))) (.cons (.le (by first | exact VLe.refl _ | exact VLe.mt | exact vle_q0 | exact VLe.int (by omega) | exact VLe.bool (by simp_all))) .nil), rfl⟩)
theorem equal_ints {l m : List Int} (nl : l.length ≤ 9223372036854775807) : FSpec P F.slices_Equal_ints_int [.d (ints l), .d (ints m)] (.d (dB (decide (l = m)))) := by
 refine FSpec.intro fn.slices_Equal_ints_int (by rfl) (by rfl) (nb9 (by rfl)) fun E hE => ?_
 refine AW.sg hE rfl ?_
 refine asD rfl ?_
 refine OL.nil ?_
 refine AW.seq ?_
 refine AW.sg hE rfl ?_
 first | refine mvD rfl ?_ | refine mvO rfl ?_ | refine mvM rfl ?_
 first | refine lnL sl.ints rfl rfl ?_ | refine lnO sl.ints rfl rfl ?_ | refine lnM sl.ints rfl rfl ?_ | refine lnD sl.ints rfl rfl rfl ?_
 first | refine mvD rfl ?_ | refine mvO rfl ?_ | refine mvM rfl ?_
 first | refine lnL sl.ints rfl rfl ?_ | refine lnO sl.ints rfl rfl ?_ | refine lnM sl.ints rfl rfl ?_ | refine lnD sl.ints rfl rfl rfl ?_
 refine c_neq rfl rfl rfl ?_
 refine OL.nil ?_
 refine AW.cond rfl (fun h10 => ?_) (fun h10 => ?_)
 ·have hl : l.length ≠ m.length := by simp at h10; omega
  refine AW.sg hE rfl ?_
  refine asD rfl ?_
  refine OL.nil ?_
  exact AW.ret (RetQ.r ⟨_, .tmp rfl .nil, .le (VLe.bool ((decide_eq_false fun e => hl (by rw [e])).symm))⟩)
 ·have hl : l.length = m.length := by simp at h10; omega
  refine AW.skip ?_
  refine AW.seq ?_
  refine AW.sg hE rfl ?_
  first | refine mvD rfl ?_ | refine mvO rfl ?_ | refine mvM rfl ?_
  first | refine lnL sl.ints rfl rfl ?_ | refine lnO sl.ints rfl rfl ?_ | refine lnM sl.ints rfl rfl ?_ | refine lnD sl.ints rfl rfl rfl ?_
  refine mvD rfl ?_
  refine OL.nil ?_
  refine AW.block ?_
  refine AW.whileK (α := Nat) [(0, _), (1, _), (12, _)] [] (fun i => [(13, .d (dI i))]) (fun i => []) (fun i => i ≤ l.length ∧ ∀ j, j < i → l.getD j 0 = m.getD j 0) (fun i => l.length - i) 0 (by repeat (first | exact Knows.nil | refine Knows.cons (by first | exact knD rfl | exact knA rfl | exact knP rfl | exact knO rfl | exact knM rfl | exact knE rfl | exact knR rfl | exact knF rfl | exact knT rfl | exact knJ) ?_)) .nil ⟨⟨Nat.zero_le _, fun j hj => by omega⟩, .cons (by first | exact VLe.refl _ | exact VLe.int (by omega) | exact VLe.mt | exact vle_q0 | exact VLe.osl | exact VLe.ptr) .nil, .nil⟩ ?_
  rintro i ⟨h1, h2⟩
  refine AW.sg hE rfl ?_
  refine c_lss rfl rfl rfl ?_
  refine OL.nil ?_
  refine AW.seq ?_
  refine AW.cond rfl (fun h14 => ?_) (fun h14 => ?_)
  ·try simp only [dx9] at h14
   refine AW.skip ?_
   refine AW.seq ?_
   refine AW.block ?_
   refine AW.sg hE rfl ?_
   refine mvD rfl ?_
   refine asD rfl ?_
   refine OL.nil ?_
   refine AW.seq ?_
   refine AW.dg 1 [0,1,2,3,4,5,6,7,8] order_free hE rfl (by kernel_rfl) (OI.of_OL (os := [_,_,_,_,_,_,_,_,_]) rfl ?_)
   first | refine mvD rfl ?_ | refine mvO rfl ?_ | refine mvM rfl ?_
   refine mvD rfl ?_
   first | refine ixO sl.ints rfl rfl (by omega) (by omega) rfl ?_ | refine ixLn sl.ints 0 rfl rfl (by omega) rfl rfl ?_ | refine ixL sl.ints 0 rfl rfl (by omega) (by omega) rfl rfl ?_
   first | refine ldRC ce.int rfl ?_ | refine ldPC ce.int rfl rfl rfl ?_
   first | refine mvD rfl ?_ | refine mvO rfl ?_ | refine mvM rfl ?_
   refine mvD rfl ?_
   first | refine ixO sl.ints rfl rfl (by omega) (by omega) rfl ?_ | refine ixLn sl.ints 0 rfl rfl (by omega) rfl rfl ?_ | refine ixL sl.ints 0 rfl rfl (by omega) (by omega) rfl rfl ?_
   first | refine ldRC ce.int rfl ?_ | refine ldPC ce.int rfl rfl rfl ?_
   refine c_neq rfl rfl rfl ?_
   refine OL.nil ?_
   refine AW.cond rfl (fun hc => ?_) (fun hc => ?_)
   ·have hc : l.getD i 0 ≠ m.getD i 0 := fun e => by rw [e] at hc; simp at hc
    refine AW.sg hE rfl ?_
    refine asD rfl ?_
    refine OL.nil ?_
    exact AW.ret (RetQ.r ⟨_, .tmp rfl .nil, .le (VLe.bool ((decide_eq_false fun e => hc (by rw [e])).symm))⟩)
   ·have hc : l.getD i 0 = m.getD i 0 := nd_f hc
    refine AW.skip ?_
    refine AW.rg hE rfl ?_
    refine add_i64 rfl rfl (by omega) ?_
    refine mvD rfl ?_
    refine OL.nil ?_
    exact AW.again (x := i) (i + 1) (by first | omega | (simp only []; omega)) ⟨⟨by omega, fun j hj => by rcases Nat.lt_or_ge j i with h | h; exact h2 j h; obtain rfl : j = i := (by omega); exact hc⟩, Knows.app (.cons (VLe.refl _) (.cons (VLe.refl _) (.cons (VLe.refl _) .nil))) (.cons (by first | exact VLe.refl _ | exact VLe.int (by omega) | exact VLe.mt | exact vle_q0 | exact VLe.osl | exact VLe.ptr) .nil), .nil⟩
  ·try simp only [dx9] at h14
   refine AW.exit ?_
   refine AW.sg hE rfl ?_
   refine asD rfl ?_
   refine OL.nil ?_
   exact AW.ret (RetQ.r ⟨_, .tmp rfl .nil, .le (VLe.bool ((decide_eq_true (list_eq_getD hl 0 fun j hj => h2 j (by omega))).symm))⟩)
theorem sample_AllR {h : RM} {n : Int} (zz : h.Sz) (lt : h.Lite) : FSpec P F.sample_All [vRM h, .d (dI n)] (.tup [.d (.sl ((allR h n).2.map dDr)), .d (dI (allR h n).1)]) := by
 refine FSpec.intro fn.sample_All (by rfl) (by rfl) (nb9 (by rfl)) fun E hE => ?_
 refine AW.sg hE rfl ?_
 first | refine bxA rfl rfl fun b2 => ?_ | refine bxD rfl rfl fun b2 => ?_
 refine asM rfl ?_
 refine asD rfl ?_
 refine OL.nil ?_
 refine AW.seq ?_
 refine AW.sg hE rfl ?_
 first | refine ldPA ag.Hidden rfl rfl (vs := [_,_,_,_,_,_,_,_,_,_,_]) rfl (nb9 rfl) ?_ | refine ldRA ag.Hidden rfl (vs := [_,_,_,_,_,_,_,_,_,_,_]) rfl (nb9 rfl) ?_
 refine clv rfl (.cons (VLe.refl _) (.nil)) (sample_refuseR zz) ?_
 refine asD rfl ?_
 refine OL.nil ?_
 refine AW.sg hE rfl ?_
 refine mvD rfl ?_
 refine c_neq rfl rfl rfl ?_
 refine OL.nil ?_
 refine AW.cond rfl (fun cp => ?_) (fun cp => ?_)
 ·have cp : ¬ chkP h = 0 := by simpa using cp
  have hdr := allR_e (h := h) (n := n) cp
  refine AW.sg hE rfl ?_
  refine mvD rfl ?_
  refine asM rfl ?_
  refine asD rfl ?_
  refine OL.nil ?_
  exact AW.ret (RetQ.r ⟨_, .tmp rfl (.tmp rfl .nil), _, .cons (.le (by rw [hdr]; exact VLe.mt)) (.cons (.le (VLe.int (by rw [hdr]))) .nil), rfl⟩)
 ·have cp : chkP h = 0 := by simpa using cp
  obtain ⟨g, hv⟩ := chkP_good zz cp
  have hQ := (hm h).den
  have hl := lt.ll zz cp
  have s0 := g.form.sym0
  have s1 := g.form.sym1
  refine AW.boxW 2 (cellsHM (hm h)) rfl (vles_of_eq (V.ag.inj hv)) ?_
  refine AW.skip ?_
  refine AW.seq ?_
  refine AW.sg hE rfl ?_
  refine mvD rfl ?_
  refine c_lss rfl rfl rfl ?_
  refine mvD rfl ?_
  refine OL.split 21 rfl (fun a1 => ?_) (fun a1 => ?_)
  ·have a1 : n < 0 := of_decide_eq_true a1
   have hdr := allR_1 cp (n := n) (.inl a1)
   refine OL.no rfl (by decide) ?_
   refine OL.no rfl (by decide) ?_
   refine pkT rfl rfl ?_
   refine OL.nil ?_
   refine AW.cond rfl (fun _ => ?_) (fun hno => absurd hno (by decide))
   refine AW.sg hE rfl ?_
   refine asM rfl ?_
   refine asD rfl ?_
   refine OL.nil ?_
   exact AW.ret (RetQ.r ⟨_, .tmp rfl (.tmp rfl .nil), _, .cons (.le (by rw [hdr]; exact VLe.mt)) (.cons (.le (VLe.int (by rw [hdr]))) .nil), rfl⟩)
  ·have a1 : ¬ n < 0 := of_decide_eq_false a1
   refine OL.yes rfl ?_
   refine mvD rfl ?_
   refine OL.yes rfl ?_
   refine c_gtr rfl rfl rfl ?_
   refine pkF rfl rfl ?_
   refine OL.nil ?_
   refine AW.cond rfl (fun a2 => ?_) (fun a2 => ?_)
   ·have a2 : 10 < n := of_decide_eq_true a2
    have hdr := allR_1 cp (n := n) (.inr a2)
    refine AW.sg hE rfl ?_
    refine asM rfl ?_
    refine asD rfl ?_
    refine OL.nil ?_
    exact AW.ret (RetQ.r ⟨_, .tmp rfl (.tmp rfl .nil), _, .cons (.le (by rw [hdr]; exact VLe.mt)) (.cons (.le (VLe.int (by rw [hdr]))) .nil), rfl⟩)
   ·have a2 : ¬ 10 < n := of_decide_eq_false a2
    obtain ⟨b, rfl⟩ : ∃ b : Nat, n = (b : Int) := ⟨n.toNat, by omega⟩
    rw [allR_0 cp (by omega), Int.toNat_natCast]
    generalize hm h = h at *
    obtain ⟨N, hN⟩ : ∃ N : Nat, N = 2 ^ b := ⟨_, rfl⟩
    have hp : 2 ^ b ≤ 2 ^ 10 := Nat.pow_le_pow_right (by decide) (by omega)
    have hp : N ≤ 1024 := by rw [hN]; exact hp
    rw [← hN]
    refine AW.skip ?_
    refine AW.sg hE rfl ?_
    refine asM rfl ?_
    refine OL.nil ?_
    refine AW.seq ?_
    refine AW.sg hE rfl ?_
    refine mvD rfl ?_
    refine shlV rfl rfl (by show (0:Int) ≤ (b : Int) ∧ b ≤ 64; omega) (c := (N : Int)) (by rw [Int.toNat_natCast, Int.one_mul, show (2 : Int) ^ b = (N : Int) by rw [hN]; push_cast; rfl]; exact wrap_i64 (by omega)) ?_
    refine mvD rfl ?_
    refine OL.nil ?_
    refine AW.block ?_
    refine AW.own 7 84 T.Drawn 3 rfl rfl ?_
    refine AW.whileK (α := Nat × Nat × Nat) [(1, _), (2, _), (4, _), (5, _), (26, _)] [(2, _)] (fun (n, p, c) => [(7, .osl 84 p (allF h b n).length c), (27, .d (dI n))]) (fun (n, p, c) => [(84, .row p c T.Drawn 3 ((allF h b n).map dDr))]) (fun (n, p, c) => n ≤ N) (fun (n, p, c) => N - n) (0, 0, 0) (by repeat (first | exact Knows.nil | refine Knows.cons (by first | exact knD rfl | exact knA rfl | exact knP rfl | exact knO rfl | exact knM rfl | exact knE rfl | exact knR rfl | exact knF rfl | exact knT rfl | exact knJ) ?_)) (.cons (by first | exact owB rfl | exact owR rfl | exact owL rfl | exact owT rfl) .nil) ⟨Nat.zero_le _, .cons (by first | exact VLe.refl _ | exact VLe.int (by omega) | exact VLe.mt | exact vle_q0 | exact VLe.osl | exact VLe.ptr) (.cons (by first | exact VLe.refl _ | exact VLe.int (by omega) | exact VLe.mt | exact vle_q0 | exact VLe.osl | exact VLe.ptr) .nil), .cons rfl .nil⟩ ?_
    rintro ⟨n, p, c⟩ h1
    have h1 : n ≤ N := h1
    have hal := allF_len h b n
    refine AW.sg hE rfl ?_
    refine c_lss rfl rfl rfl ?_
    refine OL.nil ?_
    refine AW.seq ?_
    refine AW.cond rfl (fun h28 => ?_) (fun h28 => ?_)
    ·try simp only [dx9] at h28
     refine AW.skip ?_
     refine AW.midK (α := Nat × Nat) [(1, _), (2, _), (4, _), (5, _), (26, _), (27, _)] [(2, _)] (fun (p2, c2) => [(7, .osl 84 p2 (allF h b (n + 1)).length c2)]) (fun (p2, c2) => [(84, .row p2 c2 T.Drawn 3 ((allF h b (n + 1)).map dDr))]) (fun (p2, c2) => True) (by repeat (first | exact Knows.nil | refine Knows.cons (by first | exact knD rfl | exact knA rfl | exact knP rfl | exact knO rfl | exact knM rfl | exact knE rfl | exact knR rfl | exact knF rfl | exact knT rfl | exact knJ) ?_)) (.cons (by first | exact owB rfl | exact owR rfl | exact owL rfl | exact owT rfl) .nil) ?_ ?_
     ·refine AW.block ?_
      refine AW.sg hE rfl ?_
      refine mvD rfl ?_
      refine asD rfl ?_
      refine OL.nil ?_
      refine AW.sg hE rfl ?_
      refine mvD rfl ?_
      refine mkL dI 0 sl.ints z.int (.cons (VC.d _) .nil) rfl rfl (Nat.le_refl _) (by omega) (by omega) rfl fun b31 => ?_
      first | refine asD rfl ?_ | refine asO rfl ?_ | refine asM rfl ?_
      refine OL.nil ?_
      refine AW.seq ?_
      refine AW.sg hE rfl ?_
      first | refine mvD rfl ?_ | refine mvO rfl ?_ | refine mvM rfl ?_
      first | refine lnL sl.ints rfl rfl ?_ | refine lnO sl.ints rfl rfl ?_ | refine lnM sl.ints rfl rfl ?_ | refine lnD sl.ints rfl rfl rfl ?_
      refine mvD rfl ?_
      refine OL.nil ?_
      refine AW.block ?_
      refine AW.whileK (α := Nat) [(1, _), (2, _), (4, _), (5, _), (7, _), (8, _), (9, _), (26, _), (27, _), (33, _)] [(2, _), (84, _)] (fun i => [(34, .d (dI i))]) (fun i => [(31, .row b31 b T.int 1 ((fillF 0 (fun i : Nat => ((n / 2 ^ (b - 1 - i) % 2 : Nat) : Int)) b i).map dI))]) (fun i => i ≤ b) (fun i => b - i) 0 (by repeat (first | exact Knows.nil | refine Knows.cons (by first | exact knD rfl | exact knA rfl | exact knP rfl | exact knO rfl | exact knM rfl | exact knE rfl | exact knR rfl | exact knF rfl | exact knT rfl | exact knJ) ?_)) (by repeat (first | exact Owns.nil | refine Owns.cons (by first | exact owB rfl | exact owR rfl | exact owL rfl | exact owT rfl) ?_)) ⟨Nat.zero_le _, .cons (by first | exact VLe.refl _ | exact VLe.int (by omega) | exact VLe.mt | exact vle_q0 | exact VLe.osl | exact VLe.ptr) .nil, .cons (by rw [fillF_zero]; rfl) .nil⟩ ?_
      intro i h2
      have h2 : i ≤ b := h2
      have hfl := fillF_len 0 (fun i : Nat => ((n / 2 ^ (b - 1 - i) % 2 : Nat) : Int)) b i
      refine AW.sg hE rfl ?_
      refine c_lss rfl rfl rfl ?_
      refine OL.nil ?_
      refine AW.seq ?_
      refine AW.cond rfl (fun h35 => ?_) (fun h35 => ?_)
      ·try simp only [dx9] at h35
       refine AW.skip ?_
       refine AW.seq ?_
       refine AW.block ?_
       refine AW.sg hE rfl ?_
       refine mvD rfl ?_
       refine asD rfl ?_
       refine OL.nil ?_
       have hnd : n / 2 ^ (b - 1 - i) ≤ n := Nat.div_le_self ..
       refine AW.rg hE rfl ?_
       first | refine mvD rfl ?_ | refine mvO rfl ?_ | refine mvM rfl ?_
       refine mvD rfl ?_
       refine mvD rfl ?_
       refine mvD rfl ?_
       refine sub_i64 rfl rfl (by omega) ?_
       refine mvD rfl ?_
       refine bo rfl rfl (bin_sub (c := ((b - 1 - i : Nat) : Int)) (by omega) (wrap_i64 (by omega))) ?_
       refine shrV rfl rfl (by show (0:Int) ≤ ((b - 1 - i : Nat) : Int) ∧ ((b - 1 - i : Nat) : Int).toNat ≤ 64; omega) (c := ((n / 2 ^ (b - 1 - i) : Nat) : Int)) (by rw [Int.toNat_natCast]; push_cast; rfl) ?_
       refine bo rfl rfl (and1_i64 (a := n / 2 ^ (b - 1 - i)) (by omega)) ?_
       refine ixOn sl.ints rfl rfl (by omega) ?_
       refine stE sz.int rfl (VC.d _).vd rfl rfl (by rw [List.length_map]; omega) (es2 := (fillF 0 (fun i : Nat => ((n / 2 ^ (b - 1 - i) % 2 : Nat) : Int)) b (i + 1)).map dI) (by rw [← fillF_set (by omega), List.map_set]) ?_
       refine OL.nil ?_
       refine AW.rg hE rfl ?_
       refine add_i64 rfl rfl (by omega) ?_
       refine mvD rfl ?_
       refine OL.nil ?_
       exact AW.again (x := i) (i + 1) (by first | omega | (simp only []; omega)) ⟨by omega, Knows.app (.cons (VLe.refl _) (.cons (VLe.refl _) (.cons (VLe.refl _) (.cons (VLe.refl _) (.cons (VLe.refl _) (.cons (VLe.refl _) (.cons (VLe.refl _) (.cons (VLe.refl _) (.cons (VLe.refl _) (.cons (VLe.refl _) .nil)))))))))) (.cons (by first | exact VLe.refl _ | exact VLe.int (by omega) | exact VLe.mt | exact vle_q0 | exact VLe.osl | exact VLe.ptr) .nil), Owns.app (.cons rfl (.cons rfl .nil)) (.cons rfl .nil)⟩
      ·try simp only [dx9] at h35
       refine AW.exit ?_
       refine AW.seq ?_
       have hib : i = b := by omega
       refine AW.freeze 31 rfl (AW.to [(1, .d (dI b)), (2, .ptr 2 b2 0), (4, .mt), (5, .d (.sc (.int .i64 0))), (7, .osl 84 p (allF h b n).length c), (9, .d (ints (bitsN b n))), (26, .d (dI N)), (27, .d (dI n))] [(2, .box b2 T.Hidden (cellsHM h)), (84, .row p c T.Drawn 3 ((allF h b n).map dDr))] (.cons (VLe.refl _) (.cons (VLe.refl _) (.cons (VLe.refl _) (.cons (VLe.refl _) (.cons (VLe.refl _) (.cons (frz_osl (by rw [List.length_map]; omega) (by rw [hib, fillF_all]; rfl)) (.cons (VLe.refl _) (.cons (VLe.refl _) .nil)))))))) (.cons rfl (.cons rfl .nil)) ?_)
       have hasc := allF_okW (b := b) g.form n
       refine AW.rg hE rfl ?_
       first | refine ldPA ag.Hidden rfl rfl (vs := [_,_,_,_,_,_,_,_,_,_,_]) rfl (nb9 rfl) ?_ | refine ldRA ag.Hidden rfl (vs := [_,_,_,_,_,_,_,_,_,_,_]) rfl (nb9 rfl) ?_
       first | refine mvD rfl ?_ | refine mvO rfl ?_ | refine mvM rfl ?_
       refine clv rfl (.cons (VLe.refl _) (.cons (VLe.refl _) (.nil))) (sample_draw g hQ hl (by rw [bitsN_len]; omega)) ?_
       first | refine mvD rfl ?_ | refine mvT rfl ?_ | refine mvP rfl ?_ | refine mvR rfl ?_ | refine mvE rfl ?_ | refine mvF rfl ?_ | refine mvA rfl ?_ | refine mvO rfl ?_ | refine mvM rfl ?_ | refine mvJ rfl ?_
       refine ex rfl rfl ?_
       refine ex rfl rfl ?_
       refine al z.Drawn rfl fun b11 => ?_
       first | refine sto sz.Drawn rfl rfl rfl rfl rfl (nb9 rfl) (cells2 := [_,_,_]) rfl ?_ | refine stE sz.Drawn rfl (VC.d _).vd rfl rfl (by omega) rfl ?_
       refine asD rfl ?_
       refine OL.nil ?_
       refine AW.seq ?_
       refine AW.sg hE rfl ?_
       refine mvD rfl ?_
       refine c_neq rfl rfl rfl ?_
       refine OL.nil ?_
       refine AW.cond rfl (fun h55 => ?_) (fun h55 => ?_)
       ·obtain ⟨e, hd⟩ : ∃ e, draw h (bitsN b n) = .err e := by
          cases hd : draw h (bitsN b n) with
          | err e => exact ⟨e, rfl⟩
          | run => rw [hd] at h55; cases h55
        have ha : allF h b (n + 1) = allF h b n := by rw [allF, hd]; rfl
        refine AW.exit ?_
        exact AW.reach (p, c) ⟨trivial, Knows.app (.cons (VLe.refl _) (.cons (VLe.refl _) (.cons (VLe.refl _) (.cons (VLe.refl _) (.cons (VLe.refl _) (.cons (VLe.refl _) .nil)))))) (.cons (vle_of_eq (by rw [ha]; rfl)) .nil), Owns.app (.cons rfl .nil) (.cons (by rw [ha]; rfl) .nil)⟩
       ·obtain ⟨st, w, u, hd⟩ : ∃ st w u, draw h (bitsN b n) = .run st w u := by
          cases hd : draw h (bitsN b n) with
          | err e => rw [hd] at h55; rcases draw_err hd with rfl | rfl <;> cases h55
          | run st w u => exact ⟨st, w, u, rfl⟩
        rw [hd]
        refine AW.skip ?_
        refine AW.seq ?_
        refine AW.sg hE rfl ?_
        first | refine mvD rfl ?_ | refine mvO rfl ?_ | refine mvM rfl ?_
        first | refine lnL sl.Drawns rfl rfl ?_ | refine lnO sl.Drawns rfl rfl ?_ | refine lnM sl.Drawns rfl rfl ?_ | refine lnD sl.Drawns rfl rfl rfl ?_
        refine sub_i64 rfl rfl (by omega) ?_
        refine asD rfl ?_
        refine OL.nil ?_
        refine AW.midK (α := Unit) [(1, _), (2, _), (4, _), (5, _), (7, _), (11, _), (26, _), (27, _)] [(2, _), (11, _), (84, _)] (fun _u => [(80, .d (dB (decide (LastIs (allF h b n) st w))))]) (fun _u => []) (fun _u => True) (by repeat (first | exact Knows.nil | refine Knows.cons (by first | exact knD rfl | exact knA rfl | exact knP rfl | exact knO rfl | exact knM rfl | exact knE rfl | exact knR rfl | exact knF rfl | exact knT rfl | exact knJ) ?_)) (by repeat (first | exact Owns.nil | refine Owns.cons (by first | exact owB rfl | exact owR rfl | exact owL rfl | exact owT rfl) ?_)) ?_ ?_
        ·refine AW.dg 1 [0,1,2,3,4,5,6,7,8,9,10,11,12,13,14,15,16,17,18,19,20,21] order_free hE rfl (by kernel_rfl) (OI.of_OL (os := [_,_,_,_,_,_,_,_,_,_,_,_,_,_,_,_,_,_,_,_,_,_]) rfl ?_)
         refine mvD rfl ?_
         refine c_geq rfl rfl rfl ?_
         refine OL.split 60 rfl (fun g60 => ?_) (fun g60 => ?_)
         ·have g60 : 0 < (allF h b n).length := by have := of_decide_eq_true g60; omega
          have hk := hasc.ok ((allF h b n).length - 1) (by omega)
          have hk1 := hk.1
          have hk2 := hk.2.1
          refine mvD rfl ?_
          refine OL.yes rfl ?_
          first | refine mvD rfl ?_ | refine mvO rfl ?_ | refine mvM rfl ?_
          refine OL.yes rfl ?_
          refine mvD rfl ?_
          refine OL.yes rfl ?_
          refine ixO sl.Drawns rfl rfl (by omega) (by omega) (i := (allF h b n).length - 1) (by omega) ?_
          refine OL.yes rfl ?_
          first | refine faP fd.Drawn_0 rfl rfl ?_ | refine faR fd.Drawn_0 rfl rfl ?_ | refine faE fd.Drawn_0 rfl rfl ?_
          refine OL.yes rfl ?_
          refine ldEL ce.ints dr0 (by decide) rfl rfl (by omega) rfl ?_
          refine OL.yes rfl ?_
          first | refine faP fd.Drawn_0 rfl rfl ?_ | refine faR fd.Drawn_0 rfl rfl ?_ | refine faE fd.Drawn_0 rfl rfl ?_
          refine OL.yes rfl ?_
          first | refine ldRC ce.ints rfl ?_ | refine ldPC ce.ints rfl rfl rfl ?_
          refine OL.yes rfl ?_
          refine clv rfl (.cons (VLe.refl _) (.cons (VLe.refl _) (.nil))) (equal_ints (l := ((allF h b n).getD ((allF h b n).length - 1) dr0).st) (m := st) (by omega)) ?_
          refine OL.split 69 rfl (fun g69 => ?_) (fun g69 => ?_)
          ·have g69 := of_decide_eq_true g69
           refine pkT rfl rfl ?_
           refine mvD rfl ?_
           refine OL.yes rfl ?_
           first | refine mvD rfl ?_ | refine mvO rfl ?_ | refine mvM rfl ?_
           refine OL.yes rfl ?_
           refine mvD rfl ?_
           refine OL.yes rfl ?_
           refine ixO sl.Drawns rfl rfl (by omega) (by omega) (i := (allF h b n).length - 1) (by omega) ?_
           refine OL.yes rfl ?_
           first | refine faP fd.Drawn_1 rfl rfl ?_ | refine faR fd.Drawn_1 rfl rfl ?_ | refine faE fd.Drawn_1 rfl rfl ?_
           refine OL.yes rfl ?_
           refine ldEL ce.ints dr0 (by decide) rfl rfl (by omega) rfl ?_
           refine OL.yes rfl ?_
           first | refine faP fd.Drawn_1 rfl rfl ?_ | refine faR fd.Drawn_1 rfl rfl ?_ | refine faE fd.Drawn_1 rfl rfl ?_
           refine OL.yes rfl ?_
           first | refine ldRC ce.ints rfl ?_ | refine ldPC ce.ints rfl rfl rfl ?_
           refine OL.yes rfl ?_
           refine clv rfl (.cons (VLe.refl _) (.cons (VLe.refl _) (.nil))) (equal_ints (l := ((allF h b n).getD ((allF h b n).length - 1) dr0).w) (m := w) (by omega)) ?_
           refine pkT rfl rfl ?_
           refine OL.nil ?_
           exact AW.reach () ⟨trivial, Knows.app (.cons (VLe.refl _) (.cons (VLe.refl _) (.cons (VLe.refl _) (.cons (VLe.refl _) (.cons (VLe.refl _) (.cons (VLe.refl _) (.cons (VLe.refl _) (.cons (VLe.refl _) .nil)))))))) (.cons (VLe.bool (decide_eq_decide.2 ⟨fun e => ⟨g60, g69, e⟩, fun e => e.2.2⟩)) .nil), Owns.app (.cons rfl (.cons rfl (.cons rfl .nil))) (.nil)⟩
          ·have g69 := of_decide_eq_false g69
           refine pkT rfl rfl ?_
           refine mvD rfl ?_
           refine OL.no rfl (by decide) ?_
           refine OL.no rfl (by decide) ?_
           refine OL.no rfl (by decide) ?_
           refine OL.no rfl (by decide) ?_
           refine OL.no rfl (by decide) ?_
           refine OL.no rfl (by decide) ?_
           refine OL.no rfl (by decide) ?_
           refine OL.no rfl (by decide) ?_
           refine pkF rfl rfl ?_
           refine OL.nil ?_
           exact AW.reach () ⟨trivial, Knows.app (.cons (VLe.refl _) (.cons (VLe.refl _) (.cons (VLe.refl _) (.cons (VLe.refl _) (.cons (VLe.refl _) (.cons (VLe.refl _) (.cons (VLe.refl _) (.cons (VLe.refl _) .nil)))))))) (.cons (VLe.bool ((decide_eq_false fun e => g69 e.2.1).symm)) .nil), Owns.app (.cons rfl (.cons rfl (.cons rfl .nil))) (.nil)⟩
         ·have g60 : ¬ 0 < (allF h b n).length := fun e => of_decide_eq_false g60 (by omega)
          refine mvD rfl ?_
          refine OL.no rfl (by decide) ?_
          refine OL.no rfl (by decide) ?_
          refine OL.no rfl (by decide) ?_
          refine OL.no rfl (by decide) ?_
          refine OL.no rfl (by decide) ?_
          refine OL.no rfl (by decide) ?_
          refine OL.no rfl (by decide) ?_
          refine OL.no rfl (by decide) ?_
          refine pkF rfl rfl ?_
          refine mvD rfl ?_
          refine OL.no rfl (by decide) ?_
          refine OL.no rfl (by decide) ?_
          refine OL.no rfl (by decide) ?_
          refine OL.no rfl (by decide) ?_
          refine OL.no rfl (by decide) ?_
          refine OL.no rfl (by decide) ?_
          refine OL.no rfl (by decide) ?_
          refine OL.no rfl (by decide) ?_
          refine pkF rfl rfl ?_
          refine OL.nil ?_
          exact AW.reach () ⟨trivial, Knows.app (.cons (VLe.refl _) (.cons (VLe.refl _) (.cons (VLe.refl _) (.cons (VLe.refl _) (.cons (VLe.refl _) (.cons (VLe.refl _) (.cons (VLe.refl _) (.cons (VLe.refl _) .nil)))))))) (.cons (VLe.bool ((decide_eq_false fun e => g60 e.1).symm)) .nil), Owns.app (.cons rfl (.cons rfl (.cons rfl .nil))) (.nil)⟩
        rintro ⟨⟩ hφ
        refine AW.cond rfl (fun hl => ?_) (fun hl => ?_)
        ·have hl := of_decide_eq_true hl
         have ha : allF h b (n + 1) = allF h b n := by rw [allF, hd]; exact if_pos hl
         refine AW.exit ?_
         exact AW.reach (p, c) ⟨trivial, Knows.app (.cons (VLe.refl _) (.cons (VLe.refl _) (.cons (VLe.refl _) (.cons (VLe.refl _) (.cons (VLe.refl _) (.cons (VLe.refl _) .nil)))))) (.cons (vle_of_eq (by rw [ha]; rfl)) .nil), Owns.app (.cons rfl .nil) (.cons (by rw [ha]; rfl) .nil)⟩
        ·have hl := of_decide_eq_false hl
         have ha : allF h b (n + 1) = allF h b n ++ [⟨st, w, (u : Int)⟩] := by rw [allF, hd]; exact if_neg hl
         refine AW.skip ?_
         refine AW.rg hE rfl ?_
         first | refine mvD rfl ?_ | refine mvO rfl ?_ | refine mvM rfl ?_
         first | refine ldPA ag.Drawn rfl rfl (vs := [_,_,_]) rfl (nb9 rfl) ?_ | refine ldRA ag.Drawn rfl (vs := [_,_,_]) rfl (nb9 rfl) ?_
         refine lt1 (y := dDr ⟨st, w, (u : Int)⟩) sl.Drawns (VD.ag (.cons (VC.d _) (.cons (VC.d _) (.cons (VC.d _) .nil)))) rfl (by decide) ?_
         refine apO sl.Drawns rfl rfl rfl (by rw [List.length_map]) (VC.d _) (fun y hy => by rw [List.mem_singleton.1 hy]; rfl) (by simp only [List.length_singleton]; omega) (by simp only [List.length_singleton]; omega) (.inr rfl) (ys := (allF h b (n + 1)).map dDr) (by rw [ha, List.map_append]; rfl) (n2 := (allF h b (n + 1)).length) (by rw [ha, List.length_append]; rfl) fun b2 c2 => ?_
         first | refine asD rfl ?_ | refine asO rfl ?_ | refine asM rfl ?_
         refine OL.nil ?_
         exact AW.reach (b2, c2) ⟨trivial, Knows.app (.cons (VLe.refl _) (.cons (VLe.refl _) (.cons (VLe.refl _) (.cons (VLe.refl _) (.cons (VLe.refl _) (.cons (VLe.refl _) .nil)))))) (.cons (by first | exact VLe.refl _ | exact VLe.int (by omega) | exact VLe.mt | exact vle_q0 | exact VLe.osl | exact VLe.ptr) .nil), Owns.app (.cons rfl .nil) (.cons rfl .nil)⟩
     rintro ⟨p2, c2⟩ hφ
     refine AW.rg hE rfl ?_
     refine add_i64 rfl rfl (by omega) ?_
     refine mvD rfl ?_
     refine OL.nil ?_
     exact AW.again (x := (n, p, c)) (n + 1, p2, c2) (by first | omega | (simp only []; omega)) ⟨by omega, Knows.app (.cons (VLe.refl _) (.cons (VLe.refl _) (.cons (VLe.refl _) (.cons (VLe.refl _) (.cons (VLe.refl _) .nil))))) (.cons (by first | exact VLe.refl _ | exact VLe.int (by omega) | exact VLe.mt | exact vle_q0 | exact VLe.osl | exact VLe.ptr) (.cons (by first | exact VLe.refl _ | exact VLe.int (by omega) | exact VLe.mt | exact vle_q0 | exact VLe.osl | exact VLe.ptr) .nil)), Owns.app (.cons rfl .nil) (.cons rfl .nil)⟩
    ·try simp only [dx9] at h28
     refine AW.exit ?_
     refine AW.seq ?_
     obtain rfl : n = N := by omega
     refine AW.rg hE rfl ?_
     first | refine mvD rfl ?_ | refine mvO rfl ?_ | refine mvM rfl ?_
     first | refine asD rfl ?_ | refine asO rfl ?_ | refine asM rfl ?_
     refine asD rfl ?_
     refine OL.nil ?_
     exact AW.ret (RetQ.r ⟨_, .tmp rfl (.tmp rfl .nil), _, .cons (RO.row rfl (by rw [List.length_map]) rfl) (.cons (.le (by first | exact VLe.refl _ | exact VLe.mt | exact vle_q0 | exact VLe.int (by omega) | exact VLe.bool (by simp_all))) .nil), rfl⟩)
end Go.Proofs.YtjghehkgmanmbaaGreat

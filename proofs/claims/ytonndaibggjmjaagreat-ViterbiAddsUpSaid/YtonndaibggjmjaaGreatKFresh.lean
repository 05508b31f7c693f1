/-
  Walk of fresh.Rat (printed by mk2.py).
-/
import Derived.Test.YtonndaibggjmjaaGreatKNumb
import Derived.Test.YtonndaibggjmjaaGreatKHmmB
set_option linter.unusedVariables false
set_option linter.unusedSimpArgs false
namespace Go.AL
open Go Go.BigFrame
theorem rat_pos {a : Rat} (h : 0 ≤ a) : 0 < a ∨ 0 = a := by
 by_cases e : a ≤ 0
 ·exact .inr (Rat.le_antisymm h e)
 ·exact .inl (Rat.not_le.1 e)
def stepQ (h : HM) (fr : Int) (i : Nat) : Rat := if 0 ≤ fr then (h.trans.getD fr.toNat []).getD i 0 else h.ini.getD i 0
def viaQ (h : HM) (fr : Int) (x : Nat) (rest : List Rat) (i : Nat) : Rat := stepQ h fr i * (h.emit.getD i []).getD x 0 * rest.getD i 0
def aheadF (h : HM) (fr : Int) (x : Nat) (rest : List Rat) : Nat → Rat × Nat
 | 0 => (0, 0)
 | i + 1 => if (aheadF h fr x rest i).1 < viaQ h fr x rest i then (viaQ h fr x rest i, i) else aheadF h fr x rest i
def symX (w : List Int) (t : Nat) : Nat := (w.getD t 0).toNat - 1
def WordOK (h : HM) (w : List Int) : Prop := w.length ≤ 256 ∧ ∀ x, x ∈ w → 1 ≤ x ∧ x ≤ h.sym
theorem WordOK.get {h : HM} {w : List Int} (k : WordOK h w) {t : Nat} (ht : t < w.length) : 1 ≤ w.getD t 0 ∧ w.getD t 0 ≤ h.sym := k.2 _ (getD_mem ht 0)
theorem WordOK.symX {h : HM} {w : List Int} (k : WordOK h w) {t : Nat} (ht : t < w.length) : Go.AL.symX w t < h.sym ∧ w.getD t 0 = ((Go.AL.symX w t + 1 : Nat) : Int) := by
 have := k.get ht
 unfold Go.AL.symX
 omega
theorem aheadF_lt (h : HM) (fr : Int) (x : Nat) (rest : List Rat) (h0 : 1 ≤ h.st) : ∀ i, i ≤ h.st → (aheadF h fr x rest i).2 < h.st
 | 0, _ => h0
 | i + 1, hi => by rw [aheadF]; split; exact hi; exact aheadF_lt h fr x rest h0 i (by omega)
theorem cmpQ_gt {x y : Rat} : 0 < cmpQ x y ↔ y < x := by
 rw [← Rat.not_le, ← cmpQ_le]; omega
theorem viaQ_sz {h : HM} {B C : Nat} (f : h.Form B) (fr : Int) (x : Nat) {rest : List Rat} (hz : Small C rest) (hC : 1 ≤ C) (i : Nat) : sz (stepQ h fr i) ≤ 1024 ∧ sz ((h.emit.getD i []).getD x 0) ≤ 1024 ∧ sz (stepQ h fr i * (h.emit.getD i []).getD x 0) ≤ 2048 ∧ sz (viaQ h fr x rest i) ≤ 2048 + C := by
 have h1 := f.bB
 have h2 : sz (stepQ h fr i) ≤ B := by unfold stepQ; split; exact (f.zT _).get f.b1 i; exact f.zI.get f.b1 i
 have h3 := (f.zM i).get f.b1 x
 have h4 := hz.get hC i
 have h5 := sz_mul (stepQ h fr i) ((h.emit.getD i []).getD x 0)
 have h6 := sz_mul (stepQ h fr i * (h.emit.getD i []).getD x 0) (rest.getD i 0)
 unfold viaQ
 omega
theorem aheadF_sz {h : HM} {B C : Nat} (f : h.Form B) (fr : Int) (x : Nat) {rest : List Rat} (hz : Small C rest) (hC : 1 ≤ C) : ∀ i, sz (aheadF h fr x rest i).1 ≤ 2048 + C
 | 0 => by show sz 0 ≤ _; rw [sz_zero]; omega
 | i + 1 => by rw [aheadF]; split; exact (viaQ_sz f fr x hz hC i).2.2.2; exact aheadF_sz f fr x hz hC i
theorem map_getD_range {α : Type} {n k : Nat} (f : Nat → α) (d : α) (hk : k < n) : ((List.range n).map f).getD k d = f k := by
 rw [List.getD_eq_getElem?_getD, List.getElem?_map, List.getElem?_range hk]; rfl
def fillF {α : Type} (d : α) (g : Nat → α) (n i : Nat) : List α := (List.range n).map fun j => if j < i then g j else d
theorem fillF_len {α : Type} (d : α) (g : Nat → α) (n i : Nat) : (fillF d g n i).length = n := by simp [fillF]
theorem fillF_zero {α : Type} (d : α) (g : Nat → α) (n : Nat) : fillF d g n 0 = List.replicate n d := by
 refine List.ext_getElem (by simp [fillF]) fun k h1 h2 => ?_
 simp [fillF]
theorem fillF_set {α : Type} {d : α} {g : Nat → α} {n i : Nat} (hi : i < n) : (fillF d g n i).set i (g i) = fillF d g n (i + 1) := by
 refine List.ext_getElem (by simp [fillF]) fun k h1 h2 => ?_
 rw [List.getElem_set]
 simp only [fillF, List.getElem_map, List.getElem_range]
 by_cases he : i = k
 ·subst he; rw [if_pos rfl, if_pos (by omega)]
 ·rw [if_neg he]
  by_cases h3 : k < i
  ·rw [if_pos h3, if_pos (by omega)]
  ·rw [if_neg h3, if_neg (by omega)]
theorem fillF_all {α : Type} (d : α) (g : Nat → α) (n : Nat) : fillF d g n n = (List.range n).map g := by
 refine List.map_congr_left fun j hj => ?_
 rw [if_pos (List.mem_range.1 hj)]
end Go.AL

set_option linter.unusedVariables false
set_option linter.unusedSimpArgs false
namespace Go.Proofs.YtonndaibggjmjaaGreat
open Go Go.AL
theorem words_Valid {h : HM} {w : List Int} (k : WordOK h w) (hs : 1 ≤ h.sym ∧ h.sym ≤ 32) : FSpec P F.words_Valid [.d (ints w), .d (dI h.sym)] (.d (dB true)) := by
 have k1 := k.1
 refine FSpec.intro fn.words_Valid (by rfl) (by rfl) (nb9 (by rfl)) fun E hE => (AW.sg hE rfl (asD rfl (OL.nil (AW.seq (AW.sg hE rfl (mvD rfl (lnL sl.ints rfl rfl ?_)))))))
 refine mvD rfl (OL.nil (AW.block ?_))
 refine AW.whileK (α := Nat) [(0, _), (1, _), (7, _), (8, _)] [] (fun i => [(9, .d (dI i))]) (fun i => []) (fun i => i ≤ w.length) (fun i => w.length - i) 0 (.cons (knD rfl) (.cons (knD rfl) (.cons (knD rfl) (.cons (knD rfl) .nil)))) .nil ⟨Nat.zero_le _, .rq1, .nil⟩ ?_
 intro i h1
 refine AW.sg hE rfl (c_lss rfl rfl rfl (OL.nil (AW.seq (AW.cond rfl (fun h10 => ?_) (fun h10 => ?_)))))
 ·try simp only [dx9] at h10
  refine AW.skip (AW.seq (AW.block (AW.sg hE rfl (ixLn sl.ints 0 rfl rfl (by omega) rfl rfl (ldRC ce.int rfl (asD rfl (OL.nil ?_)))))))
  refine AW.seq ?_
  have kg := k.get (t := i) (by omega)
  refine AW.rg hE rfl (mvD rfl (c_lss rfl rfl (c := false) (by exact decide_eq_false (by omega)) (mvD rfl (OL.yes rfl (mvD rfl (OL.yes rfl (mvD rfl ?_)))))))
  refine OL.yes rfl (c_gtr rfl rfl (c := false) (by exact decide_eq_false (by omega)) (pkF rfl rfl (OL.nil (AW.cond rfl (fun hno => absurd hno (by decide)) (fun _ => ?_)))))
  exact AW.skip (AW.rg hE rfl (add_i64 rfl rfl (by omega) (mvD rfl (OL.nil (AW.again (x := i) (i + 1) (by omega) ⟨by omega, Knows.app .rq4 .rq1, .nil⟩)))))
 ·try simp only [dx9] at h10
  refine AW.exit (AW.sg hE rfl (mvD rfl (c_geq rfl rfl (c := true) (by exact decide_eq_true (by omega)) (mvD rfl (OL.yes rfl (mvD rfl (OL.yes rfl ?_)))))))
  refine c_leq rfl rfl (c := true) (by exact decide_eq_true (by omega)) (pkT rfl rfl (mvD rfl (OL.yes rfl (mvD rfl (OL.yes rfl (lnL sl.ints rfl rfl (OL.yes rfl ?_)))))))
  exact c_leq rfl rfl (c := true) (by exact decide_eq_true (by omega)) (pkT rfl rfl (asD rfl (OL.nil (AW.ret (RetQ.r ⟨_, .tmp rfl .nil, .le (VLe.refl _)⟩)))))
end Go.Proofs.YtonndaibggjmjaaGreat

set_option linter.unusedVariables false
set_option linter.unusedSimpArgs false
namespace Go.Proofs.YtonndaibggjmjaaGreat
open Go Go.AL
theorem fresh_Rat {q : Rat} (hz : sz q ≤ 68719476736) : FSpec P F.fresh_Rat [vQ q] (vQ q) := by
 have s1 := sz_num q
 have s2 := sz_den q
 have l1 : (ofQ q).num.length ≤ 8796093022208 := by rw [show (ofQ q).num = lim q.num.natAbs from rfl]; omega
 have l2 : (ofQ q).den.length ≤ 8796093022208 := by by_cases e : q.den = 1 <;> simp [ofQ, e]; omega
 refine FSpec.intro fn.fresh_Rat (by rfl) (by rfl) (nb9 (by rfl)) fun E hE => (AW.sg hE rfl (bxA rfl rfl fun b1 => (al z.Rat rfl fun b2 => (OL.nil (AW.seq (AW.dg 1 [0,1,2,3,4,5,6,7,8,9] order_free hE rfl (by kernel_rfl) (OI.of_OL (os := [_,_,_,_,_,_,_,_,_,_]) rfl ?_)))))))
 refine faP fd.Rat_0 rfl rfl (ldPC ce.bool rfl rfl rfl (faP fd.Rat_1 rfl rfl (ldPC ce.u32s rfl rfl rfl (clv rfl .rq1 (clone_u32s l1) (faP fd.Rat_2 rfl rfl (ldPC ce.u32s rfl rfl rfl (clv rfl .rq1 (clone_u32s l2) ?_)))))))
 exact bd2 (cs := [_,_,_]) z.Rat pl.Rat (pvC (by exact evD rfl) (pvC (by exact evD rfl) (pvC (by exact evD rfl) (pvN)))) (by rfl) (sto sz.Rat rfl rfl rfl rfl rfl (nb9 rfl) (cells2 := [_,_,_]) rfl (OL.nil (AW.ret (RetQ.r ⟨_, .cellA rfl rfl ag.Rat (nb9 rfl) .nil, .ag (.cons (.le (VLe.refl _)) (.cons (.le (VLe.refl _)) (.cons (.le (VLe.refl _)) .nil)))⟩))))
end Go.Proofs.YtonndaibggjmjaaGreat

/-
  Walks of package hmm, part 2: a valid model without silent states (printed by mk2.py).
-/
import Derived.Test.YtjghehkgmanmbaaGreatKHmmA
set_option linter.unusedVariables false
set_option linter.unusedSimpArgs false
namespace Go.Proofs.YtjghehkgmanmbaaGreat
open Go Go.AL
theorem hmm_order_1 {h : HM} {B : Nat} (g : h.GoodW B) {i b1 b5 b6 b4 : Nat} (hi : i < h.st) : FSpecM P F.hmm_order_1 [.d (dI i), .ptr 1 b1 0, .ptr 5 b5 0, .ptr 6 b6 0, .ptr 4 b4 0] (mem1 1 (.box b1 T.Hidden (cellsHM h))) (.d (dB true)) (mem1 1 (.box b1 T.Hidden (cellsHM h))) := by
 have f := g.form
 have e1 := f.ini
 have e2 := f.trans
 have e3 := f.stop
 have e4 := f.emit
 have e5 := f.ties
 have e6 := f.sill
 have s0 := f.sym0
 have s1 := f.sym1
 have n0 := f.st0
 have n1 := f.st1
 have bB := f.bB
 refine FSpecM.intro fn.hmm_order_1 (by rfl) (by rfl) (nb9 (by rfl)) fun E hE => (AW.sg hE rfl (asD rfl (OL.nil (AW.seq (AW.sg hE rfl (faP fd.Hidden_7 rfl rfl (ldPC ce.bools rfl rfl rfl ?_)))))))
 refine mvD rfl (ixLn sl.bools false rfl rfl (by omega) rfl rfl (ldRC ce.bool rfl ?_))
 rw [f.sil i]
 refine nt rfl (mvD rfl (OL.no rfl (by decide) (OL.no rfl (by decide) (OL.no rfl (by decide) (OL.no rfl (by decide) (OL.no rfl (by decide) (pkT rfl rfl ?_)))))))
 refine OL.nil (AW.cond rfl (fun _ => ?_) (fun hno => absurd hno (by decide)))
 refine AW.sg hE rfl (faP fd.Hidden_7 rfl rfl (ldPC ce.bools rfl rfl rfl (mvD rfl (ixLn sl.bools false rfl rfl (by omega) rfl rfl (ldRC ce.bool rfl ?_)))))
 rw [f.sil i]
 refine nt rfl (mvD rfl (OL.no rfl (by decide) (OL.no rfl (by decide) (OL.no rfl (by decide) (OL.no rfl (by decide) (OL.no rfl (by decide) (pkT rfl rfl ?_)))))))
 exact asD rfl (OL.nil (AW.ret ⟨⟨_, .tmp rfl .nil, .le (VLe.refl _)⟩, fun id blk hk => hk⟩))
theorem hmm_equal_1 {x y : Rat} (hx : sz x ≤ 68719476736) (hy : sz y ≤ 68719476736) : FSpec P F.hmm_equal_1 [vQ x, vQ y] (.d (dB (decide (x = y)))) := by
 refine FSpec.intro fn.hmm_equal_1 (by rfl) (by rfl) (nb9 (by rfl)) fun E hE => (AW.sg hE rfl (bxA rfl rfl fun b2 => (bxA rfl rfl fun b3 => (asD rfl (OL.nil (AW.sg hE rfl (ldPA ag.Rat rfl rfl (vs := [_,_,_]) rfl (nb9 rfl) ?_)))))))
 exact ldPA ag.Rat rfl rfl (vs := [_,_,_]) rfl (nb9 rfl) (clv rfl (.cons (VLe.refl _) (.cons (VLe.refl _) .nil)) (rational_CompareQ (by assumption) (by assumption)) (c_eql rfl rfl rfl (asD rfl (OL.nil (AW.ret (RetQ.r ⟨_, .tmp rfl .nil, .le (VLe.bool (decide_eq_decide.2 cmpQ_eq))⟩))))))
theorem equalFunc_Rats {l m : List Rat} {f : Nat} {p : Rat → Rat → Bool} (hf : ∀ x y, x ∈ l → y ∈ m → FSpec P f [vQ x, vQ y] (.d (dB (p x y)))) (hp : ∀ x y, p x y = true ↔ x = y) (nl : l.length ≤ 1099511627776) (nm : m.length ≤ 1099511627776) : FSpec P F.slices_EqualFunc_Rats_Rats_Rat_Rat [.d (dQs l), .d (dQs m), .fn f []] (.d (dB (decide (l = m)))) := by
 refine FSpec.intro fn.slices_EqualFunc_Rats_Rats_Rat_Rat (by rfl) (by rfl) (nb9 (by rfl)) fun E hE => (AW.sg hE rfl (asD rfl (OL.nil (AW.seq (AW.sg hE rfl (mvD rfl (lnL sl.Rats rfl rfl ?_)))))))
 refine mvD rfl (lnL sl.Rats rfl rfl (c_neq rfl rfl rfl (OL.nil (AW.cond rfl (fun h14 => ?_) (fun h14 => ?_)))))
 ·have hl : l.length ≠ m.length := fun e => by rw [e] at h14; simp at h14
  exact AW.sg hE rfl (asD rfl (OL.nil (AW.ret (RetQ.r ⟨_, .tmp rfl .nil, .le (VLe.bool ((decide_eq_false fun e => hl (by rw [e])).symm))⟩))))
 ·have hl : l.length = m.length := by simp at h14; omega
  refine AW.skip (AW.seq (AW.sg hE rfl (mvD rfl (lnL sl.Rats rfl rfl (mvD rfl (OL.nil (AW.block ?_)))))))
  refine AW.whileK (α := Nat) [(1, _), (2, _), (15, _), (16, _)] [] (fun i => [(17, .d (dI i))]) (fun i => []) (fun i => i ≤ l.length ∧ ∀ j, j < i → l.getD j 0 = m.getD j 0) (fun i => l.length - i) 0 (.cons (knD rfl) (.cons (knF rfl) (.cons (knD rfl) (.cons (knD rfl) .nil)))) .nil ⟨⟨Nat.zero_le _, fun j hj => by omega⟩, .cons (VLe.refl _) .nil, .nil⟩ ?_
  rintro i ⟨h1, h2⟩
  refine AW.sg hE rfl (c_lss rfl rfl rfl (OL.nil (AW.seq (AW.cond rfl (fun h18 => ?_) (fun h18 => ?_)))))
  ·try simp only [dx9] at h18
   refine AW.skip (AW.seq (AW.block (AW.sg hE rfl (mvD rfl (ixLn sl.Rats 0 rfl rfl (by omega) rfl rfl (ldRA ag.Rat rfl (vs := [_,_,_]) rfl (nb9 rfl) (al z.Rat rfl fun b8 => ?_)))))))
   refine asD rfl (sto sz.Rat rfl rfl rfl rfl rfl (nb9 rfl) (cells2 := [_,_,_]) rfl (OL.nil (AW.sg hE rfl (mvD rfl (mvD rfl (ixLn sl.Rats 0 rfl rfl (by omega) rfl rfl (ldRA ag.Rat rfl (vs := [_,_,_]) rfl (nb9 rfl) ?_)))))))
   refine al z.Rat rfl fun b9 => (sto sz.Rat rfl rfl rfl rfl rfl (nb9 rfl) (cells2 := [_,_,_]) rfl (OL.nil (AW.sg hE rfl (mvF rfl (ldPA ag.Rat rfl rfl (vs := [_,_,_]) rfl (nb9 rfl) (ldPA ag.Rat rfl rfl (vs := [_,_,_]) rfl (nb9 rfl) (clv rfl (.cons (VLe.refl _) (.cons (VLe.refl _) .nil)) (hf (l.getD i 0) (m.getD i 0) (getD_mem (by omega) _) (getD_mem (by omega) _)) ?_)))))))
   refine nt rfl (OL.nil (AW.cond rfl (fun h30 => ?_) (fun h30 => ?_)))
   ·have h30 := h30
    exact AW.sg hE rfl (asD rfl (OL.nil (AW.ret (RetQ.r ⟨_, .tmp rfl .nil, .le (VLe.bool ((decide_eq_false fun e => by rw [e, (hp _ _).2 rfl] at h30; cases h30).symm))⟩))))
   ·have h30 := h30
    refine AW.skip (AW.rg hE rfl (add_i64 rfl rfl (by omega) (mvD rfl (OL.nil ?_))))
    exact AW.again (x := i) (i + 1) (by omega) ⟨⟨by omega, fun j hj => by rcases Nat.lt_or_ge j i with h | h; exact h2 j h; obtain rfl : j = i := (by omega); exact (hp _ _).1 (by simpa using h30)⟩, Knows.app (.cons (VLe.refl _) (.cons (VLe.refl _) (.cons (VLe.refl _) (.cons (VLe.refl _) .nil)))) (.cons (VLe.refl _) .nil), .nil⟩
  ·try simp only [dx9] at h18
   exact AW.exit (AW.sg hE rfl (asD rfl (OL.nil (AW.ret (RetQ.r ⟨_, .tmp rfl .nil, .le (VLe.bool ((decide_eq_true (list_eq_getD hl 0 fun j hj => h2 j (by omega))).symm))⟩)))))
theorem hmm_equal {l m : List Rat} {B : Nat} (hl : Small B l) (hm : Small B m) (hB : B ≤ 1048576) (nl : l.length ≤ 1099511627776) (nm : m.length ≤ 1099511627776) : FSpec P F.hmm_equal [.d (dQs l), .d (dQs m)] (.d (dB (decide (l = m)))) := by
 refine FSpec.intro fn.hmm_equal (by rfl) (by rfl) (nb9 (by rfl)) fun E hE => (AW.sg hE rfl (asD rfl (OL.nil (AW.sg hE rfl (mvD rfl (mvD rfl ?_))))))
 refine clv rfl (.cons (VLe.refl _) (.cons (VLe.refl _) (.cons (VLe.refl _) .nil))) (equalFunc_Rats (f := F.hmm_equal_1) (p := fun x y => decide (x = y)) (fun x y hx hy => hmm_equal_1 (Nat.le_trans (hl x hx) (by omega)) (Nat.le_trans (hm y hy) (by omega))) (fun x y => decide_eq_true_iff) nl nm) ?_
 exact asD rfl (OL.nil (AW.ret (RetQ.r ⟨_, .tmp rfl .nil, .le (VLe.refl _)⟩)))
theorem indexOf_bools {l : List Bool} {x : Bool} (nl : l.length ≤ 1099511627776) : FSpec P F.slices_Index_bools_bool [.d (bools l), .d (dB x)] (.d (dI (idx1 (fun y => x == y) l))) := by
 refine FSpec.intro fn.slices_Index_bools_bool (by rfl) (by rfl) (nb9 (by rfl)) fun E hE => (AW.sg hE rfl (asD rfl (OL.nil (AW.seq (AW.sg hE rfl (mvD rfl (lnL sl.bools rfl rfl ?_)))))))
 refine mvD rfl (OL.nil (AW.block ?_))
 refine AW.whileK (α := Nat) [(0, _), (1, _), (7, _)] [] (fun i => [(8, .d (dI i))]) (fun i => []) (fun i => i ≤ l.length ∧ ∀ j, j < i → (x == l.getD j false) = false) (fun i => l.length - i) 0 (.cons (knD rfl) (.cons (knD rfl) (.cons (knD rfl) .nil))) .nil ⟨⟨Nat.zero_le _, fun j hj => by omega⟩, .cons (VLe.refl _) .nil, .nil⟩ ?_
 rintro i ⟨h1, h2⟩
 refine AW.sg hE rfl (c_lss rfl rfl rfl (OL.nil (AW.seq (AW.cond rfl (fun h9 => ?_) (fun h9 => ?_)))))
 ·try simp only [dx9] at h9
  refine AW.skip (AW.seq (AW.block (AW.sg hE rfl (mvD rfl (asD rfl (OL.nil (AW.sg hE rfl ?_)))))))
  refine mvD rfl (mvD rfl (mvD rfl (ixLn sl.bools false rfl rfl (by omega) rfl rfl (ldRC ce.bool rfl (eqb bt.bool rfl rfl (OL.nil (AW.cond rfl (fun h16 => ?_) (fun h16 => ?_))))))))
  ·have h16 := h16
   exact AW.sg hE rfl (mvD rfl (asD rfl (OL.nil (AW.ret (RetQ.r ⟨_, .tmp rfl .nil, .le (VLe.int ((idx1_found (p := fun y => x == y) (by omega) false h16 h2).symm))⟩)))))
  ·have h16 := h16
   refine AW.skip (AW.rg hE rfl (add_i64 rfl rfl (by omega) (mvD rfl (OL.nil ?_))))
   exact AW.again (x := i) (i + 1) (by omega) ⟨⟨by omega, fun j hj => by rcases Nat.lt_or_ge j i with h | h; exact h2 j h; obtain rfl : j = i := (by omega); exact h16⟩, Knows.app (.cons (VLe.refl _) (.cons (VLe.refl _) (.cons (VLe.refl _) .nil))) (.cons (VLe.refl _) .nil), .nil⟩
 ·try simp only [dx9] at h9
  exact AW.exit (AW.sg hE rfl (asD rfl (OL.nil (AW.ret (RetQ.r ⟨_, .tmp rfl .nil, .le (VLe.int ((idx1_none (p := fun y => x == y) false fun j hj => h2 j (by omega)).symm))⟩)))))
theorem containsOf_bools {l : List Bool} {x : Bool} (nl : l.length ≤ 1099511627776) : FSpec P F.slices_Contains_bools_bool [.d (bools l), .d (dB x)] (.d (dB (l.any fun y => x == y))) := by
 refine FSpec.intro fn.slices_Contains_bools_bool (by rfl) (by rfl) (nb9 (by rfl)) fun E hE => (AW.sg hE rfl (asD rfl (OL.nil (AW.sg hE rfl (mvD rfl (mvD rfl (clv rfl (.cons (VLe.refl _) (.cons (VLe.refl _) .nil)) (indexOf_bools nl) ?_)))))))
 exact c_geq rfl rfl rfl (asD rfl (OL.nil (AW.ret (RetQ.r ⟨_, .tmp rfl .nil, .le (VLe.bool (idx1_any _ l))⟩))))
end Go.Proofs.YtjghehkgmanmbaaGreat

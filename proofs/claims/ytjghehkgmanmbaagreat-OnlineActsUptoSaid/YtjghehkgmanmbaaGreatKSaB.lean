/-
  Walks of drawings of any model, part 2: the package's three functions (printed by mk2.py).
-/
import Derived.Test.YtjghehkgmanmbaaGreatKMod42
import Derived.Test.YtjghehkgmanmbaaGreatKAlg25
set_option linter.unusedVariables false
set_option linter.unusedSimpArgs false
namespace Go.Proofs.YtjghehkgmanmbaaGreat
open Go Go.AL
theorem vle_fnp {f i j b o : Nat} : VLe (.fn f [.ptr i b o]) (.fn f [.ptr j b o]) := fun F v h => by
 cases h with
 | @fn _ us _ hl hr =>
  refine .fn hl fun n c u hc hu => ?_
  cases n with
  | zero =>
   have h1 := hr 0 (.ptr i b o) u rfl hu
   cases hc
   cases h1
   exact .ptr
  | succ n => simp at hc
noncomputable def wokB (h : HM) (w : List Int) : Bool := @decide (WordOK h w) (Classical.propDecidable _)
theorem wokB_t {h : HM} {w : List Int} (f : WordOK h w) : true = wokB h w := (@decide_eq_true _ (Classical.propDecidable _) f).symm
theorem wokB_f {h : HM} {w : List Int} (f : ¬ WordOK h w) : false = wokB h w := (@decide_eq_false _ (Classical.propDecidable _) f).symm
theorem wokB_tt {h : HM} {w : List Int} (e : wokB h w = true) : WordOK h w := Classical.byContradiction fun n => by rw [← wokB_f n] at e; cases e
theorem wokB_ff {h : HM} {w : List Int} (e : wokB h w = false) : ¬ WordOK h w := fun n => by rw [← wokB_t n] at e; cases e
theorem index_intsM {l : List Int} {f b : Nat} {blk : Blk} {p : Int → Bool} (hf : ∀ q, q ∈ l → FSpecM P f [.d (dI q), .ptr 1000 b 0] (mem1 1000 blk) (.d (dB (p q))) (mem1 1000 blk)) (nl : l.length ≤ 1099511627776) : FSpecM P F.slices_IndexFunc_ints_int [.d (ints l), .fn f [.ptr 1000 b 0]] (mem1 1000 blk) (.d (dI (idx1 p l))) (mem1 1000 blk) := by
 refine FSpecM.intro fn.slices_IndexFunc_ints_int (by rfl) (by rfl) (nb9 (by rfl)) fun E hE => (AW.sg hE rfl (asD rfl (OL.nil (AW.seq (AW.sg hE rfl (mvD rfl (lnL sl.ints rfl rfl ?_)))))))
 refine mvD rfl (OL.nil (AW.block ?_))
 refine AW.whileK (α := Nat) [(0, _), (1, _), (7, _)] [] (fun i => [(8, .d (dI i))]) (fun i => [(1000, blk)]) (fun i => i ≤ l.length ∧ ∀ j, j < i → p (l.getD j 0) = false) (fun i => l.length - i) 0 (.cons (knD rfl) (.cons (knF rfl) (.cons (knD rfl) .nil))) .nil ⟨⟨Nat.zero_le _, fun j hj => by omega⟩, .rq1, .cons rfl .nil⟩ ?_
 rintro i ⟨h1, h2⟩
 refine AW.sg hE rfl (c_lss rfl rfl rfl (OL.nil (AW.seq (AW.cond rfl (fun h9 => ?_) (fun h9 => ?_)))))
 ·try simp only [dx9] at h9
  refine AW.skip (AW.seq (AW.block (AW.sg hE rfl (mvD rfl (asD rfl (OL.nil (AW.sg hE rfl ?_)))))))
  refine mvF rfl (mvD rfl (mvD rfl (ixLn sl.ints 0 rfl rfl (by omega) rfl rfl (ldRC ce.int rfl (OL.callM (v := .d (dB (p (l.getD i 0)))) (.mk (args' := [.d (dI (l.getD i 0)), .ptr 1000 b 0]) rfl (VLes.refl _) (mem1_keep (id := 1000) (blk := blk) rfl) mem1_sub (hf (l.getD i 0) (getD_mem (by omega) _))) (OL.nil (AW.cond rfl (fun h16 => ?_) (fun h16 => ?_))))))))
  ·have h16 := h16
   exact AW.sg hE rfl (mvD rfl (asD rfl (OL.nil (AW.ret ⟨⟨_, .tmp rfl .nil, .le (VLe.int ((idx1_found (by omega) 0 h16 h2).symm))⟩, mem1_keep rfl⟩))))
  ·have h16 := h16
   refine AW.skip (AW.rg hE rfl (add_i64 rfl rfl (by omega) (mvD rfl (OL.nil ?_))))
   exact AW.again (x := i) (i + 1) (by omega) ⟨⟨by omega, fun j hj => by rcases Nat.lt_or_ge j i with h | h; exact h2 j h; obtain rfl : j = i := (by omega); exact h16⟩, Knows.app .rq3 .rq1, .cons rfl .nil⟩
 ·try simp only [dx9] at h9
  exact AW.exit (AW.sg hE rfl (asD rfl (OL.nil (AW.ret ⟨⟨_, .tmp rfl .nil, .le (VLe.int ((idx1_none 0 fun j hj => h2 j (by omega)).symm))⟩, mem1_keep rfl⟩))))
theorem contains_intsM {l : List Int} {f b : Nat} {blk : Blk} {p : Int → Bool} (hf : ∀ q, q ∈ l → FSpecM P f [.d (dI q), .ptr 1000 b 0] (mem1 1000 blk) (.d (dB (p q))) (mem1 1000 blk)) (nl : l.length ≤ 1099511627776) : FSpecM P F.slices_ContainsFunc_ints_int [.d (ints l), .fn f [.ptr 1000 b 0]] (mem1 1000 blk) (.d (dB (l.any p))) (mem1 1000 blk) := by
 refine FSpecM.intro fn.slices_ContainsFunc_ints_int (by rfl) (by rfl) (nb9 (by rfl)) fun E hE => (AW.sg hE rfl (asD rfl (OL.nil (AW.sg hE rfl (mvD rfl (mvF rfl (OL.callM (v := .d (dI (idx1 p l))) (.mk (args' := [.d (ints l), .fn f [.ptr 1000 b 0]]) rfl (VLes.refl _) (mem1_keep (id := 1000) (blk := blk) rfl) mem1_sub (index_intsM hf nl)) ?_)))))))
 exact c_geq rfl rfl rfl (asD rfl (OL.nil (AW.ret ⟨⟨_, .tmp rfl .nil, .le (VLe.bool (idx1_any p l))⟩, mem1_keep rfl⟩)))
theorem words_ValidA {h : HM} {w : List Int} (nw : w.length ≤ 1048576) (hs : 1 ≤ h.sym ∧ h.sym ≤ 32) : FSpec P F.words_Valid [.d (ints w), .d (dI h.sym)] (.d (dB (wokB h w))) := by
 refine FSpec.intro fn.words_Valid (by rfl) (by rfl) (nb9 (by rfl)) fun E hE => (AW.sg hE rfl (asD rfl (OL.nil (AW.seq (AW.sg hE rfl (mvD rfl (lnL sl.ints rfl rfl ?_)))))))
 refine mvD rfl (OL.nil (AW.block ?_))
 refine AW.whileK (α := Nat) [(0, _), (1, _), (7, _), (8, _)] [] (fun i => [(9, .d (dI i))]) (fun i => []) (fun i => i ≤ w.length ∧ ∀ j, j < i → 1 ≤ w.getD j 0 ∧ w.getD j 0 ≤ h.sym) (fun i => w.length - i) 0 (.cons (knD rfl) (.cons (knD rfl) (.cons (knD rfl) (.cons (knD rfl) .nil)))) .nil ⟨⟨Nat.zero_le _, fun j hj => absurd hj (Nat.not_lt_zero j)⟩, .rq1, .nil⟩ ?_
 rintro i ⟨h1, h2⟩
 refine AW.sg hE rfl (c_lss rfl rfl rfl (OL.nil (AW.seq (AW.cond rfl (fun h10 => ?_) (fun h10 => ?_)))))
 ·try simp only [dx9] at h10
  refine AW.skip (AW.seq (AW.block (AW.sg hE rfl (ixLn sl.ints 0 rfl rfl (by omega) rfl rfl (ldRC ce.int rfl (asD rfl (OL.nil ?_)))))))
  refine AW.sg hE rfl (mvD rfl (c_lss rfl rfl rfl (mvD rfl (OL.split 15 rfl (fun a1 => ?_) (fun a1 => ?_)))))
  ·have a1 : w.getD i 0 < 1 := of_decide_eq_true a1
   refine OL.nd rfl (OL.nd rfl (OL.nd rfl (pkT rfl rfl (OL.nil (AW.cond rfl (fun _ => ?_) (fun hno => absurd hno (by decide)))))))
   exact AW.sg hE rfl (asD rfl (OL.nil (AW.ret (RetQ.r ⟨_, .tmp rfl .nil, .le (VLe.bool (wokB_f fun k => by have := k.2 _ (getD_mem (show i < w.length by omega) 0); omega))⟩))))
  ·have a1 : 1 ≤ w.getD i 0 := Int.not_lt.1 (of_decide_eq_false a1)
   refine OL.yes rfl (mvD rfl (OL.yes rfl (mvD rfl (OL.yes rfl (c_gtr rfl rfl rfl (pkF rfl rfl (OL.nil ?_)))))))
   refine AW.cond rfl (fun a2 => ?_) (fun a2 => ?_)
   ·have a2 : (h.sym : Int) < w.getD i 0 := of_decide_eq_true a2
    exact AW.sg hE rfl (asD rfl (OL.nil (AW.ret (RetQ.r ⟨_, .tmp rfl .nil, .le (VLe.bool (wokB_f fun k => by have := k.2 _ (getD_mem (show i < w.length by omega) 0); omega))⟩))))
   ·have a2 : w.getD i 0 ≤ h.sym := Int.not_lt.1 (of_decide_eq_false a2)
    exact AW.skip (AW.rg hE rfl (add_i64 rfl rfl (by omega) (mvD rfl (OL.nil (AW.again (x := i) (i + 1) (by omega) ⟨⟨by omega, upto_stp h2 ⟨a1, a2⟩⟩, Knows.app .rq4 .rq1, .nil⟩)))))
 ·try simp only [dx9] at h10
  refine AW.exit (AW.sg hE rfl (mvD rfl (c_geq rfl rfl (c := true) (by exact decide_eq_true (by omega)) (mvD rfl (OL.yes rfl (mvD rfl (OL.yes rfl ?_)))))))
  refine c_leq rfl rfl (c := true) (by exact decide_eq_true (by omega)) (pkT rfl rfl (mvD rfl (OL.yes rfl (mvD rfl (OL.yes rfl (lnL sl.ints rfl rfl (OL.yes rfl ?_)))))))
  refine c_leq rfl rfl rfl (pkT rfl rfl (asD rfl (OL.nil ?_)))
  exact AW.ret (RetQ.r ⟨_, .tmp rfl .nil, .le (VLe.bool (by rcases Nat.lt_or_ge 256 w.length with hh | hh; rw [← wokB_f fun k => by have := k.1; omega]; exact decide_eq_false (by omega); rw [← wokB_t ⟨hh, fun x hx => by obtain ⟨j, hj, rfl⟩ := mem_ix 0 hx; exact h2 j (by omega)⟩]; exact decide_eq_true (by omega)))⟩)
end Go.Proofs.YtjghehkgmanmbaaGreat

/-
  M, chapter 35, part 2: what Best and Within hand back; sets of states as numbers.
-/
import Derived.Test.YtonndaibggjmjaaGreatKMade
import Derived.Test.YtonndaibggjmjaaGreatKMod40d
import Derived.Test.YtonndaibggjmjaaGreatKFresh
import Derived.Test.YtonndaibggjmjaaGreatKMod35
set_option linter.unusedVariables false
set_option linter.unusedSimpArgs false
namespace Go.Proofs.YtonndaibggjmjaaGreat
open Go Go.AL
theorem ref33_Whole {n : Int} (hn : -9223372036854775808 ≤ n ∧ n ≤ 9223372036854775807) : FSpec P F.ref33_Whole [.d (dI n)] (vQ (n : Rat)) := by
 refine FSpec.intro fn.ref33_Whole (by rfl) (by rfl) (nb9 (by rfl)) fun E hE => (AW.sg hE rfl (al z.Rat rfl fun b2 => (OL.nil (AW.sg hE rfl (mvD rfl (clv rfl .rq2 (ref_Make hn (by decide) (by decide)) ?_))))))
 rw [show (n : Rat) / ((1 : Int) : Rat) = (n : Rat) by rw [show ((1 : Int) : Rat) = 1 from rfl]; grind]
 refine mvT rfl (ex rfl rfl (ex rfl rfl (al z.Rat rfl fun b3 => (sto sz.Rat rfl rfl rfl rfl rfl (nb9 rfl) (cells2 := [_,_,_]) rfl (asD rfl (OL.nil (AW.sg hE rfl ?_)))))))
 exact ldPA ag.Rat rfl rfl (vs := [_,_,_]) rfl (nb9 rfl) (sto sz.Rat rfl rfl rfl rfl rfl (nb9 rfl) (cells2 := [_,_,_]) rfl (OL.nil (AW.ret (RetQ.r ⟨_, .cellA rfl rfl ag.Rat (nb9 rfl) .nil, .ag (.cons (.le (VLe.refl _)) (.cons (.le (VLe.refl _)) (.cons (.le (VLe.refl _)) .nil)))⟩))))
theorem ref33_Whole1 : FSpec P F.ref33_Whole [.d (dI 1)] (vQ 1) := by
 have h := ref33_Whole (n := 1) (by decide)
 rw [show ((1 : Int) : Rat) = 1 from rfl] at h; exact h
theorem ref_half : FSpec P F.ref01_Make [.d (dI 1), .d (dI 2)] (.tup [vQ (1 / 2), .d (dI 0)]) := by
 have h := ref_Make (n := 1) (d := 2) (by decide) (by decide) (by decide)
 rw [half_eq] at h; exact h
end Go.Proofs.YtonndaibggjmjaaGreat

set_option linter.unusedVariables false
set_option linter.unusedSimpArgs false
namespace Go.Proofs.YtonndaibggjmjaaGreat
open Go Go.AL
def wordF (l : List Int) (sym most : Nat) : List Int := (l.take most).map fun v => 1 + within v sym
theorem wordF_len (l : List Int) (sym most : Nat) : (wordF l sym most).length ≤ most := by simp [wordF]; omega
theorem wordF_ok {h : HM} {l : List Int} {most : Nat} (hs : 1 ≤ h.sym) (hm : most ≤ 256) : WordOK h (wordF l h.sym most) := by
 refine ⟨Nat.le_trans (wordF_len ..) hm, fun x hx => ?_⟩
 obtain ⟨v, _, rfl⟩ := List.mem_map.1 hx
 have := within_range (v := v) (m := (h.sym : Int)) (by omega)
 omega
theorem world_Word {l : List Int} {sym most : Nat} (hs : 1 ≤ sym ∧ sym ≤ 1000) (hm : most ≤ 1000) : FSpec P F.world_Word [.d (ints l), .d (dI sym), .d (dI most)] (.d (ints (wordF l sym most))) := by
 refine FSpec.intro fn.world_Word (by rfl) (by rfl) (nb9 (by rfl)) fun E hE => (AW.sg hE rfl (asM rfl (OL.nil (AW.sg hE rfl (asM rfl (OL.nil (AW.seq ?_)))))))
 refine AW.sg hE rfl (asD rfl (OL.nil (AW.own 7 29 T.int 1 rfl rfl (AW.block ?_))))
 refine AW.whileK (α := Nat × Nat × Nat) [(0, _), (1, _), (2, _), (6, _)] [] (fun (i, b, c) => [(7, .osl 29 b i c), (8, .d (dI i))]) (fun (i, b, c) => [(29, .row b c T.int 1 ((wordF l sym i).map dI))]) (fun (i, b, c) => i ≤ l.length ∧ i ≤ most) (fun (i, b, c) => most - i) (0, 0, 0) (.cons (knD rfl) (.cons (knD rfl) (.cons (knD rfl) (.cons (knM rfl) .nil)))) .nil ⟨⟨Nat.zero_le _, Nat.zero_le _⟩, .rq2, .cons rfl .nil⟩ ?_
 rintro ⟨i, b, c⟩ ⟨h1, h2⟩
 have h1 : i ≤ l.length := h1
 have h2 : i ≤ most := h2
 have hcl : (wordF l sym i).length = i := by simp [wordF]; omega
 refine AW.seq (AW.sg hE rfl (mvD rfl (mvD rfl (lnL sl.ints rfl rfl (c_lss rfl rfl rfl (mvD rfl (OL.split 13 rfl (fun g13 => ?_) (fun g13 => ?_))))))))
 ·try simp only [dx9] at g13
  refine OL.yes rfl (mvD rfl (OL.yes rfl (mvD rfl (OL.yes rfl (c_lss rfl rfl rfl (pkT rfl rfl (OL.nil ?_)))))))
  refine AW.cond rfl (fun hc => ?_) (fun hc => ?_)
  ·try simp only [dx9] at hc
   refine AW.skip (AW.seq (AW.block (AW.rg hE rfl (mvO rfl (mvD rfl (mvD rfl (ixLn sl.ints 0 rfl rfl (by omega) rfl rfl ?_)))))))
   refine ldRC ce.int rfl (mvD rfl (clv rfl (.cons (VLe.refl _) (.cons (VLe.refl _) (.nil))) (world_Within (by omega)) ?_))
   have hwr := within_range (v := l.getD i 0) (m := (sym : Int)) (by omega)
   refine add_i64 rfl rfl (by omega) (lt1 sl.ints (VC.d _).vd rfl (by decide) ?_)
   refine apO sl.ints rfl rfl rfl (by rw [List.length_map, hcl]) (VC.d _) (by simp [D.cells]) (by simp; omega) (by simp; omega) (.inr rfl) (ys := (wordF l sym (i + 1)).map dI) (by unfold wordF; rw [take_succ_getD (by omega) 0, List.map_append, List.map_append]; rfl) (n2 := i + 1) (by simp) fun b2 c2 => ?_
   exact asO rfl (OL.nil (AW.rg hE rfl (mvD rfl (add_i64 rfl rfl (by omega) (asD rfl (OL.nil (AW.again (x := (i, b, c)) (i + 1, b2, c2) (by (simp only []; omega)) ⟨⟨by omega, by omega⟩, Knows.app .rq4 .rq2, .cons rfl .nil⟩)))))))
  ·try simp only [dx9] at hc
   refine AW.exit (AW.seq ?_)
   have he : wordF l sym i = wordF l sym most := by unfold wordF; rcases Nat.lt_or_ge i l.length with h | h; (obtain rfl : i = most := (by omega)); rfl; rw [List.take_of_length_le (by omega), List.take_of_length_le (by omega)]
   refine AW.freeze 29 rfl (AW.to [(7, .d (ints (wordF l sym most)))] [] (.cons (frz_osl (by rw [List.length_map, hcl]) (by rw [he])) .nil) .nil ?_)
   exact AW.rg hE rfl (mvD rfl (asD rfl (OL.nil (AW.ret (RetQ.r ⟨_, .tmp rfl .nil, .le (VLe.refl _)⟩)))))
 ·try simp only [dx9] at g13
  refine OL.nd rfl (OL.nd rfl (OL.nd rfl (pkF rfl rfl (OL.nil (AW.cond rfl (fun hno => absurd hno (by decide)) (fun _ => ?_))))))
  refine AW.exit (AW.seq ?_)
  have he : wordF l sym i = wordF l sym most := by unfold wordF; rcases Nat.lt_or_ge i l.length with h | h; (obtain rfl : i = most := (by omega)); rfl; rw [List.take_of_length_le (by omega), List.take_of_length_le (by omega)]
  refine AW.freeze 29 rfl (AW.to [(7, .d (ints (wordF l sym most)))] [] (.cons (frz_osl (by rw [List.length_map, hcl]) (by rw [he])) .nil) .nil ?_)
  exact AW.rg hE rfl (mvD rfl (asD rfl (OL.nil (AW.ret (RetQ.r ⟨_, .tmp rfl .nil, .le (VLe.refl _)⟩)))))
end Go.Proofs.YtonndaibggjmjaaGreat

set_option linter.unusedVariables false
set_option linter.unusedSimpArgs false
namespace Go.AL
open Go Go.BigFrame
def bestR (h : HM) (w : List Int) (p : Nat → Nat → Bool) : Rat := if w.length = 0 then h.empty else bestG h w p
def vitP (h : HM) (w : List Int) (p : Nat → Nat → Bool) : List Int := if w.length = 0 ∨ bestG h w p = 0 then [] else pathG h w p w.length
def vitE (h : HM) (w : List Int) (p : Nat → Nat → Bool) : Int := if bestR h w p = 0 then 11 else 0
theorem bestR_sz {h : HM} {B : Nat} (f : h.Form B) {w : List Int} (hw : w.length ≤ 256) (p : Nat → Nat → Bool) : sz (bestR h w p) ≤ 1052672 := by
 unfold bestR
 split
 ·have := f.zE; have := f.bB; omega
 ·have := aheadF_sz f (-1) (symX w 0) (restG_szB f w p (d := w.length - 1 - 0) (by omega)) (by decide) h.st
  show sz (aheadF h (-1) (symX w 0) (restG h w p (w.length - 1 - 0)) h.st).1 ≤ _
  omega
def setF (sets : List Int) (t : Nat) : Nat := if t < sets.length then (within (sets.getD t 0) 8).toNat else 7
def bitS (x s : Nat) : Bool := decide (x / 2 ^ s % 2 = 1)
def rowA (x n : Nat) : List Int := ((List.range n).filter fun s => bitS x s).map fun s : Nat => (s : Int)
def FitsA (h : HM) (w sets : List Int) (n : Nat) : Prop := vitE h w every = 0 ∧ ∀ t, t < n → bitS (setF sets t) ((vitP h w every).getD t 0).toNat = true
instance (h : HM) (w sets : List Int) (n : Nat) : Decidable (FitsA h w sets n) := inferInstanceAs (Decidable (_ ∧ _))
end Go.AL

/-
  M, chapter 39: words out of plain numbers.
-/
import Derived.Test.YtoohdcpikkkanaaGreatKAsH
import Derived.Test.YtoohdcpikkkanaaGreatKMod34c
import Derived.Test.YtoohdcpikkkanaaGreatKFwdB
import Derived.Test.YtoohdcpikkkanaaGreatKMod39c
import Derived.Test.YtoohdcpikkkanaaGreatKNumb
set_option linter.unusedVariables false
set_option linter.unusedSimpArgs false
namespace Go.AL
open Go Go.BigFrame
def Below (r s : Rat → Rat) : Prop := ∀ x y, 0 ≤ x → x ≤ y → 0 ≤ r x ∧ r x ≤ s y
def lkN (h : HM) (X : List (List Int)) : Nat → Rat
 | 0 => 1
 | k + 1 => lkN h X k * likF h (X.getD k [])
section
variable {h : HM} {B : Nat} {r s : Rat → Rat}
theorem getD_past {l : List Rat} {i : Nat} (h : l.length ≤ i) : l.getD i 0 = 0 := by
 rw [List.getD_eq_getElem?_getD, List.getElem?_eq_none h]; rfl
theorem lk_sz (f : h.Form B) {X : List (List Int)} (k : DataOK h X) : ∀ n, n ≤ X.length → sz (lkN h X n) ≤ 1 + n * 16010000
 | 0, _ => by show sz 1 ≤ _; rw [sz_one]; omega
 | n + 1, hn => by
  have h1 := lk_sz f k n (by omega)
  have h2 := lik_sz f (k.get (show n < X.length by omega)).2
  have h3 := sz_mul (lkN h X n) (likF h (X.getD n []))
  show sz (_ * _) ≤ _
  omega
end
end Go.AL

set_option linter.unusedVariables false
set_option linter.unusedSimpArgs false
namespace Go.Proofs.YtoohdcpikkkanaaGreat
open Go Go.AL
theorem ascent_LikelihoodW {h : HM} {B : Nat} {X : List (List Int)} (g : h.GoodW B) (k5 : DataOK h X) (fz : ∀ w, w ∈ X → FwdSz h w ∧ sz (likF h w) ≤ 68719476736) (lz : ∀ k, k ≤ X.length → sz (lkN h X k) ≤ 68719476736) : FSpec P F.ascent_Likelihood [vHM h, .d (dIss X)] (.tup [vQ (lkN h X X.length), .d (dI 0)]) := by
 have f := g.form
 have n0 := f.st0
 have n1 := f.st1
 have s1 := f.sym1
 have k1 := k5.len
 refine FSpec.intro fn.ascent_Likelihood (by rfl) (by rfl) (nb9 (by rfl)) fun E hE => ?_
 refine AW.sg hE rfl ?_
 refine bxA rfl rfl fun b2 => ?_
 refine al z.Rat rfl fun b4 => ?_
 refine asD rfl ?_
 refine OL.nil ?_
 refine AW.seq ?_
 refine AW.sg hE rfl ?_
 refine ldPA ag.Hidden rfl rfl (vs := [_,_,_,_,_,_,_,_,_,_,_]) rfl (nb9 rfl) ?_
 refine mvD rfl ?_
 refine clv rfl (.cons (VLe.refl _) (.cons (VLe.refl _) (.nil))) (ascent_refuseW g k5) ?_
 refine asD rfl ?_
 refine OL.nil ?_
 refine AW.sg hE rfl ?_
 refine mvD rfl ?_
 refine c_neq rfl rfl (c := false) (by exact cne_f (by omega)) ?_
 refine OL.nil ?_
 refine AW.cond rfl (fun hno => absurd hno (by decide)) (fun _ => ?_)
 refine AW.skip ?_
 refine AW.sg hE rfl ?_
 refine clv rfl (.cons (VLe.refl _) (.nil)) (ascent_whole (n := 1) (by omega)) ?_
 rw [show ((1 : Nat) : Rat) = lkN h X 0 from rfl]
 refine al z.Rat rfl fun b7 => ?_
 refine sto sz.Rat rfl rfl rfl rfl rfl (nb9 rfl) (cells2 := [_,_,_]) rfl ?_
 refine OL.nil ?_
 refine AW.seq ?_
 refine AW.sg hE rfl ?_
 refine mvD rfl ?_
 refine lnL sl.intss rfl rfl ?_
 refine mvD rfl ?_
 refine OL.nil ?_
 refine AW.block ?_
 refine AW.whileK (α := Nat) [(2, _), (4, _), (7, _), (20, _), (21, _)] [(2, _)] (fun k => [(22, .d (dI k))]) (fun k => [(4, .box b4 T.Rat [.d (dB false), .mt, .mt]), (7, .box b7 T.Rat (cellsQ (lkN h X k)))]) (fun k => k ≤ X.length) (fun k => X.length - k) 0 (.cons (knP rfl) (.cons (knP rfl) (.cons (knP rfl) (.cons (knD rfl) (.cons (knD rfl) .nil))))) (.cons (owB rfl) .nil) ⟨Nat.zero_le _, .cons (VLe.refl _) .nil, .cons rfl (.cons rfl .nil)⟩ ?_
 intro k h1
 have h1 : k ≤ X.length := h1
 refine AW.sg hE rfl ?_
 refine c_lss rfl rfl rfl ?_
 refine OL.nil ?_
 refine AW.seq ?_
 refine AW.cond rfl (fun h23 => ?_) (fun h23 => ?_)
 ·try simp only [dx9] at h23
  refine AW.skip ?_
  refine AW.seq ?_
  refine AW.block ?_
  refine AW.seq ?_
  have hk : k < X.length := by omega
  have kw := k5.get hk
  have z1 := lz k h1
  have z2 := fz _ (getD_mem hk [])
  refine AW.rg hE rfl ?_
  refine ixLn sl.intss [] rfl rfl (by omega) rfl rfl ?_
  refine ldRC ce.ints rfl ?_
  refine asD rfl ?_
  refine OL.nil ?_
  refine AW.sg hE rfl ?_
  refine ldPA ag.Hidden rfl rfl (vs := [_,_,_,_,_,_,_,_,_,_,_]) rfl (nb9 rfl) ?_
  refine mvD rfl ?_
  refine clv rfl (.cons (VLe.refl _) (.cons (VLe.refl _) (.nil))) (fwd_LikelihoodW g kw.1 z2.1) ?_
  refine mvT rfl ?_
  refine ex rfl rfl ?_
  refine ex rfl rfl ?_
  refine al z.Rat rfl fun b10 => ?_
  refine sto sz.Rat rfl rfl rfl rfl rfl (nb9 rfl) (cells2 := [_,_,_]) rfl ?_
  refine asD rfl ?_
  refine OL.nil ?_
  refine AW.seq ?_
  refine AW.sg hE rfl ?_
  refine mvD rfl ?_
  refine c_neq rfl rfl (c := false) (by exact cne_f (by omega)) ?_
  refine OL.nil ?_
  refine AW.cond rfl (fun hno => absurd hno (by decide)) (fun _ => ?_)
  refine AW.skip ?_
  refine AW.rg hE rfl ?_
  refine ldPA ag.Rat rfl rfl (vs := [_,_,_]) rfl (nb9 rfl) ?_
  refine ldPA ag.Rat rfl rfl (vs := [_,_,_]) rfl (nb9 rfl) ?_
  refine clv rfl (.cons (VLe.refl _) (.cons (VLe.refl _) (.nil))) (rational_MulQ (x := lkN h X k) (y := likF h (X.getD k [])) z1 z2.2) ?_
  refine sto sz.Rat rfl rfl rfl rfl rfl (nb9 rfl) (cells2 := [_,_,_]) rfl ?_
  refine OL.nil ?_
  refine AW.rg hE rfl ?_
  refine add_i64 rfl rfl (by omega) ?_
  refine mvD rfl ?_
  refine OL.nil ?_
  exact AW.again (x := k) (k + 1) (by omega) ⟨by omega, Knows.app (.cons (VLe.refl _) (.cons (VLe.refl _) (.cons (VLe.refl _) (.cons (VLe.refl _) (.cons (VLe.refl _) .nil))))) (.cons (VLe.refl _) .nil), Owns.app (.cons rfl .nil) (.cons rfl (.cons rfl .nil))⟩
 ·try simp only [dx9] at h23
  refine AW.exit ?_
  refine AW.seq ?_
  obtain rfl : k = X.length := by omega
  refine AW.rg hE rfl ?_
  refine ldPA ag.Rat rfl rfl (vs := [_,_,_]) rfl (nb9 rfl) ?_
  refine sto sz.Rat rfl rfl rfl rfl rfl (nb9 rfl) (cells2 := [_,_,_]) rfl ?_
  refine asD rfl ?_
  refine OL.nil ?_
  exact AW.ret (RetQ.r ⟨_, .cellA rfl rfl ag.Rat (nb9 rfl) (.tmp rfl .nil), _, .cons (.ag (.cons (.le (VLe.refl _)) (.cons (.le (VLe.refl _)) (.cons (.le (VLe.refl _)) .nil)))) (.cons (.le (VLe.refl _)) .nil), rfl⟩)
theorem ascent_Likelihood {h : HM} {B : Nat} {X : List (List Int)} (g : h.Good B) (k5 : DataOK h X) : FSpec P F.ascent_Likelihood [vHM h, .d (dIss X)] (.tup [vQ (lkN h X X.length), .d (dI 0)]) := by
 have k1 := k5.len
 exact ascent_LikelihoodW g.w k5 (fun w hw => ⟨fwdSz g.form (k5.word w hw).2, Nat.le_trans (lik_sz g.form (k5.word w hw).2) (by decide)⟩) fun k hk => by have := lk_sz g.form k5 k hk; omega
end Go.Proofs.YtoohdcpikkkanaaGreat

set_option linter.unusedVariables false
set_option linter.unusedSimpArgs false
namespace Go.AL
open Go Go.BigFrame
def wdF (L : List Int) (sym : Nat) : Nat → Nat → List Int × Nat
 | 0, a => ([], a)
 | n + 1, a => ((wdF L sym n a).1 ++ [1 + tnext L (wdF L sym n a).2 sym], tat L (wdF L sym n a).2)
def wordN (L : List Int) (a : Nat) : Nat := (tnext L a 5).toNat
def dtF (L : List Int) (sym : Nat) : Nat → Nat → List (List Int) × Nat
 | 0, a => ([], a)
 | m + 1, a => ((dtF L sym m a).1 ++ [(wdF L sym (wordN L (dtF L sym m a).2) (tat L (dtF L sym m a).2)).1], (wdF L sym (wordN L (dtF L sym m a).2) (tat L (dtF L sym m a).2)).2)
def dataN (L : List Int) (most : Nat) : Nat := (1 + tnext L 0 most).toNat
def dataF (L : List Int) (sym most : Nat) : List (List Int) := (dtF L sym (dataN L most) (tat L 0)).1
section
variable {L : List Int} {sym : Nat}
theorem wdF_len (n a : Nat) : (wdF L sym n a).1.length = n := by
 induction n with
 | zero => rfl
 | succ n ih => rw [wdF, List.length_append, ih]; rfl
theorem dtF_len (n a : Nat) : (dtF L sym n a).1.length = n := by
 induction n with
 | zero => rfl
 | succ n ih => rw [dtF, List.length_append, ih]; rfl
theorem wdF_mem (hs : 1 ≤ sym) (n a : Nat) : ∀ x, x ∈ (wdF L sym n a).1 → 1 ≤ x ∧ x ≤ sym := by
 induction n with
 | zero => intro x hx; simp [wdF] at hx
 | succ n ih =>
  intro x hx
  have hx : x ∈ (wdF L sym n a).1 ++ [1 + tnext L (wdF L sym n a).2 sym] := hx
  rcases List.mem_append.1 hx with h | h
  ·exact ih x h
  ·rw [List.mem_singleton.1 h]
   have := tnext_range (L := L) (a := (wdF L sym n a).2) (m := (sym : Int)) (by omega)
   omega
theorem wordN_le (a : Nat) : (wordN L a : Int) = tnext L a 5 ∧ wordN L a ≤ 4 := by
 have := tnext_range (L := L) (a := a) (m := 5) (by decide)
 unfold wordN
 omega
theorem dataN_eq {most : Nat} (h : 1 ≤ most) : (dataN L most : Int) = 1 + tnext L 0 most ∧ 1 ≤ dataN L most ∧ dataN L most ≤ most := by
 have := tnext_range (L := L) (a := 0) (m := (most : Int)) (by omega)
 unfold dataN
 omega
theorem dtF_mem (hs : 1 ≤ sym) (m a : Nat) : ∀ w, w ∈ (dtF L sym m a).1 → w.length ≤ 4 ∧ ∀ x, x ∈ w → 1 ≤ x ∧ x ≤ sym := by
 induction m with
 | zero => intro x hx; simp [dtF] at hx
 | succ n ih =>
  intro x hx
  have hx : x ∈ (dtF L sym n a).1 ++ [(wdF L sym (wordN L (dtF L sym n a).2) (tat L (dtF L sym n a).2)).1] := hx
  rcases List.mem_append.1 hx with h | h
  ·exact ih x h
  ·rw [List.mem_singleton.1 h]
   refine ⟨?_, wdF_mem hs _ _⟩
   rw [wdF_len]
   exact (wordN_le _).2
theorem data_ok {h : HM} {most : Nat} (hs : 1 ≤ h.sym) (ht : h.st ≤ 4) (hm : 1 ≤ most ∧ most ≤ 5) : DataOK h (dataF L h.sym most) := by
 have h1 := dataN_eq (L := L) hm.1
 refine ⟨?_, fun w hw => ?_⟩
 ·unfold dataF; rw [dtF_len]; omega
 ·have h2 := dtF_mem hs _ _ w hw
  exact ⟨⟨by omega, h2.2⟩, ⟨ht, by omega⟩⟩
end
end Go.AL

/-
  M, chapter 40, part 4: the interval of a run.
-/
import Derived.Test.YtonndaibggjmjaaGreatKRefC
import Derived.Test.YtonndaibggjmjaaGreatKNumb
import Derived.KernelRfl
import Derived.Test.YtonndaibggjmjaaGreatKFresh
set_option linter.unusedVariables false
set_option linter.unusedSimpArgs false
namespace Go.Proofs.YtonndaibggjmjaaGreat
open Go Go.AL
theorem ref_Mul {x y : Raw} (hx : x.Ok) (hy : y.Ok) : FSpec P F.ref01_Mul [vRaw x, vRaw y] (vQ (x.q * y.q)) := by
 have a1 := q_sz hx hx.ln hx.ld (by decide)
 have a2 := q_sz hy hy.ln hy.ld (by decide)
 have sn1 := sz_num x.q
 have sn2 := sz_num y.q
 have sd1 := sz_den x.q
 have sd2 := sz_den y.q
 have sdd := len_mul x.q.den y.q.den
 have dd0 := Nat.mul_ne_zero x.q.den_nz y.q.den_nz
 have snn := len_mul x.q.num.natAbs y.q.num.natAbs
 have hp := fr_mul (s := decide (x.q.num < 0)) (t := decide (y.q.num < 0)) (a := x.q.num.natAbs) (b := y.q.num.natAbs) (d1 := x.q.den) (d2 := y.q.den)
 rw [fr_ofQ, fr_ofQ] at hp
 refine FSpec.intro fn.ref01_Mul (by rfl) (by rfl) (nb9 (by rfl)) fun E hE => (AW.sg hE rfl (bxA rfl rfl fun b2 => (bxA rfl rfl fun b3 => (al z.Rat rfl fun b4 => (OL.nil (AW.seq (AW.dg 1 [0,1,2,3,4,5] order_free hE rfl (by kernel_rfl) (OI.of_OL (os := [_,_,_,_,_,_]) rfl ?_))))))))
 refine ldPA ag.Rat rfl rfl (vs := [_,_,_]) rfl (nb9 rfl) (clv rfl .rq1 (ref_Take (by assumption)) (ldPA ag.Rat rfl rfl (vs := [_,_,_]) rfl (nb9 rfl) (clv rfl .rq1 (ref_Take (by assumption)) (sto sz.Rat rfl rfl rfl rfl rfl (nb9 rfl) (cells2 := [_,_,_]) rfl (sto sz.Rat rfl rfl rfl rfl rfl (nb9 rfl) (cells2 := [_,_,_]) rfl (OL.nil (AW.seq ?_)))))))
 refine AW.dg 1 [0,1,2,3,4,5,6,7,8,9,10,11,12,13,14,15,16] order_free hE rfl (by kernel_rfl) (OI.of_OL (os := [_,_,_,_,_,_,_,_,_,_,_,_,_,_,_,_,_]) rfl ?_)
 refine faP fd.Rat_0 rfl rfl (ldPC ce.bool rfl rfl rfl (faP fd.Rat_0 rfl rfl (ldPC ce.bool rfl rfl rfl (neb bt.bool rfl rfl (faP fd.Rat_1 rfl rfl (ldPC ce.u32s rfl rfl rfl (faP fd.Rat_1 rfl rfl ?_)))))))
 refine ldPC ce.u32s rfl rfl rfl (clv rfl .rq2 (ref_timesN (a := x.q.num.natAbs) (b := y.q.num.natAbs) (by omega) (by omega)) (ldPA ag.Rat rfl rfl (vs := [_,_,_]) rfl (nb9 rfl) (clv rfl .rq1 (ref_den) (ldPA ag.Rat rfl rfl (vs := [_,_,_]) rfl (nb9 rfl) (clv rfl .rq1 (ref_den) (clv rfl .rq2 (ref_timesN (a := x.q.den) (b := y.q.den) (by omega) (by omega)) (clv rfl .rq3 (ref_over (s := (decide (x.q.num < 0) != decide (y.q.num < 0))) (by omega) (by omega) dd0) ?_)))))))
 rw [← hp]
 exact sto sz.Rat rfl rfl rfl rfl rfl (nb9 rfl) (cells2 := [_,_,_]) rfl (OL.nil (AW.ret (RetQ.r ⟨_, .cellA rfl rfl ag.Rat (nb9 rfl) .nil, .ag (.cons (.le (VLe.refl _)) (.cons (.le (VLe.refl _)) (.cons (.le (VLe.refl _)) .nil)))⟩)))
theorem ref_MulQ {x y : Rat} (hx : sz x ≤ 68719476736) (hy : sz y ≤ 68719476736) : FSpec P F.ref01_Mul [vQ x, vQ y] (vQ (x * y)) := by
 have h := ref_Mul (x := ofQ x) (y := ofQ y) (ofQ_ok (by omega)) (ofQ_ok (by omega))
 rw [q_ofQ, q_ofQ] at h; exact h
end Go.Proofs.YtonndaibggjmjaaGreat

set_option linter.unusedVariables false
set_option linter.unusedSimpArgs false
namespace Go.AL
open Go Go.BigFrame
structure Span where
 lo : Rat
 len : Rat
def Span.part (s : Span) (ch : List Rat) (k : Nat) : Span := ⟨(ch.take k).foldl (fun a p => a + s.len * p) s.lo, s.len * ch.getD k 0⟩
def Span.inside (s t : Span) : Prop := t.lo ≤ s.lo ∧ s.lo + s.len ≤ t.lo + t.len
instance (s t : Span) : Decidable (s.inside t) := inferInstanceAs (Decidable (_ ∧ _))
def Span.one : Span := ⟨0, 1⟩
def Sure (read s : Span) (ch : List Rat) (k : Nat) : Prop := 0 < ch.getD k 0 ∧ read.inside (s.part ch k)
instance (read s : Span) (ch : List Rat) (k : Nat) : Decidable (Sure read s ch k) := inferInstanceAs (Decidable (_ ∧ _))
def firstK (read s : Span) (ch : List Rat) : Option Nat := (List.range ch.length).find? fun k => decide (Sure read s ch k)
structure Rd where
 used : Nat
 read : Span
def Rd.step (bits : List Int) (r : Rd) : Rd := ⟨r.used + 1, ⟨if bits.getD r.used 0 = 1 then r.read.lo + r.read.len * (1 / 2) else r.read.lo, r.read.len * (1 / 2)⟩⟩
def chooseB (bits : List Int) (s : Span) (ch : List Rat) (r : Rd) : Option (Nat × Rd) :=
 match firstK r.read s ch with
 | some k => some (k, r)
 | none => if r.used < bits.length then chooseB bits s ch (r.step bits) else none
termination_by bits.length - r.used
decreasing_by simp only [Rd.step]; omega
def HM.next (h : HM) : Option Nat → List Rat
 | none => h.ini ++ [h.empty]
 | some i => h.trans.getD i [] ++ [h.stop.getD i 0]
inductive Drawing where
 | err (e : Int)
 | run (states word : List Int) (used : Nat)
end Go.AL

set_option linter.unusedVariables false
set_option linter.unusedSimpArgs false
namespace Go.AL
open Go Go.BigFrame
def partLo (s : Span) (l : List Rat) : Rat := l.foldl (fun a p => a + s.len * p) s.lo
theorem foldl_sz {B c : Nat} {q : Rat} (hq : sz q ≤ c) : ∀ (l : List Rat) (a : Rat), Small B l → sz (l.foldl (fun a p => a + q * p) a) ≤ sz a + l.length * (c + B + 1)
 | [], a, _ => by simp
 | x :: l, a, h => by
  rw [List.foldl_cons, List.length_cons, Nat.add_mul]
  have h1 := foldl_sz hq l (a + q * x) fun y hy => h y (List.mem_cons_of_mem _ hy)
  have h2 := sz_add a (q * x)
  have h3 := sz_mul q x
  have h4 := h x (List.mem_cons_self ..)
  omega
theorem partLo_sz {B c : Nat} {s : Span} {l : List Rat} (hq : sz s.len ≤ c) (h : Small B l) : sz (partLo s l) ≤ sz s.lo + l.length * (c + B + 1) := foldl_sz hq l s.lo h
structure SpanOK (t : Nat) (s : Span) : Prop where
 lo : sz s.lo ≤ 1 + t * 40000000
 len : sz s.len ≤ 1 + t * 1024
theorem SpanOK.part {t : Nat} {s : Span} {l : List Rat} (h : SpanOK t s) (ht : t ≤ 600) (hl : Small 1024 l) (hn : l.length ≤ 40) (k : Nat) (hk : k < l.length) : SpanOK (t + 1) (s.part l k) := by
 have h1 := partLo_sz (B := 1024) (s := s) (l := l.take k) h.len (hl.take k)
 have h2 : (l.take k).length ≤ 40 := by rw [List.length_take]; omega
 have h3 := sz_mul s.len (l.getD k 0)
 have h4 := hl.get (by decide) k
 have h5 := h.lo
 have h6 := h.len
 have h7 : (l.take k).length * (1 + t * 1024 + 1024 + 1) ≤ 40 * (1 + 600 * 1024 + 1024 + 1) := Nat.mul_le_mul h2 (by omega)
 refine ⟨?_, ?_⟩
 ·show sz (partLo s (l.take k)) ≤ _
  omega
 ·show sz (s.len * l.getD k 0) ≤ _
  omega
structure RdOK (bits : List Int) (r : Rd) : Prop where
 used : r.used ≤ bits.length
 bits : bits.length ≤ 2000
 lo : sz r.read.lo ≤ 1 + 3000 * r.used
 len : sz r.read.len ≤ 1 + r.used
theorem half_eq : ((1 : Int) : Rat) / ((2 : Int) : Rat) = 1 / 2 := by rw [show ((1 : Int) : Rat) = 1 from rfl, show ((2 : Int) : Rat) = 2 from rfl]
theorem half_sz : sz (1 / 2) ≤ 1 := by rw [← half_eq]; exact div_sz (by decide) (by decide) (by decide)
theorem RdOK.step {bits : List Int} {r : Rd} (h : RdOK bits r) (hu : r.used < bits.length) : RdOK bits (r.step bits) := by
 have h1 := h.lo
 have h2 := h.len
 have h3 := h.bits
 have h4 := sz_mul r.read.len (1 / 2)
 have h5 := half_sz
 have h6 := sz_add r.read.lo (r.read.len * (1 / 2))
 generalize sz (1 / 2) = a5 at h4 h5
 refine ⟨hu, h3, ?_, ?_⟩
 ·rw [show (r.step bits).used = r.used + 1 from rfl, show (r.step bits).read.lo = (if bits.getD r.used 0 = 1 then r.read.lo + r.read.len * (1 / 2) else r.read.lo) from rfl]
  generalize r.read.lo + r.read.len * (1 / 2) = x6 at h6 ⊢
  generalize r.read.len * (1 / 2) = x4 at h4 h6
  split <;> omega
 ·rw [show (r.step bits).used = r.used + 1 from rfl, show (r.step bits).read.len = r.read.len * (1 / 2) from rfl]
  omega
def lexI : List Int → List Int → Int
 | x :: xs, y :: ys => if x < y then -1 else if y < x then 1 else lexI xs ys
 | _, _ => 0
def cmpI (a b : List Int) : Int := if a.length ≠ b.length then (if a.length < b.length then -1 else 1) else lexI a b
end Go.AL

set_option linter.unusedVariables false
set_option linter.unusedSimpArgs false
namespace Go.AL
open Go Go.BigFrame
deriving instance DecidableEq for Drawing
end Go.AL

set_option linter.unusedVariables false
set_option linter.unusedSimpArgs false
namespace Go.AL
open Go Go.BigFrame
def rdN (bits : List Int) : Nat → Rd
 | 0 => ⟨0, .one⟩
 | n + 1 => (rdN bits n).step bits
theorem firstK_spec {read s : Span} {ch : List Rat} {k : Nat} (h : firstK read s ch = some k) : Sure read s ch k := by
 have := List.find?_some h
 exact of_decide_eq_true this
theorem firstK_not {read s : Span} {ch : List Rat} (h : firstK read s ch = none) : ∀ j, j < ch.length → ¬ Sure read s ch j := fun j hj e => by
 have := List.find?_eq_none.1 h j (List.mem_range.2 hj)
 exact this (decide_eq_true e)
theorem choose_spec {bits : List Int} {s : Span} {ch : List Rat} {r r1 : Rd} {k : Nat} (h : chooseB bits s ch r = some (k, r1)) (hr : r = rdN bits r.used) :
  r1 = rdN bits r1.used ∧ Sure r1.read s ch k ∧ r.used ≤ r1.used ∧ ∀ v, r.used ≤ v → v < r1.used → ∀ j, j < ch.length → ¬ Sure (rdN bits v).read s ch j := by
 rw [chooseB] at h
 split at h
 ·rename_i k' hk
  cases h
  exact ⟨hr, firstK_spec hk, Nat.le_refl _, fun v h1 h2 => by omega⟩
 ·rename_i hk
  split at h
  ·rename_i hlt
   have hs : r.step bits = rdN bits (r.step bits).used := by
    show r.step bits = rdN bits (r.used + 1)
    rw [rdN, ← hr]
   obtain ⟨a1, a2, a3, a4⟩ := choose_spec h hs
   have e : (r.step bits).used = r.used + 1 := rfl
   refine ⟨a1, a2, by omega, fun v h1 h2 j hj => ?_⟩
   rcases Nat.lt_or_ge r.used v with hv | hv
   ·exact a4 v (by omega) h2 j hj
   ·obtain rfl : v = r.used := by omega
    rw [← hr]
    exact firstK_not hk j hj
  ·cases h
termination_by bits.length - r.used
decreasing_by simp only [Rd.step]; omega
structure Fair (ch : List Rat) : Prop where
 pos : ∀ q, q ∈ ch → 0 ≤ q
 sum : sumQ ch = 1
def RunOK (h : HM) (st w : List Int) : Prop := st.length = w.length ∧ w.length ≤ 256 ∧ (∀ x, x ∈ st → 0 ≤ x ∧ x < h.st) ∧ ∀ x, x ∈ w → 1 ≤ x ∧ x ≤ h.sym
theorem RunOK.word {h : HM} {st w : List Int} (k : RunOK h st w) : WordOK h w := ⟨k.2.1, k.2.2.2⟩
def entQ (h : HM) (fr : Int) (i x : Nat) : Rat := stepQ h fr i * (h.emit.getD i []).getD x 0
theorem entQ_sz {h : HM} {B : Nat} (f : h.Form B) (fr : Int) (i x : Nat) : sz (entQ h fr i x) ≤ 2048 := (viaQ_sz f fr x (rest := []) Small.nil (C := 1) (by decide) i).2.2.1
end Go.AL

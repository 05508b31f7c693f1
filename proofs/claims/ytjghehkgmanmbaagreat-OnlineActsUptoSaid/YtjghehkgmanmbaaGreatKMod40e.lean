/-
  M, chapter 40, part 5: different runs have disjoint intervals; the runs of all lists of bits.
-/
import Derived.Test.YtjghehkgmanmbaaGreatKNumb
import Derived.KernelRfl
set_option linter.unusedVariables false
set_option linter.unusedSimpArgs false
namespace Go.AL
open Go Go.BigFrame
structure Span where
 lo : Rat
 len : Rat
def Span.part (s : Span) (ch : List Rat) (k : Nat) : Span := ⟨(ch.take k).foldl (fun a p => a + s.len * p) s.lo, s.len * ch.getD k 0⟩
def Span.inside (s t : Span) : Prop := t.lo ≤ s.lo ∧ s.lo + s.len ≤ t.lo + t.len
instance (s t : Span) : Decidable (s.inside t) := inferInstanceAs (Decidable (_ ∧ _))
def Span.one : Span := ⟨0, 1⟩
def Sure (read s : Span) (ch : List Rat) (k : Nat) : Prop := 0 < ch.getD k 0 ∧ read.inside (s.part ch k)
instance (read s : Span) (ch : List Rat) (k : Nat) : Decidable (Sure read s ch k) := inferInstanceAs (Decidable (_ ∧ _))
def firstK (read s : Span) (ch : List Rat) : Option Nat := (List.range ch.length).find? fun k => decide (Sure read s ch k)
structure Rd where
 used : Nat
 read : Span
def Rd.step (bits : List Int) (r : Rd) : Rd := ⟨r.used + 1, ⟨if bits.getD r.used 0 = 1 then r.read.lo + r.read.len * (1 / 2) else r.read.lo, r.read.len * (1 / 2)⟩⟩
def chooseB (bits : List Int) (s : Span) (ch : List Rat) (r : Rd) : Option (Nat × Rd) :=
 match firstK r.read s ch with
 | some k => some (k, r)
 | none => if r.used < bits.length then chooseB bits s ch (r.step bits) else none
termination_by bits.length - r.used
decreasing_by simp only [Rd.step]; omega
def HM.next (h : HM) : Option Nat → List Rat
 | none => h.ini ++ [h.empty]
 | some i => h.trans.getD i [] ++ [h.stop.getD i 0]
inductive Drawing where
 | err (e : Int)
 | run (states word : List Int) (used : Nat)
def drawF (h : HM) (bits : List Int) : Nat → Rd → Span → Option Nat → List Int → List Int → Drawing
 | 0, _, _, _, _, _ => .err 2
 | n + 1, r, s, fr, states, word =>
  match chooseB bits s (h.next fr) r with
  | none => .err 17
  | some (k, r1) =>
   if k = h.st then .run states word r1.used
   else if n = 0 then .err 2
   else match chooseB bits (s.part (h.next fr) k) (h.emit.getD k []) r1 with
    | none => .err 17
    | some (x, r2) => drawF h bits n r2 ((s.part (h.next fr) k).part (h.emit.getD k []) x) (some k) (states ++ [(k : Int)]) (word ++ [(x : Int) + 1])
def draw (h : HM) (bits : List Int) : Drawing := drawF h bits 257 ⟨0, .one⟩ .one none [] []
end Go.AL

set_option linter.unusedVariables false
set_option linter.unusedSimpArgs false
namespace Go.AL
open Go Go.BigFrame
def partLo (s : Span) (l : List Rat) : Rat := l.foldl (fun a p => a + s.len * p) s.lo
theorem foldl_sz {B c : Nat} {q : Rat} (hq : sz q ≤ c) : ∀ (l : List Rat) (a : Rat), Small B l → sz (l.foldl (fun a p => a + q * p) a) ≤ sz a + l.length * (c + B + 1)
 | [], a, _ => by simp
 | x :: l, a, h => by
  rw [List.foldl_cons, List.length_cons, Nat.add_mul]
  have h1 := foldl_sz hq l (a + q * x) fun y hy => h y (List.mem_cons_of_mem _ hy)
  have h2 := sz_add a (q * x)
  have h3 := sz_mul q x
  have h4 := h x (List.mem_cons_self ..)
  omega
theorem partLo_sz {B c : Nat} {s : Span} {l : List Rat} (hq : sz s.len ≤ c) (h : Small B l) : sz (partLo s l) ≤ sz s.lo + l.length * (c + B + 1) := foldl_sz hq l s.lo h
structure SpanOK (t : Nat) (s : Span) : Prop where
 lo : sz s.lo ≤ 1 + t * 40000000
 len : sz s.len ≤ 1 + t * 1024
theorem SpanOK.part {t : Nat} {s : Span} {l : List Rat} (h : SpanOK t s) (ht : t ≤ 600) (hl : Small 1024 l) (hn : l.length ≤ 40) (k : Nat) (hk : k < l.length) : SpanOK (t + 1) (s.part l k) := by
 have h1 := partLo_sz (B := 1024) (s := s) (l := l.take k) h.len (hl.take k)
 have h2 : (l.take k).length ≤ 40 := by rw [List.length_take]; omega
 have h3 := sz_mul s.len (l.getD k 0)
 have h4 := hl.get (by decide) k
 have h5 := h.lo
 have h6 := h.len
 have h7 : (l.take k).length * (1 + t * 1024 + 1024 + 1) ≤ 40 * (1 + 600 * 1024 + 1024 + 1) := Nat.mul_le_mul h2 (by omega)
 refine ⟨?_, ?_⟩
 ·show sz (partLo s (l.take k)) ≤ _
  omega
 ·show sz (s.len * l.getD k 0) ≤ _
  omega
structure RdOK (bits : List Int) (r : Rd) : Prop where
 used : r.used ≤ bits.length
 bits : bits.length ≤ 2000
 lo : sz r.read.lo ≤ 1 + 3000 * r.used
 len : sz r.read.len ≤ 1 + r.used
theorem half_eq : ((1 : Int) : Rat) / ((2 : Int) : Rat) = 1 / 2 := by rw [show ((1 : Int) : Rat) = 1 from rfl, show ((2 : Int) : Rat) = 2 from rfl]
theorem half_sz : sz (1 / 2) ≤ 1 := by rw [← half_eq]; exact div_sz (by decide) (by decide) (by decide)
theorem RdOK.step {bits : List Int} {r : Rd} (h : RdOK bits r) (hu : r.used < bits.length) : RdOK bits (r.step bits) := by
 have h1 := h.lo
 have h2 := h.len
 have h3 := h.bits
 have h4 := sz_mul r.read.len (1 / 2)
 have h5 := half_sz
 have h6 := sz_add r.read.lo (r.read.len * (1 / 2))
 generalize sz (1 / 2) = a5 at h4 h5
 refine ⟨hu, h3, ?_, ?_⟩
 ·rw [show (r.step bits).used = r.used + 1 from rfl, show (r.step bits).read.lo = (if bits.getD r.used 0 = 1 then r.read.lo + r.read.len * (1 / 2) else r.read.lo) from rfl]
  generalize r.read.lo + r.read.len * (1 / 2) = x6 at h6 ⊢
  generalize r.read.len * (1 / 2) = x4 at h4 h6
  split <;> omega
 ·rw [show (r.step bits).used = r.used + 1 from rfl, show (r.step bits).read.len = r.read.len * (1 / 2) from rfl]
  omega
def lexI : List Int → List Int → Int
 | x :: xs, y :: ys => if x < y then -1 else if y < x then 1 else lexI xs ys
 | _, _ => 0
def cmpI (a b : List Int) : Int := if a.length ≠ b.length then (if a.length < b.length then -1 else 1) else lexI a b
theorem lexI_step {a b : List Int} {i : Nat} (ha : i < a.length) (hb : i < b.length) : lexI (a.drop i) (b.drop i) = if a.getD i 0 < b.getD i 0 then -1 else if b.getD i 0 < a.getD i 0 then 1 else lexI (a.drop (i + 1)) (b.drop (i + 1)) := by
 rw [List.drop_eq_getElem_cons ha, List.drop_eq_getElem_cons hb, lexI, getD_lt ha, getD_lt hb]
end Go.AL

set_option linter.unusedVariables false
set_option linter.unusedSimpArgs false
namespace Go.AL
open Go Go.BigFrame
deriving instance DecidableEq for Drawing
end Go.AL

set_option linter.unusedVariables false
set_option linter.unusedSimpArgs false
namespace Go.AL
open Go Go.BigFrame
def stepQ (h : HM) (fr : Int) (i : Nat) : Rat := if 0 ≤ fr then (h.trans.getD fr.toNat []).getD i 0 else h.ini.getD i 0
def viaQ (h : HM) (fr : Int) (x : Nat) (rest : List Rat) (i : Nat) : Rat := stepQ h fr i * (h.emit.getD i []).getD x 0 * rest.getD i 0
def aheadF (h : HM) (fr : Int) (x : Nat) (rest : List Rat) : Nat → Rat × Nat
 | 0 => (0, 0)
 | i + 1 => if (aheadF h fr x rest i).1 < viaQ h fr x rest i then (viaQ h fr x rest i, i) else aheadF h fr x rest i
def symX (w : List Int) (t : Nat) : Nat := (w.getD t 0).toNat - 1
def WordOK (h : HM) (w : List Int) : Prop := w.length ≤ 256 ∧ ∀ x, x ∈ w → 1 ≤ x ∧ x ≤ h.sym
theorem WordOK.get {h : HM} {w : List Int} (k : WordOK h w) {t : Nat} (ht : t < w.length) : 1 ≤ w.getD t 0 ∧ w.getD t 0 ≤ h.sym := k.2 _ (getD_mem ht 0)
theorem WordOK.symX {h : HM} {w : List Int} (k : WordOK h w) {t : Nat} (ht : t < w.length) : Go.AL.symX w t < h.sym ∧ w.getD t 0 = ((Go.AL.symX w t + 1 : Nat) : Int) := by
 have := k.get ht
 unfold Go.AL.symX
 omega
theorem cmpQ_gt {x y : Rat} : 0 < cmpQ x y ↔ y < x := by
 rw [← Rat.not_le, ← cmpQ_le]; omega
theorem map_getD_range {α : Type} {n k : Nat} (f : Nat → α) (d : α) (hk : k < n) : ((List.range n).map f).getD k d = f k := by
 rw [List.getD_eq_getElem?_getD, List.getElem?_map, List.getElem?_range hk]; rfl
def fillF {α : Type} (d : α) (g : Nat → α) (n i : Nat) : List α := (List.range n).map fun j => if j < i then g j else d
theorem fillF_len {α : Type} (d : α) (g : Nat → α) (n i : Nat) : (fillF d g n i).length = n := by simp [fillF]
theorem fillF_zero {α : Type} (d : α) (g : Nat → α) (n : Nat) : fillF d g n 0 = List.replicate n d := by
 refine List.ext_getElem (by simp [fillF]) fun k h1 h2 => ?_
 simp [fillF]
theorem fillF_set {α : Type} {d : α} {g : Nat → α} {n i : Nat} (hi : i < n) : (fillF d g n i).set i (g i) = fillF d g n (i + 1) := by
 refine List.ext_getElem (by simp [fillF]) fun k h1 h2 => ?_
 rw [List.getElem_set]
 simp only [fillF, List.getElem_map, List.getElem_range]
 by_cases he : i = k
 ·subst he; rw [if_pos rfl, if_pos (by omega)]
 ·rw [if_neg he]
  by_cases h3 : k < i
  ·rw [if_pos h3, if_pos (by omega)]
  ·rw [if_neg h3, if_neg (by omega)]
theorem fillF_all {α : Type} (d : α) (g : Nat → α) (n : Nat) : fillF d g n n = (List.range n).map g := by
 refine List.map_congr_left fun j hj => ?_
 rw [if_pos (List.mem_range.1 hj)]
end Go.AL

set_option linter.unusedVariables false
set_option linter.unusedSimpArgs false
namespace Go.AL
open Go Go.BigFrame
def rdN (bits : List Int) : Nat → Rd
 | 0 => ⟨0, .one⟩
 | n + 1 => (rdN bits n).step bits
theorem firstK_spec {read s : Span} {ch : List Rat} {k : Nat} (h : firstK read s ch = some k) : Sure read s ch k := by
 have := List.find?_some h
 exact of_decide_eq_true this
theorem firstK_not {read s : Span} {ch : List Rat} (h : firstK read s ch = none) : ∀ j, j < ch.length → ¬ Sure read s ch j := fun j hj e => by
 have := List.find?_eq_none.1 h j (List.mem_range.2 hj)
 exact this (decide_eq_true e)
theorem choose_spec {bits : List Int} {s : Span} {ch : List Rat} {r r1 : Rd} {k : Nat} (h : chooseB bits s ch r = some (k, r1)) (hr : r = rdN bits r.used) :
  r1 = rdN bits r1.used ∧ Sure r1.read s ch k ∧ r.used ≤ r1.used ∧ ∀ v, r.used ≤ v → v < r1.used → ∀ j, j < ch.length → ¬ Sure (rdN bits v).read s ch j := by
 rw [chooseB] at h
 split at h
 ·rename_i k' hk
  cases h
  exact ⟨hr, firstK_spec hk, Nat.le_refl _, fun v h1 h2 => by omega⟩
 ·rename_i hk
  split at h
  ·rename_i hlt
   have hs : r.step bits = rdN bits (r.step bits).used := by
    show r.step bits = rdN bits (r.used + 1)
    rw [rdN, ← hr]
   obtain ⟨a1, a2, a3, a4⟩ := choose_spec h hs
   have e : (r.step bits).used = r.used + 1 := rfl
   refine ⟨a1, a2, by omega, fun v h1 h2 j hj => ?_⟩
   rcases Nat.lt_or_ge r.used v with hv | hv
   ·exact a4 v (by omega) h2 j hj
   ·obtain rfl : v = r.used := by omega
    rw [← hr]
    exact firstK_not hk j hj
  ·cases h
termination_by bits.length - r.used
decreasing_by simp only [Rd.step]; omega
theorem sumQ_nonneg : ∀ {l : List Rat}, (∀ q, q ∈ l → 0 ≤ q) → 0 ≤ sumQ l
 | [], _ => by rw [sumQ_nil]; decide
 | x :: l, h => by
  rw [sumQ_cons]
  have h1 := h x (List.mem_cons_self ..)
  have h2 := sumQ_nonneg (l := l) fun q hq => h q (List.mem_cons_of_mem _ hq)
  grind
theorem sumQ_take_le {l : List Rat} (h : ∀ q, q ∈ l → 0 ≤ q) (k : Nat) : sumQ (l.take k) ≤ sumQ l := by
 have e : sumQ l = sumQ (l.take k) + sumQ (l.drop k) := by rw [← sumQ_app, List.take_append_drop]
 have := sumQ_nonneg (l := l.drop k) fun q hq => h q (List.mem_of_mem_drop hq)
 grind
structure Fair (ch : List Rat) : Prop where
 pos : ∀ q, q ∈ ch → 0 ≤ q
 sum : sumQ ch = 1
def spF (h : HM) (st w : List Int) : Nat → Span × Option Nat
 | 0 => (.one, none)
 | t + 1 => ((((spF h st w t).1.part (h.next (spF h st w t).2) (st.getD t 0).toNat).part (h.emit.getD (st.getD t 0).toNat []) ((w.getD t 0).toNat - 1)), some (st.getD t 0).toNat)
def rangeS (h : HM) (st w : List Int) : Span := (spF h st w w.length).1.part (h.next (spF h st w w.length).2) h.st
def RunOK (h : HM) (st w : List Int) : Prop := st.length = w.length ∧ w.length ≤ 256 ∧ (∀ x, x ∈ st → 0 ≤ x ∧ x < h.st) ∧ ∀ x, x ∈ w → 1 ≤ x ∧ x ≤ h.sym
theorem RunOK.word {h : HM} {st w : List Int} (k : RunOK h st w) : WordOK h w := ⟨k.2.1, k.2.2.2⟩
end Go.AL

set_option linter.unusedVariables false
set_option linter.unusedSimpArgs false
namespace Go.AL
open Go Go.BigFrame
def Span.before (s t : Span) : Prop := s.lo + s.len ≤ t.lo
def StepsOK (h : HM) (r : List (Nat × Nat)) : Prop := ∀ p, p ∈ r → p.1 < h.st ∧ p.2 < h.sym
theorem StepsOK.tail {h : HM} {p : Nat × Nat} {r : List (Nat × Nat)} (k : StepsOK h (p :: r)) : StepsOK h r := fun q hq => k q (List.mem_cons_of_mem _ hq)
end Go.AL

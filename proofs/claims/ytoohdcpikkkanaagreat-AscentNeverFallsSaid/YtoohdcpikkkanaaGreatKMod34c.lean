/-
  M, chapter 34: the sums of beginnings times ends; the expected numbers fit together.
-/
import Derived.Test.YtoohdcpikkkanaaGreatKNumb
import Derived.KernelRfl
import Derived.Test.YtoohdcpikkkanaaGreatKMod34b
set_option linter.unusedVariables false
set_option linter.unusedSimpArgs false
namespace Go.AL
open Go Go.BigFrame
structure Span where
 lo : Rat
 len : Rat
def Span.part (s : Span) (ch : List Rat) (k : Nat) : Span := ⟨(ch.take k).foldl (fun a p => a + s.len * p) s.lo, s.len * ch.getD k 0⟩
def Span.inside (s t : Span) : Prop := t.lo ≤ s.lo ∧ s.lo + s.len ≤ t.lo + t.len
instance (s t : Span) : Decidable (s.inside t) := inferInstanceAs (Decidable (_ ∧ _))
def Span.one : Span := ⟨0, 1⟩
def Sure (read s : Span) (ch : List Rat) (k : Nat) : Prop := 0 < ch.getD k 0 ∧ read.inside (s.part ch k)
instance (read s : Span) (ch : List Rat) (k : Nat) : Decidable (Sure read s ch k) := inferInstanceAs (Decidable (_ ∧ _))
structure Rd where
 used : Nat
 read : Span
def Rd.step (bits : List Int) (r : Rd) : Rd := ⟨r.used + 1, ⟨if bits.getD r.used 0 = 1 then r.read.lo + r.read.len * (1 / 2) else r.read.lo, r.read.len * (1 / 2)⟩⟩
def HM.next (h : HM) : Option Nat → List Rat
 | none => h.ini ++ [h.empty]
 | some i => h.trans.getD i [] ++ [h.stop.getD i 0]
inductive Drawing where
 | err (e : Int)
 | run (states word : List Int) (used : Nat)
end Go.AL

set_option linter.unusedVariables false
set_option linter.unusedSimpArgs false
namespace Go.AL
open Go Go.BigFrame
def partLo (s : Span) (l : List Rat) : Rat := l.foldl (fun a p => a + s.len * p) s.lo
theorem foldl_sz {B c : Nat} {q : Rat} (hq : sz q ≤ c) : ∀ (l : List Rat) (a : Rat), Small B l → sz (l.foldl (fun a p => a + q * p) a) ≤ sz a + l.length * (c + B + 1)
 | [], a, _ => by simp
 | x :: l, a, h => by
  rw [List.foldl_cons, List.length_cons, Nat.add_mul]
  have h1 := foldl_sz hq l (a + q * x) fun y hy => h y (List.mem_cons_of_mem _ hy)
  have h2 := sz_add a (q * x)
  have h3 := sz_mul q x
  have h4 := h x (List.mem_cons_self ..)
  omega
theorem partLo_sz {B c : Nat} {s : Span} {l : List Rat} (hq : sz s.len ≤ c) (h : Small B l) : sz (partLo s l) ≤ sz s.lo + l.length * (c + B + 1) := foldl_sz hq l s.lo h
structure SpanOK (t : Nat) (s : Span) : Prop where
 lo : sz s.lo ≤ 1 + t * 40000000
 len : sz s.len ≤ 1 + t * 1024
theorem SpanOK.part {t : Nat} {s : Span} {l : List Rat} (h : SpanOK t s) (ht : t ≤ 600) (hl : Small 1024 l) (hn : l.length ≤ 40) (k : Nat) (hk : k < l.length) : SpanOK (t + 1) (s.part l k) := by
 have h1 := partLo_sz (B := 1024) (s := s) (l := l.take k) h.len (hl.take k)
 have h2 : (l.take k).length ≤ 40 := by rw [List.length_take]; omega
 have h3 := sz_mul s.len (l.getD k 0)
 have h4 := hl.get (by decide) k
 have h5 := h.lo
 have h6 := h.len
 have h7 : (l.take k).length * (1 + t * 1024 + 1024 + 1) ≤ 40 * (1 + 600 * 1024 + 1024 + 1) := Nat.mul_le_mul h2 (by omega)
 refine ⟨?_, ?_⟩
 ·show sz (partLo s (l.take k)) ≤ _
  omega
 ·show sz (s.len * l.getD k 0) ≤ _
  omega
structure RdOK (bits : List Int) (r : Rd) : Prop where
 used : r.used ≤ bits.length
 bits : bits.length ≤ 2000
 lo : sz r.read.lo ≤ 1 + 3000 * r.used
 len : sz r.read.len ≤ 1 + r.used
theorem half_eq : ((1 : Int) : Rat) / ((2 : Int) : Rat) = 1 / 2 := by rw [show ((1 : Int) : Rat) = 1 from rfl, show ((2 : Int) : Rat) = 2 from rfl]
theorem half_sz : sz (1 / 2) ≤ 1 := by rw [← half_eq]; exact div_sz (by decide) (by decide) (by decide)
theorem RdOK.step {bits : List Int} {r : Rd} (h : RdOK bits r) (hu : r.used < bits.length) : RdOK bits (r.step bits) := by
 have h1 := h.lo
 have h2 := h.len
 have h3 := h.bits
 have h4 := sz_mul r.read.len (1 / 2)
 have h5 := half_sz
 have h6 := sz_add r.read.lo (r.read.len * (1 / 2))
 generalize sz (1 / 2) = a5 at h4 h5
 refine ⟨hu, h3, ?_, ?_⟩
 ·rw [show (r.step bits).used = r.used + 1 from rfl, show (r.step bits).read.lo = (if bits.getD r.used 0 = 1 then r.read.lo + r.read.len * (1 / 2) else r.read.lo) from rfl]
  generalize r.read.lo + r.read.len * (1 / 2) = x6 at h6 ⊢
  generalize r.read.len * (1 / 2) = x4 at h4 h6
  split <;> omega
 ·rw [show (r.step bits).used = r.used + 1 from rfl, show (r.step bits).read.len = r.read.len * (1 / 2) from rfl]
  omega
end Go.AL

set_option linter.unusedVariables false
set_option linter.unusedSimpArgs false
namespace Go.AL
open Go Go.BigFrame
deriving instance DecidableEq for Drawing
end Go.AL

set_option linter.unusedVariables false
set_option linter.unusedSimpArgs false
namespace Go.AL
open Go Go.BigFrame
theorem sumN_congr {f g : Nat → Rat} : ∀ {n : Nat}, (∀ i, i < n → f i = g i) → sumN f n = sumN g n
 | 0, _ => rfl
 | n + 1, h => by rw [sumN, sumN, sumN_congr fun i hi => h i (by omega), h n (Nat.lt_succ_self n)]
theorem sumN_zero {f : Nat → Rat} : ∀ {n : Nat}, (∀ i, i < n → f i = 0) → sumN f n = 0
 | 0, _ => rfl
 | n + 1, h => by rw [sumN, sumN_zero fun i hi => h i (by omega), h n (Nat.lt_succ_self n)]; grind
theorem sumN_add (f g : Nat → Rat) : ∀ n, sumN (fun i => f i + g i) n = sumN f n + sumN g n
 | 0 => by rw [sumN, sumN, sumN]; grind
 | n + 1 => by rw [sumN, sumN, sumN, sumN_add f g n]; grind
theorem sumN_mulR (f : Nat → Rat) (c : Rat) : ∀ n, sumN (fun i => f i * c) n = sumN f n * c
 | 0 => by rw [sumN, sumN, Rat.zero_mul]
 | n + 1 => by rw [sumN, sumN, sumN_mulR f c n, Rat.add_mul]
theorem sumN_mulL (f : Nat → Rat) (c : Rat) (n : Nat) : sumN (fun i => c * f i) n = c * sumN f n := by
 rw [Rat.mul_comm, ← sumN_mulR]; exact sumN_congr fun i _ => Rat.mul_comm ..
theorem sumN_divR (f : Nat → Rat) (c : Rat) (n : Nat) : sumN (fun i => f i / c) n = sumN f n / c := by
 rw [Rat.div_def, ← sumN_mulR]; exact sumN_congr fun i _ => Rat.div_def ..
theorem sumN_swap (f : Nat → Nat → Rat) (m : Nat) : ∀ n, sumN (fun i => sumN (fun j => f i j) m) n = sumN (fun j => sumN (fun i => f i j) n) m
 | 0 => by rw [sumN]; exact (sumN_zero fun _ _ => rfl).symm
 | n + 1 => by
  rw [sumN, sumN_swap f m n, ← sumN_add]
  exact sumN_congr fun j _ => rfl
theorem sumN_front (f : Nat → Rat) : ∀ n, f 0 + sumN (fun t => f (t + 1)) n = sumN f (n + 1)
 | 0 => by rw [sumN, sumN, sumN]; grind
 | n + 1 => by rw [sumN, sumN, ← sumN_front f n]; grind
theorem step_sum {h : HM} {w : List Int} {t d : Nat} (ht : d + 1 + t + 1 = w.length) : sumN (fun i => (fwdF h w t).getD i 0 * (bwdF h w (d + 1)).getD i 0) h.st = sumN (fun j => (fwdF h w (t + 1)).getD j 0 * (bwdF h w d).getD j 0) h.st := by
 have e1 : ∀ i, i < h.st → (fwdF h w t).getD i 0 * (bwdF h w (d + 1)).getD i 0 = sumN (fun j => (fwdF h w t).getD i 0 * trQ h i j * (emQ h j (symX w (t + 1)) * (bwdF h w d).getD j 0)) h.st := fun i hi => by
  rw [bwd_pos (d := d + 1) (a := t) (by omega) (by omega) hi, sufF, ← sumN_mulL]
  exact sumN_congr fun j _ => by rw [show d + 1 - 1 = d from rfl, Rat.mul_assoc]
 rw [sumN_congr e1, sumN_swap]
 refine sumN_congr fun j hj => ?_
 rw [sumN_mulR, fwd_pos (t := t + 1) (by omega) hj, show t + 1 - 1 = t from rfl, preF, Rat.mul_assoc]
theorem fb_sum {h : HM} {w : List Int} : ∀ {d t : Nat}, d + t + 1 = w.length → sumN (fun i => (fwdF h w t).getD i 0 * (bwdF h w d).getD i 0) h.st = likF h w
 | 0, t, ht => by
  rw [show likF h w = likN h (fwdF h w (w.length - 1)) h.st from if_neg (by omega), likN, show w.length - 1 = t by omega]
  exact sumN_congr fun i hi => by rw [bwd_zero hi]
 | d + 1, t, ht => by
  rw [step_sum (by omega)]
  exact fb_sum (by omega)
theorem post_row {h : HM} {w : List Int} {t : Nat} (ht : t < w.length) (hz : likF h w ≠ 0) : sumN (fun i => postQ h w t i) h.st = 1 := by
 unfold postQ
 rw [sumN_divR, fb_sum (by omega), Rat.div_def, Rat.mul_inv_cancel _ hz]
theorem sumN_pick {v : Nat → Rat} {x n : Nat} (hx : x < n) : sumN (fun y => if x = y then v y else 0) n = v x := by
 induction n with
 | zero => omega
 | succ n ih =>
  rw [sumN]
  by_cases hn : x = n
  ·rw [if_pos hn, hn, sumN_zero fun i hi => if_neg (by omega)]; grind
  ·rw [if_neg hn, ih (by omega)]; grind
def sumL (l : List Rat) : Rat := sumN (fun i => l.getD i 0) l.length
theorem small_map {C n : Nat} {f : Nat → Rat} (h : ∀ i, i < n → sz (f i) ≤ C) : Small C ((List.range n).map f) := fun q hq => by
 obtain ⟨i, hi, rfl⟩ := List.mem_map.1 hq
 exact h i (List.mem_range.1 hi)
structure Fit (h : HM) (w : List Int) : Prop where
 row : ∀ t, t < w.length → sumL (postF h w t) = 1
 show_ : ∀ i, sumL (showRow h w w.length i) = sumN (fun t => postQ h w t i) w.length
 out : ∀ i, i < h.st → sumL (moveRow h w (w.length - 1) i) + postQ h w (w.length - 1) i = sumN (fun t => postQ h w t i) w.length
 into : ∀ i, i < h.st → postQ h w 0 i + sumN (fun j => moveQ h w (w.length - 1) j i) h.st = sumN (fun t => postQ h w t i) w.length
structure Got (h : HM) (w : List Int) : Prop where
 pl : (postR h w).length = w.length
 pg : ∀ t, t < w.length → (postR h w).getD t [] = postF h w t
 sS : exS h w = postF h w 0
 sE : exE h w = postF h w (w.length - 1)
 lM : (exM h w).length = h.st
 lO : (exO h w).length = h.st
 gM : ∀ i, i < h.st → (exM h w).getD i [] = moveRow h w (w.length - 1) i
 gO : ∀ i, i < h.st → (exO h w).getD i [] = showRow h w w.length i
theorem show_small {h : HM} {B : Nat} (f : h.Form B) {w : List Int} (k : Few h w) (i : Nat) : Small 160000000 (showRow h w w.length i) := small_map fun x _ => show_sz f k (Nat.le_refl _) i x
theorem move_small {h : HM} {B : Nat} (f : h.Form B) {w : List Int} (k : Few h w) (hn : w.length ≠ 0) (i : Nat) : Small 160000000 (moveRow h w (w.length - 1) i) := small_map fun j _ => move_sz f k (by omega) i j
end Go.AL

/-
  M, chapter 39: expected numbers of all words together.
-/
import Derived.Test.YtoohdcpikkkanaaGreatKNumb
import Derived.KernelRfl
import Derived.Test.YtoohdcpikkkanaaGreatKMod34b
import Derived.Test.YtoohdcpikkkanaaGreatKMod39b
set_option linter.unusedVariables false
set_option linter.unusedSimpArgs false
namespace Go.AL
open Go Go.BigFrame
structure Span where
 lo : Rat
 len : Rat
def Span.part (s : Span) (ch : List Rat) (k : Nat) : Span := ⟨(ch.take k).foldl (fun a p => a + s.len * p) s.lo, s.len * ch.getD k 0⟩
def Span.inside (s t : Span) : Prop := t.lo ≤ s.lo ∧ s.lo + s.len ≤ t.lo + t.len
instance (s t : Span) : Decidable (s.inside t) := inferInstanceAs (Decidable (_ ∧ _))
def Span.one : Span := ⟨0, 1⟩
def Sure (read s : Span) (ch : List Rat) (k : Nat) : Prop := 0 < ch.getD k 0 ∧ read.inside (s.part ch k)
instance (read s : Span) (ch : List Rat) (k : Nat) : Decidable (Sure read s ch k) := inferInstanceAs (Decidable (_ ∧ _))
structure Rd where
 used : Nat
 read : Span
def Rd.step (bits : List Int) (r : Rd) : Rd := ⟨r.used + 1, ⟨if bits.getD r.used 0 = 1 then r.read.lo + r.read.len * (1 / 2) else r.read.lo, r.read.len * (1 / 2)⟩⟩
def HM.next (h : HM) : Option Nat → List Rat
 | none => h.ini ++ [h.empty]
 | some i => h.trans.getD i [] ++ [h.stop.getD i 0]
inductive Drawing where
 | err (e : Int)
 | run (states word : List Int) (used : Nat)
end Go.AL

set_option linter.unusedVariables false
set_option linter.unusedSimpArgs false
namespace Go.AL
open Go Go.BigFrame
def partLo (s : Span) (l : List Rat) : Rat := l.foldl (fun a p => a + s.len * p) s.lo
theorem foldl_sz {B c : Nat} {q : Rat} (hq : sz q ≤ c) : ∀ (l : List Rat) (a : Rat), Small B l → sz (l.foldl (fun a p => a + q * p) a) ≤ sz a + l.length * (c + B + 1)
 | [], a, _ => by simp
 | x :: l, a, h => by
  rw [List.foldl_cons, List.length_cons, Nat.add_mul]
  have h1 := foldl_sz hq l (a + q * x) fun y hy => h y (List.mem_cons_of_mem _ hy)
  have h2 := sz_add a (q * x)
  have h3 := sz_mul q x
  have h4 := h x (List.mem_cons_self ..)
  omega
theorem partLo_sz {B c : Nat} {s : Span} {l : List Rat} (hq : sz s.len ≤ c) (h : Small B l) : sz (partLo s l) ≤ sz s.lo + l.length * (c + B + 1) := foldl_sz hq l s.lo h
structure SpanOK (t : Nat) (s : Span) : Prop where
 lo : sz s.lo ≤ 1 + t * 40000000
 len : sz s.len ≤ 1 + t * 1024
theorem SpanOK.part {t : Nat} {s : Span} {l : List Rat} (h : SpanOK t s) (ht : t ≤ 600) (hl : Small 1024 l) (hn : l.length ≤ 40) (k : Nat) (hk : k < l.length) : SpanOK (t + 1) (s.part l k) := by
 have h1 := partLo_sz (B := 1024) (s := s) (l := l.take k) h.len (hl.take k)
 have h2 : (l.take k).length ≤ 40 := by rw [List.length_take]; omega
 have h3 := sz_mul s.len (l.getD k 0)
 have h4 := hl.get (by decide) k
 have h5 := h.lo
 have h6 := h.len
 have h7 : (l.take k).length * (1 + t * 1024 + 1024 + 1) ≤ 40 * (1 + 600 * 1024 + 1024 + 1) := Nat.mul_le_mul h2 (by omega)
 refine ⟨?_, ?_⟩
 ·show sz (partLo s (l.take k)) ≤ _
  omega
 ·show sz (s.len * l.getD k 0) ≤ _
  omega
structure RdOK (bits : List Int) (r : Rd) : Prop where
 used : r.used ≤ bits.length
 bits : bits.length ≤ 2000
 lo : sz r.read.lo ≤ 1 + 3000 * r.used
 len : sz r.read.len ≤ 1 + r.used
theorem half_eq : ((1 : Int) : Rat) / ((2 : Int) : Rat) = 1 / 2 := by rw [show ((1 : Int) : Rat) = 1 from rfl, show ((2 : Int) : Rat) = 2 from rfl]
theorem half_sz : sz (1 / 2) ≤ 1 := by rw [← half_eq]; exact div_sz (by decide) (by decide) (by decide)
theorem RdOK.step {bits : List Int} {r : Rd} (h : RdOK bits r) (hu : r.used < bits.length) : RdOK bits (r.step bits) := by
 have h1 := h.lo
 have h2 := h.len
 have h3 := h.bits
 have h4 := sz_mul r.read.len (1 / 2)
 have h5 := half_sz
 have h6 := sz_add r.read.lo (r.read.len * (1 / 2))
 generalize sz (1 / 2) = a5 at h4 h5
 refine ⟨hu, h3, ?_, ?_⟩
 ·rw [show (r.step bits).used = r.used + 1 from rfl, show (r.step bits).read.lo = (if bits.getD r.used 0 = 1 then r.read.lo + r.read.len * (1 / 2) else r.read.lo) from rfl]
  generalize r.read.lo + r.read.len * (1 / 2) = x6 at h6 ⊢
  generalize r.read.len * (1 / 2) = x4 at h4 h6
  split <;> omega
 ·rw [show (r.step bits).used = r.used + 1 from rfl, show (r.step bits).read.len = r.read.len * (1 / 2) from rfl]
  omega
end Go.AL

set_option linter.unusedVariables false
set_option linter.unusedSimpArgs false
namespace Go.AL
open Go Go.BigFrame
deriving instance DecidableEq for Drawing
end Go.AL

set_option linter.unusedVariables false
set_option linter.unusedSimpArgs false
namespace Go.AL
open Go Go.BigFrame
theorem sumN_congr {f g : Nat → Rat} : ∀ {n : Nat}, (∀ i, i < n → f i = g i) → sumN f n = sumN g n
 | 0, _ => rfl
 | n + 1, h => by rw [sumN, sumN, sumN_congr fun i hi => h i (by omega), h n (Nat.lt_succ_self n)]
theorem sumN_zero {f : Nat → Rat} : ∀ {n : Nat}, (∀ i, i < n → f i = 0) → sumN f n = 0
 | 0, _ => rfl
 | n + 1, h => by rw [sumN, sumN_zero fun i hi => h i (by omega), h n (Nat.lt_succ_self n)]; grind
theorem sumN_add (f g : Nat → Rat) : ∀ n, sumN (fun i => f i + g i) n = sumN f n + sumN g n
 | 0 => by rw [sumN, sumN, sumN]; grind
 | n + 1 => by rw [sumN, sumN, sumN, sumN_add f g n]; grind
theorem sumN_mulR (f : Nat → Rat) (c : Rat) : ∀ n, sumN (fun i => f i * c) n = sumN f n * c
 | 0 => by rw [sumN, sumN, Rat.zero_mul]
 | n + 1 => by rw [sumN, sumN, sumN_mulR f c n, Rat.add_mul]
theorem sumN_mulL (f : Nat → Rat) (c : Rat) (n : Nat) : sumN (fun i => c * f i) n = c * sumN f n := by
 rw [Rat.mul_comm, ← sumN_mulR]; exact sumN_congr fun i _ => Rat.mul_comm ..
theorem sumN_divR (f : Nat → Rat) (c : Rat) (n : Nat) : sumN (fun i => f i / c) n = sumN f n / c := by
 rw [Rat.div_def, ← sumN_mulR]; exact sumN_congr fun i _ => Rat.div_def ..
theorem sumN_swap (f : Nat → Nat → Rat) (m : Nat) : ∀ n, sumN (fun i => sumN (fun j => f i j) m) n = sumN (fun j => sumN (fun i => f i j) n) m
 | 0 => by rw [sumN]; exact (sumN_zero fun _ _ => rfl).symm
 | n + 1 => by
  rw [sumN, sumN_swap f m n, ← sumN_add]
  exact sumN_congr fun j _ => rfl
theorem step_sum {h : HM} {w : List Int} {t d : Nat} (ht : d + 1 + t + 1 = w.length) : sumN (fun i => (fwdF h w t).getD i 0 * (bwdF h w (d + 1)).getD i 0) h.st = sumN (fun j => (fwdF h w (t + 1)).getD j 0 * (bwdF h w d).getD j 0) h.st := by
 have e1 : ∀ i, i < h.st → (fwdF h w t).getD i 0 * (bwdF h w (d + 1)).getD i 0 = sumN (fun j => (fwdF h w t).getD i 0 * trQ h i j * (emQ h j (symX w (t + 1)) * (bwdF h w d).getD j 0)) h.st := fun i hi => by
  rw [bwd_pos (d := d + 1) (a := t) (by omega) (by omega) hi, sufF, ← sumN_mulL]
  exact sumN_congr fun j _ => by rw [show d + 1 - 1 = d from rfl, Rat.mul_assoc]
 rw [sumN_congr e1, sumN_swap]
 refine sumN_congr fun j hj => ?_
 rw [sumN_mulR, fwd_pos (t := t + 1) (by omega) hj, show t + 1 - 1 = t from rfl, preF, Rat.mul_assoc]
theorem fb_sum {h : HM} {w : List Int} : ∀ {d t : Nat}, d + t + 1 = w.length → sumN (fun i => (fwdF h w t).getD i 0 * (bwdF h w d).getD i 0) h.st = likF h w
 | 0, t, ht => by
  rw [show likF h w = likN h (fwdF h w (w.length - 1)) h.st from if_neg (by omega), likN, show w.length - 1 = t by omega]
  exact sumN_congr fun i hi => by rw [bwd_zero hi]
 | d + 1, t, ht => by
  rw [step_sum (by omega)]
  exact fb_sum (by omega)
theorem post_row {h : HM} {w : List Int} {t : Nat} (ht : t < w.length) (hz : likF h w ≠ 0) : sumN (fun i => postQ h w t i) h.st = 1 := by
 unfold postQ
 rw [sumN_divR, fb_sum (by omega), Rat.div_def, Rat.mul_inv_cancel _ hz]
def sumL (l : List Rat) : Rat := sumN (fun i => l.getD i 0) l.length
theorem small_map {C n : Nat} {f : Nat → Rat} (h : ∀ i, i < n → sz (f i) ≤ C) : Small C ((List.range n).map f) := fun q hq => by
 obtain ⟨i, hi, rfl⟩ := List.mem_map.1 hq
 exact h i (List.mem_range.1 hi)
structure Fit (h : HM) (w : List Int) : Prop where
 row : ∀ t, t < w.length → sumL (postF h w t) = 1
 show_ : ∀ i, sumL (showRow h w w.length i) = sumN (fun t => postQ h w t i) w.length
 out : ∀ i, i < h.st → sumL (moveRow h w (w.length - 1) i) + postQ h w (w.length - 1) i = sumN (fun t => postQ h w t i) w.length
 into : ∀ i, i < h.st → postQ h w 0 i + sumN (fun j => moveQ h w (w.length - 1) j i) h.st = sumN (fun t => postQ h w t i) w.length
structure Got (h : HM) (w : List Int) : Prop where
 pl : (postR h w).length = w.length
 pg : ∀ t, t < w.length → (postR h w).getD t [] = postF h w t
 sS : exS h w = postF h w 0
 sE : exE h w = postF h w (w.length - 1)
 lM : (exM h w).length = h.st
 lO : (exO h w).length = h.st
 gM : ∀ i, i < h.st → (exM h w).getD i [] = moveRow h w (w.length - 1) i
 gO : ∀ i, i < h.st → (exO h w).getD i [] = showRow h w w.length i
theorem show_small {h : HM} {B : Nat} (f : h.Form B) {w : List Int} (k : Few h w) (i : Nat) : Small 160000000 (showRow h w w.length i) := small_map fun x _ => show_sz f k (Nat.le_refl _) i x
theorem move_small {h : HM} {B : Nat} (f : h.Form B) {w : List Int} (k : Few h w) (hn : w.length ≠ 0) (i : Nat) : Small 160000000 (moveRow h w (w.length - 1) i) := small_map fun j _ => move_sz f k (by omega) i j
end Go.AL

set_option linter.unusedVariables false
set_option linter.unusedSimpArgs false
namespace Go.AL
open Go Go.BigFrame
def lsum {α : Type} (f : α → Rat) : List α → Rat
 | [] => 0
 | x :: r => f x + lsum f r
theorem lsum_append {α : Type} (f : α → Rat) : ∀ a b : List α, lsum f (a ++ b) = lsum f a + lsum f b
 | [], b => by rw [List.nil_append, lsum, Rat.zero_add]
 | x :: a, b => by rw [List.cons_append, lsum, lsum, lsum_append f a b, Rat.add_assoc]
theorem lsum_take_succ {α : Type} (f : α → Rat) (d : α) {l : List α} {i : Nat} (h : i < l.length) : lsum f (l.take (i + 1)) = lsum f (l.take i) + f (l.getD i d) := by
 rw [List.take_succ_eq_append_getElem h, lsum_append, lsum, lsum, Rat.add_zero, List.getD_eq_getElem?_getD, List.getElem?_eq_getElem h]; rfl
theorem lsum_sz {α : Type} {f : α → Rat} {C : Nat} : ∀ l : List α, (∀ x, x ∈ l → sz (f x) ≤ C) → sz (lsum f l) ≤ 1 + l.length * (C + 1)
 | [], _ => by rw [lsum, sz_zero]; exact Nat.le_add_right ..
 | x :: l, h => by
  have h1 := lsum_sz l fun y hy => h y (List.mem_cons_of_mem _ hy)
  have h2 := h x (List.mem_cons_self ..)
  have h3 := sz_add (f x) (lsum f l)
  rw [lsum, List.length_cons, Nat.succ_mul]
  omega
end Go.AL

set_option linter.unusedVariables false
set_option linter.unusedSimpArgs false
namespace Go.AL
open Go Go.BigFrame
structure DataOK (h : HM) (D : List (List Int)) : Prop where
 len : 1 ≤ D.length ∧ D.length ≤ 5
 word : ∀ w, w ∈ D → WordOK h w ∧ Few h w
theorem DataOK.get {h : HM} {D : List (List Int)} (k : DataOK h D) {i : Nat} (hi : i < D.length) : WordOK h (D.getD i []) ∧ Few h (D.getD i []) := k.word _ (getD_mem hi [])
section
variable {h : HM} {w : List Int} {B : Nat}
theorem exS_len (hz : likF h w ≠ 0) : (exS h w).length = h.st := by
 unfold exS; rw [if_neg hz]; split
 ·simp
 ·exact postF_len ..
theorem exE_len (hz : likF h w ≠ 0) : (exE h w).length = h.st := by
 unfold exE; rw [if_neg hz]; split
 ·simp
 ·exact postF_len ..
theorem exM_len (hz : likF h w ≠ 0) : (exM h w).length = h.st := by unfold exM; rw [if_neg hz]; simp
theorem exO_len (hz : likF h w ≠ 0) : (exO h w).length = h.st := by unfold exO; rw [if_neg hz]; simp
theorem exM_row (hz : likF h w ≠ 0) {i : Nat} (hi : i < h.st) : (exM h w).getD i [] = moveRow h w (w.length - 1) i := by
 unfold exM; rw [if_neg hz]; exact map_get9 _ _ hi
theorem exO_row (hz : likF h w ≠ 0) {i : Nat} (hi : i < h.st) : (exO h w).getD i [] = showRow h w w.length i := by
 unfold exO; rw [if_neg hz]; exact map_get9 _ _ hi
theorem post_small9 (f : h.Form B) (k : Few h w) {t : Nat} (ht : t < w.length) : Small 160000000 (postF h w t) := small_map fun i _ => Nat.le_trans (post_sz f k ht i) (by decide)
theorem small_rep (n C : Nat) (hC : 1 ≤ C) : Small C (List.replicate n 0) := fun q hq => by rw [(List.mem_replicate.1 hq).2, sz_zero]; exact hC
theorem exS_small (f : h.Form B) (k : Few h w) (hz : likF h w ≠ 0) : Small 160000000 (exS h w) := by
 unfold exS; rw [if_neg hz]; split
 ·exact small_rep _ _ (by decide)
 ·exact post_small9 f k (t := 0) (by omega)
theorem exE_small (f : h.Form B) (k : Few h w) (hz : likF h w ≠ 0) : Small 160000000 (exE h w) := by
 unfold exE; rw [if_neg hz]; split
 ·exact small_rep _ _ (by decide)
 ·exact post_small9 f k (t := w.length - 1) (by omega)
theorem exM_small (f : h.Form B) (k : Few h w) (hz : likF h w ≠ 0) (i : Nat) : Small 160000000 ((exM h w).getD i []) := by
 rcases Nat.lt_or_ge i h.st with hi | hi
 ·rw [exM_row hz hi]
  by_cases h0 : w.length = 0
  ·rw [h0, moveRow_zero]; exact small_rep _ _ (by decide)
  ·exact move_small f k h0 i
 ·rw [getD_ge (by rw [exM_len hz]; exact hi)]; exact Small.nil
theorem exO_small (f : h.Form B) (k : Few h w) (hz : likF h w ≠ 0) (i : Nat) : Small 160000000 ((exO h w).getD i []) := by
 rcases Nat.lt_or_ge i h.st with hi | hi
 ·rw [exO_row hz hi]; exact show_small f k i
 ·rw [getD_ge (by rw [exO_len hz]; exact hi)]; exact Small.nil
end
def addL (a l : List Rat) : List Rat := (List.range a.length).map fun i => a.getD i 0 + l.getD i 0
theorem addL_len (a l : List Rat) : (addL a l).length = a.length := by simp [addL]
theorem addL_get {a l : List Rat} {i : Nat} (hi : i < a.length) : (addL a l).getD i 0 = a.getD i 0 + l.getD i 0 := map_get9 _ _ hi
def mixB (a b : List Rat) (n i : Nat) : List Rat := (List.range n).map fun k => if k < i then a.getD k 0 else b.getD k 0
theorem mixB_len (a b : List Rat) (n i : Nat) : (mixB a b n i).length = n := by simp [mixB]
theorem mixB_zero {a b : List Rat} {n : Nat} (h : b.length = n) : mixB a b n 0 = b := by
 refine List.ext_getElem (by simp [mixB, h]) fun k h1 h2 => ?_
 simp only [mixB, List.getElem_map, List.getElem_range]
 rw [if_neg (by omega), getD_lt h2]
theorem mixB_get {a b : List Rat} {n i : Nat} (hi : i < n) : (mixB a b n i).getD i 0 = b.getD i 0 := by
 unfold mixB
 rw [map_get9 _ _ hi, if_neg (by omega)]
theorem mixB_set {a b : List Rat} {n i : Nat} {x : Rat} (hi : i < n) (hx : a.getD i 0 = x) : (mixB a b n i).set i x = mixB a b n (i + 1) := by
 refine List.ext_getElem (by simp [mixB]) fun k h1 h2 => ?_
 rw [List.getElem_set]
 simp only [mixB, List.getElem_map, List.getElem_range]
 by_cases e : i = k
 ·subst e; rw [if_pos rfl, if_pos (by omega), hx]
 ·rw [if_neg e]
  by_cases h3 : k < i
  ·rw [if_pos h3, if_pos (by omega)]
  ·rw [if_neg h3, if_neg (by omega)]
def accL (n : Nat) (f : List Int → List Rat) (D : List (List Int)) : List Rat := (List.range n).map fun i => lsum (fun w => (f w).getD i 0) D
theorem accL_len (n : Nat) (f : List Int → List Rat) (D : List (List Int)) : (accL n f D).length = n := by simp [accL]
theorem accL_get {n : Nat} {f : List Int → List Rat} {D : List (List Int)} {i : Nat} (hi : i < n) : (accL n f D).getD i 0 = lsum (fun w => (f w).getD i 0) D := map_get9 _ _ hi
theorem accL_nil (n : Nat) (f : List Int → List Rat) : accL n f [] = List.replicate n 0 := by
 refine List.ext_getElem (by simp [accL]) fun k h1 h2 => ?_
 simp [accL, lsum]
theorem accL_step {n : Nat} {f : List Int → List Rat} {D : List (List Int)} {k : Nat} (hk : k < D.length) : accL n f (D.take (k + 1)) = addL (accL n f (D.take k)) (f (D.getD k [])) := by
 refine List.ext_getElem (by simp [accL, addL]) fun j h1 h2 => ?_
 have hj : j < n := by simpa [accL] using h1
 rw [← getD_lt h1 0, ← getD_lt h2 0, accL_get hj, addL_get (by rw [accL_len]; exact hj), accL_get hj, lsum_take_succ _ [] hk]
theorem accL_small {n C : Nat} {f : List Int → List Rat} {D : List (List Int)} (hf : ∀ w, w ∈ D → Small C (f w)) (hC : 1 ≤ C) : Small (1 + D.length * (C + 1)) (accL n f D) := small_map fun i _ => lsum_sz D fun w hw => (hf w hw).get hC i
def stL (h : HM) (D : List (List Int)) : List Rat := accL h.st (exS h) D
def enL (h : HM) (D : List (List Int)) : List Rat := accL h.st (exE h) D
def mvL (h : HM) (D : List (List Int)) (i : Nat) : List Rat := accL h.st (fun w => (exM h w).getD i []) D
def shL (h : HM) (D : List (List Int)) (i : Nat) : List Rat := accL h.sym (fun w => (exO h w).getD i []) D
def emN (D : List (List Int)) : Nat := (D.filter fun w => decide (w.length = 0)).length
theorem emN_le (D : List (List Int)) : emN D ≤ D.length := List.length_filter_le ..
theorem emN_step {D : List (List Int)} {k : Nat} (hk : k < D.length) : emN (D.take (k + 1)) = emN (D.take k) + if (D.getD k []).length = 0 then 1 else 0 := by
 unfold emN
 rw [take_succ_getD hk [], List.filter_append, List.length_append]
 by_cases e : (D.getD k []).length = 0
 ·rw [if_pos e, List.filter_cons, if_pos (decide_eq_true e)]; rfl
 ·rw [if_neg e, List.filter_cons, if_neg (fun k => e (of_decide_eq_true k))]; rfl
def AllL (h : HM) (D : List (List Int)) : Prop := ∀ w, w ∈ D → likF h w ≠ 0
end Go.AL

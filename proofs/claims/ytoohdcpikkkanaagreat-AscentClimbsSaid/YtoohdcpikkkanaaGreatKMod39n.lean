/-
  M, chapter 39: the exact reestimate is at least as likely as the model, the end.
-/
import Derived.Test.YtoohdcpikkkanaaGreatKMod39h
set_option linter.unusedVariables false
set_option linter.unusedSimpArgs false
namespace Go.AL
open Go Go.BigFrame
theorem NN.mem {l : List Rat} (h : NN l) : ∀ q, q ∈ l → 0 ≤ q := fun q hq => by
 obtain ⟨i, _, rfl⟩ := mem_getD hq 0
 exact h i
theorem le_sumQ : ∀ {l : List Rat}, (∀ q, q ∈ l → 0 ≤ q) → ∀ q, q ∈ l → q ≤ sumQ l
 | [], _, q, hq => by simp at hq
 | x :: l, h, q, hq => by
  have h1 := sumQ_nonneg fun y hy => h y (List.mem_cons_of_mem _ hy)
  have h0 := h x (by simp)
  rw [sumQ_cons]
  rcases List.mem_cons.1 hq with rfl | hq
  ·grind
  ·have := le_sumQ (fun y hy => h y (List.mem_cons_of_mem _ hy)) q hq
   grind
theorem shares_of_sum {l : List Rat} (h : ∀ q, q ∈ l → 0 ≤ q) (h1 : sumQ l = 1) : Shares l := fun q hq => ⟨h q hq, by have := le_sumQ h q hq; rw [h1] at this; exact this⟩
theorem sumQ_divr (l : List Rat) (v : Rat) : sumQ (l.map fun x => x / v) = sumQ l / v := by
 rw [show (fun x : Rat => x / v) = fun x => x * v⁻¹ from funext fun x => Rat.div_def x v, sumQ_mulr, Rat.div_def]
theorem div_self9 {v : Rat} (h : v ≠ 0) : v / v = 1 := by rw [Rat.div_def]; exact Rat.mul_inv_cancel v h
theorem one_of_div {l : List Rat} {v : Rat} (h : sumQ l = v) (hv : v ≠ 0) : sumQ (l.map fun x => x / v) = 1 := by
 rw [sumQ_divr, h]; exact div_self9 hv
theorem shares_div {l : List Rat} {v : Rat} (h : ∀ q, q ∈ l → 0 ≤ q) (hs : sumQ l = v) (hv : 0 < v) : Shares (l.map fun x => x / v) := shares_of_sum (fun q hq => by
 obtain ⟨x, hx, rfl⟩ := List.mem_map.1 hq
 exact div_nn (h x hx) (Rat.le_of_lt hv)) (one_of_div hs fun e => by rw [e] at hv; exact Rat.lt_irrefl hv)
theorem sumQ_range (f : Nat → Rat) : ∀ n, sumQ ((List.range n).map f) = sumN f n
 | 0 => rfl
 | n + 1 => by rw [List.range_succ, List.map_append, List.map_singleton, sumQ_snoc, sumQ_range f n]; rfl
theorem sumN_lsum (n : Nat) (g : Nat → List Int → Rat) : ∀ X : List (List Int), sumN (fun i => lsum (g i) X) n = lsum (fun w => sumN (fun i => g i w) n) X
 | [] => sumN_zero fun _ _ => rfl
 | w :: X => by
  show sumN (fun i => g i w + lsum (g i) X) n = sumN (fun i => g i w) n + lsum _ X
  rw [sumN_add, sumN_lsum n g X]
theorem sumQ_acc (n : Nat) (g : List Int → List Rat) (X : List (List Int)) : sumQ (accL n g X) = lsum (fun w => sumN (fun i => (g w).getD i 0) n) X := by
 unfold accL
 rw [sumQ_range, sumN_lsum]
section
variable {h : HM} {X : List (List Int)}
theorem exS_sum {w : List Int} (hz : likF h w ≠ 0) : sumN (fun i => (exS h w).getD i 0) h.st = if w.length = 0 then 0 else 1 := by
 unfold exS
 rw [if_neg hz]
 split
 ·exact sumN_zero fun i hi => by rw [List.getD_eq_getElem?_getD, List.getElem?_replicate]; split <;> rfl
 ·rw [sumN_congr fun i hi => postF_get hi]
  exact post_row (by omega) hz
theorem emN_cons (w : List Int) (X : List (List Int)) : (emN (w :: X) : Rat) = (if w.length = 0 then 1 else 0) + (emN X : Rat) := by
 unfold emN
 rw [List.filter_cons]
 by_cases h0 : w.length = 0
 ·rw [if_pos (by simpa using h0), if_pos h0, List.length_cons, Rat.natCast_add, Rat.add_comm]; rfl
 ·rw [if_neg (by simpa using h0), if_neg h0, Rat.zero_add]
theorem st_sum : ∀ {X : List (List Int)}, AllL h X → sumQ (stL h X) + (emN X : Rat) = (X.length : Rat) := fun {X} ha => by
 unfold stL
 rw [sumQ_acc]
 induction X with
 | nil => exact Rat.zero_add _
 | cons w X ih =>
  have ih := ih fun u hu => ha u (by simp [hu])
  show sumN (fun i => (exS h w).getD i 0) h.st + lsum _ X + _ = _
  rw [exS_sum (ha w (by simp)), emN_cons, List.length_cons, Rat.natCast_add, ← ih]
  by_cases h0 : w.length = 0
  ·rw [if_pos h0, if_pos h0]; show _ = _ + 1; grind
  ·rw [if_neg h0, if_neg h0]; show _ = _ + 1; grind
variable {b B : Nat}
theorem re_row {i : Nat} (hi : i < h.st) : rowTS (reHM h X) i = if 0 < vTot h X i then (mvL h X i ++ [(enL h X).getD i 0]).map (fun x => x / vTot h X i) else rowTS h i := by
 unfold rowTS
 rw [re_trans hi, re_stop hi]
 split
 ·rw [List.map_append]; rfl
 ·rfl
theorem mv_row_nn (g : HM.GoodX b B h) (i : Nat) : ∀ q, q ∈ mvL h X i ++ [(enL h X).getD i 0] → 0 ≤ q := fun q hq => by
 rcases List.mem_append.1 hq with hq | hq
 ·exact (mv_nn g i).mem q hq
 ·rw [List.mem_singleton.1 hq]; exact en_nn g i
theorem re_first (h : HM) (X : List (List Int)) : (reHM h X).ini ++ [(reHM h X).empty] = (stL h X ++ [(emN X : Rat)]).map fun x => x / (X.length : Rat) := by
 rw [List.map_append]; rfl
abbrev BX : Nat := 1000000
theorem re_good (g : h.Good 1) (k : Data1 h X) (ha : AllL h X) (hs : h.sym ≤ 3) : (reHM h X).GoodW BX := by
 have f := g.form
 have n0 := f.st0
 have nX := k.ok.len
 have hX : 0 < (X.length : Rat) := Rat.natCast_pos.2 (by omega)
 have hXz : sz (X.length : Rat) ≤ 1 := sz_nat (by omega)
 have hEz : sz (emN X : Rat) ≤ 1 := sz_nat (by have := emN_le X; omega)
 have s0 : sumQ (stL h X ++ [(emN X : Rat)]) = (X.length : Rat) := by rw [sumQ_snoc]; exact st_sum ha
 have nn0 : ∀ q, q ∈ stL h X ++ [(emN X : Rat)] → 0 ≤ q := fun q hq => by
  rcases List.mem_append.1 hq with hq | hq
  ·exact (st_nn g).mem q hq
  ·rw [List.mem_singleton.1 hq]; exact Rat.natCast_nonneg
 have sh0 := shares_div nn0 s0 hX
 rw [← re_first] at sh0
 have row : ∀ i, i < h.st → Shares (rowTS (reHM h X) i) ∧ Small BX (rowTS (reHM h X) i) ∧ sumQ (rowTS (reHM h X) i) = 1 ∧ (rowTS (reHM h X) i).length = h.st + 1 := fun i hi => by
  rw [re_row hi]
  split
  ·next hv =>
   refine ⟨shares_div (mv_row_nn g i) rfl hv, fun q hq => ?_, one_of_div rfl fun e => ?_, ?_⟩
   ·obtain ⟨x, hx, rfl⟩ := List.mem_map.1 hq
    have h1 := ((mv_small1 f k ha i).app (Small.one ((en_small1 f k ha).get (by decide) i))) x hx
    have h2 := v_sz1 f k ha i
    have h3 := sz_div x (vTot h X i)
    show _ ≤ 1000000
    omega
   ·rw [e] at hv; exact Rat.lt_irrefl hv
   ·rw [List.length_map, List.length_append, show (mvL h X i).length = h.st from accL_len ..]; rfl
  ·exact ⟨rowTS_shares g i, (rowTS_small f i).mono (by decide), g.sT i hi, rowTS_len f hi⟩
 have em : ∀ i, i < h.st → Shares ((reHM h X).emit.getD i []) ∧ Small BX ((reHM h X).emit.getD i []) ∧ sumQ ((reHM h X).emit.getD i []) = 1 ∧ ((reHM h X).emit.getD i []).length = h.sym := fun i hi => by
  rw [re_emit hi]
  split
  ·next hu =>
   refine ⟨shares_div (pool_nn g i h.st).mem rfl hu, fun q hq => ?_, one_of_div rfl fun e => ?_, ?_⟩
   ·obtain ⟨x, hx, rfl⟩ := List.mem_map.1 hq
    have h1 := pool_small1 f k ha i h.st k.ok.few x hx
    have h2 := u_sz1 f k ha hs i
    have h3 := sz_div x (uTot h X i)
    show _ ≤ 1000000
    omega
   ·rw [e] at hu; exact Rat.lt_irrefl hu
   ·rw [List.length_map, poolN_len]
  ·exact ⟨g.pM i, (f.zM i).mono (by decide), g.sM i hi, f.erow i hi⟩
 have lT : (reHM h X).trans.length = h.st := by show ((List.range h.st).map _).length = h.st; simp
 have lM : (reHM h X).emit.length = h.st := by show ((List.range h.st).map _).length = h.st; simp
 have past : ∀ {l : List (List Rat)} {i : Nat}, l.length = h.st → h.st ≤ i → l.getD i [] = [] := fun hl hi => getNil (by omega)
 have zS : ∀ q, q ∈ (reHM h X).stop → Share q ∧ sz q ≤ BX := fun q hq => by
  obtain ⟨i, hi, rfl⟩ := List.mem_map.1 hq
  have hi := List.mem_range.1 hi
  have hm : (reHM h X).stop.getD i 0 ∈ rowTS (reHM h X) i := by unfold rowTS; simp
  rw [re_stop hi] at hm
  exact ⟨(row i hi).1 _ hm, (row i hi).2.1 _ hm⟩
 have tr : ∀ i, ∀ q, q ∈ (reHM h X).trans.getD i [] → Share q ∧ sz q ≤ BX := fun i q hq => by
  rcases Nat.lt_or_ge i h.st with hi | hi
  ·have hm : q ∈ rowTS (reHM h X) i := by unfold rowTS; exact List.mem_append_left _ hq
   exact ⟨(row i hi).1 _ hm, (row i hi).2.1 _ hm⟩
  ·rw [past lT hi] at hq; simp at hq
 have e2 : ∀ i, ∀ q, q ∈ (reHM h X).emit.getD i [] → Share q ∧ sz q ≤ BX := fun i q hq => by
  rcases Nat.lt_or_ge i h.st with hi | hi
  ·exact ⟨(em i hi).1 _ hq, (em i hi).2.1 _ hq⟩
  ·rw [past lM hi] at hq; simp at hq
 refine ⟨⟨f.sym0, f.sym1, f.st0, f.st1, ?_, lT, fun i hi => ?_, ?_, lM, fun i hi => (em i hi).2.2.2, f.silent, f.ties, f.tie, by decide, by decide, ?_, fun q hq => ?_, fun q hq => (zS q hq).2, fun i q hq => (tr i q hq).2, fun i q hq => (e2 i q hq).2⟩, ?_, fun q hq => ?_, fun q hq => (zS q hq).1, fun i q hq => (tr i q hq).1, fun i q hq => (e2 i q hq).1, ?_, fun i hi => (row i hi).2.2.1, fun i hi => (em i hi).2.2.1, fun i j hi hj ht => ?_⟩
 ·show ((stL h X).map _).length = h.st; rw [List.length_map]; exact accL_len ..
 ·have := (row i hi).2.2.2
  unfold rowTS at this
  rw [List.length_append] at this
  exact Nat.succ.inj this
 ·show ((List.range h.st).map _).length = h.st; simp
 ·have := sz_div (emN X : Rat) (X.length : Rat)
  show sz ((emN X : Rat) / (X.length : Rat)) ≤ 1000000
  omega
 ·obtain ⟨x, hx, rfl⟩ := List.mem_map.1 hq
  have h1 := st_small1 f k ha x hx
  have h3 := sz_div x (X.length : Rat)
  show _ ≤ 1000000
  omega
 ·exact sh0 _ (by simp)
 ·exact sh0 q (List.mem_append_left _ hq)
 ·rw [re_first]; exact one_of_div s0 fun e => by rw [e] at hX; exact Rat.lt_irrefl hX
 ·have hi : i < h.st := hi
  have hj' : j < h.st := by omega
  have ht : h.ties.getD i 0 = h.ties.getD j 0 := ht
  have hp : poolN h X i h.st = poolN h X j h.st := by unfold poolN; rw [ht]
  have hu : uTot h X i = uTot h X j := by unfold uTot; rw [hp]
  rw [re_emit hi, re_emit hj', hu, hp, g.tied i j hi hj ht]
end
end Go.AL

set_option linter.unusedVariables false
set_option linter.unusedSimpArgs false
namespace Go.AL
open Go Go.BigFrame
def prodL {α : Type} (f : α → Rat) : List α → Rat
 | [] => 1
 | x :: l => f x * prodL f l
section
variable {α β : Type}
theorem prodL_app (f : α → Rat) : ∀ a b : List α, prodL f (a ++ b) = prodL f a * prodL f b
 | [], b => (Rat.one_mul _).symm
 | x :: a, b => by rw [List.cons_append, prodL, prodL, prodL_app f a b, Rat.mul_assoc]
end
end Go.AL

set_option linter.unusedVariables false
set_option linter.unusedSimpArgs false
namespace Go.AL
open Go Go.BigFrame
section
variable {h : HM} {w : List Int}
structure RepOK (h : HM) (r : Nat → Nat) : Prop where
 lt : ∀ i, i < h.st → r i < h.st
 em : ∀ i x, i < h.st → emQ h (r i) x = emQ h i x
def b2 (c : Prop) [Decidable c] : Rat := if c then 1 else 0
end
end Go.AL

set_option linter.unusedVariables false
set_option linter.unusedSimpArgs false
namespace Go.AL
open Go Go.BigFrame
section
variable {h : HM} {X : List (List Int)} {b B : Nat}
theorem lk_prod (m : HM) : ∀ (X : List (List Int)), lkN m X X.length = prodL (likF m) X := fun X => by
 have key : ∀ n, n ≤ X.length → lkN m X n = prodL (likF m) (X.take n) := fun n => by
  induction n with
  | zero => intro _; rfl
  | succ n ih =>
   intro hn
   rw [lkN, ih (by omega), take_succ_getD (show n < X.length by omega) [], prodL_app, prodL, prodL, Rat.mul_one]
 rw [key _ (Nat.le_refl _), List.take_length]
end
end Go.AL
namespace Go.AL
open Go Go.BigFrame
end Go.AL
namespace Go.AL
open Go Go.BigFrame
theorem prodL_zero {α : Type} {f : α → Rat} : ∀ {l : List α}, prodL f l = 0 ↔ ∃ x, x ∈ l ∧ f x = 0
 | [] => ⟨fun e => absurd (show (1 : Rat) = 0 from e) (by decide), fun ⟨_, h, _⟩ => by simp at h⟩
 | x :: l => by
  rw [prodL, Rat.mul_eq_zero, prodL_zero (l := l)]
  constructor
  ·rintro (h | ⟨y, hy, h⟩)
   ·exact ⟨x, by simp, h⟩
   ·exact ⟨y, by simp [hy], h⟩
  ·rintro ⟨y, hy, h⟩
   rcases List.mem_cons.1 hy with rfl | hy
   ·exact .inl h
   ·exact .inr ⟨y, hy, h⟩
theorem lk_zero {h : HM} {X : List (List Int)} : lkN h X X.length = 0 ↔ ¬ AllL h X := by
 rw [lk_prod, prodL_zero]
 constructor
 ·rintro ⟨w, hw, e⟩ ha; exact ha w hw e
 ·intro hn
  refine Classical.byContradiction fun k => hn fun w hw e => k ⟨w, hw, e⟩
theorem data1_ok {L : List Int} {h : HM} {most : Nat} (hs : 1 ≤ h.sym) (ht : h.st ≤ 4) (hm : 1 ≤ most ∧ most ≤ 5) : Data1 h (dataF L h.sym most) := ⟨data_ok hs ht hm, fun w hw => (dtF_mem hs _ _ w hw).1⟩
end Go.AL
namespace Go.AL
open Go Go.BigFrame
theorem chain_sym3 (L : List Int) (cs cy most : Int) : (chainHM L cs cy most).sym ≤ 3 := by
 have := chSym_range cy
 show chSym cy ≤ 3
 omega
theorem cmpQ_ge {x y : Rat} : 0 ≤ cmpQ x y ↔ y ≤ x := by
 have h := cmpQ_neg (x := x) (y := y)
 constructor
 ·intro k
  have : ¬ x < y := fun e => by have := h.2 e; omega
  grind
 ·intro k
  have : ¬ cmpQ x y < 0 := fun e => by have := h.1 e; grind
  omega
end Go.AL

/-
  M, part 54: decoders of any kind that are valid, and how they go on.
-/
import Derived.Test.YtjghehkgmanmbaaGreatKSaC
import Derived.Test.YtjghehkgmanmbaaGreatKMod34b
set_option linter.unusedVariables false
set_option linter.unusedSimpArgs false
namespace Go.AL
open Go Go.BigFrame
structure HeadsV (h : HM) (t : Nat) (S : Nat → Rat) (Q : Nat → List Int) : Prop where
 nonneg : ∀ j, j < h.st → 0 ≤ S j
 live : ∀ j, j < h.st → 0 < S j → Q j ∈ pathsF h.st t ∧ atP (Q j) (t - 1) = j ∧ True
structure ValC (h : HM) (o : Dec) : Prop where
 le : o.t ≤ 256
 zero : o.t = 0 → o.sc = [] ∧ o.tl = [] ∧ o.dn = []
 len : o.t ≠ 0 → o.sc.length = h.st ∧ o.tl.length = h.st
 heads : o.t ≠ 0 → HeadsV h o.t (fun j => o.sc.getD j 0) fun j => o.dn ++ o.tl.getD j []
 one : ∀ j, o.sc.getD j 0 ≤ 1
 dead : ∀ j, ¬ 0 < o.sc.getD j 0 → o.tl.getD j [] = []
 some : o.t ≠ 0 → ∃ j, j < h.st ∧ 0 < o.sc.getD j 0
 com : o.t ≠ 0 → (comF (fun j => decide (0 < o.sc.getD j 0)) (fun j => o.tl.getD j []) h.st).1 = 0
structure ValD (K : Nat) (h : HM) (o : Dec) : Prop extends ValC h o where
 K1 : 1 ≤ K ∧ K ≤ 1073741824
 small : Small K o.sc
section
variable {h : HM} {K B : Nat} {o : Dec} {x : Nat}
theorem ValC.share (k : ValC h o) (h0 : o.t ≠ 0) {j : Nat} (hj : j < h.st) : Share (o.sc.getD j 0) := ⟨(k.heads h0).nonneg j hj, k.one j⟩
theorem tails_lenV (k : ValD K h o) (j : Nat) : (o.tl.getD j []).length ≤ 256 := by
 by_cases h0 : o.t = 0
 ·rw [(k.zero h0).2.1]; exact Nat.zero_le _
 ·rcases Nat.lt_or_ge j h.st with hj | hj
  ·by_cases e : 0 < o.sc.getD j 0
   ·have h1 := (pathsF_mem ((k.heads h0).live j hj e).1).1
    have := k.le
    rw [List.length_append] at h1
    omega
   ·rw [k.dead j e]; exact Nat.zero_le _
  ·rw [getD_ge (by rw [(k.len h0).2]; exact hj)]; exact Nat.zero_le _
theorem done_leV (k : ValC h o) : o.dn.length ≤ o.t := by
 by_cases h0 : o.t = 0
 ·rw [(k.zero h0).2.2]; exact Nat.zero_le _
 ·obtain ⟨j, hj, hp⟩ := k.some h0
  have h1 := (pathsF_mem ((k.heads h0).live j hj hp).1).1
  rw [List.length_append] at h1
  omega
theorem done_lenV (k : ValD K h o) : o.dn.length ≤ 256 := Nat.le_trans (done_leV k.toValC) k.le
theorem mul_one9 {a b : Rat} (h1 : 0 ≤ a) (h2 : a ≤ 1) (h3 : b ≤ 1) : a * b ≤ 1 := Rat.le_trans (Rat.mul_le_mul_of_nonneg_left h3 h1) (by rw [Rat.mul_one]; exact h2)
theorem pick_one (g : h.GoodW B) (k : ValC h o) (j : Nat) : ∀ n, n ≤ o.sc.length → 0 ≤ (pickF h o j n).1 ∧ (pickF h o j n).1 ≤ 1
 | 0, _ => by
  rw [pickF]
  simp only
  split
  ·exact ⟨ini_nonneg g j, (g.pI.get j).2⟩
  ·exact ⟨Rat.le_refl, by decide⟩
 | n + 1, hn => by
  rw [pickF]
  split
  ·have h0 : o.t ≠ 0 := fun e => by rw [(k.zero e).1] at hn; exact absurd hn (Nat.not_succ_le_zero n)
   have hs := k.share h0 (j := n) (by rw [← (k.len h0).1]; omega)
   exact ⟨Rat.mul_nonneg hs.1 (tr_nonneg g n j), mul_one9 hs.1 hs.2 ((g.pT n).get j).2⟩
  ·exact pick_one g k j n (by omega)
theorem newS_one (g : h.GoodW B) (k : ValC h o) (x j : Nat) : newS h o x j ≤ 1 := by
 have p := pick_one g k j _ (Nat.le_refl _)
 exact mul_one9 p.1 p.2 ((g.pM j).get x).2
theorem newS_nonneg (g : h.GoodW B) (k : ValC h o) (x j : Nat) : 0 ≤ newS h o x j := Rat.mul_nonneg (pick_one g k j _ (Nat.le_refl _)).1 (em_nonneg g j x)
theorem heads_stepV (g : h.GoodW B) (k : ValC h o) : HeadsV h (o.t + 1) (newS h o x) fun j => o.dn ++ newT h o x j := by
 refine ⟨fun j _ => newS_nonneg g k x j, fun j hj hpos => ?_⟩
 have hpk : 0 < (pickF h o j o.sc.length).1 := (pos_of_mul (pick_one g k j _ (Nat.le_refl _)).1 (em_nonneg g j x) hpos).1
 by_cases h0 : o.t = 0
 ·obtain ⟨e1, e2, e3⟩ := k.zero h0
  have hT : newT h o x j = [(j : Int)] := by rw [newT, if_pos hpos, e1, List.length_nil, pickF]; rfl
  try simp only
  rw [hT, e3, List.nil_append, h0]
  exact ⟨by have := paths_snoc (n := h.st) (k := 0) (p := []) (by rw [pathsF]; exact List.mem_singleton.2 rfl) hj; exact this, Int.toNat_natCast j, trivial⟩
 ·obtain ⟨l1, l2⟩ := k.len h0
  have hd := k.heads h0
  obtain ⟨i, hi, em⟩ := (pick_spec (h := h) h0 j o.sc.length).pos hpk
  rw [l1] at hi
  rw [em] at hpk
  obtain ⟨hq1, _⟩ := pos_of_mul (hd.nonneg i hi) (tr_nonneg g i j) hpk
  obtain ⟨a1, a2, _⟩ := hd.live i hi hq1
  have hT : newT h o x j = o.tl.getD i [] ++ [(j : Int)] := by rw [newT, if_pos hpos, em]
  try simp only
  rw [hT, ← List.append_assoc]
  exact ⟨paths_snoc a1 hj, by rw [show o.t + 1 - 1 = o.t from rfl]; exact snoc_parts a1, trivial⟩
theorem newS_szV (f : HM.FormX 1048576 B h) (k : ValD K h o) (x j : Nat) : (∀ n, sz (pickF h o j n).1 ≤ K + 1048576) ∧ sz (newS h o x j) ≤ K + 2097152 := by
 have h1 : ∀ n, sz (pickF h o j n).1 ≤ K + 1048576 := fun n => by
  induction n with
  | zero =>
   rw [pickF]
   have := ini_szV f j
   simp only
   split
   ·omega
   ·have := k.K1; rw [sz_zero]; omega
  | succ n ih =>
   rw [pickF]
   split
   ·have a := k.small.get k.K1.1 n
    have b := tr_szV f n j
    have c := sz_mul (o.sc.getD n 0) (trQ h n j)
    simp only [comeQ]
    omega
   ·exact ih
 refine ⟨h1, ?_⟩
 have a := h1 o.sc.length
 have b := em_szV f j x
 have c := sz_mul (pickF h o j o.sc.length).1 (emQ h j x)
 rw [newS]
 omega
theorem step_val (g : h.GoodW 1048576) (k : ValD K h o) (ht : o.t ≤ 255) (hK : K + 2097152 ≤ 1073741824) (hs : ∃ j, j < h.st ∧ 0 < newS h o x j) : ValD (K + 2097152) h (stepD h o x) := by
 have hd := heads_stepV (x := x) g k.toValC
 have hsc : ∀ j, j < h.st → (stepD h o x).sc.getD j 0 = newS h o x j := fun j hj => map_getD_range _ _ hj
 have htl : ∀ j, j < h.st → (stepD h o x).tl.getD j [] = (newT h o x j).drop (keepK h o x) := fun j hj => map_getD_range (fun j => (newT h o x j).drop (keepK h o x)) _ hj
 have hwh : ∀ j, j < h.st → 0 < newS h o x j → (stepD h o x).dn ++ (stepD h o x).tl.getD j [] = o.dn ++ newT h o x j := fun j hj hp => by
  rw [htl j hj, show (stepD h o x).dn = o.dn ++ cmtF h o x h.st from rfl, cmt_take (Nat.le_refl _) hs j hj hp, List.append_assoc, List.take_append_drop]
 refine ⟨⟨by show o.t + 1 ≤ 256; omega, fun e => absurd e (Nat.succ_ne_zero _), fun _ => ⟨by show ((List.range h.st).map _).length = _; simp, by show ((List.range h.st).map _).length = _; simp⟩, fun _ => ⟨fun j hj => ?_, fun j hj hp => ?_⟩, fun j => ?_, fun j hj => ?_, fun _ => ?_, fun _ => ?_⟩, ⟨by omega, hK⟩, fun q hq => ?_⟩
 ·try simp only
  rw [hsc j hj]; exact hd.nonneg j hj
 ·try simp only at hp ⊢
  rw [hsc j hj] at hp
  rw [hwh j hj hp]
  exact hd.live j hj hp
 ·rcases Nat.lt_or_ge j h.st with h1 | h1
  ·rw [hsc j h1]; exact newS_one g k.toValC x j
  ·rw [show (stepD h o x).sc.getD j 0 = 0 from getD_map_out (by omega)]; decide
 ·rcases Nat.lt_or_ge j h.st with h1 | h1
  ·rw [hsc j h1] at hj
   rw [htl j h1, newT, if_neg hj]; exact List.drop_nil
  ·exact getD_map_out (by omega)
 ·obtain ⟨j, hj, hp⟩ := hs
  exact ⟨j, hj, by rw [hsc j hj]; exact hp⟩
 ·have e : ∀ n, n ≤ h.st → comF (fun j => decide (0 < (stepD h o x).sc.getD j 0)) (fun j => (stepD h o x).tl.getD j []) n = comF (aliveN h o x) (fun j => (newT h o x j).drop (keepK h o x)) n := fun n => by
   induction n with
   | zero => intro _; rfl
   | succ n ih =>
    intro hn
    rw [comF, comF, ih (by omega), hsc n (by omega), htl n (by omega)]
    rfl
  rw [e _ (Nat.le_refl _)]
  obtain ⟨j, hj, hp⟩ := hs
  exact com_drop ⟨j, hj, decide_eq_true hp⟩
 ·obtain ⟨j, hj, rfl⟩ := List.mem_map.1 hq
  exact (newS_szV g.form k _ j).2
theorem val_open : ValD 1 h ⟨0, [], [], []⟩ := ⟨⟨Nat.zero_le _, fun _ => ⟨rfl, rfl, rfl⟩, fun e => absurd rfl e, fun e => absurd rfl e, fun j => (by show (0 : Rat) ≤ 1; decide), fun j _ => rfl, fun e => absurd rfl e, fun e => absurd rfl e⟩, by decide, fun q hq => by simp at hq⟩
theorem fin_szV (f : HM.FormX 1048576 B h) (k : ValD K h o) (n : Nat) : sz (finF h o n).1 ≤ K + 1048576 := by
 induction n with
 | zero =>
  rw [finF]
  have := f.zE
  have := f.bB
  simp only
  split
  ·omega
  ·have := k.K1; rw [sz_zero]; omega
 | succ n ih =>
  rw [finF]
  split
  ·have a := k.small.get k.K1.1 n
   have b := Nat.le_trans (f.zS.get f.b1 n) f.bB
   have c := sz_mul (o.sc.getD n 0) (h.stop.getD n 0)
   simp only [endQ]
   omega
  ·exact ih
end
structure RDec where
 m : RM
 t : Int
 sc : List Raw
 tl : List (List Int)
 dn : List Int
def decR (r : RDec) : Dec := ⟨r.t.toNat, r.sc.map Raw.q, r.tl, r.dn⟩
structure RDec.Sz (r : RDec) : Prop where
 m : r.m.Sz
 sc : MedL r.sc
 ls : r.sc.length ≤ 1048576
 lt : r.tl.length ≤ 1048576
 tl : ∀ i, (r.tl.getD i []).length ≤ 1048576
 ld : r.dn.length ≤ 1048576
structure VR (r : RDec) : Prop where
 p : chkP r.m = 0
 t0 : 0 ≤ r.t
 s : SharesR r.sc
 c : ValC (hm r.m) (decR r)
theorem VR.val {r : RDec} (v : VR r) (z : r.Sz) : ValD 1048576 (hm r.m) (decR r) := ⟨v.c, ⟨by decide, by decide⟩, MedL.small z.sc⟩
end Go.AL

/-
  M, part 53: the functions of chapter 34 on any input.
-/
import Derived.Test.YtjghehkgmanmbaaGreatKCwA
import Derived.Test.YtjghehkgmanmbaaGreatKMod52
import Derived.Test.YtjghehkgmanmbaaGreatKMod37
set_option linter.unusedVariables false
set_option linter.unusedSimpArgs false
namespace Go.AL
open Go Go.BigFrame
open Classical in
noncomputable def okQ {α : Type} (h : RM) (w : List Int) (d : α) (f : HM → α) : α := if wrdE h w = 0 then f (hm h) else d
section
variable {α : Type} {h : RM} {w : List Int} {d : α} {f : HM → α}
theorem okQ_0 (e : wrdE h w = 0) : okQ h w d f = f (hm h) := by unfold okQ; rw [if_pos e]
theorem okQ_e (e : ¬ wrdE h w = 0) : okQ h w d f = d := by unfold okQ; rw [if_neg e]
theorem okQ_ind {P : α → Prop} (h0 : P d) (h1 : wrdE h w = 0 → P (f (hm h))) : P (okQ h w d f) := by
 by_cases e : wrdE h w = 0
 ·rw [okQ_0 e]; exact h1 e
 ·rw [okQ_e e]; exact h0
end
noncomputable def fwA (h : RM) (w : List Int) : List (List Rat) := okQ h w [] fun m => (List.range w.length).map (fwdF m w)
noncomputable def bwA (h : RM) (w : List Int) : List (List Rat) := okQ h w [] fun m => colsB m w w.length
noncomputable def lkA (h : RM) (w : List Int) : Rat := okQ h w 0 fun m => likF m w
noncomputable def poA (h : RM) (w : List Int) : List (List Rat) := okQ h w [] fun m => postR m w
noncomputable def poE (h : RM) (w : List Int) : Int := okQ h w (wrdE h w) fun m => postE m w
noncomputable def xsA (h : RM) (w : List Int) : List Rat := okQ h w [] fun m => exS m w
noncomputable def xeA (h : RM) (w : List Int) : List Rat := okQ h w [] fun m => exE m w
noncomputable def xmA (h : RM) (w : List Int) : List (List Rat) := okQ h w [] fun m => exM m w
noncomputable def xoA (h : RM) (w : List Int) : List (List Rat) := okQ h w [] fun m => exO m w
def liteF (h : RM) : Bool := (decide (h.st ≤ 5) || decide (12 < h.st)) && decide ((h.ini.length : Int) ≤ 20) && decide ((h.trans.length : Int) ≤ 20) && decide ((h.emit.length : Int) ≤ 20) && (decide (h.sym ≤ 4) || decide (32 < h.sym))
def RowsOK (l : List (List Rat)) : Prop := l.length ≤ 256 ∧ ∀ i, Small 68719476736 (l.getD i []) ∧ (l.getD i []).length ≤ 256
def RowOK2 (l : List Rat) : Prop := Small 68719476736 l ∧ l.length ≤ 256
theorem RowOK2.nil : RowOK2 [] := ⟨fun q hq => (by cases hq), Nat.zero_le _⟩
theorem RowsOK.nil : RowsOK [] := ⟨Nat.zero_le _, fun i => by rw [show ([] : List (List Rat)).getD i [] = [] from rfl]; exact RowOK2.nil⟩
theorem RowsOK.mk' {l : List (List Rat)} (h : l.length ≤ 256) (k : ∀ x, x ∈ l → RowOK2 x) : RowsOK l := ⟨h, fun i => by
 rcases Nat.lt_or_ge i l.length with hi | hi
 ·exact k _ (getD_mem hi [])
 ·rw [List.getD_eq_getElem?_getD, List.getElem?_eq_none hi]; exact RowOK2.nil⟩
theorem RowOK2.map {n : Nat} {f : Nat → Rat} (hn : n ≤ 256) (k : ∀ i, sz (f i) ≤ 68719476736) : RowOK2 ((List.range n).map f) :=
 ⟨fun q hq => by obtain ⟨i, _, rfl⟩ := List.mem_map.1 hq; exact k i, by simpa using hn⟩
theorem RowOK2.of {l : List Rat} {n : Nat} (hl : l.length = n) (hn : n ≤ 256) (k : ∀ i, sz (l.getD i 0) ≤ 68719476736) : RowOK2 l :=
 ⟨fun q hq => by obtain ⟨i, hi, rfl⟩ := mem_ix 0 hq; exact k i, by omega⟩
theorem RowOK2.zeros {n : Nat} (hn : n ≤ 256) : RowOK2 (List.replicate n 0) := ⟨fun q hq => by rw [(List.mem_replicate.1 hq).2, sz_zero]; decide, by simpa using hn⟩
structure ActsOK (h : RM) (w : List Int) : Prop where
 fw : RowsOK (fwA h w)
 bw : RowsOK (bwA h w)
 lk : sz (lkA h w) ≤ 68719476736
 po : RowsOK (poA h w)
 xs : RowOK2 (xsA h w)
 xe : RowOK2 (xeA h w)
 xm : RowsOK (xmA h w)
 xo : RowsOK (xoA h w)
theorem actsOK {h : RM} {w : List Int} (z : h.Sz) (xz : wrdE h w = 0 → ExSz (hm h) w) : ActsOK h w := by
 have key : wrdE h w = 0 → (hm h).GoodW 1048576 ∧ w.length ≤ 256 ∧ ExSz (hm h) w := fun e => by
  obtain ⟨cp, k⟩ := wrdE_ok e
  exact ⟨(chkP_good z cp).1, k.1, xz e⟩
 have post : ∀ (m : HM) (t : Nat), m.GoodW 1048576 → ExSz m w → t < w.length → RowOK2 (postF m w t) := fun m t g x ht => .map (by have := g.form.st1; omega) fun i => x.post t i ht
 refine ⟨okQ_ind .nil fun e => ?_, okQ_ind .nil fun e => ?_, okQ_ind (P := fun x => sz x ≤ 68719476736) (by rw [sz_zero]; decide) fun e => ?_, okQ_ind .nil fun e => ?_, okQ_ind .nil fun e => ?_, okQ_ind .nil fun e => ?_, okQ_ind .nil fun e => ?_, okQ_ind .nil fun e => ?_⟩ <;> obtain ⟨g, kl, x⟩ := key e <;> have n1 := g.form.st1 <;> have s1 := g.form.sym1
 ·refine .mk' (by simpa using kl) fun r hr => ?_
  obtain ⟨t, ht, rfl⟩ := List.mem_map.1 hr
  exact .of (fwdF_len ..) (by omega) fun i => x.s.fwd t (List.mem_range.1 ht) i
 ·refine .mk' (by rw [colsB_len]; exact kl) fun r hr => ?_
  obtain ⟨t, ht, rfl⟩ := List.mem_map.1 hr
  have := List.mem_range.1 ht
  rw [if_pos (by omega)]
  exact .of (bwdF_len ..) (by omega) fun i => x.bwd _ i (by omega)
 ·exact x.lk
 ·unfold postR
  split
  ·exact .nil
  ·refine .mk' (by simpa using kl) fun r hr => ?_
   obtain ⟨t, ht, rfl⟩ := List.mem_map.1 hr
   exact post _ t g x (List.mem_range.1 ht)
 ·unfold exS
  split
  ·exact .nil
  ·split
   ·exact .zeros (by omega)
   ·exact post _ 0 g x (by omega)
 ·unfold exE
  split
  ·exact .nil
  ·split
   ·exact .zeros (by omega)
   ·exact post _ _ g x (by omega)
 ·unfold exM
  split
  ·exact .nil
  ·refine .mk' (by simp; omega) fun r hr => ?_
   obtain ⟨i, _, rfl⟩ := List.mem_map.1 hr
   by_cases hw : w.length = 0
   ·rw [show w.length - 1 = 0 by omega, moveRow_zero]; exact .zeros (by omega)
   ·exact .map (by omega) fun j => x.move _ i j (by omega)
 ·unfold exO
  split
  ·exact .nil
  ·refine .mk' (by simp; omega) fun r hr => ?_
   obtain ⟨i, _, rfl⟩ := List.mem_map.1 hr
   exact .map (by omega) fun y => x.show_ _ i y (Nat.le_refl _)
theorem liteF_ex {h : RM} {w : List Int} (z : h.Sz) (l : liteF h = true) (hw : w.length ≤ 6 ∨ 256 < w.length) : wrdE h w = 0 → ExSz (hm h) w := fun e => by
 obtain ⟨cp, k⟩ := wrdE_ok e
 have k1 := k.1
 obtain ⟨g, _⟩ := chkP_good z cp
 have hE : chkE h = 0 := by
  classical
  unfold chkP at cp
  split at cp
  ·rename_i h1; exact absurd cp h1
  ·rename_i h1; exact Classical.byContradiction h1
 obtain ⟨⟨⟨g1, g2⟩, g3, g4⟩, _⟩ := chkE_form (h := h) (by rw [hE]; exact ⟨by decide, by decide⟩)
 unfold liteF at l
 simp only [Bool.and_eq_true, Bool.or_eq_true, decide_eq_true_eq] at l
 exact exSz g (by show h.st.toNat ≤ 5; omega) (by show h.sym.toNat ≤ 4; omega) (by omega)
end Go.AL

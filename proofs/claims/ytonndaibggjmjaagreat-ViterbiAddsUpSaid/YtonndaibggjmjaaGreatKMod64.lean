/-
  M, chapter 35: the search of List, with its heap of beginnings.
-/
import Derived.Test.YtonndaibggjmjaaGreatKMod63
set_option linter.unusedVariables false
set_option linter.unusedSimpArgs false
namespace Go.AL
open Go Go.BigFrame
section
variable {h : HM} {bb B : Nat} {w : List Int} {ps l : List Prt} {O : List (List Int)} {x : Prt}
def wtP (st n : Nat) (ps : List Prt) : Nat := (ps.map fun p => (st + 1) ^ (n - p.path.length)).sum
theorem wt_perm {st n : Nat} (e : l.Perm ps) : wtP st n l = wtP st n ps := (e.map _).sum_nat
theorem wt_cons {st n : Nat} : wtP st n (x :: l) = (st + 1) ^ (n - x.path.length) + wtP st n l := by simp [wtP]
theorem wt_app {st n : Nat} : wtP st n (ps ++ l) = wtP st n ps + wtP st n l := by simp [wtP]
theorem wt_len {st n : Nat} : ∀ ps : List Prt, ps.length ≤ wtP st n ps
 | [] => Nat.zero_le _
 | p :: r => by
  rw [wt_cons, List.length_cons]
  have := wt_len (st := st) (n := n) r
  have := Nat.pow_pos (n := n - p.path.length) (show 0 < st + 1 by omega)
  omega
theorem wt_same {st n k : Nat} : ∀ ps : List Prt, (∀ p, p ∈ ps → p.path.length = k) → wtP st n ps = ps.length * (st + 1) ^ (n - k)
 | [], _ => by simp [wtP]
 | p :: r, hk => by
  rw [wt_cons, wt_same r fun q hq => hk q (List.mem_cons_of_mem _ hq), hk p (List.mem_cons_self ..), List.length_cons, Nat.add_mul, Nat.one_mul, Nat.add_comm]
theorem wt_kids {st : Nat} {bst : List Int → Rat} {p : List Int} (hp : p.length < w.length) : wtP st w.length ((kidsP st bst p).map (prtL h w)) < (st + 1) ^ (w.length - p.length) := by
 rw [wt_same (k := p.length + 1) _ fun q hq => by
  obtain ⟨z, hz, rfl⟩ := List.mem_map.1 hq
  obtain ⟨⟨i, _, rfl⟩, _⟩ := kids_mem.1 hz
  show (p ++ [(i : Int)]).length = _
  rw [List.length_append]; rfl, List.length_map]
 have h1 : (kidsP st bst p).length ≤ st := by
  refine Nat.le_trans (List.length_filter_le ..) ?_
  rw [List.length_map, List.length_range]; exact Nat.le_refl _
 obtain ⟨d, hd⟩ : ∃ d, w.length - p.length = d + 1 := ⟨w.length - p.length - 1, by omega⟩
 rw [hd, show w.length - (p.length + 1) = d by omega, Nat.pow_succ, Nat.mul_comm]
 refine Nat.lt_of_le_of_lt (Nat.mul_le_mul_left _ h1) ?_
 exact Nat.mul_lt_mul_of_pos_left (Nat.lt_succ_self _) (Nat.pow_pos (by omega))
structure JInv (h : HM) (w : List Int) (ps : List Prt) (O : List (List Int)) : Prop where
 s : SInv h.st w.length (bstL h w) (ps.map (·.path)) O
 own : ∀ p, p ∈ ps → p = prtL h w p.path
theorem bstL_hk (g : HM.GoodX bb B h) : ∀ (p : List Int) (s : Int), p.length < w.length → (∀ x, x ∈ p → 0 ≤ x ∧ x < (h.st : Int)) → 0 ≤ s → s < (h.st : Int) → bstL h w (p ++ [s]) ≤ bstL h w p := fun p s a b c d => bst_child g p s a b c d
theorem JInv.start (g : HM.GoodX bb B h) (hn : 0 < w.length) (hp : l.Perm ((kidsP h.st (bstL h w) []).map (prtL h w) ++ [])) : JInv h w l [] := by
 rw [List.append_nil] at hp
 have hown : ∀ p, p ∈ l → p = prtL h w p.path := fun p hq => by
  obtain ⟨z, _, rfl⟩ := List.mem_map.1 (hp.mem_iff.1 hq)
  rfl
 have hm : (l.map (·.path)).Perm (kidsP h.st (bstL h w) []) := by
  have := hp.map (·.path)
  rw [List.map_map] at this
  rwa [show ((fun x : Prt => x.path) ∘ prtL h w) = id from rfl, List.map_id] at this
 refine ⟨?_, hown⟩
 by_cases h0 : 0 < bstL h w []
 ·have := (SInv.start (st := h.st) (n := w.length) h0).grow (bstL_hk g) (by simpa using hn)
  rw [List.append_nil] at this
  exact this.perm hm.symm
 ·have hz : ∀ c, IsP h.st w.length c → ¬ 0 < bstL h w c := fun c hc e => by
   have := bst_mono (bstL_hk (w := w) g) c [] (by rw [List.nil_append, hc.1]; exact Nat.le_refl _) (by rw [List.nil_append]; exact hc.2)
   rw [List.nil_append] at this
   exact h0 (Std.lt_of_lt_of_le e this)
  have hk : kidsP h.st (bstL h w) [] = [] := by
   refine List.eq_nil_iff_forall_not_mem.2 fun p hp => ?_
   obtain ⟨⟨i, hi, rfl⟩, hpos⟩ := kids_mem.1 hp
   have := bstL_hk (w := w) g [] (i : Int) hn (fun x hx => by cases hx) (by omega) (by omega)
   exact h0 (Std.lt_of_lt_of_le hpos this)
  rw [hk] at hm
  rw [hm.eq_nil]
  exact ⟨fun p hp => (by cases hp), fun c hc hpc => absurd hpc (hz c hc), List.Pairwise.nil, fun o ho => (by cases ho), List.Pairwise.nil, fun o ho => (by cases ho)⟩
theorem JInv.pop (j : JInv h w ps O) (hx : x = ps.getD 0 ⟨0, 0, []⟩) (hn : 0 < ps.length) (hp : (x :: l).Perm ps) (hh : HeapN ltP ⟨0, 0, []⟩ ps.length ps) :
  SInv h.st w.length (bstL h w) (x.path :: l.map (·.path)) O ∧ (∀ p, p ∈ x :: l → p = prtL h w p.path) ∧ ∀ p, p ∈ l.map (·.path) → ¬ bfQ (bstL h w) p x.path := by
 have hown : ∀ p, p ∈ x :: l → p = prtL h w p.path := fun p hq => j.own p (hp.mem_iff.1 hq)
 refine ⟨j.s.perm (hp.map (·.path)).symm, hown, fun p hq => ?_⟩
 obtain ⟨y, hy, rfl⟩ := List.mem_map.1 hq
 have hy2 : y ∈ ps := hp.mem_iff.1 (List.mem_cons_of_mem _ hy)
 obtain ⟨k, hk, e⟩ := List.mem_iff_getElem.1 hy2
 have hr := heap_root ltP_weak hh k hk
 rw [← hx, List.getD_eq_getElem?_getD, List.getElem?_eq_getElem hk, Option.getD_some, e, hown y (List.mem_cons_of_mem _ hy), hown x (List.mem_cons_self ..)] at hr
 exact hr
theorem JInv.emit (g : HM.GoodX bb B h) (j : JInv h w ps O) (hx : x = ps.getD 0 ⟨0, 0, []⟩) (hn : 0 < ps.length) (hp : (x :: l).Perm ps) (hh : HeapN ltP ⟨0, 0, []⟩ ps.length ps) (hl : x.path.length = w.length) : JInv h w l (O ++ [x.path]) :=
 have ⟨a, b, c⟩ := j.pop hx hn hp hh
 ⟨a.emit (bstL_hk g) hl c, fun p hq => b p (List.mem_cons_of_mem _ hq)⟩
theorem JInv.grow (g : HM.GoodX bb B h) {l2 : List Prt} (j : JInv h w ps O) (hx : x = ps.getD 0 ⟨0, 0, []⟩) (hn : 0 < ps.length) (hp : (x :: l).Perm ps) (hh : HeapN ltP ⟨0, 0, []⟩ ps.length ps) (hl : x.path.length < w.length)
  (hp2 : l2.Perm ((kidsP h.st (bstL h w) x.path).map (prtL h w) ++ l)) : JInv h w l2 O := by
 obtain ⟨a, b, _⟩ := j.pop hx hn hp hh
 have a2 := a.grow (bstL_hk g) hl
 have hm : (l2.map (·.path)).Perm (kidsP h.st (bstL h w) x.path ++ l.map (·.path)) := by
  have := hp2.map (·.path)
  rw [List.map_append, List.map_map] at this
  rwa [show ((fun x : Prt => x.path) ∘ prtL h w) = id from rfl, List.map_id] at this
 refine ⟨a2.perm hm.symm, fun p hq => ?_⟩
 rcases List.mem_append.1 (hp2.mem_iff.1 hq) with hq | hq
 ·obtain ⟨z, _, rfl⟩ := List.mem_map.1 hq; rfl
 ·exact b p (List.mem_cons_of_mem _ hq)
structure Ranked35 (h : HM) (w : List Int) (R : List (List Int)) : Prop where
 sorted : R.Pairwise (bfQ (jointE h w))
 all : ∀ c, c ∈ R ↔ IsP h.st w.length c ∧ 0 < jointE h w c
theorem Ranked35.bst {R : List (List Int)} (r : Ranked35 h w R) (hn : 0 < w.length) : R.Pairwise (bfQ (bstL h w)) ∧ ∀ c, c ∈ R ↔ IsP h.st w.length c ∧ 0 < bstL h w c := by
 have e : ∀ c, IsP h.st w.length c → bstL h w c = jointE h w c := fun c hc => bst_whole (paths_in hc.1 hc.2) hn
 refine ⟨r.sorted.imp_of_mem fun {a b} ha hb k => ?_, fun c => (r.all c).trans ⟨fun k => ⟨k.1, by rw [e c k.1]; exact k.2⟩, fun k => ⟨k.1, by rw [← e c k.1]; exact k.2⟩⟩⟩
 have ea := e a ((r.all a).1 ha).1
 have eb := e b ((r.all b).1 hb).1
 unfold bfQ at *
 rw [ea, eb]; exact k
theorem JInv.fin {R : List (List Int)} (j : JInv h w ps O) (r : Ranked35 h w R) (hn : 0 < w.length) {k : Nat} (hk : O.length ≤ k) (he : ps.length = 0 ∨ k ≤ O.length) : O = R.take k := by
 obtain ⟨a, b⟩ := r.bst hn
 rcases he with he | he
 ·have : ps = [] := List.eq_nil_of_length_eq_zero he
  subst this
  have := SInv.whole j.s a b
  rw [this, List.take_of_length_le (by rw [← this]; exact hk)]
 ·have := j.s.front a b
  rw [show O.length = k by omega] at this
  exact this
theorem JInv.vals (j : JInv h w ps O) (hn : 0 < w.length) : O.map (bstL h w) = O.map (jointE h w) :=
 List.map_congr_left fun c hc => bst_whole (paths_in (j.s.oks c hc).1.1 (j.s.oks c hc).1.2) hn
end
end Go.AL

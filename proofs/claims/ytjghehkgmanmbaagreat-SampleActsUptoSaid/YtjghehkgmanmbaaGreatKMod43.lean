/-
  M, part 43: good models pass the checks; sizes of what drawings of any model hand back.
-/
import Derived.Test.YtjghehkgmanmbaaGreatKMod42
set_option linter.unusedVariables false
set_option linter.unusedSimpArgs false
namespace Go.AL
open Go Go.BigFrame
theorem HM.GoodX.wide {h : HM} {B : Nat} (g : h.Good B) : h.GoodW 1048576 := by
 have f := g.form
 have hB : B ≤ 1048576 := Nat.le_trans f.bB (by decide)
 exact ⟨⟨f.sym0, f.sym1, f.st0, f.st1, f.ini, f.trans, f.trow, f.stop, f.emit, f.erow, f.silent, f.ties, f.tie, by decide, by decide, Nat.le_trans f.zE hB, f.zI.mono hB, f.zS.mono hB, fun i => (f.zT i).mono hB, fun i => (f.zM i).mono hB⟩, g.pE, g.pI, g.pS, g.pT, g.pM, g.sI, g.sT, g.sM, g.tied⟩
theorem hm_rmOf (h : HM) : hm (rmOf h) = h := by
 have e : ∀ l : List Rat, (l.map ofQ).map Raw.q = l := fun l => by
  rw [List.map_map]
  conv => rhs; rw [← List.map_id l]
  exact List.map_congr_left fun q _ => q_ofQ q
 have e2 : ∀ l : List (List Rat), (l.map (List.map ofQ)).map (List.map Raw.q) = l := fun l => by
  rw [List.map_map]
  conv => rhs; rw [← List.map_id l]
  exact List.map_congr_left fun q _ => e q
 unfold hm rmOf
 rw [e, e, e2, e2, q_ofQ, Int.toNat_natCast, Int.toNat_natCast]
theorem shareR_of {q : Rat} (h : Share q) : shareR (ofQ q) = true := by
 unfold shareR; rw [ofQ_good, q_ofQ, decide_eq_true h]; rfl
theorem SharesR.of {l : List Rat} (h : Shares l) : SharesR (l.map ofQ) := fun r hr => by
 obtain ⟨q, hq, rfl⟩ := List.mem_map.1 hr
 exact shareR_of (h q hq)
theorem getD_mapm (l : List (List Rat)) (i : Nat) : (l.map (List.map ofQ)).getD i [] = (l.getD i []).map ofQ := getD_map0 (List.map ofQ) l i []
theorem good_chkP {h : HM} (g : h.GoodW 1048576) : chkP (rmOf h) = 0 := by
 have f := g.form
 have hsi : ∀ i, h.silent.getD i false = false := fun i => f.sil i
 have rng : (rmOf h).Rng := ⟨⟨by show (1 : Int) ≤ (h.sym : Int); have := f.sym0; omega, by show (h.sym : Int) ≤ 32; have := f.sym1; omega⟩, by show (1 : Int) ≤ (h.st : Int); have := f.st0; omega, by show (h.st : Int) ≤ 12; have := f.st1; omega⟩
 have fm : (rmOf h).Fm := {
  li := by show (((h.ini.map ofQ).length : Nat) : Int) = (h.st : Int); rw [List.length_map, f.ini]
  ls := by show (((h.stop.map ofQ).length : Nat) : Int) = (h.st : Int); rw [List.length_map, f.stop]
  ll := by show ((h.silent.length : Nat) : Int) = (h.st : Int); rw [f.sill]
  lk := by show ((h.ties.length : Nat) : Int) = (h.st : Int); rw [f.ties]
  lt := by show (((h.trans.map (List.map ofQ)).length : Nat) : Int) = (h.st : Int); rw [List.length_map, f.trans]
  lm := by show (((h.emit.map (List.map ofQ)).length : Nat) : Int) = (h.st : Int); rw [List.length_map, f.emit]
  e := shareR_of g.pE
  i := .of g.pI
  s := .of g.pS
  row := fun i hi => by
   have hi2 : i < h.st := by have : (i : Int) < (h.st : Int) := hi; omega
   have hT : (rmOf h).trans.getD i [] = (h.trans.getD i []).map ofQ := getD_mapm h.trans i
   have hE : (rmOf h).emit.getD i [] = (h.emit.getD i []).map ofQ := getD_mapm h.emit i
   rw [hT, hE, List.length_map, List.length_map, f.trow i hi2, f.erow i hi2]
   refine ⟨rfl, ?_, .of (g.pT i), .of (g.pM i), f.tie i hi2⟩
   show ((h.sym : Nat) : Int) = if h.silent.getD i false = true then 0 else (h.sym : Int)
   rw [hsi i]; rfl }
 have sums : h.Sums := ⟨g.sI, g.sT, fun i hi _ => g.sM i hi⟩
 have rk : h.Ranked := ⟨fun _ => 0, fun i j _ _ si => by rw [hsi i] at si; cases si⟩
 have td : h.Tied := fun i j hi hj _ _ e => g.tied i j hi hj e
 have e : chkE (rmOf h) = 0 := by
  unfold chkE
  rw [if_neg (fun n => n rng), if_neg (fun n => n fm), hm_rmOf]
  unfold chkM
  rw [if_neg (fun n => n sums), if_neg (fun n => n rk), if_neg (fun n => n td)]
 unfold chkP
 rw [if_neg (fun n => n e)]
 have : (h.silent.any fun b => b) = false := List.any_eq_false.2 fun b hb => by
  rw [f.silent] at hb
  rw [(List.mem_replicate.1 hb).2]; decide
 show (if (h.silent.any fun b => b) = true then (4 : Int) else 0) = 0
 rw [this]; rfl
theorem med_ofQ {q : Rat} (h : sz q ≤ 1048576) : (Go.AL.ofQ q).Med := by
 have k := ofQ_ok (q := q) (by omega)
 exact ⟨k.num, k.den, Nat.le_trans (sz_num q) h, Nat.le_trans (ofQ_den_len q) h⟩
theorem good_sz {h : HM} (g : h.GoodW 1048576) : (rmOf h).Sz := by
 have f := g.form
 have m : ∀ {l : List Rat}, Small 1048576 l → MedL (l.map ofQ) := fun hs r hr => by
  obtain ⟨q, hq, rfl⟩ := List.mem_map.1 hr
  exact med_ofQ (hs q hq)
 have h1 := f.st1; have h2 := f.sym1
 have e1 := f.ini; have e2 := f.stop; have e3 := f.trans; have e4 := f.emit; have e5 := f.sill; have e6 := f.ties
 have mT : ∀ x, x ∈ (rmOf h).trans → MedL x ∧ x.length ≤ 1048576 := fun x hx => by
  obtain ⟨l, hl, rfl⟩ := List.mem_map.1 hx
  obtain ⟨i, hi, rfl⟩ := mem_ix [] hl
  exact ⟨m (f.zT i), by rw [List.length_map, f.trow i (by omega)]; omega⟩
 have mE : ∀ x, x ∈ (rmOf h).emit → MedL x ∧ x.length ≤ 1048576 := fun x hx => by
  obtain ⟨l, hl, rfl⟩ := List.mem_map.1 hx
  obtain ⟨i, hi, rfl⟩ := mem_ix [] hl
  exact ⟨m (f.zM i), by rw [List.length_map, f.erow i (by omega)]; omega⟩
 exact ⟨med_ofQ f.zE, m f.zI, m f.zS, fun x hx => (mT x hx).1, fun x hx => (mE x hx).1, by show (h.ini.map ofQ).length ≤ _; rw [List.length_map]; omega, by show (h.stop.map ofQ).length ≤ _; rw [List.length_map]; omega,
  by show (h.trans.map _).length ≤ _; rw [List.length_map]; omega, by show (h.emit.map _).length ≤ _; rw [List.length_map]; omega, fun x hx => (mT x hx).2, fun x hx => (mE x hx).2, by show h.silent.length ≤ _; omega, by show h.ties.length ≤ _; omega⟩
def liteB (h : RM) : Bool := (decide (h.st ≤ 4) || decide (12 < h.st)) && decide ((h.ini.length : Int) ≤ 20) && decide ((h.trans.length : Int) ≤ 20) && decide ((h.emit.length : Int) ≤ 20) && (decide (h.sym ≤ 4) || decide (32 < h.sym))
theorem liteB_t {h : RM} (e : liteB h = true) : h.Lite := fun c => by
 have hE : chkE h = 0 := by
  classical
  unfold chkP at c
  split at c
  ·rename_i h1; exact absurd c h1
  ·rename_i h1; exact Classical.byContradiction h1
 obtain ⟨⟨⟨g1, g2⟩, g3, g4⟩, _⟩ := chkE_form (h := h) (by rw [hE]; exact ⟨by decide, by decide⟩)
 unfold liteB at e
 simp only [Bool.and_eq_true, Bool.or_eq_true, decide_eq_true_eq] at e
 omega
theorem rangeR_sz {h : RM} (z : h.Sz) (l : h.Lite) (st w : List Int) : sz (rangeR h st w).2.1 ≤ 22355840001 ∧ sz (rangeR h st w).2.2 ≤ 22355840001 := by
 by_cases c : chkP h = 0
 ·by_cases k : RunOK (hm h) st w
  ·rw [rangeR_0 c k]
   obtain ⟨g, _⟩ := chkP_good z c
   have r := range_okW g (hm h).den k
   have hw := k.2.1
   obtain ⟨a, _, b⟩ := r.szs (hm h).den.ne (l.ll z c) (by omega)
   exact ⟨a, b⟩
  ·rw [rangeR_1 c k]; exact ⟨by show sz 0 ≤ _; rw [sz_zero]; decide, by show sz 0 ≤ _; rw [sz_zero]; decide⟩
 ·rw [rangeR_e c]; exact ⟨by show sz 0 ≤ _; rw [sz_zero]; decide, by show sz 0 ≤ _; rw [sz_zero]; decide⟩
theorem drawR_len {h : RM} (z : h.Sz) (bits : List Int) : (drS (drawR h bits)).length ≤ 256 ∧ (drW (drawR h bits)).length ≤ 256 := by
 by_cases c : chkP h = 0
 ·by_cases k : BitsOK bits
  ·rw [drawR_0 c k]
   obtain ⟨g, _⟩ := chkP_good z c
   cases hd : draw (hm h) bits with
   | err e => exact ⟨Nat.zero_le _, Nat.zero_le _⟩
   | run st w u =>
    have r := draw_ok g.form hd
    exact ⟨by show st.length ≤ 256; rw [r.1]; exact r.2.1, r.2.1⟩
  ·rw [drawR_1 c k]; exact ⟨Nat.zero_le _, Nat.zero_le _⟩
 ·rw [drawR_e c]; exact ⟨Nat.zero_le _, Nat.zero_le _⟩
theorem allR_len {h : RM} (z : h.Sz) (n : Int) : (allR h n).2.length ≤ 1024 ∧ ∀ i, i < (allR h n).2.length → ((allR h n).2.getD i dr0).st.length ≤ 256 ∧ ((allR h n).2.getD i dr0).w.length ≤ 256 := by
 by_cases c : chkP h = 0
 ·by_cases k : n < 0 ∨ 10 < n
  ·rw [allR_1 c k]; exact ⟨Nat.zero_le _, fun i hi => absurd hi (Nat.not_lt_zero i)⟩
  ·rw [allR_0 c k]
   obtain ⟨g, _⟩ := chkP_good z c
   have hp : 2 ^ n.toNat ≤ 2 ^ 10 := Nat.pow_le_pow_right (by decide) (by omega)
   refine ⟨Nat.le_trans (allF_len _ _ _) hp, fun i hi => ?_⟩
   have r := (allF_okW (b := n.toNat) g.form (2 ^ n.toNat)).ok i hi
   exact ⟨by rw [r.1]; exact r.2.1, r.2.1⟩
 ·rw [allR_e c]; exact ⟨Nat.zero_le _, fun i hi => absurd hi (Nat.not_lt_zero i)⟩
end Go.AL

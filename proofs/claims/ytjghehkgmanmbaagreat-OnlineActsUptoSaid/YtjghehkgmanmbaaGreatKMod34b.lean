/-
  M, chapter 34, part 2: expected numbers.
-/
import Derived.Test.YtjghehkgmanmbaaGreatKMod42
import Derived.Test.YtjghehkgmanmbaaGreatKMod40e
import Derived.Test.YtjghehkgmanmbaaGreatKSaB
set_option linter.unusedVariables false
set_option linter.unusedSimpArgs false
namespace Go.AL
open Go Go.BigFrame
theorem HM.GoodX.wide {h : HM} {B : Nat} (g : h.Good B) : h.GoodW 1048576 := by
 have f := g.form
 have hB : B ≤ 1048576 := Nat.le_trans f.bB (by decide)
 exact ⟨⟨f.sym0, f.sym1, f.st0, f.st1, f.ini, f.trans, f.trow, f.stop, f.emit, f.erow, f.silent, f.ties, f.tie, by decide, by decide, Nat.le_trans f.zE hB, f.zI.mono hB, f.zS.mono hB, fun i => (f.zT i).mono hB, fun i => (f.zM i).mono hB⟩, g.pE, g.pI, g.pS, g.pT, g.pM, g.sI, g.sT, g.sM, g.tied⟩
theorem hm_rmOf (h : HM) : hm (rmOf h) = h := by
 have e : ∀ l : List Rat, (l.map ofQ).map Raw.q = l := fun l => by
  rw [List.map_map]
  conv => rhs; rw [← List.map_id l]
  exact List.map_congr_left fun q _ => q_ofQ q
 have e2 : ∀ l : List (List Rat), (l.map (List.map ofQ)).map (List.map Raw.q) = l := fun l => by
  rw [List.map_map]
  conv => rhs; rw [← List.map_id l]
  exact List.map_congr_left fun q _ => e q
 unfold hm rmOf
 rw [e, e, e2, e2, q_ofQ, Int.toNat_natCast, Int.toNat_natCast]
theorem shareR_of {q : Rat} (h : Share q) : shareR (ofQ q) = true := by
 unfold shareR; rw [ofQ_good, q_ofQ, decide_eq_true h]; rfl
theorem SharesR.of {l : List Rat} (h : Shares l) : SharesR (l.map ofQ) := fun r hr => by
 obtain ⟨q, hq, rfl⟩ := List.mem_map.1 hr
 exact shareR_of (h q hq)
theorem getD_mapm (l : List (List Rat)) (i : Nat) : (l.map (List.map ofQ)).getD i [] = (l.getD i []).map ofQ := getD_map0 (List.map ofQ) l i []
theorem good_chkP {h : HM} (g : h.GoodW 1048576) : chkP (rmOf h) = 0 := by
 have f := g.form
 have hsi : ∀ i, h.silent.getD i false = false := fun i => f.sil i
 have rng : (rmOf h).Rng := ⟨⟨by show (1 : Int) ≤ (h.sym : Int); have := f.sym0; omega, by show (h.sym : Int) ≤ 32; have := f.sym1; omega⟩, by show (1 : Int) ≤ (h.st : Int); have := f.st0; omega, by show (h.st : Int) ≤ 12; have := f.st1; omega⟩
 have fm : (rmOf h).Fm := {
  li := by show (((h.ini.map ofQ).length : Nat) : Int) = (h.st : Int); rw [List.length_map, f.ini]
  ls := by show (((h.stop.map ofQ).length : Nat) : Int) = (h.st : Int); rw [List.length_map, f.stop]
  ll := by show ((h.silent.length : Nat) : Int) = (h.st : Int); rw [f.sill]
  lk := by show ((h.ties.length : Nat) : Int) = (h.st : Int); rw [f.ties]
  lt := by show (((h.trans.map (List.map ofQ)).length : Nat) : Int) = (h.st : Int); rw [List.length_map, f.trans]
  lm := by show (((h.emit.map (List.map ofQ)).length : Nat) : Int) = (h.st : Int); rw [List.length_map, f.emit]
  e := shareR_of g.pE
  i := .of g.pI
  s := .of g.pS
  row := fun i hi => by
   have hi2 : i < h.st := by have : (i : Int) < (h.st : Int) := hi; omega
   have hT : (rmOf h).trans.getD i [] = (h.trans.getD i []).map ofQ := getD_mapm h.trans i
   have hE : (rmOf h).emit.getD i [] = (h.emit.getD i []).map ofQ := getD_mapm h.emit i
   rw [hT, hE, List.length_map, List.length_map, f.trow i hi2, f.erow i hi2]
   refine ⟨rfl, ?_, .of (g.pT i), .of (g.pM i), f.tie i hi2⟩
   show ((h.sym : Nat) : Int) = if h.silent.getD i false = true then 0 else (h.sym : Int)
   rw [hsi i]; rfl }
 have sums : h.Sums := ⟨g.sI, g.sT, fun i hi _ => g.sM i hi⟩
 have rk : h.Ranked := ⟨fun _ => 0, fun i j _ _ si => by rw [hsi i] at si; cases si⟩
 have td : h.Tied := fun i j hi hj _ _ e => g.tied i j hi hj e
 have e : chkE (rmOf h) = 0 := by
  unfold chkE
  rw [if_neg (fun n => n rng), if_neg (fun n => n fm), hm_rmOf]
  unfold chkM
  rw [if_neg (fun n => n sums), if_neg (fun n => n rk), if_neg (fun n => n td)]
 unfold chkP
 rw [if_neg (fun n => n e)]
 have : (h.silent.any fun b => b) = false := List.any_eq_false.2 fun b hb => by
  rw [f.silent] at hb
  rw [(List.mem_replicate.1 hb).2]; decide
 show (if (h.silent.any fun b => b) = true then (4 : Int) else 0) = 0
 rw [this]; rfl
theorem med_ofQ {q : Rat} (h : sz q ≤ 1048576) : (Go.AL.ofQ q).Med := by
 have k := ofQ_ok (q := q) (by omega)
 exact ⟨k.num, k.den, Nat.le_trans (sz_num q) h, Nat.le_trans (ofQ_den_len q) h⟩
theorem good_sz {h : HM} (g : h.GoodW 1048576) : (rmOf h).Sz := by
 have f := g.form
 have m : ∀ {l : List Rat}, Small 1048576 l → MedL (l.map ofQ) := fun hs r hr => by
  obtain ⟨q, hq, rfl⟩ := List.mem_map.1 hr
  exact med_ofQ (hs q hq)
 have h1 := f.st1; have h2 := f.sym1
 have e1 := f.ini; have e2 := f.stop; have e3 := f.trans; have e4 := f.emit; have e5 := f.sill; have e6 := f.ties
 have mT : ∀ x, x ∈ (rmOf h).trans → MedL x ∧ x.length ≤ 1048576 := fun x hx => by
  obtain ⟨l, hl, rfl⟩ := List.mem_map.1 hx
  obtain ⟨i, hi, rfl⟩ := mem_ix [] hl
  exact ⟨m (f.zT i), by rw [List.length_map, f.trow i (by omega)]; omega⟩
 have mE : ∀ x, x ∈ (rmOf h).emit → MedL x ∧ x.length ≤ 1048576 := fun x hx => by
  obtain ⟨l, hl, rfl⟩ := List.mem_map.1 hx
  obtain ⟨i, hi, rfl⟩ := mem_ix [] hl
  exact ⟨m (f.zM i), by rw [List.length_map, f.erow i (by omega)]; omega⟩
 exact ⟨med_ofQ f.zE, m f.zI, m f.zS, fun x hx => (mT x hx).1, fun x hx => (mE x hx).1, by show (h.ini.map ofQ).length ≤ _; rw [List.length_map]; omega, by show (h.stop.map ofQ).length ≤ _; rw [List.length_map]; omega,
  by show (h.trans.map _).length ≤ _; rw [List.length_map]; omega, by show (h.emit.map _).length ≤ _; rw [List.length_map]; omega, fun x hx => (mT x hx).2, fun x hx => (mE x hx).2, by show h.silent.length ≤ _; omega, by show h.ties.length ≤ _; omega⟩
def liteB (h : RM) : Bool := (decide (h.st ≤ 4) || decide (12 < h.st)) && decide ((h.ini.length : Int) ≤ 20) && decide ((h.trans.length : Int) ≤ 20) && decide ((h.emit.length : Int) ≤ 20) && (decide (h.sym ≤ 4) || decide (32 < h.sym))
end Go.AL

set_option linter.unusedVariables false
set_option linter.unusedSimpArgs false
namespace Go.AL
open Go Go.BigFrame
open Classical in
noncomputable def wrdE (h : RM) (w : List Int) : Int := if ¬ chkP h = 0 then chkP h else if ¬ WordOK (hm h) w then 1 else 0
theorem wrdE_e {h : RM} {w : List Int} (e : ¬ chkP h = 0) : wrdE h w = chkP h := by unfold wrdE; rw [if_pos e]
theorem wrdE_1 {h : RM} {w : List Int} (e : chkP h = 0) (k : ¬ WordOK (hm h) w) : wrdE h w = 1 := by unfold wrdE; rw [if_neg (fun n => n e), if_pos k]
theorem wrdE_0 {h : RM} {w : List Int} (e : chkP h = 0) (k : WordOK (hm h) w) : wrdE h w = 0 := by unfold wrdE; rw [if_neg (fun n => n e), if_neg (fun n => n k)]
theorem wrdE_ok {h : RM} {w : List Int} (e : wrdE h w = 0) : chkP h = 0 ∧ WordOK (hm h) w := by
 by_cases c : chkP h = 0
 ·by_cases k : WordOK (hm h) w
  ·exact ⟨c, k⟩
  ·rw [wrdE_1 c k] at e; cases e
 ·rw [wrdE_e c] at e; exact absurd e c
def StoOK (n : Nat) (b : Int) : Prop := n ≤ 256 ∧ 1 ≤ b ∧ b ≤ 256
instance (n : Nat) (b : Int) : Decidable (StoOK n b) := inferInstanceAs (Decidable (_ ∧ _))
end Go.AL

set_option linter.unusedVariables false
set_option linter.unusedSimpArgs false
namespace Go.Proofs.YtjghehkgmanmbaaGreat
open Go Go.AL
theorem fresh_Rat {q : Rat} (hz : sz q ≤ 68719476736) : FSpec P F.fresh_Rat [vQ q] (vQ q) := by
 have s1 := sz_num q
 have s2 := sz_den q
 have l1 : (ofQ q).num.length ≤ 8796093022208 := by rw [show (ofQ q).num = lim q.num.natAbs from rfl]; omega
 have l2 : (ofQ q).den.length ≤ 8796093022208 := by by_cases e : q.den = 1 <;> simp [ofQ, e]; omega
 refine FSpec.intro fn.fresh_Rat (by rfl) (by rfl) (nb9 (by rfl)) fun E hE => (AW.sg hE rfl (bxA rfl rfl fun b1 => (al z.Rat rfl fun b2 => (OL.nil (AW.seq (AW.dg 1 [0,1,2,3,4,5,6,7,8,9] order_free hE rfl (by kernel_rfl) (OI.of_OL (os := [_,_,_,_,_,_,_,_,_,_]) rfl ?_)))))))
 refine faP fd.Rat_0 rfl rfl (ldPC ce.bool rfl rfl rfl (faP fd.Rat_1 rfl rfl (ldPC ce.u32s rfl rfl rfl (clv rfl .rq1 (clone_u32s l1) (faP fd.Rat_2 rfl rfl (ldPC ce.u32s rfl rfl rfl (clv rfl .rq1 (clone_u32s l2) ?_)))))))
 exact bd2 (cs := [_,_,_]) z.Rat pl.Rat (pvC (by exact evD rfl) (pvC (by exact evD rfl) (pvC (by exact evD rfl) (pvN)))) (by rfl) (sto sz.Rat rfl rfl rfl rfl rfl (nb9 rfl) (cells2 := [_,_,_]) rfl (OL.nil (AW.ret (RetQ.r ⟨_, .cellA rfl rfl ag.Rat (nb9 rfl) .nil, .ag (.cons (.le (VLe.refl _)) (.cons (.le (VLe.refl _)) (.cons (.le (VLe.refl _)) .nil)))⟩))))
end Go.Proofs.YtjghehkgmanmbaaGreat

set_option linter.unusedVariables false
set_option linter.unusedSimpArgs false
namespace Go.AL
open Go Go.BigFrame
def sumN (f : Nat → Rat) : Nat → Rat
 | 0 => 0
 | n + 1 => sumN f n + f n
def trQ (h : HM) (i j : Nat) : Rat := (h.trans.getD i []).getD j 0
def emQ (h : HM) (i x : Nat) : Rat := (h.emit.getD i []).getD x 0
def preF (h : HM) (w : List Int) (prev : List Rat) (t j : Nat) : Nat → Rat := sumN fun i => prev.getD i 0 * trQ h i j
def fwdF (h : HM) (w : List Int) : Nat → List Rat
 | 0 => (List.range h.st).map fun j => h.ini.getD j 0 * emQ h j (symX w 0)
 | t + 1 => (List.range h.st).map fun j => preF h w (fwdF h w t) t j h.st * emQ h j (symX w (t + 1))
def sufF (h : HM) (w : List Int) (next : List Rat) (t i : Nat) : Nat → Rat := sumN fun j => trQ h i j * (emQ h j (symX w (t + 1)) * next.getD j 0)
def bwdF (h : HM) (w : List Int) : Nat → List Rat
 | 0 => (List.range h.st).map fun i => h.stop.getD i 0
 | d + 1 => (List.range h.st).map fun i => sufF h w (bwdF h w d) (w.length - 1 - (d + 1)) i h.st
def likN (h : HM) (row : List Rat) : Nat → Rat := sumN fun i => row.getD i 0 * h.stop.getD i 0
def likF (h : HM) (w : List Int) : Rat := if w.length = 0 then h.empty else likN h (fwdF h w (w.length - 1)) h.st
def postQ (h : HM) (w : List Int) (t i : Nat) : Rat := (fwdF h w t).getD i 0 * (bwdF h w (w.length - 1 - t)).getD i 0 / likF h w
def postF (h : HM) (w : List Int) (t : Nat) : List Rat := (List.range h.st).map fun i => postQ h w t i
structure Few (h : HM) (w : List Int) : Prop where
 st : h.st ≤ 4
 len : w.length ≤ 6
structure FwdSz (h : HM) (w : List Int) : Prop where
 empty : sz h.empty ≤ 68719476736
 ini : ∀ i, sz (h.ini.getD i 0) ≤ 68719476736
 em : ∀ i x, sz (emQ h i x) ≤ 68719476736
 tr : ∀ i j, sz (trQ h i j) ≤ 68719476736
 stop : ∀ i, sz (h.stop.getD i 0) ≤ 68719476736
 fwd : ∀ t, t < w.length → ∀ i, sz ((fwdF h w t).getD i 0) ≤ 68719476736
 pre : ∀ t j n, t < w.length → n ≤ h.st → sz (preF h w (fwdF h w t) t j n) ≤ 68719476736
 preM : ∀ t i j, t < w.length → sz ((fwdF h w t).getD i 0 * trQ h i j) ≤ 68719476736
 lik : ∀ t n, t < w.length → n ≤ h.st → sz (likN h (fwdF h w t) n) ≤ 68719476736
 likM : ∀ t i, t < w.length → sz ((fwdF h w t).getD i 0 * h.stop.getD i 0) ≤ 68719476736
theorem fwd_pos {h : HM} {w : List Int} {t j : Nat} (ht : 0 < t) (hj : j < h.st) : (fwdF h w t).getD j 0 = preF h w (fwdF h w (t - 1)) (t - 1) j h.st * emQ h j (symX w t) := by
 obtain ⟨u, rfl⟩ : ∃ u, t = u + 1 := ⟨t - 1, by omega⟩
 exact map_getD_range _ _ hj
theorem bwd_zero {h : HM} {w : List Int} {i : Nat} (hi : i < h.st) : (bwdF h w 0).getD i 0 = h.stop.getD i 0 := map_getD_range _ _ hi
theorem bwd_pos {h : HM} {w : List Int} {d a i : Nat} (hd : 0 < d) (ha : a = w.length - 1 - d) (hi : i < h.st) : (bwdF h w d).getD i 0 = sufF h w (bwdF h w (d - 1)) a i h.st := by
 obtain ⟨u, rfl⟩ : ∃ u, d = u + 1 := ⟨d - 1, by omega⟩
 subst ha
 exact map_getD_range _ _ hi
def postR (h : HM) (w : List Int) : List (List Rat) := if likF h w = 0 then [] else (List.range w.length).map (postF h w)
end Go.AL

set_option linter.unusedVariables false
set_option linter.unusedSimpArgs false
namespace Go.AL
open Go Go.BigFrame
def xiQ (h : HM) (w : List Int) (t i j : Nat) : Rat := (fwdF h w t).getD i 0 * trQ h i j * (emQ h j (symX w (t + 1)) * (bwdF h w (w.length - 1 - (t + 1))).getD j 0) / likF h w
def showQ (h : HM) (w : List Int) (n i x : Nat) : Rat := sumN (fun t => if symX w t = x then postQ h w t i else 0) n
def moveQ (h : HM) (w : List Int) (n i j : Nat) : Rat := sumN (fun t => xiQ h w t i j) n
def showRow (h : HM) (w : List Int) (n i : Nat) : List Rat := (List.range h.sym).map fun x => showQ h w n i x
def moveRow (h : HM) (w : List Int) (n i : Nat) : List Rat := (List.range h.st).map fun j => moveQ h w n i j
def exS (h : HM) (w : List Int) : List Rat := if likF h w = 0 then [] else if w.length = 0 then List.replicate h.st 0 else postF h w 0
def exE (h : HM) (w : List Int) : List Rat := if likF h w = 0 then [] else if w.length = 0 then List.replicate h.st 0 else postF h w (w.length - 1)
def exM (h : HM) (w : List Int) : List (List Rat) := if likF h w = 0 then [] else (List.range h.st).map fun i => moveRow h w (w.length - 1) i
def exO (h : HM) (w : List Int) : List (List Rat) := if likF h w = 0 then [] else (List.range h.st).map fun i => showRow h w w.length i
end Go.AL

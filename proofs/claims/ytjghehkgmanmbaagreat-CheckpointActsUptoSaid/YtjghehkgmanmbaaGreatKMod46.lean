/-
  M, part 46: the functions of chapter 36 on any input.
-/
import Derived.Test.YtjghehkgmanmbaaGreatKMod42
import Derived.Test.YtjghehkgmanmbaaGreatKAlg25
import Derived.Test.YtjghehkgmanmbaaGreatKMod40e
set_option linter.unusedVariables false
set_option linter.unusedSimpArgs false
namespace Go.Proofs.YtjghehkgmanmbaaGreat
open Go Go.AL
noncomputable def wokB (h : HM) (w : List Int) : Bool := @decide (WordOK h w) (Classical.propDecidable _)
theorem wokB_t {h : HM} {w : List Int} (f : WordOK h w) : true = wokB h w := (@decide_eq_true _ (Classical.propDecidable _) f).symm
theorem wokB_f {h : HM} {w : List Int} (f : ¬ WordOK h w) : false = wokB h w := (@decide_eq_false _ (Classical.propDecidable _) f).symm
theorem wokB_tt {h : HM} {w : List Int} (e : wokB h w = true) : WordOK h w := Classical.byContradiction fun n => by rw [← wokB_f n] at e; cases e
theorem wokB_ff {h : HM} {w : List Int} (e : wokB h w = false) : ¬ WordOK h w := fun n => by rw [← wokB_t n] at e; cases e
theorem words_ValidA {h : HM} {w : List Int} (nw : w.length ≤ 1048576) (hs : 1 ≤ h.sym ∧ h.sym ≤ 32) : FSpec P F.words_Valid [.d (ints w), .d (dI h.sym)] (.d (dB (wokB h w))) := by
 refine FSpec.intro fn.words_Valid (by rfl) (by rfl) (nb9 (by rfl)) fun E hE => (AW.sg hE rfl (asD rfl (OL.nil (AW.seq (AW.sg hE rfl (mvD rfl (lnL sl.ints rfl rfl ?_)))))))
 refine mvD rfl (OL.nil (AW.block ?_))
 refine AW.whileK (α := Nat) [(0, _), (1, _), (7, _), (8, _)] [] (fun i => [(9, .d (dI i))]) (fun i => []) (fun i => i ≤ w.length ∧ ∀ j, j < i → 1 ≤ w.getD j 0 ∧ w.getD j 0 ≤ h.sym) (fun i => w.length - i) 0 (.cons (knD rfl) (.cons (knD rfl) (.cons (knD rfl) (.cons (knD rfl) .nil)))) .nil ⟨⟨Nat.zero_le _, fun j hj => absurd hj (Nat.not_lt_zero j)⟩, .cons (VLe.refl _) .nil, .nil⟩ ?_
 rintro i ⟨h1, h2⟩
 refine AW.sg hE rfl (c_lss rfl rfl rfl (OL.nil (AW.seq (AW.cond rfl (fun h10 => ?_) (fun h10 => ?_)))))
 ·try simp only [dx9] at h10
  refine AW.skip (AW.seq (AW.block (AW.sg hE rfl (ixLn sl.ints 0 rfl rfl (by omega) rfl rfl (ldRC ce.int rfl (asD rfl (OL.nil ?_)))))))
  refine AW.sg hE rfl (mvD rfl (c_lss rfl rfl rfl (mvD rfl (OL.split 15 rfl (fun a1 => ?_) (fun a1 => ?_)))))
  ·have a1 : w.getD i 0 < 1 := of_decide_eq_true a1
   refine OL.no rfl (by decide) (OL.no rfl (by decide) (OL.no rfl (by decide) (pkT rfl rfl (OL.nil (AW.cond rfl (fun _ => ?_) (fun hno => absurd hno (by decide)))))))
   exact AW.sg hE rfl (asD rfl (OL.nil (AW.ret (RetQ.r ⟨_, .tmp rfl .nil, .le (VLe.bool (wokB_f fun k => by have := k.2 _ (getD_mem (show i < w.length by omega) 0); omega))⟩))))
  ·have a1 : 1 ≤ w.getD i 0 := Int.not_lt.1 (of_decide_eq_false a1)
   refine OL.yes rfl (mvD rfl (OL.yes rfl (mvD rfl (OL.yes rfl (c_gtr rfl rfl rfl (pkF rfl rfl (OL.nil ?_)))))))
   refine AW.cond rfl (fun a2 => ?_) (fun a2 => ?_)
   ·have a2 : (h.sym : Int) < w.getD i 0 := of_decide_eq_true a2
    exact AW.sg hE rfl (asD rfl (OL.nil (AW.ret (RetQ.r ⟨_, .tmp rfl .nil, .le (VLe.bool (wokB_f fun k => by have := k.2 _ (getD_mem (show i < w.length by omega) 0); omega))⟩))))
   ·have a2 : w.getD i 0 ≤ h.sym := Int.not_lt.1 (of_decide_eq_false a2)
    exact AW.skip (AW.rg hE rfl (add_i64 rfl rfl (by omega) (mvD rfl (OL.nil (AW.again (x := i) (i + 1) (by omega) ⟨⟨by omega, upto_stp h2 ⟨a1, a2⟩⟩, Knows.app (.cons (VLe.refl _) (.cons (VLe.refl _) (.cons (VLe.refl _) (.cons (VLe.refl _) .nil)))) (.cons (VLe.refl _) .nil), .nil⟩)))))
 ·try simp only [dx9] at h10
  refine AW.exit (AW.sg hE rfl (mvD rfl (c_geq rfl rfl (c := true) (by exact decide_eq_true (by omega)) (mvD rfl (OL.yes rfl (mvD rfl (OL.yes rfl ?_)))))))
  refine c_leq rfl rfl (c := true) (by exact decide_eq_true (by omega)) (pkT rfl rfl (mvD rfl (OL.yes rfl (mvD rfl (OL.yes rfl (lnL sl.ints rfl rfl (OL.yes rfl ?_)))))))
  refine c_leq rfl rfl rfl (pkT rfl rfl (asD rfl (OL.nil ?_)))
  exact AW.ret (RetQ.r ⟨_, .tmp rfl .nil, .le (VLe.bool (by rcases Nat.lt_or_ge 256 w.length with hh | hh; rw [← wokB_f fun k => by have := k.1; omega]; exact decide_eq_false (by omega); rw [← wokB_t ⟨hh, fun x hx => by obtain ⟨j, hj, rfl⟩ := mem_ix 0 hx; exact h2 j (by omega)⟩]; exact decide_eq_true (by omega)))⟩)
end Go.Proofs.YtjghehkgmanmbaaGreat

set_option linter.unusedVariables false
set_option linter.unusedSimpArgs false
namespace Go.AL
open Go Go.BigFrame
theorem HM.GoodX.wide {h : HM} {B : Nat} (g : h.Good B) : h.GoodW 1048576 := by
 have f := g.form
 have hB : B ≤ 1048576 := Nat.le_trans f.bB (by decide)
 exact ⟨⟨f.sym0, f.sym1, f.st0, f.st1, f.ini, f.trans, f.trow, f.stop, f.emit, f.erow, f.silent, f.ties, f.tie, by decide, by decide, Nat.le_trans f.zE hB, f.zI.mono hB, f.zS.mono hB, fun i => (f.zT i).mono hB, fun i => (f.zM i).mono hB⟩, g.pE, g.pI, g.pS, g.pT, g.pM, g.sI, g.sT, g.sM, g.tied⟩
theorem hm_rmOf (h : HM) : hm (rmOf h) = h := by
 have e : ∀ l : List Rat, (l.map ofQ).map Raw.q = l := fun l => by
  rw [List.map_map]
  conv => rhs; rw [← List.map_id l]
  exact List.map_congr_left fun q _ => q_ofQ q
 have e2 : ∀ l : List (List Rat), (l.map (List.map ofQ)).map (List.map Raw.q) = l := fun l => by
  rw [List.map_map]
  conv => rhs; rw [← List.map_id l]
  exact List.map_congr_left fun q _ => e q
 unfold hm rmOf
 rw [e, e, e2, e2, q_ofQ, Int.toNat_natCast, Int.toNat_natCast]
theorem shareR_of {q : Rat} (h : Share q) : shareR (ofQ q) = true := by
 unfold shareR; rw [ofQ_good, q_ofQ, decide_eq_true h]; rfl
theorem SharesR.of {l : List Rat} (h : Shares l) : SharesR (l.map ofQ) := fun r hr => by
 obtain ⟨q, hq, rfl⟩ := List.mem_map.1 hr
 exact shareR_of (h q hq)
theorem getD_mapm (l : List (List Rat)) (i : Nat) : (l.map (List.map ofQ)).getD i [] = (l.getD i []).map ofQ := getD_map0 (List.map ofQ) l i []
theorem good_chkP {h : HM} (g : h.GoodW 1048576) : chkP (rmOf h) = 0 := by
 have f := g.form
 have hsi : ∀ i, h.silent.getD i false = false := fun i => f.sil i
 have rng : (rmOf h).Rng := ⟨⟨by show (1 : Int) ≤ (h.sym : Int); have := f.sym0; omega, by show (h.sym : Int) ≤ 32; have := f.sym1; omega⟩, by show (1 : Int) ≤ (h.st : Int); have := f.st0; omega, by show (h.st : Int) ≤ 12; have := f.st1; omega⟩
 have fm : (rmOf h).Fm := {
  li := by show (((h.ini.map ofQ).length : Nat) : Int) = (h.st : Int); rw [List.length_map, f.ini]
  ls := by show (((h.stop.map ofQ).length : Nat) : Int) = (h.st : Int); rw [List.length_map, f.stop]
  ll := by show ((h.silent.length : Nat) : Int) = (h.st : Int); rw [f.sill]
  lk := by show ((h.ties.length : Nat) : Int) = (h.st : Int); rw [f.ties]
  lt := by show (((h.trans.map (List.map ofQ)).length : Nat) : Int) = (h.st : Int); rw [List.length_map, f.trans]
  lm := by show (((h.emit.map (List.map ofQ)).length : Nat) : Int) = (h.st : Int); rw [List.length_map, f.emit]
  e := shareR_of g.pE
  i := .of g.pI
  s := .of g.pS
  row := fun i hi => by
   have hi2 : i < h.st := by have : (i : Int) < (h.st : Int) := hi; omega
   have hT : (rmOf h).trans.getD i [] = (h.trans.getD i []).map ofQ := getD_mapm h.trans i
   have hE : (rmOf h).emit.getD i [] = (h.emit.getD i []).map ofQ := getD_mapm h.emit i
   rw [hT, hE, List.length_map, List.length_map, f.trow i hi2, f.erow i hi2]
   refine ⟨rfl, ?_, .of (g.pT i), .of (g.pM i), f.tie i hi2⟩
   show ((h.sym : Nat) : Int) = if h.silent.getD i false = true then 0 else (h.sym : Int)
   rw [hsi i]; rfl }
 have sums : h.Sums := ⟨g.sI, g.sT, fun i hi _ => g.sM i hi⟩
 have rk : h.Ranked := ⟨fun _ => 0, fun i j _ _ si => by rw [hsi i] at si; cases si⟩
 have td : h.Tied := fun i j hi hj _ _ e => g.tied i j hi hj e
 have e : chkE (rmOf h) = 0 := by
  unfold chkE
  rw [if_neg (fun n => n rng), if_neg (fun n => n fm), hm_rmOf]
  unfold chkM
  rw [if_neg (fun n => n sums), if_neg (fun n => n rk), if_neg (fun n => n td)]
 unfold chkP
 rw [if_neg (fun n => n e)]
 have : (h.silent.any fun b => b) = false := List.any_eq_false.2 fun b hb => by
  rw [f.silent] at hb
  rw [(List.mem_replicate.1 hb).2]; decide
 show (if (h.silent.any fun b => b) = true then (4 : Int) else 0) = 0
 rw [this]; rfl
theorem med_ofQ {q : Rat} (h : sz q ≤ 1048576) : (Go.AL.ofQ q).Med := by
 have k := ofQ_ok (q := q) (by omega)
 exact ⟨k.num, k.den, Nat.le_trans (sz_num q) h, Nat.le_trans (ofQ_den_len q) h⟩
theorem good_sz {h : HM} (g : h.GoodW 1048576) : (rmOf h).Sz := by
 have f := g.form
 have m : ∀ {l : List Rat}, Small 1048576 l → MedL (l.map ofQ) := fun hs r hr => by
  obtain ⟨q, hq, rfl⟩ := List.mem_map.1 hr
  exact med_ofQ (hs q hq)
 have h1 := f.st1; have h2 := f.sym1
 have e1 := f.ini; have e2 := f.stop; have e3 := f.trans; have e4 := f.emit; have e5 := f.sill; have e6 := f.ties
 have mT : ∀ x, x ∈ (rmOf h).trans → MedL x ∧ x.length ≤ 1048576 := fun x hx => by
  obtain ⟨l, hl, rfl⟩ := List.mem_map.1 hx
  obtain ⟨i, hi, rfl⟩ := mem_ix [] hl
  exact ⟨m (f.zT i), by rw [List.length_map, f.trow i (by omega)]; omega⟩
 have mE : ∀ x, x ∈ (rmOf h).emit → MedL x ∧ x.length ≤ 1048576 := fun x hx => by
  obtain ⟨l, hl, rfl⟩ := List.mem_map.1 hx
  obtain ⟨i, hi, rfl⟩ := mem_ix [] hl
  exact ⟨m (f.zM i), by rw [List.length_map, f.erow i (by omega)]; omega⟩
 exact ⟨med_ofQ f.zE, m f.zI, m f.zS, fun x hx => (mT x hx).1, fun x hx => (mE x hx).1, by show (h.ini.map ofQ).length ≤ _; rw [List.length_map]; omega, by show (h.stop.map ofQ).length ≤ _; rw [List.length_map]; omega,
  by show (h.trans.map _).length ≤ _; rw [List.length_map]; omega, by show (h.emit.map _).length ≤ _; rw [List.length_map]; omega, fun x hx => (mT x hx).2, fun x hx => (mE x hx).2, by show h.silent.length ≤ _; omega, by show h.ties.length ≤ _; omega⟩
def liteB (h : RM) : Bool := (decide (h.st ≤ 4) || decide (12 < h.st)) && decide ((h.ini.length : Int) ≤ 20) && decide ((h.trans.length : Int) ≤ 20) && decide ((h.emit.length : Int) ≤ 20) && (decide (h.sym ≤ 4) || decide (32 < h.sym))
end Go.AL

set_option linter.unusedVariables false
set_option linter.unusedSimpArgs false
namespace Go.AL
open Go Go.BigFrame
theorem viaQ_szW {h : HM} {B C : Nat} (f : HM.FormX 1048576 B h) (fr : Int) (x : Nat) {rest : List Rat} (hz : Small C rest) (hC : 1 ≤ C) (i : Nat) : sz (stepQ h fr i) ≤ 1048576 ∧ sz ((h.emit.getD i []).getD x 0) ≤ 1048576 ∧ sz (stepQ h fr i * (h.emit.getD i []).getD x 0) ≤ 2097152 ∧ sz (viaQ h fr x rest i) ≤ 2097152 + C := by
 have h1 := f.bB
 have h2 : sz (stepQ h fr i) ≤ B := by unfold stepQ; split; exact (f.zT _).get f.b1 i; exact f.zI.get f.b1 i
 have h3 := (f.zM i).get f.b1 x
 have h4 := hz.get hC i
 have h5 := sz_mul (stepQ h fr i) ((h.emit.getD i []).getD x 0)
 have h6 := sz_mul (stepQ h fr i * (h.emit.getD i []).getD x 0) (rest.getD i 0)
 unfold viaQ
 omega
theorem aheadF_szW {h : HM} {B C : Nat} (f : HM.FormX 1048576 B h) (fr : Int) (x : Nat) {rest : List Rat} (hz : Small C rest) (hC : 1 ≤ C) : ∀ i, sz (aheadF h fr x rest i).1 ≤ 2097152 + C
 | 0 => by show sz 0 ≤ _; rw [sz_zero]; omega
 | i + 1 => by rw [aheadF]; split; exact (viaQ_szW f fr x hz hC i).2.2.2; exact aheadF_szW f fr x hz hC i
theorem beforeF_szW {h : HM} {B C : Nat} (f : HM.FormX 1048576 B h) (x : Nat) {rest : List Rat} (hz : Small C rest) (hC : 1 ≤ C) : Small (2097152 + C) (beforeF h x rest) := fun q hq => by
 obtain ⟨i, _, rfl⟩ := List.mem_map.1 hq
 exact aheadF_szW f i x hz hC _
theorem restF_lenW {h : HM} {b B : Nat} (f : HM.FormX b B h) (w : List Int) : ∀ d, (restF h w d).length = h.st
 | 0 => f.stop
 | d + 1 => beforeF_len ..
theorem restF_szW {h : HM} {B : Nat} (f : HM.FormX 1048576 B h) (w : List Int) : ∀ d, Small (1048576 + 2097152 * d) (restF h w d)
 | 0 => f.zS.mono (by have := f.bB; omega)
 | d + 1 => (beforeF_szW f _ (restF_szW f w d) (by omega)).mono (by omega)
theorem restF_szBW {h : HM} {B : Nat} (f : HM.FormX 1048576 B h) (w : List Int) {d : Nat} (hd : d ≤ 256) : Small 537919488 (restF h w d) := (restF_szW f w d).mono (by omega)
end Go.AL

set_option linter.unusedVariables false
set_option linter.unusedSimpArgs false
namespace Go.AL
open Go Go.BigFrame
open Classical in
noncomputable def wrdE (h : RM) (w : List Int) : Int := if ¬ chkP h = 0 then chkP h else if ¬ WordOK (hm h) w then 1 else 0
theorem wrdE_e {h : RM} {w : List Int} (e : ¬ chkP h = 0) : wrdE h w = chkP h := by unfold wrdE; rw [if_pos e]
theorem wrdE_1 {h : RM} {w : List Int} (e : chkP h = 0) (k : ¬ WordOK (hm h) w) : wrdE h w = 1 := by unfold wrdE; rw [if_neg (fun n => n e), if_pos k]
theorem wrdE_0 {h : RM} {w : List Int} (e : chkP h = 0) (k : WordOK (hm h) w) : wrdE h w = 0 := by unfold wrdE; rw [if_neg (fun n => n e), if_neg (fun n => n k)]
theorem wrdE_ok {h : RM} {w : List Int} (e : wrdE h w = 0) : chkP h = 0 ∧ WordOK (hm h) w := by
 by_cases c : chkP h = 0
 ·by_cases k : WordOK (hm h) w
  ·exact ⟨c, k⟩
  ·rw [wrdE_1 c k] at e; cases e
 ·rw [wrdE_e c] at e; exact absurd e c
def StoOK (n : Nat) (b : Int) : Prop := n ≤ 256 ∧ 1 ≤ b ∧ b ≤ 256
instance (n : Nat) (b : Int) : Decidable (StoOK n b) := inferInstanceAs (Decidable (_ ∧ _))
def stoR (n : Nat) (b : Int) : Int × Int := if StoOK n b then (((numK n b.toNat + min b.toNat n : Nat) : Int), 0) else (0, 1)
theorem stoR_0 {n : Nat} {b : Int} (k : StoOK n b) : stoR n b = (((numK n b.toNat + min b.toNat n : Nat) : Int), 0) := if_pos k
theorem stoR_1 {n : Nat} {b : Int} (k : ¬ StoOK n b) : stoR n b = (0, 1) := if_neg k
theorem stoR_ok {n : Nat} {b : Int} (e : (stoR n b).2 = 0) : StoOK n b := Classical.byContradiction fun k => by rw [stoR_1 k] at e; cases e
open Classical in
noncomputable def bestA (h : RM) (w : List Int) (b : Int) : List Int × Rat × Int × Int :=
 if ¬ wrdE h w = 0 then ([], 0, 0, wrdE h w) else if ¬ StoOK w.length b then ([], 0, 0, 1) else if w = [] then (if (hm h).empty = 0 then ([], 0, 0, 11) else ([], (hm h).empty, (stoR w.length b).1, 0))
 else (ckP (hm h) w, if bestP (hm h) w = 0 then 0 else bestP (hm h) w, ((ckS (hm h) w b.toNat : Nat) : Int), ckE (hm h) w)
theorem bestA_e {h : RM} {w : List Int} {b : Int} (e : ¬ wrdE h w = 0) : bestA h w b = ([], 0, 0, wrdE h w) := by unfold bestA; rw [if_pos e]
theorem bestA_1 {h : RM} {w : List Int} {b : Int} (e : wrdE h w = 0) (s : ¬ StoOK w.length b) : bestA h w b = ([], 0, 0, 1) := by unfold bestA; rw [if_neg (fun n => n e), if_pos s]
theorem bestA_z {h : RM} {w : List Int} {b : Int} (e : wrdE h w = 0) (s : StoOK w.length b) (hw : w = []) (z : (hm h).empty = 0) : bestA h w b = ([], 0, 0, 11) := by unfold bestA; rw [if_neg (fun n => n e), if_neg (fun n => n s), if_pos hw, if_pos z]
theorem bestA_n {h : RM} {w : List Int} {b : Int} (e : wrdE h w = 0) (s : StoOK w.length b) (hw : w = []) (z : ¬ (hm h).empty = 0) : bestA h w b = ([], (hm h).empty, (stoR w.length b).1, 0) := by unfold bestA; rw [if_neg (fun n => n e), if_neg (fun n => n s), if_pos hw, if_neg z]
theorem bestA_w {h : RM} {w : List Int} {b : Int} (e : wrdE h w = 0) (s : StoOK w.length b) (hw : ¬ w = []) : bestA h w b = (ckP (hm h) w, if bestP (hm h) w = 0 then 0 else bestP (hm h) w, ((ckS (hm h) w b.toNat : Nat) : Int), ckE (hm h) w) := by unfold bestA; rw [if_neg (fun n => n e), if_neg (fun n => n s), if_neg hw]
end Go.AL

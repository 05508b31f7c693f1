/-
  Walks of package online on any input: one more symbol (printed by mk2.py).
-/
import Derived.Test.YtjghehkgmanmbaaGreatKOxB
set_option linter.unusedVariables false
set_option linter.unusedSimpArgs false
namespace Go.Proofs.YtjghehkgmanmbaaGreat
open Go Go.AL
section
variable {s0 : S} {val : Nat → (Nat → Nat × Nat) → V} {blk : Nat → (Nat → Nat × Nat) → Option Blk} {own : Nat → Option Nat} {β : Nat → Nat × Nat} {L : Array Bool}
theorem pS_rho0 {t i : Nat} (h : own t = some i) (hi : L.getD i false = false) : (pS s0 val blk own β L).ρ t = s0.ρ t := by
 simp only [pS, h]
 rw [if_neg (by rw [hi]; decide)]
theorem pS_sto {d i : Nat} {b : Blk} (h : own d = some i) (hu : ∀ t, own t = some i → t = d) (hi : i < L.size) (hno : L.getD i false = false) (hv : val d β = s0.ρ d) (hb : blk d β = some b) :
  (⟨(pS s0 val blk own β L).ρ, upd (pS s0 val blk own β L).M d (some b)⟩ : S) = pS s0 val blk own β (L.setIfInBounds i true) := by
 have hs : (L.setIfInBounds i true).getD i false = true := by rw [getD_set_b hi, if_pos rfl]
 refine S_ext (fun t => ?_) (fun t => ?_)
 ·show (pS s0 val blk own β L).ρ t = _
  by_cases ht : t = d
  ·subst ht; rw [pS_rho0 h hno, pS_new h hs, hv]
  ·exact (pS_other hi fun e => ht (hu t e)).1
 ·show upd _ d (some b) t = _
  by_cases ht : t = d
  ·subst ht; rw [upd_same, pS_M h hs hb]
  ·rw [upd_ne _ _ ht]; exact (pS_other hi fun e => ht (hu t e)).2
end
theorem upneS {ρ : Nat → V} {f : Nat → Option Blk} {a t : Nat} {v y : Option Blk} (h : t ≠ a) (hf : f t = y) : (⟨ρ, upd f a v⟩ : S).M t = y := (upd_ne _ _ h).trans hf
theorem upsmS {ρ : Nat → V} {f : Nat → Option Blk} {a : Nat} {v : Option Blk} : (⟨ρ, upd f a v⟩ : S).M a = v := upd_same _ _ _
theorem rhoS {ρ : Nat → V} {f : Nat → Option Blk} {t : Nat} {v : V} (h : ρ t = v) : (⟨ρ, f⟩ : S).ρ t = v := h
theorem putneS {s : S} {d t : Nat} {v w : V} (h : t ≠ d) (hf : s.ρ t = v) : (s.put (some d) w).ρ t = v := (upd_ne _ _ h).trans hf
theorem putsmS {s : S} {d : Nat} {w : V} : (s.put (some d) w).ρ d = w := upd_same _ _ _
theorem putM {s : S} {d t : Nat} {w : V} {y : Option Blk} (hf : s.M t = y) : (s.put (some d) w).M t = y := hf
theorem fillF_dead {α : Type} {d : α} {g : Nat → α} {n i : Nat} (hg : g i = d) : fillF d g n (i + 1) = fillF d g n i := List.map_congr_left fun j _ => by
 by_cases h1 : j < i
 ·rw [if_pos (by omega), if_pos h1]
 ·by_cases h2 : j = i
  ·subst h2; rw [if_pos (by omega), if_neg h1, hg]
  ·rw [if_neg (by omega), if_neg h1]
theorem fillF_get {α : Type} {d e : α} {g : Nat → α} {n i j : Nat} (hj : j < n) (h : j < i) : (fillF d g n i).getD j e = g j := (map_getD_range (fun j => if j < i then g j else d) e hj).trans (if_pos h)
theorem fillF_small {g : Nat → Rat} {C n i : Nat} (hg : ∀ j, sz (g j) ≤ C) (hC : 1 ≤ C) : Small C (fillF 0 g n i) := fun q hq => by
 obtain ⟨j, _, rfl⟩ := List.mem_map.1 hq
 split
 ·exact hg j
 ·rw [sz_zero]; exact hC
theorem com_congr {al al2 : Nat → Bool} {ps ps2 : Nat → List Int} : ∀ {n : Nat}, (∀ i, i < n → al i = al2 i ∧ ps i = ps2 i) → comF al ps n = comF al2 ps2 n
 | 0, _ => rfl
 | n + 1, h => by
  rw [comF, comF, com_congr fun i hi => h i (by omega), (h n (Nat.lt_succ_self n)).1, (h n (Nat.lt_succ_self n)).2]
theorem pick_len {h : HM} {o : Dec} {j N : Nat} (ht : ∀ i, (o.tl.getD i []).length ≤ N) : ∀ n, (pickF h o j n).2.length ≤ N
 | 0 => by rw [pickF]; exact Nat.zero_le _
 | n + 1 => by
  rw [pickF]
  split
  ·exact ht n
  ·exact pick_len ht n
theorem newT_len {h : HM} {o : Dec} {x j N : Nat} (ht : ∀ i, (o.tl.getD i []).length ≤ N) : (newT h o x j).length ≤ N + 1 := by
 rw [newT]
 split
 ·have := pick_len (h := h) (j := j) ht o.sc.length
  rw [List.length_append]; simp only [List.length_singleton]; omega
 ·exact Nat.zero_le _
theorem newT_dead {h : HM} {o : Dec} {x j : Nat} (hd : ¬ 0 < newS h o x j) : newT h o x j = [] := if_neg hd
theorem cmt_len {h : HM} {o : Dec} {x N : Nat} (ht : ∀ i, (o.tl.getD i []).length ≤ N) : ∀ n, (cmtF h o x n).length ≤ N + 1
 | 0 => Nat.zero_le _
 | n + 1 => by
  rw [cmtF]
  split
  ·rw [List.length_take]; have := newT_len (h := h) (x := x) (j := n) ht; omega
  ·exact cmt_len ht n
def mixK (h : HM) (o : Dec) (x i : Nat) : List (List Int) := (List.range h.st).map fun j => if j < i then (newT h o x j).drop (keepK h o x) else newT h o x j
theorem mixK_len (h : HM) (o : Dec) (x i : Nat) : (mixK h o x i).length = h.st := by simp [mixK]
theorem mixK_zero (h : HM) (o : Dec) (x : Nat) : mixK h o x 0 = (List.range h.st).map (newT h o x) := List.map_congr_left fun j _ => if_neg (Nat.not_lt_zero j)
theorem mixK_all (h : HM) (o : Dec) (x : Nat) : mixK h o x h.st = (stepD h o x).tl := List.map_congr_left fun j hj => if_pos (List.mem_range.1 hj)
theorem mixK_get {h : HM} {o : Dec} {x i : Nat} (hi : i < h.st) : (mixK h o x i).getD i [] = newT h o x i := (map_getD_range _ _ hi).trans (if_neg (Nat.lt_irrefl i))
theorem mixK_dead {h : HM} {o : Dec} {x i : Nat} (hd : newT h o x i = []) : mixK h o x (i + 1) = mixK h o x i := List.map_congr_left fun j _ => by
 by_cases h1 : j < i
 ·rw [if_pos (by omega), if_pos h1]
 ·by_cases h2 : j = i
  ·subst h2; rw [if_pos (by omega), if_neg h1, hd]; exact List.drop_nil
  ·rw [if_neg (by omega), if_neg h1]
theorem mixK_set {h : HM} {o : Dec} {x i : Nat} (hi : i < h.st) : (mixK h o x i).set i ((newT h o x i).drop (keepK h o x)) = mixK h o x (i + 1) := by
 refine List.ext_getElem (by simp [mixK]) fun k h1 h2 => ?_
 rw [List.getElem_set]
 by_cases hk : i = k
 ·subst hk; simp [mixK]
 ·rw [if_neg hk]
  simp only [mixK, List.getElem_map, List.getElem_range]
  by_cases h3 : k < i
  ·rw [if_pos h3, if_pos (by omega)]
  ·rw [if_neg h3, if_neg (by omega)]
theorem row_el {l : List (List Int)} {i : Nat} (hi : i < l.length) : (l.map ints)[i]? = some (ints (l.getD i [])) := by
 rw [List.getElem?_map, List.getD_eq_getElem?_getD, List.getElem?_eq_getElem hi]; rfl
def pushH (h : HM) (o : Dec) (x : Nat) : HM := if someN h o x h.st = true then h else HM0
def pushD (h : HM) (o : Dec) (x : Nat) : Dec := if someN h o x h.st = true then stepD h o x else ⟨0, [], [], []⟩
def pushC (h : HM) (o : Dec) (x : Nat) : List Int := if someN h o x h.st = true then cmtF h o x h.st else []
def pushE (h : HM) (o : Dec) (x : Nat) : Int := if someN h o x h.st = true then 0 else 11
def own6 : Nat → Option Nat
 | 45 => some 0 | 46 => some 1 | 47 => some 2 | 48 => some 3 | 49 => some 4 | 50 => some 5 | 51 => some 6 | 52 => some 7 | 53 => some 8 | 54 => some 9 | 55 => some 10 | 8 => some 11
 | _ => none
theorem own6_inj {t i : Nat} (h : own6 t = some i) : t = [45, 46, 47, 48, 49, 50, 51, 52, 53, 54, 55, 8].getD i 0 := by
 unfold own6 at h
 split at h <;> first | (cases h; rfl) | cases h
noncomputable def val6 (h : HM) (t0 b2 b7 : Nat) (t : Nat) (β : Nat → Nat × Nat) : V :=
 match t with
 | 45 => .ag (cellsHM h)
 | 46 => .ptr 2 b2 11
 | 47 => .d (dI t0)
 | 48 => .d (dI (t0 + 1 : Nat))
 | 49 | 52 => .ptr 7 b7 1
 | 50 | 53 => .d (dI h.st)
 | 51 => .osl 51 (β 51).1 h.st h.st
 | 54 => .osl 54 (β 54).1 h.st h.st
 | 55 => .ag (cellsOw h (t0 + 1) (β 51).1 (β 54).1 h.st)
 | 8 => .ptr 8 (β 8).1 0
 | _ => .junk
noncomputable def blk6 (h : HM) (t : Nat) (β : Nat → Nat × Nat) : Option Blk :=
 match t with
 | 51 => some (.row (β 51).1 h.st T.Rat 3 ((List.replicate h.st 0).map dQ))
 | 54 => some (.row (β 54).1 h.st T.ints 1 ((List.replicate h.st []).map ints))
 | 8 => some (.box (β 8).1 T.Online [.d (.sc (.int .i64 0)), .d (.sc (.int .i64 0)), .d (.sc (.bool false)), .mt, .mt, .mt, .mt, .mt, .mt, .mt, .mt, .d (.sc (.int .i64 0)), .mt, .mt, .mt])
 | _ => none
theorem cases12 {p : Nat → Prop} (h0 : p 0) (h1 : p 1) (h2 : p 2) (h3 : p 3) (h4 : p 4) (h5 : p 5) (h6 : p 6) (h7 : p 7) (h8 : p 8) (h9 : p 9) (h10 : p 10) (h11 : p 11) : ∀ i, i < 12 → p i := fun i hi => by
 have : i = 0 ∨ i = 1 ∨ i = 2 ∨ i = 3 ∨ i = 4 ∨ i = 5 ∨ i = 6 ∨ i = 7 ∨ i = 8 ∨ i = 9 ∨ i = 10 ∨ i = 11 := by omega
 rcases this with rfl | rfl | rfl | rfl | rfl | rfl | rfl | rfl | rfl | rfl | rfl | rfl <;> assumption
def own21 : Nat → Option Nat
 | 111 => some 0 | 112 => some 1 | 113 => some 2 | 114 => some 3 | 115 => some 4 | 116 => some 5 | 11 => some 6
 | _ => none
theorem own21_inj {t i : Nat} (h : own21 t = some i) : t = [111, 112, 113, 114, 115, 116, 11].getD i 0 := by
 unfold own21 at h
 split at h <;> first | (cases h; rfl) | cases h
noncomputable def val21 (o : Dec) (c : Rat) (b2 b11 i : Nat) (t : Nat) (_ : Nat → Nat × Nat) : V :=
 match t with
 | 111 => vQ c
 | 112 => .ptr 2 b2 13
 | 113 => .d (dIss o.tl)
 | 114 => .d (dI i)
 | 115 => .ref (ints (o.tl.getD i [])).cells
 | 116 => .d (ints (o.tl.getD i []))
 | 11 => .ptr 11 b11 0
 | _ => .junk
noncomputable def blk21 (c : Rat) (b11 : Nat) (t : Nat) (_ : Nat → Nat × Nat) : Option Blk :=
 match t with
 | 11 => some (.box b11 T.Rat (cellsQ c))
 | _ => none
theorem cases7 {p : Nat → Prop} (h0 : p 0) (h1 : p 1) (h2 : p 2) (h3 : p 3) (h4 : p 4) (h5 : p 5) (h6 : p 6) : ∀ i, i < 7 → p i := fun i hi => by
 have : i = 0 ∨ i = 1 ∨ i = 2 ∨ i = 3 ∨ i = 4 ∨ i = 5 ∨ i = 6 := by omega
 rcases this with rfl | rfl | rfl | rfl | rfl | rfl | rfl <;> assumption
theorem chkP_sym {h : RM} (c : chkP h = 0) : ((hm h).sym : Int) = h.sym := by
 have := (chkP_rng c).1.1
 show ((h.sym.toNat : Nat) : Int) = _
 omega
structure PushOK (r : RDec) (s : Int) : Prop where
 v : VR r
 lo : 1 ≤ s
 hi : s ≤ r.m.sym
 t : r.t ≠ 256
open Classical in
noncomputable def pshH (r : RDec) (s : Int) : HM := if PushOK r s then pushH (hm r.m) (decR r) (s - 1).toNat else HM0
open Classical in
noncomputable def pshD (r : RDec) (s : Int) : Dec := if PushOK r s then pushD (hm r.m) (decR r) (s - 1).toNat else DEC0
open Classical in
noncomputable def pshC (r : RDec) (s : Int) : List Int := if PushOK r s then pushC (hm r.m) (decR r) (s - 1).toNat else []
open Classical in
noncomputable def pshE (r : RDec) (s : Int) : Int := if PushOK r s then pushE (hm r.m) (decR r) (s - 1).toNat else if VR r then 1 else 4
theorem psh_not {r : RDec} {s : Int} (n : ¬ PushOK r s) : pshH r s = HM0 ∧ pshD r s = DEC0 ∧ pshC r s = [] := ⟨if_neg n, if_neg n, if_neg n⟩
theorem psh_4 {r : RDec} {s : Int} (n : ¬ VR r) : pshE r s = 4 := (if_neg fun k => n k.v).trans (if_neg n)
theorem psh_1 {r : RDec} {s : Int} (v : VR r) (n : ¬ PushOK r s) : pshE r s = 1 := (if_neg n).trans (if_pos v)
theorem psh_ok {r : RDec} {s : Int} (k : PushOK r s) : pshH r s = pushH (hm r.m) (decR r) (s - 1).toNat ∧ pshD r s = pushD (hm r.m) (decR r) (s - 1).toNat ∧ pshC r s = pushC (hm r.m) (decR r) (s - 1).toNat ∧ pshE r s = pushE (hm r.m) (decR r) (s - 1).toNat := ⟨if_pos k, if_pos k, if_pos k, if_pos k⟩
theorem vOR_eq {r : RDec} (z : r.Sz) (v : VR r) : vOR r = vOn (hm r.m) (decR r) := congrArg V.ag (cellsOR_eq z v.p v.t0 v.s)
theorem on_share {q : Rat} (hs : Share q) (hz : sz q ≤ 68719476736) : FSpec P F.online_share [vQ q] (.d (dB true)) := by
 have h1K := z1K
 refine FSpec.intro fn.online_share (by rfl) (by rfl) (nb9 (by rfl)) fun E hE => (AW.sg hE rfl (bxA rfl rfl fun b1 => (asD rfl (OL.nil (AW.sg hE rfl (clv rfl .rq2 (rational_MakeQ (n := 1) (d := 1) (by decide) (by decide) (by decide)) ?_))))))
 rw [q11]
 refine mvT rfl (ex rfl rfl (ex rfl rfl (al z.Rat rfl fun b3 => (sto sz.Rat rfl rfl rfl rfl rfl (nb9 rfl) (cells2 := [_,_,_]) rfl (asD rfl (OL.nil (AW.sg hE rfl ?_)))))))
 refine ldPA ag.Rat rfl rfl (vs := [_,_,_]) rfl (nb9 rfl) (clv rfl .rq1 (rational_ValidQ (by omega)) (mvD rfl (OL.yes rfl (ldPA ag.Rat rfl rfl (vs := [_,_,_]) rfl (nb9 rfl) (OL.yes rfl (clv rfl .rq1 (rational_SignQ (by assumption)) (OL.yes rfl ?_)))))))
 refine c_geq rfl rfl (c := true) (decide_eq_true (sgnQ_nonneg.2 hs.1)) (pkT rfl rfl (mvD rfl (OL.yes rfl (ldPA ag.Rat rfl rfl (vs := [_,_,_]) rfl (nb9 rfl) (OL.yes rfl (ldPA ag.Rat rfl rfl (vs := [_,_,_]) rfl (nb9 rfl) (OL.yes rfl ?_)))))))
 exact clv rfl .rq2 (rational_CompareQ (by assumption) (by assumption)) (OL.yes rfl (c_leq rfl rfl (c := true) (decide_eq_true (cmpQ_le.2 hs.2)) (pkT rfl rfl (asD rfl (OL.nil (AW.ret (RetQ.r ⟨_, .tmp rfl .nil, .le (VLe.refl _)⟩)))))))
theorem on_fitting_1 {h : HM} {o : Dec} {q : Int} {b : Nat} : FSpecM P F.online_fitting_1 [.d (dI q), .ptr 1000 b 0] (mem1 1000 (.box b T.Online (cellsOn h o))) (.d (dB (decide (q < 0 ∨ (h.st : Int) ≤ q)))) (mem1 1000 (.box b T.Online (cellsOn h o))) := by
 refine FSpecM.intro fn.online_fitting_1 (by rfl) (by rfl) (nb9 (by rfl)) fun E hE => (AW.sg hE rfl (asD rfl (OL.nil (AW.sg hE rfl (mvD rfl (c_lss rfl rfl rfl (mvD rfl ?_)))))))
 refine OL.split 6 rfl (fun g => ?_) (fun g => ?_)
 ·have g := of_decide_eq_true g
  refine OL.nd rfl (OL.nd rfl (OL.nd rfl (OL.nd rfl (OL.nd rfl (pkT rfl rfl (asD rfl (OL.nil ?_)))))))
  exact AW.ret ⟨⟨_, .tmp rfl .nil, .le (VLe.bool ((decide_eq_true (.inl g)).symm))⟩, mem1_keep rfl⟩
 ·have g := of_decide_eq_false g
  refine OL.yes rfl (mvD rfl (OL.yes rfl (faP fd.Online_0 rfl rfl (OL.yes rfl (faP fd.Hidden_1 rfl rfl (OL.yes rfl (ldPC ce.int rfl rfl rfl ?_)))))))
  exact OL.yes rfl (c_geq rfl rfl rfl (pkF rfl rfl (asD rfl (OL.nil (AW.ret ⟨⟨_, .tmp rfl .nil, .le (VLe.bool (decide_eq_decide.2 ⟨fun e => .inr e, fun e => e.resolve_left g⟩))⟩, mem1_keep rfl⟩)))))
theorem on_fitting {h : HM} {o : Dec} {i : Nat} (hi : i < o.tl.length) (h0 : o.t ≠ 0) (ht : o.t ≤ 256) (hm : o.dn ++ o.tl.getD i [] ∈ pathsF h.st o.t) (ha : atP (o.dn ++ o.tl.getD i []) (o.t - 1) = i) : FSpec P F.online_fitting [vOn h o, .d (dI i)] (.d (dB true)) := by
 refine FSpec.intro fn.online_fitting (by rfl) (by rfl) (nb9 (by rfl)) fun E hE => (AW.sg hE rfl (bxA rfl rfl fun b2 => (asD rfl (OL.nil (AW.seq (AW.dg 1 [0,1,2,3,4,5,6,7,8,9] order_free hE rfl (by kernel_rfl) (OI.of_OL (os := [_,_,_,_,_,_,_,_,_,_]) rfl ?_)))))))
 refine faP fd.Online_4 rfl rfl (ldPC ce.ints rfl rfl rfl (faP fd.Online_3 rfl rfl (ldPC ce.intss rfl rfl rfl (mvD rfl (ixLn sl.intss [] rfl rfl hi rfl rfl (ldRC ce.ints rfl (lt2 (y := ints o.dn) (y2 := ints (o.tl.getD i [])) sl.intss (VC.d _).vd (VC.d _).vd ⟨rfl, rfl⟩ (by decide) ?_)))))))
 have hwl0 := (pathsF_mem hm).1
 rw [List.length_append] at hwl0
 refine clv rfl (.cons (VLe.refl _) (.nil)) (concat_ints (L := [o.dn, o.tl.getD i []]) (by simp) (by rw [show List.flatten [o.dn, o.tl.getD i []] = o.dn ++ o.tl.getD i [] by simp, List.length_append]; omega)) ?_
 rw [show List.flatten [o.dn, o.tl.getD i []] = (o.dn ++ o.tl.getD i []) by simp]
 refine asD rfl (OL.nil (AW.seq ?_))
 have hwl := (pathsF_mem hm).1
 have hcon := contains_intsM (l := (o.dn ++ o.tl.getD i [])) (f := F.online_fitting_1) (p := fun q => decide (q < 0 ∨ (h.st : Int) ≤ q)) (fun q _ => on_fitting_1 (h := h) (o := o) (b := b2) (q := q)) (by omega)
 rw [any_false fun x hx => decide_eq_false (by have := (pathsF_mem hm).2 x hx; omega)] at hcon
 have hlast := (atP_lt hm (show o.t - 1 < o.t by omega)).2
 rw [ha] at hlast
 refine AW.rg hE rfl (mvD rfl (lnL sl.ints rfl rfl (faP fd.Online_1 rfl rfl (ldPC ce.int rfl rfl rfl (c_eql rfl rfl (c := true) (decide_eq_true (by rw [hwl])) (mvD rfl (OL.yes rfl ?_)))))))
 refine mvD rfl (OL.yes rfl (mvD rfl (OL.yes rfl (lnL sl.ints rfl rfl (OL.yes rfl (bo rfl rfl (bin_sub (c := ((o.t - 1 : Nat) : Int)) (by omega) (wrap_i64 (by omega))) (OL.yes rfl ?_)))))))
 refine ixLn sl.ints 0 rfl rfl (by omega) rfl rfl (OL.yes rfl (ldRC ce.int rfl ?_))
 rw [hlast]
 refine OL.yes rfl (mvD rfl (OL.yes rfl (c_eql rfl rfl (c := true) (by exact decide_eq_true (by omega)) (pkT rfl rfl (mvD rfl (OL.yes rfl (mvD rfl ?_)))))))
 refine OL.yes rfl (mkF (vs := [_]) rfl (OL.yes rfl ?_))
 refine OL.callM (v := .d (dB false)) (.mk (args' := [.d (ints (o.dn ++ o.tl.getD i [])), .fn F.online_fitting_1 [.ptr 2 b2 0]]) rfl (VLes.refl _) (mem1_keep (id := 2) (blk := .box b2 T.Online (cellsOn h o)) rfl) mem1_sub (hcon.ren1 (.cons (VLe.refl _) (.cons vle_fnp .nil)))) ?_
 exact OL.yes rfl (nt rfl (pkT rfl rfl (asD rfl (OL.nil (AW.ret (RetQ.r ⟨_, .tmp rfl .nil, .le (VLe.refl _)⟩))))))
set_option maxRecDepth 4000 in
set_option maxHeartbeats 1600000 in
theorem on_ValidV {h : HM} {K : Nat} {o : Dec} (g : h.GoodW 1048576) (k : ValD K h o) : FSpec P F.online_Valid [vOn h o] (.d (dB true)) := by
 have f := g.form
 have n1 := f.st1
 have kle := k.le
 have hz := k.small
 have hC : 1 ≤ K ∧ K ≤ 68719476736 := by have := k.K1; omega
 refine FSpec.intro fn.online_Valid (by rfl) (by rfl) (nb9 (by rfl)) fun E hE => (AW.sg hE rfl (bxA rfl rfl fun b1 => (asD rfl (OL.nil (AW.seq (AW.sg hE rfl (faP fd.Online_0 rfl rfl ?_)))))))
 refine ldPA ag.Hidden rfl rfl (vs := [_,_,_,_,_,_,_,_,_,_,_]) rfl (nb9 rfl) (clv rfl .rq1 (hmm_Plain_okW g) (nt rfl (mvD rfl (OL.yes rfl (faP fd.Online_1 rfl rfl (OL.yes rfl (ldPC ce.int rfl rfl rfl ?_)))))))
 refine OL.yes rfl (c_lss rfl rfl (c := false) (by exact decide_eq_false (by omega)) (pkF rfl rfl (mvD rfl (OL.yes rfl (faP fd.Online_1 rfl rfl (OL.yes rfl (ldPC ce.int rfl rfl rfl ?_)))))))
 refine OL.yes rfl (c_gtr rfl rfl (c := false) (by exact decide_eq_false (by omega)) (pkF rfl rfl (OL.nil (AW.cond rfl (fun hno => absurd hno (by decide)) (fun _ => ?_)))))
 refine AW.skip (AW.seq (AW.sg hE rfl (faP fd.Online_1 rfl rfl (ldPC ce.int rfl rfl rfl (c_eql rfl rfl rfl (OL.nil (AW.cond rfl (fun h0 => ?_) (fun h0 => ?_))))))))
 ·have h0 : o.t = 0 := by have := of_decide_eq_true h0; omega
  obtain ⟨e1, e2, e3⟩ := k.zero h0
  refine AW.sg hE rfl (faP fd.Online_2 rfl rfl (ldPC ce.Rats rfl rfl rfl (lnL sl.Rats rfl rfl (c_eql rfl rfl (c := true) (decide_eq_true (by rw [e1]; rfl)) (mvD rfl (OL.yes rfl (faP fd.Online_3 rfl rfl ?_)))))))
  refine OL.yes rfl (ldPC ce.intss rfl rfl rfl (OL.yes rfl (lnL sl.intss rfl rfl (OL.yes rfl (c_eql rfl rfl (c := true) (decide_eq_true (by rw [e2]; rfl)) (pkT rfl rfl (mvD rfl ?_)))))))
  refine OL.yes rfl (faP fd.Online_4 rfl rfl (OL.yes rfl (ldPC ce.ints rfl rfl rfl (OL.yes rfl (lnL sl.ints rfl rfl (OL.yes rfl (c_eql rfl rfl (c := true) (decide_eq_true (by rw [e3]; rfl)) ?_)))))))
  exact pkT rfl rfl (asD rfl (OL.nil (AW.ret (RetQ.r ⟨_, .tmp rfl .nil, .le (VLe.refl _)⟩))))
 ·have h0 : o.t ≠ 0 := fun e => of_decide_eq_false h0 (by omega)
  obtain ⟨l1, l2⟩ := k.len h0
  have hd := k.heads h0
  refine AW.skip (AW.seq (AW.sg hE rfl (faP fd.Online_2 rfl rfl (ldPC ce.Rats rfl rfl rfl (lnL sl.Rats rfl rfl (faP fd.Online_0 rfl rfl (faP fd.Hidden_1 rfl rfl ?_)))))))
  refine ldPC ce.int rfl rfl rfl (c_neq rfl rfl (c := false) (by exact cne_f (by omega)) (mvD rfl (OL.yes rfl (faP fd.Online_3 rfl rfl (OL.yes rfl (ldPC ce.intss rfl rfl rfl (OL.yes rfl ?_)))))))
  refine lnL sl.intss rfl rfl (OL.yes rfl (faP fd.Online_0 rfl rfl (OL.yes rfl (faP fd.Hidden_1 rfl rfl (OL.yes rfl (ldPC ce.int rfl rfl rfl (OL.yes rfl ?_)))))))
  refine c_neq rfl rfl (c := false) (by exact cne_f (by omega)) (pkF rfl rfl (OL.nil (AW.cond rfl (fun hno => absurd hno (by decide)) (fun _ => ?_))))
  refine AW.skip (AW.sg hE rfl (asD rfl (OL.nil (AW.seq (AW.sg hE rfl (faP fd.Online_2 rfl rfl (ldPC ce.Rats rfl rfl rfl ?_)))))))
  refine lnL sl.Rats rfl rfl (mvD rfl (OL.nil (AW.block ?_)))
  refine AW.whileK (α := Nat) [(1, _), (56, _), (57, _)] [(1, _)] (fun i => [(3, .d (dB (liveB o i))), (58, .d (dI i))]) (fun i => []) (fun i => i ≤ h.st) (fun i => h.st - i) 0 (.cons (knP rfl) (.cons (knD rfl) (.cons (knD rfl) .nil))) (.cons (owB rfl) .nil) ⟨Nat.zero_le _, .rq2, .nil⟩ ?_
  intro i h1
  have h1 : i ≤ h.st := h1
  refine AW.sg hE rfl (c_lss rfl rfl rfl (OL.nil (AW.seq (AW.cond rfl (fun h59 => ?_) (fun h59 => ?_)))))
  ·try simp only [dx9] at h59
   refine AW.skip (AW.midK (α := Unit) [(1, _), (56, _), (57, _), (58, _)] [(1, _)] (fun _u => [(3, .d (dB (liveB o (i + 1))))]) (fun _u => []) (fun _u => True) (.cons (knP rfl) (.cons (knD rfl) (.cons (knD rfl) (.cons (knD rfl) .nil)))) (.cons (owB rfl) .nil) ?_ ?_)
   ·refine AW.block (AW.seq ?_)
    have hi : i < h.st := by omega
    have zi := hz.get hC.1 i
    refine AW.rg hE rfl (mvD rfl (ixLn sl.Rats 0 rfl rfl (by omega) rfl rfl (ldRA ag.Rat rfl (vs := [_,_,_]) rfl (nb9 rfl) (al z.Rat rfl fun b5 => (asD rfl (sto sz.Rat rfl rfl rfl rfl rfl (nb9 rfl) (cells2 := [_,_,_]) rfl (OL.nil ?_)))))))
    refine AW.block (AW.sg hE rfl (ldPA ag.Rat rfl rfl (vs := [_,_,_]) rfl (nb9 rfl) (clv rfl (.cons (VLe.refl _) (.nil)) (on_share (k.share h0 hi) (by omega)) (nt rfl (asD rfl (OL.nil (AW.cond rfl (fun hno => absurd hno (by decide)) (fun _ => ?_))))))))
    refine AW.sg hE rfl (ldPA ag.Online rfl rfl (vs := [_,_,_,_,_,_,_,_,_,_,_,_,_,_,_]) rfl (nb9 rfl) (mvD rfl (clv rfl (.cons (VLe.refl _) (.cons (VLe.refl _) (.nil))) (on_alive hz hC (by omega)) (asD rfl (OL.nil (AW.cond rfl (fun ha => ?_) (fun ha => ?_)))))))
    ·have ha := of_decide_eq_true ha
     obtain ⟨m1, m2, _⟩ := hd.live i hi ha
     refine AW.sg hE rfl (asD rfl (OL.nil (AW.sg hE rfl (ldPA ag.Online rfl rfl (vs := [_,_,_,_,_,_,_,_,_,_,_,_,_,_,_]) rfl (nb9 rfl) (mvD rfl (clv rfl (.cons (VLe.refl _) (.cons (VLe.refl _) (.nil))) (on_fitting (by omega) h0 (by omega) m1 m2) (nt rfl ?_)))))))
     refine OL.nil (AW.cond rfl (fun hno => absurd hno (by decide)) (fun _ => ?_))
     exact AW.skip (AW.reach () ⟨trivial, Knows.app .rq4 (.cons (VLe.bool (by rw [liveB, if_pos ha])) .nil), Owns.app (.cons rfl .nil) (.nil)⟩)
    ·have ha := of_decide_eq_false ha
     have hdd := k.dead i ha
     refine AW.sg hE rfl (faP fd.Online_3 rfl rfl (ldPC ce.intss rfl rfl rfl (mvD rfl (ixLn sl.intss [] rfl rfl (by omega) rfl rfl (ldRC ce.ints rfl (lnL sl.ints rfl rfl (c_gtr rfl rfl (c := false) (decide_eq_false (by rw [hdd]; decide)) ?_)))))))
     refine asD rfl (OL.nil (AW.cond rfl (fun hno => absurd hno (by decide)) (fun _ => ?_)))
     exact AW.skip (AW.reach () ⟨trivial, Knows.app .rq4 (.cons (VLe.bool (by rw [liveB, if_neg ha])) .nil), Owns.app (.cons rfl .nil) (.nil)⟩)
   rintro ⟨⟩ hφ
   exact AW.rg hE rfl (add_i64 rfl rfl (by omega) (mvD rfl (OL.nil (AW.again (x := i) (i + 1) (by omega) ⟨by omega, Knows.app .rq3 .rq2, Owns.app (.cons rfl .nil) (.nil)⟩))))
  ·try simp only [dx9] at h59
   refine AW.exit (AW.seq ?_)
   obtain rfl : i = h.st := by omega
   obtain ⟨j, hj, hp⟩ := k.some h0
   rw [liveB_of hj hp]
   refine AW.rg hE rfl (mvD rfl (mvD rfl (OL.yes rfl (ldPA ag.Online rfl rfl (vs := [_,_,_,_,_,_,_,_,_,_,_,_,_,_,_]) rfl (nb9 rfl) (OL.yes rfl (faP fd.Online_3 rfl rfl (OL.yes rfl ?_)))))))
   refine ldPC ce.intss rfl rfl rfl (OL.yes rfl ?_)
   have hlen : ∀ j, (o.tl.getD j []).length ≤ 1099511627776 := fun j => by
    rcases Nat.lt_or_ge j h.st with hj | hj
    ·by_cases e : 0 < o.sc.getD j 0
     ·have := (pathsF_mem (hd.live j hj e).1).1; rw [List.length_append] at this; omega
     ·rw [k.dead j e]; exact Nat.zero_le _
    ·rw [getD_ge (by omega)]; exact Nat.zero_le _
   exact clv rfl (.cons (VLe.refl _) (.cons (VLe.refl _) (.nil))) (on_common hz hC l1 l2 (by omega) hlen) (OL.yes rfl (c_eql rfl rfl (c := true) (decide_eq_true (by have := k.com h0; omega)) (pkT rfl rfl (asD rfl (OL.nil (AW.ret (RetQ.r ⟨_, .tmp rfl .nil, .le (VLe.refl _)⟩)))))))
set_option maxRecDepth 8000 in
set_option maxHeartbeats 6400000 in
theorem on_PushV {h : HM} {K x : Nat} {o : Dec} (g : h.GoodW 1048576) (k : ValD K h o) (hK : K + 2097152 ≤ 1073741824) (ht : o.t ≤ 255) (hx : x < h.sym) : FSpec P F.online_Push [vOn h o, .d (dI ((x + 1 : Nat)))] (.tup [vOn (pushH h o x) (pushD h o x), .d (ints (pushC h o x)), .d (dI (pushE h o x))]) := by
 have f := g.form
 have n0 := f.st0
 have n1 := f.st1
 have s1 := f.sym1
 have e1 := f.ini
 have e2 := f.trans
 have e4 := f.emit
 have hK1 := k.K1
 have htl := tails_lenV k
 have hdl := done_lenV k
 have hscl : o.sc.length ≤ 12 := by
   by_cases h0 : o.t = 0
   ·rw [(k.zero h0).1]; exact Nat.zero_le _
   ·rw [(k.len h0).1]; exact n1
 have zn := fun j => newS_szV f k x j
 have zfs := fun i => fillF_small (g := newS h o x) (C := K + 2097152) (n := h.st) (i := i) (fun j => (zn j).2) (by have := k.K1; omega)
 have hC2 : 1 ≤ K + 2097152 ∧ K + 2097152 ≤ 68719476736 := by omega
 have hnl := fun j => newT_len (h := h) (x := x) (j := j) htl
 refine FSpec.intro fn.online_Push (by rfl) (by rfl) (nb9 (by rfl)) fun E hE => (AW.sg hE rfl (bxA rfl rfl fun b2 => (al z.Online rfl fun b4 => (asM rfl (asD rfl (OL.nil (AW.seq ?_)))))))
 refine AW.block (AW.sg hE rfl (ldPA ag.Online rfl rfl (vs := [_,_,_,_,_,_,_,_,_,_,_,_,_,_,_]) rfl (nb9 rfl) (clv rfl (.cons (VLe.refl _) (.nil)) (on_ValidV g k) (nt rfl (asD rfl (OL.nil (AW.cond rfl (fun hno => absurd hno (by decide)) (fun _ => ?_))))))))
 refine AW.sg hE rfl (mvD rfl (c_lss rfl rfl (c := false) (by exact decide_eq_false (by omega)) (mvD rfl (OL.yes rfl (mvD rfl (OL.yes rfl (faP fd.Online_0 rfl rfl ?_)))))))
 refine OL.yes rfl (faP fd.Hidden_0 rfl rfl (OL.yes rfl (ldPC ce.int rfl rfl rfl (OL.yes rfl (c_gtr rfl rfl (c := false) (by exact decide_eq_false (by omega)) (pkF rfl rfl (mvD rfl ?_)))))))
 refine OL.yes rfl (faP fd.Online_1 rfl rfl (OL.yes rfl (ldPC ce.int rfl rfl rfl (OL.yes rfl (c_eql rfl rfl (c := false) (by exact decide_eq_false (by omega)) (pkF rfl rfl (asD rfl ?_)))))))
 refine OL.nil (AW.cond rfl (fun hno => absurd hno (by decide)) (fun _ => ?_))
 refine AW.skip (AW.sg hE rfl (faP fd.Online_0 rfl rfl (ldPA ag.Hidden rfl rfl (vs := [_,_,_,_,_,_,_,_,_,_,_]) rfl (nb9 rfl) (clv rfl (.cons (VLe.refl _) (.nil)) (fresh_Hidden f) (al z.Hidden rfl fun b7 => (sto sz.Hidden rfl rfl rfl rfl rfl (nb9 rfl) (cells2 := [_,_,_,_,_,_,_,_,_,_,_]) rfl (OL.nil ?_)))))))
 refine AW.seq (AW.region_plan (val6 h o.t b2 b7) (blk6 h) own6 12 order_free (by rw [hE]; rfl) (by rfl) (by kernel_rfl) (by kernel_rfl) ?_ ?_)
 ·refine cases12 ?_ ?_ ?_ ?_ ?_ ?_ ?_ ?_ ?_ ?_ ?_ ?_
  ·exact fun β L c => ⟨_, rfl, OG.of_OL (ldPA ag.Hidden ((pS_old rfl).trans rfl) (((pS_Mold rfl).trans rfl : _ = some (.box b7 T.Hidden (cellsHM h)))) (vs := cellsHM h) rfl (nb9 rfl) ⟨β, pS_put (d := 45) (i := 0) rfl (fun t ht => own6_inj ht) (lt_size 13 c.size rfl (by decide)) rfl⟩)⟩
  ·exact fun β L c => ⟨_, rfl, OG.of_OL (faP fd.Online_1 (b := b2) (o := 0) (id := 2) ((pS_old rfl).trans rfl) rfl ⟨β, pS_put (d := 46) (i := 1) rfl (fun t ht => own6_inj ht) (lt_size 13 c.size rfl (by decide)) rfl⟩)⟩
  ·exact fun β L c => ⟨_, rfl, OG.of_OL (ldPC ce.int (pS_new rfl (c.dep 1 (by kernel_rfl))) (((pS_Mold rfl).trans rfl : _ = some (.box b2 T.Online (cellsOn h o)))) (v := .d (dI o.t)) rfl ⟨β, pS_put (d := 47) (i := 2) rfl (fun t ht => own6_inj ht) (lt_size 13 c.size rfl (by decide)) rfl⟩)⟩
  ·exact fun β L c => ⟨_, rfl, OG.of_OL (bo (pS_new rfl (c.dep 2 (by kernel_rfl))) rfl (bin_add (c := ((o.t + 1 : Nat) : Int)) (by omega) (wrap_i64 (by omega))) ⟨β, pS_put (d := 48) (i := 3) rfl (fun t ht => own6_inj ht) (lt_size 13 c.size rfl (by decide)) rfl⟩)⟩
  ·exact fun β L c => ⟨_, rfl, OG.of_OL (faP fd.Hidden_1 (b := b7) (o := 0) (id := 7) ((pS_old rfl).trans rfl) rfl ⟨β, pS_put (d := 49) (i := 4) rfl (fun t ht => own6_inj ht) (lt_size 13 c.size rfl (by decide)) rfl⟩)⟩
  ·exact fun β L c => ⟨_, rfl, OG.of_OL (ldPC ce.int (pS_new rfl (c.dep 4 (by kernel_rfl))) (((pS_Mold rfl).trans rfl : _ = some (.box b7 T.Hidden (cellsHM h)))) (v := .d (dI h.st)) rfl ⟨β, pS_put (d := 50) (i := 5) rfl (fun t ht => own6_inj ht) (lt_size 13 c.size rfl (by decide)) rfl⟩)⟩
  ·exact fun β L c => ⟨_, rfl, OG.of_OL (mkL dQ 0 sl.Rats z.Rat vcs_q0 (n := h.st) (cp := h.st) (k := .i64) (k2 := .i64) (pS_new rfl (c.dep 5 (by kernel_rfl))) (pS_new rfl (c.dep 5 (by kernel_rfl))) (Nat.le_refl _) (by omega) (by omega) ((pS_M0 (t := 51) (i := 6) rfl c.no).trans rfl) fun b => ⟨upd β 51 (b, 0), pS_add (d := 51) (i := 6) (x := (b, 0)) rfl (fun t ht => own6_inj ht) (lt_size 13 c.size rfl (by decide)) rfl rfl (fun t j ho hl => by unfold own6 at ho; split at ho <;> cases ho <;> first | exact ⟨rfl, rfl⟩ | (rw [c.no] at hl; cases hl) | (have hc := c.closed 10 6 hl (by kernel_rfl); rw [c.no] at hc; cases hc))⟩)⟩
  ·exact fun β L c => ⟨_, rfl, OG.of_OL (faP fd.Hidden_1 (b := b7) (o := 0) (id := 7) ((pS_old rfl).trans rfl) rfl ⟨β, pS_put (d := 52) (i := 7) rfl (fun t ht => own6_inj ht) (lt_size 13 c.size rfl (by decide)) rfl⟩)⟩
  ·exact fun β L c => ⟨_, rfl, OG.of_OL (ldPC ce.int (pS_new rfl (c.dep 7 (by kernel_rfl))) (((pS_Mold rfl).trans rfl : _ = some (.box b7 T.Hidden (cellsHM h)))) (v := .d (dI h.st)) rfl ⟨β, pS_put (d := 53) (i := 8) rfl (fun t ht => own6_inj ht) (lt_size 13 c.size rfl (by decide)) rfl⟩)⟩
  ·exact fun β L c => ⟨_, rfl, OG.of_OL (mkL ints [] sl.intss z.ints vcs_mt_rowF (n := h.st) (cp := h.st) (k := .i64) (k2 := .i64) (pS_new rfl (c.dep 8 (by kernel_rfl))) (pS_new rfl (c.dep 8 (by kernel_rfl))) (Nat.le_refl _) (by omega) (by omega) ((pS_M0 (t := 54) (i := 9) rfl c.no).trans rfl) fun b => ⟨upd β 54 (b, 0), pS_add (d := 54) (i := 9) (x := (b, 0)) rfl (fun t ht => own6_inj ht) (lt_size 13 c.size rfl (by decide)) rfl rfl (fun t j ho hl => by unfold own6 at ho; split at ho <;> cases ho <;> first | exact ⟨rfl, rfl⟩ | (rw [c.no] at hl; cases hl) | (have hc := c.closed 10 9 hl (by kernel_rfl); rw [c.no] at hc; cases hc))⟩)⟩
  ·exact fun β L c => ⟨_, rfl, OG.of_OL (bd2 (cs := [_,_,_,_,_,_,_,_,_,_,_,_,_,_,_]) z.Online pl.Online (pvC (pS_new rfl (c.dep 0 (by kernel_rfl))) (pvC (pS_new rfl (c.dep 3 (by kernel_rfl))) (pvC (pS_new rfl (c.dep 6 (by kernel_rfl))) (pvC (pS_new rfl (c.dep 9 (by kernel_rfl))) pvN)))) (by rfl) ⟨β, pS_put (d := 55) (i := 10) rfl (fun t ht => own6_inj ht) (lt_size 13 c.size rfl (by decide)) rfl⟩)⟩
  ·exact fun β L c => ⟨_, rfl, OG.of_OL (al z.Online ((pS_M0 (t := 8) (i := 11) rfl c.no).trans rfl) fun b => ⟨upd β 8 (b, 0), pS_add (d := 8) (i := 11) (x := (b, 0)) rfl (fun t ht => own6_inj ht) (lt_size 13 c.size rfl (by decide)) rfl rfl (fun t j ho hl => by unfold own6 at ho; split at ho <;> cases ho <;> first | exact ⟨rfl, rfl⟩ | (rw [c.no] at hl; cases hl) | (have hc := c.closed 10 11 hl (by kernel_rfl); rw [c.no] at hc; cases hc))⟩)⟩
 refine fun β L c => ⟨_, rfl, OG.of_OL (sto sz.Online (pS_new rfl (c.dep 11 (by kernel_rfl))) (pS_new rfl (c.dep 10 (by kernel_rfl))) rfl (pS_M rfl (c.dep 11 (by kernel_rfl)) rfl) rfl (nb9 rfl) (cells2 := (cellsOw h (o.t + 1) (β 51).1 (β 54).1 h.st)) rfl ?_)⟩
 refine AW.to [(1, _), (2, _), (4, _), (5, _), (6, _), (7, _), (8, .ptr 8 (β 8).1 0)] [(2, _), (4, _), (7, _), (8, .box (β 8).1 T.Online (cellsOw h (o.t + 1) (β 51).1 (β 54).1 h.st)), (51, .row (β 51).1 h.st T.Rat 3 ((List.replicate h.st 0).map dQ)), (54, .row (β 54).1 h.st T.ints 1 ((List.replicate h.st []).map ints))] (.cons (vle_of_eq (rhoS ((pS_old rfl).trans rfl))) (.cons (vle_of_eq (rhoS ((pS_old rfl).trans rfl))) (.cons (vle_of_eq (rhoS ((pS_old rfl).trans rfl))) (.cons (vle_of_eq (rhoS ((pS_old rfl).trans rfl))) (.cons (vle_of_eq (rhoS ((pS_old rfl).trans rfl))) (.cons (vle_of_eq (rhoS ((pS_old rfl).trans rfl))) (.cons (vle_of_eq (rhoS (pS_new rfl (c.dep 11 (by kernel_rfl))))) (.nil)))))))) (.cons (upneS (show (2:Nat) ≠ 8 by decide) ((pS_Mold (t := 2) rfl).trans rfl)) (.cons (upneS (show (4:Nat) ≠ 8 by decide) ((pS_Mold (t := 4) rfl).trans rfl)) (.cons (upneS (show (7:Nat) ≠ 8 by decide) ((pS_Mold (t := 7) rfl).trans rfl)) (.cons upsmS (.cons (upneS (show (51:Nat) ≠ 8 by decide) (pS_M (t := 51) (i := 6) rfl (c.dep 6 (by kernel_rfl)) rfl)) (.cons (upneS (show (54:Nat) ≠ 8 by decide) (pS_M (t := 54) (i := 9) rfl (c.dep 9 (by kernel_rfl)) rfl)) (.nil))))))) ?_
 generalize (β 8).1 = b8
 generalize (β 51).1 = b51
 generalize (β 54).1 = b54
 refine AW.sg hE rfl (asD rfl (OL.nil (AW.seq (AW.sg hE rfl (faP fd.Hidden_1 rfl rfl (ldPC ce.int rfl rfl rfl (mvD rfl ?_)))))))
 refine OL.nil (AW.block ?_)
 refine AW.whileK (α := Nat) [(1, _), (2, _), (4, _), (5, _), (6, _), (7, _), (8, _), (57, _)] [(2, _), (4, _), (7, _), (8, _)] (fun j => [(9, .d (dB (someN h o x j))), (58, .d (dI j))]) (fun j => [(51, .row b51 h.st T.Rat 3 ((fillF 0 (newS h o x) h.st j).map dQ)), (54, .row b54 h.st T.ints 1 ((fillF [] (newT h o x) h.st j).map ints))]) (fun j => j ≤ h.st) (fun j => h.st - j) 0 (.cons (knD rfl) (.cons (knP rfl) (.cons (knP rfl) (.cons (knM rfl) (.cons (knD rfl) (.cons (knP rfl) (.cons (knP rfl) (.cons (knD rfl) .nil)))))))) (.cons (owB rfl) (.cons (owB rfl) (.cons (owB rfl) (.cons (owB rfl) .nil)))) ⟨Nat.zero_le _, .rq2, .cons (by rw [fillF_zero]; rfl) (.cons (by rw [fillF_zero]; rfl) .nil)⟩ ?_
 intro j h1
 have h1 : j ≤ h.st := h1
 have hfl := fillF_len 0 (newS h o x) h.st j
 have hfl2 := fillF_len [] (newT h o x) h.st j
 refine AW.sg hE rfl (c_lss rfl rfl rfl (OL.nil (AW.seq (AW.cond rfl (fun h59 => ?_) (fun h59 => ?_)))))
 ·try simp only [dx9] at h59
  refine AW.skip ?_
  refine AW.midK (α := Unit) [(1, _), (2, _), (4, _), (5, _), (6, _), (7, _), (8, _), (57, _), (58, _)] [(2, _), (4, _), (7, _), (8, _)] (fun _u => [(9, .d (dB (someN h o x (j + 1))))]) (fun _u => [(51, .row b51 h.st T.Rat 3 ((fillF 0 (newS h o x) h.st (j + 1)).map dQ)), (54, .row b54 h.st T.ints 1 ((fillF [] (newT h o x) h.st (j + 1)).map ints))]) (fun _u => True) (.cons (knD rfl) (.cons (knP rfl) (.cons (knP rfl) (.cons (knM rfl) (.cons (knD rfl) (.cons (knP rfl) (.cons (knP rfl) (.cons (knD rfl) (.cons (knD rfl) .nil))))))))) (.cons (owB rfl) (.cons (owB rfl) (.cons (owB rfl) (.cons (owB rfl) .nil)))) ?_ ?_
  ·refine AW.block (AW.seq ?_)
   have hj : j < h.st := by omega
   refine AW.rg hE rfl (mvD rfl (asD rfl (OL.nil (AW.sg hE rfl (al z.Rat rfl fun b11 => (OL.nil (AW.sg hE rfl ?_)))))))
   refine asM rfl (OL.nil ?_)
   refine AW.midK (α := Nat) [(1, _), (2, _), (4, _), (5, _), (6, _), (7, _), (8, _), (9, _), (57, _), (58, _)] [(2, _), (4, _), (7, _), (8, _), (51, _), (54, _)] (fun b11 => [(10, .d (dI j)), (11, .ptr 11 b11 0), (12, .d (ints []))]) (fun b11 => [(11, .box b11 T.Rat (cellsQ (pickF h o j 0).1))]) (fun b11 => True) (.cons (knD rfl) (.cons (knP rfl) (.cons (knP rfl) (.cons (knM rfl) (.cons (knD rfl) (.cons (knP rfl) (.cons (knP rfl) (.cons (knD rfl) (.cons (knD rfl) (.cons (knD rfl) .nil)))))))))) (.cons (owB rfl) (.cons (owB rfl) (.cons (owB rfl) (.cons (owB rfl) (.cons (owR rfl) (.cons (owR rfl) .nil)))))) ?_ ?_
   ·refine AW.sg hE rfl (faP fd.Online_1 rfl rfl (ldPC ce.int rfl rfl rfl (c_eql rfl rfl rfl (OL.nil (AW.cond rfl (fun h0 => ?_) (fun h0 => ?_))))))
    ·have h0 : o.t = 0 := by have := of_decide_eq_true h0; omega
     refine AW.rg hE rfl (faP fd.Hidden_3 rfl rfl (ldPC ce.Rats rfl rfl rfl (mvD rfl (ixLn sl.Rats 0 rfl rfl (by omega) rfl rfl (ldRA ag.Rat rfl (vs := [_,_,_]) rfl (nb9 rfl) (sto sz.Rat rfl rfl rfl rfl rfl (nb9 rfl) (cells2 := [_,_,_]) rfl (OL.nil ?_)))))))
     exact AW.reach b11 ⟨trivial, Knows.app .rq10 (.cons (VLe.refl _) (.cons (VLe.refl _) (.cons (VLe.mt) .nil))), Owns.app (.cons rfl (.cons rfl (.cons rfl (.cons rfl (.cons rfl (.cons rfl .nil)))))) (.cons (by rw [pickF, if_pos h0]; rfl) .nil)⟩
    ·have h0 : o.t ≠ 0 := fun e => of_decide_eq_false h0 (by omega)
     refine AW.boxW 11 (cellsQ 0) rfl vles_q (AW.skip ?_)
     exact AW.reach b11 ⟨trivial, Knows.app .rq10 (.cons (VLe.refl _) (.cons (VLe.refl _) (.cons (VLe.mt) .nil))), Owns.app (.cons rfl (.cons rfl (.cons rfl (.cons rfl (.cons rfl (.cons rfl .nil)))))) (.cons (by rw [pickF, if_neg h0]; rfl) .nil)⟩
   rintro b11 hφ
   have hj : j < h.st := by omega
   refine AW.seq (AW.sg hE rfl (faP fd.Online_2 rfl rfl (ldPC ce.Rats rfl rfl rfl (lnL sl.Rats rfl rfl (mvD rfl (OL.nil (AW.block ?_)))))))
   refine AW.whileK (α := Nat) [(1, _), (2, _), (4, _), (5, _), (6, _), (7, _), (8, _), (9, _), (10, _), (11, _), (57, _), (58, _), (70, _), (71, _)] [(2, _), (4, _), (7, _), (8, _), (51, _), (54, _)] (fun i => [(12, .d (ints (pickF h o j i).2)), (72, .d (dI i))]) (fun i => [(11, .box b11 T.Rat (cellsQ (pickF h o j i).1))]) (fun i => i ≤ o.sc.length) (fun i => o.sc.length - i) 0 (.cons (knD rfl) (.cons (knP rfl) (.cons (knP rfl) (.cons (knM rfl) (.cons (knD rfl) (.cons (knP rfl) (.cons (knP rfl) (.cons (knD rfl) (.cons (knD rfl) (.cons (knP rfl) (.cons (knD rfl) (.cons (knD rfl) (.cons (knD rfl) (.cons (knD rfl) .nil)))))))))))))) (.cons (owB rfl) (.cons (owB rfl) (.cons (owB rfl) (.cons (owB rfl) (.cons (owR rfl) (.cons (owR rfl) .nil)))))) ⟨Nat.zero_le _, .rq2, .cons rfl .nil⟩ ?_
   intro i h3
   have h3 : i ≤ o.sc.length := h3
   have zp := (zn j).1 i
   have zs := k.small.get hK1.1 i
   have zt := tr_szV f i j
   have zc : sz (comeQ h o j i) ≤ sz (o.sc.getD i 0) + sz (trQ h i j) := sz_mul (o.sc.getD i 0) (trQ h i j)
   have hpkl := pick_len (h := h) (j := j) htl i
   refine AW.sg hE rfl (c_lss rfl rfl rfl (OL.nil (AW.seq (AW.cond rfl (fun h73 => ?_) (fun h73 => ?_)))))
   ·try simp only [dx9] at h73
    refine AW.skip ?_
    refine AW.midK (α := Unit) [(1, _), (2, _), (4, _), (5, _), (6, _), (7, _), (8, _), (9, _), (10, _), (11, _), (57, _), (58, _), (70, _), (71, _), (72, _)] [(2, _), (4, _), (7, _), (8, _), (51, _), (54, _)] (fun _u => [(12, .d (ints (pickF h o j (i + 1)).2))]) (fun _u => [(11, .box b11 T.Rat (cellsQ (pickF h o j (i + 1)).1))]) (fun _u => True) (.cons (knD rfl) (.cons (knP rfl) (.cons (knP rfl) (.cons (knM rfl) (.cons (knD rfl) (.cons (knP rfl) (.cons (knP rfl) (.cons (knD rfl) (.cons (knD rfl) (.cons (knP rfl) (.cons (knD rfl) (.cons (knD rfl) (.cons (knD rfl) (.cons (knD rfl) (.cons (knD rfl) .nil))))))))))))))) (.cons (owB rfl) (.cons (owB rfl) (.cons (owB rfl) (.cons (owB rfl) (.cons (owR rfl) (.cons (owR rfl) .nil)))))) ?_ ?_
    ·refine AW.block (AW.seq ?_)
     have hn0 : o.t ≠ 0 := fun e => by have h6 := congrArg List.length (k.zero e).1; rw [List.length_nil] at h6; omega
     obtain ⟨l1, l2⟩ := k.len hn0
     have ti := f.trow i (by omega)
     refine AW.rg hE rfl (mvD rfl (ixLn sl.Rats 0 rfl rfl (by omega) rfl rfl (ldRA ag.Rat rfl (vs := [_,_,_]) rfl (nb9 rfl) (al z.Rat rfl fun b14 => (asD rfl (sto sz.Rat rfl rfl rfl rfl rfl (nb9 rfl) (cells2 := [_,_,_]) rfl (OL.nil ?_)))))))
     refine AW.seq (AW.dg 1 [0,1,2,3,4,5,6,7,8,9,10,11] order_free hE rfl (by kernel_rfl) (OI.of_OL (os := [_,_,_,_,_,_,_,_,_,_,_,_]) rfl ?_))
     refine ldPA ag.Rat rfl rfl (vs := [_,_,_]) rfl (nb9 rfl) (faP fd.Hidden_4 rfl rfl (ldPC ce.Ratss rfl rfl rfl (mvD rfl (ixLn sl.Ratss [] rfl rfl (by omega) rfl rfl (ldRC ce.Rats rfl (mvD rfl (ixLn sl.Rats 0 rfl rfl (by omega) rfl rfl ?_)))))))
     refine ldRA ag.Rat rfl (vs := [_,_,_]) rfl (nb9 rfl) (clv rfl (.cons (VLe.refl _) (.cons (VLe.refl _) (.nil))) (rational_MulQ (x := o.sc.getD i 0) (y := trQ h i j) (by omega) (by omega)) ?_)
     rw [show o.sc.getD i 0 * trQ h i j = (comeQ h o j i) from rfl]
     refine al z.Rat rfl fun b15 => (sto sz.Rat rfl rfl rfl rfl rfl (nb9 rfl) (cells2 := [_,_,_]) rfl (OL.nil (AW.sg hE rfl (ldPA ag.Rat rfl rfl (vs := [_,_,_]) rfl (nb9 rfl) (ldPA ag.Rat rfl rfl (vs := [_,_,_]) rfl (nb9 rfl) (clv rfl (.cons (VLe.refl _) (.cons (VLe.refl _) (.nil))) (rational_CompareQ (x := (comeQ h o j i)) (y := (pickF h o j i).1) (by omega) (by omega)) (asD rfl ?_)))))))
     refine OL.nil ?_
     refine AW.midK (α := Unit) [(1, _), (2, _), (4, _), (5, _), (6, _), (7, _), (8, _), (9, _), (10, _), (11, _), (12, _), (13, _), (15, _), (57, _), (58, _), (70, _), (71, _), (72, _)] [(2, _), (4, _), (7, _), (8, _), (11, _), (15, _), (51, _), (54, _)] (fun _u => [(110, .d (dB (decide (betterP (comeQ h o j i) (o.tl.getD i []) (pickF h o j i)))))]) (fun _u => []) (fun _u => True) (.cons (knD rfl) (.cons (knP rfl) (.cons (knP rfl) (.cons (knM rfl) (.cons (knD rfl) (.cons (knP rfl) (.cons (knP rfl) (.cons (knD rfl) (.cons (knD rfl) (.cons (knP rfl) (.cons (knD rfl) (.cons (knD rfl) (.cons (knP rfl) (.cons (knD rfl) (.cons (knD rfl) (.cons (knD rfl) (.cons (knD rfl) (.cons (knD rfl) .nil)))))))))))))))))) (.cons (owB rfl) (.cons (owB rfl) (.cons (owB rfl) (.cons (owB rfl) (.cons (owB rfl) (.cons (owB rfl) (.cons (owR rfl) (.cons (owR rfl) .nil)))))))) ?_ ?_
     ·refine AW.rg hE rfl (mvD rfl (c_gtr rfl rfl rfl (mvD rfl (OL.split 92 rfl (fun g1 => ?_) (fun g1 => ?_)))))
      ·have g1 := cmpQ_gt.1 (of_decide_eq_true g1)
       refine OL.nd rfl (OL.nd rfl (OL.nd rfl (OL.nd rfl (OL.nd rfl (OL.nd rfl (OL.nd rfl (OL.nd rfl ?_)))))))
       refine OL.nd rfl (OL.nd rfl (OL.nd rfl (OL.nd rfl (OL.nd rfl (OL.nd rfl (OL.nd rfl (OL.nd rfl ?_)))))))
       refine OL.nd rfl (pkT rfl rfl (OL.nil ?_))
       exact AW.reach () ⟨trivial, Knows.app .rq18 (.cons (VLe.bool ((decide_eq_true (.inl g1)).symm)) .nil), Owns.app (.cons rfl (.cons rfl (.cons rfl (.cons rfl (.cons rfl (.cons rfl (.cons rfl (.cons rfl .nil)))))))) (.nil)⟩
      ·have g1 : ¬ (pickF h o j i).1 < (comeQ h o j i) := fun e => of_decide_eq_false g1 (cmpQ_gt.2 e)
       refine OL.yes rfl (mvD rfl (OL.yes rfl (c_eql rfl rfl rfl (OL.yes rfl (mvD rfl (OL.split 95 rfl (fun g2 => ?_) (fun g2 => ?_)))))))
       ·have g2 : (comeQ h o j i) = (pickF h o j i).1 := cmpQ_eq.1 (of_decide_eq_true g2)
        refine OL.yes rfl (ldPA ag.Rat rfl rfl (vs := [_,_,_]) rfl (nb9 rfl) (OL.yes rfl (clv rfl (.cons (VLe.refl _) (.nil)) (rational_SignQ (x := (comeQ h o j i)) (by omega)) (OL.yes rfl (c_gtr rfl rfl rfl (OL.yes rfl (pkT rfl rfl ?_)))))))
        refine OL.yes rfl (mvD rfl (OL.split 100 rfl (fun g3 => ?_) (fun g3 => ?_)))
        ·have g3 : 0 < (comeQ h o j i) := sgn_gt.1 (of_decide_eq_true g3)
         refine OL.yes rfl (faP fd.Online_3 rfl rfl (OL.yes rfl (ldPC ce.intss rfl rfl rfl (OL.yes rfl (mvD rfl (OL.yes rfl (ixLn sl.intss [] rfl rfl (by omega) rfl rfl ?_)))))))
         refine OL.yes rfl (ldRC ce.ints rfl (OL.yes rfl (mvD rfl (OL.yes rfl (clv rfl (.cons (VLe.refl _) (.cons (VLe.refl _) (.nil))) (compare_ints (by have := htl i; omega)) (OL.yes rfl (c_lss rfl rfl rfl ?_)))))))
         refine OL.yes rfl (pkT rfl rfl (pkF rfl rfl (OL.nil ?_)))
         exact AW.reach () ⟨trivial, Knows.app .rq18 (.cons (VLe.bool (decide_eq_decide.2 ⟨fun e => .inr ⟨g2, g3, e⟩, fun e => (e.resolve_left g1).2.2⟩)) .nil), Owns.app (.cons rfl (.cons rfl (.cons rfl (.cons rfl (.cons rfl (.cons rfl (.cons rfl (.cons rfl .nil)))))))) (.nil)⟩
        ·have g3 : ¬ 0 < (comeQ h o j i) := fun e => of_decide_eq_false g3 (sgn_gt.2 e)
         refine OL.nd rfl (OL.nd rfl (OL.nd rfl (OL.nd rfl (OL.nd rfl (OL.nd rfl (OL.nd rfl (OL.nd rfl ?_)))))))
         refine OL.yes rfl (pkF rfl rfl (pkF rfl rfl (OL.nil ?_)))
         exact AW.reach () ⟨trivial, Knows.app .rq18 (.cons (VLe.bool ((decide_eq_false fun e => g3 (e.resolve_left g1).2.1).symm)) .nil), Owns.app (.cons rfl (.cons rfl (.cons rfl (.cons rfl (.cons rfl (.cons rfl (.cons rfl (.cons rfl .nil)))))))) (.nil)⟩
       ·have g2 : (comeQ h o j i) ≠ (pickF h o j i).1 := fun e => of_decide_eq_false g2 (cmpQ_eq.2 e)
        refine OL.nd rfl (OL.nd rfl (OL.nd rfl (OL.yes rfl (pkF rfl rfl (OL.yes rfl (mvD rfl (OL.nd rfl ?_)))))))
        refine OL.nd rfl (OL.nd rfl (OL.nd rfl (OL.nd rfl (OL.nd rfl (OL.nd rfl (OL.nd rfl (OL.yes rfl ?_)))))))
        refine pkF rfl rfl (pkF rfl rfl (OL.nil ?_))
        exact AW.reach () ⟨trivial, Knows.app .rq18 (.cons (VLe.bool ((decide_eq_false fun e => g2 (e.resolve_left g1).1).symm)) .nil), Owns.app (.cons rfl (.cons rfl (.cons rfl (.cons rfl (.cons rfl (.cons rfl (.cons rfl (.cons rfl .nil)))))))) (.nil)⟩
     rintro ⟨⟩ hφ
     refine AW.cond rfl (fun gb => ?_) (fun gb => ?_)
     ·have gb := of_decide_eq_true gb
      have hpk : (pickF h o j (i + 1)) = ((comeQ h o j i), o.tl.getD i []) := if_pos gb
      refine AW.region_plan (val21 o (comeQ h o j i) b2 b11 i) (blk21 (comeQ h o j i) b11) own21 7 order_free (by rw [hE]; rfl) (by rfl) (by kernel_rfl) (by kernel_rfl) ?_ ?_
      ·refine cases7 ?_ ?_ ?_ ?_ ?_ ?_ ?_
       ·exact fun β L c => ⟨_, rfl, OG.of_OL (ldPA ag.Rat ((pS_old rfl).trans rfl) ((pS_Mold rfl).trans rfl) (vs := cellsQ (comeQ h o j i)) rfl (nb9 rfl) ⟨β, pS_put (d := 111) (i := 0) rfl (fun t ht => own21_inj ht) (lt_size 8 c.size rfl (by decide)) rfl⟩)⟩
       ·exact fun β L c => ⟨_, rfl, OG.of_OL (faP fd.Online_3 (b := b2) (o := 0) (id := 2) ((pS_old rfl).trans rfl) rfl ⟨β, pS_put (d := 112) (i := 1) rfl (fun t ht => own21_inj ht) (lt_size 8 c.size rfl (by decide)) rfl⟩)⟩
       ·exact fun β L c => ⟨_, rfl, OG.of_OL (ldPC ce.intss (pS_new rfl (c.dep 1 (by kernel_rfl))) (((pS_Mold rfl).trans rfl : _ = some (.box b2 T.Online (cellsOn h o)))) (v := .d (dIss o.tl)) rfl ⟨β, pS_put (d := 113) (i := 2) rfl (fun t ht => own21_inj ht) (lt_size 8 c.size rfl (by decide)) rfl⟩)⟩
       ·exact fun β L c => ⟨_, rfl, OG.of_OL (mvD (y := dI i) ((pS_old rfl).trans rfl) ⟨β, pS_put (d := 114) (i := 3) rfl (fun t ht => own21_inj ht) (lt_size 8 c.size rfl (by decide)) rfl⟩)⟩
       ·exact fun β L c => ⟨_, rfl, OG.of_OL (ixLn sl.intss [] (l := o.tl) (f := ints) (i := i) (pS_new rfl (c.dep 2 (by kernel_rfl))) (pS_new rfl (c.dep 3 (by kernel_rfl))) (by omega) (cs := (ints (o.tl.getD i [])).cells) rfl rfl ⟨β, pS_put (d := 115) (i := 4) rfl (fun t ht => own21_inj ht) (lt_size 8 c.size rfl (by decide)) rfl⟩)⟩
       ·exact fun β L c => ⟨_, rfl, OG.of_OL (ldRC ce.ints (pS_new rfl (c.dep 4 (by kernel_rfl))) ⟨β, pS_put (d := 116) (i := 5) rfl (fun t ht => own21_inj ht) (lt_size 8 c.size rfl (by decide)) rfl⟩)⟩
       ·exact fun β L c => ⟨_, rfl, OG.of_OL (sto sz.Rat ((pS_rho0 (t := 11) (i := 6) rfl c.no).trans rfl) (pS_new rfl (c.dep 0 (by kernel_rfl))) rfl ((pS_M0 (t := 11) (i := 6) rfl c.no).trans rfl) rfl (nb9 rfl) (cells2 := cellsQ (comeQ h o j i)) rfl ⟨β, pS_sto (d := 11) (i := 6) rfl (fun t ht => own21_inj ht) (lt_size 8 c.size rfl (by decide)) c.no rfl rfl⟩)⟩
      refine fun β L c => ⟨_, rfl, OG.of_OL (asD (y := ints (o.tl.getD i [])) (pS_new rfl (c.dep 5 (by kernel_rfl))) ?_)⟩
      refine OL.nil ?_
      exact AW.reach () ⟨trivial, Knows.app (.cons (vle_of_eq (putneS (show (1:Nat) ≠ 12 by decide) ((pS_old rfl).trans rfl))) (.cons (vle_of_eq (putneS (show (2:Nat) ≠ 12 by decide) ((pS_old rfl).trans rfl))) (.cons (vle_of_eq (putneS (show (4:Nat) ≠ 12 by decide) ((pS_old rfl).trans rfl))) (.cons (vle_of_eq (putneS (show (5:Nat) ≠ 12 by decide) ((pS_old rfl).trans rfl))) (.cons (vle_of_eq (putneS (show (6:Nat) ≠ 12 by decide) ((pS_old rfl).trans rfl))) (.cons (vle_of_eq (putneS (show (7:Nat) ≠ 12 by decide) ((pS_old rfl).trans rfl))) (.cons (vle_of_eq (putneS (show (8:Nat) ≠ 12 by decide) ((pS_old rfl).trans rfl))) (.cons (vle_of_eq (putneS (show (9:Nat) ≠ 12 by decide) ((pS_old rfl).trans rfl))) (.cons (vle_of_eq (putneS (show (10:Nat) ≠ 12 by decide) ((pS_old rfl).trans rfl))) (.cons (vle_of_eq (putneS (show (11:Nat) ≠ 12 by decide) (pS_new (t := 11) (i := 6) rfl (c.dep 6 (by kernel_rfl))))) (.cons (vle_of_eq (putneS (show (57:Nat) ≠ 12 by decide) ((pS_old rfl).trans rfl))) (.cons (vle_of_eq (putneS (show (58:Nat) ≠ 12 by decide) ((pS_old rfl).trans rfl))) (.cons (vle_of_eq (putneS (show (70:Nat) ≠ 12 by decide) ((pS_old rfl).trans rfl))) (.cons (vle_of_eq (putneS (show (71:Nat) ≠ 12 by decide) ((pS_old rfl).trans rfl))) (.cons (vle_of_eq (putneS (show (72:Nat) ≠ 12 by decide) ((pS_old rfl).trans rfl))) (.nil)))))))))))))))) (.cons (vle_of_eq (putsmS.trans (by rw [hpk]))) .nil), Owns.app (.cons (putM ((pS_Mold (t := 2) rfl).trans rfl)) (.cons (putM ((pS_Mold (t := 4) rfl).trans rfl)) (.cons (putM ((pS_Mold (t := 7) rfl).trans rfl)) (.cons (putM ((pS_Mold (t := 8) rfl).trans rfl)) (.cons (putM ((pS_Mold (t := 51) rfl).trans rfl)) (.cons (putM ((pS_Mold (t := 54) rfl).trans rfl)) (.nil))))))) (.cons (putM ((pS_M (t := 11) (i := 6) rfl (c.dep 6 (by kernel_rfl)) rfl).trans (by rw [hpk]))) .nil)⟩
     ·have gb := of_decide_eq_false gb
      have hpk : (pickF h o j (i + 1)) = (pickF h o j i) := if_neg gb
      refine AW.skip ?_
      exact AW.reach () ⟨trivial, Knows.app .rq15 (.cons (vle_of_eq (by rw [hpk]; rfl)) .nil), Owns.app (.cons rfl (.cons rfl (.cons rfl (.cons rfl (.cons rfl (.cons rfl .nil)))))) (.cons (by rw [hpk]; rfl) .nil)⟩
    rintro ⟨⟩ hφ
    refine AW.rg hE rfl (add_i64 rfl rfl (by omega) (mvD rfl (OL.nil ?_)))
    exact AW.again (x := i) (i + 1) (by omega) ⟨by omega, Knows.app .rq14 .rq2, Owns.app (.cons rfl (.cons rfl (.cons rfl (.cons rfl (.cons rfl (.cons rfl .nil)))))) (.cons rfl .nil)⟩
   ·try simp only [dx9] at h73
    refine AW.exit (AW.seq ?_)
    obtain rfl : i = o.sc.length := by omega
    have ej := f.erow j hj
    have zem := em_szV f j x
    have zpn := (zn j).1 o.sc.length
    refine AW.dg 1 [0,1,2,3,4,5,6,7,8,9,10,11,12,13,14,15] order_free hE rfl (by kernel_rfl) (OI.of_OL (os := [_,_,_,_,_,_,_,_,_,_,_,_,_,_,_,_]) rfl ?_)
    refine faP fd.Online_2 rfl rfl (ldPC ce.Rats rfl rfl rfl (mvD rfl (ldPA ag.Rat rfl rfl (vs := [_,_,_]) rfl (nb9 rfl) (faP fd.Hidden_6 rfl rfl (ldPC ce.Ratss rfl rfl rfl (mvD rfl (ixLn sl.Ratss [] rfl rfl (by omega) rfl rfl ?_)))))))
    refine ldRC ce.Rats rfl (mvD rfl (bo rfl rfl (bin_sub (c := (x : Int)) (by omega) (wrap_i64 (by omega))) (ixLn sl.Rats 0 rfl rfl (by omega) rfl rfl (ldRA ag.Rat rfl (vs := [_,_,_]) rfl (nb9 rfl) (clv rfl (.cons (VLe.refl _) (.cons (VLe.refl _) (.nil))) (rational_MulQ (x := (pickF h o j o.sc.length).1) (y := emQ h j x) (by omega) (by omega)) ?_)))))
    rw [show (pickF h o j o.sc.length).1 * emQ h j x = newS h o x j from rfl]
    refine ixOn sl.Rats rfl rfl hj (stE sz.Rat rfl vd_q rfl rfl (by rw [List.length_map]; omega) (es2 := (fillF 0 (newS h o x) h.st (j + 1)).map dQ) (by rw [← fillF_set (g := (newS h o x)) hj, List.map_set]) (OL.nil (AW.seq ?_)))
    have hfl3 := fillF_len 0 (newS h o x) h.st (j + 1)
    have hga : (fillF 0 (newS h o x) h.st (j + 1)).getD j 0 = newS h o x j := fillF_get hj (Nat.lt_succ_self j)
    refine AW.rg hE rfl (ldPA ag.Online rfl rfl (vs := [_,_,_,_,_,_,_,_,_,_,_,_,_,_,_]) rfl (nb9 rfl) (mvD rfl (clC0 rfl .rq2 (on_aliveO (h := h) (t := o.t + 1) (b1 := b51) (b2 := b54) (n := h.st) (i := j) (l := (fillF 0 (newS h o x) h.st (j + 1))) (zfs (j + 1)) hC2 (by omega) (by omega)) (mem1_keep (id := 51) rfl) ?_)))
    rw [hga]
    refine OL.nil (AW.cond rfl (fun hal => ?_) (fun hal => ?_))
    ·have hal := of_decide_eq_true hal
     have hpl2 := pick_len (h := h) (j := j) htl o.sc.length
     have hnt : newT h o x j = (pickF h o j o.sc.length).2 ++ [(j : Int)] := if_pos hal
     refine AW.dg 284 [0,1,2,3,5,6,4,7,8,9,10] order_free hE rfl (by kernel_rfl) (OI.of_OL (os := [_,_,_,_,_,_,_,_,_,_,_]) rfl ?_)
     refine faP fd.Online_3 rfl rfl (ldPC ce.intss rfl rfl rfl (mvD rfl (mvD rfl (mvD rfl (lt1 sl.ints (VC.d _).vd rfl (by decide) (clRd rfl .rq1 (clone_intsR (l := (pickF h o j o.sc.length).2) (by omega)) rfl rfl fun b140 c140 => (apOD sl.ints rfl rfl rfl (by rw [List.length_map]) (VC.d _) (by simp [D.cells]) (by simp only [List.length_singleton]; omega) (by simp only [List.length_singleton]; omega) (.inl rfl) (ys := (pickF h o j o.sc.length).2.map dI ++ [dI j]) rfl ?_)))))))
     rw [show D.sl ((pickF h o j o.sc.length).2.map dI ++ [dI j]) = ints (newT h o x j) by rw [hnt, ints, List.map_append]; rfl]
     refine ixOn sl.intss rfl rfl hj (stE sz.ints rfl (VC.d _).vd rfl rfl (by rw [List.length_map]; omega) (es2 := (fillF [] (newT h o x) h.st (j + 1)).map ints) (by rw [← fillF_set (g := (newT h o x)) hj, List.map_set]) (asD rfl (OL.nil ?_)))
     exact AW.reach () ⟨trivial, Knows.app .rq9 (.cons (VLe.bool (by rw [someN, if_pos hal])) .nil), Owns.app (.cons rfl (.cons rfl (.cons rfl (.cons rfl .nil)))) (.cons rfl (.cons rfl .nil))⟩
    ·have hal := of_decide_eq_false hal
     refine AW.skip ?_
     exact AW.reach () ⟨trivial, Knows.app .rq9 (.cons (VLe.bool (by rw [someN, if_neg hal])) .nil), Owns.app (.cons rfl (.cons rfl (.cons rfl (.cons rfl .nil)))) (.cons rfl (.cons (by rw [fillF_dead (g := (newT h o x)) (newT_dead hal)]; rfl) .nil))⟩
  rintro ⟨⟩ hφ
  refine AW.rg hE rfl (add_i64 rfl rfl (by omega) (mvD rfl (OL.nil ?_)))
  exact AW.again (x := j) (j + 1) (by omega) ⟨by omega, Knows.app .rq8 .rq2, Owns.app (.cons rfl (.cons rfl (.cons rfl (.cons rfl .nil)))) (.cons rfl (.cons rfl .nil))⟩
 ·try simp only [dx9] at h59
  refine AW.exit (AW.seq (AW.seq ?_))
  obtain rfl : j = h.st := by omega
  rw [fillF_all, fillF_all]
  refine AW.rg hE rfl (mvD rfl (nt rfl (OL.nil (AW.cond rfl (fun hs => ?_) (fun hs => ?_)))))
  ·have hs : ¬ someN h o x h.st = true := fun e => by rw [e] at hs; cases hs
   refine AW.sg hE rfl (bd z.Online pl.Online (cs := [_,_,_,_,_,_,_,_,_,_,_,_,_,_,_]) rfl (sto sz.Online rfl rfl rfl rfl rfl (nb9 rfl) (cells2 := [_,_,_,_,_,_,_,_,_,_,_,_,_,_,_]) rfl (asM rfl (asD rfl (OL.nil ?_)))))
   rw [show pushH h o x = HM0 from if_neg hs, show pushD h o x = ⟨0, [], [], []⟩ from if_neg hs, show pushC h o x = [] from if_neg hs, show pushE h o x = 11 from if_neg hs]
   exact AW.ret (RetQ.r ⟨_, .cellA rfl rfl ag.Online (nb9 rfl) (.tmp rfl (.tmp rfl .nil)), _, .cons (.ag (.cons (.le (VLe.refl _)) (.cons (.le (VLe.refl _)) (.cons (.le (vle_of_eq (by show _ = V.d (dB (ofQ 0).neg); rw [ofQ_zero]))) (.cons (.le (by show VLe _ (.d (u32s (ofQ 0).num)); rw [ofQ_zero]; exact VLe.mt)) (.cons (.le (by show VLe _ (.d (u32s (ofQ 0).den)); rw [ofQ_zero]; exact VLe.mt)) (.cons (.le (VLe.mt)) (.cons (.le (VLe.mt)) (.cons (.le (VLe.mt)) (.cons (.le (VLe.mt)) (.cons (.le (VLe.mt)) (.cons (.le (VLe.mt)) (.cons (.le (VLe.refl _)) (.cons (.le (VLe.mt)) (.cons (.le (VLe.mt)) (.cons (.le (VLe.mt)) .nil)))))))))))))))) (.cons (.le (VLe.mt)) (.cons (.le (VLe.refl _)) .nil)), rfl⟩)
  ·have hs : someN h o x h.st = true := by cases e : someN h o x h.st with | true => rfl | false => rw [e] at hs; cases hs
   refine AW.skip (AW.seq ?_)
   have hzr : Small (K + 2097152) ((List.range h.st).map (newS h o x)) := small_map fun j _ => (zn j).2
   have hrs : ((List.range h.st).map (newS h o x)).length = h.st := by simp
   have hrt : ((List.range h.st).map (newT h o x)).length = h.st := by simp
   have hkk : max (comF (fun j => decide (0 < ((List.range h.st).map (newS h o x)).getD j 0)) (fun j => ((List.range h.st).map (newT h o x)).getD j []) h.st).1 0 = (((keepK h o x) : Nat) : Int) := by
    rw [com_congr (al2 := aliveN h o x) (ps2 := newT h o x) fun i hi => ⟨by rw [map_getD_range _ _ hi]; rfl, map_getD_range _ _ hi⟩]
    unfold keepK comK; omega
   refine AW.rg hE rfl (ldPA ag.Online rfl rfl (vs := [_,_,_,_,_,_,_,_,_,_,_,_,_,_,_]) rfl (nb9 rfl) (faP fd.Online_3 rfl rfl (ldPC ce.intss rfl rfl rfl ?_)))
   refine clC0 rfl .rq2 (on_commonO (h := h) (t := o.t + 1) (b1 := b51) (b2 := b54) hzr hC2 hrs hrt (by omega) (fun j => by rcases Nat.lt_or_ge j h.st with hj | hj; rw [map_getD_range _ _ hj]; have := hnl j; omega; rw [getD_ge (by omega)]; exact Nat.zero_le _)) (mem2_keep rfl rfl) ?_
   rw [hkk]
   refine asD rfl (OL.nil (AW.sg hE rfl (asM rfl (OL.nil (AW.seq (AW.sg hE rfl (faP fd.Online_3 rfl rfl ?_)))))))
   refine ldPC ce.intss rfl rfl rfl (lnO sl.intss rfl rfl (mvD rfl (OL.nil (AW.block ?_))))
   refine AW.whileK (α := Nat) [(2, _), (4, _), (5, _), (6, _), (8, _), (17, _), (154, _), (155, _)] [(2, _), (4, _), (8, _), (51, _)] (fun i => [(18, .d (ints (cmtF h o x i))), (156, .d (dI i))]) (fun i => [(54, .row b54 h.st T.ints 1 ((mixK h o x i).map ints))]) (fun i => i ≤ h.st) (fun i => h.st - i) 0 (.cons (knP rfl) (.cons (knP rfl) (.cons (knM rfl) (.cons (knD rfl) (.cons (knP rfl) (.cons (knD rfl) (.cons (knO rfl) (.cons (knD rfl) .nil)))))))) (.cons (owB rfl) (.cons (owB rfl) (.cons (owB rfl) (.cons (owR rfl) .nil)))) ⟨Nat.zero_le _, .cons (VLe.mt) .rq1, .cons (by rw [mixK_zero]; rfl) .nil⟩ ?_
   intro i h6
   have h6 : i ≤ h.st := h6
   have hmk := mixK_len h o x i
   refine AW.sg hE rfl (c_lss rfl rfl rfl (OL.nil (AW.seq (AW.cond rfl (fun h157 => ?_) (fun h157 => ?_)))))
   ·try simp only [dx9] at h157
    refine AW.skip ?_
    refine AW.midK (α := Unit) [(2, _), (4, _), (5, _), (6, _), (8, _), (17, _), (154, _), (155, _), (156, _)] [(2, _), (4, _), (8, _), (51, _)] (fun _u => [(18, .d (ints (cmtF h o x (i + 1))))]) (fun _u => [(54, .row b54 h.st T.ints 1 ((mixK h o x (i + 1)).map ints))]) (fun _u => True) (.cons (knP rfl) (.cons (knP rfl) (.cons (knM rfl) (.cons (knD rfl) (.cons (knP rfl) (.cons (knD rfl) (.cons (knO rfl) (.cons (knD rfl) (.cons (knD rfl) .nil))))))))) (.cons (owB rfl) (.cons (owB rfl) (.cons (owB rfl) (.cons (owR rfl) .nil)))) ?_ ?_
    ·refine AW.block (AW.seq ?_)
     have hi : i < h.st := by omega
     have hel := row_el (l := mixK h o x i) (i := i) (by omega)
     rw [mixK_get hi] at hel
     have hni := hnl i
     have hgi : ((List.range h.st).map (newS h o x)).getD i 0 = newS h o x i := map_getD_range _ _ hi
     refine AW.rg hE rfl (mvD rfl (ixOn sl.intss rfl rfl hi (ldEC ce.ints (by decide) rfl rfl hel rfl (asD rfl (asD rfl (OL.nil (AW.sg hE rfl ?_)))))))
     refine ldPA ag.Online rfl rfl (vs := [_,_,_,_,_,_,_,_,_,_,_,_,_,_,_]) rfl (nb9 rfl) (mvD rfl (clC0 rfl .rq2 (on_aliveO (h := h) (t := o.t + 1) (b1 := b51) (b2 := b54) (n := h.st) (i := i) (l := (List.range h.st).map (newS h o x)) hzr hC2 (by omega) (by omega)) (mem1_keep (id := 51) rfl) ?_))
     rw [hgi]
     refine OL.nil (AW.cond rfl (fun hal => ?_) (fun hal => ?_))
     ·have hal := of_decide_eq_true hal
      have hkl : (keepK h o x) ≤ (newT h o x i).length := (com_same (al := aliveN h o x) (ps := newT h o x) hi hi (decide_eq_true hal) (decide_eq_true hal)).1
      refine AW.dg 1 [0,1,2,3,4,5,6,7,8,9,10,11,12,13] order_free hE rfl (by kernel_rfl) (OI.of_OL (os := [_,_,_,_,_,_,_,_,_,_,_,_,_,_]) rfl ?_)
      refine faP fd.Online_3 rfl rfl (ldPC ce.intss rfl rfl rfl (mvD rfl (mvD rfl (mvD rfl (slTo sl.ints rfl rfl (fun _ => rfl) (by omega) (l2 := (newT h o x i).take (keepK h o x)) (by rw [Int.toNat_natCast]) (clv rfl (.cons (VLe.refl _) (.nil)) (clone_ints (by rw [List.length_take]; omega)) (mvD rfl ?_)))))))
      refine mvD rfl (slFrom sl.ints rfl rfl (fun _ => rfl) (by omega) (l2 := (newT h o x i).drop (keepK h o x)) (by rw [Int.toNat_natCast]) (clv rfl (.cons (VLe.refl _) (.nil)) (clone_ints (by rw [List.length_drop]; omega)) (asD rfl (ixOn sl.intss rfl rfl hi (stE sz.ints rfl (VC.d _).vd rfl rfl (by rw [List.length_map]; omega) (es2 := (mixK h o x (i + 1)).map ints) (by rw [← mixK_set hi, List.map_set]) (OL.nil ?_))))))
      exact AW.reach () ⟨trivial, Knows.app .rq9 (.cons (vle_of_eq (by rw [cmtF, if_pos (show aliveN h o x i = true from decide_eq_true hal)]; rfl)) .nil), Owns.app (.cons rfl (.cons rfl (.cons rfl (.cons rfl .nil)))) (.cons rfl .nil)⟩
     ·have hal := of_decide_eq_false hal
      refine AW.skip ?_
      exact AW.reach () ⟨trivial, Knows.app .rq9 (.cons (vle_of_eq (by rw [cmtF, if_neg (show ¬ aliveN h o x i = true from fun e => hal (of_decide_eq_true e))]; rfl)) .nil), Owns.app (.cons rfl (.cons rfl (.cons rfl (.cons rfl .nil)))) (.cons (by rw [mixK_dead (newT_dead hal)]; rfl) .nil)⟩
    rintro ⟨⟩ hφ
    refine AW.rg hE rfl (add_i64 rfl rfl (by omega) (mvD rfl (OL.nil ?_)))
    exact AW.again (x := i) (i + 1) (by omega) ⟨by omega, Knows.app .rq8 .rq2, Owns.app (.cons rfl (.cons rfl (.cons rfl (.cons rfl .nil)))) (.cons rfl .nil)⟩
   ·try simp only [dx9] at h157
    refine AW.exit (AW.seq ?_)
    obtain rfl : i = h.st := by omega
    have hcl := cmt_len (h := h) (x := x) htl h.st
    refine AW.rg hE rfl (faP fd.Online_4 rfl rfl (ldPC ce.ints rfl rfl rfl (mvD rfl (lt2 (y := ints o.dn) (y2 := ints (cmtF h o x h.st)) sl.intss (VC.d _).vd (VC.d _).vd ⟨rfl, rfl⟩ (by decide) (clv rfl (.cons (VLe.refl _) (.nil)) (concat_ints (L := [o.dn, cmtF h o x h.st]) (by simp) (by rw [show List.flatten [o.dn, cmtF h o x h.st] = o.dn ++ cmtF h o x h.st by simp, List.length_append]; omega)) ?_)))))
    rw [show List.flatten [o.dn, cmtF h o x h.st] = o.dn ++ cmtF h o x h.st by simp]
    refine faP fd.Online_4 rfl rfl (sto sz.ints rfl rfl rfl rfl rfl (nb9 rfl) (cells2 := [_,_,_,_,_,_,_,_,_,_,_,_,_,_,_]) rfl (OL.nil (AW.sg hE rfl (ldPA ag.Online rfl rfl (vs := [_,_,_,_,_,_,_,_,_,_,_,_,_,_,_]) rfl (nb9 rfl) (mvD rfl (sto sz.Online rfl rfl rfl rfl rfl (nb9 rfl) (cells2 := [_,_,_,_,_,_,_,_,_,_,_,_,_,_,_]) rfl (asD rfl ?_)))))))
    refine asD rfl (OL.nil ?_)
    rw [show pushH h o x = h from if_pos hs, show pushD h o x = stepD h o x from if_pos hs, show pushC h o x = cmtF h o x h.st from if_pos hs, show pushE h o x = 0 from if_pos hs]
    exact AW.ret (RetQ.r ⟨_, .cellA rfl rfl ag.Online (nb9 rfl) (.tmp rfl (.tmp rfl .nil)), _, .cons (.ag (.cons (.le (VLe.refl _)) (.cons (.le (VLe.refl _)) (.cons (.le (VLe.refl _)) (.cons (.le (VLe.refl _)) (.cons (.le (VLe.refl _)) (.cons (.le (VLe.refl _)) (.cons (.le (VLe.refl _)) (.cons (.le (VLe.refl _)) (.cons (.le (VLe.refl _)) (.cons (.le (VLe.refl _)) (.cons (.le (VLe.refl _)) (.cons (.le (VLe.refl _)) (.cons (RO.row rfl (by simp) rfl) (.cons (RO.row rfl (by rw [List.length_map, mixK_len]) (by rw [mixK_all])) (.cons (.le (VLe.refl _)) .nil)))))))))))))))) (.cons (.le (VLe.refl _)) (.cons (.le (VLe.refl _)) .nil)), rfl⟩)
set_option maxRecDepth 8000 in
set_option maxHeartbeats 1600000 in
theorem on_Push4 {r : RDec} {s : Int} (zd : r.Sz) (n : ¬ VR r) : FSpec P F.online_Push [vOR r, .d (dI s)] (.tup [vOn HM0 DEC0, .d (ints []), .d (dI 4)]) := by
 refine FSpec.intro fn.online_Push (by rfl) (by rfl) (nb9 (by rfl)) fun E hE => (AW.sg hE rfl (bxA rfl rfl fun b2 => (al z.Online rfl fun b4 => (asM rfl (asD rfl (OL.nil (AW.seq ?_)))))))
 refine AW.block (AW.sg hE rfl (ldPA ag.Online rfl rfl (vs := [_,_,_,_,_,_,_,_,_,_,_,_,_,_,_]) rfl (nb9 rfl) (clv rfl (.cons (VLe.refl _) (.nil)) (on_ValidR zd) ?_)))
 rw [← vrB_f n]
 refine nt rfl (asD rfl (OL.nil (AW.cond rfl (fun _ => ?_) (fun hno => absurd hno (by decide)))))
 refine AW.sg hE rfl (bd z.Online pl.Online (cs := [_,_,_,_,_,_,_,_,_,_,_,_,_,_,_]) rfl (sto sz.Online rfl rfl rfl rfl rfl (nb9 rfl) (cells2 := [_,_,_,_,_,_,_,_,_,_,_,_,_,_,_]) rfl (asM rfl (asD rfl (OL.nil ?_)))))
 exact AW.ret (RetQ.r ⟨_, .cellA rfl rfl ag.Online (nb9 rfl) (.tmp rfl (.tmp rfl .nil)), _, .cons (.ag (.cons (.le (VLe.refl _)) (.cons (.le (VLe.refl _)) (.cons (.le (vle_of_eq (by show _ = V.d (dB (ofQ 0).neg); rw [ofQ_zero]))) (.cons (.le (by show VLe _ (.d (u32s (ofQ 0).num)); rw [ofQ_zero]; exact VLe.mt)) (.cons (.le (by show VLe _ (.d (u32s (ofQ 0).den)); rw [ofQ_zero]; exact VLe.mt)) (.cons (.le (VLe.mt)) (.cons (.le (VLe.mt)) (.cons (.le (VLe.mt)) (.cons (.le (VLe.mt)) (.cons (.le (VLe.mt)) (.cons (.le (VLe.mt)) (.cons (.le (VLe.refl _)) (.cons (.le (VLe.mt)) (.cons (.le (VLe.mt)) (.cons (.le (VLe.mt)) .nil)))))))))))))))) (.cons (.le (VLe.mt)) (.cons (.le (VLe.refl _)) .nil)), rfl⟩)
set_option maxRecDepth 8000 in
set_option maxHeartbeats 1600000 in
theorem on_Push1 {r : RDec} {s : Int} (zd : r.Sz) (v : VR r) (n : ¬ PushOK r s) : FSpec P F.online_Push [vOR r, .d (dI s)] (.tup [vOn HM0 DEC0, .d (ints []), .d (dI 1)]) := by
 refine FSpec.intro fn.online_Push (by rfl) (by rfl) (nb9 (by rfl)) fun E hE => (AW.sg hE rfl (bxA rfl rfl fun b2 => (al z.Online rfl fun b4 => (asM rfl (asD rfl (OL.nil (AW.seq ?_)))))))
 refine AW.block (AW.sg hE rfl (ldPA ag.Online rfl rfl (vs := [_,_,_,_,_,_,_,_,_,_,_,_,_,_,_]) rfl (nb9 rfl) (clv rfl (.cons (VLe.refl _) (.nil)) (on_ValidR zd) ?_)))
 rw [← vrB_t v]
 refine nt rfl (asD rfl (OL.nil (AW.cond rfl (fun hno => absurd hno (by decide)) (fun _ => ?_))))
 refine AW.sg hE rfl (mvD rfl (c_lss rfl rfl rfl (OL.split 28 rfl (fun a1 => ?_) (fun a1 => ?_))))
 ·have a1 : s < 1 := of_decide_eq_true a1
  refine mvD rfl (OL.nd rfl (OL.nd rfl (OL.nd rfl (OL.nd rfl (OL.nd rfl (pkT rfl rfl (mvD rfl ?_)))))))
  refine OL.nd rfl (OL.nd rfl (OL.nd rfl (pkT rfl rfl (asD rfl (OL.nil (AW.cond rfl (fun _ => ?_) (fun hno => absurd hno (by decide))))))))
  refine AW.sg hE rfl (bd z.Online pl.Online (cs := [_,_,_,_,_,_,_,_,_,_,_,_,_,_,_]) rfl (sto sz.Online rfl rfl rfl rfl rfl (nb9 rfl) (cells2 := [_,_,_,_,_,_,_,_,_,_,_,_,_,_,_]) rfl (asM rfl (asD rfl (OL.nil ?_)))))
  exact AW.ret (RetQ.r ⟨_, .cellA rfl rfl ag.Online (nb9 rfl) (.tmp rfl (.tmp rfl .nil)), _, .cons (.ag (.cons (.le (VLe.refl _)) (.cons (.le (VLe.refl _)) (.cons (.le (vle_of_eq (by show _ = V.d (dB (ofQ 0).neg); rw [ofQ_zero]))) (.cons (.le (by show VLe _ (.d (u32s (ofQ 0).num)); rw [ofQ_zero]; exact VLe.mt)) (.cons (.le (by show VLe _ (.d (u32s (ofQ 0).den)); rw [ofQ_zero]; exact VLe.mt)) (.cons (.le (VLe.mt)) (.cons (.le (VLe.mt)) (.cons (.le (VLe.mt)) (.cons (.le (VLe.mt)) (.cons (.le (VLe.mt)) (.cons (.le (VLe.mt)) (.cons (.le (VLe.refl _)) (.cons (.le (VLe.mt)) (.cons (.le (VLe.mt)) (.cons (.le (VLe.mt)) .nil)))))))))))))))) (.cons (.le (VLe.mt)) (.cons (.le (VLe.refl _)) .nil)), rfl⟩)
 ·have a1 : ¬ s < 1 := of_decide_eq_false a1
  refine mvD rfl (OL.yes rfl (mvD rfl (OL.yes rfl (faP fd.Online_0 rfl rfl (OL.yes rfl (faP fd.Hidden_0 rfl rfl (OL.yes rfl ?_)))))))
  refine ldPC ce.int rfl rfl rfl (OL.yes rfl (c_gtr rfl rfl rfl (OL.split 34 rfl (fun a2 => ?_) (fun a2 => ?_))))
  ·have a2 : r.m.sym < s := of_decide_eq_true a2
   refine pkF rfl rfl (mvD rfl (OL.nd rfl (OL.nd rfl (OL.nd rfl (pkT rfl rfl (asD rfl (OL.nil ?_)))))))
   refine AW.cond rfl (fun _ => ?_) (fun hno => absurd hno (by decide))
   refine AW.sg hE rfl (bd z.Online pl.Online (cs := [_,_,_,_,_,_,_,_,_,_,_,_,_,_,_]) rfl (sto sz.Online rfl rfl rfl rfl rfl (nb9 rfl) (cells2 := [_,_,_,_,_,_,_,_,_,_,_,_,_,_,_]) rfl (asM rfl (asD rfl (OL.nil ?_)))))
   exact AW.ret (RetQ.r ⟨_, .cellA rfl rfl ag.Online (nb9 rfl) (.tmp rfl (.tmp rfl .nil)), _, .cons (.ag (.cons (.le (VLe.refl _)) (.cons (.le (VLe.refl _)) (.cons (.le (vle_of_eq (by show _ = V.d (dB (ofQ 0).neg); rw [ofQ_zero]))) (.cons (.le (by show VLe _ (.d (u32s (ofQ 0).num)); rw [ofQ_zero]; exact VLe.mt)) (.cons (.le (by show VLe _ (.d (u32s (ofQ 0).den)); rw [ofQ_zero]; exact VLe.mt)) (.cons (.le (VLe.mt)) (.cons (.le (VLe.mt)) (.cons (.le (VLe.mt)) (.cons (.le (VLe.mt)) (.cons (.le (VLe.mt)) (.cons (.le (VLe.mt)) (.cons (.le (VLe.refl _)) (.cons (.le (VLe.mt)) (.cons (.le (VLe.mt)) (.cons (.le (VLe.mt)) .nil)))))))))))))))) (.cons (.le (VLe.mt)) (.cons (.le (VLe.refl _)) .nil)), rfl⟩)
  ·have a2 : ¬ r.m.sym < s := of_decide_eq_false a2
   refine pkF rfl rfl (mvD rfl (OL.yes rfl (faP fd.Online_1 rfl rfl (OL.yes rfl (ldPC ce.int rfl rfl rfl (OL.yes rfl (c_eql rfl rfl (c := true) (decide_eq_true (Classical.byContradiction fun e => n ⟨v, by omega, by omega, e⟩)) ?_)))))))
   refine pkF rfl rfl (asD rfl (OL.nil (AW.cond rfl (fun _ => ?_) (fun hno => absurd hno (by decide)))))
   refine AW.sg hE rfl (bd z.Online pl.Online (cs := [_,_,_,_,_,_,_,_,_,_,_,_,_,_,_]) rfl (sto sz.Online rfl rfl rfl rfl rfl (nb9 rfl) (cells2 := [_,_,_,_,_,_,_,_,_,_,_,_,_,_,_]) rfl (asM rfl (asD rfl (OL.nil ?_)))))
   exact AW.ret (RetQ.r ⟨_, .cellA rfl rfl ag.Online (nb9 rfl) (.tmp rfl (.tmp rfl .nil)), _, .cons (.ag (.cons (.le (VLe.refl _)) (.cons (.le (VLe.refl _)) (.cons (.le (vle_of_eq (by show _ = V.d (dB (ofQ 0).neg); rw [ofQ_zero]))) (.cons (.le (by show VLe _ (.d (u32s (ofQ 0).num)); rw [ofQ_zero]; exact VLe.mt)) (.cons (.le (by show VLe _ (.d (u32s (ofQ 0).den)); rw [ofQ_zero]; exact VLe.mt)) (.cons (.le (VLe.mt)) (.cons (.le (VLe.mt)) (.cons (.le (VLe.mt)) (.cons (.le (VLe.mt)) (.cons (.le (VLe.mt)) (.cons (.le (VLe.mt)) (.cons (.le (VLe.refl _)) (.cons (.le (VLe.mt)) (.cons (.le (VLe.mt)) (.cons (.le (VLe.mt)) .nil)))))))))))))))) (.cons (.le (VLe.mt)) (.cons (.le (VLe.refl _)) .nil)), rfl⟩)
theorem on_PushA {r : RDec} {s : Int} (z : r.Sz) : FSpec P F.online_Push [vOR r, .d (dI s)] (.tup [vOn (pshH r s) (pshD r s), .d (ints (pshC r s)), .d (dI (pshE r s))]) := by
 by_cases v : VR r
 ·by_cases k : PushOK r s
  ·obtain ⟨e1, e2, e3, e4⟩ := psh_ok k
   obtain ⟨g, _⟩ := chkP_good z.m v.p
   have hi := k.hi
   have lo := k.lo
   have h256 := k.t
   have h1 := v.t0
   have h2 := v.time
   have hs : r.m.sym = ((hm r.m).sym : Nat) := (chkP_sym v.p).symm
   have h3 := on_PushV (x := (s - 1).toNat) g (v.val z) (by decide) (show r.t.toNat ≤ 255 by omega) (show (s - 1).toNat < (hm r.m).sym by omega)
   rw [show (((s - 1).toNat + 1 : Nat) : Int) = s by omega, ← vOR_eq z v] at h3
   rw [e1, e2, e3, e4]
   exact h3
  ·obtain ⟨e1, e2, e3⟩ := psh_not k
   rw [e1, e2, e3, psh_1 v k]
   exact on_Push1 z v k
 ·obtain ⟨e1, e2, e3⟩ := psh_not fun k : PushOK r s => v k.v
  rw [e1, e2, e3, psh_4 v]
  exact on_Push4 z v
end Go.Proofs.YtjghehkgmanmbaaGreat

/-
  Walks of the specification of chapter 35: the ways to each state (printed by mk2.py).
-/
import Derived.Test.YtjghehkgmanmbaaGreatKKwK
import Derived.Test.YtjghehkgmanmbaaGreatKAlg30
set_option linter.unusedVariables false
set_option linter.unusedSimpArgs false
namespace Go.Proofs.YtjghehkgmanmbaaGreat
open Go Go.AL
abbrev nilD : D := .sc (.slice none 0 0)
theorem raw.Ways : (P.info? T.Ways).bind (fun i => i.zero.map fun z => z.cells.toList) = some [.slice none 0 0] := by kernel_rfl
abbrev dWl (v : Rat × List Int) : D := .sl (if 0 < v.1 then [dWay v] else [])
abbrev colW (h : HM) (w : List Int) (t : Nat) : D := .sl ((List.range h.st).map fun j => dWl (wayF h w t j))
def nowW (h : HM) (w : List Int) (t : Nat) : D := if t = 0 then .sl [] else colW h w t
def hdW (v : Rat × List Int) (b c : Nat) : D := if 0 < v.1 then hdC b 1 c else nilD
def bkW (v : Rat × List Int) (b c : Nat) : Blk := if 0 < v.1 then .row b c T.Way 4 [dWay v] else deadBlk
theorem hdW_sc (v : Rat × List Int) (b c : Nat) : ∃ x, hdW v b c = .sc x := by unfold hdW; split <;> exact ⟨_, rfl⟩
theorem hdW_cells (v : Rat × List Int) (b c : Nat) : (hdW v b c).cells = [hdW v b c] := by unfold hdW; split <;> rfl
theorem col_el {h : HM} {w : List Int} {t i : Nat} (hi : i < h.st) : ((List.range h.st).map fun j => dWl (wayF h w t j))[i]? = some (dWl (wayF h w t i)) := by
 rw [List.getElem?_map, List.getElem?_range hi]; rfl
def rowW (h : HM) (w : List Int) (t j : Nat) : List D := fillF nilD (fun i => dWl (wayF h w (t + 1) i)) h.st j
theorem rowW_len (h : HM) (w : List Int) (t j : Nat) : (rowW h w t j).length = h.st := fillF_len ..
theorem rowW_at {h : HM} {w : List Int} {t j : Nat} (hj : j < h.st) : (rowW h w t j)[j]? = some nilD := by
 unfold rowW fillF
 rw [List.getElem?_map, List.getElem?_range hj, Option.map_some, if_neg (Nat.lt_irrefl j)]
theorem rowW_nil {h : HM} {w : List Int} {t j : Nat} (hj : j < h.st) : (rowW h w t j).set j nilD = rowW h w t j := by
 refine List.ext_getElem? fun k => ?_
 rw [List.getElem?_set]
 split
 ·rename_i e; subst e
  rw [rowW_len, if_pos hj, rowW_at hj]
 ·rfl
theorem rowW_next {h : HM} {w : List Int} {t j : Nat} (hj : j < h.st) : (rowW h w t j).set j (dWl (wayF h w (t + 1) j)) = rowW h w t (j + 1) := fillF_set (g := fun i => dWl (wayF h w (t + 1) i)) hj
theorem put_bef {x : Rat} {y : List Int} {m : Rat × List Int} (hm : 0 < m.1) (hx : 0 < x) (hl : y.length = m.2.length) : (if befW (x, y) m = true then (x, y) else m) = putW x y m := by
 have e : befW (x, y) m = decide (betterP x y m) := by
  unfold befW
  refine decide_eq_decide.2 ⟨fun k => k.imp (fun a => a) fun a => ⟨a.1, hx, by have b := a.2; rw [cmpS_same hl] at b; exact b⟩, fun k => Or.imp (fun a => a) (fun a => ⟨a.1, by rw [cmpS_same hl]; exact a.2.2⟩) k⟩
 unfold putW
 by_cases k : betterP x y m
 ·rw [if_pos k, if_pos (by rw [e]; exact decide_eq_true k)]
 ·rw [if_neg k, if_neg (by rw [e, decide_eq_false k]; decide)]
theorem knows_map {s s' : S} (h : ∀ t, s'.ρ t = s.ρ t) : ∀ {ks : List (Nat × V)}, Knows s ks → Knows s' ks
 | [], _ => .nil
 | (t, v) :: ks, ⟨k1, k2⟩ => ⟨by rw [h]; exact k1, knows_map h k2⟩
theorem owns_map {s s' : S} {o i : Nat} (h : ∀ t, t ≠ o → t ≠ i → s'.M t = s.M t) : ∀ {bs : List (Nat × Blk)}, (bs.all fun p => p.1 != o && p.1 != i) = true → Owns s bs → Owns s' bs
 | [], _, _ => .nil
 | (t, v) :: bs, ha, ⟨k1, k2⟩ => by
  rw [List.all_cons, Bool.and_eq_true, Bool.and_eq_true] at ha
  exact ⟨by rw [h t (by simpa using ha.1.1) (by simpa using ha.1.2)]; exact k1, owns_map h ha.2 k2⟩
theorem AW.closeW {E : Env} {k : Code} {Q : Exit → S → Prop} {s : S} (v : Rat × List Int) (id o i : Nat) {b c bo co eo : Nat} {eso : List D} {ks : List (Nat × V)} {bs : List (Nat × Blk)} (hM : s.M id = some (bkW v b c)) (hO : s.M o = some (.row bo co eo 1 eso)) (hi : eso[i]? = some (hdW v b c)) (hne : id ≠ o)
  (hb : (bs.all fun p => p.1 != o && p.1 != id) = true) (h1 : Knows ⟨fun t => (s.ρ t).frz id b c [dWay v], fun j => (s.M j).map (Blk.frz id b c [dWay v])⟩ ks) (h2 : Owns ⟨fun t => (s.ρ t).frz id b c [dWay v], fun j => (s.M j).map (Blk.frz id b c [dWay v])⟩ bs) (h3 : Knows s ks) (h4 : Owns s bs)
  (h : AW P E k Q (st ks ((o, .row bo co eo 1 (eso.set i (dWl v))) :: bs))) : AW P E k Q s := by
 by_cases hp : 0 < v.1
 ·rw [bkW, if_pos hp] at hM
  rw [hdW, if_pos hp] at hi
  refine AW.freezeIn id o i hM hO hi (Nat.le_refl 1) hne (AW.to ks ((o, .row bo co eo 1 (eso.set i (dWl v))) :: bs) ?_ (.cons ?_ ?_) h)
  ·refine knows_map (s := ⟨fun t => (s.ρ t).frz id b c [dWay v], fun j => (s.M j).map (Blk.frz id b c [dWay v])⟩) ?_ h1
   exact fun t => rfl
  ·show (if o = o then some _ else _) = _
   rw [if_pos rfl, dWl, if_pos hp]; rfl
  ·refine owns_map (s := ⟨fun t => (s.ρ t).frz id b c [dWay v], fun j => (s.M j).map (Blk.frz id b c [dWay v])⟩) (o := o) (i := id) (fun t a b => ?_) hb h2
   show (if t = o then some _ else if t = id then none else _) = _
   rw [if_neg a, if_neg b]
 ·rw [hdW, if_neg hp] at hi
  refine AW.nilIn hO hi (AW.to ks ((o, .row bo co eo 1 (eso.set i (dWl v))) :: bs) ?_ (.cons ?_ ?_) h)
  ·refine knows_map (s := s) ?_ h3
   exact fun t => rfl
  ·show upd s.M o _ o = _
   rw [upd_same, dWl, if_neg hp]
  ·refine owns_map (s := s) (o := o) (i := id) (fun t a b => ?_) hb h4
   exact upd_ne _ _ a
theorem way_skip {h : HM} {B : Nat} (g : h.GoodW B) {v : Nat → Rat × List Int} (hv : ∀ i, 0 ≤ (v i).1) {x j i : Nat} (hn : ¬ 0 < (v i).1) : wayN h v x j (i + 1) = wayN h v x j i := by
 have e : (v i).1 = 0 := Rat.le_antisymm (Rat.not_lt.1 hn) (hv i)
 rw [wayN, e, Rat.zero_mul, Rat.zero_mul, putW_zero (wayN_nonneg g hv x j i)]
theorem wayF_first (h : HM) (w : List Int) (j : Nat) : wayF h w (0 + 1) j = putW (h.ini.getD j 0 * emQ h j (symX w 0)) [(j : Int)] (0, []) := by rw [wayF, if_pos rfl]
theorem sim_of {F : Hp} {u : Value} {x y : V} (h : SimV F u x) (e : x = y) : SimV F u y := e ▸ h
theorem vle_at {x : V} {d d2 : D} (h : x = .d d) (e : d = d2) : VLe x (.d d2) := vle_of_eq (h.trans (congrArg V.d e))
theorem vle_nil : VLe (.d nilD) .mt := fun F v h => by rw [sc_val h]; exact .mt
theorem cases15 {p : Nat → Prop} (h0 : p 0) (h1 : p 1) (h2 : p 2) (h3 : p 3) (h4 : p 4) (h5 : p 5) (h6 : p 6) (h7 : p 7) (h8 : p 8) (h9 : p 9) (h10 : p 10) (h11 : p 11) (h12 : p 12) (h13 : p 13) (h14 : p 14) : ∀ i, i < 15 → p i := fun i hi => by
 have : i = 0 ∨ i = 1 ∨ i = 2 ∨ i = 3 ∨ i = 4 ∨ i = 5 ∨ i = 6 ∨ i = 7 ∨ i = 8 ∨ i = 9 ∨ i = 10 ∨ i = 11 ∨ i = 12 ∨ i = 13 ∨ i = 14 := by omega
 rcases this with rfl | rfl | rfl | rfl | rfl | rfl | rfl | rfl | rfl | rfl | rfl | rfl | rfl | rfl | rfl <;> assumption
theorem cases24 {p : Nat → Prop} (h0 : p 0) (h1 : p 1) (h2 : p 2) (h3 : p 3) (h4 : p 4) (h5 : p 5) (h6 : p 6) (h7 : p 7) (h8 : p 8) (h9 : p 9) (h10 : p 10) (h11 : p 11) (h12 : p 12) (h13 : p 13) (h14 : p 14) (h15 : p 15) (h16 : p 16) (h17 : p 17) (h18 : p 18) (h19 : p 19) (h20 : p 20) (h21 : p 21) (h22 : p 22) (h23 : p 23) : ∀ i, i < 24 → p i := fun i hi => by
 rcases Nat.lt_or_ge i 15 with h | h
 ·exact cases15 h0 h1 h2 h3 h4 h5 h6 h7 h8 h9 h10 h11 h12 h13 h14 i h
 ·have : i = 15 ∨ i = 16 ∨ i = 17 ∨ i = 18 ∨ i = 19 ∨ i = 20 ∨ i = 21 ∨ i = 22 ∨ i = 23 := by omega
  rcases this with rfl | rfl | rfl | rfl | rfl | rfl | rfl | rfl | rfl <;> assumption
def own12 : Nat → Option Nat
 | 57 => some 0 | 58 => some 1 | 59 => some 2 | 60 => some 3 | 61 => some 4 | 62 => some 5 | 63 => some 6 | 64 => some 7 | 65 => some 8 | 66 => some 9 | 67 => some 10 | 68 => some 11 | 69 => some 12 | 70 => some 13 | 71 => some 14
 | _ => none
theorem own12_inj {t i : Nat} (h : own12 t = some i) : t = [57, 58, 59, 60, 61, 62, 63, 64, 65, 66, 67, 68, 69, 70, 71].getD i 0 := by
 unfold own12 at h
 split at h <;> first | (cases h; rfl) | cases h
noncomputable def val12 (h : HM) (e q : Rat) (b4 b25 j : Nat) (r : Nat × Nat → V) (t : Nat) (β : Nat → Nat × Nat) : V :=
 match t with
 | 57 => .osl 25 b25 h.st h.st
 | 58 | 59 | 63 => .d (dI j)
 | 60 => .d (ints [(j : Int)])
 | 61 => .ptr 4 b4 5
 | 62 => .d (dQs h.ini)
 | 64 => .ref (dQ (h.ini.getD j 0)).cells
 | 65 => vQ (h.ini.getD j 0)
 | 66 => vQ e
 | 67 => vQ q
 | 68 => vWay (q, [(j : Int)])
 | 69 => .d (dI 1)
 | 70 => r (β 70)
 | 71 => .eptr 25 b25 1 j 0
 | _ => .junk
def mfC (k d e : Nat) (g : Nat × Nat → Blk) (M0 : Mem) (β : Nat → Nat × Nat) (L : Array Bool) : Mem := fun t => if L.getD k false = true then (if t = e then some (g (β d)) else M0 t) else M0 t
section
variable {k d e : Nat} {g : Nat × Nat → Blk} {M0 : Mem} {β : Nat → Nat × Nat} {L : Array Bool}
theorem mfC_none (h : L.getD k false = false) : mfC k d e g M0 β L = M0 := by funext t; unfold mfC; rw [if_neg (by rw [h]; decide)]
theorem mfC_same {i : Nat} (hi : i < L.size) (hk : k ≠ i) : mfC k d e g M0 β (L.setIfInBounds i true) = mfC k d e g M0 β L := by funext t; unfold mfC; rw [getD_set_b hi, if_neg hk]
theorem mfC_old {t : Nat} (ht : t ≠ e) : mfC k d e g M0 β L t = M0 t := by
 unfold mfC
 by_cases hk : L.getD k false = true
 ·rw [if_pos hk, if_neg ht]
 ·rw [if_neg hk]
theorem mfC_get {t : Nat} {b : Blk} (ht : t ≠ e) (h : M0 t = some b) : mfC k d e g M0 β L t = some b := (mfC_old ht).trans h
theorem mfC_new (h : L.getD k false = true) : mfC k d e g M0 β L e = some (g (β d)) := by unfold mfC; rw [if_pos h, if_pos rfl]
theorem mfC_set {x : Nat × Nat} (hi : k < L.size) (h : L.getD k false = false) : mfC k d e g M0 (upd β d x) (L.setIfInBounds k true) = upd (mfC k d e g M0 β L) e (some (g x)) := by
 rw [mfC_none h]
 funext t
 unfold mfC upd
 rw [getD_set_b hi, if_pos rfl, if_pos rfl]
 by_cases ht : t = e
 ·rw [if_pos ht, if_pos ht, if_pos rfl]
 ·rw [if_neg ht, if_neg ht]
end
def own20 : Nat → Option Nat
 | 106 => some 0 | 107 => some 1 | 108 => some 2 | 109 => some 3 | 110 => some 4 | 111 => some 5 | 112 => some 6 | 113 => some 7 | 114 => some 8 | 115 => some 9 | 116 => some 10 | 117 => some 11 | 118 => some 12 | 119 => some 13 | 120 => some 14 | 121 => some 15 | 122 => some 16 | 123 => some 17 | 124 => some 18 | 125 => some 19 | 126 => some 20 | 127 => some 21 | 128 => some 22 | 129 => some 23
 | _ => none
theorem own20_inj {t i : Nat} (h : own20 t = some i) : t = [106, 107, 108, 109, 110, 111, 112, 113, 114, 115, 116, 117, 118, 119, 120, 121, 122, 123, 124, 125, 126, 127, 128, 129].getD i 0 := by
 unfold own20 at h
 split at h <;> first | (cases h; rfl) | cases h
noncomputable def val20 (c9 : D) (v : Rat × List Int) (n i j b25 : Nat) (hd : D) (x : Rat) (r : Nat × Nat → V) (t : Nat) (β : Nat → Nat × Nat) : V :=
 match t with
 | 106 | 108 => .osl 25 b25 n n
 | 107 | 109 | 122 => .d (dI j)
 | 110 | 129 => .eptr 25 b25 1 j 0
 | 111 => .d hd
 | 112 => .mt
 | 113 => .d c9
 | 114 => .d (dI i)
 | 115 => .ref [dWl v]
 | 116 => .d (dWl v)
 | 117 => .d (dI (0 : Nat))
 | 118 => .ref [ints v.2, dB (ofQ v.1).neg, u32s (ofQ v.1).num, u32s (ofQ v.1).den]
 | 119 => .ref [ints v.2, dB (ofQ v.1).neg, u32s (ofQ v.1).num, u32s (ofQ v.1).den]
 | 120 => .d (ints v.2)
 | 121 => .osl 121 (β 121).1 (v.2.map dI).length (β 121).2
 | 123 => .d (ints [(j : Int)])
 | 124 => .d (ints (v.2 ++ [(j : Int)]))
 | 125 => vQ x
 | 126 => vWay (x, v.2 ++ [(j : Int)])
 | 127 => .d (dI 1)
 | 128 => r (β 128)
 | _ => .junk
theorem getD_ne_b {L : Array Bool} {i : Nat} (j : Nat) (hi : i < L.size) (h : j ≠ i) : (L.setIfInBounds i true).getD j false = L.getD j false := by rw [getD_set_b hi, if_neg h]
def mfG (g : Option (Nat × Nat → Blk)) (M0 : Mem) (x : Nat × Nat) (t : Nat) : Option Blk := match g with
 | some g => if t = 1001 then some (g x) else M0 t
 | none => M0 t
def mfP (p : List Int) (g : Option (Nat × Nat → Blk)) (M0 : Mem) (β : Nat → Nat × Nat) (L : Array Bool) : Mem := fun t =>
 if t = 121 then (if L.getD 18 false = true then some deadBlk else if L.getD 15 false = true then some (.row (β 121).1 (β 121).2 T.int 1 (p.map dI)) else none) else
 if L.getD 22 false = true then mfG g M0 (β 128) t else M0 t
section
variable {p : List Int} {g : Option (Nat × Nat → Blk)} {M0 : Mem} {β : Nat → Nat × Nat} {L : Array Bool}
theorem mfG_old {t : Nat} {x : Nat × Nat} (h : t ≠ 1001) : mfG g M0 x t = M0 t := by
 cases g with
 | none => rfl
 | some f => exact if_neg h
theorem mfP_none (h0 : M0 121 = none) (h : ∀ i, L.getD i false = false) : mfP p g M0 β L = M0 := by
 funext t; unfold mfP
 by_cases ht : t = 121
 ·subst ht
  rw [if_pos rfl, if_neg (by rw [h]; decide), if_neg (by rw [h]; decide), h0]
 ·rw [if_neg ht, if_neg (by rw [h]; decide)]
theorem mfP_same {i : Nat} (hi : i < L.size) (h1 : 15 ≠ i) (h2 : 18 ≠ i) (h3 : 22 ≠ i) : mfP p g M0 β (L.setIfInBounds i true) = mfP p g M0 β L := by
 funext t; unfold mfP; rw [getD_set_b hi, getD_set_b hi, getD_set_b hi, if_neg h1, if_neg h2, if_neg h3]
theorem mfP_old {t : Nat} (h1 : t ≠ 121) (h2 : t ≠ 1001) : mfP p g M0 β L t = M0 t := by
 unfold mfP
 rw [if_neg h1, mfG_old h2, ite_self]
theorem mfP_get {t : Nat} {b : Blk} (h1 : t ≠ 121) (h2 : t ≠ 1001) (h : M0 t = some b) : mfP p g M0 β L t = some b := (mfP_old h1 h2).trans h
theorem mfP_early {t : Nat} (h1 : t ≠ 121) (h : L.getD 22 false = false) : mfP p g M0 β L t = M0 t := by
 unfold mfP
 rw [if_neg h1, if_neg (by rw [h]; decide)]
theorem mfP_id {t : Nat} (h1 : t ≠ 121) : mfP p none M0 β L t = M0 t := by
 unfold mfP
 rw [if_neg h1, show mfG none M0 (β 128) t = M0 t from rfl, ite_self]
theorem mfP_121 (h1 : L.getD 18 false = false) (h2 : L.getD 15 false = false) : mfP p g M0 β L 121 = none := by
 unfold mfP
 rw [if_pos rfl, if_neg (by rw [h1]; decide), if_neg (by rw [h2]; decide)]
theorem mfP_row (h1 : L.getD 18 false = false) (h2 : L.getD 15 false = true) : mfP p g M0 β L 121 = some (.row (β 121).1 (β 121).2 T.int 1 (p.map dI)) := by
 unfold mfP
 rw [if_pos rfl, if_neg (by rw [h1]; decide), if_pos h2]
theorem mfP_new {f : Nat × Nat → Blk} (h : L.getD 22 false = true) : mfP p (some f) M0 β L 1001 = some (f (β 128)) := by
 unfold mfP
 rw [if_neg (by decide), if_pos h]
 unfold mfG
 exact if_pos rfl
theorem mfP_15 {x : Nat × Nat} (hi : 15 < L.size) (h1 : L.getD 18 false = false) : mfP p g M0 (upd β 121 x) (L.setIfInBounds 15 true) = upd (mfP p g M0 β L) 121 (some (.row x.1 x.2 T.int 1 (p.map dI))) := by
 funext t
 by_cases ht : t = 121
 ·subst ht
  rw [upd_same, mfP_row (by rw [getD_ne_b _ hi (by decide)]; exact h1) (by rw [getD_set_b hi, if_pos rfl]), upd_same]
 ·rw [upd_ne _ _ ht]
  unfold mfP
  rw [if_neg ht, if_neg ht, getD_ne_b 22 hi (by decide), upd_ne _ _ (show (128 : Nat) ≠ 121 by decide)]
theorem mfP_18 {x : Nat × Nat} (hi : 18 < L.size) (h0 : M0 124 = none) (h1 : L.getD 22 false = false) : mfP p g M0 (upd β 124 x) (L.setIfInBounds 18 true) = upd (upd (mfP p g M0 β L) 121 (some deadBlk)) 124 none := by
 funext t
 by_cases ht : t = 121
 ·subst ht
  rw [upd_ne _ _ (by decide), upd_same]
  unfold mfP
  rw [if_pos rfl, getD_set_b hi, if_pos rfl, if_pos rfl]
 ·by_cases h4 : t = 124
  ·subst h4
   rw [upd_same, mfP_early (by decide) (by rw [getD_ne_b _ hi (by decide)]; exact h1), h0]
  ·rw [upd_ne _ _ h4, upd_ne _ _ ht, mfP_early ht (by rw [getD_ne_b _ hi (by decide)]; exact h1), mfP_early ht h1]
theorem mfP_22 {x : Nat × Nat} {f : Nat × Nat → Blk} (hi : 22 < L.size) (h1 : L.getD 22 false = false) : mfP p (some f) M0 (upd β 128 x) (L.setIfInBounds 22 true) = upd (mfP p (some f) M0 β L) 1001 (some (f x)) := by
 funext t
 by_cases ht : t = 1001
 ·subst ht
  rw [upd_same, mfP_new (by rw [getD_set_b hi, if_pos rfl]), upd_same]
 ·rw [upd_ne _ _ ht]
  by_cases h2 : t = 121
  ·subst h2
   unfold mfP
   rw [if_pos rfl, if_pos rfl, getD_ne_b 18 hi (by decide), getD_ne_b 15 hi (by decide), upd_ne _ _ (show (121 : Nat) ≠ 128 by decide)]
  ·rw [mfP_old h2 ht, mfP_old h2 ht]
theorem mfP_22n (hi : 22 < L.size) : mfP p none M0 β (L.setIfInBounds 22 true) = mfP p none M0 β L := by
 funext t
 by_cases h2 : t = 121
 ·subst h2
  unfold mfP
  rw [if_pos rfl, if_pos rfl, getD_ne_b 18 hi (by decide), getD_ne_b 15 hi (by decide)]
 ·rw [mfP_id h2, mfP_id h2]
end
end Go.Proofs.YtjghehkgmanmbaaGreat

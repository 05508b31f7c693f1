/-
  M, part 55: when a decoder of any kind is valid.
-/
import Derived.Test.YtjghehkgmanmbaaGreatKMod54
set_option linter.unusedVariables false
set_option linter.unusedSimpArgs false
namespace Go.AL
open Go Go.BigFrame
theorem pathsF_of {n : Nat} : ∀ {k : Nat} {p : List Int}, p.length = k → (∀ x, x ∈ p → 0 ≤ x ∧ x < (n : Int)) → p ∈ pathsF n k
 | 0, p, hl, _ => by rw [List.eq_nil_of_length_eq_zero hl, pathsF]; exact List.mem_singleton.2 rfl
 | k + 1, p, hl, h => by
  have hn : p ≠ [] := fun e => by rw [e] at hl; simp at hl
  have e := List.dropLast_concat_getLast hn
  obtain ⟨h1, h2⟩ := h _ (List.getLast_mem hn)
  have h3 := pathsF_of (k := k) (p := p.dropLast) (by rw [List.length_dropLast]; omega) fun x hx => h x (List.dropLast_subset p hx)
  have h4 := paths_snoc h3 (s := (p.getLast hn).toNat) (by omega)
  rw [show (((p.getLast hn).toNat : Nat) : Int) = p.getLast hn by omega, e] at h4
  exact h4
def FitP (n t : Int) (p : List Int) (i : Int) : Prop := (p.length : Int) = t ∧ p.getD (p.length - 1) 0 = i ∧ ∀ x, x ∈ p → 0 ≤ x ∧ x < n
open Classical in
noncomputable def fitB (n t : Int) (p : List Int) (i : Int) : Bool := decide (FitP n t p i)
theorem fitB_t {n t i : Int} {p : List Int} (h : FitP n t p i) : fitB n t p i = true := @decide_eq_true _ (Classical.propDecidable _) h
theorem fitB_f {n t i : Int} {p : List Int} (h : ¬ FitP n t p i) : fitB n t p i = false := @decide_eq_false _ (Classical.propDecidable _) h
theorem fitB_of {n t i : Int} {p : List Int} (h : fitB n t p i = true) : FitP n t p i := @of_decide_eq_true _ (Classical.propDecidable _) h
theorem fitB_not {n t i : Int} {p : List Int} (h : fitB n t p i = false) : ¬ FitP n t p i := @of_decide_eq_false _ (Classical.propDecidable _) h
theorem FitP.paths {n t i : Nat} {p : List Int} (h : FitP n t p i) (ht : t ≠ 0) : p ∈ pathsF n t ∧ atP p (t - 1) = i := by
 obtain ⟨h1, h2, h3⟩ := h
 have hl : p.length = t := by omega
 refine ⟨pathsF_of hl h3, ?_⟩
 rw [hl] at h2
 unfold atP
 rw [h2, Int.toNat_natCast]
theorem paths_FitP {n t i : Nat} {p : List Int} (h : p ∈ pathsF n t) (ht : t ≠ 0) (ha : atP p (t - 1) = i) : FitP n t p i := by
 obtain ⟨h1, h2⟩ := pathsF_mem h
 refine ⟨by omega, ?_, h2⟩
 rw [h1, (atP_lt h (by omega)).2, ha]
open Classical in
noncomputable def vrB (r : RDec) : Bool := decide (VR r)
theorem vrB_t {r : RDec} (h : VR r) : true = vrB r := (@decide_eq_true _ (Classical.propDecidable _) h).symm
theorem vrB_f {r : RDec} (h : ¬ VR r) : false = vrB r := (@decide_eq_false _ (Classical.propDecidable _) h).symm
structure SeenV (r : RDec) (i : Nat) : Prop where
 sh : ∀ j, j < i → shareR (r.sc.getD j (⟨false, [], []⟩ : Raw)) = true
 fit : ∀ j : Nat, j < i → 0 < (r.sc.getD j (⟨false, [], []⟩ : Raw)).q → FitP r.m.st r.t (r.dn ++ r.tl.getD j []) j
 dead : ∀ j, j < i → ¬ 0 < (r.sc.getD j (⟨false, [], []⟩ : Raw)).q → r.tl.getD j [] = []
section
variable {r : RDec} {i : Nat}
theorem SeenV.zero : SeenV r 0 := ⟨fun j hj => absurd hj (Nat.not_lt_zero j), fun j hj => absurd hj (Nat.not_lt_zero j), fun j hj => absurd hj (Nat.not_lt_zero j)⟩
theorem SeenV.live (s : SeenV r i) (h1 : shareR (r.sc.getD i (⟨false, [], []⟩ : Raw)) = true) (hp : 0 < (r.sc.getD i (⟨false, [], []⟩ : Raw)).q) (h2 : FitP r.m.st r.t (r.dn ++ r.tl.getD i []) i) : SeenV r (i + 1) := by
 refine ⟨fun j hj => ?_, fun j hj hq => ?_, fun j hj hq => ?_⟩ <;> rcases Nat.lt_or_ge j i with h | h
 ·exact s.sh j h
 ·obtain rfl : j = i := by omega
  exact h1
 ·exact s.fit j h hq
 ·obtain rfl : j = i := by omega
  exact h2
 ·exact s.dead j h hq
 ·obtain rfl : j = i := by omega
  exact absurd hp hq
theorem SeenV.gone (s : SeenV r i) (h1 : shareR (r.sc.getD i (⟨false, [], []⟩ : Raw)) = true) (hp : ¬ 0 < (r.sc.getD i (⟨false, [], []⟩ : Raw)).q) (h2 : r.tl.getD i [] = []) : SeenV r (i + 1) := by
 refine ⟨fun j hj => ?_, fun j hj hq => ?_, fun j hj hq => ?_⟩ <;> rcases Nat.lt_or_ge j i with h | h
 ·exact s.sh j h
 ·obtain rfl : j = i := by omega
  exact h1
 ·exact s.fit j h hq
 ·obtain rfl : j = i := by omega
  exact absurd hq hp
 ·exact s.dead j h hq
 ·obtain rfl : j = i := by omega
  exact h2
theorem SeenV.shares (s : SeenV r r.sc.length) : SharesR r.sc := fun x hx => by
 obtain ⟨j, hj, rfl⟩ := mem_ix (⟨false, [], []⟩ : Raw) hx
 exact s.sh j hj
theorem decR_sc (r : RDec) (j : Nat) : (decR r).sc.getD j 0 = (r.sc.getD j (⟨false, [], []⟩ : Raw)).q := by
 show (r.sc.map Raw.q).getD j 0 = _
 rcases Nat.lt_or_ge j r.sc.length with h | h
 ·rw [List.getD_eq_getElem?_getD, List.getElem?_map, List.getElem?_eq_getElem h, List.getD_eq_getElem?_getD, List.getElem?_eq_getElem h]; rfl
 ·rw [getD_ge (by rw [List.length_map]; exact h), getD_ge h]
  show (0 : Rat) = (⟨false, [], []⟩ : Raw).q
  decide +kernel
theorem chkP_stI {h : RM} (c : chkP h = 0) : h.st = ((hm h).st : Nat) := (chkP_st c).symm
theorem SeenV.vr (cp : chkP r.m = 0) (t0 : 0 < r.t) (t1 : r.t ≤ 256) (l1 : (r.sc.length : Int) = r.m.st) (l2 : (r.tl.length : Int) = r.m.st) (s : SeenV r r.sc.length) (hs : ∃ j, j < (hm r.m).st ∧ 0 < (decR r).sc.getD j 0)
  (hc : (comF (fun j => decide (0 < (decR r).sc.getD j 0)) (fun j => (decR r).tl.getD j []) (hm r.m).st).1 = 0) : VR r := by
 have hst := chkP_stI cp
 have hn : r.sc.length = (hm r.m).st := by omega
 have sh := s.shares
 have ht : (decR r).t ≠ 0 := by show r.t.toNat ≠ 0; omega
 have htI : r.t = ((decR r).t : Int) := by show r.t = ((r.t.toNat : Nat) : Int); omega
 have shq : ∀ j, Share ((decR r).sc.getD j 0) := fun j => by
  rcases Nat.lt_or_ge j r.sc.length with h | h
  ·exact sh.shares.get j
  ·rw [getD_ge (show (decR r).sc.length ≤ j by show (r.sc.map Raw.q).length ≤ j; rw [List.length_map]; exact h)]; exact ⟨by decide, by decide⟩
 refine ⟨cp, by omega, sh, ⟨by show r.t.toNat ≤ 256; omega, fun e => absurd e ht, fun _ => ⟨by show (r.sc.map Raw.q).length = _; rw [List.length_map]; exact hn, by show r.tl.length = _; omega⟩, fun _ => ⟨fun j _ => (shq j).1, fun j hj hp => ?_⟩, fun j => (shq j).2, fun j hj => ?_, fun _ => hs, fun _ => hc⟩⟩
 ·rw [decR_sc] at hp
  have f := s.fit j (by omega) hp
  rw [hst, htI] at f
  obtain ⟨a, b⟩ := f.paths ht
  exact ⟨a, b, trivial⟩
 ·rw [decR_sc] at hj
  rcases Nat.lt_or_ge j r.sc.length with h | h
  ·exact s.dead j h hj
  ·exact getD_ge (show (decR r).tl.length ≤ j by show r.tl.length ≤ j; omega)
theorem VR.fitP (v : VR r) (h0 : r.t ≠ 0) (j : Nat) (hj : j < r.sc.length) (hp : 0 < (r.sc.getD j (⟨false, [], []⟩ : Raw)).q) : FitP r.m.st r.t (r.dn ++ r.tl.getD j []) j := by
 have ht : (decR r).t ≠ 0 := by show r.t.toNat ≠ 0; have := v.t0; omega
 have hl := (v.c.len ht).1
 rw [show (decR r).sc.length = r.sc.length from List.length_map ..] at hl
 obtain ⟨a, b, _⟩ := (v.c.heads ht).live j (by omega) (by rw [decR_sc]; exact hp)
 have f := paths_FitP a ht b
 rw [show ((decR r).t : Int) = r.t by show ((r.t.toNat : Nat) : Int) = _; have := v.t0; omega, ← chkP_stI v.p] at f
 exact f
theorem VR.deadP (v : VR r) (j : Nat) (hp : ¬ 0 < (r.sc.getD j (⟨false, [], []⟩ : Raw)).q) : r.tl.getD j [] = [] := v.c.dead j (by rw [decR_sc]; exact hp)
theorem VR.lens (v : VR r) (h0 : r.t ≠ 0) : (r.sc.length : Int) = r.m.st ∧ (r.tl.length : Int) = r.m.st := by
 have ht : (decR r).t ≠ 0 := by show r.t.toNat ≠ 0; have := v.t0; omega
 obtain ⟨a, b⟩ := v.c.len ht
 rw [show (decR r).sc.length = r.sc.length from List.length_map ..] at a
 rw [show (decR r).tl.length = r.tl.length from rfl] at b
 have := chkP_stI v.p
 omega
theorem VR.time (v : VR r) : r.t ≤ 256 := by have := v.c.le; have := v.t0; change r.t.toNat ≤ 256 at *; omega
theorem VR.zeroT (cp : chkP r.m = 0) (h0 : r.t = 0) (e1 : r.sc = []) (e2 : r.tl = []) (e3 : r.dn = []) : VR r := by
 refine ⟨cp, by omega, fun x hx => (by rw [e1] at hx; cases hx), ?_⟩
 rw [show decR r = ⟨0, [], [], []⟩ by unfold decR; rw [h0, e1, e2, e3]; rfl]
 exact val_open.toValC
theorem VR.zeros (v : VR r) (h0 : r.t = 0) : r.sc = [] ∧ r.tl = [] ∧ r.dn = [] := by
 obtain ⟨a, b, c⟩ := v.c.zero (show r.t.toNat = 0 by omega)
 exact ⟨List.map_eq_nil_iff.1 a, b, c⟩
end
end Go.AL

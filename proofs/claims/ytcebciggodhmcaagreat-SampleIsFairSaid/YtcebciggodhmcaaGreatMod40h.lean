/-
  M, chapter 40, part 8: a run is drawn exactly by the lists of bits whose interval lies in its own; how many these are.
-/
import Derived.Test.YtcebciggodhmcaaGreatMod40g
set_option linter.unusedVariables false
set_option linter.unusedSimpArgs false
namespace Go.AL
open Go Go.BigFrame

theorem inside_len {a b : Span} (h : a.inside b) : a.len ≤ b.len := by
  have h1 := h.1
  have h2 := h.2
  grind
theorem choose_none {bits : List Int} {s : Span} {ch : List Rat} {r : Rd} (h : chooseB bits s ch r = none) (hr : r = rdN bits r.used) (hu : r.used ≤ bits.length) : firstK (rdN bits bits.length).read s ch = none := by
  rw [chooseB] at h
  split at h
  · cases h
  · rename_i hk
    split at h
    · rename_i hlt
      have hs : r.step bits = rdN bits (r.step bits).used := by
        show r.step bits = rdN bits (r.used + 1)
        rw [rdN, ← hr]
      exact choose_none h hs (by simp only [Rd.step]; omega)
    · have e : r.used = bits.length := by omega
      rw [← e, ← hr]
      exact hk
termination_by bits.length - r.used
decreasing_by simp only [Rd.step]; omega
theorem choose_hits {bits : List Int} {s : Span} {ch : List Rat} {r : Rd} {k : Nat} (f : Fair ch) (hs : 0 ≤ s.len) (hk : k < ch.length) (hr : r = rdN bits r.used) (hu : r.used ≤ bits.length) (hp : 0 < ch.getD k 0)
    (hin : (rdN bits bits.length).read.inside (s.part ch k)) : ∃ r1, chooseB bits s ch r = some (k, r1) ∧ r1 = rdN bits r1.used ∧ r1.used ≤ bits.length := by
  cases hc : chooseB bits s ch r with
  | none => exact absurd (⟨hp, hin⟩ : Sure _ s ch k) (firstK_not (choose_none hc hr hu) k hk)
  | some p =>
    obtain ⟨j, r1⟩ := p
    obtain ⟨c1, c2, c3, _⟩ := choose_spec hc hr
    have cu := choose_used hc hu
    have hj := choose_lt hc
    by_cases e : j = k
    · subst e; exact ⟨r1, rfl, c1, cu.2⟩
    · exfalso
      have h1 : (rdN bits bits.length).read.inside r1.read := by
        have h1 := rdN_inside bits r1.used (bits.length - r1.used)
        rw [show r1.used + (bits.length - r1.used) = bits.length by omega, ← c1] at h1
        exact h1
      have hl := lenT_pos bits.length
      rw [← rdN_len bits] at hl
      have key : ∀ a : Span, 0 < a.len → ¬ a.before a := fun a ha hb => by
        have : a.lo + a.len ≤ a.lo := hb
        grind
      rcases part_apart f hs hj hk e (inside_trans h1 c2.2) hin with x | x
      · exact key _ hl x
      · exact key _ hl x
theorem pos_choice {s : Span} {ch : List Rat} {k : Nat} (f : Fair ch) (hs : 0 ≤ s.len) (hk : k < ch.length) (h : 0 < (s.part ch k).len) : 0 < ch.getD k 0 := by
  rw [part_len] at h
  have h0 := f.pos _ (getD_mem hk 0)
  rcases rat_pos h0 with e | e
  · exact e
  · rw [← e, Rat.mul_zero] at h
    exact absurd h (by decide)
theorem drawF_hits {h : HM} {B : Nat} {bits : List Int} (g : h.Good B) : ∀ (q : List (Nat × Nat)) (n : Nat) {r : Rd} {s : Span} {fr : Option Nat} {st w : List Int}, StepsOK h q → FrOK h fr → q.length < n → r = rdN bits r.used → r.used ≤ bits.length → 0 ≤ s.len →
    0 < (rangeL h s fr q).len → (rdN bits bits.length).read.inside (rangeL h s fr q) → ∃ u, drawF h bits n r s fr st w = .run (st ++ q.map fun p => (p.1 : Int)) (w ++ q.map fun p => (p.2 : Int) + 1) u
  | _, 0, _, _, _, _, _, _, _, hn, _, _, _, _, _ => absurd hn (Nat.not_lt_zero _)
  | [], n + 1, r, s, fr, st, w, _, hfr, _, hr, hu, hs, hp, hin => by
    have nf := next_fair g hfr
    have k0 : h.st < (h.next fr).length := by rw [next_len g.form hfr]; omega
    obtain ⟨r1, e, _, _⟩ := choose_hits nf hs k0 hr hu (pos_choice nf hs k0 hp) hin
    refine ⟨r1.used, ?_⟩
    rw [drawF, e]
    simp
  | (i, x) :: q, n + 1, r, s, fr, st, w, hq, hfr, hn, hr, hu, hs, hp, hin => by
    have hi := hq (i, x) (List.mem_cons_self ..)
    have nf := next_fair g hfr
    have k1 : i < (h.next fr).length := by rw [next_len g.form hfr]; have := hi.1; omega
    have ef := emit_fair g hi.1
    have k2 : x < (h.emit.getD i []).length := by rw [g.form.erow i hi.1]; exact hi.2
    have n1 := part_nonneg nf hs k1
    have n2 := part_nonneg ef n1 k2
    have fi : FrOK h (some i) := fun z hz => by cases hz; exact hi.1
    have h1 : (rangeL h s fr ((i, x) :: q)).inside ((s.part (h.next fr) i).part (h.emit.getD i []) x) := rangeL_in g q hq.tail fi n2
    have h2 := part_inside ef n1 k2
    have p2 : 0 < ((s.part (h.next fr) i).part (h.emit.getD i []) x).len := Std.lt_of_lt_of_le hp (inside_len h1)
    have p1 : 0 < (s.part (h.next fr) i).len := Std.lt_of_lt_of_le p2 (inside_len h2)
    obtain ⟨r1, e1, c1, u1⟩ := choose_hits nf hs k1 hr hu (pos_choice nf hs k1 p1) (inside_trans hin (inside_trans h1 h2))
    obtain ⟨r2, e2, c2, u2⟩ := choose_hits ef n1 k2 c1 u1 (pos_choice ef n1 k2 p2) (inside_trans hin h1)
    simp only [List.length_cons] at hn
    obtain ⟨u, e3⟩ := drawF_hits g q n (st := st ++ [(i : Int)]) (w := w ++ [(x : Int) + 1]) hq.tail fi (by omega) c2 u2 n2 hp hin
    refine ⟨u, ?_⟩
    rw [drawF, e1]
    simp only
    rw [if_neg (by have := hi.1; omega), if_neg (by omega), e2]
    simp only
    rw [e3]
    simp
theorem draw_hits {h : HM} {B : Nat} {bits st w : List Int} (g : h.Good B) (k : RunOK h st w) (hp : 0 < (rangeS h st w).len) (hin : (rdN bits bits.length).read.inside (rangeS h st w)) : ∃ u, draw h bits = .run st w u := by
  rw [← rangeL_eq] at hp hin
  have hl : (stepsOf st w).length = w.length := by simp [stepsOf]
  obtain ⟨u, e⟩ := drawF_hits (st := []) (w := []) (r := ⟨0, .one⟩) g (stepsOf st w) 257 (steps_ok k) (fun i hi => by cases hi) (by rw [hl]; have := k.2.1; omega) rfl (Nat.zero_le _) one_nonneg hp hin
  refine ⟨u, ?_⟩
  rw [draw, e, List.nil_append, List.nil_append]
  congr 1
  · refine list_eq_getD (by rw [List.length_map, hl, k.1]) 0 fun t ht => ?_
    rw [List.length_map, hl] at ht
    have h2 := k.state ht
    rw [stepsOf, List.map_map, map_getD_range _ _ ht]
    show (((st.getD t 0).toNat : Nat) : Int) = _
    omega
  · refine list_eq_getD (by rw [List.length_map, hl]) 0 fun t ht => ?_
    rw [List.length_map, hl] at ht
    have h3 := k.word.get ht
    rw [stepsOf, List.map_map, map_getD_range _ _ ht]
    show (((w.getD t 0).toNat - 1 : Nat) : Int) + 1 = _
    omega
/-! ### Counting -/
def cntF (p : Nat → Bool) : Nat → Nat
  | 0 => 0
  | n + 1 => cntF p n + if p n then 1 else 0
theorem cntF_le (p : Nat → Bool) : ∀ n, cntF p n ≤ n
  | 0 => Nat.le_refl _
  | n + 1 => by
    have := cntF_le p n
    rw [cntF]
    split <;> omega
theorem cnt_bounds {a c : Rat} {p : Nat → Bool} {N : Nat} (hp : ∀ j, j < N → (p j = true ↔ a ≤ (j : Rat) ∧ (j : Rat) + 1 ≤ c)) (ha : 0 ≤ a) (hac : a ≤ c) : ∀ n, n ≤ N →
    (cntF p n = 0 ∨ ((cntF p n : Rat) ≤ n - a ∧ (cntF p n : Rat) ≤ c - a)) ∧ ((n : Rat) ≤ c → n - a < (cntF p n : Rat) + 1) ∧ (c < (n : Rat) → c - a < (cntF p n : Rat) + 2)
  | 0, _ => ⟨.inl rfl, fun _ => by
      show ((0 : Nat) : Rat) - a < ((0 : Nat) : Rat) + 1
      have e : ((0 : Nat) : Rat) = 0 := rfl
      rw [e]; grind, fun hc => by
      have e : ((0 : Nat) : Rat) = 0 := rfl
      rw [e] at hc
      exact absurd (Std.lt_of_le_of_lt (Rat.le_trans ha hac) hc) (by decide)⟩
  | n + 1, hn => by
    obtain ⟨h1, h2, h3⟩ := cnt_bounds hp ha hac n (by omega)
    have hpn := hp n (by omega)
    have e1 : ((n + 1 : Nat) : Rat) = (n : Rat) + 1 := by rw [Rat.natCast_add]; rfl
    rw [cntF, e1]
    by_cases hb : p n = true
    · obtain ⟨q1, q2⟩ := hpn.1 hb
      rw [if_pos hb]
      have e2 : ((cntF p n + 1 : Nat) : Rat) = (cntF p n : Rat) + 1 := by rw [Rat.natCast_add]; rfl
      rw [e2]
      have h2 := h2 (by grind)
      refine ⟨.inr ?_, fun _ => by grind, fun hc => by grind⟩
      rcases h1 with h1 | h1
      · rw [h1]
        have e : ((0 : Nat) : Rat) = 0 := rfl
        rw [e]
        constructor <;> grind
      · constructor <;> grind
    · rw [if_neg hb, Nat.add_zero]
      have hno : ¬ (a ≤ (n : Rat) ∧ (n : Rat) + 1 ≤ c) := fun e => hb (hpn.2 e)
      have hz : (0 : Rat) ≤ (cntF p n : Rat) := Rat.natCast_nonneg
      generalize (cntF p n : Rat) = z at h1 h2 h3 hz
      refine ⟨h1.imp id fun h1 => ⟨by grind, h1.2⟩, fun hc => ?_, fun hc => ?_⟩
      · have h2 := h2 (by grind)
        have : ¬ a ≤ (n : Rat) := fun e => hno ⟨e, hc⟩
        grind
      · by_cases e : (n : Rat) ≤ c
        · have h2 := h2 e
          grind
        · exact h3 (by grind)
theorem cnt_fair {a c : Rat} {p : Nat → Bool} {N : Nat} (hp : ∀ j, j < N → (p j = true ↔ a ≤ (j : Rat) ∧ (j : Rat) + 1 ≤ c)) (ha : 0 ≤ a) (hac : a ≤ c) (hc : c ≤ (N : Rat)) :
    (cntF p N : Rat) ≤ c - a ∧ c - a < (cntF p N : Rat) + 2 := by
  obtain ⟨h1, h2, h3⟩ := cnt_bounds hp ha hac N (Nat.le_refl _)
  refine ⟨?_, ?_⟩
  · rcases h1 with h1 | h1
    · rw [h1]
      have e : ((0 : Nat) : Rat) = 0 := rfl
      rw [e]; grind
    · exact h1.2
  · by_cases e : (N : Rat) ≤ c
    · have h2 := h2 e
      grind
    · exact h3 (by grind)
/-- The list of bits with number k chooses the run. -/
def hitsF (h : HM) (b : Nat) (st w : List Int) (k : Nat) : Bool :=
  match draw h (bitsN b k) with
  | .run st2 w2 _ => decide (st2 = st ∧ w2 = w)
  | .err _ => false
theorem lenT_pow : ∀ b : Nat, lenT b * ((2 ^ b : Nat) : Rat) = 1
  | 0 => by show (1 : Rat) * ((1 : Nat) : Rat) = 1; decide +kernel
  | b + 1 => by
    have ih := lenT_pow b
    rw [Nat.pow_succ, Rat.natCast_mul]
    show lenT b * (1 / 2) * (((2 ^ b : Nat) : Rat) * ((2 : Nat) : Rat)) = 1
    have e : (1 / 2 : Rat) * ((2 : Nat) : Rat) = 1 := by decide +kernel
    generalize (1 / 2 : Rat) = q at e
    generalize ((2 ^ b : Nat) : Rat) = y at ih
    generalize ((2 : Nat) : Rat) = z at e
    grind
theorem hits_iff {h : HM} {B b k : Nat} {st w : List Int} (g : h.Good B) (ok : RunOK h st w) (hp : 0 < (rangeS h st w).len) (hk : k < 2 ^ b) :
    hitsF h b st w k = true ↔ (rangeS h st w).lo * ((2 ^ b : Nat) : Rat) ≤ (k : Rat) ∧ (k : Rat) + 1 ≤ ((rangeS h st w).lo + (rangeS h st w).len) * ((2 ^ b : Nat) : Rat) := by
  have hin : hitsF h b st w k = true ↔ (rdN (bitsN b k) b).read.inside (rangeS h st w) := by
    constructor
    · intro e
      unfold hitsF at e
      split at e
      · rename_i st2 w2 u hd
        obtain ⟨rfl, rfl⟩ := of_decide_eq_true e
        exact bits_in g hd
      · cases e
    · intro e
      have e0 := bitsN_len b k
      obtain ⟨u, hd⟩ := draw_hits (bits := bitsN b k) g ok hp (by rw [e0]; exact e)
      unfold hitsF
      rw [hd]
      exact decide_eq_true ⟨rfl, rfl⟩
  rw [hin]
  have hlo := rdN_bits hk b (Nat.le_refl _)
  rw [Nat.sub_self, Nat.pow_zero, Nat.div_one] at hlo
  have hlen := rdN_len (bitsN b k) b
  have hT := lenT_pos b
  have hw := lenT_pow b
  have hy : (0 : Rat) < ((2 ^ b : Nat) : Rat) := by
    have : ((0 : Nat) : Rat) < ((2 ^ b : Nat) : Rat) := Rat.natCast_lt_natCast.2 (Nat.pow_pos (by decide))
    exact this
  show (rangeS h st w).lo ≤ (rdN (bitsN b k) b).read.lo ∧ (rdN (bitsN b k) b).read.lo + (rdN (bitsN b k) b).read.len ≤ (rangeS h st w).lo + (rangeS h st w).len ↔ _
  rw [hlo, hlen]
  generalize (rangeS h st w).lo = A
  generalize A + (rangeS h st w).len = C
  generalize lenT b = T at hT hw
  generalize ((2 ^ b : Nat) : Rat) = y at hw hy
  generalize (k : Rat) = z
  have mul : ∀ u v : Rat, u ≤ v → u * y ≤ v * y := fun u v e => Rat.mul_le_mul_of_nonneg_right e (Rat.le_of_lt hy)
  have mulT : ∀ u v : Rat, u ≤ v → u * T ≤ v * T := fun u v e => Rat.mul_le_mul_of_nonneg_right e (Rat.le_of_lt hT)
  constructor
  · rintro ⟨h1, h2⟩
    have m1 := mul _ _ h1
    have m2 := mul _ _ h2
    have i1 : z * T * y = z := by rw [Rat.mul_assoc, hw, Rat.mul_one]
    have i2 : (z * T + T) * y = z + 1 := by rw [Rat.add_mul, i1, hw]
    rw [i1] at m1
    rw [i2] at m2
    exact ⟨m1, m2⟩
  · rintro ⟨h1, h2⟩
    have m1 := mulT _ _ h1
    have m2 := mulT _ _ h2
    have hw2 : y * T = 1 := by rw [Rat.mul_comm]; exact hw
    have i1 : A * y * T = A := by rw [Rat.mul_assoc, hw2, Rat.mul_one]
    have i2 : C * y * T = C := by rw [Rat.mul_assoc, hw2, Rat.mul_one]
    have i3 : (z + 1) * T = z * T + T := by rw [Rat.add_mul, Rat.one_mul]
    rw [i1] at m1
    rw [i2, i3] at m2
    exact ⟨m1, m2⟩
/-- How many lists of b bits choose a run. -/
theorem fair_count {h : HM} {B b : Nat} {st w : List Int} (g : h.Good B) (ok : RunOK h st w) (hp : 0 < (rangeS h st w).len) :
    (cntF (hitsF h b st w) (2 ^ b) : Rat) ≤ (rangeS h st w).len * ((2 ^ b : Nat) : Rat) ∧ (rangeS h st w).len * ((2 ^ b : Nat) : Rat) < (cntF (hitsF h b st w) (2 ^ b) : Rat) + 2 := by
  have hy : (0 : Rat) ≤ ((2 ^ b : Nat) : Rat) := Rat.natCast_nonneg
  have h1 := range_in_one g ok
  have e1 : Span.one.lo = 0 := rfl
  have e2 : Span.one.lo + Span.one.len = 1 := by decide +kernel
  have i1 := h1.1
  have i2 := h1.2
  rw [e1] at i1
  rw [e2] at i2
  have m1 := Rat.mul_nonneg i1 hy
  have m2 := Rat.mul_le_mul_of_nonneg_right i2 hy
  have m3 := Rat.mul_nonneg (Rat.le_of_lt hp) hy
  rw [Rat.one_mul] at m2
  have key := cnt_fair (p := hitsF h b st w) (N := 2 ^ b) (fun k hk => hits_iff g ok hp hk) m1 (by rw [Rat.add_mul]; grind) m2
  have e3 : ((rangeS h st w).lo + (rangeS h st w).len) * ((2 ^ b : Nat) : Rat) - (rangeS h st w).lo * ((2 ^ b : Nat) : Rat) = (rangeS h st w).len * ((2 ^ b : Nat) : Rat) := by rw [Rat.add_mul]; grind
  rw [e3] at key
  exact key
theorem int_sz {x : Int} (h : x.natAbs < 4294967296) : sz (x : Rat) ≤ 1 := by
  have e : (x : Rat) / ((1 : Int) : Rat) = (x : Rat) := by
    rw [show ((1 : Int) : Rat) = 1 from rfl]
    grind
  rw [← e]
  exact div_sz h (by decide) (by decide)
/-- The same with the joint probability, and the numbers as the statement has them. -/
theorem fair_law {h : HM} {B b N : Nat} {st w : List Int} (g : h.Good B) (ok : RunOK h st w) (hp : 0 < (rangeS h st w).len) (hN : N = 2 ^ b) :
    (((cntF (hitsF h b st w) N : Nat) : Int) : Rat) ≤ jointQ h st w * (((N : Nat) : Int) : Rat) ∧ jointQ h st w * (((N : Nat) : Int) : Rat) < ((((cntF (hitsF h b st w) N : Nat) : Int) + 2 : Int) : Rat) := by
  have h1 := fair_count (b := b) g ok hp
  rw [range_len g.form ok, ← hN] at h1
  rw [Rat.intCast_add, Rat.intCast_natCast, Rat.intCast_natCast]
  exact h1
end Go.AL

/-
  AL, part 33: what comes in from outside, opened by its type: numbers, truth values, structs, slices of such.
-/
import Derived.Test.YtonndaibggjmjaaGreatKAlg32
import Derived.DataElems
set_option linter.unusedVariables false
set_option linter.unusedSimpArgs false
namespace Go.AL
open Go Go.BigFrame Go.RowKit
def CR (w : World) (cs : List Value) (ds : List D) : Prop := cs.length = ds.length ∧ ∀ (i : Nat) (v : Value) (d : D), cs[i]? = some v → ds[i]? = some d → v.oneCell' = true ∧ Rep (wholeHp w) v d
theorem CR.one {w : World} {v : Value} {d : D} (ho : v.oneCell' = true) (h : Rep (wholeHp w) v d) : CR w [v] [d] := ⟨rfl, fun i v' d' hv hd => by
 cases i with
 | zero => cases hv; cases hd; exact ⟨ho, h⟩
 | succ i => simp at hv⟩
theorem CR.app {w : World} {cs cs2 : List Value} {ds ds2 : List D} (h : CR w cs ds) (k : CR w cs2 ds2) : CR w (cs ++ cs2) (ds ++ ds2) := by
 refine ⟨by rw [List.length_append, List.length_append, h.1, k.1], fun i v d hv hd => ?_⟩
 rw [List.getElem?_append] at hv hd
 rw [← h.1] at hd
 split at hv
 ·rename_i hi; rw [if_pos hi] at hd; exact h.2 i v d hv hd
 ·rename_i hi; rw [if_neg hi] at hd; exact k.2 _ v d hv hd
theorem CR.sim {w : World} {cs : List Value} {ds : List D} (h : CR w cs ds) : SimV (wholeHp w) (.agg cs.toArray) (.ag (ds.map .d)) := by
 refine .ag (by rw [List.length_map]; exact h.1) (fun u hu => ?_) (fun i c u hc hu => ?_)
 ·obtain ⟨i, hi, rfl⟩ := List.getElem_of_mem hu
  exact (h.2 i _ _ (List.getElem?_eq_getElem hi) (List.getElem?_eq_getElem (by rw [← h.1]; exact hi))).1
 ·rw [List.getElem?_map] at hc
  cases hd : ds[i]? with
  | none => rw [hd] at hc; cases hc
  | some d =>
   rw [hd] at hc; cases hc
   obtain ⟨a, b⟩ := h.2 i u d hu hd
   exact .d b a
structure Meas {H : Type} (β : DataW H → Nat) : Prop where
 el : ∀ es sp d, d ∈ es → β d ≤ β (.slice es sp)
 ln : ∀ es sp, es.length ≤ β (.slice es sp)
 ag : ∀ ps d, d ∈ ps → β d ≤ β (.agg ps)
section
variable {H : Type} (enc : TypeId × Value → H) (P : Program) (w : World) (base : Nat) (spare : Nat → Bool) (held : Bool) (β : DataW H → Nat)
def Opens (t : TypeId) {α : Type} (f : α → D) (ok : α → Nat → Prop) : Prop :=
 ∀ (fuel : Nat) (cs : List Value) (x : DataW H × List MemPlace), DataW.trod enc P w base spare held fuel t cs = some x → ∃ a, CR w cs (f a).cells ∧ ok a (β x.1)
end
section
variable {H : Type} {enc : TypeId × Value → H} {P : Program} {w : World} {base : Nat} {spare : Nat → Bool} {held : Bool} {β : DataW H → Nat}
theorem Opens.int {t : TypeId} (ht : P.underlying t = some (.int .i64)) : Opens enc P w base spare held β t dI fun _ _ => True := fun fuel cs x h => by
 obtain ⟨n, rfl, _, _⟩ := DataW.trod_int ht h
 exact ⟨n, .one rfl (.sc rfl), trivial⟩
theorem Opens.u32 {t : TypeId} (ht : P.underlying t = some (.int .u32)) : Opens enc P w base spare held β t d32 fun n _ => n < 4294967296 := fun fuel cs x h => by
 obtain ⟨n, rfl, _, hw⟩ := DataW.trod_int ht h
 simp only [Lit.wf, Bool.and_eq_true, decide_eq_true_eq] at hw
 have e1 : IntKind.min .u32 = 0 := by decide
 have e2 : IntKind.max .u32 = 4294967295 := by decide
 rw [e1, e2] at hw
 obtain ⟨h1, h2⟩ := hw
 refine ⟨n.toNat, ?_, by omega⟩
 have e : (n.toNat : Int) = n := Int.toNat_of_nonneg h1
 show CR w [.int .u32 n] [.sc (.int .u32 (n.toNat : Int))]
 rw [e]
 exact .one rfl (.sc rfl)
theorem Opens.bool {t : TypeId} (ht : P.underlying t = some .bool) : Opens enc P w base spare held β t dB fun _ _ => True := fun fuel cs x h => by
 obtain ⟨b, rfl, _⟩ := DataW.trod_bool ht h
 exact ⟨b, .one rfl (.sc rfl), trivial⟩
theorem exists_list {α : Type} {p : Nat → α → Prop} : ∀ {n : Nat}, (∀ i, i < n → ∃ a, p i a) → ∃ l : List α, l.length = n ∧ ∀ i a, l[i]? = some a → p i a
 | 0, _ => ⟨[], rfl, fun i a h => by simp at h⟩
 | n + 1, h => by
  obtain ⟨l, hl, hp⟩ := exists_list (n := n) fun i hi => h i (by omega)
  obtain ⟨a, ha⟩ := h n (by omega)
  refine ⟨l ++ [a], by rw [List.length_append, hl]; rfl, fun i b hb => ?_⟩
  rw [List.getElem?_append] at hb
  split at hb
  ·exact hp i b hb
  ·rename_i hi
   rcases Nat.lt_or_ge (i - l.length) 1 with x | x
   ·rw [show i - l.length = 0 by omega] at hb
    cases hb
    rw [show i = n by omega]; exact ha
   ·rw [List.getElem?_eq_none (by simpa using x)] at hb; cases hb
theorem flat_at {α : Type} {f : α → D} {sz : Nat} (hf : ∀ a, (f a).cells.length = sz) (h0 : 0 < sz) : ∀ (l : List α) (i : Nat), ((l.map f).flatMap D.cells)[i]? = (l[i / sz]?).bind fun a => (f a).cells[i % sz]?
 | [], i => by simp
 | a :: l, i => by
  rw [List.map_cons, List.flatMap_cons, List.getElem?_append, hf a]
  split
  ·rename_i hi
   rw [Nat.div_eq_of_lt hi, Nat.mod_eq_of_lt hi]; rfl
  ·rename_i hi
   rw [flat_at hf h0 l (i - sz)]
   have e1 : i / sz = (i - sz) / sz + 1 := by
    conv => lhs; rw [show i = (i - sz) + sz by omega]
    exact Nat.add_div_right _ h0
   have e2 : i % sz = (i - sz) % sz := by
    conv => lhs; rw [show i = (i - sz) + sz by omega]
    exact Nat.add_mod_right _ _
   rw [e1, e2]; rfl
theorem Opens.slice {t e : TypeId} {sz : Nat} {α : Type} {f : α → D} {ok : α → Nat → Prop} (ht : P.underlying t = some (.slice e)) (hc : P.cellsOf e = sz) (h0 : 0 < sz) (hf : ∀ a, (f a).cells.length = sz) (hm : Meas β) (mono : ∀ a b c, ok a b → b ≤ c → ok a c)
  (ho : Opens enc P w base spare held β e f ok) : Opens enc P w base spare held β t (fun l : List α => D.sl (l.map f)) fun l b => l.length ≤ b ∧ ∀ a, a ∈ l → ok a b := fun fuel cs x h => by
 rcases DataW.trod_slice ht h with ⟨rfl, rfl⟩ | ⟨ad, len, cap, elems, rest, n, rfl, rfl, rfl, hb, hl, hmx, hel, hget, _, _⟩
 ·exact ⟨[], .one rfl Rep.nil_, Nat.zero_le _, fun a ha => by cases ha⟩
 ·rw [hc] at hget
  have key : ∀ i, i < len → ∃ a : α, (∃ cs', w.cells? base (ad.add (i * sz)) sz = some cs' ∧ CR w cs' (f a).cells) ∧ ok a (β (.slice (elems.map (·.1)) (rest.map (·.1)))) := fun i hi => by
   have hg := hget i hi
   rw [List.getElem?_eq_getElem (by omega)] at hg
   obtain ⟨cs', h1, h2⟩ := Option.bind_eq_some_iff.1 hg
   obtain ⟨a, h3, h4⟩ := ho n cs' _ h2
   exact ⟨a, ⟨cs', h1, h3⟩, mono a _ _ h4 (hm.el _ _ _ (List.mem_map.2 ⟨_, List.getElem_mem (by omega), rfl⟩))⟩
  obtain ⟨l, hll, hlp⟩ := exists_list key
  have cell : ∀ i, i < len * sz → ∃ a u d, l[i / sz]? = some a ∧ (f a).cells[i % sz]? = some d ∧ w.cell? (ad.add i) = some u ∧ u.oneCell' = true ∧ Rep (wholeHp w) u d := fun i hi => by
   have hq : i / sz < len := (Nat.div_lt_iff_lt_mul h0).2 hi
   have hr : i % sz < sz := Nat.mod_lt _ h0
   have hla := List.getElem?_eq_getElem (l := l) (i := i / sz) (by omega)
   obtain ⟨⟨cs', h1, h2⟩, _⟩ := hlp _ _ hla
   obtain ⟨_, h3, h4⟩ := World.cells?_some h1
   have h5 := h4 (i % sz) hr
   have e : (ad.add (i / sz * sz)).add (i % sz) = ad.add i := by
    have : i / sz * sz + i % sz = i := Nat.div_add_mod' i sz
    rw [Addr.add_add, this]
   rw [e] at h5
   have hcl : i % sz < (f l[i / sz]).cells.length := by rw [hf]; exact hr
   have hu := List.getElem?_eq_getElem (l := cs') (i := i % sz) (by omega)
   have hd := List.getElem?_eq_getElem hcl
   obtain ⟨h6, h7⟩ := h2.2 _ _ _ hu hd
   exact ⟨_, _, _, hla, hd, h5.trans hu, h6, h7⟩
  refine ⟨l, .one rfl (.sl (sz := sz) (us := fun i => (w.cell? (ad.add i)).getD (.bool false)) (by rw [List.length_map]; exact hll) hl (fun y hy => by obtain ⟨a, _, rfl⟩ := List.mem_map.1 hy; exact hf a) (fun i hi => ?_) (fun i hi => ?_) fun i d hd => ?_), ?_, fun a ha => ?_⟩
  ·obtain ⟨a, u, d, _, _, h3, _, _⟩ := cell i hi
   exact ⟨ad, rfl, by rw [cellF_whole, h3]; rfl⟩
  ·obtain ⟨a, u, d, _, _, h3, h4, _⟩ := cell i hi
   rw [h3]; exact h4
  ·rw [flat_at hf h0] at hd
   obtain ⟨a, ha, hd⟩ := Option.bind_eq_some_iff.1 hd
   have hq : i / sz < l.length := (List.getElem?_eq_some_iff.1 ha).1
   have hi : i < len * sz := (Nat.div_lt_iff_lt_mul h0).1 (by omega)
   obtain ⟨a2, u, d2, h1, h2, h3, _, h5⟩ := cell i hi
   rw [ha] at h1; cases h1
   rw [hd] at h2; cases h2
   simp only [h3]; exact h5
  ·have := hm.ln (elems.map (·.1)) (rest.map (·.1))
   rw [List.length_map] at this
   show l.length ≤ β (.slice (elems.map (·.1)) (rest.map (·.1)))
   omega
  ·obtain ⟨i, hi, rfl⟩ := List.getElem_of_mem ha
   exact (hlp i _ (List.getElem?_eq_getElem hi)).2
end
end Go.AL

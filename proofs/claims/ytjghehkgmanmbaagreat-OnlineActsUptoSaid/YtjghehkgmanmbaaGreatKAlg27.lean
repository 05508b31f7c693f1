/-
  AL, part 27: a region whose order is open, by what each of its operations does wherever it comes.
-/
import Derived.Test.YtjghehkgmanmbaaGreatKAlg26
set_option linter.unusedVariables false
set_option linter.unusedSimpArgs false
namespace Go.AL
open Go Go.BigFrame
def pS (s0 : S) (val : Nat → (Nat → Nat × Nat) → V) (blk : Nat → (Nat → Nat × Nat) → Option Blk) (own : Nat → Option Nat) (β : Nat → Nat × Nat) (L : Array Bool) : S :=
  ⟨fun t => match own t with | some i => if L.getD i false = true then val t β else s0.ρ t | none => s0.ρ t,
   fun t => match own t with | some i => if L.getD i false = true then (match blk t β with | some b => some b | none => s0.M t) else s0.M t | none => s0.M t⟩
def depB (ops : Array Oper) (i j : Nat) : Bool := match ops[i]? with | some o => o.after.toList.any fun e => Region.binds .any e && e.on == j | none => false
structure Come (ops : Array Oper) (L : Array Bool) (i : Nat) : Prop where
 size : L.size = ops.size
 no : L.getD i false = false
 dep : ∀ j, depB ops i j = true → L.getD j false = true
 closed : ∀ k j, L.getD k false = true → depB ops k j = true → L.getD j false = true
section
variable {P : Program} {E : Env} {s0 : S} {val : Nat → (Nat → Nat × Nat) → V} {blk : Nat → (Nat → Nat × Nat) → Option Blk} {own : Nat → Option Nat} {β : Nat → Nat × Nat} {L : Array Bool}
theorem pS_old {t : Nat} (h : own t = none) : (pS s0 val blk own β L).ρ t = s0.ρ t := by simp only [pS, h]
theorem pS_new {t i : Nat} (h : own t = some i) (hi : L.getD i false = true) : (pS s0 val blk own β L).ρ t = val t β := by simp only [pS, h, hi, if_true]
theorem pS_M0 {t i : Nat} (h : own t = some i) (hi : L.getD i false = false) : (pS s0 val blk own β L).M t = s0.M t := by
 simp only [pS, h]
 rw [if_neg (by rw [hi]; decide)]
theorem pS_Mold {t : Nat} (h : own t = none) : (pS s0 val blk own β L).M t = s0.M t := by simp only [pS, h]
theorem pS_M {t i : Nat} {b : Blk} (h : own t = some i) (hi : L.getD i false = true) (hb : blk t β = some b) : (pS s0 val blk own β L).M t = some b := by simp only [pS, h, hi, if_true, hb]
theorem pS_none (hL : ∀ i, L.getD i false = false) : pS s0 val blk own β L = s0 := by
 cases s0 with
 | mk ρ M =>
  simp only [pS, S.mk.injEq]
  constructor
  ·funext t
   cases own t with
   | none => rfl
   | some i => simp [hL i]
  ·funext t
   cases own t with
   | none => rfl
   | some i => simp [hL i]
theorem getD_set_b {i j : Nat} (hi : i < L.size) : (L.setIfInBounds i true).getD j false = if j = i then true else L.getD j false := by
 simp only [Array.getD_eq_getD_getElem?, Array.getElem?_setIfInBounds]
 by_cases hji : i = j
 ·subst hji; simp [hi]
 ·simp [hji, Ne.symm hji]
theorem S_ext {a b : S} (h1 : ∀ t, a.ρ t = b.ρ t) (h2 : ∀ t, a.M t = b.M t) : a = b := by
 cases a; cases b
 simp only [S.mk.injEq]
 exact ⟨funext h1, funext h2⟩
theorem pS_other {t i : Nat} (hi : i < L.size) (hne : own t ≠ some i) : (pS s0 val blk own β L).ρ t = (pS s0 val blk own β (L.setIfInBounds i true)).ρ t ∧ (pS s0 val blk own β L).M t = (pS s0 val blk own β (L.setIfInBounds i true)).M t := by
 cases ho : own t with
 | none => rw [pS_old ho, pS_old ho, pS_Mold ho, pS_Mold ho]; exact ⟨rfl, rfl⟩
 | some j =>
  have hj : j ≠ i := fun e => hne (by rw [ho, e])
  have e := getD_set_b (L := L) (i := i) (j := j) hi
  rw [if_neg hj] at e
  simp only [pS, ho, e]
  exact ⟨by first | trivial | rfl, by first | trivial | rfl⟩
theorem pS_put {d i : Nat} (h : own d = some i) (hu : ∀ t, own t = some i → t = d) (hi : i < L.size) (hb : blk d β = none) : (pS s0 val blk own β L).put (some d) (val d β) = pS s0 val blk own β (L.setIfInBounds i true) := by
 have hs : (L.setIfInBounds i true).getD i false = true := by rw [getD_set_b hi, if_pos rfl]
 refine S_ext (fun t => ?_) (fun t => ?_)
 ·show upd (pS s0 val blk own β L).ρ d (val d β) t = _
  by_cases ht : t = d
  ·subst ht; rw [upd_same, pS_new h hs]
  ·rw [upd_ne _ _ ht]; exact (pS_other hi fun e => ht (hu t e)).1
 ·show (pS s0 val blk own β L).M t = _
  by_cases ht : t = d
  ·subst ht
   simp only [pS, h, hs, hb, if_true, ite_self]
  ·exact (pS_other hi fun e => ht (hu t e)).2
theorem pS_add {d i : Nat} {x : Nat × Nat} {b : Blk} {v : V} (h : own d = some i) (hu : ∀ t, own t = some i → t = d) (hi : i < L.size) (hv : val d (upd β d x) = v) (hb : blk d (upd β d x) = some b)
  (hs : ∀ t j, own t = some j → L.getD j false = true → val t (upd β d x) = val t β ∧ blk t (upd β d x) = blk t β) :
  (⟨upd (pS s0 val blk own β L).ρ d v, upd (pS s0 val blk own β L).M d (some b)⟩ : S) = pS s0 val blk own (upd β d x) (L.setIfInBounds i true) := by
 have hl : (L.setIfInBounds i true).getD i false = true := by rw [getD_set_b hi, if_pos rfl]
 have same : ∀ t, own t ≠ some i → (pS s0 val blk own β L).ρ t = (pS s0 val blk own (upd β d x) L).ρ t ∧ (pS s0 val blk own β L).M t = (pS s0 val blk own (upd β d x) L).M t := fun t _ => by
  cases ho : own t with
  | none => rw [pS_old ho, pS_old ho, pS_Mold ho, pS_Mold ho]; exact ⟨rfl, rfl⟩
  | some j =>
   cases hj : L.getD j false with
   | true =>
    obtain ⟨h1, h2⟩ := hs t j ho hj
    simp only [pS, ho, hj, h1, h2]
    exact ⟨by first | trivial | rfl, by first | trivial | rfl⟩
   | false =>
    rw [pS_M0 ho hj, pS_M0 ho hj]
    simp only [pS, ho, hj]
    exact ⟨by first | trivial | rfl, by first | trivial | rfl⟩
 refine S_ext (fun t => ?_) (fun t => ?_)
 ·show upd (pS s0 val blk own β L).ρ d v t = _
  by_cases ht : t = d
  ·subst ht; rw [upd_same, pS_new h hl, hv]
  ·have hne : own t ≠ some i := fun e => ht (hu t e)
   rw [upd_ne _ _ ht, (same t hne).1]; exact (pS_other hi hne).1
 ·show upd (pS s0 val blk own β L).M d (some b) t = _
  by_cases ht : t = d
  ·subst ht; rw [upd_same, pS_M h hl hb]
  ·have hne : own t ≠ some i := fun e => ht (hu t e)
   rw [upd_ne _ _ ht, (same t hne).2]; exact (pS_other hi hne).2
theorem OG.of_OL {m : Nat} {ops : Array Oper} {o : Oper} {K : S → Prop} {s : S} (h : OL P m ops K [o] s) : OG P m ops o K s := h
theorem lt_size {ops : Array Oper} (n : Nat) {i : Nat} (h : L.size = ops.size) (hn : ops.size = n) (hi : i < n) : i < L.size := by omega
theorem wpAny_plan {Q : Exit → S → Prop} {ops : Array Oper} {last : Nat} (hd : ∀ o, o ∈ ops.toList → Below' E.n o.dst) (hsz : ops.size = last + 1) (hedge : ∀ i o, ops[i]? = some o → ∀ e, e ∈ o.after.toList → Region.binds .any e = true → e.on < i)
  (hall : ∀ j, j < last → depB ops last j = true)
  (hob : ∀ i, i < last → ∀ β L, Come ops L i → ∃ o, ops[i]? = some o ∧ OG P 0 ops o (fun s' => ∃ β', s' = pS s0 val blk own β' (L.setIfInBounds i true)) (pS s0 val blk own β L))
  (hfin : ∀ β L, Come ops L last → ∃ o, ops[last]? = some o ∧ OG P 0 ops o (Q .normal) (pS s0 val blk own β L)) :
  ∀ (fuel : Nat) (listed : Array Bool) (β : Nat → Nat × Nat) (F : Hp) (a : Act) (w : World), listed.size = ops.size → ((List.range ops.size).filter fun i => !listed.getD i true).length = fuel → listed.getD last false = false →
   (∀ k j, listed.getD k false = true → depB ops k j = true → listed.getD j false = true) → Run E F (pS s0 val blk own β listed) a w → wpAny P .any ops (PostQ E Q) fuel listed a w := by
 have depB_iff : ∀ i o, ops[i]? = some o → ∀ j, depB ops i j = true → ∃ e, e ∈ o.after.toList ∧ Region.binds .any e = true ∧ e.on = j := fun i o ho j h => by
  unfold depB at h
  rw [ho] at h
  obtain ⟨e, he, h2⟩ := List.any_eq_true.1 h
  rw [Bool.and_eq_true] at h2
  exact ⟨e, he, h2.1, by simpa using h2.2⟩
 have depB_of : ∀ i o, ops[i]? = some o → ∀ e, e ∈ o.after.toList → Region.binds .any e = true → depB ops i e.on = true := fun i o ho e he hb => by
  unfold depB
  rw [ho]
  exact List.any_eq_true.2 ⟨e, he, by rw [hb]; simp⟩
 have mem_ready : ∀ (listed : Array Bool) (i : Nat), i ∈ Region.ready .any ops listed ↔ i < ops.size ∧ listed.getD i true = false ∧ ∃ o, ops[i]? = some o ∧ ∀ e, e ∈ o.after.toList → Region.binds .any e = true → listed.getD e.on false = true := fun listed i => by
  unfold Region.ready
  rw [List.mem_filter, List.mem_range]
  constructor
  ·rintro ⟨h1, h2⟩
   rw [Bool.and_eq_true] at h2
   refine ⟨h1, by simpa using h2.1, ?_⟩
   have ho : ops[i]? = some ops[i] := Array.getElem?_eq_getElem h1
   refine ⟨_, ho, fun e he hb => ?_⟩
   have h3 := h2.2
   rw [ho] at h3
   simp only [Option.map_some, Option.getD_some] at h3
   rw [← Array.all_toList, List.all_eq_true] at h3
   have := h3 e he
   rw [hb] at this
   simpa using this
  ·rintro ⟨h1, h2, o, ho, h3⟩
   refine ⟨h1, ?_⟩
   rw [Bool.and_eq_true]
   refine ⟨by simp [h2], ?_⟩
   rw [ho]
   simp only [Option.map_some, Option.getD_some]
   rw [← Array.all_toList, List.all_eq_true]
   intro e he
   cases hb : Region.binds .any e with
   | false => rfl
   | true => simpa using h3 e he hb
 have tf : ∀ (listed : Array Bool) k, k < listed.size → listed.getD k false = listed.getD k true := fun listed k hk => by simp [Array.getD, hk]
 have lt_of : ∀ (listed : Array Bool) k, listed.getD k false = true → k < listed.size := fun listed k h => by
  rcases Nat.lt_or_ge k listed.size with h1 | h1
  ·exact h1
  ·simp [Array.getD, Nat.not_lt.2 h1] at h
 intro fuel
 induction fuel with
 | zero =>
  intro listed β F a w hL hlen hlast _ _
  exfalso
  have hm : last ∈ (List.range ops.size).filter fun i => !listed.getD i true := List.mem_filter.2 ⟨List.mem_range.2 (by omega), by rw [← tf listed last (by omega), hlast]; rfl⟩
  rw [List.eq_nil_of_length_eq_zero hlen] at hm
  simp at hm
 | succ fuel ih =>
  intro listed β F a w hL hlen hlast hcl hr
  have some_ready : ∀ i, i < ops.size → listed.getD i true = false → ∃ j, j ∈ Region.ready .any ops listed := by
   intro i
   induction i using Nat.strongRecOn with
   | _ i ihi =>
    intro hi hli
    have ho : ops[i]? = some ops[i] := Array.getElem?_eq_getElem hi
    by_cases hx : ∃ e, e ∈ ops[i].after.toList ∧ Region.binds .any e = true ∧ listed.getD e.on false = false
    ·obtain ⟨e, he, hb, hl⟩ := hx
     have hei := hedge i _ ho e he hb
     exact ihi e.on hei (by omega) (by rw [← tf listed e.on (by omega)]; exact hl)
    ·refine ⟨i, (mem_ready listed i).2 ⟨hi, hli, _, ho, fun e he hb => ?_⟩⟩
     cases hl : listed.getD e.on false with
     | true => rfl
     | false => exact absurd ⟨e, he, hb, hl⟩ hx
  refine ⟨fun hnil => ?_, fun i hi => ?_⟩
  ·exfalso
   obtain ⟨j, hj⟩ := some_ready last (by omega) (by rw [← tf listed last (by omega)]; exact hlast)
   rw [hnil] at hj
   simp at hj
  ·obtain ⟨hin, hli, o, ho, hrdy⟩ := (mem_ready listed i).1 hi
   have hli' : listed.getD i false = false := by rw [tf listed i (by omega)]; exact hli
   have hdep : ∀ j, depB ops i j = true → listed.getD j false = true := fun j hj => by
    obtain ⟨e, he, hb, rfl⟩ := depB_iff i o ho j hj
    exact hrdy e he hb
   have hcome : Come ops listed i := ⟨hL, hli', hdep, hcl⟩
   have hdo : Below' E.n o.dst := hd o (by
    obtain ⟨h1, h2⟩ := Array.getElem?_eq_some_iff.1 ho
    rw [← h2]; exact Array.getElem_mem_toList h1)
   have hset : ∀ j, (listed.setIfInBounds i true).getD j true = if j = i then true else listed.getD j true := fun j => by
    simp only [Array.getD_eq_getD_getElem?, Array.getElem?_setIfInBounds]
    by_cases hji : i = j
    ·subst hji; simp [show i < listed.size by omega]
    ·simp [hji, Ne.symm hji]
   by_cases hil : i = last
   ·subst hil
    obtain ⟨o', ho', hog⟩ := hfin β listed hcome
    rw [ho] at ho'; cases ho'
    have hone : fuel = 0 := by
     have hsub : ∀ x, x ∈ (List.range ops.size).filter (fun i => !listed.getD i true) → x = i := fun x hx => by
      obtain ⟨h1, h2⟩ := List.mem_filter.1 hx
      have h1 := List.mem_range.1 h1
      rcases Nat.lt_or_ge x i with h3 | h3
      ·have := hdep x (hall x h3)
       rw [tf listed x (by omega)] at this
       rw [this] at h2
       simp at h2
      ·omega
     have hnd : ((List.range ops.size).filter fun i => !listed.getD i true).Nodup := List.nodup_range.filter _
     rcases hq : (List.range ops.size).filter fun i => !listed.getD i true with _ | ⟨x, _ | ⟨y, r⟩⟩
     ·rw [hq] at hlen; simp at hlen
     ·rw [hq] at hlen; simp at hlen; omega
     ·rw [hq] at hsub hnd
      have e1 := hsub x (by simp)
      have e2 := hsub y (by simp)
      rw [e1, e2] at hnd
      simp at hnd
    subst hone
    refine OG.sound ho hog hr hdo fun F' s' a' w' hr' hk => ?_
    refine ⟨List.eq_nil_iff_forall_not_mem.2 fun j hj => ?_, ⟨F', s', hr', hk⟩⟩
    obtain ⟨h1, h2, _⟩ := (mem_ready _ j).1 hj
    rw [hset] at h2
    by_cases hji : j = i
    ·rw [if_pos hji] at h2; cases h2
    ·rw [if_neg hji] at h2
     have := hdep j (hall j (by omega))
     rw [tf listed j (by omega)] at this
     rw [this] at h2; cases h2
   ·obtain ⟨o', ho', hog⟩ := hob i (by omega) β listed hcome
    rw [ho] at ho'; cases ho'
    refine OG.sound ho hog hr hdo fun F' s' a' w' hr' ⟨β', hk⟩ => ?_
    subst hk
    refine ih _ β' F' a' w' (by simpa using hL) ?_ ?_ ?_ hr'
    ·have e1 : ((List.range ops.size).filter fun j => !(listed.setIfInBounds i true).getD j true) = ((List.range ops.size).filter fun j => !listed.getD j true).filter fun j => decide (j ≠ i) := by
      rw [List.filter_filter]
      apply List.filter_congr
      intro j _
      rw [hset]
      by_cases hji : j = i <;> simp [hji]
     have hnd : ((List.range ops.size).filter fun i => !listed.getD i true).Nodup := List.nodup_range.filter _
     have hmem : i ∈ (List.range ops.size).filter fun i => !listed.getD i true := List.mem_filter.2 ⟨List.mem_range.2 hin, by simp [hli]⟩
     rw [e1]
     obtain ⟨pre, post, hsp⟩ := List.append_of_mem hmem
     rw [hsp] at hlen hnd ⊢
     have hn2 : ∀ x, x ∈ pre ∨ x ∈ post → x ≠ i := fun x hx e => by
      subst e
      rw [List.nodup_append] at hnd
      obtain ⟨_, n2, n3⟩ := hnd
      rcases hx with hx | hx
      ·exact n3 x hx x (List.mem_cons_self ..) rfl
      ·exact (List.nodup_cons.1 n2).1 hx
     rw [List.filter_append, List.filter_cons]
     have f1 : pre.filter (fun j => decide (j ≠ i)) = pre := List.filter_eq_self.2 fun x hx => by simpa using hn2 x (.inl hx)
     have f2 : post.filter (fun j => decide (j ≠ i)) = post := List.filter_eq_self.2 fun x hx => by simpa using hn2 x (.inr hx)
     rw [f1, f2]
     simp at hlen ⊢
     omega
    ·rw [getD_set_b (by omega), if_neg (fun e => hil e.symm)]; exact hlast
    ·intro k j hk hj
     rw [getD_set_b (by omega)] at hk ⊢
     by_cases hji : j = i
     ·rw [if_pos hji]
     ·rw [if_neg hji]
      by_cases hki : k = i
      ·subst hki; exact hdep j hj
      ·rw [if_neg hki] at hk; exact hcl k j hk hj
theorem AW.region_plan {id : Nat} {ops : Array Oper} {Q : Exit → S → Prop} (val : Nat → (Nat → Nat × Nat) → V) (blk : Nat → (Nat → Nat × Nat) → Option Blk) (own : Nat → Option Nat) (last : Nat) (hf : P.follows .mixedOrders = true) (hd : dstOK E.n ops = true)
  (hsz : ops.size = last + 1) (he : edgesOK ops (List.range ops.size) = true) (hall : ((List.range last).all fun j => depB ops last j) = true)
  (hob : ∀ i, i < last → ∀ β L, Come ops L i → ∃ o, ops[i]? = some o ∧ OG P 0 ops o (fun s' => ∃ β', s' = pS s0 val blk own β' (L.setIfInBounds i true)) (pS s0 val blk own β L))
  (hfin : ∀ β L, Come ops L last → ∃ o, ops[last]? = some o ∧ OG P 0 ops o (Q .normal) (pS s0 val blk own β L)) : AW P E (.region id ops true) Q s0 := fun F a w hr => by
 have hnone : ∀ i, (Array.replicate ops.size false).getD i false = false := fun i => by
  simp only [Array.getD_eq_getD_getElem?, Array.getElem?_replicate]
  split <;> rfl
 have hrun : Run E F s0 a { w with drawn := w.drawn + 1 } := ⟨⟨hr.sim.imm, fun id blk hm => (hr.sim.own id blk hm).keep (Hp.le.refl F) fun _ _ => rfl, hr.sim.apart, hr.sim.inj⟩, ⟨hr.grow.os, hr.grow.tape, hr.grow.output, hr.grow.size, hr.grow.block⟩, hr.f0, hr.fnew, hr.mnew, hr.size, hr.defers, hr.slots⟩
 refine wp_region_any hf (wpAny_plan (s0 := s0) (val := val) (blk := blk) (own := own) (dstOK.spec hd) hsz (fun i o ho => edgesOK.spec _ he i o (List.mem_range.2 (Array.getElem?_eq_some_iff.1 ho).1) ho)
  (fun j hj => List.all_eq_true.1 hall j (List.mem_range.2 hj)) hob hfin ops.size _ (fun _ => (0, 0)) F a _ (by simp) ?_ (hnone last) (fun k j hk => by rw [hnone] at hk; cases hk) (by rw [pS_none hnone]; exact hrun))
 have : ((List.range ops.size).filter fun i => !(Array.replicate ops.size false).getD i true) = List.range ops.size := List.filter_eq_self.2 fun x hx => by
  have hx := List.mem_range.1 hx
  simp [Array.getD, hx]
 rw [this, List.length_range]
end
end Go.AL

/-
  AL, part 28: operations that are right of the machine by their own proof: slices of an owned row from a place on, copies within one row.
-/
import Derived.Test.YtjghehkgmanmbaaGreatKAlg27
set_option linter.unusedVariables false
set_option linter.unusedSimpArgs false
namespace Go.AL
open Go Go.BigFrame
def SO (P : Program) (E : Env) (o : Oper) (K : S → Prop) (s : S) : Prop :=
 ∀ F a w, Run E F s a w → Good P ((execOp a.eval o).run P w) fun u w' => ∃ F' s', Run E F' s' (a.put o.dst u) w' ∧ K s'
def SG (P : Program) (E : Env) (ops : Array Oper) (o : Oper) (K : S → Prop) (s : S) : Prop := OG P 0 ops o K s ∨ (o.guard = none ∧ SO P E o K s)
theorem SG.sound {P : Program} {E : Env} {F : Hp} {s : S} {a : Act} {w : World} {ops : Array Oper} {i : Nat} {o : Oper} {K : S → Prop} {Q' : Exit → Act → World → Prop} {next : Act → World → Prop} (ho : ops[i]? = some o) (h : SG P E ops o K s) (hr : Run E F s a w) (hd : Below' E.n o.dst)
  (hk : ∀ F' s' a' w', Run E F' s' a' w' → K s' → next a' w') : wpOp P ops Q' i next a w := by
 rcases h with h | ⟨hg, h⟩
 ·exact OG.sound ho h hr hd hk
 ·unfold wpOp
  simp only [ho]
  rw [if_pos (by simp [Region.wanted, hg])]
  exact .inl ((h F a w hr).wp fun u w' ⟨F', s', hr', hk'⟩ => hk F' s' _ w' hr' hk')
theorem SG.of_SO {P : Program} {E : Env} {ops : Array Oper} {K : S → Prop} {s : S} {dst : Option Nat} {op : Op} {ty : TypeId} {pos : String} {after : Array Edge} (h : SO P E ⟨dst, op, ty, pos, after, none⟩ K s) : SG P E ops ⟨dst, op, ty, pos, after, none⟩ K s := .inr ⟨rfl, h⟩
def SL (P : Program) (E : Env) (ops : Array Oper) (K : S → Prop) : List Oper → S → Prop
 | [], s => K s
 | o :: r, s => SG P E ops o (SL P E ops K r) s
theorem SL.wpList {P : Program} {E : Env} {ops : Array Oper} {Q : Exit → S → Prop} : ∀ (l : List Oper) {s : S} {a : Act} {F : Hp} {w : World}, Run E F s a w → (∀ o, o ∈ l → Below' E.n o.dst) → SL P E ops (Q .normal) l s →
  Go.wpList P ops (PostQ E Q) l a w
 | [], s, a, F, w, hr, _, h => ⟨F, s, hr, h⟩
 | o :: r, s, a, F, w, hr, hd, h => by
  have hdo := hd o (List.mem_cons_self ..)
  have hdr := fun x hx => hd x (List.mem_cons_of_mem _ hx)
  unfold Go.wpList
  unfold SL at h
  rcases h with h | ⟨hg, h⟩
  ·unfold OG at h
   cases hg : o.guard with
   | none =>
    simp only [hg] at h
    rw [if_pos (by simp [Region.wanted, hg])]
    exact .inl ((h.sound hr hdo).wp fun u w' ⟨F', s', hr', hk⟩ => SL.wpList r hr' hdr hk)
   | some q =>
    obtain ⟨j, want⟩ := q
    simp only [hg] at h
    obtain ⟨b, h1, h2⟩ := h
    have hy := gval_yielded hr h1
    rcases h2 with ⟨e, h2⟩ | ⟨e, h2⟩
    ·rw [if_pos (by simp [Region.wanted, hg, hy, e])]
     exact .inl ((h2.sound hr hdo).wp fun u w' ⟨F', s', hr', hk⟩ => SL.wpList r hr' hdr hk)
    ·rw [if_neg (by simp [Region.wanted, hg, hy, e])]
     exact SL.wpList r (hr.junk hdo) hdr h2
  ·rw [if_pos (by simp [Region.wanted, hg])]
   exact .inl ((h F a w hr).wp fun u w' ⟨F', s', hr', hk⟩ => SL.wpList r hr' hdr hk)
theorem AW.regionS {P : Program} {E : Env} {s : S} {id : Nat} {ops : Array Oper} {Q : Exit → S → Prop} (hd : dstOK E.n ops = true) (h : SL P E ops (Q .normal) ops.toList s) : AW P E (.region id ops false) Q s :=
 fun _ _ _ hr => wp_region_list (SL.wpList _ hr (dstOK.spec hd) h)
theorem SL.ofOL {P : Program} {E : Env} {ops : Array Oper} {K : S → Prop} {o : Oper} {r : List Oper} {s : S} (h : OL P 0 ops (SL P E ops K r) [o] s) : SL P E ops K (o :: r) s := .inl h
theorem SL.ofSO {P : Program} {E : Env} {ops : Array Oper} {K : S → Prop} {o : Oper} {r : List Oper} {s : S} (hg : o.guard = none) (h : SO P E o (SL P E ops K r) s) : SL P E ops K (o :: r) s := .inr ⟨hg, h⟩
section
variable {P : Program} {E : Env} {s0 : S} {val : Nat → (Nat → Nat × Nat) → V} {blk : Nat → (Nat → Nat × Nat) → Option Blk} {own : Nat → Option Nat} {β : Nat → Nat × Nat} {L : Array Bool}
theorem wpAny_planS {Q : Exit → S → Prop} {ops : Array Oper} {last : Nat} (hd : ∀ o, o ∈ ops.toList → Below' E.n o.dst) (hsz : ops.size = last + 1) (hedge : ∀ i o, ops[i]? = some o → ∀ e, e ∈ o.after.toList → Region.binds .any e = true → e.on < i)
  (hall : ∀ j, j < last → depB ops last j = true)
  (hob : ∀ i, i < last → ∀ β L, Come ops L i → ∃ o, ops[i]? = some o ∧ SG P E ops o (fun s' => ∃ β', s' = pS s0 val blk own β' (L.setIfInBounds i true)) (pS s0 val blk own β L))
  (hfin : ∀ β L, Come ops L last → ∃ o, ops[last]? = some o ∧ SG P E ops o (Q .normal) (pS s0 val blk own β L)) :
  ∀ (fuel : Nat) (listed : Array Bool) (β : Nat → Nat × Nat) (F : Hp) (a : Act) (w : World), listed.size = ops.size → ((List.range ops.size).filter fun i => !listed.getD i true).length = fuel → listed.getD last false = false →
   (∀ k j, listed.getD k false = true → depB ops k j = true → listed.getD j false = true) → Run E F (pS s0 val blk own β listed) a w → wpAny P .any ops (PostQ E Q) fuel listed a w := by
 have depB_iff : ∀ i o, ops[i]? = some o → ∀ j, depB ops i j = true → ∃ e, e ∈ o.after.toList ∧ Region.binds .any e = true ∧ e.on = j := fun i o ho j h => by
  unfold depB at h
  rw [ho] at h
  obtain ⟨e, he, h2⟩ := List.any_eq_true.1 h
  rw [Bool.and_eq_true] at h2
  exact ⟨e, he, h2.1, by simpa using h2.2⟩
 have depB_of : ∀ i o, ops[i]? = some o → ∀ e, e ∈ o.after.toList → Region.binds .any e = true → depB ops i e.on = true := fun i o ho e he hb => by
  unfold depB
  rw [ho]
  exact List.any_eq_true.2 ⟨e, he, by rw [hb]; simp⟩
 have mem_ready : ∀ (listed : Array Bool) (i : Nat), i ∈ Region.ready .any ops listed ↔ i < ops.size ∧ listed.getD i true = false ∧ ∃ o, ops[i]? = some o ∧ ∀ e, e ∈ o.after.toList → Region.binds .any e = true → listed.getD e.on false = true := fun listed i => by
  unfold Region.ready
  rw [List.mem_filter, List.mem_range]
  constructor
  ·rintro ⟨h1, h2⟩
   rw [Bool.and_eq_true] at h2
   refine ⟨h1, by simpa using h2.1, ?_⟩
   have ho : ops[i]? = some ops[i] := Array.getElem?_eq_getElem h1
   refine ⟨_, ho, fun e he hb => ?_⟩
   have h3 := h2.2
   rw [ho] at h3
   simp only [Option.map_some, Option.getD_some] at h3
   rw [← Array.all_toList, List.all_eq_true] at h3
   have := h3 e he
   rw [hb] at this
   simpa using this
  ·rintro ⟨h1, h2, o, ho, h3⟩
   refine ⟨h1, ?_⟩
   rw [Bool.and_eq_true]
   refine ⟨by simp [h2], ?_⟩
   rw [ho]
   simp only [Option.map_some, Option.getD_some]
   rw [← Array.all_toList, List.all_eq_true]
   intro e he
   cases hb : Region.binds .any e with
   | false => rfl
   | true => simpa using h3 e he hb
 have tf : ∀ (listed : Array Bool) k, k < listed.size → listed.getD k false = listed.getD k true := fun listed k hk => by simp [Array.getD, hk]
 have lt_of : ∀ (listed : Array Bool) k, listed.getD k false = true → k < listed.size := fun listed k h => by
  rcases Nat.lt_or_ge k listed.size with h1 | h1
  ·exact h1
  ·simp [Array.getD, Nat.not_lt.2 h1] at h
 intro fuel
 induction fuel with
 | zero =>
  intro listed β F a w hL hlen hlast _ _
  exfalso
  have hm : last ∈ (List.range ops.size).filter fun i => !listed.getD i true := List.mem_filter.2 ⟨List.mem_range.2 (by omega), by rw [← tf listed last (by omega), hlast]; rfl⟩
  rw [List.eq_nil_of_length_eq_zero hlen] at hm
  simp at hm
 | succ fuel ih =>
  intro listed β F a w hL hlen hlast hcl hr
  have some_ready : ∀ i, i < ops.size → listed.getD i true = false → ∃ j, j ∈ Region.ready .any ops listed := by
   intro i
   induction i using Nat.strongRecOn with
   | _ i ihi =>
    intro hi hli
    have ho : ops[i]? = some ops[i] := Array.getElem?_eq_getElem hi
    by_cases hx : ∃ e, e ∈ ops[i].after.toList ∧ Region.binds .any e = true ∧ listed.getD e.on false = false
    ·obtain ⟨e, he, hb, hl⟩ := hx
     have hei := hedge i _ ho e he hb
     exact ihi e.on hei (by omega) (by rw [← tf listed e.on (by omega)]; exact hl)
    ·refine ⟨i, (mem_ready listed i).2 ⟨hi, hli, _, ho, fun e he hb => ?_⟩⟩
     cases hl : listed.getD e.on false with
     | true => rfl
     | false => exact absurd ⟨e, he, hb, hl⟩ hx
  refine ⟨fun hnil => ?_, fun i hi => ?_⟩
  ·exfalso
   obtain ⟨j, hj⟩ := some_ready last (by omega) (by rw [← tf listed last (by omega)]; exact hlast)
   rw [hnil] at hj
   simp at hj
  ·obtain ⟨hin, hli, o, ho, hrdy⟩ := (mem_ready listed i).1 hi
   have hli' : listed.getD i false = false := by rw [tf listed i (by omega)]; exact hli
   have hdep : ∀ j, depB ops i j = true → listed.getD j false = true := fun j hj => by
    obtain ⟨e, he, hb, rfl⟩ := depB_iff i o ho j hj
    exact hrdy e he hb
   have hcome : Come ops listed i := ⟨hL, hli', hdep, hcl⟩
   have hdo : Below' E.n o.dst := hd o (by
    obtain ⟨h1, h2⟩ := Array.getElem?_eq_some_iff.1 ho
    rw [← h2]; exact Array.getElem_mem_toList h1)
   have hset : ∀ j, (listed.setIfInBounds i true).getD j true = if j = i then true else listed.getD j true := fun j => by
    simp only [Array.getD_eq_getD_getElem?, Array.getElem?_setIfInBounds]
    by_cases hji : i = j
    ·subst hji; simp [show i < listed.size by omega]
    ·simp [hji, Ne.symm hji]
   by_cases hil : i = last
   ·subst hil
    obtain ⟨o', ho', hog⟩ := hfin β listed hcome
    rw [ho] at ho'; cases ho'
    have hone : fuel = 0 := by
     have hsub : ∀ x, x ∈ (List.range ops.size).filter (fun i => !listed.getD i true) → x = i := fun x hx => by
      obtain ⟨h1, h2⟩ := List.mem_filter.1 hx
      have h1 := List.mem_range.1 h1
      rcases Nat.lt_or_ge x i with h3 | h3
      ·have := hdep x (hall x h3)
       rw [tf listed x (by omega)] at this
       rw [this] at h2
       simp at h2
      ·omega
     have hnd : ((List.range ops.size).filter fun i => !listed.getD i true).Nodup := List.nodup_range.filter _
     rcases hq : (List.range ops.size).filter fun i => !listed.getD i true with _ | ⟨x, _ | ⟨y, r⟩⟩
     ·rw [hq] at hlen; simp at hlen
     ·rw [hq] at hlen; simp at hlen; omega
     ·rw [hq] at hsub hnd
      have e1 := hsub x (by simp)
      have e2 := hsub y (by simp)
      rw [e1, e2] at hnd
      simp at hnd
    subst hone
    refine SG.sound ho hog hr hdo fun F' s' a' w' hr' hk => ?_
    refine ⟨List.eq_nil_iff_forall_not_mem.2 fun j hj => ?_, ⟨F', s', hr', hk⟩⟩
    obtain ⟨h1, h2, _⟩ := (mem_ready _ j).1 hj
    rw [hset] at h2
    by_cases hji : j = i
    ·rw [if_pos hji] at h2; cases h2
    ·rw [if_neg hji] at h2
     have := hdep j (hall j (by omega))
     rw [tf listed j (by omega)] at this
     rw [this] at h2; cases h2
   ·obtain ⟨o', ho', hog⟩ := hob i (by omega) β listed hcome
    rw [ho] at ho'; cases ho'
    refine SG.sound ho hog hr hdo fun F' s' a' w' hr' ⟨β', hk⟩ => ?_
    subst hk
    refine ih _ β' F' a' w' (by simpa using hL) ?_ ?_ ?_ hr'
    ·have e1 : ((List.range ops.size).filter fun j => !(listed.setIfInBounds i true).getD j true) = ((List.range ops.size).filter fun j => !listed.getD j true).filter fun j => decide (j ≠ i) := by
      rw [List.filter_filter]
      apply List.filter_congr
      intro j _
      rw [hset]
      by_cases hji : j = i <;> simp [hji]
     have hnd : ((List.range ops.size).filter fun i => !listed.getD i true).Nodup := List.nodup_range.filter _
     have hmem : i ∈ (List.range ops.size).filter fun i => !listed.getD i true := List.mem_filter.2 ⟨List.mem_range.2 hin, by simp [hli]⟩
     rw [e1]
     obtain ⟨pre, post, hsp⟩ := List.append_of_mem hmem
     rw [hsp] at hlen hnd ⊢
     have hn2 : ∀ x, x ∈ pre ∨ x ∈ post → x ≠ i := fun x hx e => by
      subst e
      rw [List.nodup_append] at hnd
      obtain ⟨_, n2, n3⟩ := hnd
      rcases hx with hx | hx
      ·exact n3 x hx x (List.mem_cons_self ..) rfl
      ·exact (List.nodup_cons.1 n2).1 hx
     rw [List.filter_append, List.filter_cons]
     have f1 : pre.filter (fun j => decide (j ≠ i)) = pre := List.filter_eq_self.2 fun x hx => by simpa using hn2 x (.inl hx)
     have f2 : post.filter (fun j => decide (j ≠ i)) = post := List.filter_eq_self.2 fun x hx => by simpa using hn2 x (.inr hx)
     rw [f1, f2]
     simp at hlen ⊢
     omega
    ·rw [getD_set_b (by omega), if_neg (fun e => hil e.symm)]; exact hlast
    ·intro k j hk hj
     rw [getD_set_b (by omega)] at hk ⊢
     by_cases hji : j = i
     ·rw [if_pos hji]
     ·rw [if_neg hji]
      by_cases hki : k = i
      ·subst hki; exact hdep j hj
      ·rw [if_neg hki] at hk; exact hcl k j hk hj
theorem AW.region_planS {id : Nat} {ops : Array Oper} {Q : Exit → S → Prop} (val : Nat → (Nat → Nat × Nat) → V) (blk : Nat → (Nat → Nat × Nat) → Option Blk) (own : Nat → Option Nat) (last : Nat) (hf : P.follows .mixedOrders = true) (hd : dstOK E.n ops = true)
  (hsz : ops.size = last + 1) (he : edgesOK ops (List.range ops.size) = true) (hall : ((List.range last).all fun j => depB ops last j) = true)
  (hob : ∀ i, i < last → ∀ β L, Come ops L i → ∃ o, ops[i]? = some o ∧ SG P E ops o (fun s' => ∃ β', s' = pS s0 val blk own β' (L.setIfInBounds i true)) (pS s0 val blk own β L))
  (hfin : ∀ β L, Come ops L last → ∃ o, ops[last]? = some o ∧ SG P E ops o (Q .normal) (pS s0 val blk own β L)) : AW P E (.region id ops true) Q s0 := fun F a w hr => by
 have hnone : ∀ i, (Array.replicate ops.size false).getD i false = false := fun i => by
  simp only [Array.getD_eq_getD_getElem?, Array.getElem?_replicate]
  split <;> rfl
 have hrun : Run E F s0 a { w with drawn := w.drawn + 1 } := ⟨⟨hr.sim.imm, fun id blk hm => (hr.sim.own id blk hm).keep (Hp.le.refl F) fun _ _ => rfl, hr.sim.apart, hr.sim.inj⟩, ⟨hr.grow.os, hr.grow.tape, hr.grow.output, hr.grow.size, hr.grow.block⟩, hr.f0, hr.fnew, hr.mnew, hr.size, hr.defers, hr.slots⟩
 refine wp_region_any hf (wpAny_planS (s0 := s0) (val := val) (blk := blk) (own := own) (dstOK.spec hd) hsz (fun i o ho => edgesOK.spec _ he i o (List.mem_range.2 (Array.getElem?_eq_some_iff.1 ho).1) ho)
  (fun j hj => List.all_eq_true.1 hall j (List.mem_range.2 hj)) hob hfin ops.size _ (fun _ => (0, 0)) F a _ (by simp) ?_ (hnone last) (fun k j hk => by rw [hnone] at hk; cases hk) (by rw [pS_none hnone]; exact hrun))
 have : ((List.range ops.size).filter fun i => !(Array.replicate ops.size false).getD i true) = List.range ops.size := List.filter_eq_self.2 fun x hx => by
  have hx := List.mem_range.1 hx
  simp [Array.getD, hx]
 rw [this, List.length_range]
end
section
variable {P : Program} {E : Env} {K : S → Prop} {s : S}
theorem Run.drop {E : Env} {F : Hp} {s : S} {a : Act} {w : World} (h : Run E F s a w) (id : Nat) : Run E F ⟨s.ρ, upd s.M id none⟩ a w := by
 have part : ∀ j q, (upd s.M id none) j = some q → s.M j = some q := fun j q hq => by unfold upd at hq; split at hq; cases hq; exact hq
 exact ⟨sim_sub h.sim part, h.grow, h.f0, h.fnew, fun j q k hq hk => h.mnew j q k (part j q hq) hk, h.size, h.defers, h.slots⟩
theorem Run.undrop {E : Env} {F : Hp} {s : S} {a : Act} {w : World} {id : Nat} (h : Run E F ⟨s.ρ, upd s.M id none⟩ a w) : Run E F ⟨s.ρ, upd s.M id (some deadBlk)⟩ a w := by
 have part : ∀ j q, (upd s.M id (some deadBlk)) j = some q → q = deadBlk ∨ (upd s.M id none) j = some q := fun j q hq => by
  unfold upd at hq ⊢
  split at hq
  ·exact .inl (Option.some.inj hq).symm
  ·rename_i e; rw [if_neg e]; exact .inr hq
 have no : ∀ k, ¬ deadBlk.owns k := fun k hk => absurd hk.1 (Nat.lt_irrefl 0)
 refine ⟨⟨h.sim.imm, fun j q hq => ?_, fun j q k hq hk => ?_, fun i j bi bj k hi hj ki kj => ?_⟩, h.grow, h.f0, h.fnew, fun j q k hq hk => ?_, h.size, h.defers, h.slots⟩
 ·rcases part j q hq with rfl | h1
  ·exact ⟨Nat.le_refl _, fun x hx => by simp at hx, fun hc => absurd hc (Nat.lt_irrefl 0)⟩
  ·exact h.sim.own j q h1
 ·rcases part j q hq with rfl | h1
  ·exact absurd hk (no k)
  ·exact h.sim.apart j q k h1 hk
 ·rcases part i bi hi with rfl | h1
  ·exact absurd ki (no k)
  ·rcases part j bj hj with rfl | h2
   ·exact absurd kj (no k)
   ·exact h.sim.inj i j bi bj k h1 h2 ki kj
 ·rcases part j q hq with rfl | h1
  ·exact absurd hk (no k)
  ·exact h.mnew j q k h1 hk
end
section
variable {s0 : S} {val : Nat → (Nat → Nat × Nat) → V} {blk : Nat → (Nat → Nat × Nat) → Option Blk} {own : Nat → Option Nat} {β : Nat → Nat × Nat} {L : Array Bool}
theorem pS_putM {d e i : Nat} {b : Blk} (hd : own d = some i) (he : own e = some i) (hde : d ≠ e) (hu : ∀ t, own t = some i → t = d ∨ t = e) (hi : i < L.size) (hno : L.getD i false = false) (hve : val e β = s0.ρ e) (hbd : blk d β = none) (hbe : blk e β = some b) :
  (⟨upd (pS s0 val blk own β L).ρ d (val d β), upd (pS s0 val blk own β L).M e (some b)⟩ : S) = pS s0 val blk own β (L.setIfInBounds i true) := by
 have hs : (L.setIfInBounds i true).getD i false = true := by rw [getD_set_b hi, if_pos rfl]
 refine S_ext (fun t => ?_) (fun t => ?_)
 ·show upd _ d (val d β) t = _
  by_cases ht : t = d
  ·subst ht; rw [upd_same, pS_new hd hs]
  ·rw [upd_ne _ _ ht]
   by_cases hte : t = e
   ·subst hte
    rw [pS_new he hs, hve]
    simp only [pS, he]
    rw [if_neg (by rw [hno]; decide)]
   ·exact (pS_other hi fun k => (hu t k).elim ht hte).1
 ·show upd _ e (some b) t = _
  by_cases hte : t = e
  ·subst hte; rw [upd_same, pS_M he hs hbe]
  ·rw [upd_ne _ _ hte]
   by_cases ht : t = d
   ·subst ht
    rw [pS_M0 hd hno]
    simp only [pS, hd, hs, hbd, if_true]
   ·exact (pS_other hi fun k => (hu t k).elim ht hte).2
end
end Go.AL

/-
  AL, part 30: a region whose order is open, by a plan that tells the memory too; slices that are none.
-/
import Derived.Test.YtonndaibggjmjaaGreatKAlg29
set_option linter.unusedVariables false
set_option linter.unusedSimpArgs false
namespace Go.AL
open Go Go.BigFrame
section
variable {P : Program} {E : Env} {s0 : S} {St : (Nat → Nat × Nat) → Array Bool → S}
theorem wpAny_planG {Q : Exit → S → Prop} {ops : Array Oper} {last : Nat} (hd : ∀ o, o ∈ ops.toList → Below' E.n o.dst) (hsz : ops.size = last + 1) (hedge : ∀ i o, ops[i]? = some o → ∀ e, e ∈ o.after.toList → Region.binds .any e = true → e.on < i)
  (hall : ∀ L, Come ops L last → ∀ j, j < last → L.getD j false = true)
  (hob : ∀ i, i < last → ∀ β L, Come ops L i → ∃ o, ops[i]? = some o ∧ SG P E ops o (fun s' => ∃ β', s' = St β' (L.setIfInBounds i true)) (St β L))
  (hfin : ∀ β L, Come ops L last → ∃ o, ops[last]? = some o ∧ SG P E ops o (Q .normal) (St β L)) :
  ∀ (fuel : Nat) (listed : Array Bool) (β : Nat → Nat × Nat) (F : Hp) (a : Act) (w : World), listed.size = ops.size → ((List.range ops.size).filter fun i => !listed.getD i true).length = fuel → listed.getD last false = false →
   (∀ k j, listed.getD k false = true → depB ops k j = true → listed.getD j false = true) → Run E F (St β listed) a w → wpAny P .any ops (PostQ E Q) fuel listed a w := by
 have depB_iff : ∀ i o, ops[i]? = some o → ∀ j, depB ops i j = true → ∃ e, e ∈ o.after.toList ∧ Region.binds .any e = true ∧ e.on = j := fun i o ho j h => by
  unfold depB at h
  rw [ho] at h
  obtain ⟨e, he, h2⟩ := List.any_eq_true.1 h
  rw [Bool.and_eq_true] at h2
  exact ⟨e, he, h2.1, by simpa using h2.2⟩
 have depB_of : ∀ i o, ops[i]? = some o → ∀ e, e ∈ o.after.toList → Region.binds .any e = true → depB ops i e.on = true := fun i o ho e he hb => by
  unfold depB
  rw [ho]
  exact List.any_eq_true.2 ⟨e, he, by rw [hb]; simp⟩
 have mem_ready : ∀ (listed : Array Bool) (i : Nat), i ∈ Region.ready .any ops listed ↔ i < ops.size ∧ listed.getD i true = false ∧ ∃ o, ops[i]? = some o ∧ ∀ e, e ∈ o.after.toList → Region.binds .any e = true → listed.getD e.on false = true := fun listed i => by
  unfold Region.ready
  rw [List.mem_filter, List.mem_range]
  constructor
  ·rintro ⟨h1, h2⟩
   rw [Bool.and_eq_true] at h2
   refine ⟨h1, by simpa using h2.1, ?_⟩
   have ho : ops[i]? = some ops[i] := Array.getElem?_eq_getElem h1
   refine ⟨_, ho, fun e he hb => ?_⟩
   have h3 := h2.2
   rw [ho] at h3
   simp only [Option.map_some, Option.getD_some] at h3
   rw [← Array.all_toList, List.all_eq_true] at h3
   have := h3 e he
   rw [hb] at this
   simpa using this
  ·rintro ⟨h1, h2, o, ho, h3⟩
   refine ⟨h1, ?_⟩
   rw [Bool.and_eq_true]
   refine ⟨by simp [h2], ?_⟩
   rw [ho]
   simp only [Option.map_some, Option.getD_some]
   rw [← Array.all_toList, List.all_eq_true]
   intro e he
   cases hb : Region.binds .any e with
   | false => rfl
   | true => simpa using h3 e he hb
 have tf : ∀ (listed : Array Bool) k, k < listed.size → listed.getD k false = listed.getD k true := fun listed k hk => by simp [Array.getD, hk]
 have lt_of : ∀ (listed : Array Bool) k, listed.getD k false = true → k < listed.size := fun listed k h => by
  rcases Nat.lt_or_ge k listed.size with h1 | h1
  ·exact h1
  ·simp [Array.getD, Nat.not_lt.2 h1] at h
 intro fuel
 induction fuel with
 | zero =>
  intro listed β F a w hL hlen hlast _ _
  exfalso
  have hm : last ∈ (List.range ops.size).filter fun i => !listed.getD i true := List.mem_filter.2 ⟨List.mem_range.2 (by omega), by rw [← tf listed last (by omega), hlast]; rfl⟩
  rw [List.eq_nil_of_length_eq_zero hlen] at hm
  simp at hm
 | succ fuel ih =>
  intro listed β F a w hL hlen hlast hcl hr
  have some_ready : ∀ i, i < ops.size → listed.getD i true = false → ∃ j, j ∈ Region.ready .any ops listed := by
   intro i
   induction i using Nat.strongRecOn with
   | _ i ihi =>
    intro hi hli
    have ho : ops[i]? = some ops[i] := Array.getElem?_eq_getElem hi
    by_cases hx : ∃ e, e ∈ ops[i].after.toList ∧ Region.binds .any e = true ∧ listed.getD e.on false = false
    ·obtain ⟨e, he, hb, hl⟩ := hx
     have hei := hedge i _ ho e he hb
     exact ihi e.on hei (by omega) (by rw [← tf listed e.on (by omega)]; exact hl)
    ·refine ⟨i, (mem_ready listed i).2 ⟨hi, hli, _, ho, fun e he hb => ?_⟩⟩
     cases hl : listed.getD e.on false with
     | true => rfl
     | false => exact absurd ⟨e, he, hb, hl⟩ hx
  refine ⟨fun hnil => ?_, fun i hi => ?_⟩
  ·exfalso
   obtain ⟨j, hj⟩ := some_ready last (by omega) (by rw [← tf listed last (by omega)]; exact hlast)
   rw [hnil] at hj
   simp at hj
  ·obtain ⟨hin, hli, o, ho, hrdy⟩ := (mem_ready listed i).1 hi
   have hli' : listed.getD i false = false := by rw [tf listed i (by omega)]; exact hli
   have hdep : ∀ j, depB ops i j = true → listed.getD j false = true := fun j hj => by
    obtain ⟨e, he, hb, rfl⟩ := depB_iff i o ho j hj
    exact hrdy e he hb
   have hcome : Come ops listed i := ⟨hL, hli', hdep, hcl⟩
   have hdo : Below' E.n o.dst := hd o (by
    obtain ⟨h1, h2⟩ := Array.getElem?_eq_some_iff.1 ho
    rw [← h2]; exact Array.getElem_mem_toList h1)
   have hset : ∀ j, (listed.setIfInBounds i true).getD j true = if j = i then true else listed.getD j true := fun j => by
    simp only [Array.getD_eq_getD_getElem?, Array.getElem?_setIfInBounds]
    by_cases hji : i = j
    ·subst hji; simp [show i < listed.size by omega]
    ·simp [hji, Ne.symm hji]
   by_cases hil : i = last
   ·subst hil
    obtain ⟨o', ho', hog⟩ := hfin β listed hcome
    rw [ho] at ho'; cases ho'
    have hone : fuel = 0 := by
     have hsub : ∀ x, x ∈ (List.range ops.size).filter (fun i => !listed.getD i true) → x = i := fun x hx => by
      obtain ⟨h1, h2⟩ := List.mem_filter.1 hx
      have h1 := List.mem_range.1 h1
      rcases Nat.lt_or_ge x i with h3 | h3
      ·have := hall listed hcome x h3
       rw [tf listed x (by omega)] at this
       rw [this] at h2
       simp at h2
      ·omega
     have hnd : ((List.range ops.size).filter fun i => !listed.getD i true).Nodup := List.nodup_range.filter _
     rcases hq : (List.range ops.size).filter fun i => !listed.getD i true with _ | ⟨x, _ | ⟨y, r⟩⟩
     ·rw [hq] at hlen; simp at hlen
     ·rw [hq] at hlen; simp at hlen; omega
     ·rw [hq] at hsub hnd
      have e1 := hsub x (by simp)
      have e2 := hsub y (by simp)
      rw [e1, e2] at hnd
      simp at hnd
    subst hone
    refine SG.sound ho hog hr hdo fun F' s' a' w' hr' hk => ?_
    refine ⟨List.eq_nil_iff_forall_not_mem.2 fun j hj => ?_, ⟨F', s', hr', hk⟩⟩
    obtain ⟨h1, h2, _⟩ := (mem_ready _ j).1 hj
    rw [hset] at h2
    by_cases hji : j = i
    ·rw [if_pos hji] at h2; cases h2
    ·rw [if_neg hji] at h2
     have := hall listed hcome j (by omega)
     rw [tf listed j (by omega)] at this
     rw [this] at h2; cases h2
   ·obtain ⟨o', ho', hog⟩ := hob i (by omega) β listed hcome
    rw [ho] at ho'; cases ho'
    refine SG.sound ho hog hr hdo fun F' s' a' w' hr' ⟨β', hk⟩ => ?_
    subst hk
    refine ih _ β' F' a' w' (by simpa using hL) ?_ ?_ ?_ hr'
    ·have e1 : ((List.range ops.size).filter fun j => !(listed.setIfInBounds i true).getD j true) = ((List.range ops.size).filter fun j => !listed.getD j true).filter fun j => decide (j ≠ i) := by
      rw [List.filter_filter]
      apply List.filter_congr
      intro j _
      rw [hset]
      by_cases hji : j = i <;> simp [hji]
     have hnd : ((List.range ops.size).filter fun i => !listed.getD i true).Nodup := List.nodup_range.filter _
     have hmem : i ∈ (List.range ops.size).filter fun i => !listed.getD i true := List.mem_filter.2 ⟨List.mem_range.2 hin, by simp [hli]⟩
     rw [e1]
     obtain ⟨pre, post, hsp⟩ := List.append_of_mem hmem
     rw [hsp] at hlen hnd ⊢
     have hn2 : ∀ x, x ∈ pre ∨ x ∈ post → x ≠ i := fun x hx e => by
      subst e
      rw [List.nodup_append] at hnd
      obtain ⟨_, n2, n3⟩ := hnd
      rcases hx with hx | hx
      ·exact n3 x hx x (List.mem_cons_self ..) rfl
      ·exact (List.nodup_cons.1 n2).1 hx
     rw [List.filter_append, List.filter_cons]
     have f1 : pre.filter (fun j => decide (j ≠ i)) = pre := List.filter_eq_self.2 fun x hx => by simpa using hn2 x (.inl hx)
     have f2 : post.filter (fun j => decide (j ≠ i)) = post := List.filter_eq_self.2 fun x hx => by simpa using hn2 x (.inr hx)
     rw [f1, f2]
     simp at hlen ⊢
     omega
    ·rw [getD_set_b (by omega), if_neg (fun e => hil e.symm)]; exact hlast
    ·intro k j hk hj
     rw [getD_set_b (by omega)] at hk ⊢
     by_cases hji : j = i
     ·rw [if_pos hji]
     ·rw [if_neg hji]
      by_cases hki : k = i
      ·subst hki; exact hdep j hj
      ·rw [if_neg hki] at hk; exact hcl k j hk hj
end
def pG (s0 : S) (val : Nat → (Nat → Nat × Nat) → V) (own : Nat → Option Nat) (mf : (Nat → Nat × Nat) → Array Bool → Mem) (β : Nat → Nat × Nat) (L : Array Bool) : S := ⟨(pS s0 val (fun _ _ => none) own β L).ρ, mf β L⟩
section
variable {s0 : S} {val : Nat → (Nat → Nat × Nat) → V} {own : Nat → Option Nat} {mf : (Nat → Nat × Nat) → Array Bool → Mem} {β : Nat → Nat × Nat} {L : Array Bool}
theorem pG_old {t : Nat} (h : own t = none) : (pG s0 val own mf β L).ρ t = s0.ρ t := pS_old (blk := fun _ _ => none) h
theorem pG_new {t i : Nat} (h : own t = some i) (hi : L.getD i false = true) : (pG s0 val own mf β L).ρ t = val t β := pS_new (blk := fun _ _ => none) h hi
theorem pG_M {t : Nat} {v : Option Blk} (h : mf β L t = v) : (pG s0 val own mf β L).M t = v := h
theorem pG_none (hL : ∀ i, L.getD i false = false) (hm : mf β L = s0.M) : pG s0 val own mf β L = s0 := by
 have e := pS_none (s0 := s0) (val := val) (blk := fun _ _ => none) (own := own) (β := β) hL
 unfold pG
 rw [e, hm]
theorem pG_put {d i : Nat} (h : own d = some i) (hu : ∀ t, own t = some i → t = d) (hi : i < L.size) (hm : mf β (L.setIfInBounds i true) = mf β L) : (pG s0 val own mf β L).put (some d) (val d β) = pG s0 val own mf β (L.setIfInBounds i true) := by
 have e := pS_put (s0 := s0) (val := val) (own := own) (L := L) (blk := fun _ _ => none) (β := β) h hu hi rfl
 unfold pG
 rw [← e, hm]
 rfl
theorem pG_set {d i : Nat} {x : Nat × Nat} {v : V} {M' : Mem} (h : own d = some i) (hu : ∀ t, own t = some i → t = d) (hi : i < L.size) (hv : val d (upd β d x) = v) (hm : mf (upd β d x) (L.setIfInBounds i true) = M') (hs : ∀ t j, own t = some j → L.getD j false = true → val t (upd β d x) = val t β) :
  (⟨upd (pG s0 val own mf β L).ρ d v, M'⟩ : S) = pG s0 val own mf (upd β d x) (L.setIfInBounds i true) := by
 have e := pS_put (s0 := s0) (val := val) (blk := fun _ _ => none) (own := own) (β := upd β d x) (L := L) h hu hi rfl
 unfold pG
 rw [← e, hm, hv]
 have e2 : (pS s0 val (fun _ _ => none) own β L).ρ = (pS s0 val (fun _ _ => none) own (upd β d x) L).ρ := funext fun t => by
  cases ho : own t with
  | none => rw [pS_old ho, pS_old ho]
  | some j =>
   cases hj : L.getD j false with
   | true => rw [pS_new ho hj, pS_new ho hj, hs t j ho hj]
   | false => simp only [pS, ho, hj]; rw [if_neg (by decide), if_neg (by decide)]
 rw [e2]
 rfl
end
section
variable {P : Program} {E : Env} {K : S → Prop} {s : S} {pos : String} {after : Array Edge} {ty : Nat}
theorem SL.nil {ops : Array Oper} (h : K s) : SL P E ops K [] s := h
theorem AW.dead {k : Code} {Q : Exit → S → Prop} (id : Nat) (hM : s.M id = none) (h : AW P E k Q ⟨s.ρ, upd s.M id (some deadBlk)⟩) : AW P E k Q s := fun F a w hr => by
 have e : upd s.M id none = s.M := by funext j; unfold upd; split; rename_i e2; rw [e2, hM]; rfl
 exact h F a w (Run.undrop (s := s) (by rw [e]; exact hr))
end
end Go.AL

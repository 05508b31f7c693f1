/-
  AL, part 28: operations that are right of the machine by their own proof: slices of an owned row from a place on, copies within one row.
-/
import Derived.Test.YtjghehkgmanmbaaGreatKAlg27
set_option linter.unusedVariables false
set_option linter.unusedSimpArgs false
namespace Go.AL
open Go Go.BigFrame
def SO (P : Program) (E : Env) (o : Oper) (K : S → Prop) (s : S) : Prop :=
 ∀ F a w, Run E F s a w → Good P ((execOp a.eval o).run P w) fun u w' => ∃ F' s', Run E F' s' (a.put o.dst u) w' ∧ K s'
def SG (P : Program) (E : Env) (ops : Array Oper) (o : Oper) (K : S → Prop) (s : S) : Prop := OG P 0 ops o K s ∨ (o.guard = none ∧ SO P E o K s)
theorem SG.sound {P : Program} {E : Env} {F : Hp} {s : S} {a : Act} {w : World} {ops : Array Oper} {i : Nat} {o : Oper} {K : S → Prop} {Q' : Exit → Act → World → Prop} {next : Act → World → Prop} (ho : ops[i]? = some o) (h : SG P E ops o K s) (hr : Run E F s a w) (hd : Below' E.n o.dst)
  (hk : ∀ F' s' a' w', Run E F' s' a' w' → K s' → next a' w') : wpOp P ops Q' i next a w := by
 rcases h with h | ⟨hg, h⟩
 ·exact OG.sound ho h hr hd hk
 ·unfold wpOp
  simp only [ho]
  rw [if_pos (by simp [Region.wanted, hg])]
  exact .inl ((h F a w hr).wp fun u w' ⟨F', s', hr', hk'⟩ => hk F' s' _ w' hr' hk')
theorem SG.of_SO {P : Program} {E : Env} {ops : Array Oper} {K : S → Prop} {s : S} {dst : Option Nat} {op : Op} {ty : TypeId} {pos : String} {after : Array Edge} (h : SO P E ⟨dst, op, ty, pos, after, none⟩ K s) : SG P E ops ⟨dst, op, ty, pos, after, none⟩ K s := .inr ⟨rfl, h⟩
def SL (P : Program) (E : Env) (ops : Array Oper) (K : S → Prop) : List Oper → S → Prop
 | [], s => K s
 | o :: r, s => SG P E ops o (SL P E ops K r) s
theorem SL.wpList {P : Program} {E : Env} {ops : Array Oper} {Q : Exit → S → Prop} : ∀ (l : List Oper) {s : S} {a : Act} {F : Hp} {w : World}, Run E F s a w → (∀ o, o ∈ l → Below' E.n o.dst) → SL P E ops (Q .normal) l s →
  Go.wpList P ops (PostQ E Q) l a w
 | [], s, a, F, w, hr, _, h => ⟨F, s, hr, h⟩
 | o :: r, s, a, F, w, hr, hd, h => by
  have hdo := hd o (List.mem_cons_self ..)
  have hdr := fun x hx => hd x (List.mem_cons_of_mem _ hx)
  unfold Go.wpList
  unfold SL at h
  rcases h with h | ⟨hg, h⟩
  ·unfold OG at h
   cases hg : o.guard with
   | none =>
    simp only [hg] at h
    rw [if_pos (by simp [Region.wanted, hg])]
    exact .inl ((h.sound hr hdo).wp fun u w' ⟨F', s', hr', hk⟩ => SL.wpList r hr' hdr hk)
   | some q =>
    obtain ⟨j, want⟩ := q
    simp only [hg] at h
    obtain ⟨b, h1, h2⟩ := h
    have hy := gval_yielded hr h1
    rcases h2 with ⟨e, h2⟩ | ⟨e, h2⟩
    ·rw [if_pos (by simp [Region.wanted, hg, hy, e])]
     exact .inl ((h2.sound hr hdo).wp fun u w' ⟨F', s', hr', hk⟩ => SL.wpList r hr' hdr hk)
    ·rw [if_neg (by simp [Region.wanted, hg, hy, e])]
     exact SL.wpList r (hr.junk hdo) hdr h2
  ·rw [if_pos (by simp [Region.wanted, hg])]
   exact .inl ((h F a w hr).wp fun u w' ⟨F', s', hr', hk⟩ => SL.wpList r hr' hdr hk)
theorem AW.regionS {P : Program} {E : Env} {s : S} {id : Nat} {ops : Array Oper} {Q : Exit → S → Prop} (hd : dstOK E.n ops = true) (h : SL P E ops (Q .normal) ops.toList s) : AW P E (.region id ops false) Q s :=
 fun _ _ _ hr => wp_region_list (SL.wpList _ hr (dstOK.spec hd) h)
theorem SL.ofOL {P : Program} {E : Env} {ops : Array Oper} {K : S → Prop} {o : Oper} {r : List Oper} {s : S} (h : OL P 0 ops (SL P E ops K r) [o] s) : SL P E ops K (o :: r) s := .inl h
theorem SL.ofSO {P : Program} {E : Env} {ops : Array Oper} {K : S → Prop} {o : Oper} {r : List Oper} {s : S} (hg : o.guard = none) (h : SO P E o (SL P E ops K r) s) : SL P E ops K (o :: r) s := .inr ⟨hg, h⟩
section
variable {P : Program} {E : Env} {s0 : S} {val : Nat → (Nat → Nat × Nat) → V} {blk : Nat → (Nat → Nat × Nat) → Option Blk} {own : Nat → Option Nat} {β : Nat → Nat × Nat} {L : Array Bool}
theorem wpAny_planS {Q : Exit → S → Prop} {ops : Array Oper} {last : Nat} (hd : ∀ o, o ∈ ops.toList → Below' E.n o.dst) (hsz : ops.size = last + 1) (hedge : ∀ i o, ops[i]? = some o → ∀ e, e ∈ o.after.toList → Region.binds .any e = true → e.on < i)
  (hall : ∀ j, j < last → depB ops last j = true)
  (hob : ∀ i, i < last → ∀ β L, Come ops L i → ∃ o, ops[i]? = some o ∧ SG P E ops o (fun s' => ∃ β', s' = pS s0 val blk own β' (L.setIfInBounds i true)) (pS s0 val blk own β L))
  (hfin : ∀ β L, Come ops L last → ∃ o, ops[last]? = some o ∧ SG P E ops o (Q .normal) (pS s0 val blk own β L)) :
  ∀ (fuel : Nat) (listed : Array Bool) (β : Nat → Nat × Nat) (F : Hp) (a : Act) (w : World), listed.size = ops.size → ((List.range ops.size).filter fun i => !listed.getD i true).length = fuel → listed.getD last false = false →
   (∀ k j, listed.getD k false = true → depB ops k j = true → listed.getD j false = true) → Run E F (pS s0 val blk own β listed) a w → wpAny P .any ops (PostQ E Q) fuel listed a w := by
 have depB_iff : ∀ i o, ops[i]? = some o → ∀ j, depB ops i j = true → ∃ e, e ∈ o.after.toList ∧ Region.binds .any e = true ∧ e.on = j := fun i o ho j h => by
  unfold depB at h
  rw [ho] at h
  obtain ⟨e, he, h2⟩ := List.any_eq_true.1 h
  rw [Bool.and_eq_true] at h2
  exact ⟨e, he, h2.1, by simpa using h2.2⟩
 have depB_of : ∀ i o, ops[i]? = some o → ∀ e, e ∈ o.after.toList → Region.binds .any e = true → depB ops i e.on = true := fun i o ho e he hb => by
  unfold depB
  rw [ho]
  exact List.any_eq_true.2 ⟨e, he, by rw [hb]; simp⟩
 have mem_ready : ∀ (listed : Array Bool) (i : Nat), i ∈ Region.ready .any ops listed ↔ i < ops.size ∧ listed.getD i true = false ∧ ∃ o, ops[i]? = some o ∧ ∀ e, e ∈ o.after.toList → Region.binds .any e = true → listed.getD e.on false = true := fun listed i => by
  unfold Region.ready
  rw [List.mem_filter, List.mem_range]
  constructor
  ·rintro ⟨h1, h2⟩
   rw [Bool.and_eq_true] at h2
   refine ⟨h1, by simpa using h2.1, ?_⟩
   have ho : ops[i]? = some ops[i] := Array.getElem?_eq_getElem h1
   refine ⟨_, ho, fun e he hb => ?_⟩
   have h3 := h2.2
   rw [ho] at h3
   simp only [Option.map_some, Option.getD_some] at h3
   rw [← Array.all_toList, List.all_eq_true] at h3
   have := h3 e he
   rw [hb] at this
   simpa using this
  ·rintro ⟨h1, h2, o, ho, h3⟩
   refine ⟨h1, ?_⟩
   rw [Bool.and_eq_true]
   refine ⟨by simp [h2], ?_⟩
   rw [ho]
   simp only [Option.map_some, Option.getD_some]
   rw [← Array.all_toList, List.all_eq_true]
   intro e he
   cases hb : Region.binds .any e with
   | false => rfl
   | true => simpa using h3 e he hb
 have tf : ∀ (listed : Array Bool) k, k < listed.size → listed.getD k false = listed.getD k true := fun listed k hk => by simp [Array.getD, hk]
 have lt_of : ∀ (listed : Array Bool) k, listed.getD k false = true → k < listed.size := fun listed k h => by
  rcases Nat.lt_or_ge k listed.size with h1 | h1
  ·exact h1
  ·simp [Array.getD, Nat.not_lt.2 h1] at h
 intro fuel
 induction fuel with
 | zero =>
  intro listed β F a w hL hlen hlast _ _
  exfalso
  have hm : last ∈ (List.range ops.size).filter fun i => !listed.getD i true := List.mem_filter.2 ⟨List.mem_range.2 (by omega), by rw [← tf listed last (by omega), hlast]; rfl⟩
  rw [List.eq_nil_of_length_eq_zero hlen] at hm
  simp at hm
 | succ fuel ih =>
  intro listed β F a w hL hlen hlast hcl hr
  have some_ready : ∀ i, i < ops.size → listed.getD i true = false → ∃ j, j ∈ Region.ready .any ops listed := by
   intro i
   induction i using Nat.strongRecOn with
   | _ i ihi =>
    intro hi hli
    have ho : ops[i]? = some ops[i] := Array.getElem?_eq_getElem hi
    by_cases hx : ∃ e, e ∈ ops[i].after.toList ∧ Region.binds .any e = true ∧ listed.getD e.on false = false
    ·obtain ⟨e, he, hb, hl⟩ := hx
     have hei := hedge i _ ho e he hb
     exact ihi e.on hei (by omega) (by rw [← tf listed e.on (by omega)]; exact hl)
    ·refine ⟨i, (mem_ready listed i).2 ⟨hi, hli, _, ho, fun e he hb => ?_⟩⟩
     cases hl : listed.getD e.on false with
     | true => rfl
     | false => exact absurd ⟨e, he, hb, hl⟩ hx
  refine ⟨fun hnil => ?_, fun i hi => ?_⟩
  ·exfalso
   obtain ⟨j, hj⟩ := some_ready last (by omega) (by rw [← tf listed last (by omega)]; exact hlast)
   rw [hnil] at hj
   simp at hj
  ·obtain ⟨hin, hli, o, ho, hrdy⟩ := (mem_ready listed i).1 hi
   have hli' : listed.getD i false = false := by rw [tf listed i (by omega)]; exact hli
   have hdep : ∀ j, depB ops i j = true → listed.getD j false = true := fun j hj => by
    obtain ⟨e, he, hb, rfl⟩ := depB_iff i o ho j hj
    exact hrdy e he hb
   have hcome : Come ops listed i := ⟨hL, hli', hdep, hcl⟩
   have hdo : Below' E.n o.dst := hd o (by
    obtain ⟨h1, h2⟩ := Array.getElem?_eq_some_iff.1 ho
    rw [← h2]; exact Array.getElem_mem_toList h1)
   have hset : ∀ j, (listed.setIfInBounds i true).getD j true = if j = i then true else listed.getD j true := fun j => by
    simp only [Array.getD_eq_getD_getElem?, Array.getElem?_setIfInBounds]
    by_cases hji : i = j
    ·subst hji; simp [show i < listed.size by omega]
    ·simp [hji, Ne.symm hji]
   by_cases hil : i = last
   ·subst hil
    obtain ⟨o', ho', hog⟩ := hfin β listed hcome
    rw [ho] at ho'; cases ho'
    have hone : fuel = 0 := by
     have hsub : ∀ x, x ∈ (List.range ops.size).filter (fun i => !listed.getD i true) → x = i := fun x hx => by
      obtain ⟨h1, h2⟩ := List.mem_filter.1 hx
      have h1 := List.mem_range.1 h1
      rcases Nat.lt_or_ge x i with h3 | h3
      ·have := hdep x (hall x h3)
       rw [tf listed x (by omega)] at this
       rw [this] at h2
       simp at h2
      ·omega
     have hnd : ((List.range ops.size).filter fun i => !listed.getD i true).Nodup := List.nodup_range.filter _
     rcases hq : (List.range ops.size).filter fun i => !listed.getD i true with _ | ⟨x, _ | ⟨y, r⟩⟩
     ·rw [hq] at hlen; simp at hlen
     ·rw [hq] at hlen; simp at hlen; omega
     ·rw [hq] at hsub hnd
      have e1 := hsub x (by simp)
      have e2 := hsub y (by simp)
      rw [e1, e2] at hnd
      simp at hnd
    subst hone
    refine SG.sound ho hog hr hdo fun F' s' a' w' hr' hk => ?_
    refine ⟨List.eq_nil_iff_forall_not_mem.2 fun j hj => ?_, ⟨F', s', hr', hk⟩⟩
    obtain ⟨h1, h2, _⟩ := (mem_ready _ j).1 hj
    rw [hset] at h2
    by_cases hji : j = i
    ·rw [if_pos hji] at h2; cases h2
    ·rw [if_neg hji] at h2
     have := hdep j (hall j (by omega))
     rw [tf listed j (by omega)] at this
     rw [this] at h2; cases h2
   ·obtain ⟨o', ho', hog⟩ := hob i (by omega) β listed hcome
    rw [ho] at ho'; cases ho'
    refine SG.sound ho hog hr hdo fun F' s' a' w' hr' ⟨β', hk⟩ => ?_
    subst hk
    refine ih _ β' F' a' w' (by simpa using hL) ?_ ?_ ?_ hr'
    ·have e1 : ((List.range ops.size).filter fun j => !(listed.setIfInBounds i true).getD j true) = ((List.range ops.size).filter fun j => !listed.getD j true).filter fun j => decide (j ≠ i) := by
      rw [List.filter_filter]
      apply List.filter_congr
      intro j _
      rw [hset]
      by_cases hji : j = i <;> simp [hji]
     have hnd : ((List.range ops.size).filter fun i => !listed.getD i true).Nodup := List.nodup_range.filter _
     have hmem : i ∈ (List.range ops.size).filter fun i => !listed.getD i true := List.mem_filter.2 ⟨List.mem_range.2 hin, by simp [hli]⟩
     rw [e1]
     obtain ⟨pre, post, hsp⟩ := List.append_of_mem hmem
     rw [hsp] at hlen hnd ⊢
     have hn2 : ∀ x, x ∈ pre ∨ x ∈ post → x ≠ i := fun x hx e => by
      subst e
      rw [List.nodup_append] at hnd
      obtain ⟨_, n2, n3⟩ := hnd
      rcases hx with hx | hx
      ·exact n3 x hx x (List.mem_cons_self ..) rfl
      ·exact (List.nodup_cons.1 n2).1 hx
     rw [List.filter_append, List.filter_cons]
     have f1 : pre.filter (fun j => decide (j ≠ i)) = pre := List.filter_eq_self.2 fun x hx => by simpa using hn2 x (.inl hx)
     have f2 : post.filter (fun j => decide (j ≠ i)) = post := List.filter_eq_self.2 fun x hx => by simpa using hn2 x (.inr hx)
     rw [f1, f2]
     simp at hlen ⊢
     omega
    ·rw [getD_set_b (by omega), if_neg (fun e => hil e.symm)]; exact hlast
    ·intro k j hk hj
     rw [getD_set_b (by omega)] at hk ⊢
     by_cases hji : j = i
     ·rw [if_pos hji]
     ·rw [if_neg hji]
      by_cases hki : k = i
      ·subst hki; exact hdep j hj
      ·rw [if_neg hki] at hk; exact hcl k j hk hj
theorem AW.region_planS {id : Nat} {ops : Array Oper} {Q : Exit → S → Prop} (val : Nat → (Nat → Nat × Nat) → V) (blk : Nat → (Nat → Nat × Nat) → Option Blk) (own : Nat → Option Nat) (last : Nat) (hf : P.follows .mixedOrders = true) (hd : dstOK E.n ops = true)
  (hsz : ops.size = last + 1) (he : edgesOK ops (List.range ops.size) = true) (hall : ((List.range last).all fun j => depB ops last j) = true)
  (hob : ∀ i, i < last → ∀ β L, Come ops L i → ∃ o, ops[i]? = some o ∧ SG P E ops o (fun s' => ∃ β', s' = pS s0 val blk own β' (L.setIfInBounds i true)) (pS s0 val blk own β L))
  (hfin : ∀ β L, Come ops L last → ∃ o, ops[last]? = some o ∧ SG P E ops o (Q .normal) (pS s0 val blk own β L)) : AW P E (.region id ops true) Q s0 := fun F a w hr => by
 have hnone : ∀ i, (Array.replicate ops.size false).getD i false = false := fun i => by
  simp only [Array.getD_eq_getD_getElem?, Array.getElem?_replicate]
  split <;> rfl
 have hrun : Run E F s0 a { w with drawn := w.drawn + 1 } := ⟨⟨hr.sim.imm, fun id blk hm => (hr.sim.own id blk hm).keep (Hp.le.refl F) fun _ _ => rfl, hr.sim.apart, hr.sim.inj⟩, ⟨hr.grow.os, hr.grow.tape, hr.grow.output, hr.grow.size, hr.grow.block⟩, hr.f0, hr.fnew, hr.mnew, hr.size, hr.defers, hr.slots⟩
 refine wp_region_any hf (wpAny_planS (s0 := s0) (val := val) (blk := blk) (own := own) (dstOK.spec hd) hsz (fun i o ho => edgesOK.spec _ he i o (List.mem_range.2 (Array.getElem?_eq_some_iff.1 ho).1) ho)
  (fun j hj => List.all_eq_true.1 hall j (List.mem_range.2 hj)) hob hfin ops.size _ (fun _ => (0, 0)) F a _ (by simp) ?_ (hnone last) (fun k j hk => by rw [hnone] at hk; cases hk) (by rw [pS_none hnone]; exact hrun))
 have : ((List.range ops.size).filter fun i => !(Array.replicate ops.size false).getD i true) = List.range ops.size := List.filter_eq_self.2 fun x hx => by
  have hx := List.mem_range.1 hx
  simp [Array.getD, hx]
 rw [this, List.length_range]
end
theorem flat_dI : ∀ l : List Int, (l.map dI).flatMap D.cells = l.map dI
 | [] => rfl
 | x :: l => by rw [List.map_cons, List.flatMap_cons, flat_dI l]; rfl
theorem cells_dI {l : List Int} : ∀ x, x ∈ l.map dI → x.cells.length = 1 := fun x hx => by
 obtain ⟨y, _, rfl⟩ := List.mem_map.1 hx
 rfl
def offV (b p n c : Nat) : V := .d (.sc (.slice (some ⟨b, p, none⟩) (n - p) (c - p)))
section
variable {P : Program} {E : Env} {K : S → Prop} {s : S}
theorem SO.cutFrom {dst : Option Nat} {t ty e sz by_ id b n c p : Nat} {x y : Operand} {pos : String} {after : Array Edge} {k : IntKind} (hd : Below' E.n dst) (hT : SliceT P t e 1 by_) (hx : s.ev x = .osl id b n c) (hy : s.ev y = .d (.sc (.int k (p : Int)))) (hp : p < n) (h : K (s.put dst (offV b p n c))) :
  SO P E ⟨dst, .slice t x (some y) none none, ty, pos, after, none⟩ K s := fun F a w hr => by
 have hx' := hr.eval x
 rw [hx] at hx'
 generalize hax : a.eval x = ax at hx'
 cases hx' with
 | osl ha hc =>
  have hb := bounds_run (P := P) (w := w) (a := a) (ev := s.ev) (lo := some y) (hi := none) (l := p) (h := n) (n := n) (c := c) ⟨k, hy⟩ rfl hr.eval (by omega) hc
  refine Good.mono (R := fun u w' => w' = w ∧ SimV F u (offV b p n c)) ?_ fun u w' ⟨e1, hv⟩ => by
   subst e1
   exact ⟨F, _, hr.ext_put (Ext.refl hr.sim.imm) hd hv, h⟩
  unfold execOp
  simp only [hax, Instr.sliceAt, Instr.slice, Sem.run_bind, Sem.run_pure, Result.andThen_ok, run_underlying hT.u, Option.map_none, sizeOf_run hT] at hb ⊢
  rw [hb]
  simp only [Result.andThen_ok]
  refine ⟨rfl, ?_⟩
  rw [ha (by omega)]
  refine (?_ : SimV F (.slice _ (n - p) (c - p)) (offV b p n c))
  rw [if_neg (by omega)]
  have e2 : Option.map (fun a : Addr => a.add (p * 1)) (some ⟨b, 0, none⟩) = some ⟨b, p, none⟩ := by
   rw [Nat.mul_one]; simp [Addr.add]; omega
  simp only [e2]
  exact .d (.sc rfl) rfl
theorem row_store {F : Hp} {w : World} {M : Mem} (hS : Sim F M w) {id b c e : Nat} {l news2 : List Int} {p : Nat} {news : List Value} (hM : M id = some (.row b c e 1 (l.map dI))) (hc : 0 < c) (hp : p ≤ l.length) (hpc : p + news.length ≤ c) (hn : news.length = news2.length) (h1 : ∀ u, u ∈ news → u.oneCell' = true)
  (hr : ∀ (i : Nat) (d : Int) (u : Value), news2[i]? = some d → news[i]? = some u → Rep F u (dI d)) :
  ∃ w', (storeCells ⟨b, p, none⟩ news).run P w = .ok () w' ∧ After F M w F (upd M id (some (.row b c e 1 ((l.take p ++ news2 ++ l.drop (p + news2.length)).map dI)))) w' := by
 obtain ⟨g0, g1, g2⟩ := hS.own id _ hM
 obtain ⟨cs, hh, hcl, hc1, hcr⟩ := g2 hc
 rw [List.length_map] at g0
 rw [flat_dI] at hcr
 rw [Nat.mul_one] at hcl
 have hst := run_storeCells_at P b p e news 0 cs.toArray w hh (by simp; omega) h1
 simp only [Nat.add_zero] at hst
 refine ⟨_, hst, After.set_block hS hM ⟨hc, rfl⟩ (fun k hk => hk.2) hh fun w' hw' => ⟨?_, cells_dI, fun _ => ⟨_, hw', ?_, ?_, ?_⟩⟩⟩
 ·simp; omega
 ·simp; omega
 ·intro v hv
  rcases List.mem_append.1 hv with hv | hv
  ·rcases List.mem_append.1 hv with hv | hv
   ·exact hc1 v (List.mem_of_mem_take hv)
   ·exact h1 v hv
  ·exact hc1 v (List.mem_of_mem_drop hv)
 ·intro j d v hd hv
  rw [flat_dI, List.getElem?_map] at hd
  obtain ⟨y, hy, rfl⟩ := Option.map_eq_some_iff.1 hd
  have tl : (cs.take p).length = p := by rw [List.length_take]; omega
  have tm : (l.take p).length = p := by rw [List.length_take]; omega
  rcases Nat.lt_or_ge j p with h2 | h2
  ·rw [List.append_assoc, List.getElem?_append_left (by omega), List.getElem?_take_of_lt h2] at hv hy
   exact hcr j _ v (by rw [List.getElem?_map, hy]; rfl) hv
  ·rcases Nat.lt_or_ge j (p + news.length) with h3 | h3
   ·rw [List.append_assoc, List.getElem?_append_right (by omega), List.getElem?_append_left (by omega)] at hv hy
    rw [tl] at hv
    rw [tm] at hy
    exact hr _ y v hy hv
   ·rw [List.getElem?_append_right (by rw [List.length_append]; omega), List.getElem?_drop] at hv hy
    rw [List.length_append, tl] at hv
    rw [List.length_append, tm] at hy
    rw [show p + news.length + (j - (p + news.length)) = j by omega] at hv
    rw [show p + news2.length + (j - (p + news2.length)) = j by omega] at hy
    exact hcr j _ v (by rw [List.getElem?_map, hy]; rfl) hv
theorem SO.copyIn {dst : Option Nat} {t ty e by_ id b n c p : Nat} {x y : Operand} {pos : String} {after : Array Edge} {l : List Int} (hd : Below' E.n dst) (hT : SliceT P t e 1 by_) (hx : s.ev x = offV b p l.length c) (hy : s.ev y = .osl id b n c) (hM : s.M id = some (.row b c e 1 (l.map dI))) (hp : p < l.length) (hn : n ≤ l.length)
  (h : K ((⟨s.ρ, upd s.M id (some (.row b c e 1 ((l.take p ++ l.take (min n (l.length - p)) ++ l.drop (p + min n (l.length - p))).map dI)))⟩ : S).put dst (.d (dI (min n (l.length - p) : Nat))))) :
  SO P E ⟨dst, .call { callee := .builtin .copy, args := #[x, y], argTypes := #[t, t] }, ty, pos, after, none⟩ K s := fun F a w hr => by
 have hx' := hr.eval x
 rw [hx] at hx'
 have hy' := hr.eval y
 rw [hy] at hy'
 generalize hax : a.eval x = ax at hx'
 generalize hay : a.eval y = ay at hy'
 obtain ⟨g0, g1, g2⟩ := hr.sim.own id _ hM
 rw [List.length_map] at g0
 obtain ⟨cs, hh, hcl, hc1, hcr⟩ := g2 (by omega)
 rw [flat_dI] at hcr
 rw [Nat.mul_one] at hcl
 cases hy' with
 | osl ha hnc =>
  rw [ha (by omega)] at hay
  have hx' : SimV F ax (.d (.sc (.slice (some ⟨b, p, none⟩) (l.length - p) (c - p)))) := hx'
  have e0 : ax = .slice (some ⟨b, p, none⟩) (l.length - p) (c - p) := by
   cases hx' with
   | d hR _ => cases hR with | sc _ => rfl
  subst e0
  obtain ⟨m, hm⟩ : ∃ m, m = min n (l.length - p) := ⟨_, rfl⟩
  rw [← hm] at h
  have hnl : (cs.take m).length = m := by rw [List.length_take]; omega
  obtain ⟨w', hw1, hw2⟩ := row_store (P := P) (news := cs.take m) (news2 := l.take m) (p := p) hr.sim hM (by omega) (by omega) (by omega) (by rw [hnl, List.length_take]; omega) (fun u hu => hc1 u (List.mem_of_mem_take hu)) fun i d u h1 h2 => by
   have hi : i < m := by
    have := (List.getElem?_eq_some_iff.1 h2).1
    omega
   rw [List.getElem?_take_of_lt hi] at h1 h2
   exact hcr i _ u (by rw [List.getElem?_map, h1]; rfl) h2
  rw [show (l.take m).length = m by rw [List.length_take]; omega] at hw2
  have hld := run_loadCells_list (P := P) w ⟨b, 0, none⟩ (cs.take m) fun j u hj => cell_of_box hh 0 j u (by
   rw [Nat.zero_add]
   have hjm : j < m := by
    have := (List.getElem?_eq_some_iff.1 hj).1
    omega
   rwa [List.getElem?_take_of_lt hjm] at hj)
  obtain ⟨i, z, hi, hz, s1, s2, s3⟩ := hT.parts
  refine Good.mono (R := fun u w2 => w2 = w' ∧ SimV F u (.d (dI (m : Nat)))) ?_ fun u w2 ⟨e1, hv⟩ => by
   subst e1
   exact ⟨F, _, hr.after_put hw2 hd hv, h⟩
  unfold execOp
  simp only [resolve, Sem.run_bind, Sem.run_pure, Result.andThen_ok, invoke, builtin_copy]
  have e1 : (#[x, y].map a.eval) = #[.slice (some ⟨b, p, none⟩) (l.length - p) (c - p), .slice (some ⟨b, 0, none⟩) n c] := by simp [hax, hay]
  have e2 : (Builtin.firstCells 1 m (.slice (some ⟨b, 0, none⟩) n c)).run P w = .ok (cs.take m).toArray w := by
   rw [hnl] at hld
   simp [Builtin.firstCells, hld]
  have e3 : (Builtin.copy_ #[t, t] ty #[.slice (some ⟨b, p, none⟩) (l.length - p) (c - p), .slice (some ⟨b, 0, none⟩) n c]).run P w = .ok (.int .i64 (m : Int)) w' := by
   have hm2 : Nat.min n (l.length - p) = m := hm.symm
   simp [Builtin.copy_, run_underlying hT.u, Builtin.lenOf, sizeOf, typeInfo, hi, s2, hm2, e2, hw1]
   rfl
  rw [e1, e3]
  exact ⟨rfl, .d (.sc rfl) rfl⟩
theorem SO.copyPart {dst : Option Nat} {t ty e by_ id b n c : Nat} {x y : Operand} {pos : String} {after : Array Edge} {l xs : List Int} (hd : Below' E.n dst) (hT : SliceT P t e 1 by_) (hx : s.ev x = .osl id b n c) (hy : s.ev y = .d (.sl (xs.map dI))) (hM : s.M id = some (.row b c e 1 (l.map dI))) (hn : n = l.length) (h0 : 0 < xs.length) (hl : xs.length ≤ n)
  (h : K ((⟨s.ρ, upd s.M id (some (.row b c e 1 ((xs ++ l.drop xs.length).map dI)))⟩ : S).put dst (.d (dI (xs.length : Nat))))) :
  SO P E ⟨dst, .call { callee := .builtin .copy, args := #[x, y], argTypes := #[t, t] }, ty, pos, after, none⟩ K s := fun F a w hr => by
 have hx' := hr.eval x
 rw [hx] at hx'
 have hy' := hr.eval y
 rw [hy] at hy'
 generalize hax : a.eval x = ax at hx'
 generalize hay : a.eval y = ay at hy'
 obtain ⟨g0, g1, g2⟩ := hr.sim.own id _ hM
 rw [List.length_map] at g0
 cases hx' with
 | osl ha hnc =>
  rw [ha (by omega)] at hax
  cases hy' with
  | d hR _ =>
   obtain ⟨ao, m, cx, rfl⟩ : ∃ ao m cx, ay = .slice ao m cx := by cases hR; exact ⟨_, _, _, rfl⟩
   have hm : m = xs.length := by cases hR with | sl q => rw [List.length_map] at q; exact q.symm
   obtain ⟨ad, news, rfl, k1, k2, k3, k4⟩ := rep_list hR hr.sim.imm cells_dI (by omega) hT.pos
   rw [Nat.mul_one] at k1
   rw [flat_dI] at k4
   obtain ⟨w', hw1, hw2⟩ := row_store (P := P) (news := news) (news2 := xs) (p := 0) hr.sim hM (by omega) (by omega) (by omega) (by omega) k3 fun i d u h1 h2 => k4 i _ u (by rw [List.getElem?_map, h1]; rfl) h2
   rw [List.take_zero, List.nil_append, Nat.zero_add] at hw2
   have hld := run_loadCells_list (P := P) w ad news k2
   obtain ⟨i, z, hi, hz, s1, s2, s3⟩ := hT.parts
   refine Good.mono (R := fun u w2 => w2 = w' ∧ SimV F u (.d (dI (xs.length : Nat)))) ?_ fun u w2 ⟨e1, hv⟩ => by
    subst e1
    exact ⟨F, _, hr.after_put hw2 hd hv, h⟩
   unfold execOp
   simp only [resolve, Sem.run_bind, Sem.run_pure, Result.andThen_ok, invoke, builtin_copy]
   have e1 : (#[x, y].map a.eval) = #[.slice (some ⟨b, 0, none⟩) n c, .slice (some ad) m cx] := by simp [hax, hay]
   have e2 : (Builtin.firstCells 1 m (.slice (some ad) m cx)).run P w = .ok news.toArray w := by
    rw [k1] at hld
    simp [Builtin.firstCells, hld]
   have e3 : (Builtin.copy_ #[t, t] ty #[.slice (some ⟨b, 0, none⟩) n c, .slice (some ad) m cx]).run P w = .ok (.int .i64 (xs.length : Int)) w' := by
    have hm2 : Nat.min m n = m := Nat.min_eq_left (by omega)
    simp [Builtin.copy_, run_underlying hT.u, Builtin.lenOf, sizeOf, typeInfo, hi, s2, hm2, e2, hw1]
    rw [← hm]; rfl
   rw [e1, e3]
   exact ⟨rfl, .d (.sc rfl) rfl⟩
theorem Run.drop {E : Env} {F : Hp} {s : S} {a : Act} {w : World} (h : Run E F s a w) (id : Nat) : Run E F ⟨s.ρ, upd s.M id none⟩ a w := by
 have part : ∀ j q, (upd s.M id none) j = some q → s.M j = some q := fun j q hq => by unfold upd at hq; split at hq; cases hq; exact hq
 exact ⟨sim_sub h.sim part, h.grow, h.f0, h.fnew, fun j q k hq hk => h.mnew j q k (part j q hq) hk, h.size, h.defers, h.slots⟩
theorem Run.undrop {E : Env} {F : Hp} {s : S} {a : Act} {w : World} {id : Nat} (h : Run E F ⟨s.ρ, upd s.M id none⟩ a w) : Run E F ⟨s.ρ, upd s.M id (some deadBlk)⟩ a w := by
 have part : ∀ j q, (upd s.M id (some deadBlk)) j = some q → q = deadBlk ∨ (upd s.M id none) j = some q := fun j q hq => by
  unfold upd at hq ⊢
  split at hq
  ·exact .inl (Option.some.inj hq).symm
  ·rename_i e; rw [if_neg e]; exact .inr hq
 have no : ∀ k, ¬ deadBlk.owns k := fun k hk => absurd hk.1 (Nat.lt_irrefl 0)
 refine ⟨⟨h.sim.imm, fun j q hq => ?_, fun j q k hq hk => ?_, fun i j bi bj k hi hj ki kj => ?_⟩, h.grow, h.f0, h.fnew, fun j q k hq hk => ?_, h.size, h.defers, h.slots⟩
 ·rcases part j q hq with rfl | h1
  ·exact ⟨Nat.le_refl _, fun x hx => by simp at hx, fun hc => absurd hc (Nat.lt_irrefl 0)⟩
  ·exact h.sim.own j q h1
 ·rcases part j q hq with rfl | h1
  ·exact absurd hk (no k)
  ·exact h.sim.apart j q k h1 hk
 ·rcases part i bi hi with rfl | h1
  ·exact absurd ki (no k)
  ·rcases part j bj hj with rfl | h2
   ·exact absurd kj (no k)
   ·exact h.sim.inj i j bi bj k h1 h2 ki kj
 ·rcases part j q hq with rfl | h1
  ·exact absurd hk (no k)
  ·exact h.mnew j q k h1 hk
theorem SO.appZero {t tn ty e by_ id b n c k d : Nat} {kn : IntKind} {x y : Operand} {pos : String} {after : Array Edge} {l : List Int} (hd : d < E.n) (hT : SliceT P t e 1 by_) (htn : IntT P tn kn) (hz : (P.info? e).bind (fun i => i.zero.map fun z => z.cells.toList) = some [.int .i64 0])
  (hx : s.ev x = .osl id b n c) (hM : s.M id = some (.row b c e 1 (l.map dI))) (hn : n = l.length) (hy : s.ev y = .d (dI (k : Nat))) (hmd : s.M d = none) (hb : (n + k) * by_ ≤ 140737488355328) (hm : n + k ≤ 4611686018427387904)
  (h : K ⟨upd s.ρ d (.d (.sl ((l ++ List.replicate k 0).map dI))), upd s.M id (some deadBlk)⟩) :
  SO P E ⟨some d, .call { callee := .builtin .append, args := #[x, y], argTypes := #[t, tn] }, ty, pos, after, none⟩ K s := fun F a w hr => by
 have hx' := hr.eval x
 rw [hx] at hx'
 have hy' := hr.eval y
 rw [hy] at hy'
 have hy' := sc_val hy'
 generalize hax : a.eval x = ax at hx'
 obtain ⟨g0, g1, g2⟩ := hr.sim.own id _ hM
 rw [List.length_map] at g0
 have hne : id ≠ d := fun e => by rw [← e, hM] at hmd; cases hmd
 obtain ⟨i, z, hi, hzz, z1, z2, z3⟩ := hT.parts
 rw [hi] at hz
 simp only [Option.bind_some, hzz, Option.map_some, Option.some.injEq] at hz
 have hzc : z.cells = #[.int .i64 0] := by rw [← Array.toList_inj, hz]
 have hcells : ∀ m, (Builtin.zeroCells z.cells m).toList = List.replicate m (.int .i64 0) := fun m => by
  rw [hzc]
  refine List.ext_getElem? fun j => ?_
  simp only [Builtin.zeroCells, Array.toList_map, Array.toList_range, List.getElem?_map, List.getElem?_replicate]
  by_cases hj : j < m
  ·rw [List.getElem?_range (by simpa using hj), if_pos hj]
   simp [Nat.mod_one]
  ·rw [List.getElem?_eq_none (by simpa using Nat.le_of_not_lt hj), if_neg hj]; rfl
 have hw64 : IntKind.i64.wrap (k : Int) = k := by rw [IntKind.wrap_i64]; omega
 have hkb : ¬ (281474976710656 < (k : Int) * (i.bytes : Int)) := by
  rw [← Int.natCast_mul, z3]
  have : k * by_ ≤ (n + k) * by_ := Nat.mul_le_mul_right _ (by omega)
  omega
 have fin : ∀ v w' F', (Builtin.append_ #[t, tn] ty #[ax, .int .i64 (k : Int)]).run P w = .ok v w' → Run E F' ⟨upd s.ρ d (.d (.sl ((l ++ List.replicate k 0).map dI))), upd s.M id none⟩ (a.put (some d) v) w' →
   Good P ((execOp a.eval ⟨some d, .call { callee := .builtin .append, args := #[x, y], argTypes := #[t, tn] }, ty, pos, after, none⟩).run P w) fun u w' => ∃ F' s', Run E F' s' (a.put (some d) u) w' ∧ K s' := fun v w' F' h1 h2 =>
  append_exec2 (o := ⟨some d, .call { callee := .builtin .append, args := #[x, y], argTypes := #[t, tn] }, ty, pos, after, none⟩) rfl (by rw [hax, hy']; exact h1) ⟨F', _, Run.undrop (s := ⟨upd s.ρ d _, s.M⟩) h2, h⟩
 have hlz : ((l ++ List.replicate k 0).map dI).length = n + k := by simp; omega
 cases hx' with
 | @osl ao _ _ _ _ ha hnc =>
  by_cases hroom : n + k ≤ c
  ·by_cases hk : k = 0
   ·subst hk
    have hrun : (Builtin.append_ #[t, tn] ty #[.slice ao n c, .int .i64 ((0 : Nat) : Int)]).run P w = .ok (.slice ao n c) w := by
     cases ao <;> simp [Builtin.append_, run_underlying hT.u, run_underlying htn.u, sizeOf, typeInfo, hi, hnc, storeCells, asInt, asIntOf, IntKind.wrap_i64]
    obtain ⟨F', f1, f2, f3, f4⟩ := freeze_row hr.sim hM
    have hv := f4 (.slice ao n c) n (.osl ha hnc) (by simp; omega)
    have hA : After F s.M w F' (upd s.M id none) w := ⟨Grow.refl _ _, f1, f2, fun q p r => .inr (f3 q p r), fun q ⟨j, bl, hj, hk⟩ => .inr ⟨j, bl, by unfold upd at hj; split at hj; cases hj; exact hj, hk⟩⟩
    refine fin _ _ F' hrun (hr.after_put (dst := some d) hA hd ?_)
    rw [List.replicate_zero, List.append_nil]
    rw [List.take_of_length_le (by simp; omega)] at hv
    exact .d hv rfl
   ·have hc0 : 0 < c := by omega
    have hao := ha hc0
    subst hao
    obtain ⟨w', hw1, hw2⟩ := row_store (P := P) (news := List.replicate k (.int .i64 0)) (news2 := List.replicate k 0) (p := n) hr.sim hM hc0 (by omega) (by simpa using hroom) (by simp) (fun u hu => by rw [(List.mem_replicate.1 hu).2]; rfl) fun j q u h1 h2 => by
     rw [List.getElem?_replicate] at h1 h2
     split at h1
     ·rename_i hj
      rw [if_pos hj] at h2
      cases h1; cases h2
      exact .sc rfl
     ·cases h1
    have hrun : (Builtin.append_ #[t, tn] ty #[.slice (some ⟨b, 0, none⟩) n c, .int .i64 (k : Int)]).run P w = .ok (.slice (some ⟨b, 0, none⟩) (n + k) c) w' := by
     have hst : (storeCells (Addr.add ⟨b, 0, none⟩ n) (Builtin.zeroCells z.cells k).toList).run P w = .ok () w' := by
      rw [hcells, show Addr.add ⟨b, 0, none⟩ n = ⟨b, n, none⟩ by simp [Addr.add]; omega]; exact hw1
     have hk0 : ¬ ((k : Int) < 0) := by omega
     have hzv : (zeroValue e).run P w = .ok z w := by simp [zeroValue, typeInfo, hi, hzz]
     simp [Builtin.append_, run_underlying hT.u, run_underlying htn.u, sizeOf, typeInfo, hi, z2, hk, hroom, asInt, asIntOf, hw64, hkb, hk0, hzv, hst]
    have hrow : l.take n ++ List.replicate k 0 ++ l.drop (n + (List.replicate k (0 : Int)).length) = l ++ List.replicate k 0 := by
     rw [List.take_of_length_le (by omega), List.drop_of_length_le (by simp; omega), List.append_nil]
    rw [hrow] at hw2
    obtain ⟨F', f1, f2⟩ := row_both (M' := s.M) (d := id) hw2 (.osl (fun _ => rfl) hroom) hlz.symm rfl
    exact fin _ _ F' hrun (hr.after_put (dst := some d) f1 hd f2)
  ·have hk : 0 < k := by omega
   obtain ⟨olds, ho1, ho2, ho3, ho4⟩ : ∃ olds : List Value, (Builtin.firstCells i.size n (.slice ao n c)).run P w.drew = .ok olds.toArray w.drew ∧ olds.length = n ∧ (∀ u, u ∈ olds → u.oneCell' = true) ∧ ∀ (j : Nat) (q : Int) (u : Value), l[j]? = some q → olds[j]? = some u → Rep F u (dI q) := by
    by_cases hc0 : 0 < c
    ·obtain ⟨cs, hh, hcl, h1, hr2⟩ := g2 hc0
     rw [flat_dI] at hr2
     rw [Nat.mul_one] at hcl
     rw [ha hc0, z2]
     have hnl : (cs.take n).length = n := by rw [List.length_take]; omega
     have hld := run_loadCells_list (P := P) w.drew ⟨b, 0, none⟩ (cs.take n) fun j u hj => cell_of_box (w := w.drew) hh 0 j u (by
      rw [Nat.zero_add]
      have hjm : j < n := by
       have := (List.getElem?_eq_some_iff.1 hj).1
       omega
      rwa [List.getElem?_take_of_lt hjm] at hj)
     refine ⟨cs.take n, ?_, hnl, fun u hu => h1 u (List.mem_of_mem_take hu), fun j q u hq hu => ?_⟩
     ·rw [hnl] at hld
      simp [Builtin.firstCells, hld]
     ·have hjn : j < n := by
       have := (List.getElem?_eq_some_iff.1 hu).1
       omega
      rw [List.getElem?_take_of_lt hjn] at hu
      exact hr2 j _ u (by rw [List.getElem?_map, hq]; rfl) hu
    ·have hn0 : n = 0 := by omega
     subst hn0
     refine ⟨[], ?_, rfl, fun u hu => by simp at hu, fun j q u _ hu => by simp at hu⟩
     cases ao <;> simp [Builtin.firstCells, loadCells, loadCellsFrom]
   have hrun := Lib.run_append_grow_zeros (P := P) w t tn ty e i z .i64 kn hT.u htn.u hi hzz ao n c olds ho1 k hk (by rw [z2]; exact hT.pos) (by omega) (by omega) (by rw [z3]; have : k * by_ ≤ (n + k) * by_ := Nat.mul_le_mul_right _ (by omega); omega) (growslice_fits (by omega) (by rw [z3]; exact hb))
   have hge := grownCap_ge w (n + k) c e
   generalize grownCap w (n + k) c e = G at hrun hge
   have hnew := new_row hr.sim d e G 1 (olds ++ List.replicate k (.int .i64 0) ++ List.replicate (G - (n + k)) (.int .i64 0)) ((l ++ List.replicate k 0).map dI) (by rw [hlz]; exact hge) (by simp; omega) (fun u hu => by
    rcases List.mem_append.1 hu with hu | hu
    ·rcases List.mem_append.1 hu with hu | hu
     ·exact ho3 u hu
     ·rw [(List.mem_replicate.1 hu).2]; rfl
    ·rw [(List.mem_replicate.1 hu).2]; rfl) cells_dI (fun j q u hq hu => by
    rw [flat_dI, List.getElem?_map] at hq
    obtain ⟨y, hy, rfl⟩ := Option.map_eq_some_iff.1 hq
    rcases Nat.lt_or_ge j n with h2 | h2
    ·rw [List.append_assoc, List.getElem?_append_left (by omega)] at hu
     rw [List.getElem?_append_left (by omega)] at hy
     exact ho4 j y u hy hu
    ·have hjk : j < n + k := by
      have := (List.getElem?_eq_some_iff.1 hy).1
      simp at this; omega
     rw [List.append_assoc, List.getElem?_append_right (by omega), List.getElem?_append_left (by simp; omega), List.getElem?_replicate, if_pos (by omega)] at hu
     rw [List.getElem?_append_right (by omega), List.getElem?_replicate, if_pos (by omega)] at hy
     cases hu; cases hy
     exact .sc rfl) (w' := w.drew.alloc (.cells (olds.toArray ++ Builtin.zeroCells z.cells k ++ Builtin.zeroCells z.cells (G - (n + k))) e)) rfl rfl rfl (by
    show w.heap.push (Obj.cells _ e) = _
    congr 2
    apply Array.ext'
    simp [hcells])
   obtain ⟨F', f1, f2⟩ := row_both (M' := s.M) (d := d) hnew (.osl (fun _ => rfl) hge) hlz.symm rfl
   have e1 : upd s.M d none = s.M := by funext j; unfold upd; split; rename_i e2; rw [e2, hmd]; rfl
   rw [e1] at f1
   exact fin _ _ F' hrun ((hr.after_put (dst := some d) f1 hd f2).drop id)
theorem SO.copyFirst {dst : Option Nat} {t ty e by_ id b n c : Nat} {x y : Operand} {pos : String} {after : Array Edge} {l : List Int} {v : Int} (hd : Below' E.n dst) (hT : SliceT P t e 1 by_) (hx : s.ev x = .osl id b n c) (hy : s.ev y = .d (.sl [dI v])) (hM : s.M id = some (.row b c e 1 (l.map dI))) (hn : n = l.length)
  (h : K ((⟨s.ρ, upd s.M id (some (.row b c e 1 ((List.replicate (min 1 n) v ++ l.drop (min 1 n)).map dI)))⟩ : S).put dst (.d (dI (min 1 n : Nat))))) :
  SO P E ⟨dst, .call { callee := .builtin .copy, args := #[x, y], argTypes := #[t, t] }, ty, pos, after, none⟩ K s := by
 by_cases h0 : n = 0
 ·have hl : l = [] := List.eq_nil_of_length_eq_zero (by omega)
  subst hl h0
  intro F a w hr
  have hx' := hr.eval x
  rw [hx] at hx'
  have hy' := hr.eval y
  rw [hy] at hy'
  generalize hax : a.eval x = ax at hx'
  generalize hay : a.eval y = ay at hy'
  have e0 : (⟨s.ρ, upd s.M id (some (.row b c e 1 ((List.replicate (min 1 0) v ++ ([] : List Int).drop (min 1 0)).map dI)))⟩ : S) = s := by
   have : upd s.M id (some (.row b c e 1 ((List.replicate (min 1 0) v ++ ([] : List Int).drop (min 1 0)).map dI))) = s.M := by
    funext j
    unfold upd
    split
    ·rename_i e1; rw [e1, hM]; rfl
    ·rfl
   rw [this]
  rw [e0] at h
  obtain ⟨i, z, hi, hz, s1, s2, s3⟩ := hT.parts
  cases hx' with
  | @osl ao _ _ _ _ ha hnc =>
   cases hy' with
   | d hR _ =>
    obtain ⟨a2, m, cx, rfl⟩ : ∃ ao m cx, ay = .slice ao m cx := by cases hR; exact ⟨_, _, _, rfl⟩
    have hm : m = 1 := by cases hR with | sl q => simpa using q.symm
    subst hm
    refine Good.mono (R := fun u w2 => w2 = w ∧ SimV F u (.d (dI (min 1 0 : Nat)))) ?_ fun u w2 ⟨e1, hv⟩ => by
     subst e1
     exact ⟨F, _, hr.ext_put (Ext.refl hr.sim.imm) hd hv, h⟩
    unfold execOp
    simp only [resolve, Sem.run_bind, Sem.run_pure, Result.andThen_ok, invoke, builtin_copy]
    have e1 : (#[x, y].map a.eval) = #[.slice ao 0 c, .slice a2 1 cx] := by simp [hax, hay]
    have e2 : (Builtin.firstCells 1 0 (.slice a2 1 cx)).run P w = .ok #[] w := by cases a2 <;> simp [Builtin.firstCells, loadCells, loadCellsFrom]
    have e3 : (Builtin.copy_ #[t, t] ty #[.slice ao 0 c, .slice a2 1 cx]).run P w = .ok (.int .i64 0) w := by
     have hm2 : Nat.min 1 0 = 0 := rfl
     cases ao <;> simp [Builtin.copy_, run_underlying hT.u, Builtin.lenOf, sizeOf, typeInfo, hi, s2, hm2, e2, storeCells] <;> rfl
    rw [e1, e3]
    exact ⟨rfl, .d (.sc rfl) rfl⟩
 ·have e1 : min 1 n = 1 := by omega
  rw [e1] at h
  exact SO.copyPart (xs := [v]) hd hT hx hy hM hn Nat.one_pos (by simp; omega) h
end
section
variable {s0 : S} {val : Nat → (Nat → Nat × Nat) → V} {blk : Nat → (Nat → Nat × Nat) → Option Blk} {own : Nat → Option Nat} {β : Nat → Nat × Nat} {L : Array Bool}
theorem pS_putM {d e i : Nat} {b : Blk} (hd : own d = some i) (he : own e = some i) (hde : d ≠ e) (hu : ∀ t, own t = some i → t = d ∨ t = e) (hi : i < L.size) (hno : L.getD i false = false) (hve : val e β = s0.ρ e) (hbd : blk d β = none) (hbe : blk e β = some b) :
  (⟨upd (pS s0 val blk own β L).ρ d (val d β), upd (pS s0 val blk own β L).M e (some b)⟩ : S) = pS s0 val blk own β (L.setIfInBounds i true) := by
 have hs : (L.setIfInBounds i true).getD i false = true := by rw [getD_set_b hi, if_pos rfl]
 refine S_ext (fun t => ?_) (fun t => ?_)
 ·show upd _ d (val d β) t = _
  by_cases ht : t = d
  ·subst ht; rw [upd_same, pS_new hd hs]
  ·rw [upd_ne _ _ ht]
   by_cases hte : t = e
   ·subst hte
    rw [pS_new he hs, hve]
    simp only [pS, he]
    rw [if_neg (by rw [hno]; decide)]
   ·exact (pS_other hi fun k => (hu t k).elim ht hte).1
 ·show upd _ e (some b) t = _
  by_cases hte : t = e
  ·subst hte; rw [upd_same, pS_M he hs hbe]
  ·rw [upd_ne _ _ hte]
   by_cases ht : t = d
   ·subst ht
    rw [pS_M0 hd hno]
    simp only [pS, hd, hs, hbd, if_true]
   ·exact (pS_other hi fun k => (hu t k).elim ht hte).2
end
end Go.AL

/-
  weighted/weightedlaw37.OnlineActs returns true whatever the input, and every argument reads behind the call as it read before; the condition: what it reads is of bulk at most 1048576.
-/
import Derived.Test.YtjghehkgmanmbaaGreatRows
import Derived.Test.YtjghehkgmanmbaaGreatKOxH
import Derived.Test.YtjghehkgmanmbaaGreatKMod57
import Derived.Test.YtjghehkgmanmbaaGreatKAlgd
import Derived.Test.YtjghehkgmanmbaaGreatKFacts
import Derived.WalkKit
import Derived.ProofKit
import Derived.OpenShut
import Derived.JoinedCond
import Derived.Below
import Derived.Carry
import Derived.Lib.SmallJoins
set_option linter.unusedVariables false
set_option linter.unusedSimpArgs false
namespace Go.Proofs.YtjghehkgmanmbaaGreat.onlineActsTop
open Go.ChangeShapes Go.WideShapes Go.ChangeAt Go.RowKit
theorem own : ownKnob Tryz.prog.godebug = none := by kernel_rfl
theorem laidOut : laidOutB Tryz.prog = true := fact.laidOut
theorem bulk_pos {H : Type} (d : DataW H) : 1 ≤ Rows.uptoBulk d := by
 cases d with
 | lit l => cases l <;> simp [Rows.uptoBulk]
 | _ => simp [Rows.uptoBulk]
theorem bulk_mem {H : Type} {d : DataW H} : ∀ {l : List (DataW H)}, d ∈ l → Rows.uptoBulk d ≤ Rows.uptoBulkAll l
 | x :: r, h => by
  simp only [Rows.uptoBulkAll]
  rcases List.mem_cons.1 h with rfl | h
  ·omega
  ·have := bulk_mem h; omega
theorem bulk_len {H : Type} : ∀ l : List (DataW H), l.length ≤ Rows.uptoBulkAll l
 | [] => Nat.zero_le _
 | x :: r => by have h1 := bulk_pos x; have h2 := bulk_len r; simp only [Rows.uptoBulkAll, List.length_cons]; omega
theorem meas {H : Type} : AL.Meas (Rows.uptoBulk (H := H)) where
 el := fun es sp d h => by have := bulk_mem h; simp only [Rows.uptoBulk]; omega
 ln := fun es sp => by have := bulk_len es; simp only [Rows.uptoBulk]; omega
 ag := fun ps d h => by have := bulk_mem h; simp only [Rows.uptoBulk]; omega
section
variable {H : Type} {enc : TypeId × Value → H} {w : World} {base : Nat} {spare : Nat → Bool} {held : Bool}
theorem open_ints : AL.Opens enc Tryz.prog w base spare held Rows.uptoBulk 28 (fun L : List Int => AL.ints L) fun L b => L.length ≤ b := .ints Tryz.underlying28 Tryz.underlying3 (by kernel_rfl) meas
theorem open_u32s : AL.Opens enc Tryz.prog w base spare held Rows.uptoBulk 22 (fun L : List Nat => AL.u32s L) fun L b => AL.Lim L ∧ L.length ≤ b := .u32s Tryz.underlying22 Tryz.underlying145 (by kernel_rfl) meas
theorem open_rat : AL.Opens enc Tryz.prog w base spare held Rows.uptoBulk 24 AL.dRaw AL.RawLe := .raw Tryz.underlying24 (by kernel_rfl) ⟨rfl, rfl, rfl⟩ ⟨by kernel_rfl, by kernel_rfl, by kernel_rfl⟩ meas (.bool Tryz.underlying4) open_u32s open_u32s
theorem open_rats : AL.Opens enc Tryz.prog w base spare held Rows.uptoBulk 25 (fun l : List AL.Raw => AL.dRs l) fun l b => l.length ≤ b ∧ ∀ r, r ∈ l → AL.RawLe r b := .slice (f := AL.dRaw) (sz := 3) Tryz.underlying25 (by kernel_rfl) (by decide) (fun _ => rfl) meas AL.RawLe.mono open_rat
theorem open_ratss : AL.Opens enc Tryz.prog w base spare held Rows.uptoBulk 26 (fun l : List (List AL.Raw) => AL.dRss l) fun l b => l.length ≤ b ∧ ∀ x, x ∈ l → x.length ≤ b ∧ ∀ r, r ∈ x → AL.RawLe r b :=
 .slice (f := fun l : List AL.Raw => AL.dRs l) (sz := 1) Tryz.underlying26 (by kernel_rfl) (by decide) (fun _ => rfl) meas (fun _ _ _ h k => ⟨Nat.le_trans h.1 k, fun r hr => (h.2 r hr).mono _ _ _ k⟩) open_rats
theorem open_bools : AL.Opens enc Tryz.prog w base spare held Rows.uptoBulk 27 (fun L : List Bool => AL.bools L) fun L b => L.length ≤ b := .bools Tryz.underlying27 Tryz.underlying4 (by kernel_rfl) meas
theorem open_model : AL.Opens enc Tryz.prog w base spare held Rows.uptoBulk 30 (fun h : AL.RM => AL.D.ag [AL.dI h.sym, AL.dI h.st, AL.dB h.empty.neg, AL.u32s h.empty.num, AL.u32s h.empty.den, AL.dRs h.ini, AL.dRss h.trans, AL.dRs h.stop, AL.dRss h.emit, AL.bools h.silent, AL.ints h.ties]) AL.RMLe :=
 .model Tryz.underlying30 (by kernel_rfl) ⟨rfl, rfl, rfl, rfl, rfl, rfl, rfl, rfl, rfl⟩ ⟨by kernel_rfl, by kernel_rfl, by kernel_rfl, by kernel_rfl, by kernel_rfl, by kernel_rfl, by kernel_rfl, by kernel_rfl, by kernel_rfl⟩ meas (.int Tryz.underlying3) (.int Tryz.underlying3) open_rat open_rats open_ratss open_rats open_ratss open_bools open_ints
theorem open_intss : AL.Opens enc Tryz.prog w base spare held Rows.uptoBulk 66 (fun l : List (List Int) => AL.D.sl (l.map AL.ints)) fun l b => l.length ≤ b ∧ ∀ x, x ∈ l → x.length ≤ b :=
 .slice (f := fun l : List Int => AL.ints l) (sz := 1) Tryz.underlying66 (by kernel_rfl) (by decide) (fun _ => rfl) meas (fun _ _ _ h k => Nat.le_trans h k) open_ints
theorem open_online : AL.Opens enc Tryz.prog w base spare held Rows.uptoBulk 68 (fun r : AL.RDec => AL.D.ag [AL.dI r.m.sym, AL.dI r.m.st, AL.dB r.m.empty.neg, AL.u32s r.m.empty.num, AL.u32s r.m.empty.den, AL.dRs r.m.ini, AL.dRss r.m.trans, AL.dRs r.m.stop, AL.dRss r.m.emit, AL.bools r.m.silent, AL.ints r.m.ties, AL.dI r.t, AL.dRs r.sc, AL.D.sl (r.tl.map AL.ints), AL.ints r.dn]) AL.RDecLe :=
 .dec Tryz.underlying68 (by kernel_rfl) ⟨rfl, rfl, rfl, rfl, rfl⟩ ⟨by kernel_rfl, by kernel_rfl, by kernel_rfl, by kernel_rfl, by kernel_rfl⟩ meas open_model (.int Tryz.underlying3) open_rats open_intss open_ints
end
set_option maxRecDepth 100000 in
theorem lifted (os : Os) (started : os.Started) (H : Type) (enc : TypeId × Value → H) (F : Stop.Interp) :
  ReturnsInHanded {} Tryz.checked os 6 .any ((Rows.OpenSpec.upto Rows.onlineActsSpec).pre6 enc Tryz.prog Tryz.f6 Rows.onlineActsUptoRow.domain false) (((Rows.OpenSpec.upto Rows.onlineActsSpec).at F).post enc Tryz.prog Tryz.f6 false true false false) := by
 refine returnsInHanded_of_cond (C := Tryz.checked) (s := Rows.OpenSpec.upto Rows.onlineActsSpec) (k := Rows.uptoSmall) rfl own started (by kernel_rfl) Tryz.func6
  (OpenSpec.witness (enc := enc) (C := Tryz.checked) (s := Rows.OpenSpec.upto Rows.onlineActsSpec) (k := Rows.uptoSmall) rfl false ⟨#[], #[.agg #[.int .i64 0, .int .i64 0, .bool false, .slice none 0 0, .slice none 0 0, .slice none 0 0, .slice none 0 0, .slice none 0 0, .slice none 0 0, .slice none 0 0, .slice none 0 0], .agg #[.int .i64 0, .int .i64 0, .bool false, .slice none 0 0, .slice none 0 0, .slice none 0 0, .slice none 0 0, .slice none 0 0, .slice none 0 0, .slice none 0 0, .slice none 0 0, .int .i64 0, .slice none 0 0, .slice none 0 0, .slice none 0 0], .int .i64 0, .slice none 0 0], []⟩ 8 (by kernel_rfl) (by kernel_rfl) (by kernel_rfl)
   (x := ([.agg [.lit (.int .i64 0), .lit (.int .i64 0), .agg [.lit (.bool false), .nil, .nil], .nil, .nil, .nil, .nil, .nil, .nil], .agg [.agg [.lit (.int .i64 0), .lit (.int .i64 0), .agg [.lit (.bool false), .nil, .nil], .nil, .nil, .nil, .nil, .nil, .nil], .lit (.int .i64 0), .nil, .nil, .nil], .lit (.int .i64 0), .nil], [], [])) (by kernel_rfl) rfl (by kernel_rfl)) ?_
 intro W base args ds gs before hval0 hW hcnd hk _
 have hval : ∀ (j : Nat) t v, Tryz.f6.params[j]? = some t → args[j]? = some v → Value.okWide Tryz.prog W .any base t v := hval0
 have hW' := hW
 obtain ⟨p, q, hA0, hV, rfl, hfz, hnd⟩ := hW
 have hA : DataW.TrodAll enc Tryz.prog W 0 (fun _ => true) true Tryz.f6.params.toList args.toList ds p := hA0
 rw [Tryz.params6] at hA hval
 obtain ⟨v0, vs0, d0, ds0, p0, q0, hargs, rfl, rfl, h0, r0⟩ := trodAll_cons hA
 obtain ⟨v1, vs1, d1, ds1, p1, q1, rfl, rfl, rfl, h1, r1⟩ := trodAll_cons r0
 obtain ⟨v2, vs2, d2, ds2, p2, q2, rfl, rfl, rfl, h2, r2⟩ := trodAll_cons r1
 obtain ⟨v3, vs3, d3, ds3, p3, q3, rfl, rfl, rfl, h3, r3⟩ := trodAll_cons r2
 obtain ⟨rfl, rfl, rfl⟩ := trodAll_nil r3
 obtain rfl : args = #[v0, v1, v2, v3] := by cases args; simp_all
 obtain ⟨rfl, rfl⟩ := trodVars_none hV
 have hb : Rows.uptoBulkAll ([d0, d1, d2, d3] ++ []) ≤ 1048576 := of_decide_eq_true hk
 simp only [List.append_nil, Rows.uptoBulkAll] at hb
 have k0 := h0
 have lt0 : ∀ x ∈ p0, x.block < W.heap.size := by obtain ⟨m, hm⟩ := k0; exact DataW.trod_lt m _ _ _ hm
 have k1 := h1
 have lt1 : ∀ x ∈ p1, x.block < W.heap.size := by obtain ⟨m, hm⟩ := k1; exact DataW.trod_lt m _ _ _ hm
 have k3 := h3
 have lt3 : ∀ x ∈ p3, x.block < W.heap.size := by obtain ⟨m, hm⟩ := k3; exact DataW.trod_lt m _ _ _ hm
 obtain ⟨cs0, rfl, hz0⟩ := okWide_struct Tryz.underlying30 (hval 0 30 v0 rfl rfl)
 obtain ⟨f0, g0⟩ := h0
 obtain ⟨m0, cr0, mb0⟩ := open_model f0 _ _ g0
 have ml0 : AL.RMLe m0 1048576 := mb0.mono (by show Rows.uptoBulk d0 ≤ _; omega)
 obtain ⟨cs1, rfl, hz1⟩ := okWide_struct Tryz.underlying68 (hval 1 68 v1 rfl rfl)
 obtain ⟨f1, g1⟩ := h1
 obtain ⟨e1, cr1, eb1⟩ := open_online f1 _ _ g1
 have el1 : AL.RDecLe e1 1048576 := eb1.mono (by show Rows.uptoBulk d1 ≤ _; omega)
 obtain ⟨n2, rfl, rfl, rfl, w2⟩ := open_int Tryz.underlying3 (hval 2 3 v2 rfl rfl) h2
 obtain ⟨a3, len3, cap3, rfl⟩ := okWide_slice Tryz.underlying28 (hval 3 28 v3 rfl rfl)
 obtain ⟨f3, g3⟩ := h3
 obtain ⟨l3, cr3, lb3⟩ := open_ints f3 _ _ g3
 have ll3 : l3.length ≤ 1048576 := Nat.le_trans lb3 (by show Rows.uptoBulk d3 ≤ _; omega)
 simp only [List.append_nil, List.nil_append] at hW'
 clear hA0 hval0
 refine (AL.top_call (law_OnlineActs ml0.sz el1.sz ll3) (AL.simvs_cons (AL.CR.simA cr0) (AL.simvs_cons (AL.CR.simA cr1) (AL.simvs_cons (AL.simv_int _ _) (AL.simvs_cons (AL.CR.simv cr3) (AL.simvs_nil)))))).mono fun e W' ⟨he, bel⟩ => ?_
 subst he
 exact ⟨_, rfl, _, _, _, [], _, [], hW', trodAll_mk1 (shut_bool Tryz.underlying4 _),
  (trodAll_cons_mk (Below.trod laidOut (by kernel_rfl) (of_decide_eq_true (by kernel_rfl)) k0 bel lt0) (trodAll_cons_mk (Below.trod laidOut (by kernel_rfl) (of_decide_eq_true (by kernel_rfl)) k1 bel lt1) (trodAll_cons_mk (shut_int Tryz.underlying3 w2) (trodAll_cons_mk (Below.trod laidOut (by kernel_rfl) (of_decide_eq_true (by kernel_rfl)) k3 bel lt3) (trodAll_mk0))))), rfl, bel.frame _, fun h => by cases h⟩
theorem fInPlace : (Rows.onlineActsUptoRow.inPlace == Tryz.prog.inPlace 6) = true := by kernel_rfl
theorem fUnfollowed : (Rows.onlineActsUptoRow.unfollowed == Tryz.prog.unfollowed 6) = true := by kernel_rfl
theorem fRecurses : (Rows.onlineActsUptoRow.recurses == Tryz.prog.recurses 6) = true := by kernel_rfl
theorem fNamed : (Rows.onlineActsUptoRow.named == Tryz.prog.varsNamed 6) = true := by kernel_rfl
theorem closed : joinedFacts Tryz.prog 6 Tryz.f6 (Rows.OpenSpec.upto Rows.onlineActsSpec).bare Rows.onlineActsUptoRow = true := by
 simp only [joinedFacts, Bool.and_eq_true]
 exact ⟨⟨⟨⟨⟨⟨⟨⟨⟨⟨⟨⟨⟨⟨⟨⟨⟨⟨⟨⟨⟨⟨⟨⟨⟨⟨⟨⟨⟨⟨⟨(by as_aux_lemma => kernel_rfl), fact.laidOut⟩, fact.mapsRowed⟩, (by as_aux_lemma => kernel_rfl)⟩, (by as_aux_lemma => kernel_rfl)⟩, (by as_aux_lemma => kernel_rfl)⟩, (by as_aux_lemma => kernel_rfl)⟩, (by as_aux_lemma => kernel_rfl)⟩, (by as_aux_lemma => kernel_rfl)⟩, fInPlace⟩, fUnfollowed⟩, fRecurses⟩, fNamed⟩, (by as_aux_lemma => kernel_rfl)⟩, (by as_aux_lemma => kernel_rfl)⟩, (by as_aux_lemma => kernel_rfl)⟩, (by as_aux_lemma => kernel_rfl)⟩, (by as_aux_lemma => kernel_rfl)⟩, (by as_aux_lemma => kernel_rfl)⟩, (by as_aux_lemma => kernel_rfl)⟩, (by as_aux_lemma => kernel_rfl)⟩, (by as_aux_lemma => kernel_rfl)⟩, fact.keys⟩, (by as_aux_lemma => kernel_rfl)⟩, fact.heard⟩, fact.enter⟩, fact.lifts⟩, (by as_aux_lemma => kernel_rfl)⟩, (by as_aux_lemma => kernel_rfl)⟩, (by as_aux_lemma => kernel_rfl)⟩, (by as_aux_lemma => kernel_rfl)⟩, (by as_aux_lemma => kernel_rfl)⟩
theorem over : Rows.onlineActsUptoRow.holds Tryz.pinned (Rows.OpenSpec.upto Rows.onlineActsSpec) :=
 OpenClaim.holds_of_cond 6 Tryz.f6 rfl rfl rfl rfl rfl rfl rfl ⟨rfl, rfl, rfl, rfl, rfl⟩ rfl rfl rfl rfl rfl (by kernel_rfl) Tryz.func6 closed
  (of_decide_eq_true (by kernel_rfl)) (by unfold Func.isWrapper; first | (rw [if_pos (by decide +kernel)]; kernel_rfl) | (rw [if_neg (by decide +kernel)]; exact ⟨rfl, rfl⟩))
  (fun os started H enc _ F => lifted os started H enc F)
theorem proved : Rows.OnlineActsUptoSaid := over
#print axioms proved
end Go.Proofs.YtjghehkgmanmbaaGreat.onlineActsTop

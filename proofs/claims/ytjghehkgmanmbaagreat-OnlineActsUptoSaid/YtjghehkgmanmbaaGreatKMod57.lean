/-
  M, part 57: decoders that come in from outside.
-/
import Derived.Test.YtjghehkgmanmbaaGreatKAlg33
import Derived.Test.YtjghehkgmanmbaaGreatKMod34b
import Derived.Test.YtjghehkgmanmbaaGreatKMod54
set_option linter.unusedVariables false
set_option linter.unusedSimpArgs false
namespace Go.AL
open Go Go.BigFrame Go.RowKit
section
variable {H : Type} {enc : TypeId × Value → H} {P : Program} {w : World} {base : Nat} {spare : Nat → Bool} {held : Bool} {β : DataW H → Nat}
theorem Opens.u32s {t e : TypeId} (ht : P.underlying t = some (.slice e)) (he : P.underlying e = some (.int .u32)) (hc : P.cellsOf e = 1) (hm : Meas β) :
  Opens enc P w base spare held β t (fun L : List Nat => AL.u32s L) fun L b => Lim L ∧ L.length ≤ b := fun fuel cs x h => by
 obtain ⟨L, h1, h2, h3⟩ := Opens.slice (f := d32) ht hc Nat.one_pos (fun _ => rfl) hm (fun _ _ _ h _ => h) (Opens.u32 he) fuel cs x h
 exact ⟨L, h1, fun n hn => h3 n hn, h2⟩
theorem Opens.ints {t e : TypeId} (ht : P.underlying t = some (.slice e)) (he : P.underlying e = some (.int .i64)) (hc : P.cellsOf e = 1) (hm : Meas β) :
  Opens enc P w base spare held β t (fun L : List Int => AL.ints L) fun L b => L.length ≤ b := fun fuel cs x h => by
 obtain ⟨L, h1, h2, _⟩ := Opens.slice (f := dI) ht hc Nat.one_pos (fun _ => rfl) hm (fun _ _ _ h _ => h) (Opens.int he) fuel cs x h
 exact ⟨L, h1, h2⟩
theorem Opens.bools {t e : TypeId} (ht : P.underlying t = some (.slice e)) (he : P.underlying e = some .bool) (hc : P.cellsOf e = 1) (hm : Meas β) :
  Opens enc P w base spare held β t (fun L : List Bool => AL.bools L) fun L b => L.length ≤ b := fun fuel cs x h => by
 obtain ⟨L, h1, h2, _⟩ := Opens.slice (f := dB) ht hc Nat.one_pos (fun _ => rfl) hm (fun _ _ _ h _ => h) (Opens.bool he) fuel cs x h
 exact ⟨L, h1, h2⟩
def RawLe (r : Raw) (b : Nat) : Prop := Lim r.num ∧ Lim r.den ∧ r.num.length ≤ b ∧ r.den.length ≤ b
theorem RawLe.mono (r : Raw) (b c : Nat) (h : RawLe r b) (k : b ≤ c) : RawLe r c := ⟨h.1, h.2.1, Nat.le_trans h.2.2.1 k, Nat.le_trans h.2.2.2 k⟩
theorem Opens.raw {t : TypeId} {f0 f1 f2 : Field} (ht : P.underlying t = some (.struct #[f0, f1, f2])) (hc : P.cellsOf t = 3) (hof : f0.offset = 0 ∧ f1.offset = 1 ∧ f2.offset = 2) (hcf : P.cellsOf f0.type = 1 ∧ P.cellsOf f1.type = 1 ∧ P.cellsOf f2.type = 1) (hm : Meas β)
  (h0 : Opens enc P w base spare held β f0.type dB fun _ _ => True) (h1 : Opens enc P w base spare held β f1.type (fun L : List Nat => AL.u32s L) fun L b => Lim L ∧ L.length ≤ b) (h2 : Opens enc P w base spare held β f2.type (fun L : List Nat => AL.u32s L) fun L b => Lim L ∧ L.length ≤ b) :
  Opens enc P w base spare held β t dRaw RawLe := fun fuel cs x h => by
 obtain ⟨xs, n, rfl, rfl, hl, hxl, hf⟩ := DataW.trod_struct ht h
 have g0 := hf 0 f0 rfl
 have g1 := hf 1 f1 rfl
 have g2 := hf 2 f2 rfl
 rw [hof.1, hcf.1] at g0
 rw [hof.2.1, hcf.2.1] at g1
 rw [hof.2.2, hcf.2.2] at g2
 rw [hc] at hl
 match cs, hl, xs, hxl with
 | [v0, v1, v2], _, [y0, y1, y2], _ =>
  obtain ⟨s, a1, _⟩ := h0 n _ _ g0
  obtain ⟨L1, b1, b2, b3⟩ := h1 n _ _ g1
  obtain ⟨L2, c1, c2, c3⟩ := h2 n _ _ g2
  have m1 := hm.ag [y0.1, y1.1, y2.1] y1.1 (by simp)
  have m2 := hm.ag [y0.1, y1.1, y2.1] y2.1 (by simp)
  exact ⟨⟨s, L1, L2⟩, (a1.app b1).app c1, b2, c2, Nat.le_trans b3 m1, Nat.le_trans c3 m2⟩
structure RMLe (h : RM) (b : Nat) : Prop where
 e : RawLe h.empty b
 i : h.ini.length ≤ b ∧ ∀ r, r ∈ h.ini → RawLe r b
 s : h.stop.length ≤ b ∧ ∀ r, r ∈ h.stop → RawLe r b
 t : h.trans.length ≤ b ∧ ∀ x, x ∈ h.trans → x.length ≤ b ∧ ∀ r, r ∈ x → RawLe r b
 m : h.emit.length ≤ b ∧ ∀ x, x ∈ h.emit → x.length ≤ b ∧ ∀ r, r ∈ x → RawLe r b
 l : h.silent.length ≤ b
 k : h.ties.length ≤ b
theorem RMLe.mono {h : RM} {b c : Nat} (l : RMLe h b) (k : b ≤ c) : RMLe h c :=
 ⟨l.e.mono _ _ _ k, ⟨Nat.le_trans l.i.1 k, fun r hr => (l.i.2 r hr).mono _ _ _ k⟩, ⟨Nat.le_trans l.s.1 k, fun r hr => (l.s.2 r hr).mono _ _ _ k⟩, ⟨Nat.le_trans l.t.1 k, fun x hx => ⟨Nat.le_trans (l.t.2 x hx).1 k, fun r hr => ((l.t.2 x hx).2 r hr).mono _ _ _ k⟩⟩,
  ⟨Nat.le_trans l.m.1 k, fun x hx => ⟨Nat.le_trans (l.m.2 x hx).1 k, fun r hr => ((l.m.2 x hx).2 r hr).mono _ _ _ k⟩⟩, Nat.le_trans l.l k, Nat.le_trans l.k k⟩
theorem CR.simA {w : World} {cs : Array Value} {ds : List D} (h : CR w cs.toList ds) : SimV (wholeHp w) (.agg cs) (.ag (ds.map .d)) := by
 have := h.sim
 simpa using this
theorem RMLe.sz {h : RM} (l : RMLe h 1048576) : h.Sz := by
 have md : ∀ {r : Raw}, RawLe r 1048576 → r.Med := fun k => ⟨k.1, k.2.1, k.2.2.1, k.2.2.2⟩
 exact ⟨md l.e, fun r hr => md (l.i.2 r hr), fun r hr => md (l.s.2 r hr), fun x hx r hr => md ((l.t.2 x hx).2 r hr), fun x hx r hr => md ((l.m.2 x hx).2 r hr), l.i.1, l.s.1, l.t.1, l.m.1, fun x hx => (l.t.2 x hx).1, fun x hx => (l.m.2 x hx).1, l.l, l.k⟩
theorem Opens.up {t : TypeId} {α : Type} {f : α → D} {ok ok2 : α → Nat → Prop} (h : Opens enc P w base spare held β t f ok) (k : ∀ a b, ok a b → ok2 a b) : Opens enc P w base spare held β t f ok2 := fun fuel cs x hx =>
 let ⟨a, h1, h2⟩ := h fuel cs x hx; ⟨a, h1, k a _ h2⟩
theorem Opens.model {t : TypeId} {f0 f1 f2 f3 f4 f5 f6 f7 f8 : Field} (ht : P.underlying t = some (.struct #[f0, f1, f2, f3, f4, f5, f6, f7, f8])) (hc : P.cellsOf t = 11)
  (hof : f0.offset = 0 ∧ f1.offset = 1 ∧ f2.offset = 2 ∧ f3.offset = 5 ∧ f4.offset = 6 ∧ f5.offset = 7 ∧ f6.offset = 8 ∧ f7.offset = 9 ∧ f8.offset = 10)
  (hcf : P.cellsOf f0.type = 1 ∧ P.cellsOf f1.type = 1 ∧ P.cellsOf f2.type = 3 ∧ P.cellsOf f3.type = 1 ∧ P.cellsOf f4.type = 1 ∧ P.cellsOf f5.type = 1 ∧ P.cellsOf f6.type = 1 ∧ P.cellsOf f7.type = 1 ∧ P.cellsOf f8.type = 1) (hm : Meas β)
  (h0 : Opens enc P w base spare held β f0.type dI fun _ _ => True) (h1 : Opens enc P w base spare held β f1.type dI fun _ _ => True) (h2 : Opens enc P w base spare held β f2.type dRaw RawLe)
  (h3 : Opens enc P w base spare held β f3.type (fun l : List Raw => dRs l) fun l b => l.length ≤ b ∧ ∀ r, r ∈ l → RawLe r b) (h4 : Opens enc P w base spare held β f4.type (fun l : List (List Raw) => dRss l) fun l b => l.length ≤ b ∧ ∀ x, x ∈ l → x.length ≤ b ∧ ∀ r, r ∈ x → RawLe r b)
  (h5 : Opens enc P w base spare held β f5.type (fun l : List Raw => dRs l) fun l b => l.length ≤ b ∧ ∀ r, r ∈ l → RawLe r b) (h6 : Opens enc P w base spare held β f6.type (fun l : List (List Raw) => dRss l) fun l b => l.length ≤ b ∧ ∀ x, x ∈ l → x.length ≤ b ∧ ∀ r, r ∈ x → RawLe r b)
  (h7 : Opens enc P w base spare held β f7.type (fun L : List Bool => AL.bools L) fun L b => L.length ≤ b) (h8 : Opens enc P w base spare held β f8.type (fun L : List Int => AL.ints L) fun L b => L.length ≤ b) :
  Opens enc P w base spare held β t (fun h : RM => D.ag [dI h.sym, dI h.st, dB h.empty.neg, AL.u32s h.empty.num, AL.u32s h.empty.den, dRs h.ini, dRss h.trans, dRs h.stop, dRss h.emit, AL.bools h.silent, AL.ints h.ties]) RMLe := fun fuel cs x h => by
 obtain ⟨xs, n, rfl, rfl, hl, hxl, hf⟩ := DataW.trod_struct ht h
 obtain ⟨o0, o1, o2, o3, o4, o5, o6, o7, o8⟩ := hof
 obtain ⟨c0, c1, c2, c3, c4, c5, c6, c7, c8⟩ := hcf
 have g0 := hf 0 f0 rfl; rw [o0, c0] at g0
 have g1 := hf 1 f1 rfl; rw [o1, c1] at g1
 have g2 := hf 2 f2 rfl; rw [o2, c2] at g2
 have g3 := hf 3 f3 rfl; rw [o3, c3] at g3
 have g4 := hf 4 f4 rfl; rw [o4, c4] at g4
 have g5 := hf 5 f5 rfl; rw [o5, c5] at g5
 have g6 := hf 6 f6 rfl; rw [o6, c6] at g6
 have g7 := hf 7 f7 rfl; rw [o7, c7] at g7
 have g8 := hf 8 f8 rfl; rw [o8, c8] at g8
 rw [hc] at hl
 match cs, hl, xs, hxl with
 | [v0, v1, v2, v3, v4, v5, v6, v7, v8, v9, v10], _, [y0, y1, y2, y3, y4, y5, y6, y7, y8], _ =>
  obtain ⟨a0, p0, _⟩ := h0 n _ _ g0
  obtain ⟨a1, p1, _⟩ := h1 n _ _ g1
  obtain ⟨a2, p2, q2⟩ := h2 n _ _ g2
  obtain ⟨a3, p3, q3, r3⟩ := h3 n _ _ g3
  obtain ⟨a4, p4, q4, r4⟩ := h4 n _ _ g4
  obtain ⟨a5, p5, q5, r5⟩ := h5 n _ _ g5
  obtain ⟨a6, p6, q6, r6⟩ := h6 n _ _ g6
  obtain ⟨a7, p7, q7⟩ := h7 n _ _ g7
  obtain ⟨a8, p8, q8⟩ := h8 n _ _ g8
  have m : ∀ d, d ∈ [y0.1, y1.1, y2.1, y3.1, y4.1, y5.1, y6.1, y7.1, y8.1] → β d ≤ β (.agg [y0.1, y1.1, y2.1, y3.1, y4.1, y5.1, y6.1, y7.1, y8.1]) := fun d hd => hm.ag _ d hd
  have m2 := m y2.1 (by simp)
  have m3 := m y3.1 (by simp)
  have m4 := m y4.1 (by simp)
  have m5 := m y5.1 (by simp)
  have m6 := m y6.1 (by simp)
  have m7 := m y7.1 (by simp)
  have m8 := m y8.1 (by simp)
  refine ⟨⟨a0, a1, a2, a3, a4, a5, a6, a7, a8⟩, (((((((p0.app p1).app p2).app p3).app p4).app p5).app p6).app p7).app p8, ?_⟩
  exact ⟨q2.mono _ _ _ m2, ⟨Nat.le_trans q3 m3, fun r hr => (r3 r hr).mono _ _ _ m3⟩, ⟨Nat.le_trans q5 m5, fun r hr => (r5 r hr).mono _ _ _ m5⟩, ⟨Nat.le_trans q4 m4, fun x hx => ⟨Nat.le_trans (r4 x hx).1 m4, fun r hr => ((r4 x hx).2 r hr).mono _ _ _ m4⟩⟩,
   ⟨Nat.le_trans q6 m6, fun x hx => ⟨Nat.le_trans (r6 x hx).1 m6, fun r hr => ((r6 x hx).2 r hr).mono _ _ _ m6⟩⟩, Nat.le_trans q7 m7, Nat.le_trans q8 m8⟩
end
end Go.AL

set_option linter.unusedVariables false
set_option linter.unusedSimpArgs false
namespace Go.AL
open Go Go.BigFrame Go.RowKit
structure RDecLe (r : RDec) (b : Nat) : Prop where
 m : RMLe r.m b
 s : r.sc.length ≤ b ∧ ∀ x, x ∈ r.sc → RawLe x b
 t : r.tl.length ≤ b ∧ ∀ x, x ∈ r.tl → x.length ≤ b
 d : r.dn.length ≤ b
theorem RDecLe.mono {r : RDec} {b c : Nat} (l : RDecLe r b) (k : b ≤ c) : RDecLe r c :=
 ⟨l.m.mono k, ⟨Nat.le_trans l.s.1 k, fun x hx => (l.s.2 x hx).mono _ _ _ k⟩, ⟨Nat.le_trans l.t.1 k, fun x hx => Nat.le_trans (l.t.2 x hx) k⟩, Nat.le_trans l.d k⟩
theorem RDecLe.sz {r : RDec} (l : RDecLe r 1048576) : r.Sz := by
 have md : ∀ {x : Raw}, RawLe x 1048576 → x.Med := fun k => ⟨k.1, k.2.1, k.2.2.1, k.2.2.2⟩
 refine ⟨l.m.sz, fun x hx => md (l.s.2 x hx), l.s.1, l.t.1, fun i => ?_, l.d⟩
 rcases Nat.lt_or_ge i r.tl.length with h | h
 ·exact l.t.2 _ (getD_mem h [])
 ·rw [getD_ge h]; exact Nat.zero_le _
section
variable {H : Type} {enc : TypeId × Value → H} {P : Program} {w : World} {base : Nat} {spare : Nat → Bool} {held : Bool} {β : DataW H → Nat}
theorem Opens.dec {t : TypeId} {f0 f1 f2 f3 f4 : Field} (ht : P.underlying t = some (.struct #[f0, f1, f2, f3, f4])) (hc : P.cellsOf t = 15)
  (hof : f0.offset = 0 ∧ f1.offset = 11 ∧ f2.offset = 12 ∧ f3.offset = 13 ∧ f4.offset = 14)
  (hcf : P.cellsOf f0.type = 11 ∧ P.cellsOf f1.type = 1 ∧ P.cellsOf f2.type = 1 ∧ P.cellsOf f3.type = 1 ∧ P.cellsOf f4.type = 1) (hm : Meas β)
  (h0 : Opens enc P w base spare held β f0.type (fun h : RM => D.ag [dI h.sym, dI h.st, dB h.empty.neg, AL.u32s h.empty.num, AL.u32s h.empty.den, dRs h.ini, dRss h.trans, dRs h.stop, dRss h.emit, AL.bools h.silent, AL.ints h.ties]) RMLe)
  (h1 : Opens enc P w base spare held β f1.type dI fun _ _ => True)
  (h2 : Opens enc P w base spare held β f2.type (fun l : List Raw => dRs l) fun l b => l.length ≤ b ∧ ∀ r, r ∈ l → RawLe r b)
  (h3 : Opens enc P w base spare held β f3.type (fun l : List (List Int) => D.sl (l.map AL.ints)) fun l b => l.length ≤ b ∧ ∀ x, x ∈ l → x.length ≤ b)
  (h4 : Opens enc P w base spare held β f4.type (fun L : List Int => AL.ints L) fun L b => L.length ≤ b) :
  Opens enc P w base spare held β t (fun r : RDec => D.ag [dI r.m.sym, dI r.m.st, dB r.m.empty.neg, AL.u32s r.m.empty.num, AL.u32s r.m.empty.den, dRs r.m.ini, dRss r.m.trans, dRs r.m.stop, dRss r.m.emit, AL.bools r.m.silent, AL.ints r.m.ties, dI r.t, dRs r.sc, D.sl (r.tl.map AL.ints), AL.ints r.dn]) RDecLe := fun fuel cs x h => by
 obtain ⟨xs, n, rfl, rfl, hl, hxl, hf⟩ := DataW.trod_struct ht h
 obtain ⟨o0, o1, o2, o3, o4⟩ := hof
 obtain ⟨c0, c1, c2, c3, c4⟩ := hcf
 have g0 := hf 0 f0 rfl; rw [o0, c0] at g0
 have g1 := hf 1 f1 rfl; rw [o1, c1] at g1
 have g2 := hf 2 f2 rfl; rw [o2, c2] at g2
 have g3 := hf 3 f3 rfl; rw [o3, c3] at g3
 have g4 := hf 4 f4 rfl; rw [o4, c4] at g4
 rw [hc] at hl
 match cs, hl, xs, hxl with
 | [v0, v1, v2, v3, v4, v5, v6, v7, v8, v9, v10, v11, v12, v13, v14], _, [y0, y1, y2, y3, y4], _ =>
  obtain ⟨a0, p0, q0⟩ := h0 n _ _ g0
  obtain ⟨a1, p1, _⟩ := h1 n _ _ g1
  obtain ⟨a2, p2, q2, r2⟩ := h2 n _ _ g2
  obtain ⟨a3, p3, q3, r3⟩ := h3 n _ _ g3
  obtain ⟨a4, p4, q4⟩ := h4 n _ _ g4
  have m : ∀ d, d ∈ [y0.1, y1.1, y2.1, y3.1, y4.1] → β d ≤ β (.agg [y0.1, y1.1, y2.1, y3.1, y4.1]) := fun d hd => hm.ag _ d hd
  have m0 := m y0.1 (by simp)
  have m2 := m y2.1 (by simp)
  have m3 := m y3.1 (by simp)
  have m4 := m y4.1 (by simp)
  refine ⟨⟨a0, a1, a2, a3, a4⟩, (((p0.app p1).app p2).app p3).app p4, ?_⟩
  exact ⟨q0.mono m0, ⟨Nat.le_trans q2 m2, fun r hr => (r2 r hr).mono _ _ _ m2⟩, ⟨Nat.le_trans q3 m3, fun x hx => Nat.le_trans (r3 x hx) m3⟩, Nat.le_trans q4 m4⟩
end
end Go.AL

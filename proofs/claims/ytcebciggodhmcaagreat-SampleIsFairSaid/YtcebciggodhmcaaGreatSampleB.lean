/-
  Walks of drawings, part 2: intervals, the reader (printed by mk2.py).
-/
import Derived.Test.YtcebciggodhmcaaGreatSampleA
set_option linter.unusedVariables false
set_option linter.unusedSimpArgs false
namespace Go.Proofs.YtcebciggodhmcaaGreat
open Go Go.AL
abbrev rdB (b : Nat) (bits : List Int) (r : Rd) : Blk := .box b T.reader [.d (ints bits), .d (dI r.used), .d (dB (ofQ r.read.lo).neg), .d (u32s (ofQ r.read.lo).num), .d (u32s (ofQ r.read.lo).den), .d (dB (ofQ r.read.len).neg), .d (u32s (ofQ r.read.len).num), .d (u32s (ofQ r.read.len).den)]
theorem eta_span (s : Span) : (⟨s.lo, s.len⟩ : Span) = s := rfl

theorem sample_part {t : Nat} {s : Span} {ch : List Rat} (hs : SpanOK t s) (ht : t ≤ 600) (hc : Small 1024 ch) (hn : ch.length ≤ 40) {k : Nat} (hk : k < ch.length) : FSpec P F.sample_span_part [vSpan s, .d (dQs ch), .d (dI k)] (vSpan (s.part ch k)) := by
  have b1 := hs.lo
  have b2 := hs.len
  have hkl : (ch.take k).length = k := take_len (by omega)
  refine FSpec.intro fn.sample_span_part (by rfl) (by rfl) (Nat.le_of_ble_eq_true (by rfl)) fun E hE => ?_
  refine AW.seq ?_
  refine AW.region (by rw [hE]; rfl) ?_
  first | refine bxA rfl rfl fun b3 => ?_ | refine bxD rfl rfl fun b3 => ?_
  refine al z.span rfl fun b6 => ?_
  refine OL.nil ?_
  refine AW.seq ?_
  refine AW.region (by rw [hE]; rfl) ?_
  first | refine faP fd.span_0 rfl rfl ?_ | refine faR fd.span_0 rfl rfl ?_ | refine faE fd.span_0 rfl rfl ?_
  first | refine ldPA ag.Rat rfl rfl (vs := [_, _, _]) rfl (Nat.le_of_ble_eq_true rfl) ?_ | refine ldRA ag.Rat rfl (vs := [_, _, _]) rfl (Nat.le_of_ble_eq_true rfl) ?_
  refine al z.Rat rfl fun b7 => ?_
  first | refine sto sz.Rat rfl rfl rfl rfl rfl (Nat.le_of_ble_eq_true rfl) (cells2 := [_, _, _]) rfl ?_ | refine stE sz.Rat rfl (VC.d _).vd rfl rfl (by omega) rfl ?_
  refine OL.nil ?_
  refine AW.seq ?_
  refine AW.seq ?_
  refine AW.region (by rw [hE]; rfl) ?_
  first | refine mvD rfl ?_ | refine mvO rfl ?_ | refine mvM rfl ?_
  refine mvD rfl ?_
  refine slTo sl.Rats rfl rfl (fun _ => rfl) (by omega) (l2 := ch.take k) (by rw [Int.toNat_natCast]) ?_
  first | refine lnL sl.Rats rfl rfl ?_ | refine lnO sl.Rats rfl rfl ?_ | refine lnM sl.Rats rfl rfl ?_ | refine lnD sl.Rats rfl rfl rfl ?_
  refine mvD rfl ?_
  refine OL.nil ?_
  refine AW.block ?_
  refine AW.whileK (α := Nat) [(1, _), (2, _), (3, _), (6, _), (7, _), (14, _), (15, _)] [(3, _), (6, _)] (fun i => [(16, .d (dI i))]) (fun i => [(7, .box b7 T.Rat (cellsQ (partLo s ((ch.take k).take i))))]) (fun i => i ≤ (ch.take k).length) (fun i => (ch.take k).length - i) 0 (.cons (by first | exact knD rfl | exact knA rfl | exact knP rfl | exact knO rfl | exact knM rfl | exact knE rfl | exact knR rfl | exact knF rfl | exact knT rfl | exact knJ) (.cons (by first | exact knD rfl | exact knA rfl | exact knP rfl | exact knO rfl | exact knM rfl | exact knE rfl | exact knR rfl | exact knF rfl | exact knT rfl | exact knJ) (.cons (by first | exact knD rfl | exact knA rfl | exact knP rfl | exact knO rfl | exact knM rfl | exact knE rfl | exact knR rfl | exact knF rfl | exact knT rfl | exact knJ) (.cons (by first | exact knD rfl | exact knA rfl | exact knP rfl | exact knO rfl | exact knM rfl | exact knE rfl | exact knR rfl | exact knF rfl | exact knT rfl | exact knJ) (.cons (by first | exact knD rfl | exact knA rfl | exact knP rfl | exact knO rfl | exact knM rfl | exact knE rfl | exact knR rfl | exact knF rfl | exact knT rfl | exact knJ) (.cons (by first | exact knD rfl | exact knA rfl | exact knP rfl | exact knO rfl | exact knM rfl | exact knE rfl | exact knR rfl | exact knF rfl | exact knT rfl | exact knJ) (.cons (by first | exact knD rfl | exact knA rfl | exact knP rfl | exact knO rfl | exact knM rfl | exact knE rfl | exact knR rfl | exact knF rfl | exact knT rfl | exact knJ) .nil))))))) (.cons (by first | exact owB rfl | exact owR rfl) (.cons (by first | exact owB rfl | exact owR rfl) .nil)) ⟨Nat.zero_le _, .cons (by first | exact VLe.refl _ | exact VLe.int (by omega) | exact VLe.mt | exact vle_q0 | exact VLe.osl | exact VLe.ptr) .nil, .cons rfl .nil⟩ ?_
  intro i h1
  refine AW.seq ?_
  refine AW.region (by rw [hE]; rfl) ?_
  refine c_lss rfl rfl rfl ?_
  refine OL.nil ?_
  refine AW.seq ?_
  refine AW.cond rfl (fun h17 => ?_) (fun h17 => ?_)
  · first | (simp only [decide_eq_true_eq, decide_eq_false_iff_not, Bool.not_eq_true', Bool.not_eq_false', Bool.not_not, Bool.and_eq_true, Bool.and_eq_false_iff, Bool.or_eq_true, Bool.or_eq_false_iff] at h17) | skip
    refine AW.skip ?_
    refine AW.seq ?_
    refine AW.block ?_
    refine AW.seq ?_
    refine AW.region (by rw [hE]; rfl) ?_
    first | refine ixO sl.Rats rfl rfl (by omega) (by omega) rfl ?_ | refine ixLn sl.Rats 0 rfl rfl (by omega) rfl rfl ?_ | refine ixL sl.Rats 0 rfl rfl (by omega) (by omega) rfl rfl ?_
    first | refine ldPA ag.Rat rfl rfl (vs := [_, _, _]) rfl (Nat.le_of_ble_eq_true rfl) ?_ | refine ldRA ag.Rat rfl (vs := [_, _, _]) rfl (Nat.le_of_ble_eq_true rfl) ?_
    refine al z.Rat rfl fun b9 => ?_
    first | refine sto sz.Rat rfl rfl rfl rfl rfl (Nat.le_of_ble_eq_true rfl) (cells2 := [_, _, _]) rfl ?_ | refine stE sz.Rat rfl (VC.d _).vd rfl rfl (by omega) rfl ?_
    refine OL.nil ?_
    have hx := (hc.take k).get (B := 1024) (by decide) i
    have hm := sz_mul s.len ((ch.take k).getD i 0)
    have hp := partLo_sz (B := 1024) (s := s) b2 ((hc.take k).take i)
    have hil : ((ch.take k).take i).length ≤ 40 := by rw [List.length_take]; omega
    have hm2 : ((ch.take k).take i).length * (1 + t * 1024 + 1024 + 1) ≤ 40 * (1 + 600 * 1024 + 1024 + 1) := Nat.mul_le_mul hil (by omega)
    refine AW.region_draw 1 [0, 1, 2, 3, 4, 5, 6] order_free (by rw [hE]; rfl) (by kernel_rfl) (OI.of_OL (os := [_, _, _, _, _, _, _]) rfl ?_)
    first | refine ldPA ag.Rat rfl rfl (vs := [_, _, _]) rfl (Nat.le_of_ble_eq_true rfl) ?_ | refine ldRA ag.Rat rfl (vs := [_, _, _]) rfl (Nat.le_of_ble_eq_true rfl) ?_
    first | refine faP fd.span_1 rfl rfl ?_ | refine faR fd.span_1 rfl rfl ?_ | refine faE fd.span_1 rfl rfl ?_
    first | refine ldPA ag.Rat rfl rfl (vs := [_, _, _]) rfl (Nat.le_of_ble_eq_true rfl) ?_ | refine ldRA ag.Rat rfl (vs := [_, _, _]) rfl (Nat.le_of_ble_eq_true rfl) ?_
    first | refine ldPA ag.Rat rfl rfl (vs := [_, _, _]) rfl (Nat.le_of_ble_eq_true rfl) ?_ | refine ldRA ag.Rat rfl (vs := [_, _, _]) rfl (Nat.le_of_ble_eq_true rfl) ?_
    refine clv rfl (.cons (by first | exact VLe.refl _ | exact VLe.mt | exact vle_q0 | exact VLe.ptr) (.cons (by first | exact VLe.refl _ | exact VLe.mt | exact vle_q0 | exact VLe.ptr) .nil)) (rational_MulQ (by first | assumption | omega) (by first | assumption | omega)) ?_
    refine clv rfl (.cons (by first | exact VLe.refl _ | exact VLe.mt | exact vle_q0 | exact VLe.ptr) (.cons (by first | exact VLe.refl _ | exact VLe.mt | exact vle_q0 | exact VLe.ptr) .nil)) (rational_AddQ (by first | assumption | omega) (by first | assumption | omega)) ?_
    first | refine sto sz.Rat rfl rfl rfl rfl rfl (Nat.le_of_ble_eq_true rfl) (cells2 := [_, _, _]) rfl ?_ | refine stE sz.Rat rfl (VC.d _).vd rfl rfl (by omega) rfl ?_
    refine OL.nil ?_
    refine AW.region (by rw [hE]; rfl) ?_
    refine add_i64 rfl rfl (by omega) ?_
    refine mvD rfl ?_
    refine OL.nil ?_
    exact AW.again (x := i) (i + 1) (by first | omega | (simp only []; omega)) ⟨by omega, Knows.app (.cons (VLe.refl _) (.cons (VLe.refl _) (.cons (VLe.refl _) (.cons (VLe.refl _) (.cons (VLe.refl _) (.cons (VLe.refl _) (.cons (VLe.refl _) .nil))))))) (.cons (by first | exact VLe.refl _ | exact VLe.int (by omega) | exact VLe.mt | exact vle_q0 | exact VLe.osl | exact VLe.ptr) .nil), Owns.app (.cons rfl (.cons rfl .nil)) (.cons (by rw [partLo_take_succ (by omega)]; rfl) .nil)⟩
  · first | (simp only [decide_eq_true_eq, decide_eq_false_iff_not, Bool.not_eq_true', Bool.not_eq_false', Bool.not_not, Bool.and_eq_true, Bool.and_eq_false_iff, Bool.or_eq_true, Bool.or_eq_false_iff] at h17) | skip
    refine AW.exit ?_
    refine AW.seq ?_
    obtain rfl : i = (ch.take k).length := by omega
    have hx := hc.get (B := 1024) (by decide) k
    refine AW.region_draw 1 [0, 1, 2, 3, 4, 5, 6, 7, 8, 9] order_free (by rw [hE]; rfl) (by kernel_rfl) (OI.of_OL (os := [_, _, _, _, _, _, _, _, _, _]) rfl ?_)
    first | refine ldPA ag.Rat rfl rfl (vs := [_, _, _]) rfl (Nat.le_of_ble_eq_true rfl) ?_ | refine ldRA ag.Rat rfl (vs := [_, _, _]) rfl (Nat.le_of_ble_eq_true rfl) ?_
    first | refine faP fd.span_1 rfl rfl ?_ | refine faR fd.span_1 rfl rfl ?_ | refine faE fd.span_1 rfl rfl ?_
    first | refine ldPA ag.Rat rfl rfl (vs := [_, _, _]) rfl (Nat.le_of_ble_eq_true rfl) ?_ | refine ldRA ag.Rat rfl (vs := [_, _, _]) rfl (Nat.le_of_ble_eq_true rfl) ?_
    first | refine mvD rfl ?_ | refine mvO rfl ?_ | refine mvM rfl ?_
    refine mvD rfl ?_
    first | refine ixO sl.Rats rfl rfl (by omega) (by omega) rfl ?_ | refine ixLn sl.Rats 0 rfl rfl (by omega) rfl rfl ?_ | refine ixL sl.Rats 0 rfl rfl (by omega) (by omega) rfl rfl ?_
    first | refine ldPA ag.Rat rfl rfl (vs := [_, _, _]) rfl (Nat.le_of_ble_eq_true rfl) ?_ | refine ldRA ag.Rat rfl (vs := [_, _, _]) rfl (Nat.le_of_ble_eq_true rfl) ?_
    refine clv rfl (.cons (by first | exact VLe.refl _ | exact VLe.mt | exact vle_q0 | exact VLe.ptr) (.cons (by first | exact VLe.refl _ | exact VLe.mt | exact vle_q0 | exact VLe.ptr) .nil)) (rational_MulQ (by first | assumption | omega) (by first | assumption | omega)) ?_
    refine bd z.span pl.span (cs := [_, _, _, _, _, _]) rfl ?_
    first | refine sto sz.span rfl rfl rfl rfl rfl (Nat.le_of_ble_eq_true rfl) (cells2 := [_, _, _, _, _, _]) rfl ?_ | refine stE sz.span rfl (VC.d _).vd rfl rfl (by omega) rfl ?_
    refine OL.nil ?_
    exact AW.ret (RetQ.r ⟨_, .cellA rfl rfl ag.span (Nat.le_of_ble_eq_true rfl) .nil, .ag (.cons (.le (by rw [List.take_length]; exact VLe.refl _)) (.cons (.le (by rw [List.take_length]; exact VLe.refl _)) (.cons (.le (by rw [List.take_length]; exact VLe.refl _)) (.cons (.le (by first | exact VLe.refl _ | exact VLe.mt | exact vle_q0 | exact VLe.int (by omega) | exact VLe.bool (by simp_all))) (.cons (.le (by first | exact VLe.refl _ | exact VLe.mt | exact vle_q0 | exact VLe.int (by omega) | exact VLe.bool (by simp_all))) (.cons (.le (by first | exact VLe.refl _ | exact VLe.mt | exact vle_q0 | exact VLe.int (by omega) | exact VLe.bool (by simp_all))) .nil))))))⟩)
theorem sample_inside {s u : Span} (h1 : sz s.lo ≤ 30000000000) (h2 : sz s.len ≤ 30000000000) (h3 : sz u.lo ≤ 30000000000) (h4 : sz u.len ≤ 30000000000) : FSpec P F.sample_span_inside [vSpan s, vSpan u] (.d (dB (decide (s.inside u)))) := by
  have a1 := sz_add s.lo s.len
  have a2 := sz_add u.lo u.len
  refine FSpec.intro fn.sample_span_inside (by rfl) (by rfl) (Nat.le_of_ble_eq_true (by rfl)) fun E hE => ?_
  refine AW.seq ?_
  refine AW.region (by rw [hE]; rfl) ?_
  first | refine bxA rfl rfl fun b2 => ?_ | refine bxD rfl rfl fun b2 => ?_
  first | refine bxA rfl rfl fun b3 => ?_ | refine bxD rfl rfl fun b3 => ?_
  refine asD rfl ?_
  refine OL.nil ?_
  refine AW.seq ?_
  refine AW.region_draw 1 [0, 1, 2, 3, 4, 5, 6, 7, 8, 9, 10, 11, 12, 13, 14, 15, 16, 17, 18, 19, 20] order_free (by rw [hE]; rfl) (by kernel_rfl) (OI.of_OL (os := [_, _, _, _, _, _, _, _, _, _, _, _, _, _, _, _, _, _, _, _, _]) rfl ?_)
  first | refine faP fd.span_0 rfl rfl ?_ | refine faR fd.span_0 rfl rfl ?_ | refine faE fd.span_0 rfl rfl ?_
  first | refine ldPA ag.Rat rfl rfl (vs := [_, _, _]) rfl (Nat.le_of_ble_eq_true rfl) ?_ | refine ldRA ag.Rat rfl (vs := [_, _, _]) rfl (Nat.le_of_ble_eq_true rfl) ?_
  first | refine faP fd.span_0 rfl rfl ?_ | refine faR fd.span_0 rfl rfl ?_ | refine faE fd.span_0 rfl rfl ?_
  first | refine ldPA ag.Rat rfl rfl (vs := [_, _, _]) rfl (Nat.le_of_ble_eq_true rfl) ?_ | refine ldRA ag.Rat rfl (vs := [_, _, _]) rfl (Nat.le_of_ble_eq_true rfl) ?_
  refine clv rfl (.cons (by first | exact VLe.refl _ | exact VLe.mt | exact vle_q0 | exact VLe.ptr) (.cons (by first | exact VLe.refl _ | exact VLe.mt | exact vle_q0 | exact VLe.ptr) .nil)) (rational_CompareQ (by first | assumption | omega) (by first | assumption | omega)) ?_
  refine c_leq rfl rfl rfl ?_
  refine mvD rfl ?_
  refine OL.split 11 rfl (fun g => ?_) (fun g => ?_)
  · have g : u.lo ≤ s.lo := cmpQ_le.1 (of_decide_eq_true g)
    refine OL.yes rfl ?_
    first | refine faP fd.span_0 rfl rfl ?_ | refine faR fd.span_0 rfl rfl ?_ | refine faE fd.span_0 rfl rfl ?_
    refine OL.yes rfl ?_
    first | refine ldPA ag.Rat rfl rfl (vs := [_, _, _]) rfl (Nat.le_of_ble_eq_true rfl) ?_ | refine ldRA ag.Rat rfl (vs := [_, _, _]) rfl (Nat.le_of_ble_eq_true rfl) ?_
    refine OL.yes rfl ?_
    first | refine faP fd.span_1 rfl rfl ?_ | refine faR fd.span_1 rfl rfl ?_ | refine faE fd.span_1 rfl rfl ?_
    refine OL.yes rfl ?_
    first | refine ldPA ag.Rat rfl rfl (vs := [_, _, _]) rfl (Nat.le_of_ble_eq_true rfl) ?_ | refine ldRA ag.Rat rfl (vs := [_, _, _]) rfl (Nat.le_of_ble_eq_true rfl) ?_
    refine OL.yes rfl ?_
    refine clv rfl (.cons (by first | exact VLe.refl _ | exact VLe.mt | exact vle_q0 | exact VLe.ptr) (.cons (by first | exact VLe.refl _ | exact VLe.mt | exact vle_q0 | exact VLe.ptr) .nil)) (rational_AddQ (by first | assumption | omega) (by first | assumption | omega)) ?_
    refine OL.yes rfl ?_
    first | refine faP fd.span_0 rfl rfl ?_ | refine faR fd.span_0 rfl rfl ?_ | refine faE fd.span_0 rfl rfl ?_
    refine OL.yes rfl ?_
    first | refine ldPA ag.Rat rfl rfl (vs := [_, _, _]) rfl (Nat.le_of_ble_eq_true rfl) ?_ | refine ldRA ag.Rat rfl (vs := [_, _, _]) rfl (Nat.le_of_ble_eq_true rfl) ?_
    refine OL.yes rfl ?_
    first | refine faP fd.span_1 rfl rfl ?_ | refine faR fd.span_1 rfl rfl ?_ | refine faE fd.span_1 rfl rfl ?_
    refine OL.yes rfl ?_
    first | refine ldPA ag.Rat rfl rfl (vs := [_, _, _]) rfl (Nat.le_of_ble_eq_true rfl) ?_ | refine ldRA ag.Rat rfl (vs := [_, _, _]) rfl (Nat.le_of_ble_eq_true rfl) ?_
    refine OL.yes rfl ?_
    refine clv rfl (.cons (by first | exact VLe.refl _ | exact VLe.mt | exact vle_q0 | exact VLe.ptr) (.cons (by first | exact VLe.refl _ | exact VLe.mt | exact vle_q0 | exact VLe.ptr) .nil)) (rational_AddQ (by first | assumption | omega) (by first | assumption | omega)) ?_
    refine OL.yes rfl ?_
    refine clv rfl (.cons (by first | exact VLe.refl _ | exact VLe.mt | exact vle_q0 | exact VLe.ptr) (.cons (by first | exact VLe.refl _ | exact VLe.mt | exact vle_q0 | exact VLe.ptr) .nil)) (rational_CompareQ (by first | assumption | omega) (by first | assumption | omega)) ?_
    refine OL.yes rfl ?_
    refine c_leq rfl rfl rfl ?_
    refine pkT rfl rfl ?_
    refine asD rfl ?_
    refine OL.nil ?_
    exact AW.ret (RetQ.r ⟨_, .tmp rfl .nil, .le (VLe.bool (decide_eq_decide.2 ⟨fun h => ⟨g, cmpQ_le.1 h⟩, fun h => cmpQ_le.2 h.2⟩))⟩)
  · have g : ¬ u.lo ≤ s.lo := fun e => of_decide_eq_false g (cmpQ_le.2 e)
    refine OL.no rfl (by decide) ?_
    refine OL.no rfl (by decide) ?_
    refine OL.no rfl (by decide) ?_
    refine OL.no rfl (by decide) ?_
    refine OL.no rfl (by decide) ?_
    refine OL.no rfl (by decide) ?_
    refine OL.no rfl (by decide) ?_
    refine OL.no rfl (by decide) ?_
    refine OL.no rfl (by decide) ?_
    refine OL.no rfl (by decide) ?_
    refine OL.no rfl (by decide) ?_
    refine OL.no rfl (by decide) ?_
    refine pkF rfl rfl ?_
    refine asD rfl ?_
    refine OL.nil ?_
    exact AW.ret (RetQ.r ⟨_, .tmp rfl .nil, .le (VLe.bool ((decide_eq_false fun h => g h.1).symm))⟩)
theorem sample_choose {bits : List Int} {r : Rd} {b : Nat} {t : Nat} {s : Span} {ch : List Rat} (hs : SpanOK t s) (ht : t ≤ 600) (hc : Small 1024 ch) (hn : ch.length ≤ 40) (hr : RdOK bits r) : FSpecM P F.sample_reader_choose [.ptr 1000 b 0, vSpan s, .d (dQs ch)] (mem1 1000 (rdB b bits r)) (.tup [.d (dI (chK (chooseB bits s ch r))), vSpan (chS s ch (chooseB bits s ch r)), .d (dI (chE (chooseB bits s ch r)))]) (mem1 1000 (rdB b bits (chEnd bits s ch r))) := by
  refine FSpecM.intro fn.sample_reader_choose (by rfl) (by rfl) (Nat.le_of_ble_eq_true (by rfl)) fun E hE => ?_
  refine AW.seq ?_
  refine AW.region (by rw [hE]; rfl) ?_
  first | refine bxA rfl rfl fun b4 => ?_ | refine bxD rfl rfl fun b4 => ?_
  refine asD rfl ?_
  refine al z.span rfl fun b7 => ?_
  refine asD rfl ?_
  refine OL.nil ?_
  refine AW.block ?_
  refine AW.whileK (α := Rd) [(0, _), (2, _), (4, _), (7, _)] [(4, _)] (fun q => []) (fun q => [(1000, rdB b bits q), (7, .box b7 T.span [.d (dB false), .mt, .mt, .d (dB false), .mt, .mt])]) (fun q => RdOK bits q ∧ chooseB bits s ch q = chooseB bits s ch r ∧ chEnd bits s ch q = chEnd bits s ch r) (fun q => bits.length - q.used) r (.cons (by first | exact knD rfl | exact knA rfl | exact knP rfl | exact knO rfl | exact knM rfl | exact knE rfl | exact knR rfl | exact knF rfl | exact knT rfl | exact knJ) (.cons (by first | exact knD rfl | exact knA rfl | exact knP rfl | exact knO rfl | exact knM rfl | exact knE rfl | exact knR rfl | exact knF rfl | exact knT rfl | exact knJ) (.cons (by first | exact knD rfl | exact knA rfl | exact knP rfl | exact knO rfl | exact knM rfl | exact knE rfl | exact knR rfl | exact knF rfl | exact knT rfl | exact knJ) (.cons (by first | exact knD rfl | exact knA rfl | exact knP rfl | exact knO rfl | exact knM rfl | exact knE rfl | exact knR rfl | exact knF rfl | exact knT rfl | exact knJ) .nil)))) (.cons (by first | exact owB rfl | exact owR rfl) .nil) ⟨⟨hr, rfl, rfl⟩, .nil, .cons rfl (.cons rfl .nil)⟩ ?_
  rintro q ⟨hq, e1, e2⟩
  have q1 := hq.used
  have q2 := hq.bits
  have q3 := hq.lo
  have q4 := hq.len
  have b1 := hs.lo
  have b2 := hs.len
  refine AW.block ?_
  refine AW.midK (α := Unit) [(0, _), (2, _), (4, _), (7, _)] [(4, _), (1000, _)] (fun _u => []) (fun _u => [(7, .box b7 T.span [.d (dB false), .mt, .mt, .d (dB false), .mt, .mt])]) (fun _u => firstK q.read s ch = none) (.cons (by first | exact knD rfl | exact knA rfl | exact knP rfl | exact knO rfl | exact knM rfl | exact knE rfl | exact knR rfl | exact knF rfl | exact knT rfl | exact knJ) (.cons (by first | exact knD rfl | exact knA rfl | exact knP rfl | exact knO rfl | exact knM rfl | exact knE rfl | exact knR rfl | exact knF rfl | exact knT rfl | exact knJ) (.cons (by first | exact knD rfl | exact knA rfl | exact knP rfl | exact knO rfl | exact knM rfl | exact knE rfl | exact knR rfl | exact knF rfl | exact knT rfl | exact knJ) (.cons (by first | exact knD rfl | exact knA rfl | exact knP rfl | exact knO rfl | exact knM rfl | exact knE rfl | exact knR rfl | exact knF rfl | exact knT rfl | exact knJ) .nil)))) (.cons (by first | exact owB rfl | exact owR rfl) (.cons (by first | exact owB rfl | exact owR rfl) .nil)) ?_ ?_
  · refine AW.seq ?_
    refine AW.region (by rw [hE]; rfl) ?_
    first | refine mvD rfl ?_ | refine mvO rfl ?_ | refine mvM rfl ?_
    first | refine lnL sl.Rats rfl rfl ?_ | refine lnO sl.Rats rfl rfl ?_ | refine lnM sl.Rats rfl rfl ?_ | refine lnD sl.Rats rfl rfl rfl ?_
    refine mvD rfl ?_
    refine OL.nil ?_
    refine AW.block ?_
    refine AW.whileK (α := Nat) [(0, _), (2, _), (4, _), (7, _), (14, _), (15, _)] [(4, _), (1000, _)] (fun i => [(16, .d (dI i))]) (fun i => [(7, .box b7 T.span [.d (dB false), .mt, .mt, .d (dB false), .mt, .mt])]) (fun i => i ≤ ch.length ∧ ∀ j, j < i → ¬ Sure q.read s ch j) (fun i => ch.length - i) 0 (.cons (by first | exact knD rfl | exact knA rfl | exact knP rfl | exact knO rfl | exact knM rfl | exact knE rfl | exact knR rfl | exact knF rfl | exact knT rfl | exact knJ) (.cons (by first | exact knD rfl | exact knA rfl | exact knP rfl | exact knO rfl | exact knM rfl | exact knE rfl | exact knR rfl | exact knF rfl | exact knT rfl | exact knJ) (.cons (by first | exact knD rfl | exact knA rfl | exact knP rfl | exact knO rfl | exact knM rfl | exact knE rfl | exact knR rfl | exact knF rfl | exact knT rfl | exact knJ) (.cons (by first | exact knD rfl | exact knA rfl | exact knP rfl | exact knO rfl | exact knM rfl | exact knE rfl | exact knR rfl | exact knF rfl | exact knT rfl | exact knJ) (.cons (by first | exact knD rfl | exact knA rfl | exact knP rfl | exact knO rfl | exact knM rfl | exact knE rfl | exact knR rfl | exact knF rfl | exact knT rfl | exact knJ) (.cons (by first | exact knD rfl | exact knA rfl | exact knP rfl | exact knO rfl | exact knM rfl | exact knE rfl | exact knR rfl | exact knF rfl | exact knT rfl | exact knJ) .nil)))))) (.cons (by first | exact owB rfl | exact owR rfl) (.cons (by first | exact owB rfl | exact owR rfl) .nil)) ⟨⟨Nat.zero_le _, fun j hj => by omega⟩, .cons (by first | exact VLe.refl _ | exact VLe.int (by omega) | exact VLe.mt | exact vle_q0 | exact VLe.osl | exact VLe.ptr) .nil, .cons rfl .nil⟩ ?_
    rintro i ⟨h1, h2⟩
    refine AW.seq ?_
    refine AW.region (by rw [hE]; rfl) ?_
    refine c_lss rfl rfl rfl ?_
    refine OL.nil ?_
    refine AW.seq ?_
    refine AW.cond rfl (fun h17 => ?_) (fun h17 => ?_)
    · first | (simp only [decide_eq_true_eq, decide_eq_false_iff_not, Bool.not_eq_true', Bool.not_eq_false', Bool.not_not, Bool.and_eq_true, Bool.and_eq_false_iff, Bool.or_eq_true, Bool.or_eq_false_iff] at h17) | skip
      refine AW.skip ?_
      refine AW.seq ?_
      refine AW.block ?_
      refine AW.seq ?_
      refine AW.region (by rw [hE]; rfl) ?_
      refine mvD rfl ?_
      first | refine ixO sl.Rats rfl rfl (by omega) (by omega) rfl ?_ | refine ixLn sl.Rats 0 rfl rfl (by omega) rfl rfl ?_ | refine ixL sl.Rats 0 rfl rfl (by omega) (by omega) rfl rfl ?_
      first | refine ldPA ag.Rat rfl rfl (vs := [_, _, _]) rfl (Nat.le_of_ble_eq_true rfl) ?_ | refine ldRA ag.Rat rfl (vs := [_, _, _]) rfl (Nat.le_of_ble_eq_true rfl) ?_
      refine al z.Rat rfl fun b10 => ?_
      refine asD rfl ?_
      first | refine sto sz.Rat rfl rfl rfl rfl rfl (Nat.le_of_ble_eq_true rfl) (cells2 := [_, _, _]) rfl ?_ | refine stE sz.Rat rfl (VC.d _).vd rfl rfl (by omega) rfl ?_
      refine OL.nil ?_
      refine AW.seq ?_
      have hx := hc.get (B := 1024) (by decide) i
      refine AW.region (by rw [hE]; rfl) ?_
      first | refine ldPA ag.Rat rfl rfl (vs := [_, _, _]) rfl (Nat.le_of_ble_eq_true rfl) ?_ | refine ldRA ag.Rat rfl (vs := [_, _, _]) rfl (Nat.le_of_ble_eq_true rfl) ?_
      refine clv rfl (.cons (by first | exact VLe.refl _ | exact VLe.mt | exact vle_q0 | exact VLe.ptr) .nil) (rational_SignQ (by first | assumption | omega)) ?_
      refine c_gtr rfl rfl rfl ?_
      refine OL.nil ?_
      refine AW.cond rfl (fun hpos => ?_) (fun hpos => ?_)
      · have hpos : 0 < ch.getD i 0 := by have h3 := sgnQ_cases (ch.getD i 0); have h4 := of_decide_eq_true hpos; exact sgnQ_pos.1 (by omega)
        refine AW.seq ?_
        refine AW.region (by rw [hE]; rfl) ?_
        first | refine ldPA ag.span rfl rfl (vs := [_, _, _, _, _, _]) rfl (Nat.le_of_ble_eq_true rfl) ?_ | refine ldRA ag.span rfl (vs := [_, _, _, _, _, _]) rfl (Nat.le_of_ble_eq_true rfl) ?_
        first | refine mvD rfl ?_ | refine mvO rfl ?_ | refine mvM rfl ?_
        refine mvD rfl ?_
        refine clv rfl (.cons (VLe.refl _) (.cons (VLe.refl _) (.cons (VLe.refl _) .nil))) (sample_part hs ht hc hn (by omega)) ?_
        have hP := hs.part ht hc hn i (by omega)
        have p1 := hP.lo
        have p2 := hP.len
        refine al z.span rfl fun b11 => ?_
        first | refine sto sz.span rfl rfl rfl rfl rfl (Nat.le_of_ble_eq_true rfl) (cells2 := [_, _, _, _, _, _]) rfl ?_ | refine stE sz.span rfl (VC.d _).vd rfl rfl (by omega) rfl ?_
        refine OL.nil ?_
        refine AW.seq ?_
        refine AW.region_draw 1 [0, 1, 2, 3, 4, 5] order_free (by rw [hE]; rfl) (by kernel_rfl) (OI.of_OL (os := [_, _, _, _, _, _]) rfl ?_)
        first | refine mvD rfl ?_ | refine mvT rfl ?_ | refine mvP rfl ?_ | refine mvR rfl ?_ | refine mvE rfl ?_ | refine mvF rfl ?_ | refine mvA rfl ?_ | refine mvO rfl ?_ | refine mvM rfl ?_ | refine mvJ rfl ?_
        first | refine ncP rfl ?_ | refine ncR rfl ?_ | refine ncE rfl ?_
        first | refine faP fd.reader_2 rfl rfl ?_ | refine faR fd.reader_2 rfl rfl ?_ | refine faE fd.reader_2 rfl rfl ?_
        first | refine ldPA ag.span rfl rfl (vs := [_, _, _, _, _, _]) rfl (Nat.le_of_ble_eq_true rfl) ?_ | refine ldRA ag.span rfl (vs := [_, _, _, _, _, _]) rfl (Nat.le_of_ble_eq_true rfl) ?_
        first | refine ldPA ag.span rfl rfl (vs := [_, _, _, _, _, _]) rfl (Nat.le_of_ble_eq_true rfl) ?_ | refine ldRA ag.span rfl (vs := [_, _, _, _, _, _]) rfl (Nat.le_of_ble_eq_true rfl) ?_
        refine clv rfl (.cons (VLe.refl _) (.cons (VLe.refl _) .nil)) (sample_inside (s := q.read) (by omega) (by omega) (by omega) (by omega)) ?_
        refine OL.nil ?_
        refine AW.cond rfl (fun hin => ?_) (fun hin => ?_)
        · have hin := of_decide_eq_true hin
          have hfk := firstK_some (by omega) ⟨hpos, hin⟩ h2
          have e3 : chooseB bits s ch r = some (i, q) := by rw [← e1, chooseB, hfk]
          have e4 : chEnd bits s ch r = q := by rw [← e2, chEnd, hfk]
          rw [e3, e4]
          refine AW.seq ?_
          refine AW.region_draw 1 [0, 1, 2, 3, 4] order_free (by rw [hE]; rfl) (by kernel_rfl) (OI.of_OL (os := [_, _, _, _, _]) rfl ?_)
          refine mvD rfl ?_
          first | refine ldPA ag.span rfl rfl (vs := [_, _, _, _, _, _]) rfl (Nat.le_of_ble_eq_true rfl) ?_ | refine ldRA ag.span rfl (vs := [_, _, _, _, _, _]) rfl (Nat.le_of_ble_eq_true rfl) ?_
          refine asD rfl ?_
          first | refine sto sz.span rfl rfl rfl rfl rfl (Nat.le_of_ble_eq_true rfl) (cells2 := [_, _, _, _, _, _]) rfl ?_ | refine stE sz.span rfl (VC.d _).vd rfl rfl (by omega) rfl ?_
          refine asD rfl ?_
          refine OL.nil ?_
          exact AW.ret ⟨⟨_, .tmp rfl (.cellA rfl rfl ag.span (Nat.le_of_ble_eq_true rfl) (.tmp rfl .nil)), _, .cons (.le (by first | exact VLe.refl _ | exact VLe.mt | exact vle_q0 | exact VLe.int (by omega) | exact VLe.bool (by simp_all))) (.cons (.ag (.cons (.le (by first | exact VLe.refl _ | exact VLe.mt | exact vle_q0 | exact VLe.int (by omega) | exact VLe.bool (by simp_all))) (.cons (.le (by first | exact VLe.refl _ | exact VLe.mt | exact vle_q0 | exact VLe.int (by omega) | exact VLe.bool (by simp_all))) (.cons (.le (by first | exact VLe.refl _ | exact VLe.mt | exact vle_q0 | exact VLe.int (by omega) | exact VLe.bool (by simp_all))) (.cons (.le (by first | exact VLe.refl _ | exact VLe.mt | exact vle_q0 | exact VLe.int (by omega) | exact VLe.bool (by simp_all))) (.cons (.le (by first | exact VLe.refl _ | exact VLe.mt | exact vle_q0 | exact VLe.int (by omega) | exact VLe.bool (by simp_all))) (.cons (.le (by first | exact VLe.refl _ | exact VLe.mt | exact vle_q0 | exact VLe.int (by omega) | exact VLe.bool (by simp_all))) .nil))))))) (.cons (.le (by first | exact VLe.refl _ | exact VLe.mt | exact vle_q0 | exact VLe.int (by omega) | exact VLe.bool (by simp_all))) .nil)), rfl⟩, mem1_keep rfl⟩
        · have hin := of_decide_eq_false hin
          refine AW.skip ?_
          refine AW.region (by rw [hE]; rfl) ?_
          refine add_i64 rfl rfl (by omega) ?_
          refine mvD rfl ?_
          refine OL.nil ?_
          exact AW.again (x := i) (i + 1) (by first | omega | (simp only []; omega)) ⟨⟨by omega, fun j hj => by rcases Nat.lt_or_ge j i with h | h; exact h2 j h; obtain rfl : j = i := (by omega); exact fun hS => hin hS.2⟩, Knows.app (.cons (VLe.refl _) (.cons (VLe.refl _) (.cons (VLe.refl _) (.cons (VLe.refl _) (.cons (VLe.refl _) (.cons (VLe.refl _) .nil)))))) (.cons (by first | exact VLe.refl _ | exact VLe.int (by omega) | exact VLe.mt | exact vle_q0 | exact VLe.osl | exact VLe.ptr) .nil), Owns.app (.cons rfl (.cons rfl .nil)) (.cons rfl .nil)⟩
      · have hpos : ¬ 0 < ch.getD i 0 := fun e => by have h4 := of_decide_eq_false hpos; rw [sgnQ_pos.2 e] at h4; exact h4 (by decide)
        refine AW.skip ?_
        refine AW.region (by rw [hE]; rfl) ?_
        refine add_i64 rfl rfl (by omega) ?_
        refine mvD rfl ?_
        refine OL.nil ?_
        exact AW.again (x := i) (i + 1) (by first | omega | (simp only []; omega)) ⟨⟨by omega, fun j hj => by rcases Nat.lt_or_ge j i with h | h; exact h2 j h; obtain rfl : j = i := (by omega); exact fun hS => hpos hS.1⟩, Knows.app (.cons (VLe.refl _) (.cons (VLe.refl _) (.cons (VLe.refl _) (.cons (VLe.refl _) (.cons (VLe.refl _) (.cons (VLe.refl _) .nil)))))) (.cons (by first | exact VLe.refl _ | exact VLe.int (by omega) | exact VLe.mt | exact vle_q0 | exact VLe.osl | exact VLe.ptr) .nil), Owns.app (.cons rfl (.cons rfl .nil)) (.cons rfl .nil)⟩
    · first | (simp only [decide_eq_true_eq, decide_eq_false_iff_not, Bool.not_eq_true', Bool.not_eq_false', Bool.not_not, Bool.and_eq_true, Bool.and_eq_false_iff, Bool.or_eq_true, Bool.or_eq_false_iff] at h17) | skip
      refine AW.exit ?_
      exact AW.reach () ⟨firstK_none fun j hj => h2 j (by omega), Knows.app (.cons (VLe.refl _) (.cons (VLe.refl _) (.cons (VLe.refl _) (.cons (VLe.refl _) .nil)))) (.nil), Owns.app (.cons rfl (.cons rfl .nil)) (.cons rfl .nil)⟩
  rintro ⟨⟩ hno
  refine AW.seq ?_
  refine AW.seq ?_
  
  refine AW.region_draw 1 [0, 1, 2, 3, 4, 5, 6, 7, 8, 9] order_free (by rw [hE]; rfl) (by kernel_rfl) (OI.of_OL (os := [_, _, _, _, _, _, _, _, _, _]) rfl ?_)
  first | refine mvD rfl ?_ | refine mvT rfl ?_ | refine mvP rfl ?_ | refine mvR rfl ?_ | refine mvE rfl ?_ | refine mvF rfl ?_ | refine mvA rfl ?_ | refine mvO rfl ?_ | refine mvM rfl ?_ | refine mvJ rfl ?_
  first | refine ncP rfl ?_ | refine ncR rfl ?_ | refine ncE rfl ?_
  first | refine faP fd.reader_1 rfl rfl ?_ | refine faR fd.reader_1 rfl rfl ?_ | refine faE fd.reader_1 rfl rfl ?_
  first | refine ldRC ce.int rfl ?_ | refine ldPC ce.int rfl rfl rfl ?_
  first | refine mvD rfl ?_ | refine mvT rfl ?_ | refine mvP rfl ?_ | refine mvR rfl ?_ | refine mvE rfl ?_ | refine mvF rfl ?_ | refine mvA rfl ?_ | refine mvO rfl ?_ | refine mvM rfl ?_ | refine mvJ rfl ?_
  first | refine ncP rfl ?_ | refine ncR rfl ?_ | refine ncE rfl ?_
  first | refine faP fd.reader_0 rfl rfl ?_ | refine faR fd.reader_0 rfl rfl ?_ | refine faE fd.reader_0 rfl rfl ?_
  first | refine ldRC ce.ints rfl ?_ | refine ldPC ce.ints rfl rfl rfl ?_
  first | refine lnL sl.ints rfl rfl ?_ | refine lnO sl.ints rfl rfl ?_ | refine lnM sl.ints rfl rfl ?_ | refine lnD sl.ints rfl rfl rfl ?_
  refine c_eql rfl rfl rfl ?_
  refine OL.nil ?_
  refine AW.cond rfl (fun hend => ?_) (fun hend => ?_)
  · have hend := of_decide_eq_true hend
    have e3 : chooseB bits s ch r = none := by rw [← e1, chooseB, hno]; simp only; rw [if_neg (by omega)]
    have e4 : chEnd bits s ch r = q := by rw [← e2, chEnd, hno]; simp only; rw [if_neg (by omega)]
    rw [e3, e4]
    refine AW.seq ?_
    refine AW.region (by rw [hE]; rfl) ?_
    refine bd z.span pl.span (cs := [_, _, _, _, _, _]) rfl ?_
    refine asD rfl ?_
    first | refine sto sz.span rfl rfl rfl rfl rfl (Nat.le_of_ble_eq_true rfl) (cells2 := [_, _, _, _, _, _]) rfl ?_ | refine stE sz.span rfl (VC.d _).vd rfl rfl (by omega) rfl ?_
    refine asD rfl ?_
    refine OL.nil ?_
    exact AW.ret ⟨⟨_, .tmp rfl (.cellA rfl rfl ag.span (Nat.le_of_ble_eq_true rfl) (.tmp rfl .nil)), _, .cons (.le (by first | exact VLe.refl _ | exact VLe.mt | exact vle_q0 | exact VLe.int (by omega) | exact VLe.bool (by simp_all))) (.cons (.ag (.cons (.le (by show VLe _ (.d (dB (ofQ 0).neg)); rw [ofQ_zero]; exact VLe.refl _)) (.cons (.le (by show VLe _ (.d (u32s (ofQ 0).num)); rw [ofQ_zero]; exact VLe.mt)) (.cons (.le (by show VLe _ (.d (u32s (ofQ 0).den)); rw [ofQ_zero]; exact VLe.mt)) (.cons (.le (by show VLe _ (.d (dB (ofQ 0).neg)); rw [ofQ_zero]; exact VLe.refl _)) (.cons (.le (by show VLe _ (.d (u32s (ofQ 0).num)); rw [ofQ_zero]; exact VLe.mt)) (.cons (.le (by show VLe _ (.d (u32s (ofQ 0).den)); rw [ofQ_zero]; exact VLe.mt)) .nil))))))) (.cons (.le (by first | exact VLe.refl _ | exact VLe.mt | exact vle_q0 | exact VLe.int (by omega) | exact VLe.bool (by simp_all))) .nil)), rfl⟩, mem1_keep rfl⟩
  · have hend := of_decide_eq_false hend
    have hlt : q.used < bits.length := by omega
    have hst := hq.step hlt
    have u1 := hst.used
    have u3 := hst.lo
    have hh := half_sz
    have hM := rational_half
    have u4 := sz_mul q.read.len (1 / 2)
    generalize hgh : (1 / 2 : Rat) = half at *
    refine AW.skip ?_
    refine AW.seq ?_
    refine AW.region (by rw [hE]; rfl) ?_
    refine clv rfl (.cons (VLe.refl _) (.cons (VLe.refl _) .nil)) hM ?_
    first | refine mvD rfl ?_ | refine mvT rfl ?_ | refine mvP rfl ?_ | refine mvR rfl ?_ | refine mvE rfl ?_ | refine mvF rfl ?_ | refine mvA rfl ?_ | refine mvO rfl ?_ | refine mvM rfl ?_ | refine mvJ rfl ?_
    refine ex rfl rfl ?_
    refine ex rfl rfl ?_
    refine al z.Rat rfl fun b12 => ?_
    first | refine sto sz.Rat rfl rfl rfl rfl rfl (Nat.le_of_ble_eq_true rfl) (cells2 := [_, _, _]) rfl ?_ | refine stE sz.Rat rfl (VC.d _).vd rfl rfl (by omega) rfl ?_
    refine asD rfl ?_
    refine OL.nil ?_
    refine AW.seq ?_
    refine AW.region_draw 1 [0, 1, 2, 3, 4, 5, 6, 7, 8, 9, 10, 11] order_free (by rw [hE]; rfl) (by kernel_rfl) (OI.of_OL (os := [_, _, _, _, _, _, _, _, _, _, _, _]) rfl ?_)
    first | refine mvD rfl ?_ | refine mvT rfl ?_ | refine mvP rfl ?_ | refine mvR rfl ?_ | refine mvE rfl ?_ | refine mvF rfl ?_ | refine mvA rfl ?_ | refine mvO rfl ?_ | refine mvM rfl ?_ | refine mvJ rfl ?_
    first | refine mvD rfl ?_ | refine mvT rfl ?_ | refine mvP rfl ?_ | refine mvR rfl ?_ | refine mvE rfl ?_ | refine mvF rfl ?_ | refine mvA rfl ?_ | refine mvO rfl ?_ | refine mvM rfl ?_ | refine mvJ rfl ?_
    first | refine ncP rfl ?_ | refine ncR rfl ?_ | refine ncE rfl ?_
    first | refine faP fd.reader_2 rfl rfl ?_ | refine faR fd.reader_2 rfl rfl ?_ | refine faE fd.reader_2 rfl rfl ?_
    first | refine faP fd.span_1 rfl rfl ?_ | refine faR fd.span_1 rfl rfl ?_ | refine faE fd.span_1 rfl rfl ?_
    first | refine ldPA ag.Rat rfl rfl (vs := [_, _, _]) rfl (Nat.le_of_ble_eq_true rfl) ?_ | refine ldRA ag.Rat rfl (vs := [_, _, _]) rfl (Nat.le_of_ble_eq_true rfl) ?_
    first | refine ldPA ag.Rat rfl rfl (vs := [_, _, _]) rfl (Nat.le_of_ble_eq_true rfl) ?_ | refine ldRA ag.Rat rfl (vs := [_, _, _]) rfl (Nat.le_of_ble_eq_true rfl) ?_
    refine clv rfl (.cons (by first | exact VLe.refl _ | exact VLe.mt | exact vle_q0 | exact VLe.ptr) (.cons (by first | exact VLe.refl _ | exact VLe.mt | exact vle_q0 | exact VLe.ptr) .nil)) (rational_MulQ (by first | assumption | omega) (by first | assumption | omega)) ?_
    first | refine ncP rfl ?_ | refine ncR rfl ?_ | refine ncE rfl ?_
    first | refine faP fd.reader_2 rfl rfl ?_ | refine faR fd.reader_2 rfl rfl ?_ | refine faE fd.reader_2 rfl rfl ?_
    first | refine faP fd.span_1 rfl rfl ?_ | refine faR fd.span_1 rfl rfl ?_ | refine faE fd.span_1 rfl rfl ?_
    first | refine sto sz.Rat rfl rfl rfl rfl rfl (Nat.le_of_ble_eq_true rfl) rfl ?_ | refine stE sz.Rat rfl (VC.d _).vd rfl rfl (by omega) rfl ?_
    refine OL.nil ?_
    refine AW.midK (α := Unit) [(0, _), (2, _), (4, _), (7, _)] [(4, _), (7, _)] (fun _u => []) (fun _u => [(1000, .box b T.reader [.d (ints bits), .d (dI q.used), .d (dB (ofQ (q.step bits).read.lo).neg), .d (u32s (ofQ (q.step bits).read.lo).num), .d (u32s (ofQ (q.step bits).read.lo).den), .d (dB (ofQ (q.step bits).read.len).neg), .d (u32s (ofQ (q.step bits).read.len).num), .d (u32s (ofQ (q.step bits).read.len).den)])]) (fun _u => True) (.cons (by first | exact knD rfl | exact knA rfl | exact knP rfl | exact knO rfl | exact knM rfl | exact knE rfl | exact knR rfl | exact knF rfl | exact knT rfl | exact knJ) (.cons (by first | exact knD rfl | exact knA rfl | exact knP rfl | exact knO rfl | exact knM rfl | exact knE rfl | exact knR rfl | exact knF rfl | exact knT rfl | exact knJ) (.cons (by first | exact knD rfl | exact knA rfl | exact knP rfl | exact knO rfl | exact knM rfl | exact knE rfl | exact knR rfl | exact knF rfl | exact knT rfl | exact knJ) (.cons (by first | exact knD rfl | exact knA rfl | exact knP rfl | exact knO rfl | exact knM rfl | exact knE rfl | exact knR rfl | exact knF rfl | exact knT rfl | exact knJ) .nil)))) (.cons (by first | exact owB rfl | exact owR rfl) (.cons (by first | exact owB rfl | exact owR rfl) .nil)) ?_ ?_
    · refine AW.seq ?_
      refine AW.region_draw 1 [0, 1, 2, 3, 4, 5, 6, 7, 8, 9, 10] order_free (by rw [hE]; rfl) (by kernel_rfl) (OI.of_OL (os := [_, _, _, _, _, _, _, _, _, _, _]) rfl ?_)
      first | refine mvD rfl ?_ | refine mvT rfl ?_ | refine mvP rfl ?_ | refine mvR rfl ?_ | refine mvE rfl ?_ | refine mvF rfl ?_ | refine mvA rfl ?_ | refine mvO rfl ?_ | refine mvM rfl ?_ | refine mvJ rfl ?_
      first | refine ncP rfl ?_ | refine ncR rfl ?_ | refine ncE rfl ?_
      first | refine faP fd.reader_0 rfl rfl ?_ | refine faR fd.reader_0 rfl rfl ?_ | refine faE fd.reader_0 rfl rfl ?_
      first | refine ldRC ce.ints rfl ?_ | refine ldPC ce.ints rfl rfl rfl ?_
      first | refine mvD rfl ?_ | refine mvT rfl ?_ | refine mvP rfl ?_ | refine mvR rfl ?_ | refine mvE rfl ?_ | refine mvF rfl ?_ | refine mvA rfl ?_ | refine mvO rfl ?_ | refine mvM rfl ?_ | refine mvJ rfl ?_
      first | refine ncP rfl ?_ | refine ncR rfl ?_ | refine ncE rfl ?_
      first | refine faP fd.reader_1 rfl rfl ?_ | refine faR fd.reader_1 rfl rfl ?_ | refine faE fd.reader_1 rfl rfl ?_
      first | refine ldRC ce.int rfl ?_ | refine ldPC ce.int rfl rfl rfl ?_
      refine ixLn sl.ints 0 rfl rfl (by omega) rfl rfl ?_
      first | refine ldRC ce.int rfl ?_ | refine ldPC ce.int rfl rfl rfl ?_
      refine c_eql rfl rfl rfl ?_
      refine OL.nil ?_
      refine AW.cond rfl (fun h73 => ?_) (fun h73 => ?_)
      · first | (simp only [decide_eq_true_eq, decide_eq_false_iff_not, Bool.not_eq_true', Bool.not_eq_false', Bool.not_not, Bool.and_eq_true, Bool.and_eq_false_iff, Bool.or_eq_true, Bool.or_eq_false_iff] at h73) | skip
        refine AW.region_draw 1 [0, 1, 2, 3, 4, 5, 6, 7, 8, 9, 10, 11, 12, 13, 14, 15] order_free (by rw [hE]; rfl) (by kernel_rfl) (OI.of_OL (os := [_, _, _, _, _, _, _, _, _, _, _, _, _, _, _, _]) rfl ?_)
        first | refine mvD rfl ?_ | refine mvT rfl ?_ | refine mvP rfl ?_ | refine mvR rfl ?_ | refine mvE rfl ?_ | refine mvF rfl ?_ | refine mvA rfl ?_ | refine mvO rfl ?_ | refine mvM rfl ?_ | refine mvJ rfl ?_
        first | refine mvD rfl ?_ | refine mvT rfl ?_ | refine mvP rfl ?_ | refine mvR rfl ?_ | refine mvE rfl ?_ | refine mvF rfl ?_ | refine mvA rfl ?_ | refine mvO rfl ?_ | refine mvM rfl ?_ | refine mvJ rfl ?_
        first | refine ncP rfl ?_ | refine ncR rfl ?_ | refine ncE rfl ?_
        first | refine faP fd.reader_2 rfl rfl ?_ | refine faR fd.reader_2 rfl rfl ?_ | refine faE fd.reader_2 rfl rfl ?_
        first | refine faP fd.span_0 rfl rfl ?_ | refine faR fd.span_0 rfl rfl ?_ | refine faE fd.span_0 rfl rfl ?_
        first | refine ldPA ag.Rat rfl rfl (vs := [_, _, _]) rfl (Nat.le_of_ble_eq_true rfl) ?_ | refine ldRA ag.Rat rfl (vs := [_, _, _]) rfl (Nat.le_of_ble_eq_true rfl) ?_
        first | refine mvD rfl ?_ | refine mvT rfl ?_ | refine mvP rfl ?_ | refine mvR rfl ?_ | refine mvE rfl ?_ | refine mvF rfl ?_ | refine mvA rfl ?_ | refine mvO rfl ?_ | refine mvM rfl ?_ | refine mvJ rfl ?_
        first | refine ncP rfl ?_ | refine ncR rfl ?_ | refine ncE rfl ?_
        first | refine faP fd.reader_2 rfl rfl ?_ | refine faR fd.reader_2 rfl rfl ?_ | refine faE fd.reader_2 rfl rfl ?_
        first | refine faP fd.span_1 rfl rfl ?_ | refine faR fd.span_1 rfl rfl ?_ | refine faE fd.span_1 rfl rfl ?_
        first | refine ldPA ag.Rat rfl rfl (vs := [_, _, _]) rfl (Nat.le_of_ble_eq_true rfl) ?_ | refine ldRA ag.Rat rfl (vs := [_, _, _]) rfl (Nat.le_of_ble_eq_true rfl) ?_
        refine clv rfl (.cons (by first | exact VLe.refl _ | exact VLe.mt | exact vle_q0 | exact VLe.ptr) (.cons (by first | exact VLe.refl _ | exact VLe.mt | exact vle_q0 | exact VLe.ptr) .nil)) (rational_AddQ (by first | assumption | omega) (by first | assumption | omega)) ?_
        first | refine ncP rfl ?_ | refine ncR rfl ?_ | refine ncE rfl ?_
        first | refine faP fd.reader_2 rfl rfl ?_ | refine faR fd.reader_2 rfl rfl ?_ | refine faE fd.reader_2 rfl rfl ?_
        first | refine faP fd.span_0 rfl rfl ?_ | refine faR fd.span_0 rfl rfl ?_ | refine faE fd.span_0 rfl rfl ?_
        first | refine sto sz.Rat rfl rfl rfl rfl rfl (Nat.le_of_ble_eq_true rfl) rfl ?_ | refine stE sz.Rat rfl (VC.d _).vd rfl rfl (by omega) rfl ?_
        refine OL.nil ?_
        exact AW.reach () ⟨trivial, Knows.app (.cons (VLe.refl _) (.cons (VLe.refl _) (.cons (VLe.refl _) (.cons (VLe.refl _) .nil)))) (.nil), Owns.app (.cons rfl (.cons rfl .nil)) (.cons (by unfold Rd.step; rw [if_pos (by omega), hgh]; rfl) .nil)⟩
      · first | (simp only [decide_eq_true_eq, decide_eq_false_iff_not, Bool.not_eq_true', Bool.not_eq_false', Bool.not_not, Bool.and_eq_true, Bool.and_eq_false_iff, Bool.or_eq_true, Bool.or_eq_false_iff] at h73) | skip
        refine AW.skip ?_
        exact AW.reach () ⟨trivial, Knows.app (.cons (VLe.refl _) (.cons (VLe.refl _) (.cons (VLe.refl _) (.cons (VLe.refl _) .nil)))) (.nil), Owns.app (.cons rfl (.cons rfl .nil)) (.cons (by unfold Rd.step; rw [if_neg (by omega), hgh]; rfl) .nil)⟩
    rintro ⟨⟩ hφ
    refine AW.region (by rw [hE]; rfl) ?_
    first | refine mvD rfl ?_ | refine mvT rfl ?_ | refine mvP rfl ?_ | refine mvR rfl ?_ | refine mvE rfl ?_ | refine mvF rfl ?_ | refine mvA rfl ?_ | refine mvO rfl ?_ | refine mvM rfl ?_ | refine mvJ rfl ?_
    first | refine ncP rfl ?_ | refine ncR rfl ?_ | refine ncE rfl ?_
    first | refine faP fd.reader_1 rfl rfl ?_ | refine faR fd.reader_1 rfl rfl ?_ | refine faE fd.reader_1 rfl rfl ?_
    first | refine ldRC ce.int rfl ?_ | refine ldPC ce.int rfl rfl rfl ?_
    refine add_i64 rfl rfl (by omega) ?_
    first | refine ncP rfl ?_ | refine ncR rfl ?_ | refine ncE rfl ?_
    first | refine faP fd.reader_1 rfl rfl ?_ | refine faR fd.reader_1 rfl rfl ?_ | refine faE fd.reader_1 rfl rfl ?_
    first | refine sto sz.int rfl rfl rfl rfl rfl (Nat.le_of_ble_eq_true rfl) rfl ?_ | refine stE sz.int rfl (VC.d _).vd rfl rfl (by omega) rfl ?_
    refine OL.nil ?_
    exact AW.again (x := q) (q.step bits) (by simp only [Rd.step]; omega) ⟨⟨hq.step hlt, (chooseB_step hno hlt).trans e1, (chEnd_step hno hlt).trans e2⟩, Knows.app (.cons (VLe.refl _) (.cons (VLe.refl _) (.cons (VLe.refl _) (.cons (VLe.refl _) .nil)))) (.nil), Owns.app (.cons rfl .nil) (.cons rfl (.cons rfl .nil))⟩
end Go.Proofs.YtcebciggodhmcaaGreat

/-
  Walks of the specification of drawings, for any model (printed by mk2.py).
-/
import Derived.Test.YtjghehkgmanmbaaGreatKSaB
set_option linter.unusedVariables false
set_option linter.unusedSimpArgs false
namespace Go.Proofs.YtjghehkgmanmbaaGreat
open Go Go.AL
abbrev rfB (b : Nat) (bits : List Int) (r : Rd) : Blk := .box b T.ref40_reader [.d (ints bits), .d (dI r.used), .d (dB (ofQ r.read.lo).neg), .d (u32s (ofQ r.read.lo).num), .d (u32s (ofQ r.read.lo).den), .d (dB (ofQ r.read.len).neg), .d (u32s (ofQ r.read.len).num), .d (u32s (ofQ r.read.len).den)]
abbrev vIvS (s : Span) : V := vIv s.lo (s.lo + s.len)
theorem addsub (a b : Rat) : a + b - a = b := by grind
def chI : Option (Nat × Rd) → Int
 | some (k, _) => k
 | none => -1
theorem ref_Mul {x y : Raw} (hx : x.Ok) (hy : y.Ok) : FSpec P F.ref01_Mul [vRaw x, vRaw y] (vQ (x.q * y.q)) := by
 have a1 := q_sz hx hx.ln hx.ld (by decide)
 have a2 := q_sz hy hy.ln hy.ld (by decide)
 have sn1 := sz_num x.q
 have sn2 := sz_num y.q
 have sd1 := sz_den x.q
 have sd2 := sz_den y.q
 have sdd := len_mul x.q.den y.q.den
 have dd0 := Nat.mul_ne_zero x.q.den_nz y.q.den_nz
 have snn := len_mul x.q.num.natAbs y.q.num.natAbs
 have hp := fr_mul (s := decide (x.q.num < 0)) (t := decide (y.q.num < 0)) (a := x.q.num.natAbs) (b := y.q.num.natAbs) (d1 := x.q.den) (d2 := y.q.den)
 rw [fr_ofQ, fr_ofQ] at hp
 refine FSpec.intro fn.ref01_Mul (by rfl) (by rfl) (nb9 (by rfl)) fun E hE => ?_
 refine AW.sg hE rfl ?_
 first | refine bxA rfl rfl fun b2 => ?_ | refine bxD rfl rfl fun b2 => ?_
 first | refine bxA rfl rfl fun b3 => ?_ | refine bxD rfl rfl fun b3 => ?_
 refine al z.Rat rfl fun b4 => ?_
 refine OL.nil ?_
 refine AW.seq ?_
 refine AW.dg 1 [0,1,2,3,4,5] order_free hE rfl (by kernel_rfl) (OI.of_OL (os := [_,_,_,_,_,_]) rfl ?_)
 first | refine ldPA ag.Rat rfl rfl (vs := [_,_,_]) rfl (nb9 rfl) ?_ | refine ldRA ag.Rat rfl (vs := [_,_,_]) rfl (nb9 rfl) ?_
 refine clv rfl (.cons (by first | exact VLe.refl _ | exact VLe.mt | exact vle_q0 | exact VLe.ptr) .nil) (ref_Take (by assumption)) ?_
 first | refine ldPA ag.Rat rfl rfl (vs := [_,_,_]) rfl (nb9 rfl) ?_ | refine ldRA ag.Rat rfl (vs := [_,_,_]) rfl (nb9 rfl) ?_
 refine clv rfl (.cons (by first | exact VLe.refl _ | exact VLe.mt | exact vle_q0 | exact VLe.ptr) .nil) (ref_Take (by assumption)) ?_
 first | refine sto sz.Rat rfl rfl rfl rfl rfl (nb9 rfl) (cells2 := [_,_,_]) rfl ?_ | refine stE sz.Rat rfl (VC.d _).vd rfl rfl (by omega) rfl ?_
 first | refine sto sz.Rat rfl rfl rfl rfl rfl (nb9 rfl) (cells2 := [_,_,_]) rfl ?_ | refine stE sz.Rat rfl (VC.d _).vd rfl rfl (by omega) rfl ?_
 refine OL.nil ?_
 refine AW.seq ?_
 refine AW.dg 1 [0,1,2,3,4,5,6,7,8,9,10,11,12,13,14,15,16] order_free hE rfl (by kernel_rfl) (OI.of_OL (os := [_,_,_,_,_,_,_,_,_,_,_,_,_,_,_,_,_]) rfl ?_)
 first | refine faP fd.Rat_0 rfl rfl ?_ | refine faR fd.Rat_0 rfl rfl ?_ | refine faE fd.Rat_0 rfl rfl ?_
 first | refine ldRC ce.bool rfl ?_ | refine ldPC ce.bool rfl rfl rfl ?_
 first | refine faP fd.Rat_0 rfl rfl ?_ | refine faR fd.Rat_0 rfl rfl ?_ | refine faE fd.Rat_0 rfl rfl ?_
 first | refine ldRC ce.bool rfl ?_ | refine ldPC ce.bool rfl rfl rfl ?_
 refine neb bt.bool rfl rfl ?_
 first | refine faP fd.Rat_1 rfl rfl ?_ | refine faR fd.Rat_1 rfl rfl ?_ | refine faE fd.Rat_1 rfl rfl ?_
 first | refine ldRC ce.u32s rfl ?_ | refine ldPC ce.u32s rfl rfl rfl ?_
 first | refine faP fd.Rat_1 rfl rfl ?_ | refine faR fd.Rat_1 rfl rfl ?_ | refine faE fd.Rat_1 rfl rfl ?_
 first | refine ldRC ce.u32s rfl ?_ | refine ldPC ce.u32s rfl rfl rfl ?_
 refine clv rfl (.cons (VLe.refl _) (.cons (VLe.refl _) .nil)) (ref_timesN (a := x.q.num.natAbs) (b := y.q.num.natAbs) (by omega) (by omega)) ?_
 first | refine ldPA ag.Rat rfl rfl (vs := [_,_,_]) rfl (nb9 rfl) ?_ | refine ldRA ag.Rat rfl (vs := [_,_,_]) rfl (nb9 rfl) ?_
 refine clv rfl (.cons (by first | exact VLe.refl _ | exact VLe.mt | exact vle_q0 | exact VLe.ptr) .nil) (ref_den) ?_
 first | refine ldPA ag.Rat rfl rfl (vs := [_,_,_]) rfl (nb9 rfl) ?_ | refine ldRA ag.Rat rfl (vs := [_,_,_]) rfl (nb9 rfl) ?_
 refine clv rfl (.cons (by first | exact VLe.refl _ | exact VLe.mt | exact vle_q0 | exact VLe.ptr) .nil) (ref_den) ?_
 refine clv rfl (.cons (VLe.refl _) (.cons (VLe.refl _) .nil)) (ref_timesN (a := x.q.den) (b := y.q.den) (by omega) (by omega)) ?_
 refine clv rfl (.cons (VLe.refl _) (.cons (VLe.refl _) (.cons (VLe.refl _) .nil))) (ref_over (s := (decide (x.q.num < 0) != decide (y.q.num < 0))) (by omega) (by omega) dd0) ?_
 rw [← hp]
 first | refine sto sz.Rat rfl rfl rfl rfl rfl (nb9 rfl) (cells2 := [_,_,_]) rfl ?_ | refine stE sz.Rat rfl (VC.d _).vd rfl rfl (by omega) rfl ?_
 refine OL.nil ?_
 exact AW.ret (RetQ.r ⟨_, .cellA rfl rfl ag.Rat (nb9 rfl) .nil, .ag (.cons (.le (by first | exact VLe.refl _ | exact VLe.mt | exact vle_q0 | exact VLe.int (by omega) | exact VLe.bool (by simp_all))) (.cons (.le (by first | exact VLe.refl _ | exact VLe.mt | exact vle_q0 | exact VLe.int (by omega) | exact VLe.bool (by simp_all))) (.cons (.le (by first | exact VLe.refl _ | exact VLe.mt | exact vle_q0 | exact VLe.int (by omega) | exact VLe.bool (by simp_all))) .nil)))⟩)
theorem ref_MulQ {x y : Rat} (hx : sz x ≤ 68719476736) (hy : sz y ≤ 68719476736) : FSpec P F.ref01_Mul [vQ x, vQ y] (vQ (x * y)) := by
 have h := ref_Mul (x := ofQ x) (y := ofQ y) (ofQ_ok (by omega)) (ofQ_ok (by omega))
 rw [q_ofQ, q_ofQ] at h; exact h
theorem ref40_unit  : FSpec P F.ref40_unit [] (vIvS .one) := by
 refine FSpec.intro fn.ref40_unit (by rfl) (by rfl) (nb9 (by rfl)) fun E hE => ?_
 refine AW.sg hE rfl ?_
 refine al z.Interval rfl fun b0 => ?_
 refine OL.nil ?_
 refine AW.sg hE rfl ?_
 refine bd z.Rat pl.Rat (cs := [_,_,_]) rfl ?_
 refine clv rfl (.cons (VLe.refl _) (.nil)) (ref33_Whole1) ?_
 refine bd z.Interval pl.Interval (cs := [_,_,_,_,_,_]) rfl ?_
 first | refine sto sz.Interval rfl rfl rfl rfl rfl (nb9 rfl) (cells2 := [_,_,_,_,_,_]) rfl ?_ | refine stE sz.Interval rfl (VC.d _).vd rfl rfl (by omega) rfl ?_
 refine OL.nil ?_
 exact AW.ret (RetQ.r ⟨_, .cellA rfl rfl ag.Interval (nb9 rfl) .nil, .ag (.cons (.le (by show VLe _ (.d (dB (ofQ 0).neg)); rw [ofQ_zero]; exact VLe.refl _)) (.cons (.le (by show VLe _ (.d (u32s (ofQ 0).num)); rw [ofQ_zero]; exact VLe.mt)) (.cons (.le (by show VLe _ (.d (u32s (ofQ 0).den)); rw [ofQ_zero]; exact VLe.mt)) (.cons (.le (by show VLe _ (.d (dB (ofQ (Span.one.lo + Span.one.len)).neg)); rw [show (Span.one.lo + Span.one.len) = 1 by decide +kernel]; exact VLe.refl _)) (.cons (.le (by show VLe _ (.d (u32s (ofQ (Span.one.lo + Span.one.len)).num)); rw [show (Span.one.lo + Span.one.len) = 1 by decide +kernel]; exact VLe.refl _)) (.cons (.le (by show VLe _ (.d (u32s (ofQ (Span.one.lo + Span.one.len)).den)); rw [show (Span.one.lo + Span.one.len) = 1 by decide +kernel]; exact VLe.refl _)) .nil))))))⟩)
theorem ref40_half  : FSpec P F.ref40_half [] (vQ (1 / 2)) := by
 refine FSpec.intro fn.ref40_half (by rfl) (by rfl) (nb9 (by rfl)) fun E hE => ?_
 refine AW.sg hE rfl ?_
 refine al z.Rat rfl fun b0 => ?_
 refine OL.nil ?_
 refine AW.sg hE rfl ?_
 refine clv rfl (.cons (VLe.refl _) (.cons (VLe.refl _) (.nil))) (ref_half) ?_
 first | refine mvD rfl ?_ | refine mvT rfl ?_ | refine mvP rfl ?_ | refine mvR rfl ?_ | refine mvE rfl ?_ | refine mvF rfl ?_ | refine mvA rfl ?_ | refine mvO rfl ?_ | refine mvM rfl ?_ | refine mvJ rfl ?_
 refine ex rfl rfl ?_
 refine ex rfl rfl ?_
 refine al z.Rat rfl fun b1 => ?_
 first | refine sto sz.Rat rfl rfl rfl rfl rfl (nb9 rfl) (cells2 := [_,_,_]) rfl ?_ | refine stE sz.Rat rfl (VC.d _).vd rfl rfl (by omega) rfl ?_
 refine asD rfl ?_
 refine OL.nil ?_
 refine AW.sg hE rfl ?_
 first | refine ldPA ag.Rat rfl rfl (vs := [_,_,_]) rfl (nb9 rfl) ?_ | refine ldRA ag.Rat rfl (vs := [_,_,_]) rfl (nb9 rfl) ?_
 first | refine sto sz.Rat rfl rfl rfl rfl rfl (nb9 rfl) (cells2 := [_,_,_]) rfl ?_ | refine stE sz.Rat rfl (VC.d _).vd rfl rfl (by omega) rfl ?_
 refine OL.nil ?_
 exact AW.ret (RetQ.r ⟨_, .cellA rfl rfl ag.Rat (nb9 rfl) .nil, .ag (.cons (.le (by first | exact VLe.refl _ | exact VLe.mt | exact vle_q0 | exact VLe.int (by omega) | exact VLe.bool (by simp_all))) (.cons (.le (by first | exact VLe.refl _ | exact VLe.mt | exact vle_q0 | exact VLe.int (by omega) | exact VLe.bool (by simp_all))) (.cons (.le (by first | exact VLe.refl _ | exact VLe.mt | exact vle_q0 | exact VLe.int (by omega) | exact VLe.bool (by simp_all))) .nil)))⟩)
theorem ref40_beginnings {h : HM} (f : HM.FormX 1048576 1048576 h) : FSpec P F.ref40_beginnings [vHM h] (.d (dQs (h.ini ++ [h.empty]))) := by
 have e1 := f.ini
 have n1 := f.st1
 refine FSpec.intro fn.ref40_beginnings (by rfl) (by rfl) (nb9 (by rfl)) fun E hE => ?_
 refine AW.sg hE rfl ?_
 first | refine bxA rfl rfl fun b1 => ?_ | refine bxD rfl rfl fun b1 => ?_
 refine asM rfl ?_
 refine OL.nil ?_
 refine AW.seq ?_
 refine AW.dg 2 [0,1,2,4,5,6,3,7,8] order_free hE rfl (by kernel_rfl) (OI.of_OL (os := [_,_,_,_,_,_,_,_,_]) rfl ?_)
 refine lt0 sl.choice ?_
 first | refine faP fd.Hidden_3 rfl rfl ?_ | refine faR fd.Hidden_3 rfl rfl ?_ | refine faE fd.Hidden_3 rfl rfl ?_
 first | refine ldRC ce.Rats rfl ?_ | refine ldPC ce.Rats rfl rfl rfl ?_
 first | refine faP fd.Hidden_2 rfl rfl ?_ | refine faR fd.Hidden_2 rfl rfl ?_ | refine faE fd.Hidden_2 rfl rfl ?_
 first | refine ldPA ag.Rat rfl rfl (vs := [_,_,_]) rfl (nb9 rfl) ?_ | refine ldRA ag.Rat rfl (vs := [_,_,_]) rfl (nb9 rfl) ?_
 refine lt1 (y := dQ _) sl.choice vd_q rfl (by decide) ?_
 refine apMx sl.choice ⟨T.Rats, _, rfl, sl.Rats.u⟩ rfl (VC.d _) dQ_len (by rw [List.length_map]; omega) (by rw [List.length_map]; omega) rfl fun b6 c6 => ?_
 refine apOD sl.choice rfl rfl rfl rfl (VC.d _) (by simp [D.cells]) (by simp only [List.length_map, List.length_cons, List.length_nil]; omega) (by simp only [List.length_map, List.length_cons, List.length_nil]; omega) (.inl rfl) (ys := (h.ini ++ [h.empty]).map dQ) (by rw [List.map_append]; rfl) ?_
 first | refine asD rfl ?_ | refine asO rfl ?_ | refine asM rfl ?_
 refine OL.nil ?_
 exact AW.ret (RetQ.r ⟨_, .tmp rfl .nil, .le (by first | exact VLe.refl _ | exact VLe.mt | exact vle_q0 | exact VLe.int (by omega) | exact VLe.bool (by simp_all))⟩)
theorem ref40_symbols {h : HM} (f : HM.FormX 1048576 1048576 h) {i : Nat} (hi : i < h.st) : FSpec P F.ref40_symbols [vHM h, .d (dI i)] (.d (dQs (h.emit.getD i []))) := by
 have e1 := f.emit
 have n1 := f.sym1
 have er := f.erow i hi
 refine FSpec.intro fn.ref40_symbols (by rfl) (by rfl) (nb9 (by rfl)) fun E hE => ?_
 refine AW.sg hE rfl ?_
 first | refine bxA rfl rfl fun b2 => ?_ | refine bxD rfl rfl fun b2 => ?_
 refine asM rfl ?_
 refine OL.nil ?_
 refine AW.sg hE rfl ?_
 refine lt0 sl.choice ?_
 first | refine faP fd.Hidden_6 rfl rfl ?_ | refine faR fd.Hidden_6 rfl rfl ?_ | refine faE fd.Hidden_6 rfl rfl ?_
 first | refine ldRC ce.Ratss rfl ?_ | refine ldPC ce.Ratss rfl rfl rfl ?_
 refine mvD rfl ?_
 first | refine ixO sl.Ratss rfl rfl (by omega) (by omega) rfl ?_ | refine ixLn sl.Ratss [] rfl rfl (by omega) rfl rfl ?_ | refine ixL sl.Ratss [] rfl rfl (by omega) (by omega) rfl rfl ?_
 first | refine ldRC ce.Rats rfl ?_ | refine ldPC ce.Rats rfl rfl rfl ?_
 refine apMDx sl.choice ⟨T.Rats, _, rfl, sl.Rats.u⟩ rfl (VC.d _) dQ_len (by rw [List.length_map]; omega) (by rw [List.length_map]; omega) ?_
 first | refine asD rfl ?_ | refine asO rfl ?_ | refine asM rfl ?_
 refine OL.nil ?_
 exact AW.ret (RetQ.r ⟨_, .tmp rfl .nil, .le (by first | exact VLe.refl _ | exact VLe.mt | exact vle_q0 | exact VLe.int (by omega) | exact VLe.bool (by simp_all))⟩)
theorem ref40_moves {h : HM} (f : HM.FormX 1048576 1048576 h) {i : Nat} (hi : i < h.st) : FSpec P F.ref40_moves [vHM h, .d (dI i)] (.d (dQs (h.trans.getD i [] ++ [h.stop.getD i 0]))) := by
 have e1 := f.trans
 have e2 := f.stop
 have n1 := f.st1
 have er := f.trow i hi
 refine FSpec.intro fn.ref40_moves (by rfl) (by rfl) (nb9 (by rfl)) fun E hE => ?_
 refine AW.sg hE rfl ?_
 first | refine bxA rfl rfl fun b2 => ?_ | refine bxD rfl rfl fun b2 => ?_
 refine asM rfl ?_
 refine OL.nil ?_
 refine AW.seq ?_
 refine AW.dg 2 [0,1,2,3,4,5,7,8,9,10,11,12,6,13,14] order_free hE rfl (by kernel_rfl) (OI.of_OL (os := [_,_,_,_,_,_,_,_,_,_,_,_,_,_,_]) rfl ?_)
 refine lt0 sl.choice ?_
 first | refine faP fd.Hidden_4 rfl rfl ?_ | refine faR fd.Hidden_4 rfl rfl ?_ | refine faE fd.Hidden_4 rfl rfl ?_
 first | refine ldRC ce.Ratss rfl ?_ | refine ldPC ce.Ratss rfl rfl rfl ?_
 refine mvD rfl ?_
 first | refine ixO sl.Ratss rfl rfl (by omega) (by omega) rfl ?_ | refine ixLn sl.Ratss [] rfl rfl (by omega) rfl rfl ?_ | refine ixL sl.Ratss [] rfl rfl (by omega) (by omega) rfl rfl ?_
 first | refine ldRC ce.Rats rfl ?_ | refine ldPC ce.Rats rfl rfl rfl ?_
 first | refine faP fd.Hidden_5 rfl rfl ?_ | refine faR fd.Hidden_5 rfl rfl ?_ | refine faE fd.Hidden_5 rfl rfl ?_
 first | refine ldRC ce.Rats rfl ?_ | refine ldPC ce.Rats rfl rfl rfl ?_
 refine mvD rfl ?_
 first | refine ixO sl.Rats rfl rfl (by omega) (by omega) rfl ?_ | refine ixLn sl.Rats 0 rfl rfl (by omega) rfl rfl ?_ | refine ixL sl.Rats 0 rfl rfl (by omega) (by omega) rfl rfl ?_
 first | refine ldPA ag.Rat rfl rfl (vs := [_,_,_]) rfl (nb9 rfl) ?_ | refine ldRA ag.Rat rfl (vs := [_,_,_]) rfl (nb9 rfl) ?_
 refine lt1 (y := dQ _) sl.choice vd_q rfl (by decide) ?_
 refine apMx sl.choice ⟨T.Rats, _, rfl, sl.Rats.u⟩ rfl (VC.d _) dQ_len (by rw [List.length_map]; omega) (by rw [List.length_map]; omega) rfl fun b11 c11 => ?_
 refine apOD sl.choice rfl rfl rfl rfl (VC.d _) (by simp [D.cells]) (by simp only [List.length_map, List.length_cons, List.length_nil]; omega) (by simp only [List.length_map, List.length_cons, List.length_nil]; omega) (.inl rfl) (ys := (h.trans.getD i [] ++ [h.stop.getD i 0]).map dQ) (by rw [List.map_append]; rfl) ?_
 first | refine asD rfl ?_ | refine asO rfl ?_ | refine asM rfl ?_
 refine OL.nil ?_
 exact AW.ret (RetQ.r ⟨_, .tmp rfl .nil, .le (by first | exact VLe.refl _ | exact VLe.mt | exact vle_q0 | exact VLe.int (by omega) | exact VLe.bool (by simp_all))⟩)
theorem ref40_part {Q t : Nat} {s : Span} {ch : List Rat} (hd : Q ≠ 0 ∧ ll Q ≤ 42992000) (hs : SpanW Q t s) (ht : t ≤ 518) (hc : RowD Q ch) (hn : ch.length ≤ 40) {k : Nat} (hk : k < ch.length) : FSpec P F.ref40_part [vIvS s, .d (dQs ch), .d (dI k)] (vIvS (s.part ch k)) := by
 obtain ⟨z1, z2, z3⟩ := hs.szs hd.1 hd.2 (by omega)
 have hp := hs.plo_sz hd.1 hc hd.2 (by omega) k
 have hx := hc.sm.get (by decide) k
 have hsu := sumQ_szB (hc.sm.take k) (by rw [List.length_take]; omega) (by decide)
 have m1 := sz_mul s.len (sumQ (ch.take k))
 have m2 := sz_mul s.len (ch.getD k 0)
 refine FSpec.intro fn.ref40_part (by rfl) (by rfl) (nb9 (by rfl)) fun E hE => ?_
 refine AW.sg hE rfl ?_
 first | refine bxA rfl rfl fun b3 => ?_ | refine bxD rfl rfl fun b3 => ?_
 refine al z.Interval rfl fun b6 => ?_
 refine OL.nil ?_
 refine AW.sg hE rfl ?_
 first | refine faP fd.Interval_1 rfl rfl ?_ | refine faR fd.Interval_1 rfl rfl ?_ | refine faE fd.Interval_1 rfl rfl ?_
 first | refine ldPA ag.Rat rfl rfl (vs := [_,_,_]) rfl (nb9 rfl) ?_ | refine ldRA ag.Rat rfl (vs := [_,_,_]) rfl (nb9 rfl) ?_
 first | refine faP fd.Interval_0 rfl rfl ?_ | refine faR fd.Interval_0 rfl rfl ?_ | refine faE fd.Interval_0 rfl rfl ?_
 first | refine ldPA ag.Rat rfl rfl (vs := [_,_,_]) rfl (nb9 rfl) ?_ | refine ldRA ag.Rat rfl (vs := [_,_,_]) rfl (nb9 rfl) ?_
 refine clv rfl (.cons (VLe.refl _) (.cons (VLe.refl _) (.nil))) (ref_SubQ (x := s.lo + s.len) (y := s.lo) (by omega) (by omega)) ?_
 rw [addsub]
 refine al z.Rat rfl fun b7 => ?_
 first | refine sto sz.Rat rfl rfl rfl rfl rfl (nb9 rfl) (cells2 := [_,_,_]) rfl ?_ | refine stE sz.Rat rfl (VC.d _).vd rfl rfl (by omega) rfl ?_
 refine OL.nil ?_
 refine AW.seq ?_
 refine AW.dg 1 [0,1,2,3,4,5,6,7,8,9,10] order_free hE rfl (by kernel_rfl) (OI.of_OL (os := [_,_,_,_,_,_,_,_,_,_,_]) rfl ?_)
 first | refine faP fd.Interval_0 rfl rfl ?_ | refine faR fd.Interval_0 rfl rfl ?_ | refine faE fd.Interval_0 rfl rfl ?_
 first | refine ldPA ag.Rat rfl rfl (vs := [_,_,_]) rfl (nb9 rfl) ?_ | refine ldRA ag.Rat rfl (vs := [_,_,_]) rfl (nb9 rfl) ?_
 first | refine ldPA ag.Rat rfl rfl (vs := [_,_,_]) rfl (nb9 rfl) ?_ | refine ldRA ag.Rat rfl (vs := [_,_,_]) rfl (nb9 rfl) ?_
 first | refine mvD rfl ?_ | refine mvO rfl ?_ | refine mvM rfl ?_
 refine mvD rfl ?_
 refine slTo sl.choice rfl rfl (fun _ => rfl) (by omega) (l2 := ch.take k) (by rw [Int.toNat_natCast]) ?_
 refine clv rfl (.cons (VLe.refl _) (.nil)) (ref33_SumS (hc.sm.take k) (by decide) (by rw [List.length_take]; omega)) ?_
 refine clv rfl (.cons (VLe.refl _) (.cons (VLe.refl _) (.nil))) (ref_MulQ (x := s.len) (y := sumQ (ch.take k)) (by omega) (by omega)) ?_
 refine clv rfl (.cons (VLe.refl _) (.cons (VLe.refl _) (.nil))) (ref_AddQ (x := s.lo) (y := s.len * sumQ (ch.take k)) (by omega) (by omega)) ?_
 rw [← partLo_sum]
 refine al z.Rat rfl fun b8 => ?_
 first | refine sto sz.Rat rfl rfl rfl rfl rfl (nb9 rfl) (cells2 := [_,_,_]) rfl ?_ | refine stE sz.Rat rfl (VC.d _).vd rfl rfl (by omega) rfl ?_
 refine OL.nil ?_
 refine AW.seq ?_
 refine AW.dg 1 [0,1,2,3,4,5,6,7,8,9,10] order_free hE rfl (by kernel_rfl) (OI.of_OL (os := [_,_,_,_,_,_,_,_,_,_,_]) rfl ?_)
 first | refine ldPA ag.Rat rfl rfl (vs := [_,_,_]) rfl (nb9 rfl) ?_ | refine ldRA ag.Rat rfl (vs := [_,_,_]) rfl (nb9 rfl) ?_
 first | refine ldPA ag.Rat rfl rfl (vs := [_,_,_]) rfl (nb9 rfl) ?_ | refine ldRA ag.Rat rfl (vs := [_,_,_]) rfl (nb9 rfl) ?_
 first | refine ldPA ag.Rat rfl rfl (vs := [_,_,_]) rfl (nb9 rfl) ?_ | refine ldRA ag.Rat rfl (vs := [_,_,_]) rfl (nb9 rfl) ?_
 first | refine mvD rfl ?_ | refine mvO rfl ?_ | refine mvM rfl ?_
 refine mvD rfl ?_
 refine ixLn sl.choice 0 rfl rfl (by omega) rfl rfl ?_
 first | refine ldPA ag.Rat rfl rfl (vs := [_,_,_]) rfl (nb9 rfl) ?_ | refine ldRA ag.Rat rfl (vs := [_,_,_]) rfl (nb9 rfl) ?_
 refine clv rfl (.cons (VLe.refl _) (.cons (VLe.refl _) (.nil))) (ref_MulQ (x := s.len) (y := ch.getD k 0) (by omega) (by omega)) ?_
 refine clv rfl (.cons (VLe.refl _) (.cons (VLe.refl _) (.nil))) (ref_AddQ (x := partLo s (ch.take k)) (y := s.len * ch.getD k 0) (by omega) (by omega)) ?_
 refine bd z.Interval pl.Interval (cs := [_,_,_,_,_,_]) rfl ?_
 first | refine sto sz.Interval rfl rfl rfl rfl rfl (nb9 rfl) (cells2 := [_,_,_,_,_,_]) rfl ?_ | refine stE sz.Interval rfl (VC.d _).vd rfl rfl (by omega) rfl ?_
 refine OL.nil ?_
 exact AW.ret (RetQ.r ⟨_, .cellA rfl rfl ag.Interval (nb9 rfl) .nil, .ag (.cons (.le (by first | exact VLe.refl _ | exact VLe.mt | exact vle_q0 | exact VLe.int (by omega) | exact VLe.bool (by simp_all))) (.cons (.le (by first | exact VLe.refl _ | exact VLe.mt | exact vle_q0 | exact VLe.int (by omega) | exact VLe.bool (by simp_all))) (.cons (.le (by first | exact VLe.refl _ | exact VLe.mt | exact vle_q0 | exact VLe.int (by omega) | exact VLe.bool (by simp_all))) (.cons (.le (by first | exact VLe.refl _ | exact VLe.mt | exact vle_q0 | exact VLe.int (by omega) | exact VLe.bool (by simp_all))) (.cons (.le (by first | exact VLe.refl _ | exact VLe.mt | exact vle_q0 | exact VLe.int (by omega) | exact VLe.bool (by simp_all))) (.cons (.le (by first | exact VLe.refl _ | exact VLe.mt | exact vle_q0 | exact VLe.int (by omega) | exact VLe.bool (by simp_all))) .nil))))))⟩)
theorem ref40_choose {bits : List Int} {r : Rd} {b : Nat} {Q t : Nat} {s : Span} {ch : List Rat} (hd : Q ≠ 0 ∧ ll Q ≤ 42992000) (hs : SpanW Q t s) (ht : t ≤ 518) (hc : RowD Q ch) (hn : ch.length ≤ 40) (hr : RdOK bits r) (hpos : 0 < s.len) : FSpecM P F.ref40_reader_choose [.ptr 1000 b 0, vIvS s, .d (dQs ch)] (mem1 1000 (rfB b bits r)) (.d (dI (chI (chooseB bits s ch r)))) (mem1 1000 (rfB b bits (chEnd bits s ch r))) := by
 refine FSpecM.intro fn.ref40_reader_choose (by rfl) (by rfl) (nb9 (by rfl)) fun E hE => ?_
 refine AW.sg hE rfl ?_
 first | refine bxA rfl rfl fun b4 => ?_ | refine bxD rfl rfl fun b4 => ?_
 refine asD rfl ?_
 refine OL.nil ?_
 refine AW.block ?_
 refine AW.whileK (α := Rd) [(0, _), (2, _), (4, _)] [(4, _)] (fun q => []) (fun q => [(1000, rfB b bits q)]) (fun q => RdOK bits q ∧ chooseB bits s ch q = chooseB bits s ch r ∧ chEnd bits s ch q = chEnd bits s ch r) (fun q => bits.length - q.used) r (by repeat (first | exact Knows.nil | refine Knows.cons (by first | exact knD rfl | exact knA rfl | exact knP rfl | exact knO rfl | exact knM rfl | exact knE rfl | exact knR rfl | exact knF rfl | exact knT rfl | exact knJ) ?_)) (.cons (by first | exact owB rfl | exact owR rfl | exact owL rfl | exact owT rfl) .nil) ⟨⟨hr, rfl, rfl⟩, .nil, .cons rfl .nil⟩ ?_
 rintro q ⟨hq, e1, e2⟩
 have q1 := hq.used
 have q2 := hq.bits
 have q3 := hq.lo
 have q4 := hq.len
 have q5 := sz_add q.read.lo q.read.len
 obtain ⟨z1, z2, z3⟩ := hs.szs hd.1 hd.2 (by omega)
 refine AW.block ?_
 refine AW.seq ?_
 refine AW.dg 1 [0,1,2,3,4,5,6,7,8,9,10] order_free hE rfl (by kernel_rfl) (OI.of_OL (os := [_,_,_,_,_,_,_,_,_,_,_]) rfl ?_)
 first | refine mvD rfl ?_ | refine mvT rfl ?_ | refine mvP rfl ?_ | refine mvR rfl ?_ | refine mvE rfl ?_ | refine mvF rfl ?_ | refine mvA rfl ?_ | refine mvO rfl ?_ | refine mvM rfl ?_ | refine mvJ rfl ?_
 first | refine ncP rfl ?_ | refine ncR rfl ?_ | refine ncE rfl ?_
 first | refine faP fd.ref40_reader_2 rfl rfl ?_ | refine faR fd.ref40_reader_2 rfl rfl ?_ | refine faE fd.ref40_reader_2 rfl rfl ?_
 first | refine ldPA ag.Rat rfl rfl (vs := [_,_,_]) rfl (nb9 rfl) ?_ | refine ldRA ag.Rat rfl (vs := [_,_,_]) rfl (nb9 rfl) ?_
 first | refine mvD rfl ?_ | refine mvT rfl ?_ | refine mvP rfl ?_ | refine mvR rfl ?_ | refine mvE rfl ?_ | refine mvF rfl ?_ | refine mvA rfl ?_ | refine mvO rfl ?_ | refine mvM rfl ?_ | refine mvJ rfl ?_
 first | refine ncP rfl ?_ | refine ncR rfl ?_ | refine ncE rfl ?_
 first | refine faP fd.ref40_reader_3 rfl rfl ?_ | refine faR fd.ref40_reader_3 rfl rfl ?_ | refine faE fd.ref40_reader_3 rfl rfl ?_
 first | refine ldPA ag.Rat rfl rfl (vs := [_,_,_]) rfl (nb9 rfl) ?_ | refine ldRA ag.Rat rfl (vs := [_,_,_]) rfl (nb9 rfl) ?_
 refine clv rfl (.cons (by first | exact VLe.refl _ | exact VLe.mt | exact vle_q0 | exact VLe.ptr) (.cons (by first | exact VLe.refl _ | exact VLe.mt | exact vle_q0 | exact VLe.ptr) .nil)) (ref_AddQ (by first | assumption | omega) (by first | assumption | omega)) ?_
 refine al z.Rat rfl fun b7 => ?_
 first | refine sto sz.Rat rfl rfl rfl rfl rfl (nb9 rfl) (cells2 := [_,_,_]) rfl ?_ | refine stE sz.Rat rfl (VC.d _).vd rfl rfl (by omega) rfl ?_
 refine OL.nil ?_
 refine AW.midK (α := Unit) [(0, _), (2, _), (4, _)] [(4, _), (1000, _)] (fun _u => []) (fun _u => []) (fun _u => firstK q.read s ch = none) (by repeat (first | exact Knows.nil | refine Knows.cons (by first | exact knD rfl | exact knA rfl | exact knP rfl | exact knO rfl | exact knM rfl | exact knE rfl | exact knR rfl | exact knF rfl | exact knT rfl | exact knJ) ?_)) (by repeat (first | exact Owns.nil | refine Owns.cons (by first | exact owB rfl | exact owR rfl | exact owL rfl | exact owT rfl) ?_)) ?_ ?_
 ·refine AW.sg hE rfl ?_
  refine asD rfl ?_
  refine OL.nil ?_
  refine AW.block ?_
  refine AW.whileK (α := Nat) [(0, _), (2, _), (4, _), (7, _)] [(4, _), (7, _), (1000, _)] (fun i => [(8, .d (dI i))]) (fun i => []) (fun i => i ≤ ch.length ∧ ∀ j, j < i → ¬ Sure q.read s ch j) (fun i => ch.length - i) 0 (by repeat (first | exact Knows.nil | refine Knows.cons (by first | exact knD rfl | exact knA rfl | exact knP rfl | exact knO rfl | exact knM rfl | exact knE rfl | exact knR rfl | exact knF rfl | exact knT rfl | exact knJ) ?_)) (by repeat (first | exact Owns.nil | refine Owns.cons (by first | exact owB rfl | exact owR rfl | exact owL rfl | exact owT rfl) ?_)) ⟨⟨Nat.zero_le _, fun j hj => absurd hj (Nat.not_lt_zero j)⟩, .cons (by first | exact VLe.refl _ | exact VLe.int (by omega) | exact VLe.mt | exact vle_q0 | exact VLe.osl | exact VLe.ptr) .nil, .nil⟩ ?_
  rintro i ⟨h1, h2⟩
  refine AW.seq ?_
  refine AW.sg hE rfl ?_
  refine mvD rfl ?_
  first | refine mvD rfl ?_ | refine mvO rfl ?_ | refine mvM rfl ?_
  first | refine lnL sl.choice rfl rfl ?_ | refine lnO sl.choice rfl rfl ?_ | refine lnM sl.choice rfl rfl ?_ | refine lnD sl.choice rfl rfl rfl ?_
  refine c_lss rfl rfl rfl ?_
  refine OL.nil ?_
  refine AW.cond rfl (fun h22 => ?_) (fun h22 => ?_)
  ·try simp only [dx9] at h22
   refine AW.skip ?_
   refine AW.seq ?_
   refine AW.block ?_
   refine AW.sg hE rfl ?_
   first | refine ldPA ag.Interval rfl rfl (vs := [_,_,_,_,_,_]) rfl (nb9 rfl) ?_ | refine ldRA ag.Interval rfl (vs := [_,_,_,_,_,_]) rfl (nb9 rfl) ?_
   first | refine mvD rfl ?_ | refine mvO rfl ?_ | refine mvM rfl ?_
   refine mvD rfl ?_
   refine clv rfl (.cons (VLe.refl _) (.cons (VLe.refl _) (.cons (VLe.refl _) (.nil)))) (ref40_part hd hs ht hc hn (by omega)) ?_
   have hP := hs.part hd.1 hc i (by omega)
   obtain ⟨p1, p2, p3⟩ := hP.szs hd.1 hd.2 (by omega)
   refine al z.Interval rfl fun b9 => ?_
   first | refine sto sz.Interval rfl rfl rfl rfl rfl (nb9 rfl) (cells2 := [_,_,_,_,_,_]) rfl ?_ | refine stE sz.Interval rfl (VC.d _).vd rfl rfl (by omega) rfl ?_
   refine OL.nil ?_
   refine AW.seq ?_
   refine AW.dg 1 [0,1,2,3,4,5,6,7,8,9,10,11,12,13,14,15,16,17,18,19,20,21,22] order_free hE rfl (by kernel_rfl) (OI.of_OL (os := [_,_,_,_,_,_,_,_,_,_,_,_,_,_,_,_,_,_,_,_,_,_,_]) rfl ?_)
   first | refine faP fd.Interval_0 rfl rfl ?_ | refine faR fd.Interval_0 rfl rfl ?_ | refine faE fd.Interval_0 rfl rfl ?_
   first | refine ldPA ag.Rat rfl rfl (vs := [_,_,_]) rfl (nb9 rfl) ?_ | refine ldRA ag.Rat rfl (vs := [_,_,_]) rfl (nb9 rfl) ?_
   first | refine faP fd.Interval_1 rfl rfl ?_ | refine faR fd.Interval_1 rfl rfl ?_ | refine faE fd.Interval_1 rfl rfl ?_
   first | refine ldPA ag.Rat rfl rfl (vs := [_,_,_]) rfl (nb9 rfl) ?_ | refine ldRA ag.Rat rfl (vs := [_,_,_]) rfl (nb9 rfl) ?_
   refine clv rfl (.cons (VLe.refl _) (.cons (VLe.refl _) (.nil))) (ref_CompareQ (x := (s.part ch i).lo) (y := (s.part ch i).lo + (s.part ch i).len) (by omega) (by omega)) ?_
   refine c_lss rfl rfl rfl ?_
   refine mvD rfl ?_
   refine OL.split 35 rfl (fun g1 => ?_) (fun g1 => ?_)
   ·have g1 : (s.part ch i).lo < (s.part ch i).lo + (s.part ch i).len := cmpQ_lt.1 (of_decide_eq_true g1)
    refine OL.yes rfl ?_
    first | refine faP fd.Interval_0 rfl rfl ?_ | refine faR fd.Interval_0 rfl rfl ?_ | refine faE fd.Interval_0 rfl rfl ?_
    refine OL.yes rfl ?_
    first | refine ldPA ag.Rat rfl rfl (vs := [_,_,_]) rfl (nb9 rfl) ?_ | refine ldRA ag.Rat rfl (vs := [_,_,_]) rfl (nb9 rfl) ?_
    refine OL.yes rfl ?_
    first | refine mvD rfl ?_ | refine mvT rfl ?_ | refine mvP rfl ?_ | refine mvR rfl ?_ | refine mvE rfl ?_ | refine mvF rfl ?_ | refine mvA rfl ?_ | refine mvO rfl ?_ | refine mvM rfl ?_ | refine mvJ rfl ?_
    refine OL.yes rfl ?_
    first | refine ncP rfl ?_ | refine ncR rfl ?_ | refine ncE rfl ?_
    refine OL.yes rfl ?_
    first | refine faP fd.ref40_reader_2 rfl rfl ?_ | refine faR fd.ref40_reader_2 rfl rfl ?_ | refine faE fd.ref40_reader_2 rfl rfl ?_
    refine OL.yes rfl ?_
    first | refine ldPA ag.Rat rfl rfl (vs := [_,_,_]) rfl (nb9 rfl) ?_ | refine ldRA ag.Rat rfl (vs := [_,_,_]) rfl (nb9 rfl) ?_
    refine OL.yes rfl ?_
    refine clv rfl (.cons (VLe.refl _) (.cons (VLe.refl _) (.nil))) (ref_CompareQ (x := (s.part ch i).lo) (y := q.read.lo) (by omega) (by omega)) ?_
    refine OL.yes rfl ?_
    refine c_leq rfl rfl rfl ?_
    refine pkT rfl rfl ?_
    refine mvD rfl ?_
    refine OL.split 45 rfl (fun g2 => ?_) (fun g2 => ?_)
    ·have g2 : (s.part ch i).lo ≤ q.read.lo := cmpQ_le.1 (of_decide_eq_true g2)
     refine OL.yes rfl ?_
     first | refine ldPA ag.Rat rfl rfl (vs := [_,_,_]) rfl (nb9 rfl) ?_ | refine ldRA ag.Rat rfl (vs := [_,_,_]) rfl (nb9 rfl) ?_
     refine OL.yes rfl ?_
     first | refine faP fd.Interval_1 rfl rfl ?_ | refine faR fd.Interval_1 rfl rfl ?_ | refine faE fd.Interval_1 rfl rfl ?_
     refine OL.yes rfl ?_
     first | refine ldPA ag.Rat rfl rfl (vs := [_,_,_]) rfl (nb9 rfl) ?_ | refine ldRA ag.Rat rfl (vs := [_,_,_]) rfl (nb9 rfl) ?_
     refine OL.yes rfl ?_
     refine clv rfl (.cons (VLe.refl _) (.cons (VLe.refl _) (.nil))) (ref_CompareQ (x := q.read.lo + q.read.len) (y := (s.part ch i).lo + (s.part ch i).len) (by omega) (by omega)) ?_
     refine OL.yes rfl ?_
     refine c_leq rfl rfl rfl ?_
     refine pkT rfl rfl ?_
     refine OL.nil ?_
     refine AW.cond rfl (fun c51 => ?_) (fun c51 => ?_)
     ·have c51 : q.read.lo + q.read.len ≤ (s.part ch i).lo + (s.part ch i).len := cmpQ_le.1 (of_decide_eq_true c51)
      have hfk := firstK_some (by omega) ((sure_iff hpos).2 ⟨g1, g2, c51⟩) h2
      have e3 : chooseB bits s ch r = some (i, q) := by rw [← e1, chooseB, hfk]
      have e4 : chEnd bits s ch r = q := by rw [← e2, chEnd, hfk]
      rw [e3, e4]
      refine AW.sg hE rfl ?_
      refine mvD rfl ?_
      refine asD rfl ?_
      refine OL.nil ?_
      exact AW.ret ⟨⟨_, .tmp rfl .nil, .le (by first | exact VLe.refl _ | exact VLe.mt | exact vle_q0 | exact VLe.int (by omega) | exact VLe.bool (by simp_all))⟩, mem1_keep rfl⟩
     ·have c51 : ¬ q.read.lo + q.read.len ≤ (s.part ch i).lo + (s.part ch i).len := fun e => of_decide_eq_false c51 (cmpQ_le.2 e)
      refine AW.skip ?_
      refine AW.rg hE rfl ?_
      refine mvD rfl ?_
      refine add_i64 rfl rfl (by omega) ?_
      refine asD rfl ?_
      refine OL.nil ?_
      exact AW.again (x := i) (i + 1) (by first | omega | (simp only []; omega)) ⟨⟨by omega, upto_step h2 fun hS => (fun x => c51 x.2.2) ((sure_iff hpos).1 hS)⟩, Knows.app (.cons (VLe.refl _) (.cons (VLe.refl _) (.cons (VLe.refl _) (.cons (VLe.refl _) .nil)))) (.cons (by first | exact VLe.refl _ | exact VLe.int (by omega) | exact VLe.mt | exact vle_q0 | exact VLe.osl | exact VLe.ptr) .nil), Owns.app (.cons rfl (.cons rfl (.cons rfl .nil))) (.nil)⟩
    ·have g2 : ¬ (s.part ch i).lo ≤ q.read.lo := fun e => of_decide_eq_false g2 (cmpQ_le.2 e)
     refine OL.no rfl (by decide) ?_
     refine OL.no rfl (by decide) ?_
     refine OL.no rfl (by decide) ?_
     refine OL.no rfl (by decide) ?_
     refine OL.no rfl (by decide) ?_
     refine pkF rfl rfl ?_
     refine OL.nil ?_
     refine AW.cond rfl (fun hno => absurd hno (by decide)) (fun _ => ?_)
     refine AW.skip ?_
     refine AW.rg hE rfl ?_
     refine mvD rfl ?_
     refine add_i64 rfl rfl (by omega) ?_
     refine asD rfl ?_
     refine OL.nil ?_
     exact AW.again (x := i) (i + 1) (by first | omega | (simp only []; omega)) ⟨⟨by omega, upto_step h2 fun hS => (fun x => g2 x.2.1) ((sure_iff hpos).1 hS)⟩, Knows.app (.cons (VLe.refl _) (.cons (VLe.refl _) (.cons (VLe.refl _) (.cons (VLe.refl _) .nil)))) (.cons (by first | exact VLe.refl _ | exact VLe.int (by omega) | exact VLe.mt | exact vle_q0 | exact VLe.osl | exact VLe.ptr) .nil), Owns.app (.cons rfl (.cons rfl (.cons rfl .nil))) (.nil)⟩
   ·have g1 : ¬ (s.part ch i).lo < (s.part ch i).lo + (s.part ch i).len := fun e => of_decide_eq_false g1 (cmpQ_lt.2 e)
    refine OL.no rfl (by decide) ?_
    refine OL.no rfl (by decide) ?_
    refine OL.no rfl (by decide) ?_
    refine OL.no rfl (by decide) ?_
    refine OL.no rfl (by decide) ?_
    refine OL.no rfl (by decide) ?_
    refine OL.no rfl (by decide) ?_
    refine OL.no rfl (by decide) ?_
    refine pkF rfl rfl ?_
    refine mvD rfl ?_
    refine OL.no rfl (by decide) ?_
    refine OL.no rfl (by decide) ?_
    refine OL.no rfl (by decide) ?_
    refine OL.no rfl (by decide) ?_
    refine OL.no rfl (by decide) ?_
    refine pkF rfl rfl ?_
    refine OL.nil ?_
    refine AW.cond rfl (fun hno => absurd hno (by decide)) (fun _ => ?_)
    refine AW.skip ?_
    refine AW.rg hE rfl ?_
    refine mvD rfl ?_
    refine add_i64 rfl rfl (by omega) ?_
    refine asD rfl ?_
    refine OL.nil ?_
    exact AW.again (x := i) (i + 1) (by first | omega | (simp only []; omega)) ⟨⟨by omega, upto_step h2 fun hS => (fun x => g1 x.1) ((sure_iff hpos).1 hS)⟩, Knows.app (.cons (VLe.refl _) (.cons (VLe.refl _) (.cons (VLe.refl _) (.cons (VLe.refl _) .nil)))) (.cons (by first | exact VLe.refl _ | exact VLe.int (by omega) | exact VLe.mt | exact vle_q0 | exact VLe.osl | exact VLe.ptr) .nil), Owns.app (.cons rfl (.cons rfl (.cons rfl .nil))) (.nil)⟩
  ·try simp only [dx9] at h22
   refine AW.exit ?_
   exact AW.reach () ⟨firstK_none fun j hj => h2 j (by omega), Knows.app (.cons (VLe.refl _) (.cons (VLe.refl _) (.cons (VLe.refl _) .nil))) (.nil), Owns.app (.cons rfl (.cons rfl .nil)) (.nil)⟩
 rintro ⟨⟩ hno
 refine AW.seq ?_
 refine AW.seq ?_
 refine AW.dg 1 [0,1,2,3,4,5,6,7,8,9] order_free hE rfl (by kernel_rfl) (OI.of_OL (os := [_,_,_,_,_,_,_,_,_,_]) rfl ?_)
 first | refine mvD rfl ?_ | refine mvT rfl ?_ | refine mvP rfl ?_ | refine mvR rfl ?_ | refine mvE rfl ?_ | refine mvF rfl ?_ | refine mvA rfl ?_ | refine mvO rfl ?_ | refine mvM rfl ?_ | refine mvJ rfl ?_
 first | refine ncP rfl ?_ | refine ncR rfl ?_ | refine ncE rfl ?_
 first | refine faP fd.ref40_reader_1 rfl rfl ?_ | refine faR fd.ref40_reader_1 rfl rfl ?_ | refine faE fd.ref40_reader_1 rfl rfl ?_
 first | refine ldRC ce.int rfl ?_ | refine ldPC ce.int rfl rfl rfl ?_
 first | refine mvD rfl ?_ | refine mvT rfl ?_ | refine mvP rfl ?_ | refine mvR rfl ?_ | refine mvE rfl ?_ | refine mvF rfl ?_ | refine mvA rfl ?_ | refine mvO rfl ?_ | refine mvM rfl ?_ | refine mvJ rfl ?_
 first | refine ncP rfl ?_ | refine ncR rfl ?_ | refine ncE rfl ?_
 first | refine faP fd.ref40_reader_0 rfl rfl ?_ | refine faR fd.ref40_reader_0 rfl rfl ?_ | refine faE fd.ref40_reader_0 rfl rfl ?_
 first | refine ldRC ce.ints rfl ?_ | refine ldPC ce.ints rfl rfl rfl ?_
 first | refine lnL sl.ints rfl rfl ?_ | refine lnO sl.ints rfl rfl ?_ | refine lnM sl.ints rfl rfl ?_ | refine lnD sl.ints rfl rfl rfl ?_
 refine c_eql rfl rfl rfl ?_
 refine OL.nil ?_
 refine AW.cond rfl (fun hend => ?_) (fun hend => ?_)
 ·have hend := of_decide_eq_true hend
  have e3 : chooseB bits s ch r = none := by rw [← e1, chooseB, hno]; simp only; rw [if_neg (by omega)]
  have e4 : chEnd bits s ch r = q := by rw [← e2, chEnd, hno]; simp only; rw [if_neg (by omega)]
  rw [e3, e4]
  refine AW.sg hE rfl ?_
  refine asD rfl ?_
  refine OL.nil ?_
  exact AW.ret ⟨⟨_, .tmp rfl .nil, .le (by first | exact VLe.refl _ | exact VLe.mt | exact vle_q0 | exact VLe.int (by omega) | exact VLe.bool (by simp_all))⟩, mem1_keep rfl⟩
 ·have hend := of_decide_eq_false hend
  have hlt : q.used < bits.length := by omega
  have hst := hq.step hlt
  have u1 := hst.used
  have u3 := hst.lo
  have hh := half_sz
  have hM := ref40_half
  have u4 := sz_mul q.read.len (1 / 2)
  have u5 := sz_add q.read.lo (q.read.len * (1 / 2))
  generalize hgh : (1 / 2 : Rat) = half at *
  refine AW.skip ?_
  refine AW.seq ?_
  refine AW.dg 1 [0,1,2,3,4,5,6,7,8,9] order_free hE rfl (by kernel_rfl) (OI.of_OL (os := [_,_,_,_,_,_,_,_,_,_]) rfl ?_)
  first | refine mvD rfl ?_ | refine mvT rfl ?_ | refine mvP rfl ?_ | refine mvR rfl ?_ | refine mvE rfl ?_ | refine mvF rfl ?_ | refine mvA rfl ?_ | refine mvO rfl ?_ | refine mvM rfl ?_ | refine mvJ rfl ?_
  first | refine mvD rfl ?_ | refine mvT rfl ?_ | refine mvP rfl ?_ | refine mvR rfl ?_ | refine mvE rfl ?_ | refine mvF rfl ?_ | refine mvA rfl ?_ | refine mvO rfl ?_ | refine mvM rfl ?_ | refine mvJ rfl ?_
  first | refine ncP rfl ?_ | refine ncR rfl ?_ | refine ncE rfl ?_
  first | refine faP fd.ref40_reader_3 rfl rfl ?_ | refine faR fd.ref40_reader_3 rfl rfl ?_ | refine faE fd.ref40_reader_3 rfl rfl ?_
  first | refine ldPA ag.Rat rfl rfl (vs := [_,_,_]) rfl (nb9 rfl) ?_ | refine ldRA ag.Rat rfl (vs := [_,_,_]) rfl (nb9 rfl) ?_
  refine clv rfl .nil hM ?_
  refine clv rfl (.cons (VLe.refl _) (.cons (VLe.refl _) (.nil))) (ref_MulQ (x := q.read.len) (y := half) (by omega) (by omega)) ?_
  first | refine ncP rfl ?_ | refine ncR rfl ?_ | refine ncE rfl ?_
  first | refine faP fd.ref40_reader_3 rfl rfl ?_ | refine faR fd.ref40_reader_3 rfl rfl ?_ | refine faE fd.ref40_reader_3 rfl rfl ?_
  first | refine sto sz.Rat rfl rfl rfl rfl rfl (nb9 rfl) rfl ?_ | refine stE sz.Rat rfl (VC.d _).vd rfl rfl (by omega) rfl ?_
  refine OL.nil ?_
  refine AW.midK (α := Unit) [(0, _), (2, _), (4, _)] [(4, _)] (fun _u => []) (fun _u => [(1000, .box b T.ref40_reader [.d (ints bits), .d (dI q.used), .d (dB (ofQ (q.step bits).read.lo).neg), .d (u32s (ofQ (q.step bits).read.lo).num), .d (u32s (ofQ (q.step bits).read.lo).den), .d (dB (ofQ (q.step bits).read.len).neg), .d (u32s (ofQ (q.step bits).read.len).num), .d (u32s (ofQ (q.step bits).read.len).den)])]) (fun _u => True) (by repeat (first | exact Knows.nil | refine Knows.cons (by first | exact knD rfl | exact knA rfl | exact knP rfl | exact knO rfl | exact knM rfl | exact knE rfl | exact knR rfl | exact knF rfl | exact knT rfl | exact knJ) ?_)) (.cons (by first | exact owB rfl | exact owR rfl | exact owL rfl | exact owT rfl) .nil) ?_ ?_
  ·refine AW.seq ?_
   refine AW.dg 1 [0,1,2,3,4,5,6,7,8,9,10] order_free hE rfl (by kernel_rfl) (OI.of_OL (os := [_,_,_,_,_,_,_,_,_,_,_]) rfl ?_)
   first | refine mvD rfl ?_ | refine mvT rfl ?_ | refine mvP rfl ?_ | refine mvR rfl ?_ | refine mvE rfl ?_ | refine mvF rfl ?_ | refine mvA rfl ?_ | refine mvO rfl ?_ | refine mvM rfl ?_ | refine mvJ rfl ?_
   first | refine ncP rfl ?_ | refine ncR rfl ?_ | refine ncE rfl ?_
   first | refine faP fd.ref40_reader_0 rfl rfl ?_ | refine faR fd.ref40_reader_0 rfl rfl ?_ | refine faE fd.ref40_reader_0 rfl rfl ?_
   first | refine ldRC ce.ints rfl ?_ | refine ldPC ce.ints rfl rfl rfl ?_
   first | refine mvD rfl ?_ | refine mvT rfl ?_ | refine mvP rfl ?_ | refine mvR rfl ?_ | refine mvE rfl ?_ | refine mvF rfl ?_ | refine mvA rfl ?_ | refine mvO rfl ?_ | refine mvM rfl ?_ | refine mvJ rfl ?_
   first | refine ncP rfl ?_ | refine ncR rfl ?_ | refine ncE rfl ?_
   first | refine faP fd.ref40_reader_1 rfl rfl ?_ | refine faR fd.ref40_reader_1 rfl rfl ?_ | refine faE fd.ref40_reader_1 rfl rfl ?_
   first | refine ldRC ce.int rfl ?_ | refine ldPC ce.int rfl rfl rfl ?_
   refine ixLn sl.ints 0 rfl rfl (by omega) rfl rfl ?_
   first | refine ldRC ce.int rfl ?_ | refine ldPC ce.int rfl rfl rfl ?_
   refine c_eql rfl rfl rfl ?_
   refine OL.nil ?_
   refine AW.cond rfl (fun h82 => ?_) (fun h82 => ?_)
   ·try simp only [dx9] at h82
    refine AW.dg 1 [0,1,2,3,4,5,6,7,8,9,10,11,12] order_free hE rfl (by kernel_rfl) (OI.of_OL (os := [_,_,_,_,_,_,_,_,_,_,_,_,_]) rfl ?_)
    first | refine mvD rfl ?_ | refine mvT rfl ?_ | refine mvP rfl ?_ | refine mvR rfl ?_ | refine mvE rfl ?_ | refine mvF rfl ?_ | refine mvA rfl ?_ | refine mvO rfl ?_ | refine mvM rfl ?_ | refine mvJ rfl ?_
    first | refine mvD rfl ?_ | refine mvT rfl ?_ | refine mvP rfl ?_ | refine mvR rfl ?_ | refine mvE rfl ?_ | refine mvF rfl ?_ | refine mvA rfl ?_ | refine mvO rfl ?_ | refine mvM rfl ?_ | refine mvJ rfl ?_
    first | refine ncP rfl ?_ | refine ncR rfl ?_ | refine ncE rfl ?_
    first | refine faP fd.ref40_reader_2 rfl rfl ?_ | refine faR fd.ref40_reader_2 rfl rfl ?_ | refine faE fd.ref40_reader_2 rfl rfl ?_
    first | refine ldPA ag.Rat rfl rfl (vs := [_,_,_]) rfl (nb9 rfl) ?_ | refine ldRA ag.Rat rfl (vs := [_,_,_]) rfl (nb9 rfl) ?_
    first | refine mvD rfl ?_ | refine mvT rfl ?_ | refine mvP rfl ?_ | refine mvR rfl ?_ | refine mvE rfl ?_ | refine mvF rfl ?_ | refine mvA rfl ?_ | refine mvO rfl ?_ | refine mvM rfl ?_ | refine mvJ rfl ?_
    first | refine ncP rfl ?_ | refine ncR rfl ?_ | refine ncE rfl ?_
    first | refine faP fd.ref40_reader_3 rfl rfl ?_ | refine faR fd.ref40_reader_3 rfl rfl ?_ | refine faE fd.ref40_reader_3 rfl rfl ?_
    first | refine ldPA ag.Rat rfl rfl (vs := [_,_,_]) rfl (nb9 rfl) ?_ | refine ldRA ag.Rat rfl (vs := [_,_,_]) rfl (nb9 rfl) ?_
    refine clv rfl (.cons (by first | exact VLe.refl _ | exact VLe.mt | exact vle_q0 | exact VLe.ptr) (.cons (by first | exact VLe.refl _ | exact VLe.mt | exact vle_q0 | exact VLe.ptr) .nil)) (ref_AddQ (by first | assumption | omega) (by first | assumption | omega)) ?_
    first | refine ncP rfl ?_ | refine ncR rfl ?_ | refine ncE rfl ?_
    first | refine faP fd.ref40_reader_2 rfl rfl ?_ | refine faR fd.ref40_reader_2 rfl rfl ?_ | refine faE fd.ref40_reader_2 rfl rfl ?_
    first | refine sto sz.Rat rfl rfl rfl rfl rfl (nb9 rfl) rfl ?_ | refine stE sz.Rat rfl (VC.d _).vd rfl rfl (by omega) rfl ?_
    refine OL.nil ?_
    exact AW.reach () ⟨trivial, Knows.app (.cons (VLe.refl _) (.cons (VLe.refl _) (.cons (VLe.refl _) .nil))) (.nil), Owns.app (.cons rfl .nil) (.cons (by unfold Rd.step; rw [if_pos (by omega), hgh]; rfl) .nil)⟩
   ·try simp only [dx9] at h82
    refine AW.skip ?_
    exact AW.reach () ⟨trivial, Knows.app (.cons (VLe.refl _) (.cons (VLe.refl _) (.cons (VLe.refl _) .nil))) (.nil), Owns.app (.cons rfl .nil) (.cons (by unfold Rd.step; rw [if_neg (by omega), hgh]; rfl) .nil)⟩
  rintro ⟨⟩ hφ
  refine AW.rg hE rfl ?_
  first | refine mvD rfl ?_ | refine mvT rfl ?_ | refine mvP rfl ?_ | refine mvR rfl ?_ | refine mvE rfl ?_ | refine mvF rfl ?_ | refine mvA rfl ?_ | refine mvO rfl ?_ | refine mvM rfl ?_ | refine mvJ rfl ?_
  first | refine ncP rfl ?_ | refine ncR rfl ?_ | refine ncE rfl ?_
  first | refine faP fd.ref40_reader_1 rfl rfl ?_ | refine faR fd.ref40_reader_1 rfl rfl ?_ | refine faE fd.ref40_reader_1 rfl rfl ?_
  first | refine ldRC ce.int rfl ?_ | refine ldPC ce.int rfl rfl rfl ?_
  refine add_i64 rfl rfl (by omega) ?_
  first | refine ncP rfl ?_ | refine ncR rfl ?_ | refine ncE rfl ?_
  first | refine faP fd.ref40_reader_1 rfl rfl ?_ | refine faR fd.ref40_reader_1 rfl rfl ?_ | refine faE fd.ref40_reader_1 rfl rfl ?_
  first | refine sto sz.int rfl rfl rfl rfl rfl (nb9 rfl) rfl ?_ | refine stE sz.int rfl (VC.d _).vd rfl rfl (by omega) rfl ?_
  refine OL.nil ?_
  exact AW.again (x := q) (q.step bits) (by simp only [Rd.step]; omega) ⟨⟨hq.step hlt, (chooseB_step hno hlt).trans e1, (chEnd_step hno hlt).trans e2⟩, Knows.app (.cons (VLe.refl _) (.cons (VLe.refl _) (.cons (VLe.refl _) .nil))) (.nil), Owns.app (.cons rfl .nil) (.cons rfl .nil)⟩
end Go.Proofs.YtjghehkgmanmbaaGreat

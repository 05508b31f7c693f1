/-
  Walks of package online, part 4: the sanity check, the law OnlineNeverTakesBack (printed by mk2.py).
-/
import Derived.Test.YtcebciggodhmcaaGreatKOnC
set_option linter.unusedVariables false
set_option linter.unusedSimpArgs false
namespace Go.Proofs.YtcebciggodhmcaaGreat
open Go Go.AL
theorem known_push : someN pairHM ⟨0, [], [], []⟩ 0 2 = true ∧ cmtF pairHM ⟨0, [], [], []⟩ 0 2 = [0] := by decide +kernel
theorem push_E {h : HM} {o : Dec} {x : Nat} : pushE h o x = 0 ∨ pushE h o x = 11 := by unfold pushE; split <;> simp
theorem push_ok {h : HM} {o : Dec} {x : Nat} (e : pushE h o x = 0) : someN h o x h.st = true := by
  unfold pushE at e
  split at e
  · rename_i h1; exact h1
  · exact absurd e (by decide)
theorem symX_left {w v : List Int} {t : Nat} (ht : t < w.length) : symX (w ++ v) t = symX w t := by
  unfold symX
  rw [List.getD_eq_getElem?_getD, List.getD_eq_getElem?_getD, List.getElem?_append_left ht]
theorem word_append {h : HM} {w v : List Int} (a : WordOK h w) (b : WordOK h v) (hl : w.length + v.length ≤ 256) : WordOK h (w ++ v) :=
  ⟨by rw [List.length_append]; exact hl, fun x hx => (List.mem_append.1 hx).elim (a.2 x) (b.2 x)⟩
theorem never_vit {h : HM} {B : Nat} {u : List Int} {o : Dec} (g : h.Good B) (k : InvD h u o) (e : vitE h u every = 0) : o.dn.length ≤ o.t ∧ (vitP h u every).take o.dn.length = o.dn := by
  by_cases h0 : u.length = 0
  · have ht : o.t = 0 := by have := k.le; omega
    rw [(k.zero ht).2.2]; exact ⟨Nat.zero_le _, rfl⟩
  · have hb := vit_pos e h0
    have hp : vitP h u every = vpath h u := if_neg fun k => k.elim h0 fun k => by rw [k] at hb; exact absurd hb (by decide)
    rw [hp]
    exact never_back g k hb
theorem law37_same {l m : List Int} (nl : l.length ≤ 9223372036854775807) : FSpec P F.law37_same [.d (ints l), .d (ints m)] (.d (dB (decide (l = m)))) := by
  refine FSpec.intro fn.law37_same (by rfl) (by rfl) (Nat.le_of_ble_eq_true (by rfl)) fun E hE => ?_
  refine AW.seq ?_
  refine AW.region (by rw [hE]; rfl) ?_
  refine asD rfl ?_
  refine OL.nil ?_
  refine AW.seq ?_
  refine AW.seq ?_
  refine AW.region (by rw [hE]; rfl) ?_
  first | refine mvD rfl ?_ | refine mvO rfl ?_ | refine mvM rfl ?_
  first | refine lnL sl.ints rfl rfl ?_ | refine lnO sl.ints rfl rfl ?_ | refine lnM sl.ints rfl rfl ?_ | refine lnD sl.ints rfl rfl rfl ?_
  first | refine mvD rfl ?_ | refine mvO rfl ?_ | refine mvM rfl ?_
  first | refine lnL sl.ints rfl rfl ?_ | refine lnO sl.ints rfl rfl ?_ | refine lnM sl.ints rfl rfl ?_ | refine lnD sl.ints rfl rfl rfl ?_
  refine c_neq rfl rfl rfl ?_
  refine OL.nil ?_
  refine AW.cond rfl (fun h10 => ?_) (fun h10 => ?_)
  · have hl : l.length ≠ m.length := by simp at h10; omega
    refine AW.seq ?_
    refine AW.region (by rw [hE]; rfl) ?_
    refine asD rfl ?_
    refine OL.nil ?_
    exact AW.ret (RetQ.r ⟨_, .tmp rfl .nil, .le (VLe.bool ((decide_eq_false fun e => hl (by rw [e])).symm))⟩)
  · have hl : l.length = m.length := by simp at h10; omega
    refine AW.skip ?_
    refine AW.seq ?_
    refine AW.seq ?_
    refine AW.region (by rw [hE]; rfl) ?_
    refine asD rfl ?_
    refine OL.nil ?_
    refine AW.block ?_
    refine AW.whileK (α := Nat) [(0, _), (1, _)] [] (fun i => [(5, .d (dI i))]) (fun i => []) (fun i => i ≤ l.length ∧ ∀ j, j < i → l.getD j 0 = m.getD j 0) (fun i => l.length - i) 0 (by repeat (first | exact Knows.nil | refine Knows.cons (by first | exact knD rfl | exact knA rfl | exact knP rfl | exact knO rfl | exact knM rfl | exact knE rfl | exact knR rfl | exact knF rfl | exact knT rfl | exact knJ) ?_)) .nil ⟨⟨Nat.zero_le _, fun j hj => by omega⟩, .cons (by first | exact VLe.refl _ | exact VLe.int (by omega) | exact VLe.mt | exact vle_q0 | exact VLe.osl | exact VLe.ptr) .nil, .nil⟩ ?_
    rintro i ⟨h1, h2⟩
    refine AW.seq ?_
    refine AW.seq ?_
    refine AW.region (by rw [hE]; rfl) ?_
    refine mvD rfl ?_
    first | refine mvD rfl ?_ | refine mvO rfl ?_ | refine mvM rfl ?_
    first | refine lnL sl.ints rfl rfl ?_ | refine lnO sl.ints rfl rfl ?_ | refine lnM sl.ints rfl rfl ?_ | refine lnD sl.ints rfl rfl rfl ?_
    refine c_lss rfl rfl rfl ?_
    refine OL.nil ?_
    refine AW.cond rfl (fun h14 => ?_) (fun h14 => ?_)
    · first | (simp only [decide_eq_true_eq, decide_eq_false_iff_not, Bool.not_eq_true', Bool.not_eq_false', Bool.not_not, Bool.and_eq_true, Bool.and_eq_false_iff, Bool.or_eq_true, Bool.or_eq_false_iff] at h14) | skip
      refine AW.skip ?_
      refine AW.seq ?_
      refine AW.block ?_
      refine AW.seq ?_
      refine AW.region_draw 1 [0, 1, 2, 3, 4, 5, 6, 7, 8] order_free (by rw [hE]; rfl) (by kernel_rfl) (OI.of_OL (os := [_, _, _, _, _, _, _, _, _]) rfl ?_)
      first | refine mvD rfl ?_ | refine mvO rfl ?_ | refine mvM rfl ?_
      refine mvD rfl ?_
      first | refine ixO sl.ints rfl rfl (by omega) (by omega) rfl ?_ | refine ixLn sl.ints 0 rfl rfl (by omega) rfl rfl ?_ | refine ixL sl.ints 0 rfl rfl (by omega) (by omega) rfl rfl ?_
      first | refine ldRC ce.int rfl ?_ | refine ldPC ce.int rfl rfl rfl ?_
      first | refine mvD rfl ?_ | refine mvO rfl ?_ | refine mvM rfl ?_
      refine mvD rfl ?_
      first | refine ixO sl.ints rfl rfl (by omega) (by omega) rfl ?_ | refine ixLn sl.ints 0 rfl rfl (by omega) rfl rfl ?_ | refine ixL sl.ints 0 rfl rfl (by omega) (by omega) rfl rfl ?_
      first | refine ldRC ce.int rfl ?_ | refine ldPC ce.int rfl rfl rfl ?_
      refine c_neq rfl rfl rfl ?_
      refine OL.nil ?_
      refine AW.cond rfl (fun hc => ?_) (fun hc => ?_)
      · have hc : l.getD i 0 ≠ m.getD i 0 := fun e => by rw [e] at hc; simp at hc
        refine AW.seq ?_
        refine AW.region (by rw [hE]; rfl) ?_
        refine asD rfl ?_
        refine OL.nil ?_
        exact AW.ret (RetQ.r ⟨_, .tmp rfl .nil, .le (VLe.bool ((decide_eq_false fun e => hc (by rw [e])).symm))⟩)
      · have hc : l.getD i 0 = m.getD i 0 := nd_f hc
        refine AW.skip ?_
        refine AW.region (by rw [hE]; rfl) ?_
        refine mvD rfl ?_
        refine add_i64 rfl rfl (by omega) ?_
        refine asD rfl ?_
        refine OL.nil ?_
        exact AW.again (x := i) (i + 1) (by first | omega | (simp only []; omega)) ⟨⟨by omega, fun j hj => by rcases Nat.lt_or_ge j i with h | h; exact h2 j h; obtain rfl : j = i := (by omega); exact hc⟩, Knows.app (.cons (VLe.refl _) (.cons (VLe.refl _) .nil)) (.cons (by first | exact VLe.refl _ | exact VLe.int (by omega) | exact VLe.mt | exact vle_q0 | exact VLe.osl | exact VLe.ptr) .nil), .nil⟩
    · first | (simp only [decide_eq_true_eq, decide_eq_false_iff_not, Bool.not_eq_true', Bool.not_eq_false', Bool.not_not, Bool.and_eq_true, Bool.and_eq_false_iff, Bool.or_eq_true, Bool.or_eq_false_iff] at h14) | skip
      refine AW.exit ?_
      refine AW.seq ?_
      refine AW.region (by rw [hE]; rfl) ?_
      refine asD rfl ?_
      refine OL.nil ?_
      exact AW.ret (RetQ.r ⟨_, .tmp rfl .nil, .le (VLe.bool ((decide_eq_true (list_eq_getD hl 0 fun j hj => h2 j (by omega))).symm))⟩)
theorem law37_pairQ {q o : Rat} (hq : FSpec P F.ref01_Make [.d (dI 1), .d (dI 2)] (.tup [vQ q, .d (dI 0)])) (ho : FSpec P F.ref33_Whole [.d (dI 1)] (vQ o)) : FSpec P F.law37_pair [] (vHM ⟨2, 2, 0, [q, q], [[0, q], [0, 0]], [q, o], [[o, 0], [0, o]], [false, false], [0, 1]⟩) := by
  refine FSpec.intro fn.law37_pair (by rfl) (by rfl) (Nat.le_of_ble_eq_true (by rfl)) fun E hE => ?_
  refine AW.seq ?_
  refine AW.region (by rw [hE]; rfl) ?_
  refine al z.Hidden rfl fun b0 => ?_
  refine OL.nil ?_
  refine AW.seq ?_
  refine AW.region (by rw [hE]; rfl) ?_
  refine clv rfl (.cons (VLe.refl _) (.cons (VLe.refl _) .nil)) hq ?_
  first | refine mvD rfl ?_ | refine mvT rfl ?_ | refine mvP rfl ?_ | refine mvR rfl ?_ | refine mvE rfl ?_ | refine mvF rfl ?_ | refine mvA rfl ?_ | refine mvO rfl ?_ | refine mvM rfl ?_ | refine mvJ rfl ?_
  refine ex rfl rfl ?_
  refine ex rfl rfl ?_
  refine al z.Rat rfl fun b1 => ?_
  first | refine sto sz.Rat rfl rfl rfl rfl rfl (Nat.le_of_ble_eq_true rfl) (cells2 := [_, _, _]) rfl ?_ | refine stE sz.Rat rfl (VC.d _).vd rfl rfl (by omega) rfl ?_
  refine asD rfl ?_
  refine OL.nil ?_
  refine AW.seq ?_
  refine AW.region (by rw [hE]; rfl) ?_
  refine clv rfl (.cons (VLe.refl _) .nil) ho ?_
  refine al z.Rat rfl fun b3 => ?_
  first | refine sto sz.Rat rfl rfl rfl rfl rfl (Nat.le_of_ble_eq_true rfl) (cells2 := [_, _, _]) rfl ?_ | refine stE sz.Rat rfl (VC.d _).vd rfl rfl (by omega) rfl ?_
  refine OL.nil ?_
  refine AW.seq ?_
  refine AW.region (by rw [hE]; rfl) ?_
  first | refine ldPA ag.Rat rfl rfl (vs := [_, _, _]) rfl (Nat.le_of_ble_eq_true rfl) ?_ | refine ldRA ag.Rat rfl (vs := [_, _, _]) rfl (Nat.le_of_ble_eq_true rfl) ?_
  first | refine ldPA ag.Rat rfl rfl (vs := [_, _, _]) rfl (Nat.le_of_ble_eq_true rfl) ?_ | refine ldRA ag.Rat rfl (vs := [_, _, _]) rfl (Nat.le_of_ble_eq_true rfl) ?_
  refine lt2 (y := dQ q) (y2 := dQ q) sl.Rats vd_q vd_q ⟨rfl, rfl⟩ (by decide) ?_
  refine bd z.Rat pl.Rat (cs := [_, _, _]) rfl ?_
  first | refine ldPA ag.Rat rfl rfl (vs := [_, _, _]) rfl (Nat.le_of_ble_eq_true rfl) ?_ | refine ldRA ag.Rat rfl (vs := [_, _, _]) rfl (Nat.le_of_ble_eq_true rfl) ?_
  refine lt2 (y := dQ 0) (y2 := dQ q) sl.Rats vd_q0B vd_q ⟨rfl, rfl⟩ (by decide) ?_
  refine bd z.Rat pl.Rat (cs := [_, _, _]) rfl ?_
  refine bd z.Rat pl.Rat (cs := [_, _, _]) rfl ?_
  refine lt2 (y := dQ 0) (y2 := dQ 0) sl.Rats vd_q0B vd_q0B ⟨rfl, rfl⟩ (by decide) ?_
  refine lt2 sl.Ratss (VC.d _).vd (VC.d _).vd ⟨rfl, rfl⟩ (by decide) ?_
  first | refine ldPA ag.Rat rfl rfl (vs := [_, _, _]) rfl (Nat.le_of_ble_eq_true rfl) ?_ | refine ldRA ag.Rat rfl (vs := [_, _, _]) rfl (Nat.le_of_ble_eq_true rfl) ?_
  first | refine ldPA ag.Rat rfl rfl (vs := [_, _, _]) rfl (Nat.le_of_ble_eq_true rfl) ?_ | refine ldRA ag.Rat rfl (vs := [_, _, _]) rfl (Nat.le_of_ble_eq_true rfl) ?_
  refine lt2 (y := dQ q) (y2 := dQ o) sl.Rats vd_q vd_q ⟨rfl, rfl⟩ (by decide) ?_
  first | refine ldPA ag.Rat rfl rfl (vs := [_, _, _]) rfl (Nat.le_of_ble_eq_true rfl) ?_ | refine ldRA ag.Rat rfl (vs := [_, _, _]) rfl (Nat.le_of_ble_eq_true rfl) ?_
  refine bd z.Rat pl.Rat (cs := [_, _, _]) rfl ?_
  refine lt2 (y := dQ o) (y2 := dQ 0) sl.Rats vd_q vd_q0B ⟨rfl, rfl⟩ (by decide) ?_
  refine bd z.Rat pl.Rat (cs := [_, _, _]) rfl ?_
  first | refine ldPA ag.Rat rfl rfl (vs := [_, _, _]) rfl (Nat.le_of_ble_eq_true rfl) ?_ | refine ldRA ag.Rat rfl (vs := [_, _, _]) rfl (Nat.le_of_ble_eq_true rfl) ?_
  refine lt2 (y := dQ 0) (y2 := dQ o) sl.Rats vd_q0B vd_q ⟨rfl, rfl⟩ (by decide) ?_
  refine lt2 sl.Ratss (VC.d _).vd (VC.d _).vd ⟨rfl, rfl⟩ (by decide) ?_
  refine lt2 sl.bools (VC.d _).vd (VC.d _).vd ⟨rfl, rfl⟩ (by decide) ?_
  refine lt2 sl.ints (VC.d _).vd (VC.d _).vd ⟨rfl, rfl⟩ (by decide) ?_
  refine bd2 (cs := [_, _, _, _, _, _, _, _, _, _, _]) z.Hidden pl.Hidden (pvC (by first | exact evD rfl | exact evA rfl | exact evM rfl | exact evO rfl | exact evP rfl) (pvC (by first | exact evD rfl | exact evA rfl | exact evM rfl | exact evO rfl | exact evP rfl) (pvC (by first | exact evD rfl | exact evA rfl | exact evM rfl | exact evO rfl | exact evP rfl) (pvC (by first | exact evD rfl | exact evA rfl | exact evM rfl | exact evO rfl | exact evP rfl) (pvC (by first | exact evD rfl | exact evA rfl | exact evM rfl | exact evO rfl | exact evP rfl) (pvC (by first | exact evD rfl | exact evA rfl | exact evM rfl | exact evO rfl | exact evP rfl) (pvC (by first | exact evD rfl | exact evA rfl | exact evM rfl | exact evO rfl | exact evP rfl) (pvC (by first | exact evD rfl | exact evA rfl | exact evM rfl | exact evO rfl | exact evP rfl) (pvN))))))))) (by rfl) ?_
  first | refine sto sz.Hidden rfl rfl rfl rfl rfl (Nat.le_of_ble_eq_true rfl) (cells2 := [_, _, _, _, _, _, _, _, _, _, _]) rfl ?_ | refine stE sz.Hidden rfl (VC.d _).vd rfl rfl (by omega) rfl ?_
  refine OL.nil ?_
  exact AW.ret (RetQ.r ⟨_, .cellA rfl rfl ag.Hidden (Nat.le_of_ble_eq_true rfl) .nil, .ag (.cons (.le (by first | exact VLe.refl _ | exact VLe.mt | exact vle_q0 | exact VLe.int (by omega) | exact VLe.bool (by simp_all))) (.cons (.le (by first | exact VLe.refl _ | exact VLe.mt | exact vle_q0 | exact VLe.int (by omega) | exact VLe.bool (by simp_all))) (.cons (.le (vle_of_eq (by show _ = V.d (dB (ofQ 0).neg); rw [ofQ_zero]))) (.cons (.le (by show VLe _ (.d (u32s (ofQ 0).num)); rw [ofQ_zero]; exact VLe.mt)) (.cons (.le (by show VLe _ (.d (u32s (ofQ 0).den)); rw [ofQ_zero]; exact VLe.mt)) (.cons (.le (by first | exact VLe.refl _ | exact VLe.mt | exact vle_q0 | exact VLe.int (by omega) | exact VLe.bool (by simp_all))) (.cons (.le (by first | exact VLe.refl _ | exact VLe.mt | exact vle_q0 | exact VLe.int (by omega) | exact VLe.bool (by simp_all))) (.cons (.le (by first | exact VLe.refl _ | exact VLe.mt | exact vle_q0 | exact VLe.int (by omega) | exact VLe.bool (by simp_all))) (.cons (.le (by first | exact VLe.refl _ | exact VLe.mt | exact vle_q0 | exact VLe.int (by omega) | exact VLe.bool (by simp_all))) (.cons (.le (by first | exact VLe.refl _ | exact VLe.mt | exact vle_q0 | exact VLe.int (by omega) | exact VLe.bool (by simp_all))) (.cons (.le (by first | exact VLe.refl _ | exact VLe.mt | exact vle_q0 | exact VLe.int (by omega) | exact VLe.bool (by simp_all))) .nil)))))))))))⟩)
theorem law37_pair : FSpec P F.law37_pair [] (vHM pairHM) := law37_pairQ ref_half ref33_Whole1
set_option maxHeartbeats 1600000 in
theorem law37_knownQ {h : HM} {B : Nat} {u : List Int} (g : h.Good B) (k : InvD h u ⟨0, [], [], []⟩) (hu : u.length ≤ 255) (ht : 0 < u.length) (hx : 0 < h.sym) (hc : pushC h ⟨0, [], [], []⟩ 0 = [0]) (he : pushE h ⟨0, [], [], []⟩ 0 = 0) (ht1 : (pushD h ⟨0, [], [], []⟩ 0).t = 1) (hd : (pushD h ⟨0, [], [], []⟩ 0).dn = [0]) (hp : FSpec P F.law37_pair [] (vHM h)) : FSpec P F.law37_known [] (.d (dB true)) := by
  refine FSpec.intro fn.law37_known (by rfl) (by rfl) (Nat.le_of_ble_eq_true (by rfl)) fun E hE => ?_
  refine AW.seq ?_
  refine AW.region (by rw [hE]; rfl) ?_
  refine asD rfl ?_
  refine OL.nil ?_
  refine AW.seq ?_
  refine AW.region (by rw [hE]; rfl) ?_
  refine clv rfl .nil hp ?_
  refine clv rfl (.cons (VLe.refl _) (.nil)) (on_Open g) ?_
  first | refine mvD rfl ?_ | refine mvT rfl ?_ | refine mvP rfl ?_ | refine mvR rfl ?_ | refine mvE rfl ?_ | refine mvF rfl ?_ | refine mvA rfl ?_ | refine mvO rfl ?_ | refine mvM rfl ?_ | refine mvJ rfl ?_
  refine ex rfl rfl ?_
  refine ex rfl rfl ?_
  refine al z.Online rfl fun b1 => ?_
  first | refine sto sz.Online rfl rfl rfl rfl rfl (Nat.le_of_ble_eq_true rfl) (cells2 := [_, _, _, _, _, _, _, _, _, _, _, _, _, _, _]) rfl ?_ | refine stE sz.Online rfl (VC.d _).vd rfl rfl (by omega) rfl ?_
  refine asD rfl ?_
  refine OL.nil ?_
  refine AW.seq ?_
  refine AW.region (by rw [hE]; rfl) ?_
  first | refine ldPA ag.Online rfl rfl (vs := [_, _, _, _, _, _, _, _, _, _, _, _, _, _, _]) rfl (Nat.le_of_ble_eq_true rfl) ?_ | refine ldRA ag.Online rfl (vs := [_, _, _, _, _, _, _, _, _, _, _, _, _, _, _]) rfl (Nat.le_of_ble_eq_true rfl) ?_
  refine clv rfl (.cons (VLe.refl _) (.cons (VLe.int (by rfl)) .nil)) (on_Push (o := ⟨0, [], [], []⟩) (x := 0) g k hu ht hx) ?_
  rw [hc, he]
  generalize pushH h ⟨0, [], [], []⟩ 0 = h2
  generalize pushD h ⟨0, [], [], []⟩ 0 = o2 at ht1 hd ⊢
  first | refine mvD rfl ?_ | refine mvT rfl ?_ | refine mvP rfl ?_ | refine mvR rfl ?_ | refine mvE rfl ?_ | refine mvF rfl ?_ | refine mvA rfl ?_ | refine mvO rfl ?_ | refine mvM rfl ?_ | refine mvJ rfl ?_
  refine ex rfl rfl ?_
  refine ex rfl rfl ?_
  refine ex rfl rfl ?_
  first | refine sto sz.Online rfl rfl rfl rfl rfl (Nat.le_of_ble_eq_true rfl) (cells2 := [_, _, _, _, _, _, _, _, _, _, _, _, _, _, _]) rfl ?_ | refine stE sz.Online rfl (VC.d _).vd rfl rfl (by omega) rfl ?_
  first | refine asD rfl ?_ | refine asO rfl ?_ | refine asM rfl ?_
  refine asD rfl ?_
  refine OL.nil ?_
  refine AW.seq ?_
  refine AW.region (by rw [hE]; rfl) ?_
  refine mvD rfl ?_
  refine c_eql rfl rfl (c := true) (by first | exact decide_eq_true (by omega) | exact decide_eq_false (by omega) | exact cne_f (by omega) | exact cne_t (by omega) | rfl) ?_
  refine mvD rfl ?_
  refine OL.yes rfl ?_
  refine mvD rfl ?_
  refine OL.yes rfl ?_
  refine c_eql rfl rfl (c := true) (by first | exact decide_eq_true (by omega) | exact decide_eq_false (by omega) | exact cne_f (by omega) | exact cne_t (by omega) | rfl) ?_
  refine pkT rfl rfl ?_
  refine mvD rfl ?_
  refine OL.yes rfl ?_
  first | refine mvD rfl ?_ | refine mvO rfl ?_ | refine mvM rfl ?_
  refine OL.yes rfl ?_
  refine lt1 sl.ints (VC.d _).vd rfl (by decide) ?_
  refine OL.yes rfl ?_
  refine clv rfl (.cons (VLe.refl _) (.cons (VLe.refl _) (.nil))) (law37_same (l := [0]) (m := [0]) (by decide)) ?_
  rw [decide_eq_true rfl]
  refine pkT rfl rfl ?_
  refine mvD rfl ?_
  refine OL.yes rfl ?_
  first | refine faP fd.Online_1 rfl rfl ?_ | refine faR fd.Online_1 rfl rfl ?_ | refine faE fd.Online_1 rfl rfl ?_
  refine OL.yes rfl ?_
  first | refine ldRC ce.int rfl ?_ | refine ldPC ce.int rfl rfl rfl ?_
  refine OL.yes rfl ?_
  refine c_eql rfl rfl (c := true) (decide_eq_true (by rw [ht1]; rfl)) ?_
  refine pkT rfl rfl ?_
  refine mvD rfl ?_
  refine OL.yes rfl ?_
  first | refine faP fd.Online_4 rfl rfl ?_ | refine faR fd.Online_4 rfl rfl ?_ | refine faE fd.Online_4 rfl rfl ?_
  refine OL.yes rfl ?_
  first | refine ldRC ce.ints rfl ?_ | refine ldPC ce.ints rfl rfl rfl ?_
  rw [hd]
  refine OL.yes rfl ?_
  refine lt1 sl.ints (VC.d _).vd rfl (by decide) ?_
  refine OL.yes rfl ?_
  refine clv rfl (.cons (VLe.refl _) (.cons (VLe.refl _) (.nil))) (law37_same (l := [0]) (m := [0]) (by decide)) ?_
  rw [decide_eq_true rfl]
  refine pkT rfl rfl ?_
  refine asD rfl ?_
  refine OL.nil ?_
  exact AW.ret (RetQ.r ⟨_, .tmp rfl .nil, .le (by first | exact VLe.refl _ | exact VLe.mt | exact vle_q0 | exact VLe.int (by omega) | exact VLe.bool (by simp_all))⟩)
theorem law37_known : FSpec P F.law37_known [] (.d (dB true)) :=
  law37_knownQ (u := [1, 2]) pair_good inv_open (by decide) (by decide) (by decide) ((if_pos known_push.1).trans known_push.2) (if_pos known_push.1)
    (by rw [show pushD pairHM ⟨0, [], [], []⟩ 0 = stepD pairHM ⟨0, [], [], []⟩ 0 from if_pos known_push.1]; rfl) (by rw [show pushD pairHM ⟨0, [], [], []⟩ 0 = stepD pairHM ⟨0, [], [], []⟩ 0 from if_pos known_push.1, show (stepD pairHM ⟨0, [], [], []⟩ 0).dn = cmtF pairHM ⟨0, [], [], []⟩ 0 2 from rfl, known_push.2]) law37_pair
set_option maxRecDepth 6000 in
set_option maxHeartbeats 3200000 in
theorem law_OnlineNeverTakesBack {L l r : List Int} {cs cy : Int} (nL : L.length ≤ 9223372036854775807) : FSpec P F.law37_OnlineNeverTakesBack [.ag [.d (dI cs), .d (dI cy), .d (ints L)], .d (ints l), .d (ints r)] (.d (dB true)) := by
  obtain ⟨h, hh⟩ : ∃ h, h = chainHM L cs cy 3 := ⟨_, rfl⟩
  have hg : h.Good 1 := by rw [hh]; exact chainHM_good L cs cy (by decide)
  have f := hg.form
  have s0 := f.sym0
  have s1 := f.sym1
  obtain ⟨w, hw⟩ : ∃ w, w = wordF l h.sym 6 := ⟨_, rfl⟩
  have kw : WordOK h w := by rw [hw]; exact wordF_ok s0 (by decide)
  have wl : w.length ≤ 6 := by rw [hw]; exact wordF_len ..
  obtain ⟨v, hv⟩ : ∃ v, v = wordF r h.sym 4 := ⟨_, rfl⟩
  have kv : WordOK h v := by rw [hv]; exact wordF_ok s0 (by decide)
  have vl : v.length ≤ 4 := by rw [hv]; exact wordF_len ..
  have ku : WordOK h (w ++ v) := word_append kw kv (by omega)
  have hul : (w ++ v).length = w.length + v.length := List.length_append
  refine FSpec.intro fn.law37_OnlineNeverTakesBack (by rfl) (by rfl) (Nat.le_of_ble_eq_true (by rfl)) fun E hE => ?_
  refine AW.seq ?_
  refine AW.region (by rw [hE]; rfl) ?_
  first | refine bxA rfl rfl fun b3 => ?_ | refine bxD rfl rfl fun b3 => ?_
  refine asD rfl ?_
  refine OL.nil ?_
  refine AW.seq ?_
  refine AW.region (by rw [hE]; rfl) ?_
  first | refine ldPA ag.Chain rfl rfl (vs := [_, _, _]) rfl (Nat.le_of_ble_eq_true rfl) ?_ | refine ldRA ag.Chain rfl (vs := [_, _, _]) rfl (Nat.le_of_ble_eq_true rfl) ?_
  refine clv rfl (.cons (VLe.refl _) (.cons (VLe.refl _) (.nil))) (chain_Hidden (by decide) nL) ?_
  rw [← hh]
  refine al z.Hidden rfl fun b7 => ?_
  first | refine sto sz.Hidden rfl rfl rfl rfl rfl (Nat.le_of_ble_eq_true rfl) (cells2 := [_, _, _, _, _, _, _, _, _, _, _]) rfl ?_ | refine stE sz.Hidden rfl (VC.d _).vd rfl rfl (by omega) rfl ?_
  refine OL.nil ?_
  refine AW.seq ?_
  refine AW.region (by rw [hE]; rfl) ?_
  first | refine mvD rfl ?_ | refine mvO rfl ?_ | refine mvM rfl ?_
  first | refine faP fd.Hidden_0 rfl rfl ?_ | refine faR fd.Hidden_0 rfl rfl ?_ | refine faE fd.Hidden_0 rfl rfl ?_
  first | refine ldRC ce.int rfl ?_ | refine ldPC ce.int rfl rfl rfl ?_
  refine clv rfl (.cons (VLe.refl _) (.cons (VLe.refl _) (.cons (VLe.refl _) (.nil)))) (world_Word (sym := h.sym) (most := 6) ⟨s0, by omega⟩ (by decide)) ?_
  rw [← hw]
  first | refine asD rfl ?_ | refine asO rfl ?_ | refine asM rfl ?_
  refine OL.nil ?_
  refine AW.seq ?_
  refine AW.region (by rw [hE]; rfl) ?_
  first | refine mvD rfl ?_ | refine mvO rfl ?_ | refine mvM rfl ?_
  first | refine faP fd.Hidden_0 rfl rfl ?_ | refine faR fd.Hidden_0 rfl rfl ?_ | refine faE fd.Hidden_0 rfl rfl ?_
  first | refine ldRC ce.int rfl ?_ | refine ldPC ce.int rfl rfl rfl ?_
  refine clv rfl (.cons (VLe.refl _) (.cons (VLe.refl _) (.cons (VLe.refl _) (.nil)))) (world_Word (sym := h.sym) (most := 4) ⟨s0, by omega⟩ (by decide)) ?_
  rw [← hv]
  first | refine asD rfl ?_ | refine asO rfl ?_ | refine asM rfl ?_
  refine OL.nil ?_
  refine AW.seq ?_
  refine AW.region (by rw [hE]; rfl) ?_
  first | refine ldPA ag.Hidden rfl rfl (vs := [_, _, _, _, _, _, _, _, _, _, _]) rfl (Nat.le_of_ble_eq_true rfl) ?_ | refine ldRA ag.Hidden rfl (vs := [_, _, _, _, _, _, _, _, _, _, _]) rfl (Nat.le_of_ble_eq_true rfl) ?_
  refine clv rfl (.cons (VLe.refl _) (.nil)) (on_Open hg) ?_
  first | refine mvD rfl ?_ | refine mvT rfl ?_ | refine mvP rfl ?_ | refine mvR rfl ?_ | refine mvE rfl ?_ | refine mvF rfl ?_ | refine mvA rfl ?_ | refine mvO rfl ?_ | refine mvM rfl ?_ | refine mvJ rfl ?_
  refine ex rfl rfl ?_
  refine ex rfl rfl ?_
  refine al z.Online rfl fun b10 => ?_
  first | refine sto sz.Online rfl rfl rfl rfl rfl (Nat.le_of_ble_eq_true rfl) (cells2 := [_, _, _, _, _, _, _, _, _, _, _, _, _, _, _]) rfl ?_ | refine stE sz.Online rfl (VC.d _).vd rfl rfl (by omega) rfl ?_
  refine asD rfl ?_
  refine OL.nil ?_
  refine AW.seq ?_
  refine AW.seq ?_
  refine AW.region (by rw [hE]; rfl) ?_
  refine mvD rfl ?_
  refine c_neq rfl rfl (c := false) (by first | exact decide_eq_true (by omega) | exact decide_eq_false (by omega) | exact cne_f (by omega) | exact cne_t (by omega) | rfl) ?_
  refine OL.nil ?_
  refine AW.cond rfl (fun hno => absurd hno (by decide)) (fun _ => ?_)
  refine AW.skip ?_
  refine AW.seq ?_
  refine AW.seq ?_
  refine AW.region (by rw [hE]; rfl) ?_
  refine asD rfl ?_
  refine OL.nil ?_
  refine AW.block ?_
  refine AW.whileK (α := Nat × Dec) [(7, _), (8, _), (9, _), (10, _)] [(7, _)] (fun (t, o) => [(12, .d (dI t))]) (fun (t, o) => [(10, .box b10 T.Online (cellsOn h o))]) (fun (t, o) => t ≤ w.length ∧ o.t = t ∧ InvD h (w ++ v) o) (fun (t, o) => w.length - t) (0, ⟨0, [], [], []⟩) (by repeat (first | exact Knows.nil | refine Knows.cons (by first | exact knD rfl | exact knA rfl | exact knP rfl | exact knO rfl | exact knM rfl | exact knE rfl | exact knR rfl | exact knF rfl | exact knT rfl | exact knJ) ?_)) (.cons (by first | exact owB rfl | exact owR rfl | exact owL rfl | exact owT rfl) .nil) ⟨⟨Nat.zero_le _, rfl, inv_open⟩, .cons (by first | exact VLe.refl _ | exact VLe.int (by omega) | exact VLe.mt | exact vle_q0 | exact VLe.osl | exact VLe.ptr) .nil, .cons rfl .nil⟩ ?_
  rintro ⟨t, o⟩ ⟨h1, hot, k⟩
  have h1 : t ≤ w.length := h1
  have hot : o.t = t := hot
  have k : InvD h (w ++ v) o := k
  refine AW.seq ?_
  refine AW.seq ?_
  refine AW.region (by rw [hE]; rfl) ?_
  refine mvD rfl ?_
  first | refine mvD rfl ?_ | refine mvO rfl ?_ | refine mvM rfl ?_
  first | refine lnL sl.ints rfl rfl ?_ | refine lnO sl.ints rfl rfl ?_ | refine lnM sl.ints rfl rfl ?_ | refine lnD sl.ints rfl rfl rfl ?_
  refine c_lss rfl rfl rfl ?_
  refine OL.nil ?_
  refine AW.cond rfl (fun h39 => ?_) (fun h39 => ?_)
  · first | (simp only [decide_eq_true_eq, decide_eq_false_iff_not, Bool.not_eq_true', Bool.not_eq_false', Bool.not_not, Bool.and_eq_true, Bool.and_eq_false_iff, Bool.or_eq_true, Bool.or_eq_false_iff] at h39) | skip
    refine AW.skip ?_
    refine AW.seq ?_
    refine AW.block ?_
    refine AW.seq ?_
    have hx := kw.symX (t := t) (by omega)
    rw [← symX_left (v := v) (show t < w.length by omega)] at hx
    refine AW.region_draw 1 [0, 1, 2, 3, 4, 5, 6, 7, 8, 9, 10, 11, 12, 13] order_free (by rw [hE]; rfl) (by kernel_rfl) (OI.of_OL (os := [_, _, _, _, _, _, _, _, _, _, _, _, _, _]) rfl ?_)
    first | refine ldPA ag.Online rfl rfl (vs := [_, _, _, _, _, _, _, _, _, _, _, _, _, _, _]) rfl (Nat.le_of_ble_eq_true rfl) ?_ | refine ldRA ag.Online rfl (vs := [_, _, _, _, _, _, _, _, _, _, _, _, _, _, _]) rfl (Nat.le_of_ble_eq_true rfl) ?_
    first | refine mvD rfl ?_ | refine mvO rfl ?_ | refine mvM rfl ?_
    refine mvD rfl ?_
    refine ixLn sl.ints 0 rfl rfl (by omega) rfl rfl ?_
    first | refine ldRC ce.int rfl ?_ | refine ldPC ce.int rfl rfl rfl ?_
    rw [hx.2]
    refine clv rfl (.cons (VLe.refl _) (.cons (VLe.refl _) (.nil))) (on_Push hg k (by omega) (by omega) hx.1) ?_
    first | refine mvD rfl ?_ | refine mvT rfl ?_ | refine mvP rfl ?_ | refine mvR rfl ?_ | refine mvE rfl ?_ | refine mvF rfl ?_ | refine mvA rfl ?_ | refine mvO rfl ?_ | refine mvM rfl ?_ | refine mvJ rfl ?_
    refine ex rfl rfl ?_
    refine ex rfl rfl ?_
    refine ex rfl rfl ?_
    refine al z.Online rfl fun b13 => ?_
    first | refine sto sz.Online rfl rfl rfl rfl rfl (Nat.le_of_ble_eq_true rfl) (cells2 := [_, _, _, _, _, _, _, _, _, _, _, _, _, _, _]) rfl ?_ | refine stE sz.Online rfl (VC.d _).vd rfl rfl (by omega) rfl ?_
    first | refine asD rfl ?_ | refine asO rfl ?_ | refine asM rfl ?_
    refine asD rfl ?_
    refine OL.nil ?_
    refine AW.seq ?_
    refine AW.seq ?_
    refine AW.region (by rw [hE]; rfl) ?_
    refine mvD rfl ?_
    refine c_neq rfl rfl rfl ?_
    refine OL.nil ?_
    refine AW.cond rfl (fun he => ?_) (fun he => ?_)
    · have he := push_E.resolve_left (nd_t he)
      refine AW.seq ?_
      refine AW.region (by rw [hE]; rfl) ?_
      refine clv rfl .nil law37_known ?_
      refine mvD rfl ?_
      refine OL.yes rfl ?_
      refine mvD rfl ?_
      refine OL.yes rfl ?_
      refine c_eql rfl rfl (c := true) (decide_eq_true he) ?_
      refine pkT rfl rfl ?_
      refine asD rfl ?_
      refine OL.nil ?_
      exact AW.ret (RetQ.r ⟨_, .tmp rfl .nil, .le (by first | exact VLe.refl _ | exact VLe.mt | exact vle_q0 | exact VLe.int (by omega) | exact VLe.bool (by simp_all))⟩)
    · have hs := push_ok (nd_f he)
      refine AW.skip ?_
      rw [show pushH h o (symX (w ++ v) t) = h from if_pos hs, show pushD h o (symX (w ++ v) t) = stepD h o (symX (w ++ v) t) from if_pos hs]
      refine AW.region (by rw [hE]; rfl) ?_
      first | refine ldPA ag.Online rfl rfl (vs := [_, _, _, _, _, _, _, _, _, _, _, _, _, _, _]) rfl (Nat.le_of_ble_eq_true rfl) ?_ | refine ldRA ag.Online rfl (vs := [_, _, _, _, _, _, _, _, _, _, _, _, _, _, _]) rfl (Nat.le_of_ble_eq_true rfl) ?_
      first | refine sto sz.Online rfl rfl rfl rfl rfl (Nat.le_of_ble_eq_true rfl) (cells2 := [_, _, _, _, _, _, _, _, _, _, _, _, _, _, _]) rfl ?_ | refine stE sz.Online rfl (VC.d _).vd rfl rfl (by omega) rfl ?_
      refine OL.nil ?_
      refine AW.region (by rw [hE]; rfl) ?_
      refine mvD rfl ?_
      refine add_i64 rfl rfl (by omega) ?_
      refine asD rfl ?_
      refine OL.nil ?_
      exact AW.again (x := (t, o)) (t + 1, stepD h o (symX (w ++ v) t)) (by first | omega | (simp only []; omega)) ⟨⟨by omega, by show o.t + 1 = _; omega, by have e := inv_step hg k (by omega) (by rw [hot]; exact someN_iff.1 hs); rw [hot] at e; exact e⟩, Knows.app (.cons (VLe.refl _) (.cons (VLe.refl _) (.cons (VLe.refl _) (.cons (VLe.refl _) .nil)))) (.cons (by first | exact VLe.refl _ | exact VLe.int (by omega) | exact VLe.mt | exact vle_q0 | exact VLe.osl | exact VLe.ptr) .nil), Owns.app (.cons rfl .nil) (.cons rfl .nil)⟩
  · first | (simp only [decide_eq_true_eq, decide_eq_false_iff_not, Bool.not_eq_true', Bool.not_eq_false', Bool.not_not, Bool.and_eq_true, Bool.and_eq_false_iff, Bool.or_eq_true, Bool.or_eq_false_iff] at h39) | skip
    refine AW.exit ?_
    refine AW.seq ?_
    have hte : o.t = w.length := by omega
    refine AW.region_draw 2 [0, 1, 2, 4, 3, 5, 6, 7, 8, 9, 10, 11, 12, 13, 14] order_free (by rw [hE]; rfl) (by kernel_rfl) (OI.of_OL (os := [_, _, _, _, _, _, _, _, _, _, _, _, _, _, _]) rfl ?_)
    first | refine ldPA ag.Hidden rfl rfl (vs := [_, _, _, _, _, _, _, _, _, _, _]) rfl (Nat.le_of_ble_eq_true rfl) ?_ | refine ldRA ag.Hidden rfl (vs := [_, _, _, _, _, _, _, _, _, _, _]) rfl (Nat.le_of_ble_eq_true rfl) ?_
    refine lt0 sl.ints ?_
    first | refine mvD rfl ?_ | refine mvO rfl ?_ | refine mvM rfl ?_
    first | refine mvD rfl ?_ | refine mvO rfl ?_ | refine mvM rfl ?_
    refine apM sl.ints rfl rfl (VC.d _) dI_len (by rw [List.length_map]; omega) (by rw [List.length_map]; omega) rfl fun b64 c64 => ?_
    refine apOD sl.ints rfl rfl rfl rfl (VC.d _) dI_len (by simp only [List.length_map]; omega) (by simp only [List.length_map]; omega) (.inl rfl) (ys := (w ++ v).map dI) (by rw [List.map_append]) ?_
    refine clv rfl (.cons (VLe.refl _) (.cons (VLe.refl _) (.nil))) (vit_Best hg ku) ?_
    first | refine mvD rfl ?_ | refine mvT rfl ?_ | refine mvP rfl ?_ | refine mvR rfl ?_ | refine mvE rfl ?_ | refine mvF rfl ?_ | refine mvA rfl ?_ | refine mvO rfl ?_ | refine mvM rfl ?_ | refine mvJ rfl ?_
    refine ex rfl rfl ?_
    refine ex rfl rfl ?_
    refine ex rfl rfl ?_
    refine al z.Rat rfl fun b17 => ?_
    first | refine asD rfl ?_ | refine asO rfl ?_ | refine asM rfl ?_
    first | refine sto sz.Rat rfl rfl rfl rfl rfl (Nat.le_of_ble_eq_true rfl) (cells2 := [_, _, _]) rfl ?_ | refine stE sz.Rat rfl (VC.d _).vd rfl rfl (by omega) rfl ?_
    refine asD rfl ?_
    refine OL.nil ?_
    refine AW.seq ?_
    refine AW.seq ?_
    refine AW.region (by rw [hE]; rfl) ?_
    refine mvD rfl ?_
    refine c_neq rfl rfl rfl ?_
    refine OL.nil ?_
    refine AW.cond rfl (fun he => ?_) (fun he => ?_)
    · have he := (vitE_cases h (w ++ v) every).resolve_left (nd_t he)
      refine AW.seq ?_
      refine AW.region (by rw [hE]; rfl) ?_
      refine clv rfl .nil law37_known ?_
      refine mvD rfl ?_
      refine OL.yes rfl ?_
      refine mvD rfl ?_
      refine OL.yes rfl ?_
      refine c_eql rfl rfl (c := true) (decide_eq_true he) ?_
      refine pkT rfl rfl ?_
      refine asD rfl ?_
      refine OL.nil ?_
      exact AW.ret (RetQ.r ⟨_, .tmp rfl .nil, .le (by first | exact VLe.refl _ | exact VLe.mt | exact vle_q0 | exact VLe.int (by omega) | exact VLe.bool (by simp_all))⟩)
    · have he := nd_f he
      have hvl := vitP_len he
      obtain ⟨hd1, hd2⟩ := never_vit hg k he
      refine AW.skip ?_
      refine AW.seq ?_
      refine AW.region_draw 1 [0, 1, 2, 3, 4, 5, 6, 7, 8, 9, 10, 11, 12, 13, 14, 15, 16, 17, 18, 19, 20, 21, 22, 23, 24, 25, 26, 27, 28, 29] order_free (by rw [hE]; rfl) (by kernel_rfl) (OI.of_OL (os := [_, _, _, _, _, _, _, _, _, _, _, _, _, _, _, _, _, _, _, _, _, _, _, _, _, _, _, _, _, _]) rfl ?_)
      refine clv rfl .nil law37_known ?_
      refine mvD rfl ?_
      refine OL.yes rfl ?_
      first | refine mvD rfl ?_ | refine mvO rfl ?_ | refine mvM rfl ?_
      refine OL.yes rfl ?_
      first | refine lnL sl.ints rfl rfl ?_ | refine lnO sl.ints rfl rfl ?_ | refine lnM sl.ints rfl rfl ?_ | refine lnD sl.ints rfl rfl rfl ?_
      refine OL.yes rfl ?_
      first | refine mvD rfl ?_ | refine mvO rfl ?_ | refine mvM rfl ?_
      refine OL.yes rfl ?_
      first | refine lnL sl.ints rfl rfl ?_ | refine lnO sl.ints rfl rfl ?_ | refine lnM sl.ints rfl rfl ?_ | refine lnD sl.ints rfl rfl rfl ?_
      refine OL.yes rfl ?_
      first | refine mvD rfl ?_ | refine mvO rfl ?_ | refine mvM rfl ?_
      refine OL.yes rfl ?_
      first | refine lnL sl.ints rfl rfl ?_ | refine lnO sl.ints rfl rfl ?_ | refine lnM sl.ints rfl rfl ?_ | refine lnD sl.ints rfl rfl rfl ?_
      refine OL.yes rfl ?_
      refine add_i64 rfl rfl (by omega) ?_
      refine OL.yes rfl ?_
      refine c_eql rfl rfl (c := true) (decide_eq_true (by omega)) ?_
      refine pkT rfl rfl ?_
      refine mvD rfl ?_
      refine OL.yes rfl ?_
      first | refine faP fd.Online_4 rfl rfl ?_ | refine faR fd.Online_4 rfl rfl ?_ | refine faE fd.Online_4 rfl rfl ?_
      refine OL.yes rfl ?_
      first | refine ldRC ce.ints rfl ?_ | refine ldPC ce.ints rfl rfl rfl ?_
      refine OL.yes rfl ?_
      first | refine lnL sl.ints rfl rfl ?_ | refine lnO sl.ints rfl rfl ?_ | refine lnM sl.ints rfl rfl ?_ | refine lnD sl.ints rfl rfl rfl ?_
      refine OL.yes rfl ?_
      first | refine mvD rfl ?_ | refine mvO rfl ?_ | refine mvM rfl ?_
      refine OL.yes rfl ?_
      first | refine lnL sl.ints rfl rfl ?_ | refine lnO sl.ints rfl rfl ?_ | refine lnM sl.ints rfl rfl ?_ | refine lnD sl.ints rfl rfl rfl ?_
      refine OL.yes rfl ?_
      refine c_leq rfl rfl (c := true) (by first | exact decide_eq_true (by omega) | exact decide_eq_false (by omega) | exact cne_f (by omega) | exact cne_t (by omega) | rfl) ?_
      refine pkT rfl rfl ?_
      refine mvD rfl ?_
      refine OL.yes rfl ?_
      first | refine mvD rfl ?_ | refine mvO rfl ?_ | refine mvM rfl ?_
      refine OL.yes rfl ?_
      first | refine faP fd.Online_4 rfl rfl ?_ | refine faR fd.Online_4 rfl rfl ?_ | refine faE fd.Online_4 rfl rfl ?_
      refine OL.yes rfl ?_
      first | refine ldRC ce.ints rfl ?_ | refine ldPC ce.ints rfl rfl rfl ?_
      refine OL.yes rfl ?_
      first | refine lnL sl.ints rfl rfl ?_ | refine lnO sl.ints rfl rfl ?_ | refine lnM sl.ints rfl rfl ?_ | refine lnD sl.ints rfl rfl rfl ?_
      refine OL.yes rfl ?_
      refine slTo sl.ints rfl rfl (fun _ => rfl) (by omega) (l2 := o.dn) (by rw [Int.toNat_natCast]; exact hd2) ?_
      refine OL.yes rfl ?_
      first | refine faP fd.Online_4 rfl rfl ?_ | refine faR fd.Online_4 rfl rfl ?_ | refine faE fd.Online_4 rfl rfl ?_
      refine OL.yes rfl ?_
      first | refine ldRC ce.ints rfl ?_ | refine ldPC ce.ints rfl rfl rfl ?_
      refine OL.yes rfl ?_
      refine clv rfl (.cons (VLe.refl _) (.cons (VLe.refl _) (.nil))) (law37_same (l := o.dn) (m := o.dn) (by omega)) ?_
      rw [decide_eq_true rfl]
      refine pkT rfl rfl ?_
      refine asD rfl ?_
      refine OL.nil ?_
      exact AW.ret (RetQ.r ⟨_, .tmp rfl .nil, .le (by first | exact VLe.refl _ | exact VLe.mt | exact vle_q0 | exact VLe.int (by omega) | exact VLe.bool (by simp_all))⟩)
end Go.Proofs.YtcebciggodhmcaaGreat

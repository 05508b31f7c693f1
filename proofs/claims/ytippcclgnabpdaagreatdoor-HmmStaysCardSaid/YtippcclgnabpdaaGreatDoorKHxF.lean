/-
  Walks: slices.Compact of whole numbers: some list (printed by mk2.py).
-/
import Derived.Test.YtippcclgnabpdaaGreatDoorKHxD
import Derived.Test.YtippcclgnabpdaaGreatDoorKAlg33
import Derived.Test.YtippcclgnabpdaaGreatDoorKAlg37
import Derived.Test.YtippcclgnabpdaaGreatDoorKMod114
set_option linter.unusedVariables false
set_option linter.unusedSimpArgs false
namespace Go.Proofs.YtippcclgnabpdaaGreatDoor
open Go Go.AL
theorem searchN {l : List Nat} {x : Nat} (hn : l.length ≤ 1048576) : FSpecE P F.slices_BinarySearch_ints_int [.d (.sl (l.map dN)), .d (dN x)] noMem (fun y : Nat × Bool => .tup [.d (dN y.1), .d (dB y.2)]) (fun _ => noMem) (fun y => y.1 ≤ l.length) := by
 refine FSpecE.intro fn.slices_BinarySearch_ints_int (by rfl) (by rfl) (nb9 (by rfl)) fun E hE => (AW.sg hE rfl (asD rfl (asD rfl (OL.nil (AW.sg hE rfl (mvD rfl (lnL (f := dN) sl.ints rfl rfl ?_)))))))
 refine asD rfl (OL.nil (AW.sg hE rfl (mvD rfl (asD rfl (asD rfl (OL.nil (AW.seq ?_)))))))
 refine AW.block ?_
 refine AW.whileK (α := Nat × Nat) [(0, _), (1, _), (4, _), (5, _), (6, _)] [] (fun (i, j) => [(7, .d (dI i)), (8, .d (dI j))]) (fun (i, j) => []) (fun (i, j) => i ≤ j ∧ j ≤ l.length) (fun (i, j) => j - i) (0, l.length) (.cons (knD rfl) (.cons (knD rfl) (.cons (knD rfl) (.cons (knD rfl) (.cons (knD rfl) .nil))))) .nil ⟨⟨Nat.zero_le _, Nat.le_refl _⟩, .rq2, .nil⟩ ?_
 rintro ⟨i, j⟩ ⟨h1, h2⟩
 have h1 : i ≤ j := h1
 have h2 : j ≤ l.length := h2
 refine AW.seq (AW.sg hE rfl (mvD rfl (mvD rfl (c_lss rfl rfl rfl (OL.nil (AW.cond rfl (fun h15 => ?_) (fun h15 => ?_)))))))
 ·try simp only [dx9] at h15
  refine AW.skip (AW.block (AW.seq ?_))
  have hlt : i < j := by omega
  refine AW.rg hE rfl (mvD rfl (mvD rfl (bo rfl rfl (bin_add (c := ((i + j : Nat) : Int)) (by omega) (wrap_i64 (by omega))) (cv it.int it.uint rfl (wrap_u64 (by omega)) (shrV rfl rfl ⟨by decide, by decide⟩ (c := (((i + j) / 2 : Nat) : Int)) (by show (((i + j : Nat) : Int)) / 2 = _; omega) (cv it.uint it.int rfl (wrap_i64 (by omega)) (asD rfl ?_)))))))
  refine OL.nil (AW.sg hE rfl (mvD rfl (mvD rfl (ixLn (f := dN) sl.ints 0 rfl rfl (by omega) rfl rfl (ldRC ce.int rfl (mvD rfl (clv rfl (.cons (VLe.refl _) (.cons (VLe.refl _) (.nil))) (lessN (x := l.getD ((i + j) / 2) 0) (y := x)) ?_)))))))
  refine OL.nil (AW.cond rfl (fun hc => ?_) (fun hc => ?_))
  ·try simp only [dx9] at hc
   refine AW.rg hE rfl (mvD rfl (add_i64 rfl rfl (by omega) (asD rfl (OL.nil ?_))))
   exact AW.again (x := (i, j)) ((i + j) / 2 + 1, j) (by show j - ((i + j) / 2 + 1) < j - i; omega) ⟨⟨by omega, by omega⟩, Knows.app .rq5 (.cons (VLe.int (by omega)) .rq1), .nil⟩
  ·try simp only [dx9] at hc
   refine AW.rg hE rfl (mvD rfl (asD rfl (OL.nil ?_)))
   exact AW.again (x := (i, j)) (i, (i + j) / 2) (by show (i + j) / 2 - i < j - i; omega) ⟨⟨by omega, by omega⟩, Knows.app .rq5 (.cons (VLe.refl _) (.cons (VLe.int (by omega)) .nil)), .nil⟩
 ·try simp only [dx9] at h15
  refine AW.exit (AW.seq ?_)
  have hij : i ≤ l.length := by omega
  refine AW.rg hE rfl (mvD rfl (mvD rfl (mvD rfl (c_lss rfl rfl rfl (OL.split 34 rfl (fun h3 => ?_) (fun h3 => ?_))))))
  ·have h3 : i < l.length := by have := of_decide_eq_true h3; omega
   refine mvD rfl (OL.yes rfl (mvD rfl (OL.yes rfl (mvD rfl (OL.yes rfl (ixLn (f := dN) sl.ints 0 rfl rfl (by omega) rfl rfl (OL.yes rfl ?_)))))))
   refine ldRC ce.int rfl (OL.yes rfl (mvD rfl (OL.yes rfl (c_eql rfl rfl rfl (OL.split 41 rfl (fun h4 => ?_) (fun h4 => ?_))))))
   ·skip
    refine OL.yes rfl (mvD rfl (OL.nd rfl (OL.nd rfl (OL.nd rfl (OL.nd rfl (OL.nd rfl (OL.nd rfl ?_)))))))
    refine OL.nd rfl (OL.nd rfl (OL.nd rfl (OL.yes rfl (pkT rfl rfl (pkT rfl rfl (asD rfl (asD rfl ?_)))))))
    refine OL.nil ?_
    exact AW.ret ⟨(i, true), hij, ⟨_, .tmp rfl (.tmp rfl .nil), _, .cons (.le (VLe.refl _)) (.cons (.le (VLe.refl _)) .nil), rfl⟩, fun _ _ h => by cases h⟩
   ·skip
    refine OL.yes rfl (mvD rfl (OL.yes rfl (mvD rfl (OL.yes rfl (mvD rfl (OL.yes rfl (ixLn (f := dN) sl.ints 0 rfl rfl (by omega) rfl rfl ?_)))))))
    refine OL.yes rfl (ldRC ce.int rfl (OL.yes rfl (clv rfl (.cons (VLe.refl _) (.nil)) (sl_isNaNI) (OL.yes rfl (mvD rfl (OL.split 48 rfl (fun g48 => ?_) (fun g48 => ?_)))))))
    ·try simp only [dx9] at g48
     refine OL.yes rfl (mvD rfl (OL.yes rfl (clv rfl (.cons (VLe.refl _) (.nil)) (sl_isNaNI) (OL.yes rfl (pkT rfl rfl (OL.yes rfl (pkF rfl rfl ?_)))))))
     refine pkT rfl rfl (asD rfl (asD rfl (OL.nil ?_)))
     exact AW.ret ⟨(i, false), hij, ⟨_, .tmp rfl (.tmp rfl .nil), _, .cons (.le (VLe.refl _)) (.cons (.le (VLe.refl _)) .nil), rfl⟩, fun _ _ h => by cases h⟩
    ·try simp only [dx9] at g48
     refine OL.nd rfl (OL.nd rfl (OL.yes rfl (pkF rfl rfl (OL.yes rfl (pkF rfl rfl (pkT rfl rfl (asD rfl ?_)))))))
     refine asD rfl (OL.nil ?_)
     exact AW.ret ⟨(i, false), hij, ⟨_, .tmp rfl (.tmp rfl .nil), _, .cons (.le (VLe.refl _)) (.cons (.le (VLe.refl _)) .nil), rfl⟩, fun _ _ h => by cases h⟩
  ·have h3 : ¬ i < l.length := by have := of_decide_eq_false h3; omega
   refine mvD rfl (OL.nd rfl (OL.nd rfl (OL.nd rfl (OL.nd rfl (OL.nd rfl (OL.nd rfl (OL.nd rfl ?_)))))))
   refine OL.nd rfl (OL.nd rfl (OL.nd rfl (OL.nd rfl (OL.nd rfl (OL.nd rfl (OL.nd rfl (OL.nd rfl ?_)))))))
   refine OL.nd rfl (OL.nd rfl (pkF rfl rfl (asD rfl (asD rfl (OL.nil ?_)))))
   exact AW.ret ⟨(i, false), hij, ⟨_, .tmp rfl (.tmp rfl .nil), _, .cons (.le (VLe.refl _)) (.cons (.le (VLe.refl _)) .nil), rfl⟩, fun _ _ h => by cases h⟩
end Go.Proofs.YtippcclgnabpdaaGreatDoor

set_option linter.unusedVariables false
set_option linter.unusedSimpArgs false
namespace Go.Proofs.YtippcclgnabpdaaGreatDoor
open Go Go.AL
theorem frz_prefix {id b n c : Nat} {es : List D} (hn : n ≤ es.length) : V.frz id b c es (.osl id b n c) = .d (.sl (es.take n)) := by
 simp [V.frz, hn]
set_option maxHeartbeats 800000 in
theorem compactN {l : List Nat} {n b c9 : Nat} (hl : l.length = n) (hn : n ≤ 1048576) : FSpecE P F.slices_Compact_ints_int [.osl 1000 b n c9] (mem1 1000 (.row b c9 T.int 1 ((l).map dN))) (fun y : List Nat => .d (.sl (y.map dN))) (fun _ => noMem) (fun y => y.length ≤ n) := by
 refine FSpecE.intro fn.slices_Compact_ints_int (by rfl) (by rfl) (nb9 (by rfl)) fun E hE => (AW.sg hE rfl (asM rfl (OL.nil (AW.seq (AW.sg hE rfl (mvO rfl (lnO sl.ints rfl rfl ?_)))))))
 refine c_lss rfl rfl rfl (OL.nil (AW.cond rfl (fun h8 => ?_) (fun h8 => ?_)))
 ·try simp only [dx9] at h8
  refine AW.sg hE rfl (mvO rfl (asO rfl (OL.nil (AW.freeze 1000 rfl (AW.ret ⟨l, (by show List.length _ ≤ n; first | omega | (rw [List.length_take]; omega)), ⟨_, .tmp rfl .nil, .le (frz_osl (by rw [List.length_map]; omega) rfl)⟩, fun _ _ h => by cases h⟩)))))
 ·try simp only [dx9] at h8
  refine AW.skip (AW.seq (AW.sg hE rfl (asD rfl (OL.nil (AW.block (AW.whileK (α := Nat) [(0, _)] [] (fun k => [(3, .d (dI k))]) (fun k => [(1000, .row b c9 T.int 1 ((l).map dN))]) (fun k => 1 ≤ k ∧ k ≤ n) (fun k => n - k) 1 (.cons (knO rfl) .nil) .nil ⟨⟨Nat.le_refl _, by omega⟩, .rq1, .cons rfl .nil⟩ ?_))))))
  rintro k ⟨h1, h2⟩
  have h1 : 1 ≤ k := h1
  have h2 : k ≤ n := h2
  refine AW.seq (AW.sg hE rfl (mvD rfl (mvO rfl (lnO sl.ints rfl rfl (c_lss rfl rfl rfl (OL.nil (AW.cond rfl (fun h13 => ?_) (fun h13 => ?_))))))))
  ·try simp only [dx9] at h13
   refine AW.skip (AW.seq (AW.block (AW.seq (AW.dg 1 [0,1,2,3,4,5,6,7,8,9] order_free hE rfl (by kernel_rfl) (OI.of_OL (os := [_,_,_,_,_,_,_,_,_,_]) rfl ?_)))))
   refine mvO rfl (mvD rfl (ixOn sl.ints rfl rfl (by omega) (ldEL ce.int 0 (by decide) rfl rfl (by omega) rfl (mvO rfl (mvD rfl (bo rfl rfl (bin_sub (c := ((k - 1 : Nat) : Int)) (by omega) (wrap_i64 (by omega))) (ixOn sl.ints rfl rfl (by omega) ?_)))))))
   refine ldEL ce.int 0 (by decide) rfl rfl (by omega) rfl (c_eql rfl rfl rfl (OL.nil (AW.cond rfl (fun h25 => ?_) (fun h25 => ?_))))
   ·try simp only [dx9] at h25
    refine AW.sg hE rfl (mvO rfl (mvD rfl (slB (l := k) (n2 := n - k) sl.ints rfl rfl (by omega) rfl (asB rfl (OL.nil (AW.seq (AW.sg hE rfl ?_)))))))
    refine asD rfl (OL.nil (AW.block ?_))
    refine AW.whileK (α := Nat × Nat × List Nat) [(0, _), (4, _)] [] (fun (i, j, u) => [(3, .d (dI i)), (5, .d (dI j))]) (fun (i, j, u) => [(1000, .row b c9 T.int 1 ((u).map dN))]) (fun (i, j, u) => 1 ≤ i ∧ i < k + j ∧ 1 ≤ j ∧ j ≤ n - k ∧ u.length = n) (fun (i, j, u) => n - k - j) (k, 1, l) (.cons (knO rfl) (.cons (knB rfl) .nil)) .nil ⟨⟨h1, by omega, Nat.le_refl _, by omega, hl⟩, .rq2, .cons rfl .nil⟩ ?_
    rintro ⟨i, j, u⟩ ⟨h3, h4, h5, h6, h7⟩
    have h4 : i < k + j := h4
    have h6 : j ≤ n - k := h6
    have h7 : u.length = n := h7
    refine AW.seq (AW.sg hE rfl (mvD rfl (mvB rfl (lnB sl.ints rfl rfl (c_lss rfl rfl rfl (OL.nil (AW.cond rfl (fun h32 => ?_) (fun h32 => ?_))))))))
    ·try simp only [dx9] at h32
     refine AW.skip (AW.seq (AW.block (AW.seq (AW.dg 1 [0,1,2,3,4,5,6,7,8,9] order_free hE rfl (by kernel_rfl) (OI.of_OL (os := [_,_,_,_,_,_,_,_,_,_]) rfl ?_)))))
     refine mvB rfl (mvD rfl (ixBn (n := j) (i := k + j) sl.ints rfl rfl (by omega) rfl (ldEL ce.int 0 (by decide) rfl rfl (by omega) rfl (mvB rfl (mvD rfl (bo rfl rfl (bin_sub (c := ((j - 1 : Nat) : Int)) (by omega) (wrap_i64 (by omega))) (ixBn (n := j - 1) (i := k + (j - 1)) sl.ints rfl rfl (by omega) rfl ?_)))))))
     refine ldEL ce.int 0 (by decide) rfl rfl (by omega) rfl (c_neq rfl rfl rfl (OL.nil (AW.cond rfl (fun h44 => ?_) (fun h44 => ?_))))
     ·try simp only [dx9] at h44
      refine AW.sg hE rfl (mvO rfl (mvD rfl (mvB rfl (mvD rfl (ixBn (n := j) (i := k + j) sl.ints rfl rfl (by omega) rfl (ldEL ce.int 0 (by decide) rfl rfl (by omega) rfl (ixOn sl.ints rfl rfl (by omega) ?_)))))))
      refine stE sz.int rfl (VC.d _).vd rfl rfl (by rw [List.length_map]; omega) (es2 := (u.set i (u.getD (k + j) 0)).map dN) (by rw [List.map_set]) (OL.nil (AW.rg hE rfl (mvD rfl (add_i64 rfl rfl (by omega) (asD rfl (OL.nil (AW.rg hE rfl ?_)))))))
      refine mvD rfl (add_i64 rfl rfl (by omega) (asD rfl (OL.nil ?_)))
      exact AW.again (x := (i, j, u)) (i + 1, j + 1, u.set i (u.getD (k + j) 0)) (by show n - k - (j + 1) < n - k - j; omega) ⟨⟨by omega, by omega, by omega, by omega, by rw [List.length_set]; exact h7⟩, Knows.app .rq2 .rq2, .cons rfl .nil⟩
     ·try simp only [dx9] at h44
      exact AW.skip (AW.rg hE rfl (mvD rfl (add_i64 rfl rfl (by omega) (asD rfl (OL.nil (AW.again (x := (i, j, u)) (i, j + 1, u) (by show n - k - (j + 1) < n - k - j; omega) ⟨⟨h3, by omega, by omega, by omega, h7⟩, Knows.app .rq2 .rq2, .cons rfl .nil⟩))))))
    ·try simp only [dx9] at h32
     refine AW.exit (AW.seq (AW.regionS (by rw [hE]; rfl) (SL.ofOL (mvO rfl (OL.nil ?_)))))
     refine SL.ofOL (mvD rfl (OL.nil ?_))
     refine SL.ofOL (slB (l := i) (n2 := n - i) sl.ints rfl rfl (by omega) rfl (OL.nil ?_))
     refine SL.ofSO rfl (SO.clearB (z := dN 0) trivial sl.ints z.int (VCs.cons (VC.d _) VCs.nil) rfl rfl (by rw [List.length_map]; omega) ?_)
     refine AW.sg hE rfl (mvO rfl (mvD rfl (slO (h := i) sl.ints rfl rfl (by omega) (asO rfl (OL.nil ?_)))))
     refine AW.freeze 1000 rfl (AW.ret ⟨u.take i, (by show List.length _ ≤ n; first | omega | (rw [List.length_take]; omega)), ⟨_, .tmp rfl .nil, .le (vle_of_eq ((frz_prefix (by rw [List.length_append, List.length_take, List.length_map]; omega)).trans (by rw [List.take_append_of_le_length (by rw [List.length_take, List.length_map]; omega), List.take_take, Nat.min_self, ← List.map_take])))⟩, fun _ _ h => by cases h⟩)
   ·try simp only [dx9] at h25
    exact AW.skip (AW.rg hE rfl (mvD rfl (add_i64 rfl rfl (by omega) (asD rfl (OL.nil (AW.again (x := k) (k + 1) (by omega) ⟨⟨by omega, by omega⟩, Knows.app .rq1 .rq1, .cons rfl .nil⟩))))))
  ·try simp only [dx9] at h13
   refine AW.exit (AW.sg hE rfl (mvO rfl (asO rfl (OL.nil (AW.freeze 1000 rfl (AW.ret ⟨l, (by show List.length _ ≤ n; first | omega | (rw [List.length_take]; omega)), ⟨_, .tmp rfl .nil, .le (frz_osl (by rw [List.length_map]; omega) rfl)⟩, fun _ _ h => by cases h⟩))))))
end Go.Proofs.YtippcclgnabpdaaGreatDoor

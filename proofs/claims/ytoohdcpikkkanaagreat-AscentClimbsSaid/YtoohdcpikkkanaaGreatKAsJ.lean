/-
  Walks for chapter 39, part 10: data out of plain numbers; the statement on the bounds (printed by mk2.py).
-/
import Derived.Test.YtoohdcpikkkanaaGreatKMod39c
import Derived.Test.YtoohdcpikkkanaaGreatKNumb
import Derived.Test.YtoohdcpikkkanaaGreatKAsI
set_option linter.unusedVariables false
set_option linter.unusedSimpArgs false
namespace Go.AL
open Go Go.BigFrame
def wdF (L : List Int) (sym : Nat) : Nat → Nat → List Int × Nat
 | 0, a => ([], a)
 | n + 1, a => ((wdF L sym n a).1 ++ [1 + tnext L (wdF L sym n a).2 sym], tat L (wdF L sym n a).2)
def wordN (L : List Int) (a : Nat) : Nat := (tnext L a 5).toNat
def dtF (L : List Int) (sym : Nat) : Nat → Nat → List (List Int) × Nat
 | 0, a => ([], a)
 | m + 1, a => ((dtF L sym m a).1 ++ [(wdF L sym (wordN L (dtF L sym m a).2) (tat L (dtF L sym m a).2)).1], (wdF L sym (wordN L (dtF L sym m a).2) (tat L (dtF L sym m a).2)).2)
def dataN (L : List Int) (most : Nat) : Nat := (1 + tnext L 0 most).toNat
def dataF (L : List Int) (sym most : Nat) : List (List Int) := (dtF L sym (dataN L most) (tat L 0)).1
section
variable {L : List Int} {sym : Nat}
theorem wdF_len (n a : Nat) : (wdF L sym n a).1.length = n := by
 induction n with
 | zero => rfl
 | succ n ih => rw [wdF, List.length_append, ih]; rfl
theorem dtF_len (n a : Nat) : (dtF L sym n a).1.length = n := by
 induction n with
 | zero => rfl
 | succ n ih => rw [dtF, List.length_append, ih]; rfl
theorem wdF_mem (hs : 1 ≤ sym) (n a : Nat) : ∀ x, x ∈ (wdF L sym n a).1 → 1 ≤ x ∧ x ≤ sym := by
 induction n with
 | zero => intro x hx; simp [wdF] at hx
 | succ n ih =>
  intro x hx
  have hx : x ∈ (wdF L sym n a).1 ++ [1 + tnext L (wdF L sym n a).2 sym] := hx
  rcases List.mem_append.1 hx with h | h
  ·exact ih x h
  ·rw [List.mem_singleton.1 h]
   have := tnext_range (L := L) (a := (wdF L sym n a).2) (m := (sym : Int)) (by omega)
   omega
theorem wordN_le (a : Nat) : (wordN L a : Int) = tnext L a 5 ∧ wordN L a ≤ 4 := by
 have := tnext_range (L := L) (a := a) (m := 5) (by decide)
 unfold wordN
 omega
theorem dataN_eq {most : Nat} (h : 1 ≤ most) : (dataN L most : Int) = 1 + tnext L 0 most ∧ 1 ≤ dataN L most ∧ dataN L most ≤ most := by
 have := tnext_range (L := L) (a := 0) (m := (most : Int)) (by omega)
 unfold dataN
 omega
theorem dtF_mem (hs : 1 ≤ sym) (m a : Nat) : ∀ w, w ∈ (dtF L sym m a).1 → w.length ≤ 4 ∧ ∀ x, x ∈ w → 1 ≤ x ∧ x ≤ sym := by
 induction m with
 | zero => intro x hx; simp [dtF] at hx
 | succ n ih =>
  intro x hx
  have hx : x ∈ (dtF L sym n a).1 ++ [(wdF L sym (wordN L (dtF L sym n a).2) (tat L (dtF L sym n a).2)).1] := hx
  rcases List.mem_append.1 hx with h | h
  ·exact ih x h
  ·rw [List.mem_singleton.1 h]
   refine ⟨?_, wdF_mem hs _ _⟩
   rw [wdF_len]
   exact (wordN_le _).2
theorem data_ok {h : HM} {most : Nat} (hs : 1 ≤ h.sym) (ht : h.st ≤ 4) (hm : 1 ≤ most ∧ most ≤ 5) : DataOK h (dataF L h.sym most) := by
 have h1 := dataN_eq (L := L) hm.1
 refine ⟨?_, fun w hw => ?_⟩
 ·unfold dataF; rw [dtF_len]; omega
 ·have h2 := dtF_mem hs _ _ w hw
  exact ⟨⟨by omega, h2.2⟩, ⟨ht, by omega⟩⟩
end
end Go.AL

set_option linter.unusedVariables false
set_option linter.unusedSimpArgs false
namespace Go.Proofs.YtoohdcpikkkanaaGreat
open Go Go.AL
set_option maxRecDepth 4000 in
set_option maxHeartbeats 1600000 in
theorem world_Data {L : List Int} {sym most : Nat} (hs : 1 ≤ sym ∧ sym ≤ 1000) (hm : 1 ≤ most ∧ most ≤ 1000) (nL : L.length ≤ 9223372036854775807) : FSpec P F.world_Data [.d (ints L), .d (dI sym), .d (dI most)] (.d (dIss (dataF L sym most))) := by
 have hN := dataN_eq (L := L) hm.1
 refine FSpec.intro fn.world_Data (by rfl) (by rfl) (nb9 (by rfl)) fun E hE => (AW.sg hE rfl (asM rfl (OL.nil (AW.sg hE rfl (mvD rfl (bd z.Tape pl.Tape (cs := [_,_]) rfl (bxA rfl rfl fun b14 => ?_)))))))
 refine asP rfl (OL.nil (AW.seq (AW.rename 14 1000 rfl (AW.rg hE rfl (asM rfl (OL.nil (AW.seq ?_)))))))
 refine AW.sg hE rfl (mvP rfl (mvD rfl (OL.callM (v := .d (dI (tnext L 0 most))) (.mk (args' := [.ptr 1000 b14 0, .d (dI most)]) rfl (.cons (VLe.ptr) (.cons (VLe.refl _) (.nil))) (mem1_keep (id := 1000) (blk := tapeB b14 L 0) rfl) mem1_sub (tape_Next (by omega) nL)) (bo rfl rfl (bin_add (c := ((dataN L most : Nat) : Int)) (by omega) (wrap_i64 (by omega))) (asD rfl (OL.nil (AW.block ?_)))))))
 refine AW.own 8 39 T.ints 1 rfl rfl ?_
 refine AW.whileK (α := Nat × Nat × Nat) [(1, _), (6, _), (7, _)] [] (fun (m, b, c) => [(8, .osl 39 b m c), (9, .d (dI ((dataN L most : Int) - (m : Int))))]) (fun (m, b, c) => [(39, .row b c T.ints 1 ((dtF L sym m (tat L 0)).1.map ints)), (1000, tapeB b14 L (dtF L sym m (tat L 0)).2)]) (fun (m, b, c) => m ≤ dataN L most) (fun (m, b, c) => dataN L most - m) (0, 0, 0) (.cons (knD rfl) (.cons (knM rfl) (.cons (knP rfl) .nil))) .nil ⟨Nat.zero_le _, .cons (VLe.refl _) (.cons (VLe.int (by simp)) .nil), .cons rfl (.cons rfl .nil)⟩ ?_
 rintro ⟨m, b, c⟩ h1
 have h1 : m ≤ dataN L most := h1
 have hdl : (dtF L sym m (tat L 0)).1.length = m := dtF_len ..
 have hwn := wordN_le (L := L) (dtF L sym m (tat L 0)).2
 refine AW.seq (AW.sg hE rfl (mvD rfl (c_gtr rfl rfl rfl (OL.nil (AW.cond rfl (fun h20 => ?_) (fun h20 => ?_))))))
 ·try simp only [dx9] at h20
  refine AW.skip (AW.seq (AW.block (AW.sg hE rfl (asM rfl (OL.nil (AW.seq (AW.sg hE rfl ?_)))))))
  refine mvP rfl ?_
  refine OL.callM (v := .d (dI (tnext L (dtF L sym m (tat L 0)).2 5))) (.mk (args' := [.ptr 1000 b14 0, .d (dI 5)]) rfl (.cons (VLe.ptr) (.cons (VLe.refl _) (.nil))) (mem1_keep (id := 1000) (blk := tapeB b14 L (dtF L sym m (tat L 0)).2) rfl) mem1_sub (tape_Next (by decide) nL)) ?_
  rw [← hwn.1]
  refine asD rfl (OL.nil (AW.block (AW.own 10 35 T.int 1 rfl rfl ?_)))
  refine AW.whileK (α := Nat × Nat × Nat) [(1, _), (6, _), (7, _), (8, _), (9, _)] [(39, _)] (fun (k, bw, cw) => [(10, .osl 35 bw k cw), (11, .d (dI (((wordN L (dtF L sym m (tat L 0)).2) : Int) - (k : Int))))]) (fun (k, bw, cw) => [(35, .row bw cw T.int 1 ((wdF L sym k (tat L (dtF L sym m (tat L 0)).2)).1.map dI)), (1000, tapeB b14 L (wdF L sym k (tat L (dtF L sym m (tat L 0)).2)).2)]) (fun (k, bw, cw) => k ≤ (wordN L (dtF L sym m (tat L 0)).2)) (fun (k, bw, cw) => (wordN L (dtF L sym m (tat L 0)).2) - k) (0, 0, 0) (.cons (knD rfl) (.cons (knM rfl) (.cons (knP rfl) (.cons (knO rfl) (.cons (knD rfl) .nil))))) (.cons (owR rfl) .nil) ⟨Nat.zero_le _, .cons (VLe.refl _) (.cons (VLe.int (by simp)) .nil), .cons rfl (.cons rfl .nil)⟩ ?_
  rintro ⟨k, bw, cw⟩ h2
  have h2 : k ≤ (wordN L (dtF L sym m (tat L 0)).2) := h2
  have hwl : (wdF L sym k (tat L (dtF L sym m (tat L 0)).2)).1.length = k := wdF_len ..
  have htr := tnext_range (L := L) (a := (wdF L sym k (tat L (dtF L sym m (tat L 0)).2)).2) (m := (sym : Int)) (by omega)
  refine AW.seq (AW.sg hE rfl (mvD rfl (c_gtr rfl rfl rfl (OL.nil (AW.cond rfl (fun h26 => ?_) (fun h26 => ?_))))))
  ·try simp only [dx9] at h26
   refine AW.skip (AW.seq (AW.block (AW.rg hE rfl (mvO rfl (mvP rfl (mvD rfl ?_))))))
   refine OL.callM (v := .d (dI (tnext L (wdF L sym k (tat L (dtF L sym m (tat L 0)).2)).2 sym))) (.mk (args' := [.ptr 1000 b14 0, .d (dI sym)]) rfl (.cons (VLe.ptr) (.cons (VLe.refl _) (.nil))) (mem1_keep (id := 1000) (blk := tapeB b14 L (wdF L sym k (tat L (dtF L sym m (tat L 0)).2)).2) rfl) mem1_sub (tape_Next (by omega) nL)) ?_
   refine add_i64 rfl rfl (by omega) (lt1 sl.ints (VC.d _).vd rfl (by decide) (apO sl.ints rfl rfl rfl (by rw [List.length_map, hwl]) (VC.d _) (by simp [D.cells]) (by simp; omega) (by simp; omega) (.inr rfl) (ys := (wdF L sym (k + 1) (tat L (dtF L sym m (tat L 0)).2)).1.map dI) (by simp [wdF]) (n2 := k + 1) (by simp) fun b3 c3 => (asO rfl (OL.nil (AW.rg hE rfl (mvD rfl (sub_i64 rfl rfl (by omega) ?_)))))))
   refine asD rfl (OL.nil ?_)
   exact AW.again (x := (k, bw, cw)) (k + 1, b3, c3) (by (simp only []; omega)) ⟨by omega, Knows.app (.cons (VLe.refl _) (.cons (VLe.refl _) (.cons (VLe.refl _) (.cons (VLe.refl _) (.cons (VLe.refl _) .nil))))) (.cons (VLe.refl _) (.cons (VLe.int (by omega)) .nil)), Owns.app (.cons rfl .nil) (.cons rfl (.cons rfl .nil))⟩
  ·try simp only [dx9] at h26
   refine AW.exit ?_
   obtain rfl : k = (wordN L (dtF L sym m (tat L 0)).2) := by omega
   refine AW.freeze 35 rfl ?_
   refine AW.to [(1, .d (dI sym)), (6, .mt), (7, .ptr 14 b14 0), (8, .osl 39 b m c), (9, .d (dI ((dataN L most : Int) - (m : Int)))), (10, .d (ints (wdF L sym (wordN L (dtF L sym m (tat L 0)).2) (tat L (dtF L sym m (tat L 0)).2)).1))] [(39, .row b c T.ints 1 ((dtF L sym m (tat L 0)).1.map ints)), (1000, tapeB b14 L (wdF L sym (wordN L (dtF L sym m (tat L 0)).2) (tat L (dtF L sym m (tat L 0)).2)).2)] (.cons (VLe.refl _) (.cons (VLe.refl _) (.cons (VLe.refl _) (.cons (VLe.refl _) (.cons (VLe.refl _) (.cons (frz_osl (by rw [List.length_map, hwl]) rfl) .nil)))))) (.cons rfl (.cons rfl .nil)) ?_
   refine AW.rg hE rfl (mvO rfl (mvD rfl (lt1 sl.intss (VC.d _).vd rfl (by decide) (apO sl.intss rfl rfl rfl (by rw [List.length_map, hdl]) (VC.d _) (by simp [D.cells]) (by simp; omega) (by simp; omega) (.inr rfl) (ys := (dtF L sym (m + 1) (tat L 0)).1.map ints) (by simp [dtF]) (n2 := m + 1) (by simp) fun b2 c2 => (asO rfl (OL.nil (AW.rg hE rfl ?_)))))))
   exact mvD rfl (sub_i64 rfl rfl (by omega) (asD rfl (OL.nil (AW.again (x := (m, b, c)) (m + 1, b2, c2) (by (simp only []; omega)) ⟨by omega, Knows.app (.cons (VLe.refl _) (.cons (VLe.refl _) (.cons (VLe.refl _) .nil))) (.cons (VLe.refl _) (.cons (VLe.int (by omega)) .nil)), .cons rfl (.cons rfl .nil)⟩))))
 ·try simp only [dx9] at h20
  refine AW.exit (AW.seq ?_)
  obtain rfl : m = dataN L most := by omega
  refine AW.freeze 39 rfl (AW.to [(8, .d (dIss (dataF L sym most)))] [] (.cons (frz_osl (by rw [List.length_map, hdl]) rfl) .nil) .nil ?_)
  exact AW.rg hE rfl (mvD rfl (asD rfl (OL.nil (AW.ret (RetQ.r ⟨_, .tmp rfl .nil, .le (VLe.refl _)⟩)))))
end Go.Proofs.YtoohdcpikkkanaaGreat

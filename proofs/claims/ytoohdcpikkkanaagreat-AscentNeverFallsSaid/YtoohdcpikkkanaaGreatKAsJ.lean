/-
  Walks for chapter 39, part 10: data out of plain numbers; the statement on the bounds (printed by mk2.py).
-/
import Derived.Test.YtoohdcpikkkanaaGreatKMod39g
set_option linter.unusedVariables false
set_option linter.unusedSimpArgs false
namespace Go.Proofs.YtoohdcpikkkanaaGreat
open Go Go.AL
set_option maxRecDepth 4000 in
set_option maxHeartbeats 1600000 in
theorem world_Data {L : List Int} {sym most : Nat} (hs : 1 ≤ sym ∧ sym ≤ 1000) (hm : 1 ≤ most ∧ most ≤ 1000) (nL : L.length ≤ 9223372036854775807) : FSpec P F.world_Data [.d (ints L), .d (dI sym), .d (dI most)] (.d (dIss (dataF L sym most))) := by
 have hN := dataN_eq (L := L) hm.1
 refine FSpec.intro fn.world_Data (by rfl) (by rfl) (nb9 (by rfl)) fun E hE => ?_
 refine AW.sg hE rfl ?_
 refine asM rfl ?_
 refine OL.nil ?_
 refine AW.sg hE rfl ?_
 refine mvD rfl ?_
 refine bd z.Tape pl.Tape (cs := [_,_]) rfl ?_
 refine bxA rfl rfl fun b14 => ?_
 refine asP rfl ?_
 refine OL.nil ?_
 refine AW.seq ?_
 refine AW.rename 14 1000 rfl ?_
 refine AW.rg hE rfl ?_
 refine asM rfl ?_
 refine OL.nil ?_
 refine AW.seq ?_
 refine AW.sg hE rfl ?_
 refine mvP rfl ?_
 refine mvD rfl ?_
 refine OL.callM (v := .d (dI (tnext L 0 most))) (.mk (args' := [.ptr 1000 b14 0, .d (dI most)]) rfl (.cons (VLe.ptr) (.cons (VLe.refl _) (.nil))) (mem1_keep (id := 1000) (blk := tapeB b14 L 0) rfl) mem1_sub (tape_Next (by omega) nL)) ?_
 refine bo rfl rfl (bin_add (c := ((dataN L most : Nat) : Int)) (by omega) (wrap_i64 (by omega))) ?_
 refine asD rfl ?_
 refine OL.nil ?_
 refine AW.block ?_
 refine AW.own 8 39 T.ints 1 rfl rfl ?_
 refine AW.whileK (α := Nat × Nat × Nat) [(1, _), (6, _), (7, _)] [] (fun (m, b, c) => [(8, .osl 39 b m c), (9, .d (dI ((dataN L most : Int) - (m : Int))))]) (fun (m, b, c) => [(39, .row b c T.ints 1 ((dtF L sym m (tat L 0)).1.map ints)), (1000, tapeB b14 L (dtF L sym m (tat L 0)).2)]) (fun (m, b, c) => m ≤ dataN L most) (fun (m, b, c) => dataN L most - m) (0, 0, 0) (.cons (knD rfl) (.cons (knM rfl) (.cons (knP rfl) .nil))) .nil ⟨Nat.zero_le _, .cons (VLe.refl _) (.cons (VLe.int (by simp)) .nil), .cons rfl (.cons rfl .nil)⟩ ?_
 rintro ⟨m, b, c⟩ h1
 have h1 : m ≤ dataN L most := h1
 have hdl : (dtF L sym m (tat L 0)).1.length = m := dtF_len ..
 have hwn := wordN_le (L := L) (dtF L sym m (tat L 0)).2
 refine AW.seq ?_
 refine AW.sg hE rfl ?_
 refine mvD rfl ?_
 refine c_gtr rfl rfl rfl ?_
 refine OL.nil ?_
 refine AW.cond rfl (fun h20 => ?_) (fun h20 => ?_)
 ·try simp only [dx9] at h20
  refine AW.skip ?_
  refine AW.seq ?_
  refine AW.block ?_
  refine AW.sg hE rfl ?_
  refine asM rfl ?_
  refine OL.nil ?_
  refine AW.seq ?_
  refine AW.sg hE rfl ?_
  refine mvP rfl ?_
  refine OL.callM (v := .d (dI (tnext L (dtF L sym m (tat L 0)).2 5))) (.mk (args' := [.ptr 1000 b14 0, .d (dI 5)]) rfl (.cons (VLe.ptr) (.cons (VLe.refl _) (.nil))) (mem1_keep (id := 1000) (blk := tapeB b14 L (dtF L sym m (tat L 0)).2) rfl) mem1_sub (tape_Next (by decide) nL)) ?_
  rw [← hwn.1]
  refine asD rfl ?_
  refine OL.nil ?_
  refine AW.block ?_
  refine AW.own 10 35 T.int 1 rfl rfl ?_
  refine AW.whileK (α := Nat × Nat × Nat) [(1, _), (6, _), (7, _), (8, _), (9, _)] [(39, _)] (fun (k, bw, cw) => [(10, .osl 35 bw k cw), (11, .d (dI (((wordN L (dtF L sym m (tat L 0)).2) : Int) - (k : Int))))]) (fun (k, bw, cw) => [(35, .row bw cw T.int 1 ((wdF L sym k (tat L (dtF L sym m (tat L 0)).2)).1.map dI)), (1000, tapeB b14 L (wdF L sym k (tat L (dtF L sym m (tat L 0)).2)).2)]) (fun (k, bw, cw) => k ≤ (wordN L (dtF L sym m (tat L 0)).2)) (fun (k, bw, cw) => (wordN L (dtF L sym m (tat L 0)).2) - k) (0, 0, 0) (.cons (knD rfl) (.cons (knM rfl) (.cons (knP rfl) (.cons (knO rfl) (.cons (knD rfl) .nil))))) (.cons (owR rfl) .nil) ⟨Nat.zero_le _, .cons (VLe.refl _) (.cons (VLe.int (by simp)) .nil), .cons rfl (.cons rfl .nil)⟩ ?_
  rintro ⟨k, bw, cw⟩ h2
  have h2 : k ≤ (wordN L (dtF L sym m (tat L 0)).2) := h2
  have hwl : (wdF L sym k (tat L (dtF L sym m (tat L 0)).2)).1.length = k := wdF_len ..
  have htr := tnext_range (L := L) (a := (wdF L sym k (tat L (dtF L sym m (tat L 0)).2)).2) (m := (sym : Int)) (by omega)
  refine AW.seq ?_
  refine AW.sg hE rfl ?_
  refine mvD rfl ?_
  refine c_gtr rfl rfl rfl ?_
  refine OL.nil ?_
  refine AW.cond rfl (fun h26 => ?_) (fun h26 => ?_)
  ·try simp only [dx9] at h26
   refine AW.skip ?_
   refine AW.seq ?_
   refine AW.block ?_
   refine AW.rg hE rfl ?_
   refine mvO rfl ?_
   refine mvP rfl ?_
   refine mvD rfl ?_
   refine OL.callM (v := .d (dI (tnext L (wdF L sym k (tat L (dtF L sym m (tat L 0)).2)).2 sym))) (.mk (args' := [.ptr 1000 b14 0, .d (dI sym)]) rfl (.cons (VLe.ptr) (.cons (VLe.refl _) (.nil))) (mem1_keep (id := 1000) (blk := tapeB b14 L (wdF L sym k (tat L (dtF L sym m (tat L 0)).2)).2) rfl) mem1_sub (tape_Next (by omega) nL)) ?_
   refine add_i64 rfl rfl (by omega) ?_
   refine lt1 sl.ints (VC.d _).vd rfl (by decide) ?_
   refine apO sl.ints rfl rfl rfl (by rw [List.length_map, hwl]) (VC.d _) (by simp [D.cells]) (by simp; omega) (by simp; omega) (.inr rfl) (ys := (wdF L sym (k + 1) (tat L (dtF L sym m (tat L 0)).2)).1.map dI) (by simp [wdF]) (n2 := k + 1) (by simp) fun b3 c3 => ?_
   refine asO rfl ?_
   refine OL.nil ?_
   refine AW.rg hE rfl ?_
   refine mvD rfl ?_
   refine sub_i64 rfl rfl (by omega) ?_
   refine asD rfl ?_
   refine OL.nil ?_
   exact AW.again (x := (k, bw, cw)) (k + 1, b3, c3) (by (simp only []; omega)) ⟨by omega, Knows.app (.cons (VLe.refl _) (.cons (VLe.refl _) (.cons (VLe.refl _) (.cons (VLe.refl _) (.cons (VLe.refl _) .nil))))) (.cons (VLe.refl _) (.cons (VLe.int (by omega)) .nil)), Owns.app (.cons rfl .nil) (.cons rfl (.cons rfl .nil))⟩
  ·try simp only [dx9] at h26
   refine AW.exit ?_
   obtain rfl : k = (wordN L (dtF L sym m (tat L 0)).2) := by omega
   refine AW.freeze 35 rfl ?_
   refine AW.to [(1, .d (dI sym)), (6, .mt), (7, .ptr 14 b14 0), (8, .osl 39 b m c), (9, .d (dI ((dataN L most : Int) - (m : Int)))), (10, .d (ints (wdF L sym (wordN L (dtF L sym m (tat L 0)).2) (tat L (dtF L sym m (tat L 0)).2)).1))] [(39, .row b c T.ints 1 ((dtF L sym m (tat L 0)).1.map ints)), (1000, tapeB b14 L (wdF L sym (wordN L (dtF L sym m (tat L 0)).2) (tat L (dtF L sym m (tat L 0)).2)).2)] (.cons (VLe.refl _) (.cons (VLe.refl _) (.cons (VLe.refl _) (.cons (VLe.refl _) (.cons (VLe.refl _) (.cons (frz_osl (by rw [List.length_map, hwl]) rfl) .nil)))))) (.cons rfl (.cons rfl .nil)) ?_
   refine AW.rg hE rfl ?_
   refine mvO rfl ?_
   refine mvD rfl ?_
   refine lt1 sl.intss (VC.d _).vd rfl (by decide) ?_
   refine apO sl.intss rfl rfl rfl (by rw [List.length_map, hdl]) (VC.d _) (by simp [D.cells]) (by simp; omega) (by simp; omega) (.inr rfl) (ys := (dtF L sym (m + 1) (tat L 0)).1.map ints) (by simp [dtF]) (n2 := m + 1) (by simp) fun b2 c2 => ?_
   refine asO rfl ?_
   refine OL.nil ?_
   refine AW.rg hE rfl ?_
   refine mvD rfl ?_
   refine sub_i64 rfl rfl (by omega) ?_
   refine asD rfl ?_
   refine OL.nil ?_
   exact AW.again (x := (m, b, c)) (m + 1, b2, c2) (by (simp only []; omega)) ⟨by omega, Knows.app (.cons (VLe.refl _) (.cons (VLe.refl _) (.cons (VLe.refl _) .nil))) (.cons (VLe.refl _) (.cons (VLe.int (by omega)) .nil)), .cons rfl (.cons rfl .nil)⟩
 ·try simp only [dx9] at h20
  refine AW.exit ?_
  refine AW.seq ?_
  obtain rfl : m = dataN L most := by omega
  refine AW.freeze 39 rfl (AW.to [(8, .d (dIss (dataF L sym most)))] [] (.cons (frz_osl (by rw [List.length_map, hdl]) rfl) .nil) .nil ?_)
  refine AW.rg hE rfl ?_
  refine mvD rfl ?_
  refine asD rfl ?_
  refine OL.nil ?_
  exact AW.ret (RetQ.r ⟨_, .tmp rfl .nil, .le (VLe.refl _)⟩)
end Go.Proofs.YtoohdcpikkkanaaGreat

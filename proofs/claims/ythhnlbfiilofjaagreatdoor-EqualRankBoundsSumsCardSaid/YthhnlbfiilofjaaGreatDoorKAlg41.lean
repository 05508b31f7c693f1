/-
  AL, part 41: a call that hands back one new block inside of what it answers.
-/
import Derived.Test.YthhnlbfiilofjaaGreatDoorKWkU
import Derived.Test.YthhnlbfiilofjaaGreatDoorKMod89
import Derived.Test.YthhnlbfiilofjaaGreatDoorKAlg38
set_option linter.unusedVariables false
set_option linter.unusedSimpArgs false
namespace Go.Proofs.YthhnlbfiilofjaaGreatDoor
open Go Go.AL
theorem r5SameT {l m : List Int} (nl : l.length ≤ 1099511627776) (e : l = m) : FSpec P F.ref05_Same [.d (ints l), .d (ints m)] (.d (dB true)) := by
 have h := r5Same (l := l) (m := m) nl
 rwa [decide_eq_true e] at h
theorem take_auto {m : MModel} : Au.Take (autoOf m 2 3) 2 :=
 have ok := auto_ok (m := m) (sym := 2) (most := 3) (by decide) (by decide)
 have hs := stOf_le (m := m) (most := 3) (by decide)
 ⟨⟨ok, auto_sz.wide, rfl, (show 2 ≤ 32 by decide), (by show stOf m 3 ≤ 64; omega)⟩, auto_sz.few (by show stOf m 3 ≤ 6; omega), hs.1⟩
theorem take_letter {q : Rat} (hz : sz q ≤ 1) : Au.Take (letterOf q) 2 :=
 ⟨⟨letter_ok q, (letter_sz hz).wide, rfl, (show 2 ≤ 32 by decide), (show 2 ≤ 64 by decide)⟩, (letter_sz hz).few (show 2 ≤ 6 by decide), (show 1 ≤ 2 by decide)⟩
theorem auto6 {m n : MModel} : (autoOf m 2 3).st + (autoOf n 2 3).st ≤ 6 := by
 have h1 := stOf_le (m := m) (most := 3) (by decide)
 have h2 := stOf_le (m := n) (most := 3) (by decide)
 show stOf m 3 + stOf n 3 ≤ 6
 omega
theorem law23_ring  : FSpec P F.law23_ring [] (vRing) := by
 refine FSpec.intro fn.law23_ring (by rfl) (by rfl) (nb9 (by rfl)) fun E hE => (AW.sg hE rfl (al z.Ring rfl fun b0 => (OL.nil (AW.sg hE rfl (bd z.Ring pl.Ring (cs := [_,_]) rfl (sto sz.Ring rfl rfl rfl rfl rfl (nb9 rfl) (cells2 := [_,_]) rfl (OL.nil ?_)))))))
 exact AW.ret (RetQ.r ⟨_, .cellA rfl rfl ag.Ring (nb9 rfl) .nil, .ag (.cons (.le (VLe.refl _)) (.cons (.le (VLe.mt)) .nil))⟩)
theorem law23_plain {m : MModel} {e : Bool} (n1 : m.ini.length ≤ 9223372036854775807) (n2 : m.fin.length ≤ 9223372036854775807) (n3 : m.arcs.length ≤ 9223372036854775807) : FSpec P F.law23_plain [vModelE m e] (vAu (autoOf m 2 3)) := by
 refine FSpec.intro fn.law23_plain (by rfl) (by rfl) (nb9 (by rfl)) fun E hE => (AW.sg hE rfl (bxA rfl rfl fun b1 => (al z.Auto rfl fun b2 => (OL.nil (AW.sg hE rfl (faP fd.Model_4 rfl rfl (sto sz.bool rfl rfl rfl rfl rfl (nb9 rfl) (cells2 := [_,_,_,_,_]) rfl ?_)))))))
 refine OL.nil (AW.seq (AW.dg 1 [0,1,2,3] order_free hE rfl (by kernel_rfl) (OI.of_OL (os := [_,_,_,_]) rfl ?_)))
 exact ldPA ag.Model rfl rfl (vs := [_,_,_,_,_]) rfl (nb9 rfl) (clv rfl (.nil) (law23_ring) (clv rfl (.cons (VLe.refl _) (.cons (VLe.refl _) (.cons (VLe.refl _) (.cons (VLe.refl _) (.nil))))) (AutoI (m := m) (sym := 2) (most := 3) (by decide) (by decide) n1 n2 n3) (sto sz.Auto rfl rfl rfl rfl rfl (nb9 rfl) (cells2 := [_,_,_,_,_,_,_]) rfl (OL.nil (AW.ret (RetQ.r ⟨_, .cellA rfl rfl ag.Auto (nb9 rfl) .nil, .ag (.cons (.le (VLe.refl _)) (.cons (.le (VLe.refl _)) (.cons (.le (VLe.refl _)) (.cons (.le (VLe.refl _)) (.cons (.le (VLe.refl _)) (.cons (.le (VLe.refl _)) (.cons (.le (VLe.refl _)) .nil)))))))⟩))))))
theorem law23_awake  : FSpec P F.law23_awake [] (.d (dB true)) := by
 refine FSpec.intro fn.law23_awake (by rfl) (by rfl) (nb9 (by rfl)) fun E hE => (AW.sg hE rfl (asD rfl (OL.nil (AW.sg hE rfl (clv rfl (.nil) (law23_ring) (clv rfl .rq2 (ref_OfQ (n := 1) (d := 2) (by decide) (by decide) (by decide)) ?_))))))
 rw [half_q]
 refine bd z.Weight pl.Weight (cs := [_,_,_,_,_,_,_,_]) rfl (clv rfl (.cons (VLe.refl _) (.cons (VLe.refl _) (.cons (VLe.refl _) (.cons (vle_wq) .nil)))) (r6Letter (q := 1 / 2) half_szL half_n0) (mvT rfl (ex rfl rfl (ex rfl rfl (al z.Auto rfl fun b1 => (sto sz.Auto rfl rfl rfl rfl rfl (nb9 rfl) (cells2 := [_,_,_,_,_,_,_]) rfl (asD rfl ?_)))))))
 refine OL.nil (AW.sg hE rfl (clv rfl (.nil) (law23_ring) (clv rfl .rq2 (ref_OfQ (n := 1) (d := 3) (by decide) (by decide) (by decide)) ?_)))
 rw [third_q]
 refine bd z.Weight pl.Weight (cs := [_,_,_,_,_,_,_,_]) rfl (clv rfl (.cons (VLe.refl _) (.cons (VLe.refl _) (.cons (VLe.refl _) (.cons (vle_wq) .nil)))) (r6Letter (q := 1 / 3) third_szL third_n0) (mvT rfl (ex rfl rfl (ex rfl rfl (al z.Auto rfl fun b3 => (sto sz.Auto rfl rfl rfl rfl rfl (nb9 rfl) (cells2 := [_,_,_,_,_,_,_]) rfl (asD rfl ?_)))))))
 refine OL.nil (AW.sg hE rfl (ldPA ag.Auto rfl rfl (vs := [_,_,_,_,_,_,_]) rfl (nb9 rfl) (ldPA ag.Auto rfl rfl (vs := [_,_,_,_,_,_,_]) rfl (nb9 rfl) (clv rfl (.cons (VLe.refl _) (.cons (VLe.refl _) (.nil))) (EqualA (a := letterOf (1 / 2)) (b := letterOf (1 / 3)) (take_letter half_szL) (take_letter third_szL) (by decide) (show 2 + 2 ≤ 6 by decide)) ?_))))
 rw [let_eq]
 refine mvT rfl (ex rfl rfl (ex rfl rfl (ex rfl rfl (asD rfl (asD rfl (asD rfl (OL.nil ?_)))))))
 refine AW.sg hE rfl (ldPA ag.Auto rfl rfl (vs := [_,_,_,_,_,_,_]) rfl (nb9 rfl) (clv rfl (.cons (VLe.refl _) (.nil)) (RankA (a := letterOf (1 / 2)) (take_letter half_szL) (by decide)) ?_))
 rw [let_rank]
 refine mvT rfl (ex rfl rfl (ex rfl rfl (asD rfl (asD rfl (OL.nil (AW.sg hE rfl (mvD rfl ?_)))))))
 refine c_eql rfl rfl (c := true) (decide_eq_true rfl) (mvD rfl (OL.yes rfl (mvD (y := dB false) rfl (OL.yes rfl (nt rfl (pkT rfl rfl (mvD rfl ?_)))))))
 refine OL.yes rfl (mvD rfl (OL.yes rfl (lt1 (y := dI 1) sl.ints (VC.d _).vd rfl (by decide) (OL.yes rfl (clv rfl (.cons (VLe.refl _) (.cons (VLe.refl _) (.nil))) (r5SameT (l := [1]) (m := [1]) (by decide) rfl) (pkT rfl rfl (mvD rfl ?_)))))))
 refine OL.yes rfl (mvD rfl (OL.yes rfl (c_eql rfl rfl (c := true) (decide_eq_true rfl) (pkT rfl rfl (mvD rfl (OL.yes rfl (mvD rfl ?_)))))))
 exact OL.yes rfl (c_eql rfl rfl (c := true) (decide_eq_true rfl) (pkT rfl rfl (asD rfl (OL.nil (AW.ret (RetQ.r ⟨_, .tmp rfl .nil, .le (VLe.refl _)⟩))))))
end Go.Proofs.YthhnlbfiilofjaaGreatDoor

set_option linter.unusedVariables false
set_option linter.unusedSimpArgs false
namespace Go.AL
open Go Go.BigFrame
section
variable {a b : Au} {B N K : Nat} {q : Rat} {s i j : Nat}
theorem moved_len (l : List Arc9) (n : Nat) : (moved l n).length = l.length := List.length_map ..
theorem moved_sz {l : List Arc9} (n : Nat) (h : ∀ x, x ∈ l → sz x.q ≤ B) : ∀ x, x ∈ moved l n → sz x.q ≤ B := fun y hy => by
 obtain ⟨x, hx, rfl⟩ := List.mem_map.1 hy
 exact h x hx
theorem Au.Sz.union (h : a.Sz B N) (k : b.Sz B K) (hn : N + K ≤ 20) (hB : B ≤ 1000) : (unionOf a b).Sz 1048576 20 := by
 have hl : (moved a.arcs 0 ++ moved b.arcs a.st).length ≤ 20 := by
  rw [List.length_append, moved_len, moved_len]
  have := h.num; have := k.num; omega
 refine ⟨fun q hq => ?_, fun q hq => ?_, fun x hx => ?_, Nat.le_trans (formA_len _) hl⟩
 ·rcases List.mem_append.1 hq with hq | hq
  ·have := h.ini q hq; omega
  ·have := k.ini q hq; omega
 ·rcases List.mem_append.1 hq with hq | hq
  ·have := h.fin q hq; omega
  ·have := k.fin q hq; omega
 ·have h1 := formA_sz (B := B) (l := moved a.arcs 0 ++ moved b.arcs a.st) (fun y hy => by
   rcases List.mem_append.1 hy with hy | hy
   ·exact moved_sz 0 h.arc y hy
   ·exact moved_sz a.st k.arc y hy) x hx
  have h2 := Nat.mul_le_mul (show (moved a.arcs 0 ++ moved b.arcs a.st).length + 1 ≤ 21 by omega) (show B + 2 ≤ 1002 by omega)
  omega
theorem Au.Sz.scale (h : a.Sz 1 10) (hq : sz q ≤ 1) : (scaleOf a q).Sz 40 10 := by
 refine ⟨fun y hy => ?_, fun y hy => Nat.le_trans (h.fin y hy) (by decide), fun x hx => ?_, Nat.le_trans (formA_len a.arcs) h.num⟩
 ·obtain ⟨x, hx, rfl⟩ := List.mem_map.1 hy
  have h1 := sz_mul x q
  have h2 := h.ini x hx
  show sz (x * q) ≤ 40
  omega
 ·have h1 := formA_sz h.arc x hx
  have h2 := Nat.mul_le_mul_right (1 + 2) (show a.arcs.length + 1 ≤ 11 by have := h.num; omega)
  omega
theorem Au.Sz.rev (h : a.Sz 1 10) : (revOf a).Sz 40 10 := by
 have hl : (a.arcs.map fun x => (⟨x.t, x.l, x.f, x.q⟩ : Arc9)).length = a.arcs.length := List.length_map ..
 refine ⟨fun y hy => Nat.le_trans (h.fin y hy) (by decide), fun y hy => Nat.le_trans (h.ini y hy) (by decide), fun x hx => ?_, Nat.le_trans (formA_len _) (by rw [hl]; exact h.num)⟩
 have hy9 : ∀ y, y ∈ (a.arcs.map fun x => (⟨x.t, x.l, x.f, x.q⟩ : Arc9)) → sz y.q ≤ 1 := fun y hy => by
  obtain ⟨x, hx, rfl⟩ := List.mem_map.1 hy
  exact h.arc x hx
 have h1 : sz x.q ≤ _ := formA_sz hy9 x hx
 have h2 := Nat.mul_le_mul_right (1 + 2) (show (a.arcs.map fun x => (⟨x.t, x.l, x.f, x.q⟩ : Arc9)).length + 1 ≤ 11 by rw [hl]; have := h.num; omega)
 omega
theorem Au.Sz.up {B2 N2 : Nat} (h : a.Sz B N) (hb : B ≤ B2) (hn : N ≤ N2) : a.Sz B2 N2 :=
 ⟨fun q hq => Nat.le_trans (h.ini q hq) hb, fun q hq => Nat.le_trans (h.fin q hq) hb, fun x hx => Nat.le_trans (h.arc x hx) hb, Nat.le_trans h.num hn⟩
theorem Au.Few.union (h : a.Few) (k : b.Few) (ha : a.Ok) (hn : a.st + b.st ≤ 6) : (unionOf a b).Few := by
 refine ⟨hn, fun q hq => ?_, fun q hq => ?_, fun s i j => ?_⟩
 ·rcases List.mem_append.1 hq with hq | hq
  ·exact h.ini q hq
  ·exact k.ini q hq
 ·rcases List.mem_append.1 hq with hq | hq
  ·exact h.fin q hq
  ·exact k.fin q hq
 ·show sz (entA (formA _) s i j) ≤ 24
  rw [entA_form, entA_app, entA_moved, entA_moved, if_pos ⟨Nat.zero_le _, Nat.zero_le _⟩, Nat.sub_zero, Nat.sub_zero]
  by_cases hc : a.st ≤ i ∧ a.st ≤ j
  ·rw [if_pos hc, entA_out (l := a.arcs) (n := a.st) (fun x hx => ⟨(ha.arc x hx).1, (ha.arc x hx).2.1⟩) (.inl hc.1), Rat.zero_add]
   exact k.ent ..
  ·rw [if_neg hc, Rat.add_zero]
   exact h.ent ..
theorem Au.Few.scale (h : a.Few) (hi : Small 20 a.ini) (hq : sz q ≤ 1) : (scaleOf a q).Few := by
 refine ⟨h.st, fun y hy => ?_, h.fin, fun s i j => ?_⟩
 ·obtain ⟨x, hx, rfl⟩ := List.mem_map.1 hy
  have h1 := sz_mul x q
  have h2 := hi x hx
  show sz (x * q) ≤ 24
  omega
 ·show sz (entA (formA _) s i j) ≤ 24
  rw [entA_form]; exact h.ent ..
theorem entA_swap {l : List Arc9} : entA (l.map fun x => (⟨x.t, x.l, x.f, x.q⟩ : Arc9)) s i j = entA l s j i := by
 unfold entA
 rw [lsum_map]
 refine lsum_congr fun x _ => ?_
 show (if x.t = i ∧ x.l = s + 1 ∧ x.f = j then x.q else 0) = if x.f = j ∧ x.l = s + 1 ∧ x.t = i then x.q else 0
 by_cases hc : x.f = j ∧ x.l = s + 1 ∧ x.t = i
 ·rw [if_pos hc, if_pos ⟨hc.2.2, hc.2.1, hc.1⟩]
 ·rw [if_neg hc, if_neg fun hd => hc ⟨hd.2.2, hd.2.1, hd.1⟩]
theorem Au.Few.rev (h : a.Few) : (revOf a).Few := ⟨h.st, h.fin, h.ini, fun s i j => by
 show sz (entA (formA _) s i j) ≤ 24
 rw [entA_form, entA_swap]; exact h.ent ..⟩
end
end Go.AL

set_option linter.unusedVariables false
set_option linter.unusedSimpArgs false
namespace Go.AL
open Go Go.BigFrame
section
variable {a b : Au} {n s i j k : Nat} {v w out : List Rat} {l : List Arc9} {x : Arc9}
theorem take_snoc9 {α : Type} (d : α) {l : List α} {i : Nat} (h : i < l.length) : l.take (i + 1) = l.take i ++ [l.getD i d] := by
 rw [List.take_succ_eq_append_getElem h, List.getD_eq_getElem?_getD, List.getElem?_eq_getElem h]; rfl
end
end Go.AL

set_option linter.unusedVariables false
set_option linter.unusedSimpArgs false
set_option linter.unusedVariables false
set_option linter.unusedSimpArgs false
namespace Go.AL
open Go Go.BigFrame
section
variable {P : Program} {E : Env} {K : S → Prop} {s : S} {ty : Nat} {pos : String} {after : Array Edge}
theorem After.new1 {F F' : Hp} {w w' : World} {i : Nat} {blk : Blk} (h : After F noMem w F' (mem1 i blk) w') : Ext F w F' w' ∧ BlkOK F' w' blk ∧ ∀ k, blk.owns k → w.heap.size ≤ k ∧ F' k = Option.none := by
 have e : mem1 i blk i = some blk := by unfold mem1; rw [if_pos rfl]
 exact ⟨⟨h.grow.mono fun i x => owned_none i x, h.le, h.sim.imm, fun k p q => (h.new k p q).resolve_right (owned_none k)⟩, h.sim.own i blk e,
  fun k hk => ⟨(h.mnew k ⟨i, blk, e, hk⟩).resolve_right (owned_none k), h.sim.apart i blk k e hk⟩⟩
theorem SO.callNew {α : Type} {f : Operand} {args : Array Operand} {ats : Array TypeId} {fid id : Nat} {caps args' : List V} {blk : α → Blk} {res : α → V} {φ : α → Prop} {dst : Option Nat} {g : Option (Nat × Bool)} (hd : Below' E.n dst)
  (hf : s.ev f = .fn fid caps) (ha : VLes (args.toList.map s.ev ++ caps) args') (hs : FSpecE P fid args' noMem res (fun x => mem1 id (blk x)) φ)
  (h : ∀ x, φ x → K ((⟨s.ρ, upd s.M id (some (blk x))⟩ : S).put dst (res x))) : SO P E ⟨dst, .call { callee := .value f, args := args, argTypes := ats }, ty, pos, after, g⟩ K s := fun F a w hr => by
 have hf' := hr.eval f; rw [hf] at hf'
 generalize haf : a.eval f = af at hf'
 cases hf' with
 | @fn _ us _ hl hrr =>
  have hvs : SimVs F (args.toList.map a.eval ++ us) args' := simVs_le (simVs_app (simVs_map hr.eval _) ⟨hl, hrr⟩) ha
  have hcc := hs.2 F w _ (sim_none hr.sim.imm) hvs
  unfold execOp
  have e1 : (args.map a.eval ++ us.toArray) = (args.toList.map a.eval ++ us).toArray := by simp
  simp only [resolve, haf, Deferred.ofValue, Sem.run_bind, Sem.run_pure, Result.andThen_ok, invoke, Array.empty_append, e1, run_call_fn hs.1]
  refine hcc.mono fun e2 w' ⟨x, hφ, v, F', he, hA, hv⟩ => ?_
  obtain ⟨hx, hok, hfr⟩ := hA.new1
  exact ⟨v, he, F', _, hr.after_put (dst := dst) (After.of_new hr.sim hx id _ hok hfr) hd (v := res x) hv, h x hφ⟩
theorem RO.all {M Mk : Mem} {id b n c e sz : Nat} {es : List D} {d : D} (hM : M id = some (.row b c e sz es)) (hk : Mk id = Option.none) (hn : n = es.length) (hd : d = .sl es) : RO M Mk (.osl id b n c) (.d d) := by
 subst hn hd
 have h := RO.osl (M := M) (Mk := Mk) hM hk (Nat.le_refl es.length)
 rwa [List.take_length] at h
end
end Go.AL

/-
  Walks of packages automaton, words, weigh: normal forms, valid words (printed by mk2.py).
-/
import Derived.Test.YtippcclgnabpdaaGreatDoorKMod85
set_option linter.unusedVariables false
set_option linter.unusedSimpArgs false
namespace Go.Proofs.YtippcclgnabpdaaGreatDoor
open Go Go.AL
theorem take_snoc {α : Type} {l : List α} {i : Nat} (d : α) (hi : i < l.length) : l.take (i + 1) = l.take i ++ [l.getD i d] := by
 rw [List.take_succ_eq_append_getElem hi, List.getD_eq_getElem?_getD, List.getElem?_eq_getElem hi]; rfl
def normOf (a : Au) : Au := { a with arcs := tidyA a.arcs }
theorem normOf_lab {a : Au} (h : a.Ok) : ∀ x, x ∈ (normOf a).arcs → 1 ≤ x.l := PlaceA.tidy (p := fun _ l _ => 1 ≤ l) fun x hx => (h.arc x hx).2.2.1
theorem tidyA_len (l : List Arc9) : (tidyA l).length ≤ l.length := by
 unfold tidyA nzA
 refine Nat.le_trans (List.length_filter_le ..) ?_
 have h := outA_len (sortA l) (sortA l).length
 unfold outA at h
 rw [List.take_length] at h
 have : (sortA l).length = l.length := sortG_len ..
 omega
theorem indexAc {l : List Arc9} {f : Nat} {caps : List V} {p : Arc9 → Bool} (hf : ∀ x, x ∈ l → FSpec P f (vArc x :: caps) (.d (dB (p x)))) (nl : l.length ≤ 1099511627776) : FSpec P F.slices_IndexFunc_Arc_Arc [.d (dArcs l), .fn f caps] (.d (dI (idx1 p l))) := by
 refine FSpec.intro fn.slices_IndexFunc_Arc_Arc (by rfl) (by rfl) (nb9 (by rfl)) fun E hE => (AW.sg hE rfl (asD rfl (OL.nil (AW.seq (AW.sg hE rfl (mvD rfl (lnL sl.Arcs rfl rfl ?_)))))))
 refine mvD rfl (OL.nil (AW.block ?_))
 refine AW.whileK (α := Nat) [(0, _), (1, _), (7, _)] [] (fun i => [(8, .d (dI i))]) (fun i => []) (fun i => i ≤ l.length ∧ ∀ j, j < i → p (l.getD j default) = false) (fun i => l.length - i) 0 (.cons (knD rfl) (.cons (knF rfl) (.cons (knD rfl) .nil))) .nil ⟨⟨Nat.zero_le _, fun j hj => by omega⟩, .rq1, .nil⟩ ?_
 rintro i ⟨h1, h2⟩
 refine AW.sg hE rfl (c_lss rfl rfl rfl (OL.nil (AW.seq (AW.cond rfl (fun h9 => ?_) (fun h9 => ?_)))))
 ·try simp only [dx9] at h9
  refine AW.skip (AW.seq (AW.block (AW.sg hE rfl (mvD rfl (asD rfl (OL.nil (AW.sg hE rfl ?_)))))))
  refine mvF rfl (mvD rfl (mvD rfl (ixLn sl.Arcs default rfl rfl (by omega) rfl rfl (ldRA ag.Arc rfl (vs := [_,_,_,_,_,_,_,_,_,_,_]) rfl (nb9 rfl) (clv rfl (.cons (VLe.refl _) (VLes.refl _)) (hf (l.getD i default) (getD_mem (by omega) _)) (OL.nil (AW.cond rfl (fun h16 => ?_) (fun h16 => ?_))))))))
  ·have h16 := h16
   exact AW.sg hE rfl (mvD rfl (asD rfl (OL.nil (AW.ret (RetQ.r ⟨_, .tmp rfl .nil, .le (VLe.int ((idx1_found (by omega) default h16 h2).symm))⟩)))))
  ·have h16 := h16
   refine AW.skip (AW.rg hE rfl (add_i64 rfl rfl (by omega) (mvD rfl (OL.nil ?_))))
   exact AW.again (x := i) (i + 1) (by omega) ⟨⟨by omega, fun j hj => by rcases Nat.lt_or_ge j i with h | h; exact h2 j h; obtain rfl : j = i := (by omega); exact h16⟩, Knows.app .rq3 .rq1, .nil⟩
 ·try simp only [dx9] at h9
  exact AW.exit (AW.sg hE rfl (asD rfl (OL.nil (AW.ret (RetQ.r ⟨_, .tmp rfl .nil, .le (VLe.int ((idx1_none default fun j hj => h2 j (by omega)).symm))⟩)))))
theorem containsAc {l : List Arc9} {f : Nat} {caps : List V} {p : Arc9 → Bool} (hf : ∀ x, x ∈ l → FSpec P f (vArc x :: caps) (.d (dB (p x)))) (nl : l.length ≤ 1099511627776) : FSpec P F.slices_ContainsFunc_Arc_Arc [.d (dArcs l), .fn f caps] (.d (dB (l.any p))) := by
 refine FSpec.intro fn.slices_ContainsFunc_Arc_Arc (by rfl) (by rfl) (nb9 (by rfl)) fun E hE => (AW.sg hE rfl (asD rfl (OL.nil (AW.sg hE rfl (mvD rfl (mvF rfl (clv rfl (.cons (VLe.refl _) (.cons (VLe.refl _) (.nil))) (indexAc hf nl) ?_)))))))
 exact c_geq rfl rfl rfl (asD rfl (OL.nil (AW.ret (RetQ.r ⟨_, .tmp rfl .nil, .le (VLe.bool (idx1_any p l))⟩))))
theorem CopyR {l : List Rat} (nl : l.length ≤ 64) (hz : ∀ x, x ∈ l → sz x ≤ 134217728) : FSpec P F.automaton_Copy [vRing, .d (dWs l)] (.d (dWs l)) := by
 refine FSpec.intro fn.automaton_Copy (by rfl) (by rfl) (nb9 (by rfl)) fun E hE => (AW.sg hE rfl (bxA rfl rfl fun b2 => (asM rfl (OL.nil (AW.sg hE rfl (asM rfl (OL.nil ?_)))))))
 refine AW.seq (AW.seq (AW.own 5 21 T.Weight 8 rfl rfl (AW.rg hE rfl (mvD rfl (lnL sl.Weights rfl rfl (mvD rfl (OL.nil ?_)))))))
 refine AW.block ?_
 refine AW.whileK (α := Nat × Nat × Nat) [(2, _), (4, _), (8, _), (9, _)] [(2, _)] (fun (i, bq, cq) => [(5, .osl 21 bq i cq), (10, .d (dI i))]) (fun (i, bq, cq) => [(21, .row bq cq T.Weight 8 ((l.take i).map dW))]) (fun (i, bq, cq) => i ≤ l.length) (fun (i, bq, cq) => l.length - i) (0, 0, 0) (.cons (knP rfl) (.cons (knM rfl) (.cons (knD rfl) (.cons (knD rfl) .nil)))) (.cons (owB rfl) .nil) ⟨Nat.zero_le _, .rq2, .cons rfl .nil⟩ ?_
 rintro ⟨i, bq, cq⟩ h1
 have h1 : i ≤ l.length := h1
 refine AW.sg hE rfl (c_lss rfl rfl rfl (OL.nil (AW.seq (AW.cond rfl (fun h11 => ?_) (fun h11 => ?_)))))
 ·try simp only [dx9] at h11
  refine AW.skip (AW.seq (AW.block (AW.seq ?_)))
  have hx := hz (l.getD i 0) (getD_mem (by omega) 0)
  refine AW.rg hE rfl (ixLn sl.Weights 0 rfl rfl (by omega) rfl rfl (ldRA ag.Weight rfl (vs := [_,_,_,_,_,_,_,_]) rfl (nb9 rfl) (al z.Weight rfl fun b7 => (sto sz.Weight rfl rfl rfl rfl rfl (nb9 rfl) (cells2 := [_,_,_,_,_,_,_,_]) rfl (OL.nil (AW.dg 2 [0,1,2,3,4,5,6,7,8] order_free hE rfl (by kernel_rfl) (OI.of_OL (os := [_,_,_,_,_,_,_,_,_]) rfl ?_)))))))
  refine mvO rfl (ldPA ag.Ring rfl rfl (vs := [_,_]) rfl (nb9 rfl) (ldPA ag.Weight rfl rfl (vs := [_,_,_,_,_,_,_,_]) rfl (nb9 rfl) (ldPA ag.Ring rfl rfl (vs := [_,_]) rfl (nb9 rfl) (clv rfl (.cons (VLe.refl _) (.nil)) (ZeroR) (clv rfl (.cons (VLe.refl _) (.cons (VLe.refl _) (.cons (VLe.refl _) (.nil)))) (PlusR (p := (l.getD i 0)) (q := 0) (by omega) z0K) ?_)))))
  rw [Rat.add_zero]
  refine lt1 (y := dW (l.getD i 0)) sl.Weights vd_w rfl (by decide) ?_
  refine apO sl.Weights rfl rfl rfl (by rw [List.length_map, List.length_take]; omega) (VC.d _) (fun y hy => by rw [List.mem_singleton.1 hy]; rfl) (by simp; omega) (by simp; omega) (.inr rfl) (ys := (l.take (i + 1)).map dW) (by rw [take_snoc 0 (show i < l.length by omega), List.map_append]; rfl) (n2 := i + 1) rfl fun b2 c2 => ?_
  refine asO rfl (OL.nil (AW.rg hE rfl (add_i64 rfl rfl (by omega) (mvD rfl (OL.nil ?_)))))
  exact AW.again (x := (i, bq, cq)) (i + 1, b2, c2) (by (simp only []; omega)) ⟨by omega, Knows.app .rq4 .rq2, Owns.app (.cons rfl .nil) (.cons rfl .nil)⟩
 ·try simp only [dx9] at h11
  refine AW.exit (AW.seq ?_)
  obtain rfl : i = l.length := by omega
  refine AW.freeze 21 rfl (AW.to [(5, .d (dWs l))] [] (.cons (frz_osl (by rw [List.length_map, List.length_take, Nat.min_self]) (by rw [List.take_length])) .nil) .nil ?_)
  exact AW.rg hE rfl (mvD rfl (asD rfl (OL.nil (AW.ret (RetQ.r ⟨_, .tmp rfl .nil, .le (VLe.refl _)⟩)))))
theorem ringR  : FSpec P F.automaton_ring [vRing] (vRing) := by
 refine FSpec.intro fn.automaton_ring (by rfl) (by rfl) (nb9 (by rfl)) fun E hE => (AW.sg hE rfl (bxA rfl rfl fun b1 => (al z.Ring rfl fun b2 => (OL.nil (AW.seq (AW.dg 1 [0,1,2,3,4,5,6] order_free hE rfl (by kernel_rfl) (OI.of_OL (os := [_,_,_,_,_,_,_]) rfl ?_)))))))
 refine faP fd.Ring_0 rfl rfl (ldPC ce.int rfl rfl rfl (faP fd.Ring_1 rfl rfl (ldPC ce.ints rfl rfl rfl (clv rfl (.cons (VLe.refl _) (.nil)) (clone_ints (l := []) (by decide)) (bd z.Ring pl.Ring (cs := [_,_]) rfl (sto sz.Ring rfl rfl rfl rfl rfl (nb9 rfl) (cells2 := [_,_]) rfl (OL.nil ?_)))))))
 exact AW.ret (RetQ.r ⟨_, .cellA rfl rfl ag.Ring (nb9 rfl) .nil, .ag (.cons (.le (VLe.refl _)) (.cons (.le (VLe.refl _)) .nil))⟩)
theorem ValidA {a : Au} (h : a.Ok) (za : a.Sz 134217728 20) (s1 : a.sym ≤ 32) (s2 : a.st ≤ 64) : FSpec P F.automaton_Valid [vAu a] (.d (dB true)) := by
 have e0 := h.sym0
 have e1 := h.ini
 have e2 := h.fin
 have e3 := za.num
 refine FSpec.intro fn.automaton_Valid (by rfl) (by rfl) (nb9 (by rfl)) fun E hE => (AW.sg hE rfl (bxA rfl rfl fun b1 => (asD rfl (OL.nil (AW.seq (AW.sg hE rfl (faP fd.Auto_0 rfl rfl ?_)))))))
 refine ldPA ag.Ring rfl rfl (vs := [_,_]) rfl (nb9 rfl) (clv rfl .rq1 (validR) (nt rfl (mvD rfl (OL.yes rfl (faP fd.Auto_1 rfl rfl (OL.yes rfl (ldPC ce.int rfl rfl rfl ?_)))))))
 refine OL.yes rfl (c_lss rfl rfl (c := false) (by exact decide_eq_false (by omega)) (pkF rfl rfl (mvD rfl (OL.yes rfl (faP fd.Auto_1 rfl rfl (OL.yes rfl (ldPC ce.int rfl rfl rfl ?_)))))))
 refine OL.yes rfl (c_gtr rfl rfl (c := false) (by exact decide_eq_false (by omega)) (pkF rfl rfl (mvD rfl (OL.yes rfl (faP fd.Auto_2 rfl rfl (OL.yes rfl (ldPC ce.int rfl rfl rfl ?_)))))))
 refine OL.yes rfl (c_lss rfl rfl (c := false) (by exact decide_eq_false (by omega)) (pkF rfl rfl (mvD rfl (OL.yes rfl (faP fd.Auto_2 rfl rfl (OL.yes rfl (ldPC ce.int rfl rfl rfl ?_)))))))
 refine OL.yes rfl (c_gtr rfl rfl (c := false) (by exact decide_eq_false (by omega)) (pkF rfl rfl (mvD rfl (OL.yes rfl (faP fd.Auto_3 rfl rfl (OL.yes rfl (ldPC ce.Weights rfl rfl rfl ?_)))))))
 refine OL.yes rfl (lnL sl.Weights rfl rfl (OL.yes rfl (faP fd.Auto_2 rfl rfl (OL.yes rfl (ldPC ce.int rfl rfl rfl (OL.yes rfl (c_neq rfl rfl (c := false) (by exact cne_f (by omega)) ?_)))))))
 refine pkF rfl rfl (mvD rfl (OL.yes rfl (faP fd.Auto_4 rfl rfl (OL.yes rfl (ldPC ce.Weights rfl rfl rfl (OL.yes rfl (lnL sl.Weights rfl rfl ?_)))))))
 refine OL.yes rfl (faP fd.Auto_2 rfl rfl (OL.yes rfl (ldPC ce.int rfl rfl rfl (OL.yes rfl (c_neq rfl rfl (c := false) (by exact cne_f (by omega)) (pkF rfl rfl (mvD rfl ?_)))))))
 refine OL.yes rfl (faP fd.Auto_5 rfl rfl (OL.yes rfl (ldPC ce.Arcs rfl rfl rfl (OL.yes rfl (lnL sl.Arcs rfl rfl (OL.yes rfl (c_gtr rfl rfl (c := false) (by exact decide_eq_false (by omega)) ?_)))))))
 refine pkF rfl rfl (OL.nil (AW.cond rfl (fun hno => absurd hno (by decide)) (fun _ => ?_)))
 refine AW.skip (AW.seq (AW.seq (AW.freezeBox 1 [dI 1, .sl [], dI a.sym, dI a.st, dWs a.ini, dWs a.fin, dArcs a.arcs] rfl (VCs.map_d [dI 1, .sl [], dI a.sym, dI a.st, dWs a.ini, dWs a.fin, dArcs a.arcs]) (AW.to [(1, rAu a), (2, .d (dB false))] [] (.cons (vle_of_eq (show V.frb 1 b1 [dI 1, .sl [], dI a.sym, dI a.st, dWs a.ini, dWs a.fin, dArcs a.arcs] (.ptr 1 b1 0) = rAu a from frb_self)) .rq1) .nil (AW.rg hE rfl (faR fd.Auto_5 rfl rfl (ldRC ce.Arcs rfl ?_)))))))
 refine mkF (vs := [_]) rfl (clv rfl (.cons (VLe.refl _) (.cons (VLe.refl _) (.nil))) (containsAc (l := a.arcs) (f := F.automaton_Valid_1) (caps := [rAu a]) (p := fun _ => false) (fun x hx => Valid_1 (h.arc x hx) (Nat.le_trans (za.arc x hx) (by decide))) (by omega)) ?_)
 rw [any_false fun x _ => rfl]
 refine OL.nil (AW.cond rfl (fun hno => absurd hno (by decide)) (fun _ => ?_))
 refine AW.skip (AW.sg hE rfl (faR fd.Auto_0 rfl rfl (ldRA ag.Ring rfl (vs := [_,_]) rfl (nb9 rfl) (faR fd.Auto_3 rfl rfl (ldRC ce.Weights rfl (clv rfl (.cons (VLe.refl _) (.cons (VLe.refl _) (.nil))) (weightsA (l := a.ini) (fun x hx => Nat.le_trans (za.ini x hx) (by decide)) (by omega)) (mvD rfl ?_)))))))
 refine OL.yes rfl (faR fd.Auto_0 rfl rfl (OL.yes rfl (ldRA ag.Ring rfl (vs := [_,_]) rfl (nb9 rfl) (OL.yes rfl (faR fd.Auto_4 rfl rfl (OL.yes rfl (ldRC ce.Weights rfl ?_)))))))
 exact OL.yes rfl (clv rfl (.cons (VLe.refl _) (.cons (VLe.refl _) (.nil))) (weightsA (l := a.fin) (fun x hx => Nat.le_trans (za.fin x hx) (by decide)) (by omega)) (pkT rfl rfl (asD rfl (OL.nil (AW.ret (RetQ.r ⟨_, .tmp rfl .nil, .le (VLe.refl _)⟩))))))
theorem NormalA {a : Au} (h : a.Ok) (za : a.Sz 134217728 20) (s1 : a.sym ≤ 32) (s2 : a.st ≤ 64) : FSpec P F.automaton_Normal [vAu a] (.tup [vAu (normOf a), .d (dI 0)]) := by
 have e0 := h.sym0
 have e1 := h.ini
 have e2 := h.fin
 have e3 := za.num
 refine FSpec.intro fn.automaton_Normal (by rfl) (by rfl) (nb9 (by rfl)) fun E hE => (AW.sg hE rfl (bxA rfl rfl fun b1 => (al z.Auto rfl fun b2 => (asD rfl (OL.nil (AW.seq (AW.sg hE rfl ?_)))))))
 refine ldPA ag.Auto rfl rfl (vs := [_,_,_,_,_,_,_]) rfl (nb9 rfl) (clv rfl .rq1 (ValidA h za s1 s2) (nt rfl (OL.nil (AW.cond rfl (fun hno => absurd hno (by decide)) (fun _ => ?_)))))
 refine AW.skip (AW.seq (AW.dg 1 [0,1,2,3,4,5,6,7,8,9,10,11,12,13,14,15,16,17,18,19,20,21,22,23,24] order_free hE rfl (by kernel_rfl) (OI.of_OL (os := [_,_,_,_,_,_,_,_,_,_,_,_,_,_,_,_,_,_,_,_,_,_,_,_,_]) rfl ?_)))
 refine faP fd.Auto_0 rfl rfl (ldPA ag.Ring rfl rfl (vs := [_,_]) rfl (nb9 rfl) (clv rfl .rq1 (ringR) (faP fd.Auto_1 rfl rfl (ldPC ce.int rfl rfl rfl (faP fd.Auto_2 rfl rfl (ldPC ce.int rfl rfl rfl (faP fd.Auto_0 rfl rfl ?_)))))))
 refine ldPA ag.Ring rfl rfl (vs := [_,_]) rfl (nb9 rfl) (faP fd.Auto_3 rfl rfl (ldPC ce.Weights rfl rfl rfl (clv rfl (.cons (VLe.refl _) (.cons (VLe.refl _) (.nil))) (CopyR (l := a.ini) (by omega) za.ini) (faP fd.Auto_0 rfl rfl (ldPA ag.Ring rfl rfl (vs := [_,_]) rfl (nb9 rfl) (faP fd.Auto_4 rfl rfl (ldPC ce.Weights rfl rfl rfl ?_)))))))
 refine clv rfl (.cons (VLe.refl _) (.cons (VLe.refl _) (.nil))) (CopyR (l := a.fin) (by omega) za.fin) (faP fd.Auto_0 rfl rfl (ldPA ag.Ring rfl rfl (vs := [_,_]) rfl (nb9 rfl) (faP fd.Auto_5 rfl rfl (ldPC ce.Arcs rfl rfl rfl (clv rfl (.cons (VLe.refl _) (.cons (VLe.refl _) (.nil))) (TidyR (l := a.arcs) e3 za.arc) (bd2 (cs := [_,_,_,_,_,_,_]) z.Auto pl.Auto (pvC (by exact evA rfl) (pvC (by exact evD rfl) (pvC (by exact evD rfl) (pvC (by exact evD rfl) (pvC (by exact evD rfl) (pvC (by exact evD rfl) (pvN))))))) (by rfl) (sto sz.Auto rfl rfl rfl rfl rfl (nb9 rfl) (cells2 := [_,_,_,_,_,_,_]) rfl ?_)))))))
 refine asD rfl (OL.nil ?_)
 exact AW.ret (RetQ.r ⟨_, .cellA rfl rfl ag.Auto (nb9 rfl) (.tmp rfl .nil), _, .cons (.ag (.cons (.le (VLe.refl _)) (.cons (.le (VLe.refl _)) (.cons (.le (VLe.refl _)) (.cons (.le (VLe.refl _)) (.cons (.le (VLe.refl _)) (.cons (.le (VLe.refl _)) (.cons (.le (VLe.refl _)) .nil)))))))) (.cons (.le (VLe.refl _)) .nil), rfl⟩)
theorem Ready_1 {x : Arc9} (hx : 1 ≤ x.l) : FSpec P F.weigh_Ready_1 [vArc x] (.d (dB false)) := by
 refine FSpec.intro fn.weigh_Ready_1 (by rfl) (by rfl) (nb9 (by rfl)) fun E hE => (AW.sg hE rfl (bxA rfl rfl fun b1 => (asD rfl (OL.nil (AW.sg hE rfl (faP fd.Arc_1 rfl rfl (ldPC ce.int rfl rfl rfl ?_)))))))
 exact c_eql rfl rfl (c := false) (by exact decide_eq_false (by omega)) (asD rfl (OL.nil (AW.ret (RetQ.r ⟨_, .tmp rfl .nil, .le (VLe.refl _)⟩))))
end Go.Proofs.YtippcclgnabpdaaGreatDoor

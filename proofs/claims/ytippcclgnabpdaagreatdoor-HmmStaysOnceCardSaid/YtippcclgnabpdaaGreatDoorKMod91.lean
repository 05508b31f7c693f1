/-
  M, chapter 23: weights of words by the arcs, and all words of at most three symbols of two.
-/
import Derived.Test.YtippcclgnabpdaaGreatDoorKMod85
set_option linter.unusedVariables false
set_option linter.unusedSimpArgs false
namespace Go.Proofs.YtippcclgnabpdaaGreatDoor
open Go Go.AL
theorem take_snoc {α : Type} {l : List α} {i : Nat} (d : α) (hi : i < l.length) : l.take (i + 1) = l.take i ++ [l.getD i d] := by
 rw [List.take_succ_eq_append_getElem hi, List.getD_eq_getElem?_getD, List.getElem?_eq_getElem hi]; rfl
def normOf (a : Au) : Au := { a with arcs := tidyA a.arcs }
theorem normOf_lab {a : Au} (h : a.Ok) : ∀ x, x ∈ (normOf a).arcs → 1 ≤ x.l := PlaceA.tidy (p := fun _ l _ => 1 ≤ l) fun x hx => (h.arc x hx).2.2.1
theorem tidyA_len (l : List Arc9) : (tidyA l).length ≤ l.length := by
 unfold tidyA nzA
 refine Nat.le_trans (List.length_filter_le ..) ?_
 have h := outA_len (sortA l) (sortA l).length
 unfold outA at h
 rw [List.take_length] at h
 have : (sortA l).length = l.length := sortG_len ..
 omega
theorem indexAc {l : List Arc9} {f : Nat} {caps : List V} {p : Arc9 → Bool} (hf : ∀ x, x ∈ l → FSpec P f (vArc x :: caps) (.d (dB (p x)))) (nl : l.length ≤ 1099511627776) : FSpec P F.slices_IndexFunc_Arc_Arc [.d (dArcs l), .fn f caps] (.d (dI (idx1 p l))) := by
 refine FSpec.intro fn.slices_IndexFunc_Arc_Arc (by rfl) (by rfl) (nb9 (by rfl)) fun E hE => (AW.sg hE rfl (asD rfl (OL.nil (AW.seq (AW.sg hE rfl (mvD rfl (lnL sl.Arcs rfl rfl ?_)))))))
 refine mvD rfl (OL.nil (AW.block ?_))
 refine AW.whileK (α := Nat) [(0, _), (1, _), (7, _)] [] (fun i => [(8, .d (dI i))]) (fun i => []) (fun i => i ≤ l.length ∧ ∀ j, j < i → p (l.getD j default) = false) (fun i => l.length - i) 0 (.cons (knD rfl) (.cons (knF rfl) (.cons (knD rfl) .nil))) .nil ⟨⟨Nat.zero_le _, fun j hj => by omega⟩, .rq1, .nil⟩ ?_
 rintro i ⟨h1, h2⟩
 refine AW.sg hE rfl (c_lss rfl rfl rfl (OL.nil (AW.seq (AW.cond rfl (fun h9 => ?_) (fun h9 => ?_)))))
 ·try simp only [dx9] at h9
  refine AW.skip (AW.seq (AW.block (AW.sg hE rfl (mvD rfl (asD rfl (OL.nil (AW.sg hE rfl ?_)))))))
  refine mvF rfl (mvD rfl (mvD rfl (ixLn sl.Arcs default rfl rfl (by omega) rfl rfl (ldRA ag.Arc rfl (vs := [_,_,_,_,_,_,_,_,_,_,_]) rfl (nb9 rfl) (clv rfl (.cons (VLe.refl _) (VLes.refl _)) (hf (l.getD i default) (getD_mem (by omega) _)) (OL.nil (AW.cond rfl (fun h16 => ?_) (fun h16 => ?_))))))))
  ·have h16 := h16
   exact AW.sg hE rfl (mvD rfl (asD rfl (OL.nil (AW.ret (RetQ.r ⟨_, .tmp rfl .nil, .le (VLe.int ((idx1_found (by omega) default h16 h2).symm))⟩)))))
  ·have h16 := h16
   refine AW.skip (AW.rg hE rfl (add_i64 rfl rfl (by omega) (mvD rfl (OL.nil ?_))))
   exact AW.again (x := i) (i + 1) (by omega) ⟨⟨by omega, fun j hj => by rcases Nat.lt_or_ge j i with h | h; exact h2 j h; obtain rfl : j = i := (by omega); exact h16⟩, Knows.app .rq3 .rq1, .nil⟩
 ·try simp only [dx9] at h9
  exact AW.exit (AW.sg hE rfl (asD rfl (OL.nil (AW.ret (RetQ.r ⟨_, .tmp rfl .nil, .le (VLe.int ((idx1_none default fun j hj => h2 j (by omega)).symm))⟩)))))
theorem containsAc {l : List Arc9} {f : Nat} {caps : List V} {p : Arc9 → Bool} (hf : ∀ x, x ∈ l → FSpec P f (vArc x :: caps) (.d (dB (p x)))) (nl : l.length ≤ 1099511627776) : FSpec P F.slices_ContainsFunc_Arc_Arc [.d (dArcs l), .fn f caps] (.d (dB (l.any p))) := by
 refine FSpec.intro fn.slices_ContainsFunc_Arc_Arc (by rfl) (by rfl) (nb9 (by rfl)) fun E hE => (AW.sg hE rfl (asD rfl (OL.nil (AW.sg hE rfl (mvD rfl (mvF rfl (clv rfl (.cons (VLe.refl _) (.cons (VLe.refl _) (.nil))) (indexAc hf nl) ?_)))))))
 exact c_geq rfl rfl rfl (asD rfl (OL.nil (AW.ret (RetQ.r ⟨_, .tmp rfl .nil, .le (VLe.bool (idx1_any p l))⟩))))
theorem CopyR {l : List Rat} (nl : l.length ≤ 64) (hz : ∀ x, x ∈ l → sz x ≤ 134217728) : FSpec P F.automaton_Copy [vRing, .d (dWs l)] (.d (dWs l)) := by
 refine FSpec.intro fn.automaton_Copy (by rfl) (by rfl) (nb9 (by rfl)) fun E hE => (AW.sg hE rfl (bxA rfl rfl fun b2 => (asM rfl (OL.nil (AW.sg hE rfl (asM rfl (OL.nil ?_)))))))
 refine AW.seq (AW.seq (AW.own 5 21 T.Weight 8 rfl rfl (AW.rg hE rfl (mvD rfl (lnL sl.Weights rfl rfl (mvD rfl (OL.nil ?_)))))))
 refine AW.block ?_
 refine AW.whileK (α := Nat × Nat × Nat) [(2, _), (4, _), (8, _), (9, _)] [(2, _)] (fun (i, bq, cq) => [(5, .osl 21 bq i cq), (10, .d (dI i))]) (fun (i, bq, cq) => [(21, .row bq cq T.Weight 8 ((l.take i).map dW))]) (fun (i, bq, cq) => i ≤ l.length) (fun (i, bq, cq) => l.length - i) (0, 0, 0) (.cons (knP rfl) (.cons (knM rfl) (.cons (knD rfl) (.cons (knD rfl) .nil)))) (.cons (owB rfl) .nil) ⟨Nat.zero_le _, .rq2, .cons rfl .nil⟩ ?_
 rintro ⟨i, bq, cq⟩ h1
 have h1 : i ≤ l.length := h1
 refine AW.sg hE rfl (c_lss rfl rfl rfl (OL.nil (AW.seq (AW.cond rfl (fun h11 => ?_) (fun h11 => ?_)))))
 ·try simp only [dx9] at h11
  refine AW.skip (AW.seq (AW.block (AW.seq ?_)))
  have hx := hz (l.getD i 0) (getD_mem (by omega) 0)
  refine AW.rg hE rfl (ixLn sl.Weights 0 rfl rfl (by omega) rfl rfl (ldRA ag.Weight rfl (vs := [_,_,_,_,_,_,_,_]) rfl (nb9 rfl) (al z.Weight rfl fun b7 => (sto sz.Weight rfl rfl rfl rfl rfl (nb9 rfl) (cells2 := [_,_,_,_,_,_,_,_]) rfl (OL.nil (AW.dg 2 [0,1,2,3,4,5,6,7,8] order_free hE rfl (by kernel_rfl) (OI.of_OL (os := [_,_,_,_,_,_,_,_,_]) rfl ?_)))))))
  refine mvO rfl (ldPA ag.Ring rfl rfl (vs := [_,_]) rfl (nb9 rfl) (ldPA ag.Weight rfl rfl (vs := [_,_,_,_,_,_,_,_]) rfl (nb9 rfl) (ldPA ag.Ring rfl rfl (vs := [_,_]) rfl (nb9 rfl) (clv rfl (.cons (VLe.refl _) (.nil)) (ZeroR) (clv rfl (.cons (VLe.refl _) (.cons (VLe.refl _) (.cons (VLe.refl _) (.nil)))) (PlusR (p := (l.getD i 0)) (q := 0) (by omega) z0K) ?_)))))
  rw [Rat.add_zero]
  refine lt1 (y := dW (l.getD i 0)) sl.Weights vd_w rfl (by decide) ?_
  refine apO sl.Weights rfl rfl rfl (by rw [List.length_map, List.length_take]; omega) (VC.d _) (fun y hy => by rw [List.mem_singleton.1 hy]; rfl) (by simp; omega) (by simp; omega) (.inr rfl) (ys := (l.take (i + 1)).map dW) (by rw [take_snoc 0 (show i < l.length by omega), List.map_append]; rfl) (n2 := i + 1) rfl fun b2 c2 => ?_
  refine asO rfl (OL.nil (AW.rg hE rfl (add_i64 rfl rfl (by omega) (mvD rfl (OL.nil ?_)))))
  exact AW.again (x := (i, bq, cq)) (i + 1, b2, c2) (by (simp only []; omega)) ⟨by omega, Knows.app .rq4 .rq2, Owns.app (.cons rfl .nil) (.cons rfl .nil)⟩
 ·try simp only [dx9] at h11
  refine AW.exit (AW.seq ?_)
  obtain rfl : i = l.length := by omega
  refine AW.freeze 21 rfl (AW.to [(5, .d (dWs l))] [] (.cons (frz_osl (by rw [List.length_map, List.length_take, Nat.min_self]) (by rw [List.take_length])) .nil) .nil ?_)
  exact AW.rg hE rfl (mvD rfl (asD rfl (OL.nil (AW.ret (RetQ.r ⟨_, .tmp rfl .nil, .le (VLe.refl _)⟩)))))
theorem ringR  : FSpec P F.automaton_ring [vRing] (vRing) := by
 refine FSpec.intro fn.automaton_ring (by rfl) (by rfl) (nb9 (by rfl)) fun E hE => (AW.sg hE rfl (bxA rfl rfl fun b1 => (al z.Ring rfl fun b2 => (OL.nil (AW.seq (AW.dg 1 [0,1,2,3,4,5,6] order_free hE rfl (by kernel_rfl) (OI.of_OL (os := [_,_,_,_,_,_,_]) rfl ?_)))))))
 refine faP fd.Ring_0 rfl rfl (ldPC ce.int rfl rfl rfl (faP fd.Ring_1 rfl rfl (ldPC ce.ints rfl rfl rfl (clv rfl (.cons (VLe.refl _) (.nil)) (clone_ints (l := []) (by decide)) (bd z.Ring pl.Ring (cs := [_,_]) rfl (sto sz.Ring rfl rfl rfl rfl rfl (nb9 rfl) (cells2 := [_,_]) rfl (OL.nil ?_)))))))
 exact AW.ret (RetQ.r ⟨_, .cellA rfl rfl ag.Ring (nb9 rfl) .nil, .ag (.cons (.le (VLe.refl _)) (.cons (.le (VLe.refl _)) .nil))⟩)
theorem ValidA {a : Au} (h : a.Ok) (za : a.Sz 134217728 20) (s1 : a.sym ≤ 32) (s2 : a.st ≤ 64) : FSpec P F.automaton_Valid [vAu a] (.d (dB true)) := by
 have e0 := h.sym0
 have e1 := h.ini
 have e2 := h.fin
 have e3 := za.num
 refine FSpec.intro fn.automaton_Valid (by rfl) (by rfl) (nb9 (by rfl)) fun E hE => (AW.sg hE rfl (bxA rfl rfl fun b1 => (asD rfl (OL.nil (AW.seq (AW.sg hE rfl (faP fd.Auto_0 rfl rfl ?_)))))))
 refine ldPA ag.Ring rfl rfl (vs := [_,_]) rfl (nb9 rfl) (clv rfl .rq1 (validR) (nt rfl (mvD rfl (OL.yes rfl (faP fd.Auto_1 rfl rfl (OL.yes rfl (ldPC ce.int rfl rfl rfl ?_)))))))
 refine OL.yes rfl (c_lss rfl rfl (c := false) (by exact decide_eq_false (by omega)) (pkF rfl rfl (mvD rfl (OL.yes rfl (faP fd.Auto_1 rfl rfl (OL.yes rfl (ldPC ce.int rfl rfl rfl ?_)))))))
 refine OL.yes rfl (c_gtr rfl rfl (c := false) (by exact decide_eq_false (by omega)) (pkF rfl rfl (mvD rfl (OL.yes rfl (faP fd.Auto_2 rfl rfl (OL.yes rfl (ldPC ce.int rfl rfl rfl ?_)))))))
 refine OL.yes rfl (c_lss rfl rfl (c := false) (by exact decide_eq_false (by omega)) (pkF rfl rfl (mvD rfl (OL.yes rfl (faP fd.Auto_2 rfl rfl (OL.yes rfl (ldPC ce.int rfl rfl rfl ?_)))))))
 refine OL.yes rfl (c_gtr rfl rfl (c := false) (by exact decide_eq_false (by omega)) (pkF rfl rfl (mvD rfl (OL.yes rfl (faP fd.Auto_3 rfl rfl (OL.yes rfl (ldPC ce.Weights rfl rfl rfl ?_)))))))
 refine OL.yes rfl (lnL sl.Weights rfl rfl (OL.yes rfl (faP fd.Auto_2 rfl rfl (OL.yes rfl (ldPC ce.int rfl rfl rfl (OL.yes rfl (c_neq rfl rfl (c := false) (by exact cne_f (by omega)) ?_)))))))
 refine pkF rfl rfl (mvD rfl (OL.yes rfl (faP fd.Auto_4 rfl rfl (OL.yes rfl (ldPC ce.Weights rfl rfl rfl (OL.yes rfl (lnL sl.Weights rfl rfl ?_)))))))
 refine OL.yes rfl (faP fd.Auto_2 rfl rfl (OL.yes rfl (ldPC ce.int rfl rfl rfl (OL.yes rfl (c_neq rfl rfl (c := false) (by exact cne_f (by omega)) (pkF rfl rfl (mvD rfl ?_)))))))
 refine OL.yes rfl (faP fd.Auto_5 rfl rfl (OL.yes rfl (ldPC ce.Arcs rfl rfl rfl (OL.yes rfl (lnL sl.Arcs rfl rfl (OL.yes rfl (c_gtr rfl rfl (c := false) (by exact decide_eq_false (by omega)) ?_)))))))
 refine pkF rfl rfl (OL.nil (AW.cond rfl (fun hno => absurd hno (by decide)) (fun _ => ?_)))
 refine AW.skip (AW.seq (AW.seq (AW.freezeBox 1 [dI 1, .sl [], dI a.sym, dI a.st, dWs a.ini, dWs a.fin, dArcs a.arcs] rfl (VCs.map_d [dI 1, .sl [], dI a.sym, dI a.st, dWs a.ini, dWs a.fin, dArcs a.arcs]) (AW.to [(1, rAu a), (2, .d (dB false))] [] (.cons (vle_of_eq (show V.frb 1 b1 [dI 1, .sl [], dI a.sym, dI a.st, dWs a.ini, dWs a.fin, dArcs a.arcs] (.ptr 1 b1 0) = rAu a from frb_self)) .rq1) .nil (AW.rg hE rfl (faR fd.Auto_5 rfl rfl (ldRC ce.Arcs rfl ?_)))))))
 refine mkF (vs := [_]) rfl (clv rfl (.cons (VLe.refl _) (.cons (VLe.refl _) (.nil))) (containsAc (l := a.arcs) (f := F.automaton_Valid_1) (caps := [rAu a]) (p := fun _ => false) (fun x hx => Valid_1 (h.arc x hx) (Nat.le_trans (za.arc x hx) (by decide))) (by omega)) ?_)
 rw [any_false fun x _ => rfl]
 refine OL.nil (AW.cond rfl (fun hno => absurd hno (by decide)) (fun _ => ?_))
 refine AW.skip (AW.sg hE rfl (faR fd.Auto_0 rfl rfl (ldRA ag.Ring rfl (vs := [_,_]) rfl (nb9 rfl) (faR fd.Auto_3 rfl rfl (ldRC ce.Weights rfl (clv rfl (.cons (VLe.refl _) (.cons (VLe.refl _) (.nil))) (weightsA (l := a.ini) (fun x hx => Nat.le_trans (za.ini x hx) (by decide)) (by omega)) (mvD rfl ?_)))))))
 refine OL.yes rfl (faR fd.Auto_0 rfl rfl (OL.yes rfl (ldRA ag.Ring rfl (vs := [_,_]) rfl (nb9 rfl) (OL.yes rfl (faR fd.Auto_4 rfl rfl (OL.yes rfl (ldRC ce.Weights rfl ?_)))))))
 exact OL.yes rfl (clv rfl (.cons (VLe.refl _) (.cons (VLe.refl _) (.nil))) (weightsA (l := a.fin) (fun x hx => Nat.le_trans (za.fin x hx) (by decide)) (by omega)) (pkT rfl rfl (asD rfl (OL.nil (AW.ret (RetQ.r ⟨_, .tmp rfl .nil, .le (VLe.refl _)⟩))))))
theorem NormalA {a : Au} (h : a.Ok) (za : a.Sz 134217728 20) (s1 : a.sym ≤ 32) (s2 : a.st ≤ 64) : FSpec P F.automaton_Normal [vAu a] (.tup [vAu (normOf a), .d (dI 0)]) := by
 have e0 := h.sym0
 have e1 := h.ini
 have e2 := h.fin
 have e3 := za.num
 refine FSpec.intro fn.automaton_Normal (by rfl) (by rfl) (nb9 (by rfl)) fun E hE => (AW.sg hE rfl (bxA rfl rfl fun b1 => (al z.Auto rfl fun b2 => (asD rfl (OL.nil (AW.seq (AW.sg hE rfl ?_)))))))
 refine ldPA ag.Auto rfl rfl (vs := [_,_,_,_,_,_,_]) rfl (nb9 rfl) (clv rfl .rq1 (ValidA h za s1 s2) (nt rfl (OL.nil (AW.cond rfl (fun hno => absurd hno (by decide)) (fun _ => ?_)))))
 refine AW.skip (AW.seq (AW.dg 1 [0,1,2,3,4,5,6,7,8,9,10,11,12,13,14,15,16,17,18,19,20,21,22,23,24] order_free hE rfl (by kernel_rfl) (OI.of_OL (os := [_,_,_,_,_,_,_,_,_,_,_,_,_,_,_,_,_,_,_,_,_,_,_,_,_]) rfl ?_)))
 refine faP fd.Auto_0 rfl rfl (ldPA ag.Ring rfl rfl (vs := [_,_]) rfl (nb9 rfl) (clv rfl .rq1 (ringR) (faP fd.Auto_1 rfl rfl (ldPC ce.int rfl rfl rfl (faP fd.Auto_2 rfl rfl (ldPC ce.int rfl rfl rfl (faP fd.Auto_0 rfl rfl ?_)))))))
 refine ldPA ag.Ring rfl rfl (vs := [_,_]) rfl (nb9 rfl) (faP fd.Auto_3 rfl rfl (ldPC ce.Weights rfl rfl rfl (clv rfl (.cons (VLe.refl _) (.cons (VLe.refl _) (.nil))) (CopyR (l := a.ini) (by omega) za.ini) (faP fd.Auto_0 rfl rfl (ldPA ag.Ring rfl rfl (vs := [_,_]) rfl (nb9 rfl) (faP fd.Auto_4 rfl rfl (ldPC ce.Weights rfl rfl rfl ?_)))))))
 refine clv rfl (.cons (VLe.refl _) (.cons (VLe.refl _) (.nil))) (CopyR (l := a.fin) (by omega) za.fin) (faP fd.Auto_0 rfl rfl (ldPA ag.Ring rfl rfl (vs := [_,_]) rfl (nb9 rfl) (faP fd.Auto_5 rfl rfl (ldPC ce.Arcs rfl rfl rfl (clv rfl (.cons (VLe.refl _) (.cons (VLe.refl _) (.nil))) (TidyR (l := a.arcs) e3 za.arc) (bd2 (cs := [_,_,_,_,_,_,_]) z.Auto pl.Auto (pvC (by exact evA rfl) (pvC (by exact evD rfl) (pvC (by exact evD rfl) (pvC (by exact evD rfl) (pvC (by exact evD rfl) (pvC (by exact evD rfl) (pvN))))))) (by rfl) (sto sz.Auto rfl rfl rfl rfl rfl (nb9 rfl) (cells2 := [_,_,_,_,_,_,_]) rfl ?_)))))))
 refine asD rfl (OL.nil ?_)
 exact AW.ret (RetQ.r ⟨_, .cellA rfl rfl ag.Auto (nb9 rfl) (.tmp rfl .nil), _, .cons (.ag (.cons (.le (VLe.refl _)) (.cons (.le (VLe.refl _)) (.cons (.le (VLe.refl _)) (.cons (.le (VLe.refl _)) (.cons (.le (VLe.refl _)) (.cons (.le (VLe.refl _)) (.cons (.le (VLe.refl _)) .nil)))))))) (.cons (.le (VLe.refl _)) .nil), rfl⟩)
theorem Ready_1 {x : Arc9} (hx : 1 ≤ x.l) : FSpec P F.weigh_Ready_1 [vArc x] (.d (dB false)) := by
 refine FSpec.intro fn.weigh_Ready_1 (by rfl) (by rfl) (nb9 (by rfl)) fun E hE => (AW.sg hE rfl (bxA rfl rfl fun b1 => (asD rfl (OL.nil (AW.sg hE rfl (faP fd.Arc_1 rfl rfl (ldPC ce.int rfl rfl rfl ?_)))))))
 exact c_eql rfl rfl (c := false) (by exact decide_eq_false (by omega)) (asD rfl (OL.nil (AW.ret (RetQ.r ⟨_, .tmp rfl .nil, .le (VLe.refl _)⟩))))
end Go.Proofs.YtippcclgnabpdaaGreatDoor

set_option linter.unusedVariables false
set_option linter.unusedSimpArgs false
namespace Go.AL
open Go Go.BigFrame
section
variable {r : SRow} {w t : List Rat} {rs : List SRow} {k n : Nat}
theorem SzR.last (z : SzR 16777215 rs) (hl : rs.length ≤ 6) (zv : ∀ i, sz (w.getD i 0) ≤ 16777215) : (∀ i, sz ((redV rs w).getD i 0) ≤ 68719476735) ∧ ∀ i, sz ((takenS rs w).getD i 0) ≤ 68719476735 := by
 have h4 : 4 ^ rs.length * (16777215 + 1) ≤ 68719476736 := by
  have := Nat.pow_le_pow_right (n := 4) (by decide) hl
  have := Nat.mul_le_mul_right (16777215 + 1) this
  omega
 have h1 := fun i => z.red zv i
 have h2 := fun i => z.redC (by decide) zv rs.length i
 refine ⟨fun i => ?_, fun i => ?_⟩
 ·have := h1 i; omega
 ·have := h2 i
  unfold takenS; omega
end
end Go.AL

set_option linter.unusedVariables false
set_option linter.unusedSimpArgs false
namespace Go.AL
open Go Go.BigFrame
section
variable {a b : Au} {B k : Nat} {l out : List Arc9} {x : Arc9}
theorem insA_szB (h : ∀ y, y ∈ out → sz y.q ≤ (k + 1) * (B + 2)) (hx : sz x.q ≤ B) : ∀ y, y ∈ insA out x → sz y.q ≤ (k + 2) * (B + 2) := by
 have up : ∀ n, n ≤ (k + 1) * (B + 2) → n ≤ (k + 2) * (B + 2) := fun n hn => Nat.le_trans hn (Nat.mul_le_mul_right _ (by omega))
 intro y hy
 have h2 : (k + 2) * (B + 2) = (k + 1) * (B + 2) + (B + 2) := Nat.succ_mul _ _
 unfold insA at hy
 split at hy
 ·rename_i hc
  rcases List.mem_or_eq_of_mem_set hy with hy | rfl
  ·exact up _ (h y hy)
  ·have h1 := h _ (getD_mem hc.1 default)
   have h3 := sz_add (out.getD (atA out x) default).q x.q
   show sz ((out.getD (atA out x) default).q + x.q) ≤ _
   omega
 ·rcases List.mem_append.1 hy with hy | hy
  ·exact up _ (h y (List.mem_of_mem_take hy))
  ·rcases List.mem_cons.1 hy with rfl | hy
   ·omega
   ·exact up _ (h y (List.mem_of_mem_drop hy))
theorem foldI_sz : ∀ (l out : List Arc9) (k : Nat), (∀ x, x ∈ l → sz x.q ≤ B) → (∀ y, y ∈ out → sz y.q ≤ (k + 1) * (B + 2)) → ∀ y, y ∈ l.foldl insA out → sz y.q ≤ (k + l.length + 1) * (B + 2)
 | [], out, k, _, h => h
 | x :: l, out, k, hz, h => by
  rw [List.foldl_cons, List.length_cons, show k + (l.length + 1) + 1 = (k + 1) + l.length + 1 by omega]
  exact foldI_sz l _ (k + 1) (fun y hy => hz y (List.mem_cons_of_mem _ hy)) (insA_szB h (hz x (List.mem_cons_self ..)))
theorem insA_len9 (out : List Arc9) (x : Arc9) : (insA out x).length ≤ out.length + 1 := by
 unfold insA
 split
 ·rw [List.length_set]; omega
 ·rw [List.length_append, List.length_cons, List.length_take, List.length_drop]; omega
theorem foldI_len : ∀ (l out : List Arc9), (l.foldl insA out).length ≤ out.length + l.length
 | [], out => Nat.le_refl _
 | x :: l, out => by
  rw [List.foldl_cons, List.length_cons]
  have := foldI_len l (insA out x)
  have := insA_len9 out x
  omega
theorem formA_len (l : List Arc9) : (formA l).length ≤ l.length := by
 unfold formA nzA
 refine Nat.le_trans (List.length_filter_le ..) ?_
 have := foldI_len l []
 rw [List.length_nil, Nat.zero_add] at this
 exact this
theorem formA_sz (hz : ∀ x, x ∈ l → sz x.q ≤ B) : ∀ y, y ∈ formA l → sz y.q ≤ (l.length + 1) * (B + 2) := fun y hy => by
 have := foldI_sz l [] 0 hz (fun y hy => by cases hy) y (List.mem_filter.1 hy).1
 rwa [Nat.zero_add] at this
theorem Au.Sz.wide (h : a.Sz 1 10) : a.Sz 134217728 20 :=
 ⟨fun q hq => Nat.le_trans (h.ini q hq) (by decide), fun q hq => Nat.le_trans (h.fin q hq) (by decide), fun x hx => Nat.le_trans (h.arc x hx) (by decide), Nat.le_trans h.num (by decide)⟩
theorem Au.Sz.form (h : a.Sz 1 10) : (formOf a).Sz 134217728 20 := by
 refine ⟨h.wide.ini, h.wide.fin, fun x hx => ?_, Nat.le_trans (formA_len a.arcs) (Nat.le_trans h.num (by decide))⟩
 have h1 := formA_sz h.arc x hx
 have h2 := Nat.mul_le_mul_right (1 + 2) (show a.arcs.length + 1 ≤ 11 by have := h.num; omega)
 omega
theorem Au.Few.form (h : a.Few) : (formOf a).Few := ⟨h.st, h.ini, h.fin, fun s i j => by rw [show entA (formOf a).arcs s i j = entA a.arcs s i j from entA_form]; exact h.ent s i j⟩
end
end Go.AL

set_option linter.unusedVariables false
set_option linter.unusedSimpArgs false
namespace Go.AL
open Go Go.BigFrame
section
variable {a b : Au} {B N K : Nat} {q : Rat} {s i j : Nat}
theorem Au.Sz.up {B2 N2 : Nat} (h : a.Sz B N) (hb : B ≤ B2) (hn : N ≤ N2) : a.Sz B2 N2 :=
 ⟨fun q hq => Nat.le_trans (h.ini q hq) hb, fun q hq => Nat.le_trans (h.fin q hq) hb, fun x hx => Nat.le_trans (h.arc x hx) hb, Nat.le_trans h.num hn⟩
end
end Go.AL

set_option linter.unusedVariables false
set_option linter.unusedSimpArgs false
namespace Go.AL
open Go Go.BigFrame
section
variable {a b : Au} {n s i j k : Nat} {v w out : List Rat} {l : List Arc9} {x : Arc9}
theorem take_snoc9 {α : Type} (d : α) {l : List α} {i : Nat} (h : i < l.length) : l.take (i + 1) = l.take i ++ [l.getD i d] := by
 rw [List.take_succ_eq_append_getElem h, List.getD_eq_getElem?_getD, List.getElem?_eq_getElem h]; rfl
def addF (v : List Rat) (s : Nat) (out : List Rat) (x : Arc9) : List Rat := if x.l = s then out.set x.t (out.getD x.t 0 + v.getD x.f 0 * x.q) else out
def stepF (n : Nat) (v : List Rat) (s : Nat) (l : List Arc9) : List Rat := l.foldl (addF v s) (List.replicate n 0)
theorem addF_len : (addF v s out x).length = out.length := by unfold addF; split <;> simp
theorem stepF_len : (stepF n v s l).length = n := by
 have : ∀ (l : List Arc9) (out : List Rat), (l.foldl (addF v s) out).length = out.length := fun l => by
  induction l with
  | nil => exact fun _ => rfl
  | cons x l ih => exact fun out => by rw [List.foldl_cons, ih, addF_len]
 unfold stepF
 rw [this, List.length_replicate]
theorem stepF_snoc (h : i < l.length) : stepF n v s (l.take (i + 1)) = addF v s (stepF n v s (l.take i)) (l.getD i default) := by
 unfold stepF
 rw [take_snoc9 default h, List.foldl_append]; rfl
theorem getD_set9 {l : List Rat} {y : Rat} (hi : i < l.length) : (l.set i y).getD j 0 = if i = j then y else l.getD j 0 := by
 rw [List.getD_eq_getElem?_getD, List.getElem?_set, List.getD_eq_getElem?_getD]
 by_cases h : i = j
 ·subst h; rw [if_pos rfl, if_pos hi, if_pos rfl]; rfl
 ·rw [if_neg h, if_neg h]
def inF (v : List Rat) (s j : Nat) (x : Arc9) : Rat := if x.l = s ∧ x.t = j then v.getD x.f 0 * x.q else 0
theorem foldF_get : ∀ (l : List Arc9) (out : List Rat), (∀ x, x ∈ l → x.t < out.length) → (l.foldl (addF v s) out).getD j 0 = out.getD j 0 + lsum (inF v s j) l
 | [], out, _ => by rw [List.foldl_nil, lsum, Rat.add_zero]
 | x :: l, out, h => by
  have hx := h x (List.mem_cons_self ..)
  rw [List.foldl_cons, foldF_get l _ (fun y hy => by rw [addF_len]; exact h y (List.mem_cons_of_mem _ hy)), lsum, ← Rat.add_assoc]
  congr 1
  unfold addF inF
  by_cases hl : x.l = s
  ·rw [if_pos hl, getD_set9 hx]
   by_cases ht : x.t = j
   ·rw [if_pos ht, if_pos ⟨hl, ht⟩, ht]
   ·rw [if_neg ht, if_neg (fun e => ht e.2), Rat.add_zero]
  ·rw [if_neg hl, if_neg (fun e => hl e.1), Rat.add_zero]
theorem rep_get : (List.replicate n (0 : Rat)).getD j 0 = 0 := by
 rw [List.getD_eq_getElem?_getD, List.getElem?_replicate]
 split <;> rfl
theorem stepF_get (h : ∀ x, x ∈ l → x.t < n) : (stepF n v s l).getD j 0 = lsum (inF v s j) l := by
 unfold stepF
 rw [foldF_get l _ (fun x hx => by rw [List.length_replicate]; exact h x hx), rep_get, Rat.zero_add]
theorem sum_ent (l : List Arc9) (hf : ∀ x, x ∈ l → x.f < n) : sumN (fun i => v.getD i 0 * entA l k i j) n = lsum (inF v (k + 1) j) l := by
 induction l with
 | nil => rw [lsum]; exact sumN_zero fun i _ => by rw [entA_nil, Rat.mul_zero]
 | cons x l ih =>
  rw [lsum, ← ih fun y hy => hf y (List.mem_cons_of_mem _ hy)]
  have e : (fun i => v.getD i 0 * entA (x :: l) k i j) = fun i => v.getD i 0 * pickA k i j x + v.getD i 0 * entA l k i j := by
   funext i
   rw [entA_cons, Rat.mul_add]
  rw [e, sumN_add]
  congr 1
  unfold inF
  by_cases hc : x.l = k + 1 ∧ x.t = j
  ·rw [if_pos hc]
   have e2 : (fun i => v.getD i 0 * pickA k i j x) = fun i => if x.f = i then v.getD i 0 * x.q else 0 := by
    funext i
    unfold pickA
    by_cases hi : x.f = i
    ·rw [if_pos ⟨hi, hc.1, hc.2⟩, if_pos hi]
    ·rw [if_neg (fun e => hi e.1), if_neg hi, Rat.mul_zero]
   rw [e2, sumN_pick (v := fun i => v.getD i 0 * x.q) (hf x (List.mem_cons_self ..))]
  ·rw [if_neg hc]
   exact sumN_zero fun i _ => by
    unfold pickA
    rw [if_neg (fun e => hc ⟨e.2.1, e.2.2⟩), Rat.mul_zero]
theorem stepF_step (ha : a.Ok) (s1 : 1 ≤ s) (s2 : s ≤ a.sym) : stepF a.st v s a.arcs = stepM (machL [a]) v (s - 1) := by
 have hn : (machL [a]).n = a.st := size_one
 refine List.ext_getElem (by rw [stepF_len, stepM_len, hn]) fun j h1 h2 => ?_
 rw [stepF_len] at h1
 have e1 : (stepF a.st v s a.arcs)[j] = (stepF a.st v s a.arcs).getD j 0 := by rw [List.getD_eq_getElem?_getD, List.getElem?_eq_getElem]; rfl
 have e2 : (stepM (machL [a]) v (s - 1))[j] = (stepM (machL [a]) v (s - 1)).getD j 0 := by rw [List.getD_eq_getElem?_getD, List.getElem?_eq_getElem]; rfl
 rw [e1, e2, stepF_get fun x hx => (ha.arc x hx).2.1]
 unfold stepM
 rw [hn, map_getD_range _ _ h1]
 have e3 : s - 1 + 1 = s := by omega
 rw [show lsum (inF v s j) a.arcs = lsum (inF v (s - 1 + 1) j) a.arcs by rw [e3], ← sum_ent (n := a.st) a.arcs fun x hx => (ha.arc x hx).1]
 refine sumN_congr fun i hi => ?_
 rw [machL_ent (l := [a]) (by show s - 1 < a.sym; omega) (by rw [size_one]; exact hi) (by rw [size_one]; exact h1)]
 show _ = _ * (if i < a.st then (if j < a.st then entA a.arcs (s - 1) i j else 0) else _)
 rw [if_pos hi, if_pos h1]
def fwA (a : Au) (u : List Int) : List Rat := u.foldl (fun v x => stepF a.st v x.toNat a.arcs) a.ini
theorem fwA_snoc {u : List Int} (h : i < u.length) : fwA a (u.take (i + 1)) = stepF a.st (fwA a (u.take i)) (u.getD i 0).toNat a.arcs := by
 unfold fwA
 rw [take_snoc9 0 h, List.foldl_append]; rfl
theorem fwA_len (ha : a.Ok) (u : List Int) : (fwA a u).length = a.st := by
 have : ∀ (u : List Int) (v : List Rat), v.length = a.st → (u.foldl (fun v x => stepF a.st v x.toNat a.arcs) v).length = a.st := fun u => by
  induction u with
  | nil => exact fun _ h => h
  | cons x u ih => exact fun v _ => ih _ stepF_len
 exact this u a.ini ha.ini
theorem fwA_vec (ha : a.Ok) {u : List Int} (hu : InW a.sym u) : fwA a u = vecM (machL [a]) u := by
 have : ∀ (u : List Int) (v : List Rat), InW a.sym u → u.foldl (fun v x => stepF a.st v x.toNat a.arcs) v = u.foldl (fun v x => stepM (machL [a]) v (x.toNat - 1)) v := fun u => by
  induction u with
  | nil => exact fun _ _ => rfl
  | cons x u ih =>
   intro v hx
   have h1 := hx x (List.mem_cons_self ..)
   rw [List.foldl_cons, List.foldl_cons, stepF_step ha (by omega) (by omega)]
   exact ih _ fun y hy => hx y (List.mem_cons_of_mem _ hy)
 unfold fwA vecM
 rw [this u a.ini hu, show (machL [a]).ini = a.ini from List.append_nil _]
def dotF (v w : List Rat) (i : Nat) : Rat := sumN (fun i => v.getD i 0 * w.getD i 0) i
theorem dotF_ser (ha : a.Ok) {u : List Int} (hu : InW a.sym u) : dotF (fwA a u) a.fin a.st = serA a u := by
 rw [fwA_vec ha hu]
 unfold dotF serA wtM dotM
 rw [show (machL [a]).n = a.st from size_one, show (machL [a]).fin = a.fin from List.append_nil _]
end
end Go.AL

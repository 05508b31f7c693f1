/-
  Walks of package weigh: the weight of a word (printed by mk2.py).
-/
import Derived.Test.YtippcclgnabpdaaGreatDoorKWkI
import Derived.Test.YtippcclgnabpdaaGreatDoorKMod70
import Derived.Test.YtippcclgnabpdaaGreatDoorKMod91
import Derived.Test.YtippcclgnabpdaaGreatDoorKMod114
set_option linter.unusedVariables false
set_option linter.unusedSimpArgs false
namespace Go.Proofs.YtippcclgnabpdaaGreatDoor
open Go Go.AL
theorem fc.Auto_3 : FieldC P T.Auto 3 4 := ⟨by kernel_rfl⟩
theorem zeros_snocW {n i : Nat} (h : i < n) : (List.replicate n (0 : Rat)).take (i + 1) = (List.replicate n (0 : Rat)).take i ++ [0] := by
 rw [List.take_replicate, List.take_replicate, Nat.min_eq_left h, Nat.min_eq_left (Nat.le_of_lt h), List.replicate_succ']
theorem rowW_elW {l : List Rat} {i : Nat} (hi : i < l.length) : (l.map dW)[i]? = some (dW (l.getD i 0)) := by rw [List.getElem?_map, List.getD_eq_getElem?_getD, List.getElem?_eq_getElem hi]; rfl
theorem addF_tW {v out : List Rat} {s : Nat} {x : Arc9} (h : x.l = s) : addF v s out x = out.set x.t (out.getD x.t 0 + v.getD x.f 0 * x.q) := if_pos h
theorem addF_fW {v out : List Rat} {s : Nat} {x : Arc9} (h : ¬ x.l = s) : addF v s out x = out := if_neg h
theorem words_ValidW {s : Nat} {w : List Int} (hw : InW s w) (hl : w.length ≤ 256) (hs : 1 ≤ s ∧ s ≤ 32) : FSpec P F.words_Valid [.d (ints w), .d (dI s)] (.d (dB true)) :=
 words_Valid (h := ⟨s, 0, 0, [], [], [], [], [], []⟩) ⟨hl, hw⟩ hs
theorem norm_same (a : Au) : SameA (normOf a) a := ⟨rfl, rfl, rfl, rfl, fun _ _ _ => entA_tidy⟩
theorem ser_norm (a : Au) : serA (normOf a) = serA a := (norm_same a).ser
theorem norm_ok {a : Au} (h : a.Ok) : (normOf a).Ok := ⟨h.sym0, h.ini, h.fin, PlaceA.tidy (p := fun f l t => f < a.st ∧ t < a.st ∧ 1 ≤ l ∧ l ≤ a.sym) h.arc⟩
structure StSz (a : Au) (v : List Rat) (s : Nat) : Prop where
 zv : ∀ j, sz (v.getD j 0) ≤ 17179869184
 zq : ∀ x, x ∈ a.arcs → sz x.q ≤ 17179869184
 zs : ∀ i j, sz ((stepF a.st v s (a.arcs.take i)).getD j 0) ≤ 17179869184
structure FwSz (a : Au) (w : List Int) : Prop where
 st : ∀ k, k < w.length → StSz a (fwA a (w.take k)) (w.getD k 0).toNat
 zv : ∀ j, sz ((fwA a w).getD j 0) ≤ 17179869184
 zf : ∀ j, sz (a.fin.getD j 0) ≤ 17179869184
 zd : ∀ i, i ≤ a.st → sz (dotF (fwA a w) a.fin i) ≤ 17179869184
theorem zerosW {a : Au} (hn : a.st ≤ 64) : FSpecR P F.weigh_zeros [vAu a] a.st T.Weight 8 ((List.replicate a.st (0 : Rat)).map dW) := by
 have hzl : (List.replicate a.st (0 : Rat)).length = a.st := List.length_replicate
 refine FSpecR.intro fn.weigh_zeros (by rfl) (by rfl) (nb9 (by rfl)) 2 rfl fun E hE => (AW.sg hE rfl (bxA rfl rfl fun b1 => (asM rfl (OL.nil (AW.sg hE rfl (asM rfl (OL.nil ?_)))))))
 refine AW.seq (AW.seq (AW.own 3 13 T.Weight 8 rfl rfl (AW.rg hE rfl (faP fd.Auto_2 rfl rfl (ldPC ce.int rfl rfl rfl (mvD rfl (OL.nil ?_)))))))
 refine AW.block ?_
 refine AW.whileK (α := Nat × Nat × Nat) [(1, _), (2, _), (5, _)] [(1, _)] (fun (i, bq, cq) => [(3, .osl 13 bq i cq), (6, .d (dI i))]) (fun (i, bq, cq) => [(13, .row bq cq T.Weight 8 (((List.replicate a.st (0 : Rat)).take i).map dW))]) (fun (i, bq, cq) => i ≤ a.st) (fun (i, bq, cq) => a.st - i) (0, 0, 0) (.cons (knP rfl) (.cons (knM rfl) (.cons (knD rfl) .nil))) (.cons (owB rfl) .nil) ⟨Nat.zero_le _, .rq2, .cons rfl .nil⟩ ?_
 rintro ⟨i, bq, cq⟩ h1
 have h1 : i ≤ a.st := h1
 refine AW.sg hE rfl (c_lss rfl rfl rfl (OL.nil (AW.seq (AW.cond rfl (fun h7 => ?_) (fun h7 => ?_)))))
 ·try simp only [dx9] at h7
  refine AW.skip (AW.seq (AW.block (AW.rg hE rfl (mvO rfl (faP fd.Auto_0 rfl rfl (ldPA ag.Ring rfl rfl (vs := [_,_]) rfl (nb9 rfl) (clv rfl (.cons (VLe.refl _) (.nil)) (ZeroR) ?_)))))))
  refine lt1 (y := dW 0) sl.Weights vd_w rfl (by decide) ?_
  refine apO sl.Weights rfl rfl rfl (by rw [List.length_map, List.length_take]; omega) (VC.d _) (fun y hy => by rw [List.mem_singleton.1 hy]; rfl) (by simp only [List.length_singleton]; omega) (by simp only [List.length_singleton]; omega) (.inr rfl) (ys := ((List.replicate a.st (0 : Rat)).take (i + 1)).map dW) (by rw [zeros_snocW (by omega), List.map_append]; rfl) (n2 := i + 1) rfl fun b13 c13 => ?_
  exact asO rfl (OL.nil (AW.rg hE rfl (add_i64 rfl rfl (by omega) (mvD rfl (OL.nil (AW.again (x := (i, bq, cq)) (i + 1, b13, c13) (by (simp only []; omega)) ⟨by omega, Knows.app .rq3 .rq2, Owns.app (.cons rfl .nil) (.cons rfl .nil)⟩))))))
 ·try simp only [dx9] at h7
  refine AW.exit (AW.seq ?_)
  obtain rfl : i = a.st := by omega
  have e9 : (List.replicate a.st (0 : Rat)).take a.st = (List.replicate a.st (0 : Rat)) := List.take_of_length_le (by omega)
  exact AW.rg hE rfl (mvO rfl (asO rfl (OL.nil (AW.ret ⟨.inr rfl, 13, bq, cq, ((List.replicate a.st (0 : Rat)).take a.st).map dW, rfl, rfl, by rw [e9, List.length_map]; omega, by rw [e9]; exact List.take_of_length_le (by rw [List.length_map]; omega)⟩))))
set_option maxRecDepth 8000 in
set_option maxHeartbeats 1600000 in
theorem StepW {a : Au} {v : List Rat} {s : Nat} (h : a.Ok) (hv : v.length = a.st) (zz : StSz a v s) (s2 : a.st ≤ 64) (e3 : a.arcs.length ≤ 2048) : FSpec P F.weigh_Step [vAu a, .d (dWs v), .d (dI s)] (.d (dWs (stepF a.st v s a.arcs))) := by
 refine FSpec.intro fn.weigh_Step (by rfl) (by rfl) (nb9 (by rfl)) fun E hE => (AW.sg hE rfl (bxA rfl rfl fun b3 => (asM rfl (OL.nil (AW.sg hE rfl (ldPA ag.Auto rfl rfl (vs := [_,_,_,_,_,_,_]) rfl (nb9 rfl) (clR rfl .rq1 (zerosW (a := a) s2) rfl fun b11 c11 => ?_)))))))
 refine asO rfl (OL.nil (AW.seq (AW.sg hE rfl (faP fd.Auto_5 rfl rfl (ldPC ce.Arcs rfl rfl rfl (lnL sl.Arcs rfl rfl (mvD rfl ?_)))))))
 refine OL.nil (AW.block ?_)
 refine AW.whileK (α := Nat) [(1, _), (2, _), (3, _), (6, _), (7, _), (13, _), (14, _)] [(3, _)] (fun i => [(15, .d (dI i))]) (fun i => [(11, .row b11 c11 T.Weight 8 ((stepF a.st v s (a.arcs.take i)).map dW))]) (fun i => i ≤ a.arcs.length) (fun i => a.arcs.length - i) 0 (.cons (knD rfl) (.cons (knD rfl) (.cons (knP rfl) (.cons (knM rfl) (.cons (knO rfl) (.cons (knD rfl) (.cons (knD rfl) .nil))))))) (.cons (owB rfl) .nil) ⟨Nat.zero_le _, .rq1, .cons rfl .nil⟩ ?_
 rintro i h1
 have h1 : i ≤ a.arcs.length := h1
 have hsl : (stepF a.st v s (a.arcs.take i)).length = a.st := stepF_len
 refine AW.sg hE rfl (c_lss rfl rfl rfl (OL.nil (AW.seq (AW.cond rfl (fun h16 => ?_) (fun h16 => ?_)))))
 ·try simp only [dx9] at h16
  refine AW.skip (AW.seq (AW.block (AW.seq ?_)))
  have hm := getD_mem (l := a.arcs) (i := i) (by omega) default
  obtain ⟨hx1, hx2, hx3, hx4⟩ := h.arc (a.arcs.getD i default) hm
  have hxz := zz.zq (a.arcs.getD i default) hm
  have hz1 := zz.zv (a.arcs.getD i default).f
  have hz2 := zz.zs i (a.arcs.getD i default).t
  have hz3 := sz_mul (v.getD (a.arcs.getD i default).f 0) (a.arcs.getD i default).q
  refine AW.rg hE rfl (ixLn sl.Arcs default rfl rfl (by omega) rfl rfl (ldRA ag.Arc rfl (vs := [_,_,_,_,_,_,_,_,_,_,_]) rfl (nb9 rfl) (al z.Arc rfl fun b9 => (sto sz.Arc rfl rfl rfl rfl rfl (nb9 rfl) (cells2 := [_,_,_,_,_,_,_,_,_,_,_]) rfl (OL.nil (AW.sg hE rfl (faP fd.Arc_1 rfl rfl ?_)))))))
  refine ldPC ce.int rfl rfl rfl (mvD rfl (c_eql rfl rfl rfl (OL.nil (AW.cond rfl (fun hc => ?_) (fun hc => ?_)))))
  ·have hc : (a.arcs.getD i default).l = s := by have := of_decide_eq_true hc; omega
   refine AW.dg 1 [0,1,2,3,4,5,6,7,8,9,10,11,12,13,14,15,16,17,18,19,20,21,22] order_free hE rfl (by kernel_rfl) (OI.of_OL (os := [_,_,_,_,_,_,_,_,_,_,_,_,_,_,_,_,_,_,_,_,_,_,_]) rfl ?_)
   refine mvO rfl (faP fd.Arc_2 rfl rfl (ldPC ce.int rfl rfl rfl (faP fd.Auto_0 rfl rfl (ldPA ag.Ring rfl rfl (vs := [_,_]) rfl (nb9 rfl) (mvO rfl (faP fd.Arc_2 rfl rfl (ldPC ce.int rfl rfl rfl ?_)))))))
   refine ixOn sl.Weights rfl rfl (by omega) ?_
   refine ldEA ag.Weight (by decide) rfl rfl (rowW_elW (show (a.arcs.getD i default).t < (stepF a.st v s (a.arcs.take i)).length by omega)) (vs := [.d (dB (ofQ ((stepF a.st v s (a.arcs.take i)).getD (a.arcs.getD i default).t 0)).neg), .d (u32s (ofQ ((stepF a.st v s (a.arcs.take i)).getD (a.arcs.getD i default).t 0)).num), .d (u32s (ofQ ((stepF a.st v s (a.arcs.take i)).getD (a.arcs.getD i default).t 0)).den), .d (dI 0), .d (dB false), .d (dU 0), .d (.sl []), .d (.sl [])]) rfl (nb9 rfl) ?_
   refine faP fd.Auto_0 rfl rfl (ldPA ag.Ring rfl rfl (vs := [_,_]) rfl (nb9 rfl) (mvD rfl (faP fd.Arc_0 rfl rfl (ldPC ce.int rfl rfl rfl (ixLn sl.Weights 0 rfl rfl (by omega) rfl rfl (ldRA ag.Weight rfl (vs := [_,_,_,_,_,_,_,_]) rfl (nb9 rfl) (faP fd.Arc_3 rfl rfl ?_)))))))
   refine ldPA ag.Weight rfl rfl (vs := [_,_,_,_,_,_,_,_]) rfl (nb9 rfl) (clv rfl (.cons (VLe.refl _) (.cons (VLe.refl _) (.cons (VLe.refl _) (.nil)))) (TimesR (p := v.getD (a.arcs.getD i default).f 0) (q := (a.arcs.getD i default).q) (by omega) (by omega)) (clv rfl (.cons (VLe.refl _) (.cons (VLe.refl _) (.cons (VLe.refl _) (.nil)))) (PlusR (p := (stepF a.st v s (a.arcs.take i)).getD (a.arcs.getD i default).t 0) (q := v.getD (a.arcs.getD i default).f 0 * (a.arcs.getD i default).q) (by omega) (by omega)) (ixOn sl.Weights rfl rfl (by omega) ?_)))
   refine stE sz.Weight rfl (d := dW ((stepF a.st v s (a.arcs.take i)).getD (a.arcs.getD i default).t 0 + v.getD (a.arcs.getD i default).f 0 * (a.arcs.getD i default).q)) vd_w rfl rfl (by rw [List.length_map]; omega) (es2 := ((stepF a.st v s (a.arcs.take i)).set (a.arcs.getD i default).t ((stepF a.st v s (a.arcs.take i)).getD (a.arcs.getD i default).t 0 + v.getD (a.arcs.getD i default).f 0 * (a.arcs.getD i default).q)).map dW) (by rw [List.map_set]) ?_
   refine OL.nil (AW.rg hE rfl (add_i64 rfl rfl (by omega) (mvD rfl (OL.nil ?_))))
   exact AW.again (x := i) (i + 1) (by omega) ⟨by omega, Knows.app .rq7 .rq1, Owns.app (.cons rfl .nil) (.cons (by rw [stepF_snoc (by omega), addF_tW hc]; rfl) .nil)⟩
  ·have hc : ¬ (a.arcs.getD i default).l = s := by have := of_decide_eq_false hc; omega
   refine AW.skip (AW.rg hE rfl (add_i64 rfl rfl (by omega) (mvD rfl (OL.nil ?_))))
   exact AW.again (x := i) (i + 1) (by omega) ⟨by omega, Knows.app .rq7 .rq1, Owns.app (.cons rfl .nil) (.cons (by rw [stepF_snoc (by omega), addF_fW hc]; rfl) .nil)⟩
 ·try simp only [dx9] at h16
  refine AW.exit (AW.seq ?_)
  obtain rfl : i = a.arcs.length := by omega
  exact AW.rg hE rfl (mvO rfl (asO rfl (OL.nil (AW.ret (RetQ.r ⟨_, .tmp rfl .nil, RO.all rfl rfl (by rw [List.length_map, stepF_len]) (by rw [List.take_length])⟩)))))
theorem ReadyW {a : Au} (h : a.Ok) (za : a.Sz 134217728 20) (s1 : a.sym ≤ 32) (s2 : a.st ≤ 64) {w : List Int} (hw : InW a.sym w) (hl : w.length ≤ 256) : FSpec P F.weigh_Ready [vAu a, .d (ints w)] (.tup [vAu (normOf a), .d (dI 0)]) := by
 have e0 := h.sym0
 have e1 := h.ini
 have e2 := h.fin
 have e3 := za.num
 have tl := tidyA_len a.arcs
 refine FSpec.intro fn.weigh_Ready (by rfl) (by rfl) (nb9 (by rfl)) fun E hE => (AW.sg hE rfl (bxA rfl rfl fun b2 => (al z.Auto rfl fun b4 => (asD rfl (OL.nil (AW.sg hE rfl (ldPA ag.Auto rfl rfl (vs := [_,_,_,_,_,_,_]) rfl (nb9 rfl) ?_)))))))
 refine clv rfl .rq1 (NormalA h za s1 s2) (mvT rfl (ex rfl rfl (ex rfl rfl (al z.Auto rfl fun b6 => (sto sz.Auto rfl rfl rfl rfl rfl (nb9 rfl) (cells2 := [_,_,_,_,_,_,_]) rfl (asD rfl (OL.nil ?_)))))))
 refine AW.seq (AW.block (AW.sg hE rfl (mvD rfl (c_neq rfl rfl (c := false) (by exact cne_f (by omega)) (asD rfl (OL.nil (AW.cond rfl (fun hno => absurd hno (by decide)) (fun _ => ?_))))))))
 refine AW.sg hE rfl (faP fd.Auto_5 rfl rfl (ldPC ce.Arcs rfl rfl rfl (clv rfl (.cons (VLe.refl _) (.cons (VLe.refl _) (.nil))) (containsAc (l := (normOf a).arcs) (f := F.weigh_Ready_1) (caps := []) (p := fun _ => false) (fun x hx => Ready_1 (normOf_lab h x hx)) (by show (tidyA a.arcs).length ≤ _; omega)) ?_)))
 rw [any_false fun x _ => rfl]
 refine asD rfl (OL.nil (AW.cond rfl (fun hno => absurd hno (by decide)) (fun _ => ?_)))
 refine AW.sg hE rfl (mvD rfl (faP fd.Auto_1 rfl rfl (ldPC ce.int rfl rfl rfl (clv rfl (.cons (VLe.refl _) (.cons (VLe.refl _) (.nil))) (words_ValidW (s := a.sym) hw hl ⟨e0, s1⟩) (nt rfl (asD rfl (OL.nil ?_)))))))
 refine AW.cond rfl (fun hno => absurd hno (by decide)) (fun _ => ?_)
 refine AW.skip (AW.sg hE rfl (ldPA ag.Auto rfl rfl (vs := [_,_,_,_,_,_,_]) rfl (nb9 rfl) (sto sz.Auto rfl rfl rfl rfl rfl (nb9 rfl) (cells2 := [_,_,_,_,_,_,_]) rfl (asD rfl (OL.nil ?_)))))
 exact AW.ret (RetQ.r ⟨_, .cellA rfl rfl ag.Auto (nb9 rfl) (.tmp rfl .nil), _, .cons (.ag (.cons (.le (VLe.refl _)) (.cons (.le (VLe.refl _)) (.cons (.le (VLe.refl _)) (.cons (.le (VLe.refl _)) (.cons (.le (VLe.refl _)) (.cons (.le (VLe.refl _)) (.cons (.le (VLe.refl _)) .nil)))))))) (.cons (.le (VLe.refl _)) .nil), rfl⟩)
set_option maxRecDepth 8000 in
set_option maxHeartbeats 1600000 in
theorem ForwardW {a : Au} (h : a.Ok) (za : a.Sz 134217728 20) (s1 : a.sym ≤ 32) (s2 : a.st ≤ 64) {w : List Int} (hw : InW a.sym w) (hl : w.length ≤ 256) (zz : FwSz (normOf a) w) : FSpec P F.weigh_Forward [vAu a, .d (ints w)] (.tup [.d (dWs (fwA (normOf a) w)), .d (dI 0)]) := by
 have e0 := h.sym0
 have e1 := h.ini
 have e2 := h.fin
 have e3 := za.num
 have hn := norm_ok h
 have tl := tidyA_len a.arcs
 have e4 : (normOf a).arcs.length ≤ 2048 := by show (tidyA a.arcs).length ≤ _; omega
 refine FSpec.intro fn.weigh_Forward (by rfl) (by rfl) (nb9 (by rfl)) fun E hE => (AW.sg hE rfl (bxA rfl rfl fun b2 => (asM rfl (asD rfl (OL.nil (AW.sg hE rfl (ldPA ag.Auto rfl rfl (vs := [_,_,_,_,_,_,_]) rfl (nb9 rfl) ?_)))))))
 refine mvD rfl (clv rfl (.cons (VLe.refl _) (.cons (VLe.refl _) (.nil))) (ReadyW h za s1 s2 hw hl) (mvT rfl (ex rfl rfl (ex rfl rfl (sto sz.Auto rfl rfl rfl rfl rfl (nb9 rfl) (cells2 := [_,_,_,_,_,_,_]) rfl (asD rfl (OL.nil ?_)))))))
 refine AW.seq (AW.sg hE rfl (mvD rfl (c_neq rfl rfl (c := false) (by exact cne_f (by omega)) (OL.nil (AW.cond rfl (fun hno => absurd hno (by decide)) (fun _ => ?_))))))
 refine AW.skip (AW.sg hE rfl (faP fd.Auto_3 rfl rfl (ldPC ce.Weights rfl rfl rfl (asD rfl (OL.nil (AW.seq (AW.sg hE rfl ?_)))))))
 refine mvD rfl (lnL sl.ints rfl rfl (mvD rfl (OL.nil (AW.block ?_))))
 refine AW.whileK (α := Nat) [(2, _), (4, _), (5, _), (21, _), (22, _)] [(2, _)] (fun i => [(7, .d (dWs (fwA (normOf a) (w.take i)))), (23, .d (dI i))]) (fun i => []) (fun i => i ≤ w.length) (fun i => w.length - i) 0 (.cons (knP rfl) (.cons (knM rfl) (.cons (knD rfl) (.cons (knD rfl) (.cons (knD rfl) .nil))))) (.cons (owB rfl) .nil) ⟨Nat.zero_le _, .rq2, .nil⟩ ?_
 rintro i h1
 have h1 : i ≤ w.length := h1
 refine AW.sg hE rfl (c_lss rfl rfl rfl (OL.nil (AW.seq (AW.cond rfl (fun h24 => ?_) (fun h24 => ?_)))))
 ·try simp only [dx9] at h24
  refine AW.skip (AW.seq (AW.block (AW.seq ?_)))
  have hx := hw (w.getD i 0) (getD_mem (by omega) 0)
  refine AW.rg hE rfl (ixLn sl.ints 0 rfl rfl (by omega) rfl rfl (ldRC ce.int rfl (asD rfl (OL.nil (AW.rg hE rfl (ldPA ag.Auto rfl rfl (vs := [_,_,_,_,_,_,_]) rfl (nb9 rfl) (mvD rfl ?_)))))))
  refine mvD rfl (clv rfl (.cons (VLe.refl _) (.cons (VLe.refl _) (.cons (VLe.int (by omega)) .nil))) (StepW (a := (normOf a)) (v := fwA (normOf a) (w.take i)) (s := (w.getD i 0).toNat) hn (fwA_len hn _) (zz.st i (by omega)) s2 e4) (asD rfl (OL.nil (AW.rg hE rfl (add_i64 rfl rfl (by omega) (mvD rfl (OL.nil ?_)))))))
  exact AW.again (x := i) (i + 1) (by omega) ⟨by omega, Knows.app .rq5 (.cons (by rw [fwA_snoc (by omega)]; exact VLe.refl _) .rq1), Owns.app (.cons rfl .nil) (.nil)⟩
 ·try simp only [dx9] at h24
  refine AW.exit (AW.seq ?_)
  obtain rfl : i = w.length := by omega
  exact AW.rg hE rfl (mvD rfl (asD rfl (asD rfl (OL.nil (AW.ret (RetQ.r ⟨_, .tmp rfl (.tmp rfl .nil), _, .cons (.le (by rw [List.take_length]; exact VLe.refl _)) (.cons (.le (VLe.refl _)) .nil), rfl⟩))))))
set_option maxHeartbeats 800000 in
theorem DotW {v u : List Rat} {n : Nat} (hv : v.length = n) (hu : u.length = n) (hn : n ≤ 64) (zv : ∀ i, sz (v.getD i 0) ≤ 17179869184) (zu : ∀ i, sz (u.getD i 0) ≤ 17179869184) (zd : ∀ i, i ≤ n → sz (dotF v u i) ≤ 17179869184) : FSpec P F.weigh_Dot [vRing, .d (dWs v), .d (dWs u)] (vW (dotF v u n)) := by
 refine FSpec.intro fn.weigh_Dot (by rfl) (by rfl) (nb9 (by rfl)) fun E hE => (AW.sg hE rfl (bxA rfl rfl fun b3 => (al z.Weight rfl fun b6 => (OL.nil (AW.sg hE rfl (ldPA ag.Ring rfl rfl (vs := [_,_]) rfl (nb9 rfl) (clv rfl (.cons (VLe.refl _) (.nil)) (ZeroR) ?_)))))))
 refine al z.Weight rfl fun b7 => (sto sz.Weight rfl rfl rfl rfl rfl (nb9 rfl) (cells2 := [_,_,_,_,_,_,_,_]) rfl (OL.nil (AW.seq (AW.sg hE rfl (mvD rfl (lnL sl.Weights rfl rfl (mvD rfl ?_)))))))
 refine OL.nil (AW.block ?_)
 refine AW.whileK (α := Nat) [(1, _), (2, _), (3, _), (6, _), (7, _), (12, _)] [(3, _), (6, _)] (fun i => [(13, .d (dI i))]) (fun i => [(7, .box b7 T.Weight [.d (dB (ofQ (dotF v u i)).neg), .d (u32s (ofQ (dotF v u i)).num), .d (u32s (ofQ (dotF v u i)).den), .d (dI 0), .d (dB false), .d (dU 0), .d (.sl []), .d (.sl [])])]) (fun i => i ≤ n) (fun i => n - i) 0 (.cons (knD rfl) (.cons (knD rfl) (.cons (knP rfl) (.cons (knP rfl) (.cons (knP rfl) (.cons (knD rfl) .nil)))))) (.cons (owB rfl) (.cons (owB rfl) .nil)) ⟨Nat.zero_le _, .rq1, .cons rfl .nil⟩ ?_
 rintro i h1
 have h1 : i ≤ n := h1
 have z1 := zv i
 have z2 := zu i
 have z3 := sz_mul (v.getD i 0) (u.getD i 0)
 have z4 := zd i h1
 refine AW.sg hE rfl (c_lss rfl rfl rfl (OL.nil (AW.seq (AW.cond rfl (fun h14 => ?_) (fun h14 => ?_)))))
 ·try simp only [dx9] at h14
  refine AW.skip (AW.seq (AW.block (AW.sg hE rfl (mvD rfl (asD rfl (OL.nil (AW.dg 1 [0,1,2,3,4,5,6,7,8,9,10,11,12,13] order_free hE rfl (by kernel_rfl) (OI.of_OL (os := [_,_,_,_,_,_,_,_,_,_,_,_,_,_]) rfl ?_))))))))
  refine ldPA ag.Ring rfl rfl (vs := [_,_]) rfl (nb9 rfl) (ldPA ag.Weight rfl rfl (vs := [_,_,_,_,_,_,_,_]) rfl (nb9 rfl) (ldPA ag.Ring rfl rfl (vs := [_,_]) rfl (nb9 rfl) (mvD rfl (mvD rfl (ixLn sl.Weights 0 rfl rfl (by omega) rfl rfl (ldRA ag.Weight rfl (vs := [_,_,_,_,_,_,_,_]) rfl (nb9 rfl) (mvD rfl ?_)))))))
  refine mvD rfl (ixLn sl.Weights 0 rfl rfl (by omega) rfl rfl (ldRA ag.Weight rfl (vs := [_,_,_,_,_,_,_,_]) rfl (nb9 rfl) (clv rfl (.cons (VLe.refl _) (.cons (VLe.refl _) (.cons (VLe.refl _) (.nil)))) (TimesR (p := v.getD i 0) (q := u.getD i 0) (by omega) (by omega)) (clv rfl (.cons (VLe.refl _) (.cons (VLe.refl _) (.cons (VLe.refl _) (.nil)))) (PlusR (p := (dotF v u i)) (q := v.getD i 0 * u.getD i 0) (by omega) (by omega)) (sto sz.Weight rfl rfl rfl rfl rfl (nb9 rfl) (cells2 := [_,_,_,_,_,_,_,_]) rfl (OL.nil (AW.rg hE rfl ?_)))))))
  refine add_i64 rfl rfl (by omega) (mvD rfl (OL.nil ?_))
  exact AW.again (x := i) (i + 1) (by omega) ⟨by omega, Knows.app .rq6 .rq1, Owns.app (.cons rfl (.cons rfl .nil)) (.cons rfl .nil)⟩
 ·try simp only [dx9] at h14
  refine AW.exit (AW.seq ?_)
  obtain rfl : i = n := by omega
  refine AW.rg hE rfl (ldPA ag.Weight rfl rfl (vs := [_,_,_,_,_,_,_,_]) rfl (nb9 rfl) (sto sz.Weight rfl rfl rfl rfl rfl (nb9 rfl) (cells2 := [_,_,_,_,_,_,_,_]) rfl (OL.nil ?_)))
  exact AW.ret (RetQ.r ⟨_, .cellA rfl rfl ag.Weight (nb9 rfl) .nil, .ag (.cons (.le (VLe.refl _)) (.cons (.le (VLe.refl _)) (.cons (.le (VLe.refl _)) (.cons (.le (VLe.refl _)) (.cons (.le (VLe.refl _)) (.cons (.le (VLe.refl _)) (.cons (.le (VLe.refl _)) (.cons (.le (VLe.refl _)) .nil))))))))⟩)
set_option maxHeartbeats 800000 in
theorem WeightW {a : Au} (h : a.Ok) (za : a.Sz 134217728 20) (s1 : a.sym ≤ 32) (s2 : a.st ≤ 64) {w : List Int} (hw : InW a.sym w) (hl : w.length ≤ 256) (zz : FwSz (normOf a) w) : FSpec P F.weigh_Weight [vAu a, .d (ints w)] (.tup [vW (serA a w), .d (dI 0)]) := by
 have hn := norm_ok h
 have e9 : dotF (fwA (normOf a) w) a.fin a.st = serA a w := by
  have h9 := dotF_ser hn (u := w) hw
  rw [ser_norm] at h9
  exact h9
 refine FSpec.intro fn.weigh_Weight (by rfl) (by rfl) (nb9 (by rfl)) fun E hE => (AW.sg hE rfl (bxA rfl rfl fun b2 => (al z.Weight rfl fun b4 => (asD rfl (OL.nil (AW.sg hE rfl (ldPA ag.Auto rfl rfl (vs := [_,_,_,_,_,_,_]) rfl (nb9 rfl) ?_)))))))
 refine mvD rfl (clv rfl (.cons (VLe.refl _) (.cons (VLe.refl _) (.nil))) (ForwardW h za s1 s2 hw hl zz) (mvT rfl (ex rfl rfl (ex rfl rfl (asD rfl (asD rfl (OL.nil ?_)))))))
 refine AW.seq (AW.sg hE rfl (mvD rfl (c_neq rfl rfl (c := false) (by exact cne_f (by omega)) (OL.nil (AW.cond rfl (fun hno => absurd hno (by decide)) (fun _ => ?_))))))
 refine AW.skip (AW.sg hE rfl (faP fd.Auto_0 rfl rfl (ldPA ag.Ring rfl rfl (vs := [_,_]) rfl (nb9 rfl) (mvD rfl (faP fd.Auto_4 rfl rfl (ldPC ce.Weights rfl rfl rfl (clv rfl (.cons (VLe.refl _) (.cons (VLe.refl _) (.cons (VLe.refl _) (.nil)))) (DotW (v := fwA (normOf a) w) (u := a.fin) (n := a.st) (fwA_len hn w) h.fin s2 zz.zv zz.zf zz.zd) ?_)))))))
 rw [e9]
 refine sto sz.Weight rfl rfl rfl rfl rfl (nb9 rfl) (cells2 := [_,_,_,_,_,_,_,_]) rfl (asD rfl (OL.nil ?_))
 exact AW.ret (RetQ.r ⟨_, .cellA rfl rfl ag.Weight (nb9 rfl) (.tmp rfl .nil), _, .cons (.ag (.cons (.le (VLe.refl _)) (.cons (.le (VLe.refl _)) (.cons (.le (VLe.refl _)) (.cons (.le (VLe.refl _)) (.cons (.le (VLe.refl _)) (.cons (.le (VLe.refl _)) (.cons (.le (VLe.refl _)) (.cons (.le (VLe.refl _)) .nil))))))))) (.cons (.le (VLe.refl _)) .nil), rfl⟩)
end Go.Proofs.YtippcclgnabpdaaGreatDoor

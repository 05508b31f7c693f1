/-
  Walks of package equal, part 1: the checks (printed by mk2.py).
-/
import Derived.Test.YtifcpafkcjdfhaaGreatDoorKWkI
set_option linter.unusedVariables false
set_option linter.unusedSimpArgs false
namespace Go.Proofs.YtifcpafkcjdfhaaGreatDoor
open Go Go.AL
theorem FSpecM.frame {P : Program} {f : Nat} {args : List V} {M Mc : Mem} {res : V} (hc : ∀ id blk, Mc id = some blk → M id = some blk) (h : FSpecM P f args Mc res Mc) : FSpecM P f args M res M :=
 ⟨h.1, fun F w vals hS hv => (h.2 F w vals (sim_sub hS hc) hv).mono fun e w' ⟨v, F', he, ha, hs⟩ => by
  have k := After.over hS hc (fun _ h => h) ha
  rw [over_self hc] at k
  exact ⟨v, F', he, k, hs⟩⟩
theorem FSpec.toM {P : Program} {f : Nat} {args : List V} {M : Mem} {res : V} (h : FSpec P f args res) : FSpecM P f args M res M := by
 refine FSpecM.frame (Mc := noMem) (fun _ _ h => by cases h) ⟨h.1, fun F w vals hS hv => (h.2 F w vals hS.imm hv).mono fun e w' ⟨v, F', he, hx, hs⟩ => ⟨v, F', he, ⟨hx.grow.mono (fun i h => h.elim), hx.le, sim_none hx.imm, fun k a b => .inl (hx.new k a b), fun k ho => (owned_none k ho).elim⟩, hs⟩⟩
abbrev fC (f : Nat) (us : List Value) : D := .sc (.func (.func f) #[] us.toArray)
theorem fn_caps {F : Hp} {v : Value} {f : Nat} {cs : List V} {us : List Value} (h : SimV F v (.fn f cs)) (he : ∀ (xs : List Value), xs.length = cs.length → (∀ (i : Nat) (c : V) (u : Value), cs[i]? = some c → xs[i]? = some u → SimV F u c) → xs = us) : v = .func (.func f) #[] us.toArray := by
 cases h with
 | fn hl hr => rw [he _ hl hr]
theorem vc_fn0 {f : Nat} : VC (.fn f []) (fC f []) := fun F v h => by
 rw [fn_caps (us := []) h fun xs hl _ => List.eq_nil_of_length_eq_zero hl]
 exact ⟨.sc rfl, rfl⟩
theorem vc_fn1 {f id b : Nat} : VC (.fn f [.ptr id b 0]) (fC f [.pointer (some ⟨b, 0, none⟩)]) := fun F v h => by
 rw [fn_caps (us := [.pointer (some ⟨b, 0, none⟩)]) h fun xs hl hr => by
  match xs, hl with
  | [x], _ =>
   have h1 := hr 0 _ x rfl rfl
   cases h1; rfl]
 exact ⟨.sc rfl, rfl⟩
theorem vle_fC0 {f : Nat} : VLe (.d (fC f [])) (.fn f []) := fun F v h => by
 cases h with
 | d h _ => cases h; exact .fn (us := []) rfl fun i c u hc _ => by simp at hc
theorem vle_fC1 {f id b : Nat} : VLe (.d (fC f [.pointer (some ⟨b, 0, none⟩)])) (.fn f [.ptr id b 0]) := fun F v h => by
 cases h with
 | d h _ =>
  cases h
  refine .fn (us := [.pointer (some ⟨b, 0, none⟩)]) rfl fun i c u hc hu => ?_
  match i, hc, hu with
  | 0, hc, hu => cases hc; cases hu; exact .ptr
  | i + 1, hc, hu => simp at hc
abbrev dAus (l : List Au) : D := .sl (l.map dAu)
theorem vd_au {a : Au} : VD (vAu a) (dAu a) := VD.ag (.cons (VC.d _) (.cons (VC.d _) (.cons (VC.d _) (.cons (VC.d _) (.cons (VC.d _) (.cons (VC.d _) (.cons (VC.d _) .nil)))))))
abbrev boxL (b : Nat) (l : List Au) : Blk := .box b T.Autos [.d (dAus l)]
structure Au.Fit (a : Au) (s : Nat) : Prop where
 ok : a.Ok
 sz : a.Sz 1048576 20
 sym : a.sym = s
 s1 : a.sym ≤ 32
 st : a.st ≤ 64
def chkL (b : Nat) : List (Nat × List Value) := [(F.equal_Check_1, []), (F.equal_Check_2, []), (F.equal_Check_3, []), (F.equal_Check_4, [.pointer (some ⟨b, 0, none⟩)])]
abbrev chkD (b : Nat) : List D := (chkL b).map fun p : Nat × List Value => fC p.1 p.2
def chkF (i : Nat) : Nat := if i = 0 then F.equal_Check_1 else if i = 1 then F.equal_Check_2 else if i = 2 then F.equal_Check_3 else F.equal_Check_4
def chkC (b i : Nat) : List V := if i = 3 then [.ptr 1 b 0] else []
theorem chk_vle {b i : Nat} (hi : i < 4) : VLe (.d (fC ((chkL b).getD i default).1 ((chkL b).getD i default).2)) (.fn (chkF i) (chkC b i)) := by
 rcases (by omega : i = 0 ∨ i = 1 ∨ i = 2 ∨ i = 3) with rfl | rfl | rfl | rfl
 ·exact vle_fC0
 ·exact vle_fC0
 ·exact vle_fC0
 ·exact vle_fC1
theorem Check_4 {a : Au} {l : List Au} {b : Nat} (nl : 1 ≤ l.length) (hs : a.sym = (l.getD 0 default).sym) : FSpecM P F.equal_Check_4 [vAu a, .ptr 1 b 0] (mem1 1 (boxL b l)) (.d (dI 0)) (mem1 1 (boxL b l)) := by
 refine FSpecM.intro fn.equal_Check_4 (by rfl) (by rfl) (nb9 (by rfl)) fun E hE => (AW.sg hE rfl (bxA rfl rfl fun b2 => (asD rfl (OL.nil (AW.seq (AW.dg 1 [0,1,2,3,4,5,6,7,8] order_free hE rfl (by kernel_rfl) (OI.of_OL (os := [_,_,_,_,_,_,_,_,_]) rfl ?_)))))))
 refine faP fd.Auto_1 rfl rfl (ldPC ce.int rfl rfl rfl (ldPC ce.Autos rfl rfl rfl (ixLe 0 sl.Autos default rfl rfl rfl (by omega) rfl rfl (faR fd.Auto_1 rfl rfl (ldRC ce.int rfl (c_eql rfl rfl (c := true) (by exact decide_eq_true (by omega)) (clv rfl (.cons (VLe.refl _) (.cons (VLe.refl _) (.nil))) (is_ok) ?_)))))))
 exact asD rfl (OL.nil (AW.ret ⟨⟨_, .tmp rfl .nil, .le (VLe.refl _)⟩, mem1_keep rfl⟩))
theorem chk_all {a : Au} {s b i : Nat} {l : List Au} (hl : ∀ x, x ∈ l → Au.Fit x s) (nl : 1 ≤ l.length) (ha : a ∈ l) (hi : i < 4) : FSpecM P (chkF i) (vAu a :: chkC b i) (mem1 1 (boxL b l)) (.d (dI 0)) (mem1 1 (boxL b l)) := by
 have f := hl a ha
 have f0 := hl _ (getD_mem (show 0 < l.length by omega) default)
 rcases (by omega : i = 0 ∨ i = 1 ∨ i = 2 ∨ i = 3) with rfl | rfl | rfl | rfl
 ·exact FSpec.toM (Check_1 f.ok f.sz f.s1 f.st)
 ·exact FSpec.toM (Check_2 f.ok f.sz f.s1 f.st)
 ·exact FSpec.toM (Check_3 f.ok f.sz f.s1 f.st)
 ·exact Check_4 nl (f.sym.trans f0.sym.symm)
set_option maxHeartbeats 800000 in
theorem CheckA {l : List Au} {s : Nat} (hl : ∀ a, a ∈ l → Au.Fit a s) (nl : 1 ≤ l.length ∧ l.length ≤ 64) : FSpec P F.equal_Check [.d (dAus l)] (.d (dI 0)) := by
 have n1 := nl.1
 have n2 := nl.2
 refine FSpec.intro fn.equal_Check (by rfl) (by rfl) (nb9 (by rfl)) fun E hE => ?_
 refine AW.sg hE rfl ?_
 refine bxD rfl rfl fun b1 => ?_
 refine asD rfl ?_
 refine OL.nil ?_
 refine AW.sg hE rfl ?_
 refine mkF (vs := [_]) rfl ?_
 refine ltN (ys := chkD b1) sl.fnsCheck rfl (pdC vc_fn0.vd (pdC vc_fn0.vd (pdC vc_fn0.vd (pdC vc_fn1.vd pdN)))) rfl (by decide) (by decide) (fun y hy => by obtain ⟨p, _, rfl⟩ := List.mem_map.1 hy; rfl) (asD rfl (OL.nil (AW.seq (AW.sg hE rfl (mvD rfl (lnL sl.fnsCheck rfl rfl (mvD rfl ?_)))))))
 refine OL.nil (AW.block ?_)
 refine AW.whileK (α := Nat) [(1, _), (11, _), (12, _)] [(1, _)] (fun i => [(13, .d (dI i))]) (fun i => []) (fun i => i ≤ 4) (fun i => 4 - i) 0 (.cons (knP rfl) (.cons (knD rfl) (.cons (knD rfl) .nil))) (.cons (owB rfl) .nil) ⟨Nat.zero_le _, .rq1, .nil⟩ ?_
 intro i h1
 have h1 : i ≤ 4 := h1
 have hk4 : (chkL b1).length = 4 := rfl
 refine AW.sg hE rfl (c_lss rfl rfl rfl (OL.nil (AW.seq (AW.cond rfl (fun h14 => ?_) (fun h14 => ?_)))))
 ·try simp only [dx9] at h14
  refine AW.skip (AW.seq (AW.block (AW.sg hE rfl (ixLn sl.fnsCheck default rfl rfl (by omega) rfl rfl (ldRC ce.fnCheck rfl (asD rfl (OL.nil ?_)))))))
  refine AW.seq ?_
  refine AW.to [(1, .ptr 1 b1 0), (5, .fn (chkF i) (chkC b1 i)), (11, .d (.sl (chkD b1))), (12, .d (dI 4)), (13, .d (dI i))] [(1, boxL b1 l)] (.cons (VLe.refl _) (.cons (chk_vle (by omega)) .rq3)) (.cons rfl .nil) ?_
  refine AW.rg hE rfl (ldPC ce.Autos rfl rfl rfl (lnL sl.Autos rfl rfl (mvD rfl (OL.nil (AW.block ?_)))))
  refine AW.whileK (α := Nat) [(1, _), (5, _), (11, _), (12, _), (13, _), (17, _), (18, _)] [(1, _)] (fun j => [(19, .d (dI j))]) (fun j => []) (fun j => j ≤ l.length) (fun j => l.length - j) 0 (.cons (knP rfl) (.cons (knF rfl) (.cons (knD rfl) (.cons (knD rfl) (.cons (knD rfl) (.cons (knD rfl) (.cons (knD rfl) .nil))))))) (.cons (owB rfl) .nil) ⟨Nat.zero_le _, .rq1, .nil⟩ ?_
  intro j h2
  have h2 : j ≤ l.length := h2
  refine AW.sg hE rfl (c_lss rfl rfl rfl (OL.nil (AW.seq (AW.cond rfl (fun h20 => ?_) (fun h20 => ?_)))))
  ·try simp only [dx9] at h20
   refine AW.skip (AW.seq (AW.block (AW.sg hE rfl (ixLn sl.Autos default rfl rfl (by omega) rfl rfl (ldRA ag.Auto rfl (vs := [_,_,_,_,_,_,_]) rfl (nb9 rfl) (al z.Auto rfl fun b7 => (sto sz.Auto rfl rfl rfl rfl rfl (nb9 rfl) (cells2 := [_,_,_,_,_,_,_]) rfl ?_)))))))
   refine OL.nil (AW.sg hE rfl (mvF rfl (ldPA ag.Auto rfl rfl (vs := [_,_,_,_,_,_,_]) rfl (nb9 rfl) (clC0 (args2 := vAu (l.getD j default) :: chkC b1 i) rfl (.cons (VLe.refl _) (VLes.refl _)) (chk_all hl n1 (getD_mem (by omega) default) (by omega)) (mem1_keep rfl) (asD rfl (OL.nil (AW.sg hE rfl ?_)))))))
   refine mvD rfl (c_neq rfl rfl (c := false) (by exact cne_f (by omega)) (OL.nil (AW.cond rfl (fun hno => absurd hno (by decide)) (fun _ => ?_))))
   refine AW.skip (AW.rg hE rfl (add_i64 rfl rfl (by omega) (mvD rfl (OL.nil ?_))))
   exact AW.again (x := j) (j + 1) (by omega) ⟨by omega, Knows.app .rq7 .rq1, Owns.app (.cons rfl .nil) (.nil)⟩
  ·try simp only [dx9] at h20
   exact AW.exit (AW.rg hE rfl (add_i64 rfl rfl (by omega) (mvD rfl (OL.nil (AW.again (x := i) (i + 1) (by omega) ⟨by omega, Knows.app .rq3 .rq1, Owns.app (.cons rfl .nil) (.nil)⟩)))))
 ·try simp only [dx9] at h14
  exact AW.exit (AW.sg hE rfl (asD rfl (OL.nil (AW.ret (RetQ.r ⟨_, .tmp rfl .nil, .le (VLe.refl _)⟩)))))
end Go.Proofs.YtifcpafkcjdfhaaGreatDoor

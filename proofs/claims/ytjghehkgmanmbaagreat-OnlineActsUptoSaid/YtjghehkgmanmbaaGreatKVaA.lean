/-
  Walks of package hmm on any model, part 1: numbers, lists, form, sums, ties (printed by mk2.py).
-/
import Derived.Test.YtjghehkgmanmbaaGreatKHmmB
import Derived.Test.YtjghehkgmanmbaaGreatKNum12
set_option linter.unusedVariables false
set_option linter.unusedSimpArgs false
namespace Go.Proofs.YtjghehkgmanmbaaGreat
open Go Go.AL
theorem rational_CompareR1 {r : Raw} (m : r.Med) : FSpec P F.rational_Compare [vRaw r, vQ 1] (.d (dI (cmpQ r.q 1))) := by
 have h := rational_Compare (x := r) (y := ofQ 1) m.sm (ofQ_sm z1K)
 rw [q_ofQ] at h; exact h
noncomputable def fmB (h : RM) : Bool := @decide h.Fm (Classical.propDecidable _)
theorem fmB_t {h : RM} (f : h.Fm) : true = fmB h := (@decide_eq_true _ (Classical.propDecidable _) f).symm
theorem fmB_f {h : RM} (f : ¬ h.Fm) : false = fmB h := (@decide_eq_false _ (Classical.propDecidable _) f).symm
noncomputable def sumB (h : HM) : Bool := @decide h.Sums (Classical.propDecidable _)
theorem sumB_t {h : HM} (f : h.Sums) : true = sumB h := (@decide_eq_true _ (Classical.propDecidable _) f).symm
theorem sumB_f {h : HM} (f : ¬ h.Sums) : false = sumB h := (@decide_eq_false _ (Classical.propDecidable _) f).symm
noncomputable def tieB (h : HM) : Bool := @decide h.Tied (Classical.propDecidable _)
theorem tieB_t {h : HM} (f : h.Tied) : true = tieB h := (@decide_eq_true _ (Classical.propDecidable _) f).symm
theorem tieB_f {h : HM} (f : ¬ h.Tied) : false = tieB h := (@decide_eq_false _ (Classical.propDecidable _) f).symm
def shasB (l : List Raw) : Bool := !(l.any fun r => !shareR r)
theorem shasB_t {l : List Raw} (h : shasB l = true) : SharesR l := fun r hr => by
 cases hs : shareR r with
 | true => rfl
 | false =>
  unfold shasB at h
  rw [List.any_eq_true.2 ⟨r, hr, by rw [hs]; rfl⟩] at h; cases h
theorem shasB_f {l : List Raw} (h : shasB l = false) : ¬ SharesR l := fun hs => by
 unfold shasB at h
 rw [any_false fun x hx => by rw [hs x hx]; rfl] at h; cases h
abbrev raw0 : Raw := ⟨false, [], []⟩
theorem share_false {r : Raw} (h : r.good = false ∨ ¬ 0 ≤ r.q) : false = shareR r := by
 unfold shareR
 rcases h with h | h
 ·rw [h]; rfl
 ·rw [show decide (Share r.q) = false from decide_eq_false fun e => h e.1, Bool.and_false]
theorem share_val {r : Raw} (h : r.good = true) (g : 0 ≤ r.q) : decide (cmpQ r.q 1 ≤ 0) = shareR r := by
 unfold shareR
 rw [h, Bool.true_and]
 exact decide_eq_decide.2 ⟨fun e => ⟨g, cmpQ_le.1 e⟩, fun e => cmpQ_le.2 e.2⟩
theorem hmm_shareR {r : Raw} (m : r.Med) : FSpec P F.hmm_share [vRaw r] (.d (dB (shareR r))) := by
 refine FSpec.intro fn.hmm_share (by rfl) (by rfl) (nb9 (by rfl)) fun E hE => (AW.sg hE rfl (bxA rfl rfl fun b1 => (asD rfl (OL.nil (AW.seq (AW.dg 1 [0,1,2,3,4,5,6,7,8,9,10,11,12,13] order_free hE rfl (by kernel_rfl) (OI.of_OL (os := [_,_,_,_,_,_,_,_,_,_,_,_,_,_]) rfl ?_)))))))
 refine ldPA ag.Rat rfl rfl (vs := [_,_,_]) rfl (nb9 rfl) (clv rfl (.cons (VLe.refl _) (.nil)) (rational_Valid m.ok) (mvD rfl (OL.split 5 rfl (fun g1 => ?_) (fun g1 => ?_))))
 ·have g1 : r.good = true := g1
  refine OL.yes rfl (ldPA ag.Rat rfl rfl (vs := [_,_,_]) rfl (nb9 rfl) (OL.yes rfl (clv rfl (.cons (VLe.refl _) (.nil)) (rational_Sign m.ok) (OL.yes rfl (c_geq rfl rfl rfl (pkT rfl rfl (mvD rfl ?_)))))))
  refine OL.split 10 rfl (fun g => ?_) (fun g => ?_)
  ·have g : 0 ≤ r.q := sgnQ_nonneg.1 (of_decide_eq_true g)
   refine OL.yes rfl (ldPA ag.Rat rfl rfl (vs := [_,_,_]) rfl (nb9 rfl) (OL.yes rfl (clv rfl (.nil) (hmm_one) (OL.yes rfl (clv rfl (.cons (VLe.refl _) (.cons (VLe.refl _) (.nil))) (rational_CompareR1 m) (OL.yes rfl (c_leq rfl rfl rfl ?_)))))))
   exact pkT rfl rfl (asD rfl (OL.nil (AW.ret (RetQ.r ⟨_, .tmp rfl .nil, .le (VLe.bool (share_val g1 g))⟩))))
  ·have g : ¬ 0 ≤ r.q := fun e => of_decide_eq_false g (sgnQ_nonneg.2 e)
   exact OL.nd rfl (OL.nd rfl (OL.nd rfl (OL.nd rfl (pkF rfl rfl (asD rfl (OL.nil (AW.ret (RetQ.r ⟨_, .tmp rfl .nil, .le (VLe.bool (share_false (.inr g)))⟩))))))))
 ·have g1 : r.good = false := g1
  refine OL.nd rfl (OL.nd rfl (OL.nd rfl (pkF rfl rfl (mvD rfl (OL.nd rfl (OL.nd rfl (OL.nd rfl ?_)))))))
  exact OL.nd rfl (pkF rfl rfl (asD rfl (OL.nil (AW.ret (RetQ.r ⟨_, .tmp rfl .nil, .le (VLe.bool (share_false (.inl g1)))⟩)))))
theorem hmm_shares_1R {r : Raw} (m : r.Med) : FSpec P F.hmm_shares_1 [vRaw r] (.d (dB (!shareR r))) := by
 refine FSpec.intro fn.hmm_shares_1 (by rfl) (by rfl) (nb9 (by rfl)) fun E hE => (AW.sg hE rfl (bxA rfl rfl fun b1 => (asD rfl (OL.nil (AW.sg hE rfl (ldPA ag.Rat rfl rfl (vs := [_,_,_]) rfl (nb9 rfl) (clv rfl .rq1 (hmm_shareR m) ?_)))))))
 exact nt rfl (asD rfl (OL.nil (AW.ret (RetQ.r ⟨_, .tmp rfl .nil, .le (VLe.refl _)⟩))))
theorem index_Raws {l : List Raw} {f : Nat} {p : Raw → Bool} (hf : ∀ q, q ∈ l → FSpec P f [vRaw q] (.d (dB (p q)))) (nl : l.length ≤ 1099511627776) : FSpec P F.slices_IndexFunc_Rats_Rat [.d (dRs l), .fn f []] (.d (dI (idx1 p l))) := by
 refine FSpec.intro fn.slices_IndexFunc_Rats_Rat (by rfl) (by rfl) (nb9 (by rfl)) fun E hE => (AW.sg hE rfl (asD rfl (OL.nil (AW.seq (AW.sg hE rfl (mvD rfl (lnL sl.Rats rfl rfl ?_)))))))
 refine mvD rfl (OL.nil (AW.block ?_))
 refine AW.whileK (α := Nat) [(0, _), (1, _), (7, _)] [] (fun i => [(8, .d (dI i))]) (fun i => []) (fun i => i ≤ l.length ∧ ∀ j, j < i → p (l.getD j raw0) = false) (fun i => l.length - i) 0 (.cons (knD rfl) (.cons (knF rfl) (.cons (knD rfl) .nil))) .nil ⟨⟨Nat.zero_le _, fun j hj => by omega⟩, .rq1, .nil⟩ ?_
 rintro i ⟨h1, h2⟩
 refine AW.sg hE rfl (c_lss rfl rfl rfl (OL.nil (AW.seq (AW.cond rfl (fun h9 => ?_) (fun h9 => ?_)))))
 ·try simp only [dx9] at h9
  refine AW.skip (AW.seq (AW.block (AW.sg hE rfl (mvD rfl (asD rfl (OL.nil (AW.sg hE rfl ?_)))))))
  refine mvF rfl (mvD rfl (mvD rfl (ixLn sl.Rats raw0 rfl rfl (by omega) rfl rfl (ldRA ag.Rat rfl (vs := [_,_,_]) rfl (nb9 rfl) (clv rfl .rq1 (hf (l.getD i raw0) (getD_mem (by omega) _)) (OL.nil (AW.cond rfl (fun h16 => ?_) (fun h16 => ?_))))))))
  ·have h16 := h16
   exact AW.sg hE rfl (mvD rfl (asD rfl (OL.nil (AW.ret (RetQ.r ⟨_, .tmp rfl .nil, .le (VLe.int ((idx1_found (by omega) raw0 h16 h2).symm))⟩)))))
  ·have h16 := h16
   refine AW.skip (AW.rg hE rfl (add_i64 rfl rfl (by omega) (mvD rfl (OL.nil ?_))))
   exact AW.again (x := i) (i + 1) (by omega) ⟨⟨by omega, fun j hj => by rcases Nat.lt_or_ge j i with h | h; exact h2 j h; obtain rfl : j = i := (by omega); exact h16⟩, Knows.app .rq3 .rq1, .nil⟩
 ·try simp only [dx9] at h9
  exact AW.exit (AW.sg hE rfl (asD rfl (OL.nil (AW.ret (RetQ.r ⟨_, .tmp rfl .nil, .le (VLe.int ((idx1_none raw0 fun j hj => h2 j (by omega)).symm))⟩)))))
theorem contains_Raws {l : List Raw} {f : Nat} {p : Raw → Bool} (hf : ∀ q, q ∈ l → FSpec P f [vRaw q] (.d (dB (p q)))) (nl : l.length ≤ 1099511627776) : FSpec P F.slices_ContainsFunc_Rats_Rat [.d (dRs l), .fn f []] (.d (dB (l.any p))) := by
 refine FSpec.intro fn.slices_ContainsFunc_Rats_Rat (by rfl) (by rfl) (nb9 (by rfl)) fun E hE => (AW.sg hE rfl (asD rfl (OL.nil (AW.sg hE rfl (mvD rfl (mvF rfl (clv rfl .rq2 (index_Raws hf nl) ?_)))))))
 exact c_geq rfl rfl rfl (asD rfl (OL.nil (AW.ret (RetQ.r ⟨_, .tmp rfl .nil, .le (VLe.bool (idx1_any p l))⟩))))
theorem hmm_sharesR {l : List Raw} (m : MedL l) (nl : l.length ≤ 1048576) : FSpec P F.hmm_shares [.d (dRs l)] (.d (dB (shasB l))) := by
 refine FSpec.intro fn.hmm_shares (by rfl) (by rfl) (nb9 (by rfl)) fun E hE => (AW.sg hE rfl (asD rfl (OL.nil (AW.sg hE rfl (mvD rfl (clv rfl .rq2 (contains_Raws (f := F.hmm_shares_1) (p := fun q => !shareR q) (fun q hq => hmm_shares_1R (m q hq)) (by omega)) (nt rfl ?_)))))))
 exact asD rfl (OL.nil (AW.ret (RetQ.r ⟨_, .tmp rfl .nil, .le (VLe.refl _)⟩)))
set_option maxRecDepth 6000 in
set_option maxHeartbeats 3200000 in
theorem hmm_formedR {h : RM} (z : h.Sz) (g : h.Rng) : FSpec P F.hmm_formed [vRM h] (.d (dB (fmB h))) := by
 obtain ⟨⟨s0, s1⟩, n0, n1⟩ := g
 have y1 := z.li
 have y2 := z.ls
 have y3 := z.lt
 have y4 := z.lm
 have y5 := z.ll
 have y6 := z.lk
 refine FSpec.intro fn.hmm_formed (by rfl) (by rfl) (nb9 (by rfl)) fun E hE => (AW.sg hE rfl (bxA rfl rfl fun b1 => (asD rfl (OL.nil (AW.sg hE rfl (faP fd.Hidden_1 rfl rfl (ldPC ce.int rfl rfl rfl ?_)))))))
 refine asD rfl (OL.nil (AW.seq (AW.sg hE rfl (faP fd.Hidden_2 rfl rfl (ldPA ag.Rat rfl rfl (vs := [_,_,_]) rfl (nb9 rfl) (clv rfl (.cons (VLe.refl _) (.nil)) (hmm_shareR z.e) (nt rfl ?_)))))))
 refine mvD rfl (OL.split 12 rfl (fun a1 => ?_) (fun a1 => ?_))
 ·have a1 : shareR h.empty = false := by simpa using a1
  refine OL.nd rfl (OL.nd rfl (OL.nd rfl (OL.nd rfl (OL.nd rfl (pkT rfl rfl (mvD rfl (OL.nd rfl ?_)))))))
  refine OL.nd rfl (OL.nd rfl (OL.nd rfl (OL.nd rfl (pkT rfl rfl (mvD rfl (OL.nd rfl (OL.nd rfl ?_)))))))
  refine OL.nd rfl (OL.nd rfl (OL.nd rfl (pkT rfl rfl (mvD rfl (OL.nd rfl (OL.nd rfl (OL.nd rfl ?_)))))))
  refine OL.nd rfl (OL.nd rfl (pkT rfl rfl (mvD rfl (OL.nd rfl (OL.nd rfl (OL.nd rfl (OL.nd rfl ?_)))))))
  refine OL.nd rfl (pkT rfl rfl (mvD rfl (OL.nd rfl (OL.nd rfl (OL.nd rfl (OL.nd rfl (OL.nd rfl ?_)))))))
  refine pkT rfl rfl (mvD rfl (OL.nd rfl (OL.nd rfl (OL.nd rfl (OL.nd rfl (pkT rfl rfl (mvD rfl ?_)))))))
  refine OL.nd rfl (OL.nd rfl (OL.nd rfl (OL.nd rfl (pkT rfl rfl (OL.nil (AW.cond rfl (fun _ => ?_) (fun hno => absurd hno (by decide))))))))
  exact AW.sg hE rfl (asD rfl (OL.nil (AW.ret (RetQ.r ⟨_, .tmp rfl .nil, .le (VLe.bool (fmB_f fun f => by have e := f.e; rw [a1] at e; cases e))⟩))))
 ·have a1 : shareR h.empty = true := by simpa using a1
  refine OL.yes rfl (faP fd.Hidden_3 rfl rfl (OL.yes rfl (ldPC ce.Rats rfl rfl rfl (OL.yes rfl (lnL sl.Rats rfl rfl (OL.yes rfl (mvD rfl ?_)))))))
  refine OL.yes rfl (c_neq rfl rfl rfl (pkF rfl rfl (mvD rfl (OL.split 19 rfl (fun a2 => ?_) (fun a2 => ?_)))))
  ·have a2 : ¬ ((h.ini.length : Int) = h.st) := by simpa using a2
   refine OL.nd rfl (OL.nd rfl (OL.nd rfl (OL.nd rfl (OL.nd rfl (pkT rfl rfl (mvD rfl (OL.nd rfl ?_)))))))
   refine OL.nd rfl (OL.nd rfl (OL.nd rfl (OL.nd rfl (pkT rfl rfl (mvD rfl (OL.nd rfl (OL.nd rfl ?_)))))))
   refine OL.nd rfl (OL.nd rfl (OL.nd rfl (pkT rfl rfl (mvD rfl (OL.nd rfl (OL.nd rfl (OL.nd rfl ?_)))))))
   refine OL.nd rfl (OL.nd rfl (pkT rfl rfl (mvD rfl (OL.nd rfl (OL.nd rfl (OL.nd rfl (OL.nd rfl ?_)))))))
   refine OL.nd rfl (pkT rfl rfl (mvD rfl (OL.nd rfl (OL.nd rfl (OL.nd rfl (OL.nd rfl (pkT rfl rfl ?_)))))))
   refine mvD rfl (OL.nd rfl (OL.nd rfl (OL.nd rfl (OL.nd rfl (pkT rfl rfl (OL.nil (AW.cond rfl (fun _ => ?_) (fun hno => absurd hno (by decide)))))))))
   exact AW.sg hE rfl (asD rfl (OL.nil (AW.ret (RetQ.r ⟨_, .tmp rfl .nil, .le (VLe.bool (fmB_f fun f => a2 f.li))⟩))))
  ·have a2 : (h.ini.length : Int) = h.st := by simpa using a2
   refine OL.yes rfl (faP fd.Hidden_5 rfl rfl (OL.yes rfl (ldPC ce.Rats rfl rfl rfl (OL.yes rfl (lnL sl.Rats rfl rfl (OL.yes rfl (mvD rfl ?_)))))))
   refine OL.yes rfl (c_neq rfl rfl rfl (pkF rfl rfl (mvD rfl (OL.split 26 rfl (fun a3 => ?_) (fun a3 => ?_)))))
   ·have a3 : ¬ ((h.stop.length : Int) = h.st) := by simpa using a3
    refine OL.nd rfl (OL.nd rfl (OL.nd rfl (OL.nd rfl (OL.nd rfl (pkT rfl rfl (mvD rfl (OL.nd rfl ?_)))))))
    refine OL.nd rfl (OL.nd rfl (OL.nd rfl (OL.nd rfl (pkT rfl rfl (mvD rfl (OL.nd rfl (OL.nd rfl ?_)))))))
    refine OL.nd rfl (OL.nd rfl (OL.nd rfl (pkT rfl rfl (mvD rfl (OL.nd rfl (OL.nd rfl (OL.nd rfl ?_)))))))
    refine OL.nd rfl (OL.nd rfl (pkT rfl rfl (mvD rfl (OL.nd rfl (OL.nd rfl (OL.nd rfl (OL.nd rfl ?_)))))))
    refine pkT rfl rfl (mvD rfl (OL.nd rfl (OL.nd rfl (OL.nd rfl (OL.nd rfl (pkT rfl rfl (OL.nil ?_)))))))
    refine AW.cond rfl (fun _ => ?_) (fun hno => absurd hno (by decide))
    exact AW.sg hE rfl (asD rfl (OL.nil (AW.ret (RetQ.r ⟨_, .tmp rfl .nil, .le (VLe.bool (fmB_f fun f => a3 f.ls))⟩))))
   ·have a3 : (h.stop.length : Int) = h.st := by simpa using a3
    refine OL.yes rfl (faP fd.Hidden_7 rfl rfl (OL.yes rfl (ldPC ce.bools rfl rfl rfl (OL.yes rfl (lnL sl.bools rfl rfl (OL.yes rfl (mvD rfl ?_)))))))
    refine OL.yes rfl (c_neq rfl rfl rfl (pkF rfl rfl (mvD rfl (OL.split 33 rfl (fun a4 => ?_) (fun a4 => ?_)))))
    ·have a4 : ¬ ((h.silent.length : Int) = h.st) := by simpa using a4
     refine OL.nd rfl (OL.nd rfl (OL.nd rfl (OL.nd rfl (OL.nd rfl (pkT rfl rfl (mvD rfl (OL.nd rfl ?_)))))))
     refine OL.nd rfl (OL.nd rfl (OL.nd rfl (OL.nd rfl (pkT rfl rfl (mvD rfl (OL.nd rfl (OL.nd rfl ?_)))))))
     refine OL.nd rfl (OL.nd rfl (OL.nd rfl (pkT rfl rfl (mvD rfl (OL.nd rfl (OL.nd rfl (OL.nd rfl ?_)))))))
     refine OL.nd rfl (pkT rfl rfl (mvD rfl (OL.nd rfl (OL.nd rfl (OL.nd rfl (OL.nd rfl (pkT rfl rfl ?_)))))))
     refine OL.nil (AW.cond rfl (fun _ => ?_) (fun hno => absurd hno (by decide)))
     exact AW.sg hE rfl (asD rfl (OL.nil (AW.ret (RetQ.r ⟨_, .tmp rfl .nil, .le (VLe.bool (fmB_f fun f => a4 f.ll))⟩))))
    ·have a4 : (h.silent.length : Int) = h.st := by simpa using a4
     refine OL.yes rfl (faP fd.Hidden_8 rfl rfl (OL.yes rfl (ldPC ce.ints rfl rfl rfl (OL.yes rfl (lnL sl.ints rfl rfl (OL.yes rfl (mvD rfl ?_)))))))
     refine OL.yes rfl (c_neq rfl rfl rfl (pkF rfl rfl (mvD rfl (OL.split 40 rfl (fun a5 => ?_) (fun a5 => ?_)))))
     ·have a5 : ¬ ((h.ties.length : Int) = h.st) := by simpa using a5
      refine OL.nd rfl (OL.nd rfl (OL.nd rfl (OL.nd rfl (OL.nd rfl (pkT rfl rfl (mvD rfl (OL.nd rfl ?_)))))))
      refine OL.nd rfl (OL.nd rfl (OL.nd rfl (OL.nd rfl (pkT rfl rfl (mvD rfl (OL.nd rfl (OL.nd rfl ?_)))))))
      refine OL.nd rfl (OL.nd rfl (pkT rfl rfl (mvD rfl (OL.nd rfl (OL.nd rfl (OL.nd rfl (OL.nd rfl ?_)))))))
      refine pkT rfl rfl (OL.nil (AW.cond rfl (fun _ => ?_) (fun hno => absurd hno (by decide))))
      exact AW.sg hE rfl (asD rfl (OL.nil (AW.ret (RetQ.r ⟨_, .tmp rfl .nil, .le (VLe.bool (fmB_f fun f => a5 f.lk))⟩))))
     ·have a5 : (h.ties.length : Int) = h.st := by simpa using a5
      refine OL.yes rfl (faP fd.Hidden_4 rfl rfl (OL.yes rfl (ldPC ce.Ratss rfl rfl rfl (OL.yes rfl (lnL sl.Ratss rfl rfl (OL.yes rfl (mvD rfl ?_)))))))
      refine OL.yes rfl (c_neq rfl rfl rfl (pkF rfl rfl (mvD rfl (OL.split 47 rfl (fun a6 => ?_) (fun a6 => ?_)))))
      ·have a6 : ¬ ((h.trans.length : Int) = h.st) := by simpa using a6
       refine OL.nd rfl (OL.nd rfl (OL.nd rfl (OL.nd rfl (OL.nd rfl (pkT rfl rfl (mvD rfl (OL.nd rfl ?_)))))))
       refine OL.nd rfl (OL.nd rfl (OL.nd rfl (pkT rfl rfl (mvD rfl (OL.nd rfl (OL.nd rfl (OL.nd rfl ?_)))))))
       refine OL.nd rfl (pkT rfl rfl (OL.nil (AW.cond rfl (fun _ => ?_) (fun hno => absurd hno (by decide)))))
       exact AW.sg hE rfl (asD rfl (OL.nil (AW.ret (RetQ.r ⟨_, .tmp rfl .nil, .le (VLe.bool (fmB_f fun f => a6 f.lt))⟩))))
      ·have a6 : (h.trans.length : Int) = h.st := by simpa using a6
       refine OL.yes rfl (faP fd.Hidden_6 rfl rfl (OL.yes rfl (ldPC ce.Ratss rfl rfl rfl (OL.yes rfl (lnL sl.Ratss rfl rfl (OL.yes rfl (mvD rfl ?_)))))))
       refine OL.yes rfl (c_neq rfl rfl rfl (pkF rfl rfl (mvD rfl (OL.split 54 rfl (fun a7 => ?_) (fun a7 => ?_)))))
       ·have a7 : ¬ ((h.emit.length : Int) = h.st) := by simpa using a7
        refine OL.nd rfl (OL.nd rfl (OL.nd rfl (OL.nd rfl (pkT rfl rfl (mvD rfl (OL.nd rfl (OL.nd rfl ?_)))))))
        refine OL.nd rfl (OL.nd rfl (pkT rfl rfl (OL.nil (AW.cond rfl (fun _ => ?_) (fun hno => absurd hno (by decide))))))
        exact AW.sg hE rfl (asD rfl (OL.nil (AW.ret (RetQ.r ⟨_, .tmp rfl .nil, .le (VLe.bool (fmB_f fun f => a7 f.lm))⟩))))
       ·have a7 : (h.emit.length : Int) = h.st := by simpa using a7
        refine OL.yes rfl (faP fd.Hidden_3 rfl rfl (OL.yes rfl (ldPC ce.Rats rfl rfl rfl (OL.yes rfl (clv rfl (.cons (VLe.refl _) (.nil)) (hmm_sharesR z.i z.li) (OL.yes rfl (nt rfl ?_)))))))
        refine pkF rfl rfl (mvD rfl (OL.split 60 rfl (fun a8 => ?_) (fun a8 => ?_)))
        ·have a8 : shasB (h.ini) = false := by simpa using a8
         refine OL.nd rfl (OL.nd rfl (OL.nd rfl (OL.nd rfl (pkT rfl rfl (OL.nil (AW.cond rfl (fun _ => ?_) (fun hno => absurd hno (by decide))))))))
         exact AW.sg hE rfl (asD rfl (OL.nil (AW.ret (RetQ.r ⟨_, .tmp rfl .nil, .le (VLe.bool (fmB_f fun f => shasB_f a8 f.i))⟩))))
        ·have a8 : shasB (h.ini) = true := by simpa using a8
         refine OL.yes rfl (faP fd.Hidden_5 rfl rfl (OL.yes rfl (ldPC ce.Rats rfl rfl rfl (OL.yes rfl (clv rfl (.cons (VLe.refl _) (.nil)) (hmm_sharesR z.s z.ls) (OL.yes rfl (nt rfl ?_)))))))
         refine pkF rfl rfl (OL.nil (AW.cond rfl (fun a9 => ?_) (fun a9 => ?_)))
         ·have a9 : shasB (h.stop) = false := by simpa using a9
          exact AW.sg hE rfl (asD rfl (OL.nil (AW.ret (RetQ.r ⟨_, .tmp rfl .nil, .le (VLe.bool (fmB_f fun f => shasB_f a9 f.s))⟩))))
         ·have a9 : shasB (h.stop) = true := by simpa using a9
          refine AW.skip (AW.seq (AW.sg hE rfl (mvD rfl (mvD rfl (OL.nil (AW.block ?_))))))
          refine AW.whileK (α := Nat) [(1, _), (3, _), (66, _)] [(1, _)] (fun i => [(67, .d (dI i))]) (fun i => []) (fun i => (i : Int) ≤ h.st ∧ ∀ j, j < i → h.RowOK j) (fun i => h.st.toNat - i) 0 (.cons (knP rfl) (.cons (knD rfl) (.cons (knD rfl) .nil))) (.cons (owB rfl) .nil) ⟨⟨by omega, fun j hj => absurd hj (Nat.not_lt_zero j)⟩, .rq1, .nil⟩ ?_
          rintro i ⟨h1, h2⟩
          refine AW.sg hE rfl (c_lss rfl rfl rfl (OL.nil (AW.seq (AW.cond rfl (fun hi => ?_) (fun hi => ?_)))))
          ·try simp only [dx9] at hi
           refine AW.skip (AW.seq (AW.block (AW.sg hE rfl (mvD rfl (asD rfl (OL.nil (AW.sg hE rfl ?_)))))))
           refine faP fd.Hidden_0 rfl rfl (ldPC ce.int rfl rfl rfl (asD rfl (OL.nil ?_)))
           refine AW.midK (α := Unit) [(1, _), (3, _), (4, _), (66, _), (67, _)] [(1, _)] (fun _u => [(5, .d (dI (if h.silent.getD i false then 0 else h.sym)))]) (fun _u => []) (fun _u => True) (.cons (knP rfl) (.cons (knD rfl) (.cons (knD rfl) (.cons (knD rfl) (.cons (knD rfl) .nil))))) (.cons (owB rfl) .nil) ?_ ?_
           ·refine AW.sg hE rfl (faP fd.Hidden_7 rfl rfl (ldPC ce.bools rfl rfl rfl (mvD rfl (ixLn sl.bools false rfl rfl (by omega) rfl rfl (ldRC ce.bool rfl (OL.nil (AW.cond rfl (fun h76 => ?_) (fun h76 => ?_))))))))
            ·have h76 := h76
             exact AW.rg hE rfl (asD rfl (OL.nil (AW.reach () ⟨trivial, Knows.app .rq5 (.cons (VLe.int (by rw [h76]; rfl)) .nil), Owns.app (.cons rfl .nil) (.nil)⟩)))
            ·have h76 := h76
             exact AW.skip (AW.reach () ⟨trivial, Knows.app .rq5 (.cons (VLe.int (by rw [h76]; rfl)) .nil), Owns.app (.cons rfl .nil) (.nil)⟩)
           rintro ⟨⟩ -
           refine AW.sg hE rfl (faP fd.Hidden_4 rfl rfl (ldPC ce.Ratss rfl rfl rfl (mvD rfl (ixLn sl.Ratss [] rfl rfl (by omega) rfl rfl (ldRC ce.Rats rfl (lnL sl.Rats rfl rfl (mvD rfl ?_)))))))
           refine c_neq rfl rfl rfl (mvD rfl (OL.split 85 rfl (fun b1 => ?_) (fun b1 => ?_)))
           ·have b1 : ¬ (((h.trans.getD i []).length : Int) = h.st) := by simpa using b1
            refine OL.nd rfl (OL.nd rfl (OL.nd rfl (OL.nd rfl (OL.nd rfl (OL.nd rfl (OL.nd rfl (OL.nd rfl ?_)))))))
            refine pkT rfl rfl (mvD rfl (OL.nd rfl (OL.nd rfl (OL.nd rfl (OL.nd rfl (OL.nd rfl (OL.nd rfl ?_)))))))
            refine OL.nd rfl (pkT rfl rfl (mvD rfl (OL.nd rfl (OL.nd rfl (OL.nd rfl (OL.nd rfl (OL.nd rfl ?_)))))))
            refine OL.nd rfl (OL.nd rfl (pkT rfl rfl (mvD rfl (OL.nd rfl (OL.nd rfl (OL.nd rfl (OL.nd rfl ?_)))))))
            refine OL.nd rfl (OL.nd rfl (pkT rfl rfl (mvD rfl (OL.nd rfl (OL.nd rfl (OL.nd rfl (OL.nd rfl ?_)))))))
            refine OL.nd rfl (OL.nd rfl (OL.nd rfl (pkT rfl rfl (OL.nil (AW.cond rfl (fun _ => ?_) (fun hno => absurd hno (by decide)))))))
            exact AW.sg hE rfl (asD rfl (OL.nil (AW.ret (RetQ.r ⟨_, .tmp rfl .nil, .le (VLe.bool (fmB_f fun f => b1 (f.row i hi).1))⟩))))
           ·have b1 : ((h.trans.getD i []).length : Int) = h.st := by simpa using b1
            refine OL.yes rfl (faP fd.Hidden_6 rfl rfl (OL.yes rfl (ldPC ce.Ratss rfl rfl rfl (OL.yes rfl (mvD rfl (OL.yes rfl (ixLn sl.Ratss [] rfl rfl (by omega) rfl rfl ?_)))))))
            refine OL.yes rfl (ldRC ce.Rats rfl (OL.yes rfl (lnL sl.Rats rfl rfl (OL.yes rfl (mvD rfl (OL.yes rfl (c_neq rfl rfl rfl ?_)))))))
            refine pkF rfl rfl (mvD rfl (OL.split 95 rfl (fun b2 => ?_) (fun b2 => ?_)))
            ·have b2 : ¬ (((h.emit.getD i []).length : Int) = (if h.silent.getD i false then 0 else h.sym)) := by simpa using b2
             refine OL.nd rfl (OL.nd rfl (OL.nd rfl (OL.nd rfl (OL.nd rfl (OL.nd rfl (OL.nd rfl (pkT rfl rfl ?_)))))))
             refine mvD rfl (OL.nd rfl (OL.nd rfl (OL.nd rfl (OL.nd rfl (OL.nd rfl (OL.nd rfl (OL.nd rfl ?_)))))))
             refine pkT rfl rfl (mvD rfl (OL.nd rfl (OL.nd rfl (OL.nd rfl (OL.nd rfl (OL.nd rfl (OL.nd rfl ?_)))))))
             refine pkT rfl rfl (mvD rfl (OL.nd rfl (OL.nd rfl (OL.nd rfl (OL.nd rfl (OL.nd rfl (OL.nd rfl ?_)))))))
             refine OL.nd rfl (pkT rfl rfl (OL.nil (AW.cond rfl (fun _ => ?_) (fun hno => absurd hno (by decide)))))
             exact AW.sg hE rfl (asD rfl (OL.nil (AW.ret (RetQ.r ⟨_, .tmp rfl .nil, .le (VLe.bool (fmB_f fun f => b2 (f.row i hi).2.1))⟩))))
            ·have b2 : ((h.emit.getD i []).length : Int) = (if h.silent.getD i false then 0 else h.sym) := by simpa using b2
             refine OL.yes rfl (faP fd.Hidden_4 rfl rfl (OL.yes rfl (ldPC ce.Ratss rfl rfl rfl (OL.yes rfl (mvD rfl (OL.yes rfl (ixLn sl.Ratss [] rfl rfl (by omega) rfl rfl ?_)))))))
             refine OL.yes rfl (ldRC ce.Rats rfl (OL.yes rfl (clv rfl (.cons (VLe.refl _) (.nil)) (hmm_sharesR (z.t _ (getD_mem (by omega) _)) (z.ltr _ (getD_mem (by omega) _))) (OL.yes rfl (nt rfl (pkF rfl rfl (mvD rfl ?_)))))))
             refine OL.split 104 rfl (fun b3 => ?_) (fun b3 => ?_)
             ·have b3 : shasB (h.trans.getD i []) = false := by simpa using b3
              refine OL.nd rfl (OL.nd rfl (OL.nd rfl (OL.nd rfl (OL.nd rfl (OL.nd rfl (OL.nd rfl (pkT rfl rfl ?_)))))))
              refine mvD rfl (OL.nd rfl (OL.nd rfl (OL.nd rfl (OL.nd rfl (OL.nd rfl (OL.nd rfl (pkT rfl rfl ?_)))))))
              refine mvD rfl (OL.nd rfl (OL.nd rfl (OL.nd rfl (OL.nd rfl (OL.nd rfl (OL.nd rfl (OL.nd rfl ?_)))))))
              refine pkT rfl rfl (OL.nil (AW.cond rfl (fun _ => ?_) (fun hno => absurd hno (by decide))))
              exact AW.sg hE rfl (asD rfl (OL.nil (AW.ret (RetQ.r ⟨_, .tmp rfl .nil, .le (VLe.bool (fmB_f fun f => shasB_f b3 (f.row i hi).2.2.1))⟩))))
             ·have b3 : shasB (h.trans.getD i []) = true := by simpa using b3
              refine OL.yes rfl (faP fd.Hidden_6 rfl rfl (OL.yes rfl (ldPC ce.Ratss rfl rfl rfl (OL.yes rfl (mvD rfl (OL.yes rfl (ixLn sl.Ratss [] rfl rfl (by omega) rfl rfl ?_)))))))
              refine OL.yes rfl (ldRC ce.Rats rfl (OL.yes rfl (clv rfl (.cons (VLe.refl _) (.nil)) (hmm_sharesR (z.m _ (getD_mem (by omega) _)) (z.lmr _ (getD_mem (by omega) _))) (OL.yes rfl (nt rfl (pkF rfl rfl (mvD rfl ?_)))))))
              refine OL.split 113 rfl (fun b4 => ?_) (fun b4 => ?_)
              ·have b4 : shasB (h.emit.getD i []) = false := by simpa using b4
               refine OL.nd rfl (OL.nd rfl (OL.nd rfl (OL.nd rfl (OL.nd rfl (OL.nd rfl (pkT rfl rfl (mvD rfl ?_)))))))
               refine OL.nd rfl (OL.nd rfl (OL.nd rfl (OL.nd rfl (OL.nd rfl (OL.nd rfl (OL.nd rfl (pkT rfl rfl ?_)))))))
               refine OL.nil (AW.cond rfl (fun _ => ?_) (fun hno => absurd hno (by decide)))
               exact AW.sg hE rfl (asD rfl (OL.nil (AW.ret (RetQ.r ⟨_, .tmp rfl .nil, .le (VLe.bool (fmB_f fun f => shasB_f b4 (f.row i hi).2.2.2.1))⟩))))
              ·have b4 : shasB (h.emit.getD i []) = true := by simpa using b4
               refine OL.yes rfl (faP fd.Hidden_8 rfl rfl (OL.yes rfl (ldPC ce.ints rfl rfl rfl (OL.yes rfl (mvD rfl (OL.yes rfl (ixLn sl.ints 0 rfl rfl (by omega) rfl rfl ?_)))))))
               refine OL.yes rfl (ldRC ce.int rfl (OL.yes rfl (c_lss rfl rfl rfl (pkF rfl rfl (mvD rfl (OL.split 121 rfl (fun b5 => ?_) (fun b5 => ?_)))))))
               ·have b5 : h.ties.getD i 0 < 0 := of_decide_eq_true b5
                refine OL.nd rfl (OL.nd rfl (OL.nd rfl (OL.nd rfl (OL.nd rfl (OL.nd rfl (OL.nd rfl (pkT rfl rfl ?_)))))))
                refine OL.nil (AW.cond rfl (fun _ => ?_) (fun hno => absurd hno (by decide)))
                exact AW.sg hE rfl (asD rfl (OL.nil (AW.ret (RetQ.r ⟨_, .tmp rfl .nil, .le (VLe.bool (fmB_f fun f => by have e := (f.row i hi).2.2.2.2.1; omega))⟩))))
               ·have b5 : 0 ≤ h.ties.getD i 0 := Int.not_lt.1 (of_decide_eq_false b5)
                refine OL.yes rfl (faP fd.Hidden_8 rfl rfl (OL.yes rfl (ldPC ce.ints rfl rfl rfl (OL.yes rfl (mvD rfl (OL.yes rfl (ixLn sl.ints 0 rfl rfl (by omega) rfl rfl ?_)))))))
                refine OL.yes rfl (ldRC ce.int rfl (OL.yes rfl (mvD rfl (OL.yes rfl (c_geq rfl rfl rfl (pkF rfl rfl (OL.nil ?_)))))))
                refine AW.cond rfl (fun b6 => ?_) (fun b6 => ?_)
                ·have b6 : h.st ≤ h.ties.getD i 0 := of_decide_eq_true b6
                 exact AW.sg hE rfl (asD rfl (OL.nil (AW.ret (RetQ.r ⟨_, .tmp rfl .nil, .le (VLe.bool (fmB_f fun f => by have e := (f.row i hi).2.2.2.2.2; omega))⟩))))
                ·have b6 : h.ties.getD i 0 < h.st := Int.not_le.1 (of_decide_eq_false b6)
                 refine AW.skip (AW.rg hE rfl (add_i64 rfl rfl (by omega) (mvD rfl (OL.nil ?_))))
                 exact AW.again (x := i) (i + 1) (by omega) ⟨⟨by omega, fun j hj => by rcases Nat.lt_or_ge j i with h | h; exact h2 j h; obtain rfl : j = i := (by omega); exact ⟨b1, b2, shasB_t b3, shasB_t b4, b5, b6⟩⟩, Knows.app .rq3 .rq1, Owns.app (.cons rfl .nil) (.nil)⟩
          ·try simp only [dx9] at hi
           exact AW.exit (AW.sg hE rfl (asD rfl (OL.nil (AW.ret (RetQ.r ⟨_, .tmp rfl .nil, .le (VLe.bool (fmB_t ⟨a2, a3, a4, a5, a6, a7, a1, shasB_t a8, shasB_t a9, fun j hj => h2 j (by omega)⟩))⟩)))))
theorem hmm_sumsS {h : HM} (f : h.FormS) : FSpec P F.hmm_sums [vHM h] (.d (dB (sumB h))) := by
 have e1 := f.ini
 have e2 := f.trans
 have e3 := f.stop
 have e4 := f.emit
 have e5 := f.ties
 have e6 := f.sill
 have s0 := f.sym0
 have s1 := f.sym1
 have n0 := f.st0
 have n1 := f.st1
 refine FSpec.intro fn.hmm_sums (by rfl) (by rfl) (nb9 (by rfl)) fun E hE => (AW.sg hE rfl (bxA rfl rfl fun b1 => (asD rfl (OL.nil (AW.seq (AW.sg hE rfl (faP fd.Hidden_3 rfl rfl ?_)))))))
 refine ldPC ce.Rats rfl rfl rfl (faP fd.Hidden_2 rfl rfl (ldPA ag.Rat rfl rfl (vs := [_,_,_]) rfl (nb9 rfl) (lt1 (y := dQ _) sl.Rats vd_q rfl (by decide) (clv rfl (.cons (VLe.refl _) (.cons (VLe.refl _) (.nil))) (hmm_whole (B := 1048576) (l := h.ini) (m := [h.empty]) f.zI (Small.one f.zE) ⟨by omega, by simp; omega⟩) (nt rfl (OL.nil (AW.cond rfl (fun c10 => ?_) (fun c10 => ?_))))))))
 ·have c10 : ¬ (sumQ (h.ini ++ [h.empty]) = 1) := by simpa using c10
  exact AW.sg hE rfl (asD rfl (OL.nil (AW.ret (RetQ.r ⟨_, .tmp rfl .nil, .le (VLe.bool (sumB_f fun s => c10 s.i))⟩))))
 ·have c10 : sumQ (h.ini ++ [h.empty]) = 1 := by simpa using c10
  refine AW.skip (AW.seq (AW.sg hE rfl (faP fd.Hidden_1 rfl rfl (ldPC ce.int rfl rfl rfl (mvD rfl (OL.nil (AW.block ?_)))))))
  refine AW.whileK (α := Nat) [(1, _), (12, _)] [(1, _)] (fun i => [(13, .d (dI i))]) (fun i => []) (fun i => i ≤ h.st ∧ ∀ j, j < i → h.SumRow j) (fun i => h.st - i) 0 (.cons (knP rfl) (.cons (knD rfl) .nil)) (.cons (owB rfl) .nil) ⟨⟨Nat.zero_le _, fun j hj => absurd hj (Nat.not_lt_zero j)⟩, .rq1, .nil⟩ ?_
  rintro i ⟨h1, h2⟩
  refine AW.sg hE rfl (c_lss rfl rfl rfl (OL.nil (AW.seq (AW.cond rfl (fun h14 => ?_) (fun h14 => ?_)))))
  ·try simp only [dx9] at h14
   refine AW.skip (AW.seq (AW.block (AW.sg hE rfl (mvD rfl (asD rfl (OL.nil (AW.seq ?_)))))))
   have t1 := f.trow i (by omega)
   have t2 := f.erow_le i (by omega)
   have zS := f.zS.get (by decide) i
   refine AW.dg 1 [0,1,2,3,4,5,6,7,8,9,10,11,12,13,14,15,16,17,18,19,20,21,22,23,24,25,26,27,28,29] order_free hE rfl (by kernel_rfl) (OI.of_OL (os := [_,_,_,_,_,_,_,_,_,_,_,_,_,_,_,_,_,_,_,_,_,_,_,_,_,_,_,_,_,_]) rfl ?_)
   refine faP fd.Hidden_4 rfl rfl (ldPC ce.Ratss rfl rfl rfl (mvD rfl (ixLn sl.Ratss [] rfl rfl (by omega) rfl rfl (ldRC ce.Rats rfl (faP fd.Hidden_5 rfl rfl (ldPC ce.Rats rfl rfl rfl (mvD rfl ?_)))))))
   refine ixLn sl.Rats 0 rfl rfl (by omega) rfl rfl (ldRA ag.Rat rfl (vs := [_,_,_]) rfl (nb9 rfl) (lt1 (y := dQ _) sl.Rats vd_q rfl (by decide) (clv rfl (.cons (VLe.refl _) (.cons (VLe.refl _) (.nil))) (hmm_whole (B := 1048576) (l := h.trans.getD i []) (m := [h.stop.getD i 0]) (f.zT i) (Small.one zS) ⟨by omega, by simp only [List.length_singleton]; omega⟩) (nt rfl (mvD rfl (OL.split 29 rfl (fun a1 => ?_) (fun a1 => ?_)))))))
   ·have a1 : ¬ (sumQ (h.trans.getD i [] ++ [h.stop.getD i 0]) = 1) := by simpa using a1
    refine OL.nd rfl (OL.nd rfl (OL.nd rfl (OL.nd rfl (OL.nd rfl (OL.nd rfl (OL.nd rfl (OL.nd rfl ?_)))))))
    refine OL.nd rfl (OL.nd rfl (OL.nd rfl (OL.nd rfl (OL.nd rfl (OL.nd rfl (OL.nd rfl (pkT rfl rfl ?_)))))))
    refine OL.nil (AW.cond rfl (fun _ => ?_) (fun hno => absurd hno (by decide)))
    exact AW.sg hE rfl (asD rfl (OL.nil (AW.ret (RetQ.r ⟨_, .tmp rfl .nil, .le (VLe.bool (sumB_f fun s => a1 (s.t i (by omega))))⟩))))
   ·have a1 : sumQ (h.trans.getD i [] ++ [h.stop.getD i 0]) = 1 := by simpa using a1
    refine OL.yes rfl (faP fd.Hidden_7 rfl rfl (OL.yes rfl (ldPC ce.bools rfl rfl rfl (OL.yes rfl (mvD rfl (OL.yes rfl (ixLn sl.bools false rfl rfl (by omega) rfl rfl ?_)))))))
    refine OL.yes rfl (ldRC ce.bool rfl (OL.yes rfl (nt rfl (OL.yes rfl (mvD rfl (OL.split 36 rfl (fun a2 => ?_) (fun a2 => ?_)))))))
    ·have a2 : h.silent.getD i false = false := by simpa using a2
     refine OL.yes rfl (faP fd.Hidden_6 rfl rfl (OL.yes rfl (ldPC ce.Ratss rfl rfl rfl (OL.yes rfl (mvD rfl (OL.yes rfl (ixLn sl.Ratss [] rfl rfl (by omega) rfl rfl ?_)))))))
     refine OL.yes rfl (ldRC ce.Rats rfl (OL.yes rfl (clv rfl (.cons (VLe.refl _) (.cons VLe.mt .nil)) (hmm_whole (B := 1048576) (l := h.emit.getD i []) (m := []) (f.zM i) Small.nil ⟨by omega, by simp only [List.length_nil]; omega⟩) ?_)))
     rw [List.append_nil]
     refine OL.yes rfl (nt rfl (OL.yes rfl (pkT rfl rfl (pkF rfl rfl (OL.nil (AW.cond rfl (fun a3 => ?_) (fun a3 => ?_)))))))
     ·have a3 : ¬ (sumQ (h.emit.getD i []) = 1) := by simpa using a3
      exact AW.sg hE rfl (asD rfl (OL.nil (AW.ret (RetQ.r ⟨_, .tmp rfl .nil, .le (VLe.bool (sumB_f fun s => a3 (s.m i (by omega) a2)))⟩))))
     ·have a3 : sumQ (h.emit.getD i []) = 1 := by simpa using a3
      exact AW.skip (AW.rg hE rfl (add_i64 rfl rfl (by omega) (mvD rfl (OL.nil (AW.again (x := i) (i + 1) (by omega) ⟨⟨by omega, upto_stp h2 ⟨a1, fun _ => a3⟩⟩, Knows.app .rq2 .rq1, Owns.app (.cons rfl .nil) (.nil)⟩)))))
    ·have a2 : h.silent.getD i false = true := by simpa using a2
     refine OL.nd rfl (OL.nd rfl (OL.nd rfl (OL.nd rfl (OL.nd rfl (OL.nd rfl (OL.nd rfl (OL.yes rfl ?_)))))))
     refine pkF rfl rfl (pkF rfl rfl (OL.nil (AW.cond rfl (fun hno => absurd hno (by decide)) (fun _ => ?_))))
     exact AW.skip (AW.rg hE rfl (add_i64 rfl rfl (by omega) (mvD rfl (OL.nil (AW.again (x := i) (i + 1) (by omega) ⟨⟨by omega, upto_stp h2 ⟨a1, fun x => by rw [a2] at x; cases x⟩⟩, Knows.app .rq2 .rq1, Owns.app (.cons rfl .nil) (.nil)⟩)))))
  ·try simp only [dx9] at h14
   exact AW.exit (AW.sg hE rfl (asD rfl (OL.nil (AW.ret (RetQ.r ⟨_, .tmp rfl .nil, .le (VLe.bool (sumB_t ⟨c10, fun j hj => (h2 j (by omega)).1, fun j hj => (h2 j (by omega)).2⟩))⟩)))))
theorem hmm_tiedS {h : HM} (f : h.FormS) : FSpec P F.hmm_tied [vHM h] (.d (dB (tieB h))) := by
 have e1 := f.ini
 have e2 := f.trans
 have e3 := f.stop
 have e4 := f.emit
 have e5 := f.ties
 have e6 := f.sill
 have s0 := f.sym0
 have s1 := f.sym1
 have n0 := f.st0
 have n1 := f.st1
 refine FSpec.intro fn.hmm_tied (by rfl) (by rfl) (nb9 (by rfl)) fun E hE => (AW.sg hE rfl (bxA rfl rfl fun b1 => (asD rfl (OL.nil (AW.seq (AW.sg hE rfl (faP fd.Hidden_1 rfl rfl ?_)))))))
 refine ldPC ce.int rfl rfl rfl (mvD rfl (OL.nil (AW.block ?_)))
 refine AW.whileK (α := Nat) [(1, _), (6, _)] [(1, _)] (fun i => [(7, .d (dI i))]) (fun i => []) (fun i => i ≤ h.st ∧ ∀ q, q < i → ∀ j, j < q → h.TiedAt q j) (fun i => h.st - i) 0 (.cons (knP rfl) (.cons (knD rfl) .nil)) (.cons (owB rfl) .nil) ⟨⟨Nat.zero_le _, fun j hj => absurd hj (Nat.not_lt_zero j)⟩, .rq1, .nil⟩ ?_
 rintro i ⟨h1, h2⟩
 refine AW.sg hE rfl (c_lss rfl rfl rfl (OL.nil (AW.seq (AW.cond rfl (fun h8 => ?_) (fun h8 => ?_)))))
 ·try simp only [dx9] at h8
  refine AW.skip (AW.seq (AW.block (AW.sg hE rfl (mvD rfl (asD rfl (OL.nil (AW.sg hE rfl ?_)))))))
  refine mvD rfl (mvD rfl (OL.nil (AW.block ?_)))
  refine AW.whileK (α := Nat) [(1, _), (3, _), (6, _), (7, _), (10, _)] [(1, _)] (fun j => [(11, .d (dI j))]) (fun j => []) (fun j => j ≤ i ∧ ∀ q, q < j → h.TiedAt i q) (fun j => i - j) 0 (.cons (knP rfl) (.cons (knD rfl) (.cons (knD rfl) (.cons (knD rfl) (.cons (knD rfl) .nil))))) (.cons (owB rfl) .nil) ⟨⟨Nat.zero_le _, fun j hj => absurd hj (Nat.not_lt_zero j)⟩, .rq1, .nil⟩ ?_
  rintro j ⟨h3, h4⟩
  refine AW.sg hE rfl (c_lss rfl rfl rfl (OL.nil (AW.seq (AW.cond rfl (fun h12 => ?_) (fun h12 => ?_)))))
  ·try simp only [dx9] at h12
   refine AW.skip (AW.seq (AW.block (AW.sg hE rfl (mvD rfl (asD rfl (OL.nil (AW.seq ?_)))))))
   have t2 := f.erow_le i (by omega)
   have t2j := f.erow_le j (by omega)
   refine AW.dg 1 [0,1,2,3,4,5,6,7,8,9,10,11,12,13,14,15,16,17,18,19,20,21,22,23,24,25,26,27,28,29,30,31,32,33,34,35,36,37,38,39,40] order_free hE rfl (by kernel_rfl) (OI.of_OL (os := [_,_,_,_,_,_,_,_,_,_,_,_,_,_,_,_,_,_,_,_,_,_,_,_,_,_,_,_,_,_,_,_,_,_,_,_,_,_,_,_,_]) rfl ?_)
   refine faP fd.Hidden_7 rfl rfl (ldPC ce.bools rfl rfl rfl (mvD rfl (ixLn sl.bools false rfl rfl (by omega) rfl rfl (ldRC ce.bool rfl (nt rfl (mvD rfl (OL.split 20 rfl (fun a1 => ?_) (fun a1 => ?_))))))))
   ·have a1 : h.silent.getD i false = false := by simpa using a1
    refine OL.yes rfl (faP fd.Hidden_7 rfl rfl (OL.yes rfl (ldPC ce.bools rfl rfl rfl (OL.yes rfl (mvD rfl (OL.yes rfl (ixLn sl.bools false rfl rfl (by omega) rfl rfl ?_)))))))
    refine OL.yes rfl (ldRC ce.bool rfl (OL.yes rfl (nt rfl (pkT rfl rfl (mvD rfl (OL.split 28 rfl (fun a2 => ?_) (fun a2 => ?_)))))))
    ·have a2 : h.silent.getD j false = false := by simpa using a2
     refine OL.yes rfl (faP fd.Hidden_8 rfl rfl (OL.yes rfl (ldPC ce.ints rfl rfl rfl (OL.yes rfl (mvD rfl (OL.yes rfl (ixLn sl.ints 0 rfl rfl (by omega) rfl rfl ?_)))))))
     refine OL.yes rfl (ldRC ce.int rfl (OL.yes rfl (faP fd.Hidden_8 rfl rfl (OL.yes rfl (ldPC ce.ints rfl rfl rfl (OL.yes rfl (mvD rfl ?_)))))))
     refine OL.yes rfl (ixLn sl.ints 0 rfl rfl (by omega) rfl rfl (OL.yes rfl (ldRC ce.int rfl (OL.yes rfl (c_eql rfl rfl rfl (pkT rfl rfl (mvD rfl ?_)))))))
     refine OL.split 41 rfl (fun a3 => ?_) (fun a3 => ?_)
     ·have a3 : h.ties.getD i 0 = h.ties.getD j 0 := of_decide_eq_true a3
      refine OL.yes rfl (faP fd.Hidden_6 rfl rfl (OL.yes rfl (ldPC ce.Ratss rfl rfl rfl (OL.yes rfl (mvD rfl (OL.yes rfl (ixLn sl.Ratss [] rfl rfl (by omega) rfl rfl ?_)))))))
      refine OL.yes rfl (ldRC ce.Rats rfl (OL.yes rfl (faP fd.Hidden_6 rfl rfl (OL.yes rfl (ldPC ce.Ratss rfl rfl rfl (OL.yes rfl (mvD rfl ?_)))))))
      refine OL.yes rfl (ixLn sl.Ratss [] rfl rfl (by omega) rfl rfl (OL.yes rfl (ldRC ce.Rats rfl (OL.yes rfl (clv rfl (.cons (VLe.refl _) (.cons (VLe.refl _) (.nil))) (hmm_equal (f.zM i) (f.zM j) (by omega) (by omega) (by omega)) (OL.yes rfl (nt rfl ?_)))))))
      refine pkT rfl rfl (OL.nil (AW.cond rfl (fun a4 => ?_) (fun a4 => ?_)))
      ·have a4 : ¬ (h.emit.getD i [] = h.emit.getD j []) := by simpa using a4
       exact AW.sg hE rfl (asD rfl (OL.nil (AW.ret (RetQ.r ⟨_, .tmp rfl .nil, .le (VLe.bool (tieB_f fun t => a4 (t i j (by omega) (by omega) a1 a2 a3)))⟩))))
      ·have a4 : h.emit.getD i [] = h.emit.getD j [] := by simpa using a4
       exact AW.skip (AW.rg hE rfl (add_i64 rfl rfl (by omega) (mvD rfl (OL.nil (AW.again (x := j) (j + 1) (by omega) ⟨⟨by omega, upto_stp h4 fun _ _ _ => a4⟩, Knows.app .rq5 .rq1, Owns.app (.cons rfl .nil) (.nil)⟩)))))
     ·have a3 : ¬ h.ties.getD i 0 = h.ties.getD j 0 := of_decide_eq_false a3
      refine OL.nd rfl (OL.nd rfl (OL.nd rfl (OL.nd rfl (OL.nd rfl (OL.nd rfl (OL.nd rfl (OL.nd rfl ?_)))))))
      refine OL.nd rfl (OL.nd rfl (OL.nd rfl (OL.nd rfl (pkF rfl rfl (OL.nil (AW.cond rfl (fun hno => absurd hno (by decide)) (fun _ => ?_)))))))
      refine AW.skip (AW.rg hE rfl (add_i64 rfl rfl (by omega) (mvD rfl (OL.nil ?_))))
      exact AW.again (x := j) (j + 1) (by omega) ⟨⟨by omega, upto_stp h4 fun _ _ x => absurd x a3⟩, Knows.app .rq5 .rq1, Owns.app (.cons rfl .nil) (.nil)⟩
    ·have a2 : h.silent.getD j false = true := by simpa using a2
     refine OL.nd rfl (OL.nd rfl (OL.nd rfl (OL.nd rfl (OL.nd rfl (OL.nd rfl (OL.nd rfl (OL.nd rfl ?_)))))))
     refine OL.nd rfl (OL.nd rfl (OL.nd rfl (pkF rfl rfl (mvD rfl (OL.nd rfl (OL.nd rfl (OL.nd rfl ?_)))))))
     refine OL.nd rfl (OL.nd rfl (OL.nd rfl (OL.nd rfl (OL.nd rfl (OL.nd rfl (OL.nd rfl (OL.nd rfl ?_)))))))
     refine OL.nd rfl (pkF rfl rfl (OL.nil (AW.cond rfl (fun hno => absurd hno (by decide)) (fun _ => ?_))))
     refine AW.skip (AW.rg hE rfl (add_i64 rfl rfl (by omega) (mvD rfl (OL.nil ?_))))
     exact AW.again (x := j) (j + 1) (by omega) ⟨⟨by omega, upto_stp h4 fun _ x _ => by rw [a2] at x; cases x⟩, Knows.app .rq5 .rq1, Owns.app (.cons rfl .nil) (.nil)⟩
   ·have a1 : h.silent.getD i false = true := by simpa using a1
    refine OL.nd rfl (OL.nd rfl (OL.nd rfl (OL.nd rfl (OL.nd rfl (OL.nd rfl (pkF rfl rfl (mvD rfl ?_)))))))
    refine OL.nd rfl (OL.nd rfl (OL.nd rfl (OL.nd rfl (OL.nd rfl (OL.nd rfl (OL.nd rfl (OL.nd rfl ?_)))))))
    refine OL.nd rfl (OL.nd rfl (OL.nd rfl (pkF rfl rfl (mvD rfl (OL.nd rfl (OL.nd rfl (OL.nd rfl ?_)))))))
    refine OL.nd rfl (OL.nd rfl (OL.nd rfl (OL.nd rfl (OL.nd rfl (OL.nd rfl (OL.nd rfl (OL.nd rfl ?_)))))))
    refine OL.nd rfl (pkF rfl rfl (OL.nil (AW.cond rfl (fun hno => absurd hno (by decide)) (fun _ => ?_))))
    refine AW.skip (AW.rg hE rfl (add_i64 rfl rfl (by omega) (mvD rfl (OL.nil ?_))))
    exact AW.again (x := j) (j + 1) (by omega) ⟨⟨by omega, upto_stp h4 fun x _ _ => by rw [a1] at x; cases x⟩, Knows.app .rq5 .rq1, Owns.app (.cons rfl .nil) (.nil)⟩
  ·try simp only [dx9] at h12
   exact AW.exit (AW.rg hE rfl (add_i64 rfl rfl (by omega) (mvD rfl (OL.nil (AW.again (x := i) (i + 1) (by omega) ⟨⟨by omega, upto_stp h2 fun q hq => h4 q (by omega)⟩, Knows.app .rq2 .rq1, Owns.app (.cons rfl .nil) (.nil)⟩)))))
 ·try simp only [dx9] at h8
  exact AW.exit (AW.sg hE rfl (asD rfl (OL.nil (AW.ret (RetQ.r ⟨_, .tmp rfl .nil, .le (VLe.bool (tieB_t fun i j hi hj => h2 i (by omega) j hj))⟩)))))
end Go.Proofs.YtjghehkgmanmbaaGreat

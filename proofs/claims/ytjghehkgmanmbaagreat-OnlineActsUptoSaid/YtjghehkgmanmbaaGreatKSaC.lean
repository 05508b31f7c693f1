/-
  Walks of the specification of drawings, for any model (printed by mk2.py).
-/
import Derived.Test.YtjghehkgmanmbaaGreatKMod37b
import Derived.Test.YtjghehkgmanmbaaGreatKMod34b
import Derived.Test.YtjghehkgmanmbaaGreatKSaB
set_option linter.unusedVariables false
set_option linter.unusedSimpArgs false
namespace Go.AL
open Go Go.BigFrame
def endQ (h : HM) (o : Dec) (i : Nat) : Rat := o.sc.getD i 0 * h.stop.getD i 0
def finF (h : HM) (o : Dec) : Nat → Rat × List Int
 | 0 => (if o.t = 0 then h.empty else 0, [])
 | i + 1 => if betterP (endQ h o i) (o.tl.getD i []) (finF h o i) then (endQ h o i, o.tl.getD i []) else finF h o i
structure FinSpec (h : HM) (o : Dec) (n : Nat) (m : Rat × List Int) : Prop where
 nonneg : 0 ≤ m.1
 le : ∀ i, i < n → endQ h o i ≤ m.1
 pos : 0 < m.1 → ∃ i, i < n ∧ m = (endQ h o i, o.tl.getD i [])
 least : 0 < m.1 → ∀ i, i < n → endQ h o i = m.1 → cmpL m.2 (o.tl.getD i []) ≤ 0
section
variable {h : HM} {bb B : Nat} {u : List Int} {o : Dec}
theorem fin_spec (ht : o.t ≠ 0) : ∀ n, FinSpec h o n (finF h o n)
 | 0 => by
  rw [finF, if_neg ht]
  exact ⟨Rat.le_refl, fun i hi => absurd hi (Nat.not_lt_zero i), fun e => absurd e (by show ¬ (0 : Rat) < 0; decide), fun e => absurd e (by show ¬ (0 : Rat) < 0; decide)⟩
 | n + 1 => by
  have ih := fin_spec ht n
  rw [finF]
  split
  ·rename_i hb
   rcases hb with hb | ⟨hb1, hb2, hb3⟩
   ·have hp : 0 < endQ h o n := Std.lt_of_le_of_lt ih.nonneg hb
    refine ⟨Rat.le_of_lt hp, fun i hi => ?_, fun _ => ⟨n, Nat.lt_succ_self n, rfl⟩, fun _ i hi he => ?_⟩
    ·rcases Nat.lt_or_ge i n with h1 | h1
     ·exact Rat.le_trans (ih.le i h1) (Rat.le_of_lt hb)
     ·obtain rfl : i = n := by omega
      exact Rat.le_refl
    ·rcases Nat.lt_or_ge i n with h1 | h1
     ·exact absurd (Std.lt_of_le_of_lt (ih.le i h1) hb) (by simp only at he; rw [he]; exact Rat.lt_irrefl)
     ·obtain rfl : i = n := by omega
      rw [cmpL_self]; decide
   ·refine ⟨Rat.le_of_lt hb2, fun i hi => ?_, fun _ => ⟨n, Nat.lt_succ_self n, rfl⟩, fun _ i hi he => ?_⟩
    ·rcases Nat.lt_or_ge i n with h1 | h1
     ·rw [hb1]; exact ih.le i h1
     ·obtain rfl : i = n := by omega
      exact Rat.le_refl
    ·rcases Nat.lt_or_ge i n with h1 | h1
     ·exact cmpL_trans (by simp only; omega) (ih.least (by rw [← hb1]; exact hb2) i h1 (by rw [← hb1]; exact he))
     ·obtain rfl : i = n := by omega
      rw [cmpL_self]; decide
  ·rename_i hb
   have hle : endQ h o n ≤ (finF h o n).1 := Rat.not_lt.1 fun e => hb (.inl e)
   refine ⟨ih.nonneg, fun i hi => ?_, fun hp => ?_, fun hp i hi he => ?_⟩
   ·rcases Nat.lt_or_ge i n with h1 | h1
    ·exact ih.le i h1
    ·obtain rfl : i = n := by omega
     exact hle
   ·obtain ⟨i, hi, e⟩ := ih.pos hp
    exact ⟨i, by omega, e⟩
   ·rcases Nat.lt_or_ge i n with h1 | h1
    ·exact ih.least hp i h1 he
    ·obtain rfl : i = n := by omega
     have h2 : ¬ cmpL (o.tl.getD i []) (finF h o i).2 < 0 := fun e => hb (.inr ⟨he, by rw [he]; exact hp, e⟩)
     have := cmpL_neg (o.tl.getD i []) (finF h o i).2
     omega
theorem fin_len {N : Nat} (ht : ∀ i, (o.tl.getD i []).length ≤ N) : ∀ n, (finF h o n).2.length ≤ N
 | 0 => by rw [finF]; exact Nat.zero_le _
 | n + 1 => by
  rw [finF]
  split
  ·exact ht n
  ·exact fin_len ht n
def finE (h : HM) (o : Dec) : Int := if (finF h o o.sc.length).1 = 0 then 11 else 0
def finP (h : HM) (o : Dec) : List Int := if (finF h o o.sc.length).1 = 0 then [] else o.dn ++ (finF h o o.sc.length).2
def runD (h : HM) (w : List Int) : Nat → Dec × List Int
 | 0 => (⟨0, [], [], []⟩, [])
 | t + 1 => (stepD h (runD h w t).1 (symX w t), (runD h w t).2 ++ List.replicate (cmtF h (runD h w t).1 (symX w t) h.st).length ((t + 1 : Nat) : Int))
theorem run_t (h : HM) (w : List Int) : ∀ t, (runD h w t).1.t = t
 | 0 => rfl
 | t + 1 => by show (runD h w t).1.t + 1 = _; rw [run_t h w t]
theorem run_len (h : HM) (w : List Int) : ∀ t, (runD h w t).2.length = (runD h w t).1.dn.length
 | 0 => rfl
 | t + 1 => by
  show ((runD h w t).2 ++ _).length = ((runD h w t).1.dn ++ _).length
  rw [List.length_append, List.length_append, run_len h w t, List.length_replicate]
structure TimesOK (ts : List Int) (n : Nat) : Prop where
 ge : ∀ s, s < ts.length → (s : Int) + 1 ≤ ts.getD s 0
 le : ∀ s, s < ts.length → ts.getD s 0 ≤ n
 mono : ∀ s, s + 1 < ts.length → ts.getD s 0 ≤ ts.getD (s + 1) 0
end
end Go.AL

set_option linter.unusedVariables false
set_option linter.unusedSimpArgs false
namespace Go.AL
open Go Go.BigFrame
section
variable {h : HM} {B : Nat}
theorem tr_szV (f : HM.FormX 1048576 B h) (i j : Nat) : sz (trQ h i j) ≤ 1048576 := Nat.le_trans ((f.zT i).get f.b1 j) f.bB
theorem em_szV (f : HM.FormX 1048576 B h) (i x : Nat) : sz (emQ h i x) ≤ 1048576 := Nat.le_trans ((f.zM i).get f.b1 x) f.bB
theorem ini_szV (f : HM.FormX 1048576 B h) (i : Nat) : sz (h.ini.getD i 0) ≤ 1048576 := Nat.le_trans (f.zI.get f.b1 i) f.bB
end
theorem chkP_rng {h : RM} (c : chkP h = 0) : h.Rng ∧ h.Fm := by
 have hE : chkE h = 0 := by
  classical
  unfold chkP at c
  split at c
  ·rename_i h1; exact absurd c h1
  ·rename_i h1; exact Classical.byContradiction h1
 exact chkE_form (by rw [hE]; exact ⟨by decide, by decide⟩)
theorem chkP_st {h : RM} (c : chkP h = 0) : ((hm h).st : Int) = h.st := by
 have := (chkP_rng c).1.2
 show ((h.st.toNat : Nat) : Int) = _
 omega
end Go.AL

set_option linter.unusedVariables false
set_option linter.unusedSimpArgs false
namespace Go.Proofs.YtjghehkgmanmbaaGreat
open Go Go.AL
theorem ref_Mul {x y : Raw} (hx : x.Ok) (hy : y.Ok) : FSpec P F.ref01_Mul [vRaw x, vRaw y] (vQ (x.q * y.q)) := by
 have a1 := q_sz hx hx.ln hx.ld (by decide)
 have a2 := q_sz hy hy.ln hy.ld (by decide)
 have sn1 := sz_num x.q
 have sn2 := sz_num y.q
 have sd1 := sz_den x.q
 have sd2 := sz_den y.q
 have sdd := len_mul x.q.den y.q.den
 have dd0 := Nat.mul_ne_zero x.q.den_nz y.q.den_nz
 have snn := len_mul x.q.num.natAbs y.q.num.natAbs
 have hp := fr_mul (s := decide (x.q.num < 0)) (t := decide (y.q.num < 0)) (a := x.q.num.natAbs) (b := y.q.num.natAbs) (d1 := x.q.den) (d2 := y.q.den)
 rw [fr_ofQ, fr_ofQ] at hp
 refine FSpec.intro fn.ref01_Mul (by rfl) (by rfl) (nb9 (by rfl)) fun E hE => ?_
 refine AW.sg hE rfl ?_
 first | refine bxA rfl rfl fun b2 => ?_ | refine bxD rfl rfl fun b2 => ?_
 first | refine bxA rfl rfl fun b3 => ?_ | refine bxD rfl rfl fun b3 => ?_
 refine al z.Rat rfl fun b4 => ?_
 refine OL.nil ?_
 refine AW.seq ?_
 refine AW.dg 1 [0,1,2,3,4,5] order_free hE rfl (by kernel_rfl) (OI.of_OL (os := [_,_,_,_,_,_]) rfl ?_)
 first | refine ldPA ag.Rat rfl rfl (vs := [_,_,_]) rfl (nb9 rfl) ?_ | refine ldRA ag.Rat rfl (vs := [_,_,_]) rfl (nb9 rfl) ?_
 refine clv rfl (.cons (by first | exact VLe.refl _ | exact VLe.mt | exact vle_q0 | exact VLe.ptr) .nil) (ref_Take (by assumption)) ?_
 first | refine ldPA ag.Rat rfl rfl (vs := [_,_,_]) rfl (nb9 rfl) ?_ | refine ldRA ag.Rat rfl (vs := [_,_,_]) rfl (nb9 rfl) ?_
 refine clv rfl (.cons (by first | exact VLe.refl _ | exact VLe.mt | exact vle_q0 | exact VLe.ptr) .nil) (ref_Take (by assumption)) ?_
 first | refine sto sz.Rat rfl rfl rfl rfl rfl (nb9 rfl) (cells2 := [_,_,_]) rfl ?_ | refine stE sz.Rat rfl (VC.d _).vd rfl rfl (by omega) rfl ?_
 first | refine sto sz.Rat rfl rfl rfl rfl rfl (nb9 rfl) (cells2 := [_,_,_]) rfl ?_ | refine stE sz.Rat rfl (VC.d _).vd rfl rfl (by omega) rfl ?_
 refine OL.nil ?_
 refine AW.seq ?_
 refine AW.dg 1 [0,1,2,3,4,5,6,7,8,9,10,11,12,13,14,15,16] order_free hE rfl (by kernel_rfl) (OI.of_OL (os := [_,_,_,_,_,_,_,_,_,_,_,_,_,_,_,_,_]) rfl ?_)
 first | refine faP fd.Rat_0 rfl rfl ?_ | refine faR fd.Rat_0 rfl rfl ?_ | refine faE fd.Rat_0 rfl rfl ?_
 first | refine ldRC ce.bool rfl ?_ | refine ldPC ce.bool rfl rfl rfl ?_
 first | refine faP fd.Rat_0 rfl rfl ?_ | refine faR fd.Rat_0 rfl rfl ?_ | refine faE fd.Rat_0 rfl rfl ?_
 first | refine ldRC ce.bool rfl ?_ | refine ldPC ce.bool rfl rfl rfl ?_
 refine neb bt.bool rfl rfl ?_
 first | refine faP fd.Rat_1 rfl rfl ?_ | refine faR fd.Rat_1 rfl rfl ?_ | refine faE fd.Rat_1 rfl rfl ?_
 first | refine ldRC ce.u32s rfl ?_ | refine ldPC ce.u32s rfl rfl rfl ?_
 first | refine faP fd.Rat_1 rfl rfl ?_ | refine faR fd.Rat_1 rfl rfl ?_ | refine faE fd.Rat_1 rfl rfl ?_
 first | refine ldRC ce.u32s rfl ?_ | refine ldPC ce.u32s rfl rfl rfl ?_
 refine clv rfl .rq2 (ref_timesN (a := x.q.num.natAbs) (b := y.q.num.natAbs) (by omega) (by omega)) ?_
 first | refine ldPA ag.Rat rfl rfl (vs := [_,_,_]) rfl (nb9 rfl) ?_ | refine ldRA ag.Rat rfl (vs := [_,_,_]) rfl (nb9 rfl) ?_
 refine clv rfl (.cons (by first | exact VLe.refl _ | exact VLe.mt | exact vle_q0 | exact VLe.ptr) .nil) (ref_den) ?_
 first | refine ldPA ag.Rat rfl rfl (vs := [_,_,_]) rfl (nb9 rfl) ?_ | refine ldRA ag.Rat rfl (vs := [_,_,_]) rfl (nb9 rfl) ?_
 refine clv rfl (.cons (by first | exact VLe.refl _ | exact VLe.mt | exact vle_q0 | exact VLe.ptr) .nil) (ref_den) ?_
 refine clv rfl .rq2 (ref_timesN (a := x.q.den) (b := y.q.den) (by omega) (by omega)) ?_
 refine clv rfl .rq3 (ref_over (s := (decide (x.q.num < 0) != decide (y.q.num < 0))) (by omega) (by omega) dd0) ?_
 rw [← hp]
 first | refine sto sz.Rat rfl rfl rfl rfl rfl (nb9 rfl) (cells2 := [_,_,_]) rfl ?_ | refine stE sz.Rat rfl (VC.d _).vd rfl rfl (by omega) rfl ?_
 refine OL.nil ?_
 exact AW.ret (RetQ.r ⟨_, .cellA rfl rfl ag.Rat (nb9 rfl) .nil, .ag (.cons (.le (by first | exact VLe.refl _ | exact VLe.mt | exact vle_q0 | exact VLe.int (by omega) | exact VLe.bool (by simp_all))) (.cons (.le (by first | exact VLe.refl _ | exact VLe.mt | exact vle_q0 | exact VLe.int (by omega) | exact VLe.bool (by simp_all))) (.cons (.le (by first | exact VLe.refl _ | exact VLe.mt | exact vle_q0 | exact VLe.int (by omega) | exact VLe.bool (by simp_all))) .nil)))⟩)
theorem ref_MulQ {x y : Rat} (hx : sz x ≤ 68719476736) (hy : sz y ≤ 68719476736) : FSpec P F.ref01_Mul [vQ x, vQ y] (vQ (x * y)) := by
 have h := ref_Mul (x := ofQ x) (y := ofQ y) (ofQ_ok (by omega)) (ofQ_ok (by omega))
 rw [q_ofQ, q_ofQ] at h; exact h
end Go.Proofs.YtjghehkgmanmbaaGreat

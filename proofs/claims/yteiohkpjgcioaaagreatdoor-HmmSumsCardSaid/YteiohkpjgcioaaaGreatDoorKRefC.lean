/-
  Walks of the reference's numbers, part 3: rational numbers (printed by mk2.py).
-/
import Derived.Test.YteiohkpjgcioaaaGreatDoorKRefB
set_option linter.unusedVariables false
set_option linter.unusedSimpArgs false
namespace Go.Proofs.YteiohkpjgcioaaaGreatDoor
open Go Go.AL
theorem ref_absolute {v:Int}(hv:-9223372036854775808≤v∧v≤9223372036854775807):FSpec P F.ref01_absolute [.d (dI v)] (.d (dU v.natAbs)):=by
 refine FSpec.intro fn.ref01_absolute (by rfl) (by rfl) (nb9 (by rfl)) fun E hE=>(AW.sg hE rfl (asD rfl (OL.nil (AW.seq (AW.sg hE rfl (mvD rfl (c_lss rfl rfl rfl ?_)))))))
 refine OL.nil (AW.cond rfl (fun h4=>?_) (fun h4=>?_))
 ·try simp only [dx9] at h4
  refine AW.sg hE rfl (mvD rfl (add_i64 rfl rfl (by omega) (ng rfl (c:=((v.natAbs-1:Nat):Int)) (by rw [wrap_i64 (by omega)];omega) (cv it.int it.u64 rfl (wrap_u64 (by omega)) (add_u64 rfl rfl (by omega) (asD rfl (OL.nil ?_)))))))
  exact AW.ret (RetQ.r ⟨_,.tmp rfl .nil,.le (VLe.int (by omega))⟩)
 ·try simp only [dx9] at h4
  exact AW.skip (AW.sg hE rfl (mvD rfl (cv it.int it.u64 rfl (wrap_u64 (by omega)) (asD rfl (OL.nil (AW.ret (RetQ.r ⟨_,.tmp rfl .nil,.le (VLe.int (by omega))⟩)))))))
theorem ref_Valid {r:Raw}(hr:r.Ok):FSpec P F.ref01_Valid [vRaw r] (.d (dB r.good)):=by
 have n1:=hr.ln
 have n2:=hr.ld
 have l1:=hr.num
 have l2:=hr.den
 have cn0:∀ L:List Nat,L.length=0→canon L=true:=fun L h=>by rw [en9 h];rfl
 have dn0:∀ L:List Nat,L.length=0→decide (L=[1])=false:=fun L h=>by rw [en9 h];rfl
 refine FSpec.intro fn.ref01_Valid (by rfl) (by rfl) (nb9 (by rfl)) fun E hE=>(AW.sg hE rfl (bxA rfl rfl fun b1=>(asD rfl (OL.nil (AW.seq (AW.midK (α:=Unit) [(1,_),(2,_)] [(1,_)] (fun _u=>[(39,.d (dB (!canon r.num || !canon r.den || decide (r.den=[1]))))]) (fun _u=>[]) (fun _u=>True) (.cons (knP rfl) (.cons (knD rfl) .nil)) (.cons (owB rfl) .nil) ?_ ?_))))))
 ·refine AW.rg hE rfl (faP fd.Rat_1 rfl rfl (ldPC ce.u32s rfl rfl rfl (lnL sl.u32s rfl rfl (c_gtr rfl rfl rfl (mvD rfl (OL.split 7 rfl (fun g7=>?_) (fun g7=>?_)))))))
  ·try simp only [dx9] at g7
   refine OL.yes rfl (faP fd.Rat_1 rfl rfl (OL.yes rfl (ldPC ce.u32s rfl rfl rfl (OL.yes rfl (faP fd.Rat_1 rfl rfl (OL.yes rfl (ldPC ce.u32s rfl rfl rfl ?_)))))))
   refine OL.yes rfl (lnL sl.u32s rfl rfl (OL.yes rfl (sub_i64 rfl rfl (by omega) (OL.yes rfl (ixL sl.u32s 0 rfl rfl (by omega) (by omega) rfl rfl (OL.yes rfl (ldRC ce.u32 rfl ?_)))))))
   refine OL.yes rfl (c_eql rfl rfl rfl (pkT rfl rfl (mvD rfl (OL.split 18 rfl (fun g18=>?_) (fun g18=>?_)))))
   ·have g18:canon r.num=false:=by rw [← canon_last (by omega),g18];rfl
    refine OL.nd rfl (OL.nd rfl (OL.nd rfl (OL.nd rfl (OL.nd rfl (OL.nd rfl (OL.nd rfl (OL.nd rfl ?_)))))))
    refine OL.nd rfl (OL.nd rfl (OL.nd rfl (OL.nd rfl (OL.nd rfl (OL.nd rfl (OL.nd rfl (pkT rfl rfl ?_)))))))
    exact mvD rfl (OL.nd rfl (OL.nd rfl (OL.nd rfl (pkT rfl rfl (OL.nil (AW.reach () ⟨trivial,Knows.app .rq2 (.cons (VLe.bool (by rw [g18];rfl)) .nil),Owns.app (.cons rfl .nil) (.nil)⟩))))))
   ·have g18:canon r.num=true:=by rw [← canon_last (by omega),g18];rfl
    refine OL.yes rfl (faP fd.Rat_2 rfl rfl (OL.yes rfl (ldPC ce.u32s rfl rfl rfl (OL.yes rfl (lnL sl.u32s rfl rfl (OL.yes rfl (c_gtr rfl rfl rfl ?_)))))))
    refine OL.yes rfl (mvD rfl (OL.split 23 rfl (fun g23=>?_) (fun g23=>?_)))
    ·try simp only [dx9] at g23
     refine OL.yes rfl (faP fd.Rat_2 rfl rfl (OL.yes rfl (ldPC ce.u32s rfl rfl rfl (OL.yes rfl (faP fd.Rat_2 rfl rfl (OL.yes rfl (ldPC ce.u32s rfl rfl rfl ?_)))))))
     refine OL.yes rfl (lnL sl.u32s rfl rfl (OL.yes rfl (sub_i64 rfl rfl (by omega) (OL.yes rfl (ixL sl.u32s 0 rfl rfl (by omega) (by omega) rfl rfl (OL.yes rfl (ldRC ce.u32 rfl ?_)))))))
     refine OL.yes rfl (c_eql rfl rfl rfl (OL.yes rfl (pkT rfl rfl (pkF rfl rfl (mvD rfl (OL.split 35 rfl (fun g35=>?_) (fun g35=>?_)))))))
     ·have g35:canon r.den=false:=by rw [← canon_last (by omega),g35];rfl
      exact OL.nd rfl (OL.nd rfl (OL.nd rfl (pkT rfl rfl (OL.nil (AW.reach () ⟨trivial,Knows.app .rq2 (.cons (VLe.bool (by rw [g18,g35];rfl)) .nil),Owns.app (.cons rfl .nil) (.nil)⟩)))))
     ·have g35:canon r.den=true:=by rw [← canon_last (by omega),g35];rfl
      refine OL.yes rfl (faP fd.Rat_2 rfl rfl (OL.yes rfl (ldPC ce.u32s rfl rfl rfl (OL.yes rfl (clv rfl .rq1 (ref_oneL l2) (pkF rfl rfl (OL.nil ?_)))))))
      exact AW.reach () ⟨trivial,Knows.app .rq2 (.cons (VLe.bool (by rw [g18,g35];rfl)) .nil),Owns.app (.cons rfl .nil) (.nil)⟩
    ·try simp only [dx9] at g23
     refine OL.nd rfl (OL.nd rfl (OL.nd rfl (OL.nd rfl (OL.nd rfl (OL.nd rfl (OL.nd rfl (OL.nd rfl ?_)))))))
     refine OL.nd rfl (OL.yes rfl (pkF rfl rfl (pkF rfl rfl (mvD rfl (OL.yes rfl (faP fd.Rat_2 rfl rfl (OL.yes rfl ?_)))))))
     exact ldPC ce.u32s rfl rfl rfl (OL.yes rfl (clv rfl .rq1 (ref_oneL l2) (pkF rfl rfl (OL.nil (AW.reach () ⟨trivial,Knows.app .rq2 (.cons (VLe.bool (by rw [g18,cn0 _ (by omega)];rfl)) .nil),Owns.app (.cons rfl .nil) (.nil)⟩)))))
  ·try simp only [dx9] at g7
   refine OL.nd rfl (OL.nd rfl (OL.nd rfl (OL.nd rfl (OL.nd rfl (OL.nd rfl (OL.nd rfl (OL.nd rfl ?_)))))))
   refine OL.nd rfl (pkF rfl rfl (mvD rfl (OL.yes rfl (faP fd.Rat_2 rfl rfl (OL.yes rfl (ldPC ce.u32s rfl rfl rfl (OL.yes rfl ?_)))))))
   refine lnL sl.u32s rfl rfl (OL.yes rfl (c_gtr rfl rfl rfl (OL.yes rfl (mvD rfl (OL.split 23 rfl (fun g23=>?_) (fun g23=>?_))))))
   ·try simp only [dx9] at g23
    refine OL.yes rfl (faP fd.Rat_2 rfl rfl (OL.yes rfl (ldPC ce.u32s rfl rfl rfl (OL.yes rfl (faP fd.Rat_2 rfl rfl (OL.yes rfl (ldPC ce.u32s rfl rfl rfl ?_)))))))
    refine OL.yes rfl (lnL sl.u32s rfl rfl (OL.yes rfl (sub_i64 rfl rfl (by omega) (OL.yes rfl (ixL sl.u32s 0 rfl rfl (by omega) (by omega) rfl rfl (OL.yes rfl (ldRC ce.u32 rfl ?_)))))))
    refine OL.yes rfl (c_eql rfl rfl rfl (OL.yes rfl (pkT rfl rfl (pkF rfl rfl (mvD rfl (OL.split 35 rfl (fun g35=>?_) (fun g35=>?_)))))))
    ·have g35:canon r.den=false:=by rw [← canon_last (by omega),g35];rfl
     exact OL.nd rfl (OL.nd rfl (OL.nd rfl (pkT rfl rfl (OL.nil (AW.reach () ⟨trivial,Knows.app .rq2 (.cons (VLe.bool (by rw [cn0 r.num (by omega),g35];rfl)) .nil),Owns.app (.cons rfl .nil) (.nil)⟩)))))
    ·have g35:canon r.den=true:=by rw [← canon_last (by omega),g35];rfl
     refine OL.yes rfl (faP fd.Rat_2 rfl rfl (OL.yes rfl (ldPC ce.u32s rfl rfl rfl (OL.yes rfl (clv rfl .rq1 (ref_oneL l2) (pkF rfl rfl (OL.nil ?_)))))))
     exact AW.reach () ⟨trivial,Knows.app .rq2 (.cons (VLe.bool (by rw [cn0 r.num (by omega),g35];rfl)) .nil),Owns.app (.cons rfl .nil) (.nil)⟩
   ·try simp only [dx9] at g23
    refine OL.nd rfl (OL.nd rfl (OL.nd rfl (OL.nd rfl (OL.nd rfl (OL.nd rfl (OL.nd rfl (OL.nd rfl ?_)))))))
    refine OL.nd rfl (OL.yes rfl (pkF rfl rfl (pkF rfl rfl (mvD rfl (OL.yes rfl (faP fd.Rat_2 rfl rfl (OL.yes rfl ?_)))))))
    exact ldPC ce.u32s rfl rfl rfl (OL.yes rfl (clv rfl .rq1 (ref_oneL l2) (pkF rfl rfl (OL.nil (AW.reach () ⟨trivial,Knows.app .rq2 (.cons (VLe.bool (by rw [cn0 r.num (by omega),cn0 r.den (by omega)];rfl)) .nil),Owns.app (.cons rfl .nil) (.nil)⟩)))))
 rintro ⟨⟩ hφ
 refine AW.cond rfl (fun h1=>?_) (fun h1=>?_)
 ·have hg:r.good=false:=by unfold Raw.good;cases e1:canon r.num with
    | false=>simp
    | true =>
     cases e2:canon r.den with
     | false=>simp
     | true =>
      rw [e1,e2] at h1
      have e3:r.den=[1]:=by simpa using h1
      rw [e3]
      cases r.num <;> simp [val_cons,val_nil]
  exact AW.sg hE rfl (asD rfl (OL.nil (AW.ret (RetQ.r ⟨_,.tmp rfl .nil,.le (vle_of_eq (by rw [hg];rfl))⟩))))
 ·have h1a:canon r.num=true:=by cases e1:canon r.num <;> simp [e1] at h1;rfl
  have h1b:canon r.den=true:=by cases e1:canon r.den <;> simp [e1] at h1;rfl
  have h1c:r.den≠[1]:=by intro e;simp [e] at h1
  have hN:=canon_eq hr.num h1a
  have hD:=canon_eq hr.den h1b
  have hd1:val r.den≠1:=fun e=>h1c (by rw [← hD,e];exact lim_eq_one.2 rfl)
  refine AW.skip (AW.seq (AW.sg hE rfl (faP fd.Rat_1 rfl rfl (ldPC ce.u32s rfl rfl rfl (lnL sl.u32s rfl rfl (c_eql rfl rfl rfl (OL.nil ?_)))))))
  refine AW.cond rfl (fun h2=>?_) (fun h2=>?_)
  ·have h2:r.num=[]:=en9 (by have:=dt9 h2;omega)
   have hg:r.good=(!r.neg && decide (r.den=[])):=by unfold Raw.good;rw [h1a,h1b,decide_eq_true h2];rfl
   refine AW.sg hE rfl (faP fd.Rat_0 rfl rfl (ldPC ce.bool rfl rfl rfl (nt rfl (mvD rfl (OL.split 47 rfl (fun g47=>?_) (fun g47=>?_))))))
   ·have g47:=g47
    refine OL.yes rfl (faP fd.Rat_2 rfl rfl (OL.yes rfl (ldPC ce.u32s rfl rfl rfl (OL.yes rfl (lnL sl.u32s rfl rfl (OL.yes rfl (c_eql rfl rfl rfl ?_)))))))
    exact pkT rfl rfl (asD rfl (OL.nil (AW.ret (RetQ.r ⟨_,.tmp rfl .nil,.le (VLe.bool (by rw [hg,g47,Bool.true_and];exact decide_eq_decide.2 (by rw [← List.length_eq_zero_iff];omega)))⟩))))
   ·have g47:=g47
    exact OL.nd rfl (OL.nd rfl (OL.nd rfl (OL.nd rfl (pkF rfl rfl (asD rfl (OL.nil (AW.ret (RetQ.r ⟨_,.tmp rfl .nil,.le (VLe.bool (by rw [hg,g47];rfl))⟩))))))))
  ·have h2:r.num≠[]:=fun e=>by have:=df9 h2;rw [e] at this;exact this rfl
   refine AW.skip (AW.sg hE rfl (faP fd.Rat_2 rfl rfl (ldPC ce.u32s rfl rfl rfl (lnL sl.u32s rfl rfl (c_eql rfl rfl rfl (mvD rfl (OL.split 57 rfl (fun g57=>?_) (fun g57=>?_))))))))
   ·have g57:r.den=[]:=en9 (by have:=dt9 g57;omega)
    refine OL.nd rfl (OL.nd rfl (OL.nd rfl (OL.nd rfl (OL.nd rfl (OL.nd rfl (pkT rfl rfl (asD rfl ?_)))))))
    exact OL.nil (AW.ret (RetQ.r ⟨_,.tmp rfl .nil,.le (VLe.bool (by simp [Raw.good,h1a,h1b,h2,g57];rfl))⟩))
   ·have g57:r.den≠[]:=fun e=>by have:=df9 g57;rw [e] at this;exact this rfl
    have hn0:val r.num≠0:=fun e=>h2 (by rw [← hN,e,lim_zero])
    refine OL.yes rfl (faP fd.Rat_1 rfl rfl (OL.yes rfl (ldPC ce.u32s rfl rfl rfl (OL.yes rfl (faP fd.Rat_2 rfl rfl (OL.yes rfl (ldPC ce.u32s rfl rfl rfl ?_)))))))
    exact OL.yes rfl (cl (ref_divisor (a:=val r.num) (b:=val r.den) (by rw [hN];omega) (by rw [hD];omega)) rfl (by rw [hN,hD];exact VLes.refl _) (OL.yes rfl (clv rfl .rq1 (ref_one) (pkF rfl rfl (asD rfl (OL.nil (AW.ret (RetQ.r ⟨_,.tmp rfl .nil,.le (VLe.bool (by simp [Raw.good,h1a,h1b,h2,g57,hd1]))⟩))))))))
theorem ref_den {q:Rat}:FSpec P F.ref01_den [vQ q] (.d (u32s (lim q.den))):=by
 refine FSpec.intro fn.ref01_den (by rfl) (by rfl) (nb9 (by rfl)) fun E hE=>(AW.sg hE rfl (bxA rfl rfl fun b1=>(asM rfl (OL.nil (AW.seq (AW.sg hE rfl (faP fd.Rat_2 rfl rfl ?_)))))))
 refine ldPC ce.u32s rfl rfl rfl (lnL sl.u32s rfl rfl (c_eql rfl rfl rfl (OL.nil (AW.cond rfl (fun h1=>?_) (fun h1=>?_)))))
 ·have h1:q.den=1:=by
    have h2:=dt9 h1
    by_cases e:q.den=1
    ·exact e
    ·have e2:(ofQ q).den=lim q.den:=by simp [ofQ,e]
     rw [e2] at h2
     exact absurd (lim_length_zero.1 (by omega)) q.den_nz
  exact AW.sg hE rfl (lt1 sl.u32s (VC.d _).vd rfl (by decide) (asD rfl (OL.nil (AW.ret (RetQ.r ⟨_,.tmp rfl .nil,.le (vle_of_eq (by rw [h1,lim_eq_one.2 rfl];rfl))⟩)))))
 ·have h1:q.den≠1:=fun e=>by
    have h2:=df9 h1
    have e2:(ofQ q).den=[]:=by simp [ofQ,e]
    rw [e2] at h2
    exact h2 rfl
  exact AW.skip (AW.sg hE rfl (faP fd.Rat_2 rfl rfl (ldPC ce.u32s rfl rfl rfl (asD rfl (OL.nil (AW.ret (RetQ.r ⟨_,.tmp rfl .nil,.le (vle_of_eq (by rw [show (ofQ q).den=lim q.den by simp [ofQ,h1]];rfl))⟩)))))))
theorem ref_Take {r:Raw}(hr:r.Ok):FSpec P F.ref01_Take [vRaw r] (vQ r.q):=by
 have n1:=hr.ln
 have n2:=hr.ld
 refine FSpec.intro fn.ref01_Take (by rfl) (by rfl) (nb9 (by rfl)) fun E hE=>(AW.sg hE rfl (bxA rfl rfl fun b1=>(al z.Rat rfl fun b2=>(OL.nil (AW.seq (AW.sg hE rfl (ldPA ag.Rat rfl rfl (vs:=[_,_,_]) rfl (nb9 rfl) ?_)))))))
 refine clv rfl .rq1 (ref_Valid (by assumption)) (nt rfl (OL.nil (AW.cond rfl (fun h1=>?_) (fun h1=>?_))))
 ·have hq:=q_bad (r:=r) (by simpa using h1)
  refine AW.sg hE rfl (bd z.Rat pl.Rat (cs:=[_,_,_]) rfl (sto sz.Rat rfl rfl rfl rfl rfl (nb9 rfl) (cells2:=[_,_,_]) rfl (OL.nil ?_)))
  rw [hq,vQ_zero]
  exact AW.ret (RetQ.r ⟨_,.cellA rfl rfl ag.Rat (nb9 rfl) .nil,.ag (.cons (.le vR) (.cons (.le (VLe.mt)) (.cons (.le (VLe.mt)) .nil)))⟩)
 ·have hq:=good_eq hr (by simpa using h1)
  refine AW.skip (AW.seq (AW.dg 2 [0,1,2,3,5,6,4,7,8,9] order_free hE rfl (by kernel_rfl) (OI.of_OL (os:=[_,_,_,_,_,_,_,_,_,_]) rfl ?_)))
  refine faP fd.Rat_0 rfl rfl (ldPC ce.bool rfl rfl rfl (faP fd.Rat_1 rfl rfl (ldPC ce.u32s rfl rfl rfl (faP fd.Rat_2 rfl rfl (ldPC ce.u32s rfl rfl rfl (apMD sl.u32s rfl rfl (VC.d _) (by simp [D.cells]) (by simp;omega) (by simp;omega) (apMD sl.u32s rfl rfl (VC.d _) (by simp [D.cells]) (by simp;omega) (by simp;omega) ?_)))))))
  refine bd2 (cs:=[_,_,_]) z.Rat pl.Rat (pvC (by exact evD rfl) (pvC (by exact evD rfl) (pvC (by exact evD rfl) (pvN)))) (by rfl) (sto sz.Rat rfl rfl rfl rfl rfl (nb9 rfl) (cells2:=[_,_,_]) rfl (OL.nil ?_))
  rw [vQ_raw hq]
  exact AW.ret (RetQ.r ⟨_,.cellA rfl rfl ag.Rat (nb9 rfl) .nil,.ag (.cons (.le vR) (.cons (.le vR) (.cons (.le vR) .nil)))⟩)
theorem ref_over {s:Bool}{n d:Nat}(nn:(lim n).length≤1099511627776)(nd:(lim d).length≤1099511627776)(hd:d≠0):FSpec P F.ref01_over [.d (dB s),.d (u32s (lim n)),.d (u32s (lim d))] (vQ (fr s n d)):=by
 refine FSpec.intro fn.ref01_over (by rfl) (by rfl) (nb9 (by rfl)) fun E hE=>(AW.sg hE rfl (al z.Rat rfl fun b6=>(OL.nil (AW.seq (AW.sg hE rfl (mvD rfl (lnL sl.u32s rfl rfl ?_)))))))
 refine c_eql rfl rfl rfl (OL.nil (AW.cond rfl (fun h=>?_) (fun h=>?_)))
 ·have h:n=0:=lim_length_zero.1 (by have:=dt9 h;omega)
  subst h
  rw [fr_zero,vQ_zero]
  exact AW.sg hE rfl (bd z.Rat pl.Rat (cs:=[_,_,_]) rfl (sto sz.Rat rfl rfl rfl rfl rfl (nb9 rfl) (cells2:=[_,_,_]) rfl (OL.nil (AW.ret (RetQ.r ⟨_,.cellA rfl rfl ag.Rat (nb9 rfl) .nil,.ag (.cons (.le vR) (.cons (.le (VLe.mt)) (.cons (.le (VLe.mt)) .nil)))⟩)))))
 ·have h:n≠0:=fun e=>by have:=df9 h;rw [e,lim_zero] at this;exact this rfl
  have hgp:0<Nat.gcd n d:=Nat.gcd_pos_of_pos_left d (Nat.pos_of_ne_zero h)
  have hgl:=len_le (Nat.gcd_le_left d (Nat.pos_of_ne_zero h))
  have hdl:=len_le (Nat.div_le_self d (Nat.gcd n d))
  rw [vQ_fr h hd]
  refine AW.skip (AW.sg hE rfl (mvD rfl (mvD rfl (clv rfl .rq2 (ref_divisor (by assumption) (by assumption)) (asD rfl (OL.nil (AW.sg hE rfl ?_)))))))
  refine mvD rfl (mvD rfl (clv rfl .rq2 (ref_divide (by omega) (by assumption) (by omega)) (mvT rfl (ex rfl rfl (ex rfl rfl (asD rfl (asD rfl ?_)))))))
  refine OL.nil (AW.sg hE rfl (mvD rfl (mvD rfl (clv rfl .rq2 (ref_divide (by omega) (by assumption) (by omega)) (mvT rfl (ex rfl rfl (ex rfl rfl ?_)))))))
  refine asD rfl (asD rfl (OL.nil (AW.seq (AW.sg hE rfl (mvD rfl (clv rfl .rq1 (ref_one) (OL.nil ?_)))))))
  refine AW.cond rfl (fun h2=>?_) (fun h2=>?_)
  ·try simp only [dx9] at h2
   refine AW.rg hE rfl (asM rfl (OL.nil (AW.sg hE rfl (mvD rfl (mvD rfl (mvM rfl (bd2 (cs:=[_,_,_]) z.Rat pl.Rat (pvC (by exact evD rfl) (pvC (by exact evD rfl) (pvC (by exact evM rfl) (pvN)))) (by rfl) ?_)))))))
   exact sto sz.Rat rfl rfl rfl rfl rfl (nb9 rfl) (cells2:=[_,_,_]) rfl (OL.nil (AW.ret (RetQ.r ⟨_,.cellA rfl rfl ag.Rat (nb9 rfl) .nil,.ag (.cons (.le vR) (.cons (.le vR) (.cons (.le (by rw [if_pos h2];exact VLe.mt)) .nil)))⟩)))
  ·try simp only [dx9] at h2
   refine AW.skip (AW.sg hE rfl (mvD rfl (mvD rfl (mvD rfl (bd2 (cs:=[_,_,_]) z.Rat pl.Rat (pvC (by exact evD rfl) (pvC (by exact evD rfl) (pvC (by exact evD rfl) (pvN)))) (by rfl) (sto sz.Rat rfl rfl rfl rfl rfl (nb9 rfl) (cells2:=[_,_,_]) rfl (OL.nil ?_)))))))
   exact AW.ret (RetQ.r ⟨_,.cellA rfl rfl ag.Rat (nb9 rfl) .nil,.ag (.cons (.le vR) (.cons (.le vR) (.cons (.le (vle_of_eq (by rw [if_neg h2]))) .nil)))⟩)
theorem ref_Make {n d:Int}(hn:-9223372036854775808≤n∧n≤9223372036854775807)(hd:-9223372036854775808≤d∧d≤9223372036854775807)(h0:d≠0):FSpec P F.ref01_Make [.d (dI n),.d (dI d)] (.tup [vQ ((n:Rat) / (d:Rat)),.d (dI 0)]):=by
 have e1:(lim n.natAbs).length≤2:=lim_length_le (by show n.natAbs<18446744073709551616;omega)
 have e2:(lim d.natAbs).length≤2:=lim_length_le (by show d.natAbs<18446744073709551616;omega)
 refine FSpec.intro fn.ref01_Make (by rfl) (by rfl) (nb9 (by rfl)) fun E hE=>(AW.sg hE rfl (al z.Rat rfl fun b4=>(asD rfl (OL.nil (AW.seq (AW.sg hE rfl (mvD rfl ?_)))))))
 refine c_eql rfl rfl rfl (OL.nil (AW.cond rfl (fun hno=>absurd hno (by simpa using h0)) (fun _=>?_)))
 refine AW.skip (AW.sg hE rfl (mvD rfl (c_lss rfl rfl rfl (mvD rfl (c_lss rfl rfl rfl (neb bt.bool rfl rfl (mvD rfl ?_)))))))
 refine clv rfl .rq1 (ref_absolute (by assumption)) (clv rfl .rq1 (ref_natural (by omega)) (mvD rfl (clv rfl .rq1 (ref_absolute (by assumption)) (clv rfl .rq1 (ref_natural (by omega)) (clv rfl .rq3 (ref_over (by omega) (by omega) (by omega)) ?_)))))
 rw [show (!(decide (n<0) == decide (d<0)))=(decide (n<0) != decide (d<0)) from rfl,fr_int]
 exact sto sz.Rat rfl rfl rfl rfl rfl (nb9 rfl) (cells2:=[_,_,_]) rfl (asD rfl (OL.nil (AW.ret (RetQ.r ⟨_,.cellA rfl rfl ag.Rat (nb9 rfl) (.tmp rfl .nil),_,.cons (.ag (.cons (.le vR) (.cons (.le vR) (.cons (.le vR) .nil)))) (.cons (.le vR) .nil),rfl⟩))))
theorem ref_Sign {r:Raw}(hr:r.Ok):FSpec P F.ref01_Sign [vRaw r] (.d (dI (sgnQ r.q))):=by
 refine FSpec.intro fn.ref01_Sign (by rfl) (by rfl) (nb9 (by rfl)) fun E hE=>(AW.sg hE rfl (bxA rfl rfl fun b1=>(asD rfl (OL.nil (AW.sg hE rfl (ldPA ag.Rat rfl rfl (vs:=[_,_,_]) rfl (nb9 rfl) (clv rfl .rq1 (ref_Take (by assumption)) ?_)))))))
 refine sto sz.Rat rfl rfl rfl rfl rfl (nb9 rfl) (cells2:=[_,_,_]) rfl (OL.nil (AW.seq (AW.block (AW.sg hE rfl (faP fd.Rat_0 rfl rfl (ldPC ce.bool rfl rfl rfl (asD rfl ?_)))))))
 refine OL.nil (AW.cond rfl (fun h1=>?_) (fun h1=>?_))
 ·have h1:r.q.num<0:=dt9 h1
  exact AW.sg hE rfl (asD rfl (OL.nil (AW.ret (RetQ.r ⟨_,.tmp rfl .nil,.le (VLe.int ((sgnQ_num_neg.2 h1).symm))⟩))))
 ·have h1:¬ r.q.num<0:=df9 h1
  refine AW.sg hE rfl (faP fd.Rat_1 rfl rfl (ldPC ce.u32s rfl rfl rfl (lnL sl.u32s rfl rfl (c_gtr rfl rfl rfl (asD rfl (OL.nil (AW.cond rfl (fun h2=>?_) (fun h2=>?_))))))))
  ·have h2:r.q.num≠0:=fun e=>by have h3:=dt9 h2;rw [show (ofQ r.q).num=lim r.q.num.natAbs from rfl,e,show (0:Int).natAbs=0 from rfl,lim_zero] at h3;exact absurd h3 (by decide)
   exact AW.sg hE rfl (asD rfl (OL.nil (AW.ret (RetQ.r ⟨_,.tmp rfl .nil,.le (VLe.int (by unfold sgnQ;rw [if_neg h1,if_neg h2]))⟩))))
  ·have h2:r.q.num=0:=by have h3:=df9 h2;rw [show (ofQ r.q).num=lim r.q.num.natAbs from rfl] at h3;have:=lim_length_zero.1 (show (lim r.q.num.natAbs).length=0 by omega);omega
   exact AW.skip (AW.sg hE rfl (asD rfl (OL.nil (AW.ret (RetQ.r ⟨_,.tmp rfl .nil,.le (VLe.int (by unfold sgnQ;rw [if_neg h1,if_pos h2]))⟩)))))
theorem ref_Neg {r:Raw}(hr:r.Ok):FSpec P F.ref01_Neg [vRaw r] (vQ (-r.q)):=by
 have e1:(ofQ (-r.q)).num=(ofQ r.q).num:=by simp [ofQ]
 have e2:(ofQ (-r.q)).den=(ofQ r.q).den:=by simp [ofQ]
 rw [show vQ (-r.q)=.ag [.d (dB (ofQ (-r.q)).neg),.d (u32s (ofQ r.q).num),.d (u32s (ofQ r.q).den)] by rw [← e1,← e2]]
 refine FSpec.intro fn.ref01_Neg (by rfl) (by rfl) (nb9 (by rfl)) fun E hE=>(AW.sg hE rfl (bxA rfl rfl fun b1=>(al z.Rat rfl fun b2=>(OL.nil (AW.sg hE rfl (ldPA ag.Rat rfl rfl (vs:=[_,_,_]) rfl (nb9 rfl) (clv rfl .rq1 (ref_Take (by assumption)) ?_)))))))
 refine sto sz.Rat rfl rfl rfl rfl rfl (nb9 rfl) (cells2:=[_,_,_]) rfl (OL.nil (AW.sg hE rfl (faP fd.Rat_1 rfl rfl (ldPC ce.u32s rfl rfl rfl (lnL sl.u32s rfl rfl (c_gtr rfl rfl rfl (mvD rfl ?_)))))))
 refine OL.split 9 rfl (fun h2=>?_) (fun h2=>?_)
 ·have h2:r.q.num≠0:=fun e=>by have h3:=dt9 h2;rw [show (ofQ r.q).num=lim r.q.num.natAbs from rfl,e,show (0:Int).natAbs=0 from rfl,lim_zero] at h3;exact absurd h3 (by decide)
  refine OL.yes rfl (faP fd.Rat_0 rfl rfl (OL.yes rfl (ldPC ce.bool rfl rfl rfl (OL.yes rfl (nt rfl (pkT rfl rfl (faP fd.Rat_0 rfl rfl ?_)))))))
  refine sto sz.bool rfl rfl rfl rfl rfl (nb9 rfl) (cells2:=[_,_,_]) rfl (OL.nil (AW.sg hE rfl (ldPA ag.Rat rfl rfl (vs:=[_,_,_]) rfl (nb9 rfl) (sto sz.Rat rfl rfl rfl rfl rfl (nb9 rfl) (cells2:=[_,_,_]) rfl (OL.nil ?_)))))
  exact AW.ret (RetQ.r ⟨_,.cellA rfl rfl ag.Rat (nb9 rfl) .nil,.ag (.cons (.le (VLe.bool (by show (!decide (r.q.num<0))=decide ((-r.q).num<0);rw [Rat.neg_num];by_cases h:r.q.num<0;simp [h];omega;simp [h];omega))) (.cons (.le vR) (.cons (.le vR) .nil)))⟩)
 ·have h2:r.q.num=0:=by have h3:=df9 h2;rw [show (ofQ r.q).num=lim r.q.num.natAbs from rfl] at h3;have:=lim_length_zero.1 (show (lim r.q.num.natAbs).length=0 by omega);omega
  refine OL.nd rfl (OL.nd rfl (OL.nd rfl (pkF rfl rfl (faP fd.Rat_0 rfl rfl (sto sz.bool rfl rfl rfl rfl rfl (nb9 rfl) (cells2:=[_,_,_]) rfl (OL.nil (AW.sg hE rfl ?_)))))))
  exact ldPA ag.Rat rfl rfl (vs:=[_,_,_]) rfl (nb9 rfl) (sto sz.Rat rfl rfl rfl rfl rfl (nb9 rfl) (cells2:=[_,_,_]) rfl (OL.nil (AW.ret (RetQ.r ⟨_,.cellA rfl rfl ag.Rat (nb9 rfl) .nil,.ag (.cons (.le (VLe.bool (by show false=decide ((-r.q).num<0);rw [Rat.neg_num,h2];rfl))) (.cons (.le vR) (.cons (.le vR) .nil)))⟩))))
theorem ref_Add {x y:Raw}(hx:x.Ok)(hy:y.Ok):FSpec P F.ref01_Add [vRaw x,vRaw y] (vQ (x.q+y.q)):=by
 have a1:=q_sz hx hx.ln hx.ld (by decide)
 have a2:=q_sz hy hy.ln hy.ld (by decide)
 have sn1:=sz_num x.q
 have sn2:=sz_num y.q
 have sd1:=sz_den x.q
 have sd2:=sz_den y.q
 have sdd:=len_mul x.q.den y.q.den
 have dd0:=Nat.mul_ne_zero x.q.den_nz y.q.den_nz
 have e1:=len_mul x.q.num.natAbs y.q.den
 have e2:=len_mul y.q.num.natAbs x.q.den
 have hp:=fr_plus (s:=decide (x.q.num<0)) (t:=decide (y.q.num<0)) (a:=x.q.num.natAbs) (b:=y.q.num.natAbs) x.q.den_nz y.q.den_nz
 rw [fr_ofQ,fr_ofQ] at hp
 have hl:=fun k l h1 h2 h3 h4=>len_plus (s:=decide (x.q.num<0)) (t:=decide (y.q.num<0)) (a:=x.q.num.natAbs) (b:=y.q.num.natAbs) (d1:=x.q.den) (d2:=y.q.den) (k:=k) (l:=l) h1 h2 h3 h4
 have hl:=hl _ _ sn1 sn2 sd1 sd2
 refine FSpec.intro fn.ref01_Add (by rfl) (by rfl) (nb9 (by rfl)) fun E hE=>(AW.sg hE rfl (bxA rfl rfl fun b2=>(bxA rfl rfl fun b3=>(al z.Rat rfl fun b4=>(OL.nil (AW.seq (AW.dg 1 [0,1,2,3,4,5] order_free hE rfl (by kernel_rfl) (OI.of_OL (os:=[_,_,_,_,_,_]) rfl ?_))))))))
 refine ldPA ag.Rat rfl rfl (vs:=[_,_,_]) rfl (nb9 rfl) (clv rfl .rq1 (ref_Take (by assumption)) (ldPA ag.Rat rfl rfl (vs:=[_,_,_]) rfl (nb9 rfl) (clv rfl .rq1 (ref_Take (by assumption)) (sto sz.Rat rfl rfl rfl rfl rfl (nb9 rfl) (cells2:=[_,_,_]) rfl (sto sz.Rat rfl rfl rfl rfl rfl (nb9 rfl) (cells2:=[_,_,_]) rfl (OL.nil (AW.seq ?_)))))))
 refine AW.dg 1 [0,1,2,3,4,5,6,7,8,9,10,11,12,13,14,15,16,17] order_free hE rfl (by kernel_rfl) (OI.of_OL (os:=[_,_,_,_,_,_,_,_,_,_,_,_,_,_,_,_,_,_]) rfl ?_)
 refine faP fd.Rat_1 rfl rfl (ldPC ce.u32s rfl rfl rfl (ldPA ag.Rat rfl rfl (vs:=[_,_,_]) rfl (nb9 rfl) (clv rfl .rq1 (ref_den) (clv rfl .rq2 (ref_timesN (a:=x.q.num.natAbs) (b:=y.q.den) (by omega) (by omega)) (faP fd.Rat_1 rfl rfl (ldPC ce.u32s rfl rfl rfl (ldPA ag.Rat rfl rfl (vs:=[_,_,_]) rfl (nb9 rfl) ?_)))))))
 refine clv rfl .rq1 (ref_den) (clv rfl .rq2 (ref_timesN (a:=y.q.num.natAbs) (b:=x.q.den) (by omega) (by omega)) (ldPA ag.Rat rfl rfl (vs:=[_,_,_]) rfl (nb9 rfl) (clv rfl .rq1 (ref_den) (ldPA ag.Rat rfl rfl (vs:=[_,_,_]) rfl (nb9 rfl) (clv rfl .rq1 (ref_den) (clv rfl .rq2 (ref_timesN (a:=x.q.den) (b:=y.q.den) (by omega) (by omega)) (asD rfl ?_)))))))
 refine asD rfl (asD rfl (OL.nil (AW.seq (AW.block (AW.sg hE rfl (faP fd.Rat_0 rfl rfl (ldPC ce.bool rfl rfl rfl ?_)))))))
 refine faP fd.Rat_0 rfl rfl (ldPC ce.bool rfl rfl rfl (eqb bt.bool rfl rfl (asD rfl (OL.nil (AW.cond rfl (fun h=>?_) (fun h=>?_))))))
 ·have h:decide (x.q.num<0)=decide (y.q.num<0):=by exact beq_iff_eq.1 h
  rw [if_pos h] at hp
  rw [if_pos h] at hp hl
  refine AW.seq (AW.dg 1 [0,1,2,3,4,5,6,7] order_free hE rfl (by kernel_rfl) (OI.of_OL (os:=[_,_,_,_,_,_,_,_]) rfl ?_))
  refine faP fd.Rat_0 rfl rfl (ldPC ce.bool rfl rfl rfl (mvD rfl (mvD rfl (clv rfl .rq2 (ref_plusN (by omega) (by omega)) (mvD rfl (clv rfl .rq3 (ref_over (s:=decide (x.q.num<0)) (by omega) (by omega) dd0) ?_))))))
  rw [hp]
  exact sto sz.Rat rfl rfl rfl rfl rfl (nb9 rfl) (cells2:=[_,_,_]) rfl (OL.nil (AW.ret (RetQ.r ⟨_,.cellA rfl rfl ag.Rat (nb9 rfl) .nil,.ag (.cons (.le vR) (.cons (.le vR) (.cons (.le vR) .nil)))⟩)))
 ·have h:¬ decide (x.q.num<0)=decide (y.q.num<0):=fun e=>by have e2:=beq_iff_eq.2 e;exact absurd (h.symm.trans e2) (by decide)
  rw [if_neg h,if_neg h] at hp
  rw [if_neg h] at hl
  refine AW.sg hE rfl (mvD rfl (mvD rfl (clv rfl .rq2 (ref_compare (by omega) (by omega)) (c_geq rfl rfl rfl (asD rfl (OL.nil (AW.cond rfl (fun h2=>?_) (fun h2=>?_))))))))
  ·have h2:y.q.num.natAbs*x.q.den≤x.q.num.natAbs*y.q.den:=cmp_nneg (by have:=dt9 h2;omega)
   rw [if_pos h2,if_pos h2] at hp
   rw [if_pos h2] at hl
   refine AW.seq (AW.dg 1 [0,1,2,3,4,5,6,7] order_free hE rfl (by kernel_rfl) (OI.of_OL (os:=[_,_,_,_,_,_,_,_]) rfl ?_))
   refine faP fd.Rat_0 rfl rfl (ldPC ce.bool rfl rfl rfl (mvD rfl (mvD rfl (clv rfl .rq2 (ref_minusN (by omega) (by assumption)) (mvD rfl (clv rfl .rq3 (ref_over (s:=decide (x.q.num<0)) (by omega) (by omega) dd0) ?_))))))
   rw [hp]
   exact sto sz.Rat rfl rfl rfl rfl rfl (nb9 rfl) (cells2:=[_,_,_]) rfl (OL.nil (AW.ret (RetQ.r ⟨_,.cellA rfl rfl ag.Rat (nb9 rfl) .nil,.ag (.cons (.le vR) (.cons (.le vR) (.cons (.le vR) .nil)))⟩)))
  ·have h2:¬ y.q.num.natAbs*x.q.den≤x.q.num.natAbs*y.q.den:=fun e=>df9 h2 (cmp_ge e)
   rw [if_neg h2,if_neg h2] at hp
   rw [if_neg h2] at hl
   refine AW.skip (AW.seq (AW.dg 1 [0,1,2,3,4,5,6,7] order_free hE rfl (by kernel_rfl) (OI.of_OL (os:=[_,_,_,_,_,_,_,_]) rfl ?_)))
   refine faP fd.Rat_0 rfl rfl (ldPC ce.bool rfl rfl rfl (mvD rfl (mvD rfl (clv rfl .rq2 (ref_minusN (by omega) (by omega)) (mvD rfl (clv rfl .rq3 (ref_over (s:=decide (y.q.num<0)) (by omega) (by omega) dd0) ?_))))))
   rw [hp]
   exact sto sz.Rat rfl rfl rfl rfl rfl (nb9 rfl) (cells2:=[_,_,_]) rfl (OL.nil (AW.ret (RetQ.r ⟨_,.cellA rfl rfl ag.Rat (nb9 rfl) .nil,.ag (.cons (.le vR) (.cons (.le vR) (.cons (.le vR) .nil)))⟩)))
theorem ref_AddQ {x y:Rat}(hx:sz x≤68719476736)(hy:sz y≤68719476736):FSpec P F.ref01_Add [vQ x,vQ y] (vQ (x+y)):=by
 have h:=ref_Add (x:=ofQ x) (y:=ofQ y) (ofQ_ok (by omega)) (ofQ_ok (by omega))
 rw [q_ofQ,q_ofQ] at h;exact h
theorem ref_SignQ {x:Rat}(hx:sz x≤274877906944):FSpec P F.ref01_Sign [vQ x] (.d (dI (sgnQ x))):=by
 have h:=ref_Sign (r:=ofQ x) (ofQ_ok hx)
 rw [q_ofQ] at h;exact h
theorem ref_Sub {x y:Raw}(hx:x.Ok)(hy:y.Ok):FSpec P F.ref01_Sub [vRaw x,vRaw y] (vQ (x.q-y.q)):=by
 have a2:=q_sz hy hy.ln hy.ld (by decide)
 refine FSpec.intro fn.ref01_Sub (by rfl) (by rfl) (nb9 (by rfl)) fun E hE=>(AW.sg hE rfl (bxA rfl rfl fun b2=>(bxA rfl rfl fun b3=>(al z.Rat rfl fun b4=>(OL.nil (AW.seq (AW.dg 1 [0,1,2,3,4] order_free hE rfl (by kernel_rfl) (OI.of_OL (os:=[_,_,_,_,_]) rfl ?_))))))))
 refine ldPA ag.Rat rfl rfl (vs:=[_,_,_]) rfl (nb9 rfl) (ldPA ag.Rat rfl rfl (vs:=[_,_,_]) rfl (nb9 rfl) (clv rfl .rq1 (ref_Neg hy) (clv rfl .rq2 (ref_Add hx (ofQ_ok (by rw [sz_neg];omega))) ?_)))
 rw [q_ofQ,← Rat.sub_eq_add_neg]
 exact sto sz.Rat rfl rfl rfl rfl rfl (nb9 rfl) (cells2:=[_,_,_]) rfl (OL.nil (AW.ret (RetQ.r ⟨_,.cellA rfl rfl ag.Rat (nb9 rfl) .nil,.ag (.cons (.le vR) (.cons (.le vR) (.cons (.le vR) .nil)))⟩)))
theorem ref_Compare {x y:Raw}(hx:x.Sm)(hy:y.Sm):FSpec P F.ref01_Compare [vRaw x,vRaw y] (.d (dI (cmpQ x.q y.q))):=by
 have a1:=hx.q
 have a2:=hy.q
 have a3:=sz_sub x.q y.q
 refine FSpec.intro fn.ref01_Compare (by rfl) (by rfl) (nb9 (by rfl)) fun E hE=>(AW.sg hE rfl (bxA rfl rfl fun b2=>(bxA rfl rfl fun b3=>(asD rfl (OL.nil (AW.sg hE rfl (ldPA ag.Rat rfl rfl (vs:=[_,_,_]) rfl (nb9 rfl) ?_)))))))
 exact ldPA ag.Rat rfl rfl (vs:=[_,_,_]) rfl (nb9 rfl) (clv rfl .rq2 (ref_Sub hx.ok hy.ok) (clv rfl .rq1 (ref_SignQ (by omega)) (asD rfl (OL.nil (AW.ret (RetQ.r ⟨_,.tmp rfl .nil,.le vR⟩))))))
theorem ref_CompareQ {x y:Rat}(hx:sz x≤68719476736)(hy:sz y≤68719476736):FSpec P F.ref01_Compare [vQ x,vQ y] (.d (dI (cmpQ x y))):=by
 have h:=ref_Compare (x:=ofQ x) (y:=ofQ y) (ofQ_sm hx) (ofQ_sm hy)
 rw [q_ofQ,q_ofQ] at h;exact h
end Go.Proofs.YteiohkpjgcioaaaGreatDoor

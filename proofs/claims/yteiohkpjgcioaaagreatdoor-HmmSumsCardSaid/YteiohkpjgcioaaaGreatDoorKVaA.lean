/-
  Walks of package hmm on any model, part 1: numbers, lists, form, sums, ties (printed by mk2.py).
-/
import Derived.Test.YteiohkpjgcioaaaGreatDoorKHmmB
import Derived.Test.YteiohkpjgcioaaaGreatDoorKNum12
set_option linter.unusedVariables false
set_option linter.unusedSimpArgs false
namespace Go.Proofs.YteiohkpjgcioaaaGreatDoor
open Go Go.AL
noncomputable def sumB (h:HM):Bool:=@decide h.Sums (Classical.propDecidable _)
theorem sumB_t {h:HM}(f:h.Sums):true=sumB h:=(@decide_eq_true _ (Classical.propDecidable _) f).symm
theorem sumB_f {h:HM}(f:¬ h.Sums):false=sumB h:=(@decide_eq_false _ (Classical.propDecidable _) f).symm
noncomputable def tieB (h:HM):Bool:=@decide h.Tied (Classical.propDecidable _)
theorem tieB_t {h:HM}(f:h.Tied):true=tieB h:=(@decide_eq_true _ (Classical.propDecidable _) f).symm
theorem tieB_f {h:HM}(f:¬ h.Tied):false=tieB h:=(@decide_eq_false _ (Classical.propDecidable _) f).symm
theorem hmm_sumsS {h:HM}(f:h.FormS):FSpec P F.hmm_sums [vHM h] (.d (dB (sumB h))):=by
 have e1:=f.ini
 have e2:=f.trans
 have e3:=f.stop
 have e4:=f.emit
 have e5:=f.ties
 have e6:=f.sill
 have s0:=f.sym0
 have s1:=f.sym1
 have n0:=f.st0
 have n1:=f.st1
 refine FSpec.intro fn.hmm_sums (by rfl) (by rfl) (nb9 (by rfl)) fun E hE=>(AW.sg hE rfl (bxA rfl rfl fun b1=>(asD rfl (OL.nil (AW.seq (AW.sg hE rfl (faP fd.Hidden_3 rfl rfl ?_)))))))
 refine ldPC ce.Rats rfl rfl rfl (faP fd.Hidden_2 rfl rfl (ldPA ag.Rat rfl rfl (vs:=[_,_,_]) rfl (nb9 rfl) (lt1 (y:=dQ _) sl.Rats vd_q rfl (by decide) (clv rfl vL (hmm_whole (B:=1048576) (l:=h.ini) (m:=[h.empty]) f.zI (Small.one f.zE) ⟨by omega,by simp;omega⟩) (nt rfl (OL.nil (AW.cond rfl (fun c10=>?_) (fun c10=>?_))))))))
 ·have c10:¬ (sumQ (h.ini++[h.empty])=1):=by simpa using c10
  exact AW.sg hE rfl (asD rfl (OL.nil (AW.ret (RetQ.r ⟨_,.tmp rfl .nil,.le (VLe.bool (sumB_f fun s=>c10 s.i))⟩))))
 ·have c10:sumQ (h.ini++[h.empty])=1:=by simpa using c10
  refine AW.skip (AW.seq (AW.sg hE rfl (faP fd.Hidden_1 rfl rfl (ldPC ce.int rfl rfl rfl (mvD rfl (OL.nil (AW.block ?_)))))))
  refine AW.whileK (α:=Nat) [(1,_),(12,_)] [(1,_)] (fun i=>[(13,.d (dI i))]) (fun i=>[]) (fun i=>i≤h.st∧∀ j,j<i→h.SumRow j) (fun i=>h.st-i) 0 (.cons (knP rfl) (.cons (knD rfl) .nil)) (.cons (owB rfl) .nil) ⟨⟨Nat.zero_le _,fun j hj=>absurd hj (Nat.not_lt_zero j)⟩,.rq1,.nil⟩ ?_
  rintro i ⟨h1,h2⟩
  refine AW.sg hE rfl (c_lss rfl rfl rfl (OL.nil (AW.seq (AW.cond rfl (fun h14=>?_) (fun h14=>?_)))))
  ·try simp only [dx9] at h14
   refine AW.skip (AW.seq (AW.block (AW.sg hE rfl (mvD rfl (asD rfl (OL.nil (AW.seq ?_)))))))
   have t1:=f.trow i (by omega)
   have t2:=f.erow_le i (by omega)
   have zS:=f.zS.get (by decide) i
   refine AW.dg 1 [0,1,2,3,4,5,6,7,8,9,10,11,12,13,14,15,16,17,18,19,20,21,22,23,24,25,26,27,28,29] order_free hE rfl (by kernel_rfl) (OI.of_OL (os:=[_,_,_,_,_,_,_,_,_,_,_,_,_,_,_,_,_,_,_,_,_,_,_,_,_,_,_,_,_,_]) rfl ?_)
   refine faP fd.Hidden_4 rfl rfl (ldPC ce.Ratss rfl rfl rfl (mvD rfl (ixLn sl.Ratss [] rfl rfl (by omega) rfl rfl (ldRC ce.Rats rfl (faP fd.Hidden_5 rfl rfl (ldPC ce.Rats rfl rfl rfl (mvD rfl ?_)))))))
   refine ixLn sl.Rats 0 rfl rfl (by omega) rfl rfl (ldRA ag.Rat rfl (vs:=[_,_,_]) rfl (nb9 rfl) (lt1 (y:=dQ _) sl.Rats vd_q rfl (by decide) (clv rfl vL (hmm_whole (B:=1048576) (l:=h.trans.getD i []) (m:=[h.stop.getD i 0]) (f.zT i) (Small.one zS) ⟨by omega,by simp only [ls9];omega⟩) (nt rfl (mvD rfl (OL.split 29 rfl (fun a1=>?_) (fun a1=>?_)))))))
   ·have a1:¬ (sumQ (h.trans.getD i []++[h.stop.getD i 0])=1):=by simpa using a1
    refine OL.nd rfl (OL.nd rfl (OL.nd rfl (OL.nd rfl (OL.nd rfl (OL.nd rfl (OL.nd rfl (OL.nd rfl ?_)))))))
    refine OL.nd rfl (OL.nd rfl (OL.nd rfl (OL.nd rfl (OL.nd rfl (OL.nd rfl (OL.nd rfl (pkT rfl rfl ?_)))))))
    refine OL.nil (cnT rfl ?_)
    exact AW.sg hE rfl (asD rfl (OL.nil (AW.ret (RetQ.r ⟨_,.tmp rfl .nil,.le (VLe.bool (sumB_f fun s=>a1 (s.t i (by omega))))⟩))))
   ·have a1:sumQ (h.trans.getD i []++[h.stop.getD i 0])=1:=by simpa using a1
    refine OL.yes rfl (faP fd.Hidden_7 rfl rfl (OL.yes rfl (ldPC ce.bools rfl rfl rfl (OL.yes rfl (mvD rfl (OL.yes rfl (ixLn sl.bools false rfl rfl (by omega) rfl rfl ?_)))))))
    refine OL.yes rfl (ldRC ce.bool rfl (OL.yes rfl (nt rfl (OL.yes rfl (mvD rfl (OL.split 36 rfl (fun a2=>?_) (fun a2=>?_)))))))
    ·have a2:h.silent.getD i false=false:=by simpa using a2
     refine OL.yes rfl (faP fd.Hidden_6 rfl rfl (OL.yes rfl (ldPC ce.Ratss rfl rfl rfl (OL.yes rfl (mvD rfl (OL.yes rfl (ixLn sl.Ratss [] rfl rfl (by omega) rfl rfl ?_)))))))
     refine OL.yes rfl (ldRC ce.Rats rfl (OL.yes rfl (clv rfl (.cons vR (.cons VLe.mt .nil)) (hmm_whole (B:=1048576) (l:=h.emit.getD i []) (m:=[]) (f.zM i) Small.nil ⟨by omega,by simp only [List.length_nil];omega⟩) ?_)))
     rw [List.append_nil]
     refine OL.yes rfl (nt rfl (OL.yes rfl (pkT rfl rfl (pkF rfl rfl (OL.nil (AW.cond rfl (fun a3=>?_) (fun a3=>?_)))))))
     ·have a3:¬ (sumQ (h.emit.getD i [])=1):=by simpa using a3
      exact AW.sg hE rfl (asD rfl (OL.nil (AW.ret (RetQ.r ⟨_,.tmp rfl .nil,.le (VLe.bool (sumB_f fun s=>a3 (s.m i (by omega) a2)))⟩))))
     ·have a3:sumQ (h.emit.getD i [])=1:=by simpa using a3
      exact AW.skip (AW.rg hE rfl (add_i64 rfl rfl (by omega) (mvD rfl (OL.nil (AW.again (x:=i) (i+1) (by omega) ⟨⟨by omega,upto_stp h2 ⟨a1,fun _=>a3⟩⟩,Knows.app .rq2 .rq1,Owns.app (.cons rfl .nil) (.nil)⟩)))))
    ·have a2:h.silent.getD i false=true:=by simpa using a2
     refine OL.nd rfl (OL.nd rfl (OL.nd rfl (OL.nd rfl (OL.nd rfl (OL.nd rfl (OL.nd rfl (OL.yes rfl ?_)))))))
     refine pkF rfl rfl (pkF rfl rfl (OL.nil (cnF rfl ?_)))
     exact AW.skip (AW.rg hE rfl (add_i64 rfl rfl (by omega) (mvD rfl (OL.nil (AW.again (x:=i) (i+1) (by omega) ⟨⟨by omega,upto_stp h2 ⟨a1,fun x=>by rw [a2] at x;cases x⟩⟩,Knows.app .rq2 .rq1,Owns.app (.cons rfl .nil) (.nil)⟩)))))
  ·try simp only [dx9] at h14
   exact AW.exit (AW.sg hE rfl (asD rfl (OL.nil (AW.ret (RetQ.r ⟨_,.tmp rfl .nil,.le (VLe.bool (sumB_t ⟨c10,fun j hj=>(h2 j (by omega)).1,fun j hj=>(h2 j (by omega)).2⟩))⟩)))))
theorem hmm_tiedS {h:HM}(f:h.FormS):FSpec P F.hmm_tied [vHM h] (.d (dB (tieB h))):=by
 have e1:=f.ini
 have e2:=f.trans
 have e3:=f.stop
 have e4:=f.emit
 have e5:=f.ties
 have e6:=f.sill
 have s0:=f.sym0
 have s1:=f.sym1
 have n0:=f.st0
 have n1:=f.st1
 refine FSpec.intro fn.hmm_tied (by rfl) (by rfl) (nb9 (by rfl)) fun E hE=>(AW.sg hE rfl (bxA rfl rfl fun b1=>(asD rfl (OL.nil (AW.seq (AW.sg hE rfl (faP fd.Hidden_1 rfl rfl ?_)))))))
 refine ldPC ce.int rfl rfl rfl (mvD rfl (OL.nil (AW.block ?_)))
 refine AW.whileK (α:=Nat) [(1,_),(6,_)] [(1,_)] (fun i=>[(7,.d (dI i))]) (fun i=>[]) (fun i=>i≤h.st∧∀ q,q<i→∀ j,j<q→h.TiedAt q j) (fun i=>h.st-i) 0 (.cons (knP rfl) (.cons (knD rfl) .nil)) (.cons (owB rfl) .nil) ⟨⟨Nat.zero_le _,fun j hj=>absurd hj (Nat.not_lt_zero j)⟩,.rq1,.nil⟩ ?_
 rintro i ⟨h1,h2⟩
 refine AW.sg hE rfl (c_lss rfl rfl rfl (OL.nil (AW.seq (AW.cond rfl (fun h8=>?_) (fun h8=>?_)))))
 ·try simp only [dx9] at h8
  refine AW.skip (AW.seq (AW.block (AW.sg hE rfl (mvD rfl (asD rfl (OL.nil (AW.sg hE rfl ?_)))))))
  refine mvD rfl (mvD rfl (OL.nil (AW.block ?_)))
  refine AW.whileK (α:=Nat) [(1,_),(3,_),(6,_),(7,_),(10,_)] [(1,_)] (fun j=>[(11,.d (dI j))]) (fun j=>[]) (fun j=>j≤i∧∀ q,q<j→h.TiedAt i q) (fun j=>i-j) 0 (.cons (knP rfl) (.cons (knD rfl) (.cons (knD rfl) (.cons (knD rfl) (.cons (knD rfl) .nil))))) (.cons (owB rfl) .nil) ⟨⟨Nat.zero_le _,fun j hj=>absurd hj (Nat.not_lt_zero j)⟩,.rq1,.nil⟩ ?_
  rintro j ⟨h3,h4⟩
  refine AW.sg hE rfl (c_lss rfl rfl rfl (OL.nil (AW.seq (AW.cond rfl (fun h12=>?_) (fun h12=>?_)))))
  ·try simp only [dx9] at h12
   refine AW.skip (AW.seq (AW.block (AW.sg hE rfl (mvD rfl (asD rfl (OL.nil (AW.seq ?_)))))))
   have t2:=f.erow_le i (by omega)
   have t2j:=f.erow_le j (by omega)
   refine AW.dg 1 [0,1,2,3,4,5,6,7,8,9,10,11,12,13,14,15,16,17,18,19,20,21,22,23,24,25,26,27,28,29,30,31,32,33,34,35,36,37,38,39,40] order_free hE rfl (by kernel_rfl) (OI.of_OL (os:=[_,_,_,_,_,_,_,_,_,_,_,_,_,_,_,_,_,_,_,_,_,_,_,_,_,_,_,_,_,_,_,_,_,_,_,_,_,_,_,_,_]) rfl ?_)
   refine faP fd.Hidden_7 rfl rfl (ldPC ce.bools rfl rfl rfl (mvD rfl (ixLn sl.bools false rfl rfl (by omega) rfl rfl (ldRC ce.bool rfl (nt rfl (mvD rfl (OL.split 20 rfl (fun a1=>?_) (fun a1=>?_))))))))
   ·have a1:h.silent.getD i false=false:=by simpa using a1
    refine OL.yes rfl (faP fd.Hidden_7 rfl rfl (OL.yes rfl (ldPC ce.bools rfl rfl rfl (OL.yes rfl (mvD rfl (OL.yes rfl (ixLn sl.bools false rfl rfl (by omega) rfl rfl ?_)))))))
    refine OL.yes rfl (ldRC ce.bool rfl (OL.yes rfl (nt rfl (pkT rfl rfl (mvD rfl (OL.split 28 rfl (fun a2=>?_) (fun a2=>?_)))))))
    ·have a2:h.silent.getD j false=false:=by simpa using a2
     refine OL.yes rfl (faP fd.Hidden_8 rfl rfl (OL.yes rfl (ldPC ce.ints rfl rfl rfl (OL.yes rfl (mvD rfl (OL.yes rfl (ixLn sl.ints 0 rfl rfl (by omega) rfl rfl ?_)))))))
     refine OL.yes rfl (ldRC ce.int rfl (OL.yes rfl (faP fd.Hidden_8 rfl rfl (OL.yes rfl (ldPC ce.ints rfl rfl rfl (OL.yes rfl (mvD rfl ?_)))))))
     refine OL.yes rfl (ixLn sl.ints 0 rfl rfl (by omega) rfl rfl (OL.yes rfl (ldRC ce.int rfl (OL.yes rfl (c_eql rfl rfl rfl (pkT rfl rfl (mvD rfl ?_)))))))
     refine OL.split 41 rfl (fun a3=>?_) (fun a3=>?_)
     ·have a3:h.ties.getD i 0=h.ties.getD j 0:=dt9 a3
      refine OL.yes rfl (faP fd.Hidden_6 rfl rfl (OL.yes rfl (ldPC ce.Ratss rfl rfl rfl (OL.yes rfl (mvD rfl (OL.yes rfl (ixLn sl.Ratss [] rfl rfl (by omega) rfl rfl ?_)))))))
      refine OL.yes rfl (ldRC ce.Rats rfl (OL.yes rfl (faP fd.Hidden_6 rfl rfl (OL.yes rfl (ldPC ce.Ratss rfl rfl rfl (OL.yes rfl (mvD rfl ?_)))))))
      refine OL.yes rfl (ixLn sl.Ratss [] rfl rfl (by omega) rfl rfl (OL.yes rfl (ldRC ce.Rats rfl (OL.yes rfl (clv rfl vL (hmm_equal (f.zM i) (f.zM j) (by omega) (by omega) (by omega)) (OL.yes rfl (nt rfl ?_)))))))
      refine pkT rfl rfl (OL.nil (AW.cond rfl (fun a4=>?_) (fun a4=>?_)))
      ·have a4:¬ (h.emit.getD i []=h.emit.getD j []):=by simpa using a4
       exact AW.sg hE rfl (asD rfl (OL.nil (AW.ret (RetQ.r ⟨_,.tmp rfl .nil,.le (VLe.bool (tieB_f fun t=>a4 (t i j (by omega) (by omega) a1 a2 a3)))⟩))))
      ·have a4:h.emit.getD i []=h.emit.getD j []:=by simpa using a4
       exact AW.skip (AW.rg hE rfl (add_i64 rfl rfl (by omega) (mvD rfl (OL.nil (AW.again (x:=j) (j+1) (by omega) ⟨⟨by omega,upto_stp h4 fun _ _ _=>a4⟩,Knows.app .rq5 .rq1,Owns.app (.cons rfl .nil) (.nil)⟩)))))
     ·have a3:¬ h.ties.getD i 0=h.ties.getD j 0:=df9 a3
      refine OL.nd rfl (OL.nd rfl (OL.nd rfl (OL.nd rfl (OL.nd rfl (OL.nd rfl (OL.nd rfl (OL.nd rfl ?_)))))))
      refine OL.nd rfl (OL.nd rfl (OL.nd rfl (OL.nd rfl (pkF rfl rfl (OL.nil (cnF rfl ?_))))))
      refine AW.skip (AW.rg hE rfl (add_i64 rfl rfl (by omega) (mvD rfl (OL.nil ?_))))
      exact AW.again (x:=j) (j+1) (by omega) ⟨⟨by omega,upto_stp h4 fun _ _ x=>absurd x a3⟩,Knows.app .rq5 .rq1,Owns.app (.cons rfl .nil) (.nil)⟩
    ·have a2:h.silent.getD j false=true:=by simpa using a2
     refine OL.nd rfl (OL.nd rfl (OL.nd rfl (OL.nd rfl (OL.nd rfl (OL.nd rfl (OL.nd rfl (OL.nd rfl ?_)))))))
     refine OL.nd rfl (OL.nd rfl (OL.nd rfl (pkF rfl rfl (mvD rfl (OL.nd rfl (OL.nd rfl (OL.nd rfl ?_)))))))
     refine OL.nd rfl (OL.nd rfl (OL.nd rfl (OL.nd rfl (OL.nd rfl (OL.nd rfl (OL.nd rfl (OL.nd rfl ?_)))))))
     refine OL.nd rfl (pkF rfl rfl (OL.nil (cnF rfl ?_)))
     refine AW.skip (AW.rg hE rfl (add_i64 rfl rfl (by omega) (mvD rfl (OL.nil ?_))))
     exact AW.again (x:=j) (j+1) (by omega) ⟨⟨by omega,upto_stp h4 fun _ x _=>by rw [a2] at x;cases x⟩,Knows.app .rq5 .rq1,Owns.app (.cons rfl .nil) (.nil)⟩
   ·have a1:h.silent.getD i false=true:=by simpa using a1
    refine OL.nd rfl (OL.nd rfl (OL.nd rfl (OL.nd rfl (OL.nd rfl (OL.nd rfl (pkF rfl rfl (mvD rfl ?_)))))))
    refine OL.nd rfl (OL.nd rfl (OL.nd rfl (OL.nd rfl (OL.nd rfl (OL.nd rfl (OL.nd rfl (OL.nd rfl ?_)))))))
    refine OL.nd rfl (OL.nd rfl (OL.nd rfl (pkF rfl rfl (mvD rfl (OL.nd rfl (OL.nd rfl (OL.nd rfl ?_)))))))
    refine OL.nd rfl (OL.nd rfl (OL.nd rfl (OL.nd rfl (OL.nd rfl (OL.nd rfl (OL.nd rfl (OL.nd rfl ?_)))))))
    refine OL.nd rfl (pkF rfl rfl (OL.nil (cnF rfl ?_)))
    refine AW.skip (AW.rg hE rfl (add_i64 rfl rfl (by omega) (mvD rfl (OL.nil ?_))))
    exact AW.again (x:=j) (j+1) (by omega) ⟨⟨by omega,upto_stp h4 fun x _ _=>by rw [a1] at x;cases x⟩,Knows.app .rq5 .rq1,Owns.app (.cons rfl .nil) (.nil)⟩
  ·try simp only [dx9] at h12
   exact AW.exit (AW.rg hE rfl (add_i64 rfl rfl (by omega) (mvD rfl (OL.nil (AW.again (x:=i) (i+1) (by omega) ⟨⟨by omega,upto_stp h2 fun q hq=>h4 q (by omega)⟩,Knows.app .rq2 .rq1,Owns.app (.cons rfl .nil) (.nil)⟩)))))
 ·try simp only [dx9] at h8
  exact AW.exit (AW.sg hE rfl (asD rfl (OL.nil (AW.ret (RetQ.r ⟨_,.tmp rfl .nil,.le (VLe.bool (tieB_t fun i j hi hj=>h2 i (by omega) j hj))⟩)))))
end Go.Proofs.YteiohkpjgcioaaaGreatDoor

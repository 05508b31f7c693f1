/-
  Walks of package hmm, part 2: a valid model without silent states (printed by mk2.py).
-/
import Derived.Test.YteiohkpjgcioaaaGreatDoorKHmmA
set_option linter.unusedVariables false
set_option linter.unusedSimpArgs false
namespace Go.Proofs.YteiohkpjgcioaaaGreatDoor
open Go Go.AL
theorem hmm_formed_ok {h:HM}{B:Nat}(g:h.GoodW B):FSpec P F.hmm_formed [vHM h] (.d (dB true)):=by
 have f:=g.form
 have e1:=f.ini
 have e2:=f.trans
 have e3:=f.stop
 have e4:=f.emit
 have e5:=f.ties
 have e6:=f.sill
 have s0:=f.sym0
 have s1:=f.sym1
 have n0:=f.st0
 have n1:=f.st1
 have b1:=f.b1
 have bB:=f.bB
 have pE:=g.pE
 have pI:=g.pI
 have pS:=g.pS
 have zE:=f.zE
 have zI:=f.zI
 have zS0:=f.zS
 refine FSpec.intro fn.hmm_formed (by rfl) (by rfl) (nb9 (by rfl)) fun E hE=>(AW.sg hE rfl (bxA rfl rfl fun b1=>(asD rfl (OL.nil (AW.sg hE rfl (faP fd.Hidden_1 rfl rfl (ldPC ce.int rfl rfl rfl ?_)))))))
 refine asD rfl (OL.nil (AW.seq (AW.sg hE rfl (faP fd.Hidden_2 rfl rfl (ldPA ag.Rat rfl rfl (vs:=[_,_,_]) rfl (nb9 rfl) (clv rfl .rq1 (hmm_share_ok (by assumption) (by omega)) (nt rfl ?_)))))))
 refine mvD rfl (OL.yes rfl (faP fd.Hidden_3 rfl rfl (OL.yes rfl (ldPC ce.Rats rfl rfl rfl (OL.yes rfl (lnL sl.Rats rfl rfl (OL.yes rfl ?_)))))))
 refine mvD rfl (OL.yes rfl (c_neq rfl rfl (c:=false) (by exact cne_f (by omega)) (pkF rfl rfl (mvD rfl (OL.yes rfl (faP fd.Hidden_5 rfl rfl (OL.yes rfl ?_)))))))
 refine ldPC ce.Rats rfl rfl rfl (OL.yes rfl (lnL sl.Rats rfl rfl (OL.yes rfl (mvD rfl (OL.yes rfl (c_neq rfl rfl (c:=false) (by exact cne_f (by omega)) (pkF rfl rfl ?_)))))))
 refine mvD rfl (OL.yes rfl (faP fd.Hidden_7 rfl rfl (OL.yes rfl (ldPC ce.bools rfl rfl rfl (OL.yes rfl (lnL sl.bools rfl rfl (OL.yes rfl ?_)))))))
 refine mvD rfl (OL.yes rfl (c_neq rfl rfl (c:=false) (by exact cne_f (by omega)) (pkF rfl rfl (mvD rfl (OL.yes rfl (faP fd.Hidden_8 rfl rfl (OL.yes rfl ?_)))))))
 refine ldPC ce.ints rfl rfl rfl (OL.yes rfl (lnL sl.ints rfl rfl (OL.yes rfl (mvD rfl (OL.yes rfl (c_neq rfl rfl (c:=false) (by exact cne_f (by omega)) (pkF rfl rfl ?_)))))))
 refine mvD rfl (OL.yes rfl (faP fd.Hidden_4 rfl rfl (OL.yes rfl (ldPC ce.Ratss rfl rfl rfl (OL.yes rfl (lnL sl.Ratss rfl rfl (OL.yes rfl ?_)))))))
 refine mvD rfl (OL.yes rfl (c_neq rfl rfl (c:=false) (by exact cne_f (by omega)) (pkF rfl rfl (mvD rfl (OL.yes rfl (faP fd.Hidden_6 rfl rfl (OL.yes rfl ?_)))))))
 refine ldPC ce.Ratss rfl rfl rfl (OL.yes rfl (lnL sl.Ratss rfl rfl (OL.yes rfl (mvD rfl (OL.yes rfl (c_neq rfl rfl (c:=false) (by exact cne_f (by omega)) (pkF rfl rfl ?_)))))))
 refine mvD rfl (OL.yes rfl (faP fd.Hidden_3 rfl rfl (OL.yes rfl (ldPC ce.Rats rfl rfl rfl (OL.yes rfl (clv rfl .rq1 (hmm_shares_ok (by assumption) (by assumption) (by omega)) (OL.yes rfl ?_)))))))
 refine nt rfl (pkF rfl rfl (mvD rfl (OL.yes rfl (faP fd.Hidden_5 rfl rfl (OL.yes rfl (ldPC ce.Rats rfl rfl rfl (OL.yes rfl ?_)))))))
 refine clv rfl .rq1 (hmm_shares_ok (by assumption) (by assumption) (by omega)) (OL.yes rfl (nt rfl (pkF rfl rfl (OL.nil (cnF rfl ?_)))))
 refine AW.skip (AW.seq (AW.sg hE rfl (mvD rfl (mvD rfl (OL.nil (AW.block ?_))))))
 refine AW.whileK (α:=Nat) [(1,_),(3,_),(66,_)] [(1,_)] (fun i=>[(67,.d (dI i))]) (fun i=>[]) (fun i=>i≤h.st) (fun i=>h.st-i) 0 (.cons (knP rfl) (.cons (knD rfl) (.cons (knD rfl) .nil))) (.cons (owB rfl) .nil) ⟨Nat.zero_le _,.rq1,.nil⟩ ?_
 intro i h1
 refine AW.sg hE rfl (c_lss rfl rfl rfl (OL.nil (AW.seq (AW.cond rfl (fun h68=>?_) (fun h68=>?_)))))
 ·try simp only [dx9] at h68
  refine AW.skip (AW.seq (AW.block (AW.sg hE rfl (mvD rfl (asD rfl (OL.nil (AW.sg hE rfl ?_)))))))
  refine faP fd.Hidden_0 rfl rfl (ldPC ce.int rfl rfl rfl (asD rfl (OL.nil (AW.seq (AW.sg hE rfl (faP fd.Hidden_7 rfl rfl (ldPC ce.bools rfl rfl rfl ?_)))))))
  refine mvD rfl (ixLn sl.bools false rfl rfl (by omega) rfl rfl (ldRC ce.bool rfl ?_))
  rw [f.sil i]
  refine OL.nil (cnF rfl ?_)
  refine AW.skip (AW.seq ?_)
  have t1:=f.trow i (by omega)
  have t2:=f.erow i (by omega)
  have t3:=f.tie i (by omega)
  have pT:=g.pT i
  have pM:=g.pM i
  have zT:=f.zT i
  have zM:=f.zM i
  have zS:=f.zS.get f.b1 i
  refine AW.rg hE rfl (faP fd.Hidden_4 rfl rfl (ldPC ce.Ratss rfl rfl rfl (mvD rfl (ixLn sl.Ratss [] rfl rfl (by omega) rfl rfl (ldRC ce.Rats rfl (lnL sl.Rats rfl rfl (mvD rfl ?_)))))))
  refine c_neq rfl rfl (c:=false) (by exact cne_f (by omega)) (mvD rfl (OL.yes rfl (faP fd.Hidden_6 rfl rfl (OL.yes rfl (ldPC ce.Ratss rfl rfl rfl (OL.yes rfl (mvD rfl ?_)))))))
  refine OL.yes rfl (ixLn sl.Ratss [] rfl rfl (by omega) rfl rfl (OL.yes rfl (ldRC ce.Rats rfl (OL.yes rfl (lnL sl.Rats rfl rfl (OL.yes rfl (mvD rfl ?_)))))))
  refine OL.yes rfl (c_neq rfl rfl (c:=false) (by exact cne_f (by omega)) (pkF rfl rfl (mvD rfl (OL.yes rfl (faP fd.Hidden_4 rfl rfl (OL.yes rfl (ldPC ce.Ratss rfl rfl rfl ?_)))))))
  refine OL.yes rfl (mvD rfl (OL.yes rfl (ixLn sl.Ratss [] rfl rfl (by omega) rfl rfl (OL.yes rfl (ldRC ce.Rats rfl (OL.yes rfl (clv rfl .rq1 (hmm_shares_ok (by assumption) (by assumption) (by omega)) ?_)))))))
  refine OL.yes rfl (nt rfl (pkF rfl rfl (mvD rfl (OL.yes rfl (faP fd.Hidden_6 rfl rfl (OL.yes rfl (ldPC ce.Ratss rfl rfl rfl ?_)))))))
  refine OL.yes rfl (mvD rfl (OL.yes rfl (ixLn sl.Ratss [] rfl rfl (by omega) rfl rfl (OL.yes rfl (ldRC ce.Rats rfl (OL.yes rfl (clv rfl .rq1 (hmm_shares_ok (by assumption) (by assumption) (by omega)) ?_)))))))
  refine OL.yes rfl (nt rfl (pkF rfl rfl (mvD rfl (OL.yes rfl (faP fd.Hidden_8 rfl rfl (OL.yes rfl (ldPC ce.ints rfl rfl rfl ?_)))))))
  refine OL.yes rfl (mvD rfl (OL.yes rfl (ixLn sl.ints 0 rfl rfl (by omega) rfl rfl (OL.yes rfl (ldRC ce.int rfl (OL.yes rfl (c_lss rfl rfl (c:=false) (by exact decide_eq_false (by omega)) ?_)))))))
  refine pkF rfl rfl (mvD rfl (OL.yes rfl (faP fd.Hidden_8 rfl rfl (OL.yes rfl (ldPC ce.ints rfl rfl rfl (OL.yes rfl (mvD rfl ?_)))))))
  refine OL.yes rfl (ixLn sl.ints 0 rfl rfl (by omega) rfl rfl (OL.yes rfl (ldRC ce.int rfl (OL.yes rfl (mvD rfl (OL.yes rfl (c_geq rfl rfl (c:=false) (by exact decide_eq_false (by omega)) ?_)))))))
  refine pkF rfl rfl (OL.nil (cnF rfl ?_))
  exact AW.skip (AW.rg hE rfl (add_i64 rfl rfl (by omega) (mvD rfl (OL.nil (AW.again (x:=i) (i+1) (by omega) ⟨by omega,Knows.app .rq3 .rq1,Owns.app (.cons rfl .nil) (.nil)⟩)))))
 ·try simp only [dx9] at h68
  exact AW.exit (AW.sg hE rfl (asD rfl (OL.nil (AW.ret (RetQ.r ⟨_,.tmp rfl .nil,.le vR⟩)))))
theorem hmm_sums_ok {h:HM}{B:Nat}(g:h.GoodW B):FSpec P F.hmm_sums [vHM h] (.d (dB true)):=by
 have f:=g.form
 have e1:=f.ini
 have e2:=f.trans
 have e3:=f.stop
 have e4:=f.emit
 have e5:=f.ties
 have e6:=f.sill
 have s0:=f.sym0
 have s1:=f.sym1
 have n0:=f.st0
 have n1:=f.st1
 have b1:=f.b1
 have bB:=f.bB
 have zI:=f.zI
 have zE:=f.zE
 refine FSpec.intro fn.hmm_sums (by rfl) (by rfl) (nb9 (by rfl)) fun E hE=>(AW.sg hE rfl (bxA rfl rfl fun b1=>(asD rfl (OL.nil (AW.seq (AW.sg hE rfl (faP fd.Hidden_3 rfl rfl ?_)))))))
 refine ldPC ce.Rats rfl rfl rfl (faP fd.Hidden_2 rfl rfl (ldPA ag.Rat rfl rfl (vs:=[_,_,_]) rfl (nb9 rfl) (lt1 (y:=dQ _) sl.Rats vd_q rfl (by decide) (clv rfl .rq2 (hmm_whole (B:=B) (l:=h.ini) (m:=[h.empty]) zI (Small.one zE) ⟨by omega,by simp;omega⟩) ?_))))
 rw [decide_eq_true g.sI]
 refine nt rfl (OL.nil (cnF rfl ?_))
 refine AW.skip (AW.seq (AW.sg hE rfl (faP fd.Hidden_1 rfl rfl (ldPC ce.int rfl rfl rfl (mvD rfl (OL.nil (AW.block ?_)))))))
 refine AW.whileK (α:=Nat) [(1,_),(12,_)] [(1,_)] (fun i=>[(13,.d (dI i))]) (fun i=>[]) (fun i=>i≤h.st) (fun i=>h.st-i) 0 (.cons (knP rfl) (.cons (knD rfl) .nil)) (.cons (owB rfl) .nil) ⟨Nat.zero_le _,.rq1,.nil⟩ ?_
 intro i h1
 refine AW.sg hE rfl (c_lss rfl rfl rfl (OL.nil (AW.seq (AW.cond rfl (fun h14=>?_) (fun h14=>?_)))))
 ·try simp only [dx9] at h14
  refine AW.skip (AW.seq (AW.block (AW.sg hE rfl (mvD rfl (asD rfl (OL.nil (AW.seq ?_)))))))
  have t1:=f.trow i (by omega)
  have t2:=f.erow i (by omega)
  have t3:=f.tie i (by omega)
  have pT:=g.pT i
  have pM:=g.pM i
  have zT:=f.zT i
  have zM:=f.zM i
  have zS:=f.zS.get f.b1 i
  refine AW.dg 1 [0,1,2,3,4,5,6,7,8,9,10,11,12,13,14,15,16,17,18,19,20,21,22,23,24,25,26,27,28,29] order_free hE rfl (by kernel_rfl) (OI.of_OL (os:=[_,_,_,_,_,_,_,_,_,_,_,_,_,_,_,_,_,_,_,_,_,_,_,_,_,_,_,_,_,_]) rfl ?_)
  refine faP fd.Hidden_4 rfl rfl (ldPC ce.Ratss rfl rfl rfl (mvD rfl (ixLn sl.Ratss [] rfl rfl (by omega) rfl rfl (ldRC ce.Rats rfl (faP fd.Hidden_5 rfl rfl (ldPC ce.Rats rfl rfl rfl (mvD rfl ?_)))))))
  refine ixLn sl.Rats 0 rfl rfl (by omega) rfl rfl (ldRA ag.Rat rfl (vs:=[_,_,_]) rfl (nb9 rfl) (lt1 (y:=dQ _) sl.Rats vd_q rfl (by decide) (clv rfl .rq2 (hmm_whole (B:=B) (l:=h.trans.getD i []) (m:=[h.stop.getD i 0]) zT (Small.one zS) ⟨by omega,by simp only [ls9];omega⟩) ?_)))
  rw [decide_eq_true (g.sT i (by omega))]
  refine nt rfl (mvD rfl (OL.yes rfl (faP fd.Hidden_7 rfl rfl (OL.yes rfl (ldPC ce.bools rfl rfl rfl (OL.yes rfl (mvD rfl ?_)))))))
  refine OL.yes rfl (ixLn sl.bools false rfl rfl (by omega) rfl rfl (OL.yes rfl (ldRC ce.bool rfl ?_)))
  rw [f.sil i]
  refine OL.yes rfl (nt rfl (OL.yes rfl (mvD rfl (OL.yes rfl (faP fd.Hidden_6 rfl rfl (OL.yes rfl (ldPC ce.Ratss rfl rfl rfl ?_)))))))
  refine OL.yes rfl (mvD rfl (OL.yes rfl (ixLn sl.Ratss [] rfl rfl (by omega) rfl rfl (OL.yes rfl (ldRC ce.Rats rfl (OL.yes rfl (clv rfl (.cons vR (.cons VLe.mt .nil)) (hmm_whole (B:=B) (l:=h.emit.getD i []) (m:=[]) zM Small.nil ⟨by omega,by simp only [List.length_nil];omega⟩) ?_)))))))
  rw [decide_eq_true (show sumQ (h.emit.getD i []++[])=1 by rw [List.append_nil];exact g.sM i (by omega))]
  refine OL.yes rfl (nt rfl (OL.yes rfl (pkT rfl rfl (pkF rfl rfl (OL.nil (cnF rfl ?_))))))
  exact AW.skip (AW.rg hE rfl (add_i64 rfl rfl (by omega) (mvD rfl (OL.nil (AW.again (x:=i) (i+1) (by omega) ⟨by omega,Knows.app .rq2 .rq1,Owns.app (.cons rfl .nil) (.nil)⟩)))))
 ·try simp only [dx9] at h14
  exact AW.exit (AW.sg hE rfl (asD rfl (OL.nil (AW.ret (RetQ.r ⟨_,.tmp rfl .nil,.le vR⟩)))))
theorem reverse_nil  : FSpec P F.slices_Reverse_ints_int [.mt] (.tup []):=by
 refine FSpec.intro fn.slices_Reverse_ints_int (by rfl) (by rfl) (nb9 (by rfl)) fun E hE=>(AW.sg hE rfl (mvM rfl (lnM sl.ints rfl rfl (sub_i64 rfl rfl (by omega) (asD rfl (asD rfl (OL.nil ?_)))))))
 refine AW.block (AW.whileK (α:=Unit) [(0,_)] [] (fun _u=>[(2,.d (dI 0)),(3,.d (dI (-1)))]) (fun _u=>[]) (fun _u=>True) (fun _u=>0) () (.cons (knM rfl) .nil) .nil ⟨trivial,.rq2,.nil⟩ ?_)
 rintro ⟨⟩ -
 refine AW.seq (AW.sg hE rfl (mvD rfl (mvD rfl (c_lss rfl rfl rfl (OL.nil (AW.cond rfl (fun hno=>absurd hno (by simp)) (fun _=>?_)))))))
 exact AW.exit (RetQ.n ⟨[],.nil,[],.nil,rfl⟩)
theorem hmm_order_1 {h:HM}{B:Nat}(g:h.GoodW B){i b1 b5 b6 b4:Nat}(hi:i<h.st):FSpecM P F.hmm_order_1 [.d (dI i),.ptr 1 b1 0,.ptr 5 b5 0,.ptr 6 b6 0,.ptr 4 b4 0] (mem1 1 (.box b1 T.Hidden (cellsHM h))) (.d (dB true)) (mem1 1 (.box b1 T.Hidden (cellsHM h))):=by
 have f:=g.form
 have e1:=f.ini
 have e2:=f.trans
 have e3:=f.stop
 have e4:=f.emit
 have e5:=f.ties
 have e6:=f.sill
 have s0:=f.sym0
 have s1:=f.sym1
 have n0:=f.st0
 have n1:=f.st1
 have bB:=f.bB
 refine FSpecM.intro fn.hmm_order_1 (by rfl) (by rfl) (nb9 (by rfl)) fun E hE=>(AW.sg hE rfl (asD rfl (OL.nil (AW.seq (AW.sg hE rfl (faP fd.Hidden_7 rfl rfl (ldPC ce.bools rfl rfl rfl ?_)))))))
 refine mvD rfl (ixLn sl.bools false rfl rfl (by omega) rfl rfl (ldRC ce.bool rfl ?_))
 rw [f.sil i]
 refine nt rfl (mvD rfl (OL.nd rfl (OL.nd rfl (OL.nd rfl (OL.nd rfl (OL.nd rfl (pkT rfl rfl ?_)))))))
 refine OL.nil (cnT rfl ?_)
 refine AW.sg hE rfl (faP fd.Hidden_7 rfl rfl (ldPC ce.bools rfl rfl rfl (mvD rfl (ixLn sl.bools false rfl rfl (by omega) rfl rfl (ldRC ce.bool rfl ?_)))))
 rw [f.sil i]
 refine nt rfl (mvD rfl (OL.nd rfl (OL.nd rfl (OL.nd rfl (OL.nd rfl (OL.nd rfl (pkT rfl rfl ?_)))))))
 exact asD rfl (OL.nil (AW.ret ⟨⟨_,.tmp rfl .nil,.le vR⟩,fun id blk hk=>hk⟩))
theorem hmm_order_ok {h:HM}{B:Nat}(g:h.GoodW B):FSpec P F.hmm_order [vHM h] (.tup [.mt,.d (dB true)]):=by
 have f:=g.form
 have e1:=f.ini
 have e2:=f.trans
 have e3:=f.stop
 have e4:=f.emit
 have e5:=f.ties
 have e6:=f.sill
 have s0:=f.sym0
 have s1:=f.sym1
 have n0:=f.st0
 have n1:=f.st1
 have hb1:=f.b1
 have bB:=f.bB
 refine FSpec.intro fn.hmm_order (by rfl) (by rfl) (nb9 (by rfl)) fun E hE=>(AW.sg hE rfl (bxA rfl rfl fun b1=>(asM rfl (asD rfl (OL.nil (AW.sg hE rfl (al z.ints rfl fun b4=>?_)))))))
 refine OL.nil (AW.sg hE rfl (faP fd.Hidden_1 rfl rfl (ldPC ce.int rfl rfl rfl (mkD (z:=dI 0) sl.ints z.int (.cons (VC.d _) .nil) rfl rfl (by omega) (by omega) (al z.ints rfl fun b5=>(sto sz.ints rfl rfl rfl rfl rfl (nb9 rfl) (cells2:=[_]) rfl (OL.nil ?_)))))))
 refine AW.sg hE rfl (al z.fn110 rfl fun b6=>(OL.nil (AW.sg hE rfl (mkF (vs:=[_,_,_,_]) rfl (sto sz.fn110 rfl rfl rfl rfl rfl (nb9 rfl) (cells2:=[_]) rfl (OL.nil (AW.seq ?_)))))))
 refine AW.sg hE rfl (faP fd.Hidden_1 rfl rfl (ldPC ce.int rfl rfl rfl (mvD rfl (OL.nil (AW.block ?_)))))
 refine AW.whileK (α:=Nat) [(1,_),(4,_),(5,_),(6,_),(13,_)] [(1,_),(4,_),(5,_),(6,_)] (fun i=>[(14,.d (dI i))]) (fun i=>[]) (fun i=>i≤h.st) (fun i=>h.st-i) 0 (.cons (knP rfl) (.cons (knP rfl) (.cons (knP rfl) (.cons (knP rfl) (.cons (knD rfl) .nil))))) (.cons (owB rfl) (.cons (owB rfl) (.cons (owB rfl) (.cons (owB rfl) .nil)))) ⟨Nat.zero_le _,.rq1,.nil⟩ ?_
 intro i h1
 refine AW.sg hE rfl (c_lss rfl rfl rfl (OL.nil (AW.seq (AW.cond rfl (fun h15=>?_) (fun h15=>?_)))))
 ·try simp only [dx9] at h15
  refine AW.skip (AW.seq (AW.block (AW.sg hE rfl (mvD rfl (asD rfl (OL.nil (AW.sg hE rfl ?_)))))))
  refine ldPC ce.fn110 rfl rfl rfl (mvD rfl (OL.callM (v:=.d (dB true)) (.mk (args':=[.d (dI i),.ptr 1 b1 0,.ptr 5 b5 0,.ptr 6 b6 0,.ptr 4 b4 0]) rfl vL (mem1_keep (id:=1) (blk:=.box b1 T.Hidden (cellsHM h)) rfl) (fun id=>Iff.rfl) (hmm_order_1 g (by omega))) (nt rfl (OL.nil (cnF rfl ?_)))))
  refine AW.skip (AW.rg hE rfl (add_i64 rfl rfl (by omega) (mvD rfl (OL.nil ?_))))
  exact AW.again (x:=i) (i+1) (by omega) ⟨by omega,Knows.app .rq5 .rq1,Owns.app (.cons rfl (.cons rfl (.cons rfl (.cons rfl .nil)))) (.nil)⟩
 ·try simp only [dx9] at h15
  refine AW.exit (AW.sg hE rfl (ldPC ce.ints rfl rfl rfl (clv rfl .rq1 reverse_nil (OL.nil (AW.sg hE rfl (ldPC ce.ints rfl rfl rfl (asM rfl ?_)))))))
  exact asD rfl (OL.nil (AW.ret (RetQ.r ⟨_,.tmp rfl (.tmp rfl .nil),_,.cons (.le vR) (.cons (.le vR) .nil),rfl⟩)))
theorem hmm_equal_1 {x y:Rat}(hx:sz x≤68719476736)(hy:sz y≤68719476736):FSpec P F.hmm_equal_1 [vQ x,vQ y] (.d (dB (decide (x=y)))):=by
 refine FSpec.intro fn.hmm_equal_1 (by rfl) (by rfl) (nb9 (by rfl)) fun E hE=>(AW.sg hE rfl (bxA rfl rfl fun b2=>(bxA rfl rfl fun b3=>(asD rfl (OL.nil (AW.sg hE rfl (ldPA ag.Rat rfl rfl (vs:=[_,_,_]) rfl (nb9 rfl) ?_)))))))
 exact ldPA ag.Rat rfl rfl (vs:=[_,_,_]) rfl (nb9 rfl) (clv rfl .rq2 (rational_CompareQ (by assumption) (by assumption)) (c_eql rfl rfl rfl (asD rfl (OL.nil (AW.ret (RetQ.r ⟨_,.tmp rfl .nil,.le (VLe.bool (decide_eq_decide.2 cmpQ_eq))⟩))))))
theorem equalFunc_Rats {l m:List Rat}{f:Nat}{p:Rat→Rat→Bool}(hf:∀ x y,x ∈ l→y ∈ m→FSpec P f [vQ x,vQ y] (.d (dB (p x y))))(hp:∀ x y,p x y=true ↔ x=y)(nl:l.length≤1099511627776)(nm:m.length≤1099511627776):FSpec P F.slices_EqualFunc_Rats_Rats_Rat_Rat [.d (dQs l),.d (dQs m),.fn f []] (.d (dB (decide (l=m)))):=by
 refine FSpec.intro fn.slices_EqualFunc_Rats_Rats_Rat_Rat (by rfl) (by rfl) (nb9 (by rfl)) fun E hE=>(AW.sg hE rfl (asD rfl (OL.nil (AW.seq (AW.sg hE rfl (mvD rfl (lnL sl.Rats rfl rfl ?_)))))))
 refine mvD rfl (lnL sl.Rats rfl rfl (c_neq rfl rfl rfl (OL.nil (AW.cond rfl (fun h14=>?_) (fun h14=>?_)))))
 ·have hl:l.length≠m.length:=fun e=>by rw [e] at h14;simp at h14
  exact AW.sg hE rfl (asD rfl (OL.nil (AW.ret (RetQ.r ⟨_,.tmp rfl .nil,.le (VLe.bool ((decide_eq_false fun e=>hl (by rw [e])).symm))⟩))))
 ·have hl:l.length=m.length:=by simp at h14;omega
  refine AW.skip (AW.seq (AW.sg hE rfl (mvD rfl (lnL sl.Rats rfl rfl (mvD rfl (OL.nil (AW.block ?_)))))))
  refine AW.whileK (α:=Nat) [(1,_),(2,_),(15,_),(16,_)] [] (fun i=>[(17,.d (dI i))]) (fun i=>[]) (fun i=>i≤l.length∧∀ j,j<i→l.getD j 0=m.getD j 0) (fun i=>l.length-i) 0 (.cons (knD rfl) (.cons (knF rfl) (.cons (knD rfl) (.cons (knD rfl) .nil)))) .nil ⟨⟨Nat.zero_le _,fun j hj=>by omega⟩,.rq1,.nil⟩ ?_
  rintro i ⟨h1,h2⟩
  refine AW.sg hE rfl (c_lss rfl rfl rfl (OL.nil (AW.seq (AW.cond rfl (fun h18=>?_) (fun h18=>?_)))))
  ·try simp only [dx9] at h18
   refine AW.skip (AW.seq (AW.block (AW.sg hE rfl (mvD rfl (ixLn sl.Rats 0 rfl rfl (by omega) rfl rfl (ldRA ag.Rat rfl (vs:=[_,_,_]) rfl (nb9 rfl) (al z.Rat rfl fun b8=>?_)))))))
   refine asD rfl (sto sz.Rat rfl rfl rfl rfl rfl (nb9 rfl) (cells2:=[_,_,_]) rfl (OL.nil (AW.sg hE rfl (mvD rfl (mvD rfl (ixLn sl.Rats 0 rfl rfl (by omega) rfl rfl (ldRA ag.Rat rfl (vs:=[_,_,_]) rfl (nb9 rfl) ?_)))))))
   refine al z.Rat rfl fun b9=>(sto sz.Rat rfl rfl rfl rfl rfl (nb9 rfl) (cells2:=[_,_,_]) rfl (OL.nil (AW.sg hE rfl (mvF rfl (ldPA ag.Rat rfl rfl (vs:=[_,_,_]) rfl (nb9 rfl) (ldPA ag.Rat rfl rfl (vs:=[_,_,_]) rfl (nb9 rfl) (clv rfl .rq2 (hf (l.getD i 0) (m.getD i 0) (getD_mem (by omega) _) (getD_mem (by omega) _)) ?_)))))))
   refine nt rfl (OL.nil (AW.cond rfl (fun h30=>?_) (fun h30=>?_)))
   ·have h30:=h30
    exact AW.sg hE rfl (asD rfl (OL.nil (AW.ret (RetQ.r ⟨_,.tmp rfl .nil,.le (VLe.bool ((decide_eq_false fun e=>by rw [e,(hp _ _).2 rfl] at h30;cases h30).symm))⟩))))
   ·have h30:=h30
    refine AW.skip (AW.rg hE rfl (add_i64 rfl rfl (by omega) (mvD rfl (OL.nil ?_))))
    exact AW.again (x:=i) (i+1) (by omega) ⟨⟨by omega,fun j hj=>by rcases Nat.lt_or_ge j i with h|h;exact h2 j h;obtain rfl:j=i:=(by omega);exact (hp _ _).1 (by simpa using h30)⟩,Knows.app .rq4 .rq1,.nil⟩
  ·try simp only [dx9] at h18
   exact AW.exit (AW.sg hE rfl (asD rfl (OL.nil (AW.ret (RetQ.r ⟨_,.tmp rfl .nil,.le (VLe.bool ((decide_eq_true (list_eq_getD hl 0 fun j hj=>h2 j (by omega))).symm))⟩)))))
theorem hmm_equal {l m:List Rat}{B:Nat}(hl:Small B l)(hm:Small B m)(hB:B≤1048576)(nl:l.length≤1099511627776)(nm:m.length≤1099511627776):FSpec P F.hmm_equal [.d (dQs l),.d (dQs m)] (.d (dB (decide (l=m)))):=by
 refine FSpec.intro fn.hmm_equal (by rfl) (by rfl) (nb9 (by rfl)) fun E hE=>(AW.sg hE rfl (asD rfl (OL.nil (AW.sg hE rfl (mvD rfl (mvD rfl ?_))))))
 refine clv rfl .rq3 (equalFunc_Rats (f:=F.hmm_equal_1) (p:=fun x y=>decide (x=y)) (fun x y hx hy=>hmm_equal_1 (Nat.le_trans (hl x hx) (by omega)) (Nat.le_trans (hm y hy) (by omega))) (fun x y=>decide_eq_true_iff) nl nm) ?_
 exact asD rfl (OL.nil (AW.ret (RetQ.r ⟨_,.tmp rfl .nil,.le vR⟩)))
theorem hmm_tied_ok {h:HM}{B:Nat}(g:h.GoodW B):FSpec P F.hmm_tied [vHM h] (.d (dB true)):=by
 have f:=g.form
 have e1:=f.ini
 have e2:=f.trans
 have e3:=f.stop
 have e4:=f.emit
 have e5:=f.ties
 have e6:=f.sill
 have s0:=f.sym0
 have s1:=f.sym1
 have n0:=f.st0
 have n1:=f.st1
 have b1:=f.b1
 have bB:=f.bB
 refine FSpec.intro fn.hmm_tied (by rfl) (by rfl) (nb9 (by rfl)) fun E hE=>(AW.sg hE rfl (bxA rfl rfl fun b1=>(asD rfl (OL.nil (AW.seq (AW.sg hE rfl (faP fd.Hidden_1 rfl rfl ?_)))))))
 refine ldPC ce.int rfl rfl rfl (mvD rfl (OL.nil (AW.block (AW.whileK (α:=Nat) [(1,_),(6,_)] [(1,_)] (fun i=>[(7,.d (dI i))]) (fun i=>[]) (fun i=>i≤h.st) (fun i=>h.st-i) 0 (.cons (knP rfl) (.cons (knD rfl) .nil)) (.cons (owB rfl) .nil) ⟨Nat.zero_le _,.rq1,.nil⟩ ?_))))
 intro i h1
 refine AW.sg hE rfl (c_lss rfl rfl rfl (OL.nil (AW.seq (AW.cond rfl (fun h8=>?_) (fun h8=>?_)))))
 ·try simp only [dx9] at h8
  refine AW.skip (AW.seq (AW.block (AW.sg hE rfl (mvD rfl (asD rfl (OL.nil (AW.sg hE rfl ?_)))))))
  refine mvD rfl (mvD rfl (OL.nil (AW.block ?_)))
  refine AW.whileK (α:=Nat) [(1,_),(3,_),(6,_),(7,_),(10,_)] [(1,_)] (fun j=>[(11,.d (dI j))]) (fun j=>[]) (fun j=>j≤i) (fun j=>i-j) 0 (.cons (knP rfl) (.cons (knD rfl) (.cons (knD rfl) (.cons (knD rfl) (.cons (knD rfl) .nil))))) (.cons (owB rfl) .nil) ⟨Nat.zero_le _,.rq1,.nil⟩ ?_
  intro j h2
  refine AW.sg hE rfl (c_lss rfl rfl rfl (OL.nil (AW.seq (AW.cond rfl (fun h12=>?_) (fun h12=>?_)))))
  ·try simp only [dx9] at h12
   refine AW.skip (AW.seq (AW.block (AW.sg hE rfl (mvD rfl (asD rfl (OL.nil (AW.seq ?_)))))))
   have t1:=f.trow i (by omega)
   have t2:=f.erow i (by omega)
   have t2j:=f.erow j (by omega)
   have zM:=f.zM i
   have zMj:=f.zM j
   refine AW.dg 1 [0,1,2,3,4,5,6,7,8,9,10,11,12,13,14,15,16,17,18,19,20,21,22,23,24,25,26,27,28,29,30,31,32,33,34,35,36,37,38,39,40] order_free hE rfl (by kernel_rfl) (OI.of_OL (os:=[_,_,_,_,_,_,_,_,_,_,_,_,_,_,_,_,_,_,_,_,_,_,_,_,_,_,_,_,_,_,_,_,_,_,_,_,_,_,_,_,_]) rfl ?_)
   refine faP fd.Hidden_7 rfl rfl (ldPC ce.bools rfl rfl rfl (mvD rfl (ixLn sl.bools false rfl rfl (by omega) rfl rfl (ldRC ce.bool rfl ?_))))
   rw [f.sil i]
   refine nt rfl (mvD rfl (OL.yes rfl (faP fd.Hidden_7 rfl rfl (OL.yes rfl (ldPC ce.bools rfl rfl rfl (OL.yes rfl (mvD rfl ?_)))))))
   refine OL.yes rfl (ixLn sl.bools false rfl rfl (by omega) rfl rfl (OL.yes rfl (ldRC ce.bool rfl ?_)))
   rw [f.sil j]
   refine OL.yes rfl (nt rfl (pkT rfl rfl (mvD rfl (OL.yes rfl (faP fd.Hidden_8 rfl rfl (OL.yes rfl (ldPC ce.ints rfl rfl rfl ?_)))))))
   refine OL.yes rfl (mvD rfl (OL.yes rfl (ixLn sl.ints 0 rfl rfl (by omega) rfl rfl (OL.yes rfl (ldRC ce.int rfl (OL.yes rfl (faP fd.Hidden_8 rfl rfl ?_)))))))
   refine OL.yes rfl (ldPC ce.ints rfl rfl rfl (OL.yes rfl (mvD rfl (OL.yes rfl (ixLn sl.ints 0 rfl rfl (by omega) rfl rfl (OL.yes rfl (ldRC ce.int rfl ?_)))))))
   refine OL.yes rfl (c_eql rfl rfl rfl (pkT rfl rfl (mvD rfl (OL.split 41 rfl (fun g41=>?_) (fun g41=>?_)))))
   ·try simp only [dx9] at g41
    refine OL.yes rfl (faP fd.Hidden_6 rfl rfl (OL.yes rfl (ldPC ce.Ratss rfl rfl rfl (OL.yes rfl (mvD rfl (OL.yes rfl (ixLn sl.Ratss [] rfl rfl (by omega) rfl rfl ?_)))))))
    refine OL.yes rfl (ldRC ce.Rats rfl (OL.yes rfl (faP fd.Hidden_6 rfl rfl (OL.yes rfl (ldPC ce.Ratss rfl rfl rfl (OL.yes rfl (mvD rfl ?_)))))))
    refine OL.yes rfl (ixLn sl.Ratss [] rfl rfl (by omega) rfl rfl (OL.yes rfl (ldRC ce.Rats rfl (OL.yes rfl (clv rfl .rq2 (hmm_equal zM zMj (by omega) (by omega) (by omega)) ?_)))))
    rw [decide_eq_true (g.tied i j (by omega) (by omega) g41)]
    refine OL.yes rfl (nt rfl (pkT rfl rfl (OL.nil (cnF rfl ?_))))
    exact AW.skip (AW.rg hE rfl (add_i64 rfl rfl (by omega) (mvD rfl (OL.nil (AW.again (x:=j) (j+1) (by omega) ⟨by omega,Knows.app .rq5 .rq1,Owns.app (.cons rfl .nil) (.nil)⟩)))))
   ·try simp only [dx9] at g41
    refine OL.nd rfl (OL.nd rfl (OL.nd rfl (OL.nd rfl (OL.nd rfl (OL.nd rfl (OL.nd rfl (OL.nd rfl ?_)))))))
    refine OL.nd rfl (OL.nd rfl (OL.nd rfl (OL.nd rfl (pkF rfl rfl (OL.nil (cnF rfl ?_))))))
    exact AW.skip (AW.rg hE rfl (add_i64 rfl rfl (by omega) (mvD rfl (OL.nil (AW.again (x:=j) (j+1) (by omega) ⟨by omega,Knows.app .rq5 .rq1,Owns.app (.cons rfl .nil) (.nil)⟩)))))
  ·try simp only [dx9] at h12
   exact AW.exit (AW.rg hE rfl (add_i64 rfl rfl (by omega) (mvD rfl (OL.nil (AW.again (x:=i) (i+1) (by omega) ⟨by omega,Knows.app .rq2 .rq1,Owns.app (.cons rfl .nil) (.nil)⟩)))))
 ·try simp only [dx9] at h8
  exact AW.exit (AW.sg hE rfl (asD rfl (OL.nil (AW.ret (RetQ.r ⟨_,.tmp rfl .nil,.le vR⟩)))))
theorem hmm_Valid_okW {h:HM}{B:Nat}(g:h.GoodW B):FSpec P F.hmm_Valid [vHM h] (.d (dI 0)):=by
 have f:=g.form
 have e1:=f.ini
 have e2:=f.trans
 have e3:=f.stop
 have e4:=f.emit
 have e5:=f.ties
 have e6:=f.sill
 have s0:=f.sym0
 have s1:=f.sym1
 have n0:=f.st0
 have n1:=f.st1
 have b1:=f.b1
 have bB:=f.bB
 refine FSpec.intro fn.hmm_Valid (by rfl) (by rfl) (nb9 (by rfl)) fun E hE=>(AW.sg hE rfl (bxA rfl rfl fun b1=>(asD rfl (OL.nil (AW.seq (AW.sg hE rfl (faP fd.Hidden_0 rfl rfl ?_)))))))
 refine ldPC ce.int rfl rfl rfl (c_lss rfl rfl (c:=false) (by exact decide_eq_false (by omega)) (mvD rfl (OL.yes rfl (faP fd.Hidden_0 rfl rfl (OL.yes rfl (ldPC ce.int rfl rfl rfl (OL.yes rfl ?_)))))))
 refine c_gtr rfl rfl (c:=false) (by exact decide_eq_false (by omega)) (pkF rfl rfl (mvD rfl (OL.yes rfl (faP fd.Hidden_1 rfl rfl (OL.yes rfl (ldPC ce.int rfl rfl rfl (OL.yes rfl ?_)))))))
 refine c_lss rfl rfl (c:=false) (by exact decide_eq_false (by omega)) (pkF rfl rfl (mvD rfl (OL.yes rfl (faP fd.Hidden_1 rfl rfl (OL.yes rfl (ldPC ce.int rfl rfl rfl (OL.yes rfl ?_)))))))
 refine c_gtr rfl rfl (c:=false) (by exact decide_eq_false (by omega)) (pkF rfl rfl (OL.nil (cnF rfl ?_)))
 refine AW.skip (AW.seq (AW.sg hE rfl (ldPA ag.Hidden rfl rfl (vs:=[_,_,_,_,_,_,_,_,_,_,_]) rfl (nb9 rfl) (clv rfl .rq1 (hmm_formed_ok (by assumption)) (nt rfl (OL.nil (cnF rfl ?_)))))))
 refine AW.skip (AW.seq (AW.sg hE rfl (ldPA ag.Hidden rfl rfl (vs:=[_,_,_,_,_,_,_,_,_,_,_]) rfl (nb9 rfl) (clv rfl .rq1 (hmm_sums_ok (by assumption)) (nt rfl (OL.nil (cnF rfl ?_)))))))
 refine AW.skip (AW.seq (AW.sg hE rfl (ldPA ag.Hidden rfl rfl (vs:=[_,_,_,_,_,_,_,_,_,_,_]) rfl (nb9 rfl) (clv rfl .rq1 (hmm_order_ok (by assumption)) (mvT rfl (ex rfl rfl (ex rfl rfl ?_)))))))
 refine asM rfl (asD rfl (OL.nil (AW.sg hE rfl (mvD rfl (nt rfl (OL.nil (cnF rfl ?_)))))))
 refine AW.skip (AW.seq (AW.sg hE rfl (ldPA ag.Hidden rfl rfl (vs:=[_,_,_,_,_,_,_,_,_,_,_]) rfl (nb9 rfl) (clv rfl .rq1 (hmm_tied_ok (by assumption)) (nt rfl (OL.nil (cnF rfl ?_)))))))
 exact AW.skip (AW.sg hE rfl (asD rfl (OL.nil (AW.ret (RetQ.r ⟨_,.tmp rfl .nil,.le vR⟩)))))
theorem indexOf_bools {l:List Bool}{x:Bool}(nl:l.length≤1099511627776):FSpec P F.slices_Index_bools_bool [.d (bools l),.d (dB x)] (.d (dI (idx1 (fun y=>x == y) l))):=by
 refine FSpec.intro fn.slices_Index_bools_bool (by rfl) (by rfl) (nb9 (by rfl)) fun E hE=>(AW.sg hE rfl (asD rfl (OL.nil (AW.seq (AW.sg hE rfl (mvD rfl (lnL sl.bools rfl rfl ?_)))))))
 refine mvD rfl (OL.nil (AW.block ?_))
 refine AW.whileK (α:=Nat) [(0,_),(1,_),(7,_)] [] (fun i=>[(8,.d (dI i))]) (fun i=>[]) (fun i=>i≤l.length∧∀ j,j<i→(x == l.getD j false)=false) (fun i=>l.length-i) 0 (.cons (knD rfl) (.cons (knD rfl) (.cons (knD rfl) .nil))) .nil ⟨⟨Nat.zero_le _,fun j hj=>by omega⟩,.rq1,.nil⟩ ?_
 rintro i ⟨h1,h2⟩
 refine AW.sg hE rfl (c_lss rfl rfl rfl (OL.nil (AW.seq (AW.cond rfl (fun h9=>?_) (fun h9=>?_)))))
 ·try simp only [dx9] at h9
  refine AW.skip (AW.seq (AW.block (AW.sg hE rfl (mvD rfl (asD rfl (OL.nil (AW.sg hE rfl ?_)))))))
  refine mvD rfl (mvD rfl (mvD rfl (ixLn sl.bools false rfl rfl (by omega) rfl rfl (ldRC ce.bool rfl (eqb bt.bool rfl rfl (OL.nil (AW.cond rfl (fun h16=>?_) (fun h16=>?_))))))))
  ·have h16:=h16
   exact AW.sg hE rfl (mvD rfl (asD rfl (OL.nil (AW.ret (RetQ.r ⟨_,.tmp rfl .nil,.le (VLe.int ((idx1_found (p:=fun y=>x == y) (by omega) false h16 h2).symm))⟩)))))
  ·have h16:=h16
   refine AW.skip (AW.rg hE rfl (add_i64 rfl rfl (by omega) (mvD rfl (OL.nil ?_))))
   exact AW.again (x:=i) (i+1) (by omega) ⟨⟨by omega,fun j hj=>by rcases Nat.lt_or_ge j i with h|h;exact h2 j h;obtain rfl:j=i:=(by omega);exact h16⟩,Knows.app .rq3 .rq1,.nil⟩
 ·try simp only [dx9] at h9
  exact AW.exit (AW.sg hE rfl (asD rfl (OL.nil (AW.ret (RetQ.r ⟨_,.tmp rfl .nil,.le (VLe.int ((idx1_none (p:=fun y=>x == y) false fun j hj=>h2 j (by omega)).symm))⟩)))))
theorem containsOf_bools {l:List Bool}{x:Bool}(nl:l.length≤1099511627776):FSpec P F.slices_Contains_bools_bool [.d (bools l),.d (dB x)] (.d (dB (l.any fun y=>x == y))):=by
 refine FSpec.intro fn.slices_Contains_bools_bool (by rfl) (by rfl) (nb9 (by rfl)) fun E hE=>(AW.sg hE rfl (asD rfl (OL.nil (AW.sg hE rfl (mvD rfl (mvD rfl (clv rfl .rq2 (indexOf_bools nl) ?_)))))))
 exact c_geq rfl rfl rfl (asD rfl (OL.nil (AW.ret (RetQ.r ⟨_,.tmp rfl .nil,.le (VLe.bool (idx1_any _ l))⟩))))
theorem hmm_Plain_okW {h:HM}{B:Nat}(g:h.GoodW B):FSpec P F.hmm_Plain [vHM h] (.d (dB true)):=by
 have f:=g.form
 have e1:=f.ini
 have e2:=f.trans
 have e3:=f.stop
 have e4:=f.emit
 have e5:=f.ties
 have e6:=f.sill
 have s0:=f.sym0
 have s1:=f.sym1
 have n0:=f.st0
 have n1:=f.st1
 have b1:=f.b1
 have bB:=f.bB
 refine FSpec.intro fn.hmm_Plain (by rfl) (by rfl) (nb9 (by rfl)) fun E hE=>(AW.sg hE rfl (bxA rfl rfl fun b1=>(asD rfl (OL.nil (AW.sg hE rfl (ldPA ag.Hidden rfl rfl (vs:=[_,_,_,_,_,_,_,_,_,_,_]) rfl (nb9 rfl) (clv rfl .rq1 (hmm_Valid_okW (by assumption)) ?_)))))))
 refine c_eql rfl rfl (c:=true) (by exact decide_eq_true (by omega)) (mvD rfl (OL.yes rfl (faP fd.Hidden_7 rfl rfl (OL.yes rfl (ldPC ce.bools rfl rfl rfl (OL.yes rfl (clv rfl .rq2 (containsOf_bools (by omega)) ?_)))))))
 rw [f.silent,any_false fun x hx=>by rw [(List.mem_replicate.1 hx).2];rfl]
 exact OL.yes rfl (nt rfl (pkT rfl rfl (asD rfl (OL.nil (AW.ret (RetQ.r ⟨_,.tmp rfl .nil,.le vR⟩))))))
end Go.Proofs.YteiohkpjgcioaaaGreatDoor

/-
  Walks of the specification of semirings, over the rational numbers (printed by mk2.py).
-/
import Derived.Test.YtocehciipjhlkaaGreatDoorKRefC
import Derived.Test.YtocehciipjhlkaaGreatDoorKWkI
set_option linter.unusedVariables false
set_option linter.unusedSimpArgs false
namespace Go.Proofs.YtocehciipjhlkaaGreatDoor
open Go Go.AL
theorem ref_Mul {x y:Raw}(hx:x.Ok)(hy:y.Ok):FSpec P F.ref01_Mul [vRaw x,vRaw y] (vQ (x.q*y.q)):=by
 have a1:=q_sz hx hx.ln hx.ld (by decide)
 have a2:=q_sz hy hy.ln hy.ld (by decide)
 have sn1:=sz_num x.q
 have sn2:=sz_num y.q
 have sd1:=sz_den x.q
 have sd2:=sz_den y.q
 have sdd:=len_mul x.q.den y.q.den
 have dd0:=Nat.mul_ne_zero x.q.den_nz y.q.den_nz
 have snn:=len_mul x.q.num.natAbs y.q.num.natAbs
 have hp:=fr_mul (s:=decide (x.q.num<0)) (t:=decide (y.q.num<0)) (a:=x.q.num.natAbs) (b:=y.q.num.natAbs) (d1:=x.q.den) (d2:=y.q.den)
 rw [fr_ofQ,fr_ofQ] at hp
 refine FSpec.intro fn.ref01_Mul (by rfl) (by rfl) (nb9 (by rfl)) fun E hE=>(AW.sg hE rfl (bxA rfl rfl fun b2=>(bxA rfl rfl fun b3=>(al z.Rat rfl fun b4=>(OL.nil (AW.seq (AW.dg 1 [0,1,2,3,4,5] order_free hE rfl (by kernel_rfl) (OI.of_OL (os:=[_,_,_,_,_,_]) rfl ?_))))))))
 refine ldPA ag.Rat rfl rfl (vs:=[_,_,_]) rfl (nb9 rfl) (clv rfl .rq1 (ref_Take (by assumption)) (ldPA ag.Rat rfl rfl (vs:=[_,_,_]) rfl (nb9 rfl) (clv rfl .rq1 (ref_Take (by assumption)) (sto sz.Rat rfl rfl rfl rfl rfl (nb9 rfl) (cells2:=[_,_,_]) rfl (sto sz.Rat rfl rfl rfl rfl rfl (nb9 rfl) (cells2:=[_,_,_]) rfl (OL.nil (AW.seq ?_)))))))
 refine AW.dg 1 [0,1,2,3,4,5,6,7,8,9,10,11,12,13,14,15,16] order_free hE rfl (by kernel_rfl) (OI.of_OL (os:=[_,_,_,_,_,_,_,_,_,_,_,_,_,_,_,_,_]) rfl ?_)
 refine faP fd.Rat_0 rfl rfl (ldPC ce.bool rfl rfl rfl (faP fd.Rat_0 rfl rfl (ldPC ce.bool rfl rfl rfl (neb bt.bool rfl rfl (faP fd.Rat_1 rfl rfl (ldPC ce.u32s rfl rfl rfl (faP fd.Rat_1 rfl rfl ?_)))))))
 refine ldPC ce.u32s rfl rfl rfl (clv rfl .rq2 (ref_timesN (a:=x.q.num.natAbs) (b:=y.q.num.natAbs) (by omega) (by omega)) (ldPA ag.Rat rfl rfl (vs:=[_,_,_]) rfl (nb9 rfl) (clv rfl .rq1 (ref_den) (ldPA ag.Rat rfl rfl (vs:=[_,_,_]) rfl (nb9 rfl) (clv rfl .rq1 (ref_den) (clv rfl .rq2 (ref_timesN (a:=x.q.den) (b:=y.q.den) (by omega) (by omega)) (clv rfl .rq3 (ref_over (s:=(decide (x.q.num<0) != decide (y.q.num<0))) (by omega) (by omega) dd0) ?_)))))))
 rw [← hp]
 exact sto sz.Rat rfl rfl rfl rfl rfl (nb9 rfl) (cells2:=[_,_,_]) rfl (OL.nil (AW.ret (RetQ.r ⟨_,.cellA rfl rfl ag.Rat (nb9 rfl) .nil,.ag (.cons (.le vR) (.cons (.le vR) (.cons (.le vR) .nil)))⟩)))
theorem ref_MulQ {x y:Rat}(hx:sz x≤68719476736)(hy:sz y≤68719476736):FSpec P F.ref01_Mul [vQ x,vQ y] (vQ (x*y)):=by
 have h:=ref_Mul (x:=ofQ x) (y:=ofQ y) (ofQ_ok (by omega)) (ofQ_ok (by omega))
 rw [q_ofQ,q_ofQ] at h;exact h
theorem ref_TakeQ {q:Rat}(hz:sz q≤68719476736):FSpec P F.ref01_Take [vQ q] (vQ q):=by
 have h:=ref_Take (r:=ofQ q) (ofQ_ok (by omega))
 rw [q_ofQ] at h;exact h
theorem ref_ValidQ {q:Rat}(hz:sz q≤68719476736):FSpec P F.ref01_Valid [vQ q] (.d (dB true)):=by
 have h:=ref_Valid (r:=ofQ q) (ofQ_ok (by omega))
 rw [ofQ_good] at h;exact h
theorem vle_wt {q:Rat}:VLe (.ag [.d (dB (ofQ q).neg),.d (u32s (ofQ q).num),.d (u32s (ofQ q).den),.d (dI 0),.d (dB false),.d (dU 0),.d (.sl []),.mt]) (vW q) :=
 VLe.ag (.cons vR (.cons vR (.cons vR (.cons vR (.cons vR (.cons vR (.cons vR (.cons VLe.mt .nil))))))))
theorem ref_same {l m:List Nat}(nl:l.length≤8796093022208)(nm:m.length≤8796093022208):FSpec P F.ref01_same [.d (u32s l),.d (u32s m)] (.d (dB (decide (l=m)))):=by
 refine FSpec.intro fn.ref01_same (by rfl) (by rfl) (nb9 (by rfl)) fun E hE=>(AW.sg hE rfl (asD rfl (OL.nil (AW.seq (AW.sg hE rfl (mvD rfl (lnL sl.u32s rfl rfl ?_)))))))
 refine mvD rfl (lnL sl.u32s rfl rfl (c_neq rfl rfl rfl (OL.nil (AW.cond rfl (fun h10=>?_) (fun h10=>?_)))))
 ·have hl:l.length≠m.length:=by have:=nd_t h10;omega
  exact AW.sg hE rfl (asD rfl (OL.nil (AW.ret (RetQ.r ⟨_,.tmp rfl .nil,.le (VLe.bool ((decide_eq_false fun e=>hl (by rw [e])).symm))⟩))))
 ·have hl:l.length=m.length:=by have:=nd_f h10;omega
  refine AW.skip (AW.seq (AW.sg hE rfl (asD rfl (OL.nil (AW.block ?_)))))
  refine AW.whileK (α:=Nat) [(0,_),(1,_)] [] (fun i=>[(5,.d (dI i))]) (fun i=>[]) (fun i=>i≤l.length∧∀ j,j<i→l.getD j 0=m.getD j 0) (fun i=>l.length-i) 0 (.cons (knD rfl) (.cons (knD rfl) .nil)) .nil ⟨⟨Nat.zero_le _,fun j hj=>by omega⟩,.rq1,.nil⟩ ?_
  rintro i ⟨h1,h2⟩
  refine AW.seq (AW.sg hE rfl (mvD rfl (mvD rfl (lnL sl.u32s rfl rfl (c_lss rfl rfl rfl (OL.nil (AW.cond rfl (fun h14=>?_) (fun h14=>?_))))))))
  ·try simp only [dx9] at h14
   refine AW.skip (AW.seq (AW.block (AW.seq (AW.dg 1 [0,1,2,3,4,5,6,7,8] order_free hE rfl (by kernel_rfl) (OI.of_OL (os:=[_,_,_,_,_,_,_,_,_]) rfl ?_)))))
   refine mvD rfl (mvD rfl (ixLn sl.u32s 0 rfl rfl (by omega) rfl rfl (ldRC ce.u32 rfl (mvD rfl (mvD rfl (ixLn sl.u32s 0 rfl rfl (by omega) rfl rfl (ldRC ce.u32 rfl ?_)))))))
   refine c_neq rfl rfl rfl (OL.nil (AW.cond rfl (fun hc=>?_) (fun hc=>?_)))
   ·have hc:l.getD i 0≠m.getD i 0:=by have:=nd_t hc;omega
    exact AW.sg hE rfl (asD rfl (OL.nil (AW.ret (RetQ.r ⟨_,.tmp rfl .nil,.le (VLe.bool ((decide_eq_false fun e=>hc (by rw [e])).symm))⟩))))
   ·have hc:l.getD i 0=m.getD i 0:=by have:=nd_f hc;omega
    exact AW.skip (AW.rg hE rfl (mvD rfl (add_i64 rfl rfl (by omega) (asD rfl (OL.nil (AW.again (x:=i) (i+1) (by omega) ⟨⟨by omega,fun j hj=>by rcases Nat.lt_or_ge j i with h|h;exact h2 j h;obtain rfl:j=i:=(by omega);exact hc⟩,Knows.app .rq2 .rq1,.nil⟩))))))
  ·try simp only [dx9] at h14
   exact AW.exit (AW.sg hE rfl (asD rfl (OL.nil (AW.ret (RetQ.r ⟨_,.tmp rfl .nil,.le (VLe.bool ((decide_eq_true (list_eq_getD hl 0 fun j hj=>h2 j (by omega))).symm))⟩)))))
theorem ref_SameQ {p q:Rat}(hp:sz p≤68719476736)(hq:sz q≤68719476736):FSpec P F.ref01_Same [vQ p,vQ q] (.d (dB (decide (p=q)))):=by
 have sp:=ofQ_sm hp
 have sq:=ofQ_sm hq
 have l1:=sp.ln
 have l2:=sp.ld
 have l3:=sq.ln
 have l4:=sq.ld
 refine FSpec.intro fn.ref01_Same (by rfl) (by rfl) (nb9 (by rfl)) fun E hE=>(AW.sg hE rfl (bxA rfl rfl fun b2=>(bxA rfl rfl fun b3=>(asD rfl (OL.nil (AW.sg hE rfl (faP fd.Rat_0 rfl rfl ?_)))))))
 refine ldPC ce.bool rfl rfl rfl (faP fd.Rat_0 rfl rfl (ldPC ce.bool rfl rfl rfl (eqb bt.bool rfl rfl (OL.split 9 rfl (fun g=>?_) (fun g=>?_)))))
 ·have g:=dt9 g
  refine mvD rfl (OL.yes rfl (faP fd.Rat_1 rfl rfl (OL.yes rfl (ldPC ce.u32s rfl rfl rfl (OL.yes rfl (faP fd.Rat_1 rfl rfl (OL.yes rfl ?_)))))))
  refine ldPC ce.u32s rfl rfl rfl (OL.yes rfl (clv rfl .rq2 (ref_same (by omega) (by omega)) (OL.split 15 rfl (fun k=>?_) (fun k=>?_))))
  ·have k:=dt9 k
   refine pkT rfl rfl (mvD rfl (OL.yes rfl (faP fd.Rat_2 rfl rfl (OL.yes rfl (ldPC ce.u32s rfl rfl rfl (OL.yes rfl (faP fd.Rat_2 rfl rfl ?_)))))))
   exact OL.yes rfl (ldPC ce.u32s rfl rfl rfl (OL.yes rfl (clv rfl .rq2 (ref_same (by omega) (by omega)) (pkT rfl rfl (asD rfl (OL.nil (AW.ret (RetQ.r ⟨_,.tmp rfl .nil,.le (VLe.bool (decide_eq_decide.2 ⟨fun e=>ofQ_inj (raw_eq g k e),fun e=>by rw [e]⟩))⟩))))))))
  ·have k:=df9 k
   refine pkT rfl rfl (mvD rfl (OL.nd rfl (OL.nd rfl (OL.nd rfl (OL.nd rfl (OL.nd rfl (pkF rfl rfl ?_)))))))
   exact asD rfl (OL.nil (AW.ret (RetQ.r ⟨_,.tmp rfl .nil,.le (VLe.bool ((decide_eq_false fun e=>k (by rw [e])).symm))⟩)))
 ·have g:=df9 g
  refine mvD rfl (OL.nd rfl (OL.nd rfl (OL.nd rfl (OL.nd rfl (OL.nd rfl (pkF rfl rfl (mvD rfl ?_)))))))
  refine OL.nd rfl (OL.nd rfl (OL.nd rfl (OL.nd rfl (OL.nd rfl (pkF rfl rfl (asD rfl (OL.nil ?_)))))))
  exact AW.ret (RetQ.r ⟨_,.tmp rfl .nil,.le (VLe.bool ((decide_eq_false fun e=>g (by rw [e])).symm))⟩)
theorem ref02_Valid0  : FSpec P F.ref02_Valid [.d (.sl [])] (.d (dB true)):=by
 refine FSpec.intro fn.ref02_Valid (by rfl) (by rfl) (nb9 (by rfl)) fun E hE=>(AW.sg hE rfl (asD rfl (OL.nil (AW.seq (AW.sg hE rfl (asD rfl (OL.nil ?_)))))))
 refine AW.block (AW.whileK (α:=Unit) [(0,_)] [] (fun _u=>[(3,.d (dI 0))]) (fun _u=>[]) (fun _u=>True) (fun _u=>0) () (.cons (knD rfl) .nil) .nil ⟨trivial,.rq1,.nil⟩ ?_)
 intro _ _
 refine AW.seq (AW.sg hE rfl (mvD rfl (mvD rfl (lnD sl.Monomials rfl rfl rfl (c_lss rfl rfl rfl (OL.nil (AW.cond rfl (fun hno=>absurd hno (by simp)) (fun _=>?_))))))))
 exact AW.exit (AW.sg hE rfl (asD rfl (OL.nil (AW.ret (RetQ.r ⟨_,.tmp rfl .nil,.le vR⟩)))))
theorem ref02_Take0  : FSpec P F.ref02_Take [.d (.sl [])] (.d (.sl [])):=by
 refine FSpec.intro fn.ref02_Take (by rfl) (by rfl) (nb9 (by rfl)) fun E hE=>(AW.sg hE rfl (asM rfl (OL.nil (AW.seq (AW.sg hE rfl (mvD rfl (clv rfl .rq1 (ref02_Valid0) ?_)))))))
 refine nt rfl (OL.nil (cnF rfl ?_))
 refine AW.skip (AW.sg hE rfl (asM rfl (OL.nil (AW.seq (AW.sg hE rfl (asD rfl (OL.nil ?_)))))))
 refine AW.block (AW.whileK (α:=Unit) [(0,_),(2,_)] [] (fun _u=>[(3,.mt),(4,.d (dI 0))]) (fun _u=>[]) (fun _u=>True) (fun _u=>0) () (.cons (knD rfl) (.cons (knM rfl) .nil)) .nil ⟨trivial,.rq2,.nil⟩ ?_)
 intro _ _
 refine AW.seq (AW.sg hE rfl (mvD rfl (mvD rfl (lnD sl.Monomials rfl rfl rfl (c_lss rfl rfl rfl (OL.nil (AW.cond rfl (fun hno=>absurd hno (by simp)) (fun _=>?_))))))))
 exact AW.exit (AW.sg hE rfl (mvM rfl (asM rfl (OL.nil (AW.ret (RetQ.r ⟨_,.tmp rfl .nil,.le (VLe.mt)⟩))))))
theorem ref02_Same0  : FSpec P F.ref02_Same [.d (.sl []),.d (.sl [])] (.d (dB true)):=by
 refine FSpec.intro fn.ref02_Same (by rfl) (by rfl) (nb9 (by rfl)) fun E hE=>(AW.sg hE rfl (asD rfl (OL.nil (AW.seq (AW.sg hE rfl (mvD rfl (lnD sl.Monomials rfl rfl rfl ?_)))))))
 refine mvD rfl (lnD sl.Monomials rfl rfl rfl (c_neq rfl rfl (c:=false) (cne_f rfl) (OL.nil (cnF rfl ?_))))
 refine AW.skip (AW.seq (AW.sg hE rfl (asD rfl (OL.nil (AW.block (AW.whileK (α:=Unit) [(0,_),(1,_)] [] (fun _u=>[(5,.d (dI 0))]) (fun _u=>[]) (fun _u=>True) (fun _u=>0) () (.cons (knD rfl) (.cons (knD rfl) .nil)) .nil ⟨trivial,.rq1,.nil⟩ ?_))))))
 intro _ _
 refine AW.seq (AW.sg hE rfl (mvD rfl (mvD rfl (lnD sl.Monomials rfl rfl rfl (c_lss rfl rfl rfl (OL.nil (AW.cond rfl (fun hno=>absurd hno (by simp)) (fun _=>?_))))))))
 exact AW.exit (AW.sg hE rfl (asD rfl (OL.nil (AW.ret (RetQ.r ⟨_,.tmp rfl .nil,.le vR⟩)))))
theorem r3Valid  : FSpec P F.ref03_Valid [vRing] (.d (dB true)):=by
 refine FSpec.intro fn.ref03_Valid (by rfl) (by rfl) (nb9 (by rfl)) fun E hE=>(AW.sg hE rfl (bxA rfl rfl fun b1=>(asD rfl (OL.nil (AW.seq (AW.sg hE rfl (faP fd.Ring_0 rfl rfl ?_)))))))
 refine ldPC ce.int rfl rfl rfl (c_neq rfl rfl (c:=true) (by exact cne_t (by omega)) (OL.nil (cnT rfl ?_)))
 refine AW.sg hE rfl (faP fd.Ring_0 rfl rfl (ldPC ce.int rfl rfl rfl (c_geq rfl rfl (c:=true) (by exact decide_eq_true (by omega)) (mvD rfl (OL.yes rfl (faP fd.Ring_0 rfl rfl (OL.yes rfl ?_)))))))
 refine ldPC ce.int rfl rfl rfl (OL.yes rfl (c_leq rfl rfl (c:=true) (by exact decide_eq_true (by omega)) (pkT rfl rfl (mvD rfl (OL.yes rfl (faP fd.Ring_1 rfl rfl (OL.yes rfl ?_)))))))
 refine ldPC ce.ints rfl rfl rfl (OL.yes rfl (lnD sl.ints rfl rfl rfl (OL.yes rfl (c_eql rfl rfl (c:=true) (decide_eq_true rfl) (pkT rfl rfl (asD rfl (OL.nil ?_)))))))
 exact AW.ret (RetQ.r ⟨_,.tmp rfl .nil,.le vR⟩)
theorem r3simple {q:Rat}(hz:sz q≤68719476736):FSpec P F.ref03_simple [.d (dI 1),vW q] (.d (dB true)):=by
 refine FSpec.intro fn.ref03_simple (by rfl) (by rfl) (nb9 (by rfl)) fun E hE=>(AW.sg hE rfl (bxA rfl rfl fun b3=>(asD rfl (OL.nil (AW.sg hE rfl (faP fd.Weight_0 rfl rfl (ldPA ag.Rat rfl rfl (vs:=[_,_,_]) rfl (nb9 rfl) ?_)))))))
 refine bd z.Rat pl.Rat (cs:=[_,_,_]) rfl (clv rfl (.cons vR (.cons (vle_q0) .nil)) (ref_SameQ hz z0K) (asD rfl (OL.nil (AW.seq (AW.sg hE rfl (faP fd.Weight_5 rfl rfl (ldPC ce.Weights rfl rfl rfl ?_)))))))
 refine lnD sl.Weights rfl rfl rfl (c_gtr rfl rfl (c:=false) (decide_eq_false (by simp)) (mvD rfl (OL.yes rfl (mvD rfl (OL.yes rfl (c_neq rfl rfl (c:=false) (by exact cne_f (by omega)) (OL.yes rfl ?_)))))))
 refine mvD rfl (OL.nd rfl (OL.nd rfl (OL.yes rfl (pkF rfl rfl (OL.yes rfl (mvD rfl (OL.nd rfl ?_)))))))
 refine OL.nd rfl (OL.yes rfl (pkF rfl rfl (pkF rfl rfl (mvD rfl (OL.yes rfl (mvD rfl (OL.yes rfl ?_)))))))
 refine c_neq rfl rfl (c:=true) (by exact cne_t (by omega)) (OL.yes rfl (mvD rfl (OL.yes rfl (faP fd.Weight_2 rfl rfl (OL.yes rfl (ldPC ce.bool rfl rfl rfl (OL.yes rfl ?_)))))))
 refine mvD rfl (OL.yes rfl (faP fd.Weight_1 rfl rfl (OL.yes rfl (ldPC ce.int rfl rfl rfl (OL.yes rfl (c_neq rfl rfl (c:=false) (by exact cne_f (by omega)) (OL.yes rfl ?_)))))))
 refine pkF rfl rfl (OL.yes rfl (pkT rfl rfl (pkF rfl rfl (mvD rfl (OL.yes rfl (mvD rfl (OL.yes rfl ?_)))))))
 refine c_neq rfl rfl (c:=true) (by exact cne_t (by omega)) (OL.yes rfl (mvD rfl (OL.yes rfl (faP fd.Weight_3 rfl rfl (OL.yes rfl (ldPC ce.u64 rfl rfl rfl (OL.yes rfl ?_)))))))
 refine c_neq rfl rfl (c:=false) (by exact cne_f (by omega)) (OL.yes rfl (pkT rfl rfl (pkF rfl rfl (mvD rfl (OL.yes rfl (mvD rfl (OL.yes rfl ?_)))))))
 refine c_neq rfl rfl (c:=true) (by exact cne_t (by omega)) (OL.yes rfl (mvD rfl (OL.yes rfl (faP fd.Weight_4 rfl rfl (OL.yes rfl (ldPC ce.Monomials rfl rfl rfl (OL.yes rfl ?_)))))))
 refine lnD sl.Monomials rfl rfl rfl (OL.yes rfl (c_gtr rfl rfl (c:=false) (decide_eq_false (by simp)) (OL.yes rfl (pkT rfl rfl (pkF rfl rfl (OL.nil (cnF rfl ?_)))))))
 refine AW.skip (AW.seq (AW.sg hE rfl (mvD rfl (OL.nil (AW.block (AW.sg hE rfl (c_eql rfl rfl (c:=true) (by exact decide_eq_true (by omega)) ?_)))))))
 refine asD rfl (OL.nil (cnT rfl ?_))
 exact AW.sg hE rfl (faP fd.Weight_0 rfl rfl (ldPA ag.Rat rfl rfl (vs:=[_,_,_]) rfl (nb9 rfl) (clv rfl vL (ref_ValidQ hz) (asD rfl (OL.nil (AW.ret (RetQ.r ⟨_,.tmp rfl .nil,.le vR⟩)))))))
theorem r3Check {q:Rat}(hz:sz q≤68719476736):FSpec P F.ref03_Check [vRing,vW q] (.d (dB true)):=by
 refine FSpec.intro fn.ref03_Check (by rfl) (by rfl) (nb9 (by rfl)) fun E hE=>(AW.sg hE rfl (bxA rfl rfl fun b2=>(bxA rfl rfl fun b3=>(asD rfl (OL.nil (AW.seq (AW.sg hE rfl ?_)))))))
 refine ldPA ag.Ring rfl rfl (vs:=[_,_]) rfl (nb9 rfl) (clv rfl .rq1 (r3Valid) (nt rfl (OL.nil (cnF rfl ?_))))
 refine AW.skip (AW.seq (AW.sg hE rfl (faP fd.Ring_0 rfl rfl (ldPC ce.int rfl rfl rfl (c_neq rfl rfl (c:=true) (by exact cne_t (by omega)) (OL.nil (cnT rfl ?_)))))))
 exact AW.sg hE rfl (faP fd.Ring_0 rfl rfl (ldPC ce.int rfl rfl rfl (ldPA ag.Weight rfl rfl (vs:=[_,_,_,_,_,_,_,_]) rfl (nb9 rfl) (clv rfl vL (r3simple hz) (asD rfl (OL.nil (AW.ret (RetQ.r ⟨_,.tmp rfl .nil,.le vR⟩))))))))
theorem r3Zero  : FSpec P F.ref03_Zero [vRing] (vW 0):=by
 refine FSpec.intro fn.ref03_Zero (by rfl) (by rfl) (nb9 (by rfl)) fun E hE=>(AW.sg hE rfl (bxA rfl rfl fun b1=>(al z.Weight rfl fun b2=>(OL.nil (AW.sg hE rfl (bd z.Weight pl.Weight (cs:=[_,_,_,_,_,_,_,_]) rfl (al z.Weight rfl fun b3=>?_)))))))
 refine sto sz.Weight rfl rfl rfl rfl rfl (nb9 rfl) (cells2:=[_,_,_,_,_,_,_,_]) rfl (OL.nil (AW.seq (AW.sg hE rfl (ldPA ag.Ring rfl rfl (vs:=[_,_]) rfl (nb9 rfl) (clv rfl .rq1 (r3Valid) (nt rfl (OL.nil ?_)))))))
 refine cnF rfl ?_
 refine AW.skip (AW.sg hE rfl (faP fd.Ring_0 rfl rfl (ldPC ce.int rfl rfl rfl (c_eql rfl rfl (c:=false) (by exact decide_eq_false (by omega)) (faP fd.Weight_2 rfl rfl (sto sz.bool rfl rfl rfl rfl rfl (nb9 rfl) (cells2:=[_,_,_,_,_,_,_,_]) rfl (OL.nil ?_)))))))
 refine AW.seq (AW.sg hE rfl (asD rfl (OL.nil (AW.block ?_))))
 refine AW.whileK (α:=Unit) [(1,_),(2,_),(3,_)] [(1,_),(2,_)] (fun _u=>[(4,.d (dI 0))]) (fun _u=>[(3,.box b3 T.Weight [.d (dB false),.mt,.mt,.d (dI 0),.d (dB false),.d (dU 0),.mt,.mt])]) (fun _u=>True) (fun _u=>0) () (.cons (knP rfl) (.cons (knP rfl) (.cons (knP rfl) .nil))) (.cons (owB rfl) (.cons (owB rfl) .nil)) ⟨trivial,.rq1,.cons rfl .nil⟩ ?_
 intro _ _
 refine AW.seq (AW.sg hE rfl (mvD rfl (faP fd.Ring_1 rfl rfl (ldPC ce.ints rfl rfl rfl (lnD sl.ints rfl rfl rfl (c_lss rfl rfl rfl (OL.nil ?_)))))))
 refine AW.cond rfl (fun hno=>absurd hno (by simp)) (fun _=>?_)
 exact AW.exit (AW.sg hE rfl (ldPA ag.Weight rfl rfl (vs:=[_,_,_,_,_,_,_,_]) rfl (nb9 rfl) (sto sz.Weight rfl rfl rfl rfl rfl (nb9 rfl) (cells2:=[_,_,_,_,_,_,_,_]) rfl (OL.nil (AW.ret (RetQ.r ⟨_,.cellA rfl rfl ag.Weight (nb9 rfl) .nil,.le vle_w0⟩))))))
theorem r3Take {q:Rat}(hz:sz q≤68719476736):FSpec P F.ref03_Take [vRing,vW q] (vW q):=by
 refine FSpec.intro fn.ref03_Take (by rfl) (by rfl) (nb9 (by rfl)) fun E hE=>(AW.sg hE rfl (bxA rfl rfl fun b2=>(bxA rfl rfl fun b3=>(al z.Weight rfl fun b4=>(OL.nil (AW.seq (AW.sg hE rfl ?_)))))))
 refine ldPA ag.Ring rfl rfl (vs:=[_,_]) rfl (nb9 rfl) (ldPA ag.Weight rfl rfl (vs:=[_,_,_,_,_,_,_,_]) rfl (nb9 rfl) (clv rfl .rq2 (r3Check hz) (nt rfl (OL.nil (cnF rfl ?_)))))
 refine AW.skip (AW.seq (AW.dg 1 [0,1,2,3,4,5,6,7,8,9,10,11,12,13,14] order_free hE rfl (by kernel_rfl) (OI.of_OL (os:=[_,_,_,_,_,_,_,_,_,_,_,_,_,_,_]) rfl ?_)))
 refine faP fd.Weight_0 rfl rfl (ldPA ag.Rat rfl rfl (vs:=[_,_,_]) rfl (nb9 rfl) (clv rfl .rq1 (ref_TakeQ hz) (faP fd.Weight_1 rfl rfl (ldPC ce.int rfl rfl rfl (faP fd.Weight_2 rfl rfl (ldPC ce.bool rfl rfl rfl (faP fd.Weight_3 rfl rfl ?_)))))))
 refine ldPC ce.u64 rfl rfl rfl (faP fd.Weight_4 rfl rfl (ldPC ce.Monomials rfl rfl rfl (clv rfl .rq1 (ref02_Take0) (bd2 (cs:=[_,_,_,_,_,_,_,_]) z.Weight pl.Weight (pvC (by exact evA rfl) (pvC (by exact evD rfl) (pvC (by exact evD rfl) (pvC (by exact evD rfl) (pvC (by exact evD rfl) (pvN)))))) (by rfl) (al z.Weight rfl fun b5=>(sto sz.Weight rfl rfl rfl rfl rfl (nb9 rfl) (cells2:=[_,_,_,_,_,_,_,_]) rfl (OL.nil ?_)))))))
 refine AW.seq (AW.sg hE rfl (asD rfl (OL.nil (AW.block ?_))))
 refine AW.whileK (α:=Unit) [(2,_),(3,_),(4,_),(5,_)] [(2,_),(3,_),(4,_)] (fun _u=>[(6,.d (dI 0))]) (fun _u=>[(5,.box b5 T.Weight [.d (dB (ofQ q).neg),.d (u32s (ofQ q).num),.d (u32s (ofQ q).den),.d (dI 0),.d (dB false),.d (dU 0),.d (.sl []),.mt])]) (fun _u=>True) (fun _u=>0) () (.cons (knP rfl) (.cons (knP rfl) (.cons (knP rfl) (.cons (knP rfl) .nil)))) (.cons (owB rfl) (.cons (owB rfl) (.cons (owB rfl) .nil))) ⟨trivial,.rq1,.cons rfl .nil⟩ ?_
 intro _ _
 refine AW.seq (AW.sg hE rfl (mvD rfl (faP fd.Weight_5 rfl rfl (ldPC ce.Weights rfl rfl rfl (lnD sl.Weights rfl rfl rfl (c_lss rfl rfl rfl (OL.nil ?_)))))))
 refine AW.cond rfl (fun hno=>absurd hno (by simp)) (fun _=>?_)
 exact AW.exit (AW.sg hE rfl (ldPA ag.Weight rfl rfl (vs:=[_,_,_,_,_,_,_,_]) rfl (nb9 rfl) (sto sz.Weight rfl rfl rfl rfl rfl (nb9 rfl) (cells2:=[_,_,_,_,_,_,_,_]) rfl (OL.nil (AW.ret (RetQ.r ⟨_,.cellA rfl rfl ag.Weight (nb9 rfl) .nil,.le vle_wt⟩))))))
theorem r3Equal {p q:Rat}(hp:sz p≤68719476736)(hq:sz q≤68719476736):FSpec P F.ref03_Equal [vW p,vW q] (.d (dB (decide (p=q)))):=by
 refine FSpec.intro fn.ref03_Equal (by rfl) (by rfl) (nb9 (by rfl)) fun E hE=>(AW.sg hE rfl (bxA rfl rfl fun b2=>(bxA rfl rfl fun b3=>(asD rfl (OL.nil (AW.seq (AW.sg hE rfl ?_)))))))
 refine faP fd.Weight_0 rfl rfl (ldPA ag.Rat rfl rfl (vs:=[_,_,_]) rfl (nb9 rfl) (faP fd.Weight_0 rfl rfl (ldPA ag.Rat rfl rfl (vs:=[_,_,_]) rfl (nb9 rfl) (clv rfl .rq2 (ref_SameQ hp hq) (OL.split 10 rfl (fun g=>?_) (fun g=>?_))))))
 ·have g:=dt9 g
  refine nt rfl (mvD rfl (OL.yes rfl (faP fd.Weight_1 rfl rfl (OL.yes rfl (ldPC ce.int rfl rfl rfl (OL.yes rfl (faP fd.Weight_1 rfl rfl ?_)))))))
  refine OL.yes rfl (ldPC ce.int rfl rfl rfl (OL.yes rfl (c_neq rfl rfl (c:=false) (by exact cne_f (by omega)) (pkF rfl rfl (mvD rfl (OL.yes rfl (faP fd.Weight_2 rfl rfl ?_)))))))
  refine OL.yes rfl (ldPC ce.bool rfl rfl rfl (OL.yes rfl (faP fd.Weight_2 rfl rfl (OL.yes rfl (ldPC ce.bool rfl rfl rfl (OL.yes rfl (neb bt.bool rfl rfl ?_)))))))
  refine pkF rfl rfl (mvD rfl (OL.yes rfl (faP fd.Weight_3 rfl rfl (OL.yes rfl (ldPC ce.u64 rfl rfl rfl (OL.yes rfl (faP fd.Weight_3 rfl rfl ?_)))))))
  refine OL.yes rfl (ldPC ce.u64 rfl rfl rfl (OL.yes rfl (c_neq rfl rfl (c:=false) (by exact cne_f (by omega)) (pkF rfl rfl (mvD rfl (OL.yes rfl (faP fd.Weight_4 rfl rfl ?_)))))))
  refine OL.yes rfl (ldPC ce.Monomials rfl rfl rfl (OL.yes rfl (faP fd.Weight_4 rfl rfl (OL.yes rfl (ldPC ce.Monomials rfl rfl rfl (OL.yes rfl (clv rfl .rq2 (ref02_Same0) ?_)))))))
  refine OL.yes rfl (nt rfl (pkF rfl rfl (mvD rfl (OL.yes rfl (faP fd.Weight_5 rfl rfl (OL.yes rfl (ldPC ce.Weights rfl rfl rfl ?_)))))))
  refine OL.yes rfl (lnD sl.Weights rfl rfl rfl (OL.yes rfl (faP fd.Weight_5 rfl rfl (OL.yes rfl (ldPC ce.Weights rfl rfl rfl (OL.yes rfl (lnD sl.Weights rfl rfl rfl ?_)))))))
  refine OL.yes rfl (c_neq rfl rfl (c:=false) (cne_f rfl) (pkF rfl rfl (OL.nil (cnF rfl ?_))))
  refine AW.skip (AW.seq (AW.sg hE rfl (asD rfl (OL.nil (AW.block (AW.whileK (α:=Unit) [(2,_),(3,_)] [(2,_),(3,_)] (fun _u=>[(5,.d (dI 0))]) (fun _u=>[]) (fun _u=>True) (fun _u=>0) () (.cons (knP rfl) (.cons (knP rfl) .nil)) (.cons (owB rfl) (.cons (owB rfl) .nil)) ⟨trivial,.rq1,.nil⟩ ?_))))))
  intro _ _
  refine AW.seq (AW.sg hE rfl (mvD rfl (faP fd.Weight_5 rfl rfl (ldPC ce.Weights rfl rfl rfl (lnD sl.Weights rfl rfl rfl (c_lss rfl rfl rfl (OL.nil ?_)))))))
  refine AW.cond rfl (fun hno=>absurd hno (by simp)) (fun _=>?_)
  exact AW.exit (AW.sg hE rfl (asD rfl (OL.nil (AW.ret (RetQ.r ⟨_,.tmp rfl .nil,.le (VLe.bool ((decide_eq_true g).symm))⟩)))))
 ·have g:=df9 g
  refine nt rfl (mvD rfl (OL.nd rfl (OL.nd rfl (OL.nd rfl (OL.nd rfl (OL.nd rfl (pkT rfl rfl ?_)))))))
  refine mvD rfl (OL.nd rfl (OL.nd rfl (OL.nd rfl (OL.nd rfl (OL.nd rfl (pkT rfl rfl (mvD rfl ?_)))))))
  refine OL.nd rfl (OL.nd rfl (OL.nd rfl (OL.nd rfl (OL.nd rfl (pkT rfl rfl (mvD rfl (OL.nd rfl ?_)))))))
  refine OL.nd rfl (OL.nd rfl (OL.nd rfl (OL.nd rfl (OL.nd rfl (pkT rfl rfl (mvD rfl (OL.nd rfl ?_)))))))
  refine OL.nd rfl (OL.nd rfl (OL.nd rfl (OL.nd rfl (OL.nd rfl (OL.nd rfl (pkT rfl rfl (OL.nil ?_)))))))
  refine cnT rfl ?_
  exact AW.sg hE rfl (asD rfl (OL.nil (AW.ret (RetQ.r ⟨_,.tmp rfl .nil,.le (VLe.bool ((decide_eq_false g).symm))⟩))))
theorem r3IsZero {q:Rat}(hz:sz q≤68719476736):FSpec P F.ref03_IsZero [vRing,vW q] (.d (dB (decide (q=0)))):=by
 refine FSpec.intro fn.ref03_IsZero (by rfl) (by rfl) (nb9 (by rfl)) fun E hE=>(AW.sg hE rfl (bxA rfl rfl fun b2=>(bxA rfl rfl fun b3=>(asD rfl (OL.nil (AW.seq (AW.dg 1 [0,1,2,3,4] order_free hE rfl (by kernel_rfl) (OI.of_OL (os:=[_,_,_,_,_]) rfl ?_))))))))
 exact ldPA ag.Weight rfl rfl (vs:=[_,_,_,_,_,_,_,_]) rfl (nb9 rfl) (ldPA ag.Ring rfl rfl (vs:=[_,_]) rfl (nb9 rfl) (clv rfl .rq1 (r3Zero) (clv rfl .rq2 (r3Equal hz z0K) (asD rfl (OL.nil (AW.ret (RetQ.r ⟨_,.tmp rfl .nil,.le vR⟩)))))))
theorem r3Plus {p q:Rat}(hp:sz p≤68719476736)(hq:sz q≤68719476736):FSpec P F.ref03_Plus [vRing,vW p,vW q] (vW (p+q)):=by
 refine FSpec.intro fn.ref03_Plus (by rfl) (by rfl) (nb9 (by rfl)) fun E hE=>(AW.sg hE rfl (bxA rfl rfl fun b3=>(bxA rfl rfl fun b4=>(bxA rfl rfl fun b5=>(al z.Weight rfl fun b6=>(OL.nil (AW.seq ?_)))))))
 refine AW.sg hE rfl (ldPA ag.Ring rfl rfl (vs:=[_,_]) rfl (nb9 rfl) (clv rfl .rq1 (r3Valid) (nt rfl (OL.nil (cnF rfl ?_)))))
 refine AW.skip (AW.seq (AW.dg 1 [0,1,2,3,4,5,6,7] order_free hE rfl (by kernel_rfl) (OI.of_OL (os:=[_,_,_,_,_,_,_,_]) rfl ?_)))
 refine ldPA ag.Ring rfl rfl (vs:=[_,_]) rfl (nb9 rfl) (ldPA ag.Weight rfl rfl (vs:=[_,_,_,_,_,_,_,_]) rfl (nb9 rfl) (clv rfl vL (r3Take hp) (ldPA ag.Ring rfl rfl (vs:=[_,_]) rfl (nb9 rfl) (ldPA ag.Weight rfl rfl (vs:=[_,_,_,_,_,_,_,_]) rfl (nb9 rfl) (clv rfl vL (r3Take hq) (sto sz.Weight rfl rfl rfl rfl rfl (nb9 rfl) (cells2:=[_,_,_,_,_,_,_,_]) rfl (sto sz.Weight rfl rfl rfl rfl rfl (nb9 rfl) (cells2:=[_,_,_,_,_,_,_,_]) rfl ?_)))))))
 refine OL.nil (AW.seq (AW.sg hE rfl (faP fd.Ring_0 rfl rfl (ldPC ce.int rfl rfl rfl (OL.nil (AW.block (AW.sg hE rfl ?_)))))))
 refine c_eql rfl rfl (c:=true) (by exact decide_eq_true (by omega)) (asD rfl (OL.nil (cnT rfl ?_)))
 refine AW.sg hE rfl (faP fd.Weight_0 rfl rfl (ldPA ag.Rat rfl rfl (vs:=[_,_,_]) rfl (nb9 rfl) (faP fd.Weight_0 rfl rfl (ldPA ag.Rat rfl rfl (vs:=[_,_,_]) rfl (nb9 rfl) (clv rfl vL (ref_AddQ (x:=p) (y:=q) hp hq) (bd z.Weight pl.Weight (cs:=[_,_,_,_,_,_,_,_]) rfl (sto sz.Weight rfl rfl rfl rfl rfl (nb9 rfl) (cells2:=[_,_,_,_,_,_,_,_]) rfl ?_)))))))
 exact OL.nil (AW.ret (RetQ.r ⟨_,.cellA rfl rfl ag.Weight (nb9 rfl) .nil,.le vle_wq⟩))
end Go.Proofs.YtocehciipjhlkaaGreatDoor

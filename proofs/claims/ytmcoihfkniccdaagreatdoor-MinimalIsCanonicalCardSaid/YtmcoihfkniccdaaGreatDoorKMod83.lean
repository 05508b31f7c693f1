/-
  M, chapters 23 and 24: sizes of the vectors of words; a step in parts.
-/
import Derived.Test.YtmcoihfkniccdaaGreatDoorKWkF
import Derived.Test.YtmcoihfkniccdaaGreatDoorKMod82
set_option linter.unusedVariables false
set_option linter.unusedSimpArgs false
namespace Go.Proofs.YtmcoihfkniccdaaGreatDoor
open Go Go.AL
def outA (S:List Arc9)(i:Nat):List Arc9:=(S.take i).foldl mergeA []
theorem outA_succ {S:List Arc9}{i:Nat}(hi:i<S.length):outA S (i+1)=mergeA (outA S i) (S.getD i default):=fold_take hi
theorem outA_all {S:List Arc9}{i:Nat}(hi:S.length≤i):outA S i=S.foldl mergeA []:=by unfold outA;rw [List.take_of_length_le hi]
theorem outA_len (S:List Arc9):∀ i,(outA S i).length≤i
 | 0=>Nat.le_refl _
 | i + 1 => by
  rcases Nat.lt_or_ge i S.length with h|h
  ·rw [outA_succ h]
   have:=mergeA_len (outA S i) (S.getD i default)
   have:=outA_len S i
   omega
  ·rw [outA_all (Nat.le_succ_of_le h),← outA_all h]
   have:=outA_len S i
   omega
theorem outA_sz {S:List Arc9}(hz:∀ x,x ∈ S→sz x.q≤134217728):∀ i,SumZ i (outA S i)
 | 0=>fun x hx=>by cases hx
 | i + 1 => by
  rcases Nat.lt_or_ge i S.length with h|h
  ·rw [outA_succ h]
   exact mergeA_sz (outA_sz hz i) (hz _ (getD_mem h default))
  ·rw [outA_all (Nat.le_succ_of_le h),← outA_all h]
   exact fun x hx=>Nat.le_trans (outA_sz hz i x hx) (Nat.mul_le_mul_right _ (Nat.le_succ _))
set_option maxRecDepth 4000 in
set_option maxHeartbeats 1600000 in
theorem TidyR {l:List Arc9}(nl:l.length≤20)(hz:∀ x,x ∈ l→sz x.q≤134217728):FSpec P F.automaton_Tidy [vRing,.d (dArcs l)] (.d (dArcs (tidyA l))):=by
 have hS:(sortA l).length=l.length:=sortG_len ..
 have hzS:∀ x,x ∈ sortA l→sz x.q≤134217728:=fun x hx=>hz x ((sortA_perm l).mem_iff.1 hx)
 refine FSpec.intro fn.automaton_Tidy (by rfl) (by rfl) (nb9 (by rfl)) fun E hE=>(AW.sg hE rfl (bxA rfl rfl fun b2=>(asM rfl (OL.nil (AW.seq (AW.freezeBox 2 [dI 1,.sl []] rfl (VCs.map_d [dI 1,.sl []]) (AW.to [(1,.d (dArcs l)),(2,rRing),(4,.mt)] [] (.cons vR (.cons (vle_of_eq (show V.frb 2 b2 [dI 1,.sl []] (.ptr 2 b2 0)=rRing from frb_self)) .rq1)) .nil ?_)))))))
 refine AW.rg hE rfl (mvD rfl (clR rfl .rq1 (cloneAR (by omega)) rfl fun b11 c11=>(asO rfl (OL.nil (AW.seq (AW.rename 11 1000 rfl (AW.to [(2,rRing),(4,.mt),(5,.osl 1000 b11 l.length c11)] [(1000,rowA b11 c11 l)] (.cons vR (.cons vR (.cons VLe.osl .nil))) (.cons rfl .nil) ?_)))))))
 refine AW.rg hE rfl (mvO rfl (OL.callM (v:=.tup []) (.mk (args':=[.osl 1000 b11 l.length c11,.fn F.automaton_order []]) rfl (.cons vR (.cons vR (.nil))) (mem1_keep (id:=1000) (blk:=rowA b11 c11 l) rfl) mem1_sub (sortStableX rfl nl)) (OL.nil (AW.sg hE rfl (asM rfl (OL.nil (AW.seq ?_)))))))
 refine AW.seq (AW.own 6 59 T.Arc 11 rfl rfl (AW.rg hE rfl (mvO rfl (lnO sl.Arcs rfl rfl (mvD rfl (OL.nil (AW.block ?_)))))))
 refine AW.whileK (α:=Nat × Nat × Nat) [(2,_),(4,_),(14,_),(15,_)] [(1000,_)] (fun (i,bq,cq)=>[(6,.osl 59 bq (outA (sortA l) i).length cq),(16,.d (dI i))]) (fun (i,bq,cq)=>[(59,rowA bq cq (outA (sortA l) i))]) (fun (i,bq,cq)=>i≤l.length) (fun (i,bq,cq)=>l.length-i) (0,0,0) (.cons (knR rfl) (.cons (knM rfl) (.cons (knO rfl) (.cons (knD rfl) .nil)))) (.cons (owR rfl) .nil) ⟨Nat.zero_le _,.rq2,.cons rfl .nil⟩ ?_
 rintro ⟨i,bq,cq⟩ h1
 have h1:i≤l.length:=h1
 have hlo:=outA_len (sortA l) i
 have hzo:=outA_sz hzS i
 refine AW.sg hE rfl (c_lss rfl rfl rfl (OL.nil (AW.seq (AW.cond rfl (fun h17=>?_) (fun h17=>?_)))))
 ·try simp only [dx9] at h17
  refine AW.skip (AW.seq (AW.block (AW.sg hE rfl (ixOn sl.Arcs rfl rfl (by omega) (ldEA ag.Arc (by decide) rfl rfl (rowA_el (show i<(sortA l).length by omega)) (vs:=cellsArc ((sortA l).getD i default)) rfl (nb9 rfl) (al z.Arc rfl fun b8=>(sto sz.Arc rfl rfl rfl rfl rfl (nb9 rfl) (cells2:=[_,_,_,_,_,_,_,_,_,_,_]) rfl ?_)))))))
  refine OL.nil (AW.seq (AW.sg hE rfl (mvO rfl (lnO sl.Arcs rfl rfl (asD rfl (OL.nil (AW.seq ?_)))))))
  have hxz:=hzS ((sortA l).getD i default) (getD_mem (by omega) default)
  refine AW.dg 1 [0,1,2,3,4,5,6,7,8,9,10,11] order_free hE rfl (by kernel_rfl) (OI.of_OL (os:=[_,_,_,_,_,_,_,_,_,_,_,_]) rfl ?_)
  refine mvD rfl (c_gtr rfl rfl rfl (mvD rfl (OL.split 24 rfl (fun hn=>?_) (fun hn=>?_))))
  ·have hn:0<(outA (sortA l) i).length:=by have:=dt9 hn;omega
   have hyz:=hzo ((outA (sortA l) i).getD ((outA (sortA l) i).length-1) default) (getD_mem (by omega) default)
   refine OL.yes rfl (mvO rfl (OL.yes rfl (mvD rfl (OL.yes rfl (bo rfl rfl (bin_sub (c:=(((outA (sortA l) i).length-1:Nat):Int)) (by omega) (wrap_i64 (by omega))) (OL.yes rfl (ixOn sl.Arcs rfl rfl (by omega) ?_)))))))
   refine OL.yes rfl (ldEA ag.Arc (by decide) rfl rfl (rowA_el (show (outA (sortA l) i).length-1<(outA (sortA l) i).length by omega)) (vs:=cellsArc ((outA (sortA l) i).getD ((outA (sortA l) i).length-1) default)) rfl (nb9 rfl) (OL.yes rfl (ldPA ag.Arc rfl rfl (vs:=[_,_,_,_,_,_,_,_,_,_,_]) rfl (nb9 rfl) (OL.yes rfl (clv rfl vL (orderA (x:=((outA (sortA l) i).getD ((outA (sortA l) i).length-1) default)) (y:=((sortA l).getD i default))) (OL.yes rfl (c_eql rfl rfl rfl ?_)))))))
   refine pkT rfl rfl (OL.nil (AW.cond rfl (fun hc=>?_) (fun hc=>?_)))
   ·have hc:ordA ((outA (sortA l) i).getD ((outA (sortA l) i).length-1) default) ((sortA l).getD i default)=0:=dt9 hc
    refine AW.seq (AW.dg 1 [0,1,2,3,4,5,6,7,8,9,10,11,12,13,14,15] order_free hE rfl (by kernel_rfl) (OI.of_OL (os:=[_,_,_,_,_,_,_,_,_,_,_,_,_,_,_,_]) rfl ?_))
    refine mvO rfl (mvD rfl (bo rfl rfl (bin_sub (c:=(((outA (sortA l) i).length-1:Nat):Int)) (by omega) (wrap_i64 (by omega))) (ldRA ag.Ring rfl (vs:=[_,_]) rfl (nb9 rfl) (mvO rfl (mvD rfl (bo rfl rfl (bin_sub (c:=(((outA (sortA l) i).length-1:Nat):Int)) (by omega) (wrap_i64 (by omega))) (ixOn sl.Arcs rfl rfl (by omega) ?_)))))))
    refine faE fd.Arc_3 rfl rfl ?_
    refine ldEA ag.Weight (by decide) rfl rfl (rowA_el (show (outA (sortA l) i).length-1<(outA (sortA l) i).length by omega)) (vs:=[.d (dB (ofQ ((outA (sortA l) i).getD ((outA (sortA l) i).length-1) default).q).neg),.d (u32s (ofQ ((outA (sortA l) i).getD ((outA (sortA l) i).length-1) default).q).num),.d (u32s (ofQ ((outA (sortA l) i).getD ((outA (sortA l) i).length-1) default).q).den),.d (dI 0),.d (dB false),.d (dU 0),.d (.sl []),.d (.sl [])]) rfl (nb9 rfl) ?_
    refine faP fd.Arc_3 rfl rfl (ldPA ag.Weight rfl rfl (vs:=[_,_,_,_,_,_,_,_]) rfl (nb9 rfl) (clv rfl vL (PlusR (p:=((outA (sortA l) i).getD ((outA (sortA l) i).length-1) default).q) (q:=((sortA l).getD i default).q) (by omega) (by omega)) (ixOn sl.Arcs rfl rfl (by omega) (faE fd.Arc_3 rfl rfl ?_))))
    refine stF sz.Weight rfl (d:=dW (((outA (sortA l) i).getD ((outA (sortA l) i).length-1) default).q+((sortA l).getD i default).q)) vd_w rfl rfl (rowA_el (show (outA (sortA l) i).length-1<(outA (sortA l) i).length by omega)) (by decide) (el2:=dArc { ((outA (sortA l) i).getD ((outA (sortA l) i).length-1) default) with q:=((outA (sortA l) i).getD ((outA (sortA l) i).length-1) default).q+((sortA l).getD i default).q }) rfl (es2:=((outA (sortA l) i).set ((outA (sortA l) i).length-1) { ((outA (sortA l) i).getD ((outA (sortA l) i).length-1) default) with q:=((outA (sortA l) i).getD ((outA (sortA l) i).length-1) default).q+((sortA l).getD i default).q }).map dArc) (by rw [List.map_set]) ?_
    refine OL.nil (AW.exit (AW.rg hE rfl (add_i64 rfl rfl (by omega) (mvD rfl (OL.nil ?_)))))
    exact AW.again (x:=(i,bq,cq)) (i+1,bq,cq) (by (simp only [];omega)) ⟨by omega,Knows.app .rq4 (.cons (by rw [outA_succ (by omega),mergeA,if_pos ⟨hn,hc⟩,List.length_set];exact VLe.refl _) .rq1),Owns.app (.cons rfl .nil) (.cons (by rw [outA_succ (by omega),mergeA,if_pos ⟨hn,hc⟩];rfl) .nil)⟩
   ·have hc:¬ ordA ((outA (sortA l) i).getD ((outA (sortA l) i).length-1) default) ((sortA l).getD i default)=0:=df9 hc
    refine AW.skip (AW.seq (AW.dg 1 [0,1,2,3,4,5,6,7] order_free hE rfl (by kernel_rfl) (OI.of_OL (os:=[_,_,_,_,_,_,_,_]) rfl ?_)))
    refine ldRA ag.Ring rfl (vs:=[_,_]) rfl (nb9 rfl) (faP fd.Arc_3 rfl rfl (ldPA ag.Weight rfl rfl (vs:=[_,_,_,_,_,_,_,_]) rfl (nb9 rfl) (ldRA ag.Ring rfl (vs:=[_,_]) rfl (nb9 rfl) (clv rfl vL (ZeroR) (clv rfl vL (PlusR (p:=((sortA l).getD i default).q) (q:=0) (by omega) z0K) ?_)))))
    rw [Rat.add_zero]
    refine faP fd.Arc_3 rfl rfl (sto sz.Weight rfl rfl rfl rfl rfl (nb9 rfl) (cells2:=[_,_,_,_,_,_,_,_,_,_,_]) rfl (OL.nil (AW.rg hE rfl (mvO rfl (ldPA ag.Arc rfl rfl (vs:=[_,_,_,_,_,_,_,_,_,_,_]) rfl (nb9 rfl) (lt1 (y:=dArc ((sortA l).getD i default)) sl.Arcs vd_arc rfl (by decide) ?_))))))
    refine apO sl.Arcs rfl rfl rfl (by rw [lm9]) (VC.d _) (fun y hy=>by rw [ms9 hy];rfl) (by simp;omega) (by simp;omega) (.inr rfl) (ys:=((outA (sortA l) i)++[((sortA l).getD i default)]).map dArc) (by rw [List.map_append];rfl) (n2:=(outA (sortA l) i).length+1) rfl fun b2 c2=>?_
    refine asO rfl (OL.nil (AW.rg hE rfl (add_i64 rfl rfl (by omega) (mvD rfl (OL.nil ?_)))))
    exact AW.again (x:=(i,bq,cq)) (i+1,b2,c2) (by (simp only [];omega)) ⟨by omega,Knows.app .rq4 (.cons (by rw [outA_succ (by omega),mergeA,if_neg (fun e=>hc e.2),la9];exact VLe.refl _) .rq1),Owns.app (.cons rfl .nil) (.cons (by rw [outA_succ (by omega),mergeA,if_neg (fun e=>hc e.2)];rfl) .nil)⟩
  ·have hn:¬ 0<(outA (sortA l) i).length:=fun e=>df9 hn (by omega)
   refine OL.nd rfl (OL.nd rfl (OL.nd rfl (OL.nd rfl (OL.nd rfl (OL.nd rfl (OL.nd rfl (OL.nd rfl ?_)))))))
   refine pkF rfl rfl (OL.nil (cnF rfl ?_))
   refine AW.skip (AW.seq (AW.dg 1 [0,1,2,3,4,5,6,7] order_free hE rfl (by kernel_rfl) (OI.of_OL (os:=[_,_,_,_,_,_,_,_]) rfl ?_)))
   refine ldRA ag.Ring rfl (vs:=[_,_]) rfl (nb9 rfl) (faP fd.Arc_3 rfl rfl (ldPA ag.Weight rfl rfl (vs:=[_,_,_,_,_,_,_,_]) rfl (nb9 rfl) (ldRA ag.Ring rfl (vs:=[_,_]) rfl (nb9 rfl) (clv rfl vL (ZeroR) (clv rfl vL (PlusR (p:=((sortA l).getD i default).q) (q:=0) (by omega) z0K) ?_)))))
   rw [Rat.add_zero]
   refine faP fd.Arc_3 rfl rfl (sto sz.Weight rfl rfl rfl rfl rfl (nb9 rfl) (cells2:=[_,_,_,_,_,_,_,_,_,_,_]) rfl (OL.nil (AW.rg hE rfl (mvO rfl (ldPA ag.Arc rfl rfl (vs:=[_,_,_,_,_,_,_,_,_,_,_]) rfl (nb9 rfl) (lt1 (y:=dArc ((sortA l).getD i default)) sl.Arcs vd_arc rfl (by decide) ?_))))))
   refine apO sl.Arcs rfl rfl rfl (by rw [lm9]) (VC.d _) (fun y hy=>by rw [ms9 hy];rfl) (by simp;omega) (by simp;omega) (.inr rfl) (ys:=((outA (sortA l) i)++[((sortA l).getD i default)]).map dArc) (by rw [List.map_append];rfl) (n2:=(outA (sortA l) i).length+1) rfl fun b2 c2=>?_
   refine asO rfl (OL.nil (AW.rg hE rfl (add_i64 rfl rfl (by omega) (mvD rfl (OL.nil ?_)))))
   exact AW.again (x:=(i,bq,cq)) (i+1,b2,c2) (by (simp only [];omega)) ⟨by omega,Knows.app .rq4 (.cons (by rw [outA_succ (by omega),mergeA,if_neg (fun e=>hn e.1),la9];exact VLe.refl _) .rq1),Owns.app (.cons rfl .nil) (.cons (by rw [outA_succ (by omega),mergeA,if_neg (fun e=>hn e.1)];rfl) .nil)⟩
 ·try simp only [dx9] at h17
  refine AW.exit (AW.seq ?_)
  obtain rfl:i=l.length:=by omega
  have ho:(outA (sortA l) l.length).filter (fun x=>!decide (x.q=0))=tidyA l:=by
   unfold tidyA nzA
   rw [outA_all (by omega)]
   congr 1
   funext x
   by_cases hx:x.q=0 <;> simp [hx]
  refine AW.regionS (by rw [hE];rfl) (SL.ofOL (mvO rfl (OL.nil ?_)))
  refine SL.ofOL (mkF (vs:=[_]) rfl (OL.nil ?_))
  refine SL.ofSO rfl (SO.callO (id:=59) (b:=bq) (n:=(outA (sortA l) l.length).length) (c:=cq) (es:=(outA (sortA l) l.length).map dArc) (argsF:=fun s=>[s,.fn F.automaton_Tidy_1 [rRing]]) (show 63<E.n by rw [hE];exact Nat.le_of_ble_eq_true (by rfl)) rfl rfl (.cons VLe.osl .rq1) (deleteA (l:=(outA (sortA l) l.length)) (p:=fun x=>decide (x.q=0)) (fun x hx=>tidy_1 (Nat.le_trans (hzo x hx) (by omega))) rfl (by omega)) fun b63 c63=>?_)
  refine SL.ofOL (asO rfl (OL.nil ?_))
  rw [ho]
  refine AW.freeze 59 rfl (AW.to [(4,.d (dArcs (tidyA l)))] [] (.cons (frz_osl (by rw [lm9]) (by rfl)) .nil) .nil ?_)
  exact AW.ret (RetQ.r ⟨_,.tmp rfl .nil,.le vR⟩)
abbrev rAu (a:Au):V:=.ref [dI 1,.sl [],dI a.sym,dI a.st,dWs a.ini,dWs a.fin,dArcs a.arcs]
theorem indexW {l:List Rat}{f:Nat}{cap:V}{p:Rat→Bool}(hf:∀ x,x ∈ l→FSpec P f [vW x,cap] (.d (dB (p x))))(nl:l.length≤1099511627776):FSpec P F.slices_IndexFunc_Weight_Weight [.d (dWs l),.fn f [cap]] (.d (dI (idx1 p l))):=by
 refine FSpec.intro fn.slices_IndexFunc_Weight_Weight (by rfl) (by rfl) (nb9 (by rfl)) fun E hE=>(AW.sg hE rfl (asD rfl (OL.nil (AW.seq (AW.sg hE rfl (mvD rfl (lnL sl.Weights rfl rfl ?_)))))))
 refine mvD rfl (OL.nil (AW.block ?_))
 refine AW.whileK (α:=Nat) [(0,_),(1,_),(7,_)] [] (fun i=>[(8,.d (dI i))]) (fun i=>[]) (fun i=>i≤l.length∧∀ j,j<i→p (l.getD j 0)=false) (fun i=>l.length-i) 0 (.cons (knD rfl) (.cons (knF rfl) (.cons (knD rfl) .nil))) .nil ⟨⟨Nat.zero_le _,fun j hj=>by omega⟩,.rq1,.nil⟩ ?_
 rintro i ⟨h1,h2⟩
 refine AW.sg hE rfl (c_lss rfl rfl rfl (OL.nil (AW.seq (AW.cond rfl (fun h9=>?_) (fun h9=>?_)))))
 ·try simp only [dx9] at h9
  refine AW.skip (AW.seq (AW.block (AW.sg hE rfl (mvD rfl (asD rfl (OL.nil (AW.sg hE rfl ?_)))))))
  refine mvF rfl (mvD rfl (mvD rfl (ixLn sl.Weights 0 rfl rfl (by omega) rfl rfl (ldRA ag.Weight rfl (vs:=[_,_,_,_,_,_,_,_]) rfl (nb9 rfl) (clv rfl .rq2 (hf (l.getD i 0) (getD_mem (by omega) _)) (OL.nil (AW.cond rfl (fun h16=>?_) (fun h16=>?_))))))))
  ·have h16:=h16
   exact AW.sg hE rfl (mvD rfl (asD rfl (OL.nil (AW.ret (RetQ.r ⟨_,.tmp rfl .nil,.le (VLe.int ((idx1_found (by omega) 0 h16 h2).symm))⟩)))))
  ·have h16:=h16
   refine AW.skip (AW.rg hE rfl (add_i64 rfl rfl (by omega) (mvD rfl (OL.nil ?_))))
   exact AW.again (x:=i) (i+1) (by omega) ⟨⟨by omega,fun j hj=>by rcases Nat.lt_or_ge j i with h|h;exact h2 j h;obtain rfl:j=i:=(by omega);exact h16⟩,Knows.app .rq3 .rq1,.nil⟩
 ·try simp only [dx9] at h9
  exact AW.exit (AW.sg hE rfl (asD rfl (OL.nil (AW.ret (RetQ.r ⟨_,.tmp rfl .nil,.le (VLe.int ((idx1_none 0 fun j hj=>h2 j (by omega)).symm))⟩)))))
theorem containsW {l:List Rat}{f:Nat}{cap:V}{p:Rat→Bool}(hf:∀ x,x ∈ l→FSpec P f [vW x,cap] (.d (dB (p x))))(nl:l.length≤1099511627776):FSpec P F.slices_ContainsFunc_Weight_Weight [.d (dWs l),.fn f [cap]] (.d (dB (l.any p))):=by
 refine FSpec.intro fn.slices_ContainsFunc_Weight_Weight (by rfl) (by rfl) (nb9 (by rfl)) fun E hE=>(AW.sg hE rfl (asD rfl (OL.nil (AW.sg hE rfl (mvD rfl (mvF rfl (clv rfl vL (indexW hf nl) ?_)))))))
 exact c_geq rfl rfl rfl (asD rfl (OL.nil (AW.ret (RetQ.r ⟨_,.tmp rfl .nil,.le (VLe.bool (idx1_any p l))⟩))))
theorem weights_1 {q:Rat}(hz:sz q≤68719476736):FSpec P F.automaton_weights_1 [vW q,rRing] (.d (dB false)):=by
 refine FSpec.intro fn.automaton_weights_1 (by rfl) (by rfl) (nb9 (by rfl)) fun E hE=>(AW.sg hE rfl (bxA rfl rfl fun b2=>(asD rfl (OL.nil (AW.sg hE rfl (ldRA ag.Ring rfl (vs:=[_,_]) rfl (nb9 rfl) (ldPA ag.Weight rfl rfl (vs:=[_,_,_,_,_,_,_,_]) rfl (nb9 rfl) ?_)))))))
 exact clv rfl .rq2 (checkR hz) (nt rfl (asD rfl (OL.nil (AW.ret (RetQ.r ⟨_,.tmp rfl .nil,.le vR⟩)))))
theorem weightsA {l:List Rat}(hz:∀ x,x ∈ l→sz x≤68719476736)(nl:l.length≤1099511627776):FSpec P F.automaton_weights [vRing,.d (dWs l)] (.d (dB true)):=by
 refine FSpec.intro fn.automaton_weights (by rfl) (by rfl) (nb9 (by rfl)) fun E hE=>(AW.sg hE rfl (bxA rfl rfl fun b2=>(asD rfl (OL.nil (AW.seq (AW.freezeBox 2 [dI 1,.sl []] rfl (VCs.map_d [dI 1,.sl []]) (AW.to [(1,.d (dWs l)),(2,rRing),(4,.d (dB false))] [] (.cons vR (.cons (vle_of_eq (show V.frb 2 b2 [dI 1,.sl []] (.ptr 2 b2 0)=rRing from frb_self)) .rq1)) .nil ?_)))))))
 refine AW.rg hE rfl (mvD rfl (mkF (vs:=[_]) rfl (clv rfl vL (containsW (l:=l) (f:=F.automaton_weights_1) (cap:=rRing) (p:=fun _=>false) (fun x hx=>weights_1 (hz x hx)) nl) ?_)))
 rw [any_false fun x _=>rfl]
 exact nt rfl (asD rfl (OL.nil (AW.ret (RetQ.r ⟨_,.tmp rfl .nil,.le vR⟩))))
theorem inside_1 {a:Au}{v:Nat}(hv:v<a.st):FSpec P F.automaton_inside_1 [.d (dI v),rAu a] (.d (dB true)):=by
 refine FSpec.intro fn.automaton_inside_1 (by rfl) (by rfl) (nb9 (by rfl)) fun E hE=>(AW.sg hE rfl (asD rfl (OL.nil (AW.sg hE rfl (mvD rfl (c_geq rfl rfl (c:=true) (by exact decide_eq_true (by omega)) (mvD rfl ?_)))))))
 refine OL.yes rfl (mvD rfl (OL.yes rfl (faR fd.Auto_2 rfl rfl (OL.yes rfl (ldRC ce.int rfl (OL.yes rfl (c_lss rfl rfl (c:=true) (by exact decide_eq_true (by omega)) ?_)))))))
 exact pkT rfl rfl (asD rfl (OL.nil (AW.ret (RetQ.r ⟨_,.tmp rfl .nil,.le vR⟩))))
theorem insideA {a:Au}{x:Arc9}(hx:x.f<a.st∧x.t<a.st∧1≤x.l∧x.l≤a.sym)(hz:sz x.q≤68719476736):FSpec P F.automaton_inside [vArc x,vAu a] (.d (dB true)):=by
 refine FSpec.intro fn.automaton_inside (by rfl) (by rfl) (nb9 (by rfl)) fun E hE=>(AW.sg hE rfl (bxA rfl rfl fun b2=>(bxA rfl rfl fun b3=>(asD rfl (OL.nil (AW.seq (AW.freezeBox 3 [dI 1,.sl [],dI a.sym,dI a.st,dWs a.ini,dWs a.fin,dArcs a.arcs] rfl (VCs.map_d [dI 1,.sl [],dI a.sym,dI a.st,dWs a.ini,dWs a.fin,dArcs a.arcs]) ?_)))))))
 refine AW.to [(2,.ptr 2 b2 0),(3,rAu a),(4,.d (dB false))] [(2,.box b2 T.Arc (cellsArc x))] (.cons vR (.cons (vle_of_eq (show V.frb 3 b3 [dI 1,.sl [],dI a.sym,dI a.st,dWs a.ini,dWs a.fin,dArcs a.arcs] (.ptr 3 b3 0)=rAu a from frb_self)) .rq1)) (.cons rfl .nil) ?_
 refine AW.rg hE rfl (mkF (vs:=[_]) rfl (asF rfl (OL.nil (AW.sg hE rfl (mvF rfl (faP fd.Arc_0 rfl rfl (ldPC ce.int rfl rfl rfl ?_)))))))
 refine clv rfl vL (inside_1 (a:=a) (v:=x.f) hx.1) (mvD rfl (OL.yes rfl (mvF rfl (OL.yes rfl (faP fd.Arc_2 rfl rfl (OL.yes rfl (ldPC ce.int rfl rfl rfl ?_)))))))
 refine OL.yes rfl (clv rfl vL (inside_1 (a:=a) (v:=x.t) hx.2.1) (pkT rfl rfl (mvD rfl (OL.yes rfl (faP fd.Arc_1 rfl rfl (OL.yes rfl (ldPC ce.int rfl rfl rfl ?_)))))))
 refine OL.yes rfl (c_geq rfl rfl (c:=true) (by exact decide_eq_true (by omega)) (pkT rfl rfl (mvD rfl (OL.yes rfl (faP fd.Arc_1 rfl rfl (OL.yes rfl (ldPC ce.int rfl rfl rfl ?_)))))))
 refine OL.yes rfl (faR fd.Auto_1 rfl rfl (OL.yes rfl (ldRC ce.int rfl (OL.yes rfl (c_leq rfl rfl (c:=true) (by exact decide_eq_true (by omega)) (pkT rfl rfl (mvD rfl ?_)))))))
 refine OL.yes rfl (faR fd.Auto_0 rfl rfl (OL.yes rfl (ldRA ag.Ring rfl (vs:=[_,_]) rfl (nb9 rfl) (OL.yes rfl (faP fd.Arc_3 rfl rfl (OL.yes rfl (ldPA ag.Weight rfl rfl (vs:=[_,_,_,_,_,_,_,_]) rfl (nb9 rfl) ?_)))))))
 exact OL.yes rfl (clv rfl .rq2 (checkR hz) (pkT rfl rfl (asD rfl (OL.nil (AW.ret (RetQ.r ⟨_,.tmp rfl .nil,.le vR⟩))))))
theorem Valid_1 {a:Au}{x:Arc9}(hx:x.f<a.st∧x.t<a.st∧1≤x.l∧x.l≤a.sym)(hz:sz x.q≤68719476736):FSpec P F.automaton_Valid_1 [vArc x,rAu a] (.d (dB false)):=by
 refine FSpec.intro fn.automaton_Valid_1 (by rfl) (by rfl) (nb9 (by rfl)) fun E hE=>(AW.sg hE rfl (bxA rfl rfl fun b2=>(asD rfl (OL.nil (AW.sg hE rfl (ldPA ag.Arc rfl rfl (vs:=[_,_,_,_,_,_,_,_,_,_,_]) rfl (nb9 rfl) (ldRA ag.Auto rfl (vs:=[_,_,_,_,_,_,_]) rfl (nb9 rfl) ?_)))))))
 exact clv rfl .rq2 (insideA hx hz) (nt rfl (asD rfl (OL.nil (AW.ret (RetQ.r ⟨_,.tmp rfl .nil,.le vR⟩)))))
end Go.Proofs.YtmcoihfkniccdaaGreatDoor
namespace Go.AL
open Go Go.BigFrame
theorem sumN_szC {f:Nat→Rat}{C:Nat}:∀ {n:Nat},(∀ i,i<n→sz (f i)≤C)→sz (sumN f n)≤n*(C+1)+1
 | 0,_=>by rw [sumN,sz_zero];omega
 | n+1,h=>by
  have h1:=sumN_szC (f:=f) (C:=C) (n:=n) fun i hi=>h i (by omega)
  have h2:=h n (by omega)
  have h3:=sz_add (sumN f n) (f n)
  rw [sumN,Nat.succ_mul];omega
theorem sumN_sz6 {f:Nat→Rat}{C n:Nat}(hn:n≤6)(h:∀ i,sz (f i)≤C):sz (sumN f n)≤6*(C+1)+1:=by
 have h1:=sumN_szC (f:=f) (n:=n) fun i _=>h i
 have h2:=Nat.mul_le_mul_right (C+1) hn
 omega
structure Mach.Sz (m:Mach) (e:Nat):Prop where
 n6:m.n≤6
 k2:m.k≤4
 e1:1≤e
 e24:e≤24
 ini:∀ i,sz (m.ini.getD i 0)≤e
 fin:∀ i,sz (m.fin.getD i 0)≤e
 ent:∀ s i j,sz (entM m s i j)≤e
def stepC (m:Mach)(v:List Rat)(s i j:Nat):List Rat:=(List.range m.n).map fun c=>sumN (fun a=>v.getD a 0*entM m s a c) (if c<j then i+1 else i)
section
variable {m:Mach}{v:List Rat}{s i j c e S:Nat}{w:List Int}
theorem stepC_len (m:Mach)(v:List Rat)(s i j:Nat):(stepC m v s i j).length=m.n:=by simp [stepC]
theorem stepC_get (hc:c<m.n):(stepC m v s i j).getD c 0=sumN (fun a=>v.getD a 0*entM m s a c) (if c<j then i+1 else i):=map_getD_range _ _ hc
theorem stepC_zero:stepC m v s 0 0=(List.range m.n).map fun _=>(0:Rat):=by
 unfold stepC
 exact List.map_congr_left fun c _=>by rw [if_neg (by omega)];rfl
theorem stepC_row:stepC m v s i m.n=stepC m v s (i+1) 0:=by
 unfold stepC
 exact List.map_congr_left fun c hc=>by rw [if_pos (List.mem_range.1 hc),if_neg (by omega)]
theorem stepC_skiprow (h:v.getD i 0=0):stepC m v s (i+1) 0=stepC m v s i 0:=by
 unfold stepC
 exact List.map_congr_left fun c _=>by rw [if_neg (by omega),if_neg (by omega),sumN,h,Rat.zero_mul,Rat.add_zero]
theorem stepC_all:stepC m v s m.n 0=stepM m v s:=by
 unfold stepC stepM
 exact List.map_congr_left fun c _=>by rw [if_neg (by omega)]
theorem stepC_set (hj:j<m.n):(stepC m v s i j).set j ((stepC m v s i j).getD j 0+v.getD i 0*entM m s i j)=stepC m v s i (j+1):=by
 rw [stepC_get hj,if_neg (Nat.lt_irrefl _)]
 refine List.ext_getElem (by rw [List.length_set,stepC_len,stepC_len]) fun c h1 h2=>?_
 rw [stepC_len] at h2
 rw [List.getElem_set]
 by_cases hcj:j=c
 ·subst hcj
  rw [if_pos rfl]
  simp only [stepC,List.getElem_map,List.getElem_range]
  rw [if_pos (by omega),sumN]
 ·rw [if_neg hcj]
  simp only [stepC,List.getElem_map,List.getElem_range]
  by_cases h:c<j
  ·rw [if_pos h,if_pos (by omega)]
  ·rw [if_neg h,if_neg (by omega)]
theorem set_getD_self {l:List Rat}(j:Nat):l.set j (l.getD j 0)=l:=by
 refine List.ext_getElem (by rw [List.length_set]) fun c h1 h2=>?_
 rw [List.getElem_set]
 by_cases hcj:j=c
 ·subst hcj
  rw [if_pos rfl,gd9,ge9 h2];rfl
 ·rw [if_neg hcj]
theorem stepC_skip (hj:j<m.n)(h:entM m s i j=0):stepC m v s i (j+1)=stepC m v s i j:=by
 rw [← stepC_set hj,h,Rat.mul_zero,Rat.add_zero,set_getD_self]
theorem getD_outQ {l:List Rat}(h:l.length≤c):l.getD c 0=0:=by rw [gd9,List.getElem?_eq_none h];rfl
theorem stepC_sz (z:m.Sz e)(hv:∀ a,sz (v.getD a 0)≤S)(hi:i+1≤6)(c:Nat):sz ((stepC m v s i j).getD c 0)≤6*(S+e+1)+1:=by
 rcases Nat.lt_or_ge c m.n with hc|hc
 ·rw [stepC_get hc]
  refine sumN_sz6 (by split <;> omega) fun a=>?_
  have:=sz_mul (v.getD a 0) (entM m s a c)
  have:=hv a
  have:=z.ent s a c
  omega
 ·rw [getD_outQ (by rw [stepC_len];exact hc),sz_zero];omega
theorem stepM_sz (z:m.Sz e)(hv:∀ a,sz (v.getD a 0)≤S)(c:Nat):sz ((stepM m v s).getD c 0)≤6*(S+e+1)+1:=by
 rcases Nat.lt_or_ge c m.n with hc|hc
 ·rw [stepM_vf hc]
  refine sumN_sz6 z.n6 fun a=>?_
  have:=sz_mul (v.getD a 0) (entM m s a c)
  have:=hv a
  have:=z.ent s a c
  omega
 ·rw [getD_outQ (by rw [stepM_len];exact hc),sz_zero];omega
theorem vecM_szE (z:m.Sz e):∀ (l:Nat) (w:List Int),w.length=l→∀ i,sz ((vecM m w).getD i 0)+e+1≤7 ^ l*(2*e+1)
 | 0,w,hw,i=>by
  rw [en9 hw]
  have:=z.ini i
  show sz (m.ini.getD i 0)+e+1≤_
  omega
 | l+1,w,hw,i=>by
  obtain ⟨u,x,rfl⟩:∃ u x,w=u++[x]:=⟨w.dropLast,w.getLast (fun h=>by rw [h] at hw;cases hw),(List.dropLast_concat_getLast _).symm⟩
  rw [la9,ls9] at hw
  have hu:=vecM_szE z l u (by omega)
  have hp:1≤7 ^ l:=Nat.one_le_pow _ _ (by decide)
  generalize hT:7 ^ l*(2*e+1)=T at hu
  have hT1:2*e+1≤T:=by rw [← hT];exact Nat.le_mul_of_pos_left _ hp
  have e1:=z.e1
  have:=stepM_sz (v:=vecM m u) (s:=x.toNat-1) (S:=T-e-1) z (fun a=>by have:=hu a;omega) i
  rw [vecM_snoc,Nat.pow_succ,Nat.mul_comm (7 ^ l),Nat.mul_assoc,hT]
  omega
theorem vecM_sz (z:m.Sz e)(hw:w.length≤6)(i:Nat):sz ((vecM m w).getD i 0)≤5764801:=by
 have h:=vecM_szE z w.length w rfl i
 have h1:7 ^ w.length≤117649:=Nat.pow_le_pow_right (n:=7) (by decide) hw
 have h2:7 ^ w.length*(2*e+1)≤117649*49:=Nat.mul_le_mul h1 (by have:=z.e24;omega)
 omega
theorem vecM_sz5 (z:m.Sz e)(hw:w.length≤5)(i:Nat):sz ((vecM m w).getD i 0)≤823543:=by
 have h:=vecM_szE z w.length w rfl i
 have h1:7 ^ w.length≤16807:=Nat.pow_le_pow_right (n:=7) (by decide) hw
 have h2:7 ^ w.length*(2*e+1)≤16807*49:=Nat.mul_le_mul h1 (by have:=z.e24;omega)
 omega
theorem dot_sz {u v:Nat→Rat}{S T n:Nat}(hn:n≤6)(hu:∀ i,sz (u i)≤S)(hv:∀ i,sz (v i)≤T):sz (dotM n u v)≤6*(S+T+1)+1:=by
 refine sumN_sz6 hn fun i=>?_
 have:=sz_mul (u i) (v i)
 have:=hu i
 have:=hv i
 omega
theorem turn_entAny (m:Mach)(s i j:Nat):entM (turnM m) s i j=0 ∨ ∃ a b,entM (turnM m) s i j=entM m s a b:=by
 rcases Nat.lt_or_ge s m.k with hs|hs
 ·rcases Nat.lt_or_ge i m.n with hi|hi
  ·rcases Nat.lt_or_ge j m.n with hj|hj
   ·exact .inr ⟨j,i,turn_ent hs hi hj⟩
   ·refine .inl ?_
    unfold entM turnM
    refine getD_outQ (Nat.le_trans ?_ hj)
    rw [show (m.mats.map fun M=>mtx m.n fun i j=>(M.getD j []).getD i 0).getD s []=mtx m.n fun i j=>((m.mats.getD s []).getD j []).getD i 0 by
     rw [gd9,List.getElem?_map,ge9 hs,gd9,ge9 hs];rfl]
    unfold mtx
    rw [map_getD_range _ _ hi,lm9,List.length_range];exact Nat.le_refl _
  ·refine .inl ?_
   unfold entM turnM
   rw [show (m.mats.map fun M=>mtx m.n fun i j=>(M.getD j []).getD i 0).getD s []=mtx m.n fun i j=>((m.mats.getD s []).getD j []).getD i 0 by
    rw [gd9,List.getElem?_map,ge9 hs,gd9,ge9 hs];rfl]
   unfold mtx
   rw [gd9 (i:=i),List.getElem?_eq_none (by rw [lm9,List.length_range];exact hi)];rfl
 ·refine .inl ?_
  unfold entM turnM
  rw [gd9 (i:=s),List.getElem?_eq_none (by rw [lm9];exact hs)];rfl
theorem Mach.Sz.turn (z:m.Sz e):(turnM m).Sz e:=⟨z.n6,by rw [turn_k];exact z.k2,z.e1,z.e24,z.fin,z.ini,fun s i j=>by
 rcases turn_entAny m s i j with h|⟨a,b,h⟩
 ·rw [h,sz_zero];exact z.e1
 ·rw [h];exact z.ent ..⟩
theorem view_sz {L:List (List Int)}{u:List Int}(z:m.Sz e)(hu:u.length≤5)(hL:∀ l,l ∈ L→l.length≤5)(i:Nat):sz ((viewM m L u).getD i 0)≤9882523:=by
 unfold viewM
 refine range_sz _ (by decide) (fun j=>?_) i
 unfold hankM
 have:=dot_sz (u:=vf (vecM m u)) (v:=vf (vecM (turnM m) (L.getD j []))) z.n6 (fun i=>vecM_sz5 z hu i) (fun i=>vecM_sz5 z.turn (by
  rcases Nat.lt_or_ge j L.length with h|h
  ·exact hL _ (getD_mem h [])
  ·rw [gd9,List.getElem?_eq_none h];exact Nat.zero_le _) i)
 omega
end
end Go.AL

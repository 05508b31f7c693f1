/-
  M, chapter 33: a state that stays as long as a list of shares says gives the word of k + 1 symbols the share k; the numbers on the way are small.
-/
import Derived.Test.YteiohkpjgcioaaaGreatDoorKWkSA
import Derived.Test.YteiohkpjgcioaaaGreatDoorKWkI
import Derived.Test.YteiohkpjgcioaaaGreatDoorKWgA
import Derived.Test.YteiohkpjgcioaaaGreatDoorKMod121
set_option linter.unusedVariables false
set_option linter.unusedSimpArgs false
namespace Go.Proofs.YteiohkpjgcioaaaGreatDoor
open Go Go.AL
set_option maxRecDepth 4000 in
set_option maxHeartbeats 1600000 in
theorem TidyS {l:List Arc9}(nl:l.length≤64)(hl1:∀ x,x ∈ l→1≤x.l)(hz:∀ x,x ∈ l→sz x.q≤134217728):FSpec P F.automaton_Tidy [vRing,.d (dArcs l)] (.d (dArcs (tidyA l))):=by
 have hS:(stabA l).length=l.length:=stabA_len l
 have hzS:∀ x,x ∈ stabA l→sz x.q≤134217728:=fun x hx=>hz x ((stabA_perm l).mem_iff.1 hx)
 refine FSpec.intro fn.automaton_Tidy (by rfl) (by rfl) (nb9 (by rfl)) fun E hE=>(AW.sg hE rfl (bxA rfl rfl fun b2=>(asM rfl (OL.nil (AW.seq (AW.freezeBox 2 [dI 1,.sl []] rfl (VCs.map_d [dI 1,.sl []]) (AW.to [(1,.d (dArcs l)),(2,rRing),(4,.mt)] [] (.cons vR (.cons (vle_of_eq (show V.frb 2 b2 [dI 1,.sl []] (.ptr 2 b2 0)=rRing from frb_self)) .rq1)) .nil ?_)))))))
 refine AW.rg hE rfl (mvD rfl (clR rfl .rq1 (cloneAR (by omega)) rfl fun b11 c11=>(asO rfl (OL.nil (AW.seq (AW.rename 11 1000 rfl (AW.to [(2,rRing),(4,.mt),(5,.osl 1000 b11 l.length c11)] [(1000,rowA b11 c11 l)] (.cons vR (.cons vR (.cons VLe.osl .nil))) (.cons rfl .nil) ?_)))))))
 refine AW.rg hE rfl (mvO rfl (OL.callM (v:=.tup []) (.mk (args':=[.osl 1000 b11 l.length c11,.fn F.automaton_order []]) rfl (.cons vR (.cons vR (.nil))) (mem1_keep (id:=1000) (blk:=rowA b11 c11 l) rfl) mem1_sub (sortStabA rfl (by omega))) (OL.nil (AW.sg hE rfl (asM rfl (OL.nil (AW.seq ?_)))))))
 refine AW.seq (AW.own 6 59 T.Arc 11 rfl rfl (AW.rg hE rfl (mvO rfl (lnO sl.Arcs rfl rfl (mvD rfl (OL.nil (AW.block ?_)))))))
 refine AW.whileK (α:=Nat × Nat × Nat) [(2,_),(4,_),(14,_),(15,_)] [(1000,_)] (fun (i,bq,cq)=>[(6,.osl 59 bq (outA (stabA l) i).length cq),(16,.d (dI i))]) (fun (i,bq,cq)=>[(59,rowA bq cq (outA (stabA l) i))]) (fun (i,bq,cq)=>i≤l.length) (fun (i,bq,cq)=>l.length-i) (0,0,0) (.cons (knR rfl) (.cons (knM rfl) (.cons (knO rfl) (.cons (knD rfl) .nil)))) (.cons (owR rfl) .nil) ⟨Nat.zero_le _,.rq2,.cons rfl .nil⟩ ?_
 rintro ⟨i,bq,cq⟩ h1
 have h1:i≤l.length:=h1
 have hlo:=outA_len (stabA l) i
 have hzo:=outA_sz hzS i
 refine AW.sg hE rfl (c_lss rfl rfl rfl (OL.nil (AW.seq (AW.cond rfl (fun h17=>?_) (fun h17=>?_)))))
 ·try simp only [dx9] at h17
  refine AW.skip (AW.seq (AW.block (AW.sg hE rfl (ixOn sl.Arcs rfl rfl (by omega) (ldEA ag.Arc (by decide) rfl rfl (rowA_el (show i<(stabA l).length by omega)) (vs:=cellsArc ((stabA l).getD i default)) rfl (nb9 rfl) (al z.Arc rfl fun b8=>(sto sz.Arc rfl rfl rfl rfl rfl (nb9 rfl) (cells2:=[_,_,_,_,_,_,_,_,_,_,_]) rfl ?_)))))))
  refine OL.nil (AW.seq (AW.sg hE rfl (mvO rfl (lnO sl.Arcs rfl rfl (asD rfl (OL.nil (AW.seq ?_)))))))
  have hxz:=hzS ((stabA l).getD i default) (getD_mem (by omega) default)
  refine AW.dg 1 [0,1,2,3,4,5,6,7,8,9,10,11] order_free hE rfl (by kernel_rfl) (OI.of_OL (os:=[_,_,_,_,_,_,_,_,_,_,_,_]) rfl ?_)
  refine mvD rfl (c_gtr rfl rfl rfl (mvD rfl (OL.split 24 rfl (fun hn=>?_) (fun hn=>?_))))
  ·have hn:0<(outA (stabA l) i).length:=by have:=dt9 hn;omega
   have hyz:=hzo ((outA (stabA l) i).getD ((outA (stabA l) i).length-1) default) (getD_mem (by omega) default)
   refine OL.yes rfl (mvO rfl (OL.yes rfl (mvD rfl (OL.yes rfl (bo rfl rfl (bin_sub (c:=(((outA (stabA l) i).length-1:Nat):Int)) (by omega) (wrap_i64 (by omega))) (OL.yes rfl (ixOn sl.Arcs rfl rfl (by omega) ?_)))))))
   refine OL.yes rfl (ldEA ag.Arc (by decide) rfl rfl (rowA_el (show (outA (stabA l) i).length-1<(outA (stabA l) i).length by omega)) (vs:=cellsArc ((outA (stabA l) i).getD ((outA (stabA l) i).length-1) default)) rfl (nb9 rfl) (OL.yes rfl (ldPA ag.Arc rfl rfl (vs:=[_,_,_,_,_,_,_,_,_,_,_]) rfl (nb9 rfl) (OL.yes rfl (clv rfl vL (orderA (x:=((outA (stabA l) i).getD ((outA (stabA l) i).length-1) default)) (y:=((stabA l).getD i default))) (OL.yes rfl (c_eql rfl rfl rfl ?_)))))))
   refine pkT rfl rfl (OL.nil (AW.cond rfl (fun hc=>?_) (fun hc=>?_)))
   ·have hc:ordA ((outA (stabA l) i).getD ((outA (stabA l) i).length-1) default) ((stabA l).getD i default)=0:=dt9 hc
    refine AW.seq (AW.dg 1 [0,1,2,3,4,5,6,7,8,9,10,11,12,13,14,15] order_free hE rfl (by kernel_rfl) (OI.of_OL (os:=[_,_,_,_,_,_,_,_,_,_,_,_,_,_,_,_]) rfl ?_))
    refine mvO rfl (mvD rfl (bo rfl rfl (bin_sub (c:=(((outA (stabA l) i).length-1:Nat):Int)) (by omega) (wrap_i64 (by omega))) (ldRA ag.Ring rfl (vs:=[_,_]) rfl (nb9 rfl) (mvO rfl (mvD rfl (bo rfl rfl (bin_sub (c:=(((outA (stabA l) i).length-1:Nat):Int)) (by omega) (wrap_i64 (by omega))) (ixOn sl.Arcs rfl rfl (by omega) ?_)))))))
    refine faE fd.Arc_3 rfl rfl ?_
    refine ldEA ag.Weight (by decide) rfl rfl (rowA_el (show (outA (stabA l) i).length-1<(outA (stabA l) i).length by omega)) (vs:=[.d (dB (ofQ ((outA (stabA l) i).getD ((outA (stabA l) i).length-1) default).q).neg),.d (u32s (ofQ ((outA (stabA l) i).getD ((outA (stabA l) i).length-1) default).q).num),.d (u32s (ofQ ((outA (stabA l) i).getD ((outA (stabA l) i).length-1) default).q).den),.d (dI 0),.d (dB false),.d (dU 0),.d (.sl []),.d (.sl [])]) rfl (nb9 rfl) ?_
    refine faP fd.Arc_3 rfl rfl (ldPA ag.Weight rfl rfl (vs:=[_,_,_,_,_,_,_,_]) rfl (nb9 rfl) (clv rfl vL (PlusR (p:=((outA (stabA l) i).getD ((outA (stabA l) i).length-1) default).q) (q:=((stabA l).getD i default).q) (by omega) (by omega)) (ixOn sl.Arcs rfl rfl (by omega) (faE fd.Arc_3 rfl rfl ?_))))
    refine stF sz.Weight rfl (d:=dW (((outA (stabA l) i).getD ((outA (stabA l) i).length-1) default).q+((stabA l).getD i default).q)) vd_w rfl rfl (rowA_el (show (outA (stabA l) i).length-1<(outA (stabA l) i).length by omega)) (by decide) (el2:=dArc { ((outA (stabA l) i).getD ((outA (stabA l) i).length-1) default) with q:=((outA (stabA l) i).getD ((outA (stabA l) i).length-1) default).q+((stabA l).getD i default).q }) rfl (es2:=((outA (stabA l) i).set ((outA (stabA l) i).length-1) { ((outA (stabA l) i).getD ((outA (stabA l) i).length-1) default) with q:=((outA (stabA l) i).getD ((outA (stabA l) i).length-1) default).q+((stabA l).getD i default).q }).map dArc) (by rw [List.map_set]) ?_
    refine OL.nil (AW.exit (AW.rg hE rfl (add_i64 rfl rfl (by omega) (mvD rfl (OL.nil ?_)))))
    exact AW.again (x:=(i,bq,cq)) (i+1,bq,cq) (by (simp only [];omega)) ⟨by omega,Knows.app .rq4 (.cons (by rw [outA_succ (by omega),mergeA,if_pos ⟨hn,hc⟩,List.length_set];exact VLe.refl _) .rq1),Owns.app (.cons rfl .nil) (.cons (by rw [outA_succ (by omega),mergeA,if_pos ⟨hn,hc⟩];rfl) .nil)⟩
   ·have hc:¬ ordA ((outA (stabA l) i).getD ((outA (stabA l) i).length-1) default) ((stabA l).getD i default)=0:=df9 hc
    refine AW.skip (AW.seq (AW.dg 1 [0,1,2,3,4,5,6,7] order_free hE rfl (by kernel_rfl) (OI.of_OL (os:=[_,_,_,_,_,_,_,_]) rfl ?_)))
    refine ldRA ag.Ring rfl (vs:=[_,_]) rfl (nb9 rfl) (faP fd.Arc_3 rfl rfl (ldPA ag.Weight rfl rfl (vs:=[_,_,_,_,_,_,_,_]) rfl (nb9 rfl) (ldRA ag.Ring rfl (vs:=[_,_]) rfl (nb9 rfl) (clv rfl vL (ZeroR) (clv rfl vL (PlusR (p:=((stabA l).getD i default).q) (q:=0) (by omega) z0K) ?_)))))
    rw [Rat.add_zero]
    refine faP fd.Arc_3 rfl rfl (sto sz.Weight rfl rfl rfl rfl rfl (nb9 rfl) (cells2:=[_,_,_,_,_,_,_,_,_,_,_]) rfl (OL.nil (AW.rg hE rfl (mvO rfl (ldPA ag.Arc rfl rfl (vs:=[_,_,_,_,_,_,_,_,_,_,_]) rfl (nb9 rfl) (lt1 (y:=dArc ((stabA l).getD i default)) sl.Arcs vd_arc rfl (by decide) ?_))))))
    refine apO sl.Arcs rfl rfl rfl (by rw [lm9]) (VC.d _) (fun y hy=>by rw [ms9 hy];rfl) (by simp;omega) (by simp;omega) (.inr rfl) (ys:=((outA (stabA l) i)++[((stabA l).getD i default)]).map dArc) (by rw [List.map_append];rfl) (n2:=(outA (stabA l) i).length+1) rfl fun b2 c2=>?_
    refine asO rfl (OL.nil (AW.rg hE rfl (add_i64 rfl rfl (by omega) (mvD rfl (OL.nil ?_)))))
    exact AW.again (x:=(i,bq,cq)) (i+1,b2,c2) (by (simp only [];omega)) ⟨by omega,Knows.app .rq4 (.cons (by rw [outA_succ (by omega),mergeA,if_neg (fun e=>hc e.2),la9];exact VLe.refl _) .rq1),Owns.app (.cons rfl .nil) (.cons (by rw [outA_succ (by omega),mergeA,if_neg (fun e=>hc e.2)];rfl) .nil)⟩
  ·have hn:¬ 0<(outA (stabA l) i).length:=fun e=>df9 hn (by omega)
   refine OL.nd rfl (OL.nd rfl (OL.nd rfl (OL.nd rfl (OL.nd rfl (OL.nd rfl (OL.nd rfl (OL.nd rfl ?_)))))))
   refine pkF rfl rfl (OL.nil (cnF rfl ?_))
   refine AW.skip (AW.seq (AW.dg 1 [0,1,2,3,4,5,6,7] order_free hE rfl (by kernel_rfl) (OI.of_OL (os:=[_,_,_,_,_,_,_,_]) rfl ?_)))
   refine ldRA ag.Ring rfl (vs:=[_,_]) rfl (nb9 rfl) (faP fd.Arc_3 rfl rfl (ldPA ag.Weight rfl rfl (vs:=[_,_,_,_,_,_,_,_]) rfl (nb9 rfl) (ldRA ag.Ring rfl (vs:=[_,_]) rfl (nb9 rfl) (clv rfl vL (ZeroR) (clv rfl vL (PlusR (p:=((stabA l).getD i default).q) (q:=0) (by omega) z0K) ?_)))))
   rw [Rat.add_zero]
   refine faP fd.Arc_3 rfl rfl (sto sz.Weight rfl rfl rfl rfl rfl (nb9 rfl) (cells2:=[_,_,_,_,_,_,_,_,_,_,_]) rfl (OL.nil (AW.rg hE rfl (mvO rfl (ldPA ag.Arc rfl rfl (vs:=[_,_,_,_,_,_,_,_,_,_,_]) rfl (nb9 rfl) (lt1 (y:=dArc ((stabA l).getD i default)) sl.Arcs vd_arc rfl (by decide) ?_))))))
   refine apO sl.Arcs rfl rfl rfl (by rw [lm9]) (VC.d _) (fun y hy=>by rw [ms9 hy];rfl) (by simp;omega) (by simp;omega) (.inr rfl) (ys:=((outA (stabA l) i)++[((stabA l).getD i default)]).map dArc) (by rw [List.map_append];rfl) (n2:=(outA (stabA l) i).length+1) rfl fun b2 c2=>?_
   refine asO rfl (OL.nil (AW.rg hE rfl (add_i64 rfl rfl (by omega) (mvD rfl (OL.nil ?_)))))
   exact AW.again (x:=(i,bq,cq)) (i+1,b2,c2) (by (simp only [];omega)) ⟨by omega,Knows.app .rq4 (.cons (by rw [outA_succ (by omega),mergeA,if_neg (fun e=>hn e.1),la9];exact VLe.refl _) .rq1),Owns.app (.cons rfl .nil) (.cons (by rw [outA_succ (by omega),mergeA,if_neg (fun e=>hn e.1)];rfl) .nil)⟩
 ·try simp only [dx9] at h17
  refine AW.exit (AW.seq ?_)
  obtain rfl:i=l.length:=by omega
  have ho:(outA (stabA l) l.length).filter (fun x=>!decide (x.q=0))=tidyA l:=by
   rw [← tidyB_eq hl1]
   unfold tidyB nzA
   rw [outA_all (by rw [stabA_len];omega)]
   congr 1
   funext x
   by_cases hx:x.q=0 <;> simp [hx]
  refine AW.regionS (by rw [hE];rfl) (SL.ofOL (mvO rfl (OL.nil ?_)))
  refine SL.ofOL (mkF (vs:=[_]) rfl (OL.nil ?_))
  refine SL.ofSO rfl (SO.callO (id:=59) (b:=bq) (n:=(outA (stabA l) l.length).length) (c:=cq) (es:=(outA (stabA l) l.length).map dArc) (argsF:=fun s=>[s,.fn F.automaton_Tidy_1 [rRing]]) (show 63<E.n by rw [hE];exact Nat.le_of_ble_eq_true (by rfl)) rfl rfl (.cons VLe.osl .rq1) (deleteA (l:=(outA (stabA l) l.length)) (p:=fun x=>decide (x.q=0)) (fun x hx=>tidy_1 (Nat.le_trans (hzo x hx) (by omega))) rfl (by omega)) fun b63 c63=>?_)
  refine SL.ofOL (asO rfl (OL.nil ?_))
  rw [ho]
  refine AW.freeze 59 rfl (AW.to [(4,.d (dArcs (tidyA l)))] [] (.cons (frz_osl (by rw [lm9]) (by rfl)) .nil) .nil ?_)
  exact AW.ret (RetQ.r ⟨_,.tmp rfl .nil,.le vR⟩)
theorem ValidS {a:Au}(h:a.Ok)(za:a.Sz 134217728 64)(s1:a.sym≤32)(s2:a.st≤64):FSpec P F.automaton_Valid [vAu a] (.d (dB true)):=by
 have e0:=h.sym0
 have e1:=h.ini
 have e2:=h.fin
 have e3:=za.num
 refine FSpec.intro fn.automaton_Valid (by rfl) (by rfl) (nb9 (by rfl)) fun E hE=>(AW.sg hE rfl (bxA rfl rfl fun b1=>(asD rfl (OL.nil (AW.seq (AW.sg hE rfl (faP fd.Auto_0 rfl rfl ?_)))))))
 refine ldPA ag.Ring rfl rfl (vs:=[_,_]) rfl (nb9 rfl) (clv rfl .rq1 (validR) (nt rfl (mvD rfl (OL.yes rfl (faP fd.Auto_1 rfl rfl (OL.yes rfl (ldPC ce.int rfl rfl rfl ?_)))))))
 refine OL.yes rfl (c_lss rfl rfl (c:=false) (by exact decide_eq_false (by omega)) (pkF rfl rfl (mvD rfl (OL.yes rfl (faP fd.Auto_1 rfl rfl (OL.yes rfl (ldPC ce.int rfl rfl rfl ?_)))))))
 refine OL.yes rfl (c_gtr rfl rfl (c:=false) (by exact decide_eq_false (by omega)) (pkF rfl rfl (mvD rfl (OL.yes rfl (faP fd.Auto_2 rfl rfl (OL.yes rfl (ldPC ce.int rfl rfl rfl ?_)))))))
 refine OL.yes rfl (c_lss rfl rfl (c:=false) (by exact decide_eq_false (by omega)) (pkF rfl rfl (mvD rfl (OL.yes rfl (faP fd.Auto_2 rfl rfl (OL.yes rfl (ldPC ce.int rfl rfl rfl ?_)))))))
 refine OL.yes rfl (c_gtr rfl rfl (c:=false) (by exact decide_eq_false (by omega)) (pkF rfl rfl (mvD rfl (OL.yes rfl (faP fd.Auto_3 rfl rfl (OL.yes rfl (ldPC ce.Weights rfl rfl rfl ?_)))))))
 refine OL.yes rfl (lnL sl.Weights rfl rfl (OL.yes rfl (faP fd.Auto_2 rfl rfl (OL.yes rfl (ldPC ce.int rfl rfl rfl (OL.yes rfl (c_neq rfl rfl (c:=false) (by exact cne_f (by omega)) ?_)))))))
 refine pkF rfl rfl (mvD rfl (OL.yes rfl (faP fd.Auto_4 rfl rfl (OL.yes rfl (ldPC ce.Weights rfl rfl rfl (OL.yes rfl (lnL sl.Weights rfl rfl ?_)))))))
 refine OL.yes rfl (faP fd.Auto_2 rfl rfl (OL.yes rfl (ldPC ce.int rfl rfl rfl (OL.yes rfl (c_neq rfl rfl (c:=false) (by exact cne_f (by omega)) (pkF rfl rfl (mvD rfl ?_)))))))
 refine OL.yes rfl (faP fd.Auto_5 rfl rfl (OL.yes rfl (ldPC ce.Arcs rfl rfl rfl (OL.yes rfl (lnL sl.Arcs rfl rfl (OL.yes rfl (c_gtr rfl rfl (c:=false) (by exact decide_eq_false (by omega)) ?_)))))))
 refine pkF rfl rfl (OL.nil (cnF rfl ?_))
 refine AW.skip (AW.seq (AW.seq (AW.freezeBox 1 [dI 1,.sl [],dI a.sym,dI a.st,dWs a.ini,dWs a.fin,dArcs a.arcs] rfl (VCs.map_d [dI 1,.sl [],dI a.sym,dI a.st,dWs a.ini,dWs a.fin,dArcs a.arcs]) (AW.to [(1,rAu a),(2,.d (dB false))] [] (.cons (vle_of_eq (show V.frb 1 b1 [dI 1,.sl [],dI a.sym,dI a.st,dWs a.ini,dWs a.fin,dArcs a.arcs] (.ptr 1 b1 0)=rAu a from frb_self)) .rq1) .nil (AW.rg hE rfl (faR fd.Auto_5 rfl rfl (ldRC ce.Arcs rfl ?_)))))))
 refine mkF (vs:=[_]) rfl (clv rfl vL (containsAc (l:=a.arcs) (f:=F.automaton_Valid_1) (caps:=[rAu a]) (p:=fun _=>false) (fun x hx=>Valid_1 (h.arc x hx) (Nat.le_trans (za.arc x hx) (by decide))) (by omega)) ?_)
 rw [any_false fun x _=>rfl]
 refine OL.nil (cnF rfl ?_)
 refine AW.skip (AW.sg hE rfl (faR fd.Auto_0 rfl rfl (ldRA ag.Ring rfl (vs:=[_,_]) rfl (nb9 rfl) (faR fd.Auto_3 rfl rfl (ldRC ce.Weights rfl (clv rfl vL (weightsA (l:=a.ini) (fun x hx=>Nat.le_trans (za.ini x hx) (by decide)) (by omega)) (mvD rfl ?_)))))))
 refine OL.yes rfl (faR fd.Auto_0 rfl rfl (OL.yes rfl (ldRA ag.Ring rfl (vs:=[_,_]) rfl (nb9 rfl) (OL.yes rfl (faR fd.Auto_4 rfl rfl (OL.yes rfl (ldRC ce.Weights rfl ?_)))))))
 exact OL.yes rfl (clv rfl vL (weightsA (l:=a.fin) (fun x hx=>Nat.le_trans (za.fin x hx) (by decide)) (by omega)) (pkT rfl rfl (asD rfl (OL.nil (AW.ret (RetQ.r ⟨_,.tmp rfl .nil,.le vR⟩))))))
theorem NormalS {a:Au}(h:a.Ok)(za:a.Sz 134217728 64)(s1:a.sym≤32)(s2:a.st≤64):FSpec P F.automaton_Normal [vAu a] (.tup [vAu (normOf a),.d (dI 0)]):=by
 have e0:=h.sym0
 have e1:=h.ini
 have e2:=h.fin
 have e3:=za.num
 refine FSpec.intro fn.automaton_Normal (by rfl) (by rfl) (nb9 (by rfl)) fun E hE=>(AW.sg hE rfl (bxA rfl rfl fun b1=>(al z.Auto rfl fun b2=>(asD rfl (OL.nil (AW.seq (AW.sg hE rfl ?_)))))))
 refine ldPA ag.Auto rfl rfl (vs:=[_,_,_,_,_,_,_]) rfl (nb9 rfl) (clv rfl .rq1 (ValidS h za s1 s2) (nt rfl (OL.nil (cnF rfl ?_))))
 refine AW.skip (AW.seq (AW.dg 1 [0,1,2,3,4,5,6,7,8,9,10,11,12,13,14,15,16,17,18,19,20,21,22,23,24] order_free hE rfl (by kernel_rfl) (OI.of_OL (os:=[_,_,_,_,_,_,_,_,_,_,_,_,_,_,_,_,_,_,_,_,_,_,_,_,_]) rfl ?_)))
 refine faP fd.Auto_0 rfl rfl (ldPA ag.Ring rfl rfl (vs:=[_,_]) rfl (nb9 rfl) (clv rfl .rq1 (ringR) (faP fd.Auto_1 rfl rfl (ldPC ce.int rfl rfl rfl (faP fd.Auto_2 rfl rfl (ldPC ce.int rfl rfl rfl (faP fd.Auto_0 rfl rfl ?_)))))))
 refine ldPA ag.Ring rfl rfl (vs:=[_,_]) rfl (nb9 rfl) (faP fd.Auto_3 rfl rfl (ldPC ce.Weights rfl rfl rfl (clv rfl vL (CopyR (l:=a.ini) (by omega) za.ini) (faP fd.Auto_0 rfl rfl (ldPA ag.Ring rfl rfl (vs:=[_,_]) rfl (nb9 rfl) (faP fd.Auto_4 rfl rfl (ldPC ce.Weights rfl rfl rfl ?_)))))))
 refine clv rfl vL (CopyR (l:=a.fin) (by omega) za.fin) (faP fd.Auto_0 rfl rfl (ldPA ag.Ring rfl rfl (vs:=[_,_]) rfl (nb9 rfl) (faP fd.Auto_5 rfl rfl (ldPC ce.Arcs rfl rfl rfl (clv rfl vL (TidyS (l:=a.arcs) e3 (fun x hx=>(h.arc x hx).2.2.1) za.arc) (bd2 (cs:=[_,_,_,_,_,_,_]) z.Auto pl.Auto (pvC (by exact evA rfl) (pvC (by exact evD rfl) (pvC (by exact evD rfl) (pvC (by exact evD rfl) (pvC (by exact evD rfl) (pvC (by exact evD rfl) (pvN))))))) (by rfl) (sto sz.Auto rfl rfl rfl rfl rfl (nb9 rfl) (cells2:=[_,_,_,_,_,_,_]) rfl ?_)))))))
 refine asD rfl (OL.nil ?_)
 exact AW.ret (RetQ.r ⟨_,.cellA rfl rfl ag.Auto (nb9 rfl) (.tmp rfl .nil),_,.cons (.ag (.cons (.le vR) (.cons (.le vR) (.cons (.le vR) (.cons (.le vR) (.cons (.le vR) (.cons (.le vR) (.cons (.le vR) .nil)))))))) (.cons (.le vR) .nil),rfl⟩)
theorem ReadyS {a:Au}(h:a.Ok)(za:a.Sz 134217728 64)(s1:a.sym≤32)(s2:a.st≤64){w:List Int}(hw:InW a.sym w)(hl:w.length≤256):FSpec P F.weigh_Ready [vAu a,.d (ints w)] (.tup [vAu (normOf a),.d (dI 0)]):=by
 have e0:=h.sym0
 have e1:=h.ini
 have e2:=h.fin
 have e3:=za.num
 have tl:=tidyA_len a.arcs
 refine FSpec.intro fn.weigh_Ready (by rfl) (by rfl) (nb9 (by rfl)) fun E hE=>(AW.sg hE rfl (bxA rfl rfl fun b2=>(al z.Auto rfl fun b4=>(asD rfl (OL.nil (AW.sg hE rfl (ldPA ag.Auto rfl rfl (vs:=[_,_,_,_,_,_,_]) rfl (nb9 rfl) ?_)))))))
 refine clv rfl .rq1 (NormalS h za s1 s2) (mvT rfl (ex rfl rfl (ex rfl rfl (al z.Auto rfl fun b6=>(sto sz.Auto rfl rfl rfl rfl rfl (nb9 rfl) (cells2:=[_,_,_,_,_,_,_]) rfl (asD rfl (OL.nil ?_)))))))
 refine AW.seq (AW.block (AW.sg hE rfl (mvD rfl (c_neq rfl rfl (c:=false) (by exact cne_f (by omega)) (asD rfl (OL.nil (cnF rfl ?_)))))))
 refine AW.sg hE rfl (faP fd.Auto_5 rfl rfl (ldPC ce.Arcs rfl rfl rfl (clv rfl vL (containsAc (l:=(normOf a).arcs) (f:=F.weigh_Ready_1) (caps:=[]) (p:=fun _=>false) (fun x hx=>Ready_1 (normOf_lab h x hx)) (by show (tidyA a.arcs).length≤_;omega)) ?_)))
 rw [any_false fun x _=>rfl]
 refine asD rfl (OL.nil (cnF rfl ?_))
 refine AW.sg hE rfl (mvD rfl (faP fd.Auto_1 rfl rfl (ldPC ce.int rfl rfl rfl (clv rfl vL (words_ValidW (s:=a.sym) hw hl ⟨e0,s1⟩) (nt rfl (asD rfl (OL.nil ?_)))))))
 refine cnF rfl ?_
 refine AW.skip (AW.sg hE rfl (ldPA ag.Auto rfl rfl (vs:=[_,_,_,_,_,_,_]) rfl (nb9 rfl) (sto sz.Auto rfl rfl rfl rfl rfl (nb9 rfl) (cells2:=[_,_,_,_,_,_,_]) rfl (asD rfl (OL.nil ?_)))))
 exact AW.ret (RetQ.r ⟨_,.cellA rfl rfl ag.Auto (nb9 rfl) (.tmp rfl .nil),_,.cons (.ag (.cons (.le vR) (.cons (.le vR) (.cons (.le vR) (.cons (.le vR) (.cons (.le vR) (.cons (.le vR) (.cons (.le vR) .nil)))))))) (.cons (.le vR) .nil),rfl⟩)
set_option maxRecDepth 8000 in
set_option maxHeartbeats 1600000 in
theorem ForwardS {a:Au}(h:a.Ok)(za:a.Sz 134217728 64)(s1:a.sym≤32)(s2:a.st≤64){w:List Int}(hw:InW a.sym w)(hl:w.length≤256)(zz:FwSz (normOf a) w):FSpec P F.weigh_Forward [vAu a,.d (ints w)] (.tup [.d (dWs (fwA (normOf a) w)),.d (dI 0)]):=by
 have e0:=h.sym0
 have e1:=h.ini
 have e2:=h.fin
 have e3:=za.num
 have hn:=norm_ok h
 have tl:=tidyA_len a.arcs
 have e4:(normOf a).arcs.length≤2048:=by show (tidyA a.arcs).length≤_;omega
 refine FSpec.intro fn.weigh_Forward (by rfl) (by rfl) (nb9 (by rfl)) fun E hE=>(AW.sg hE rfl (bxA rfl rfl fun b2=>(asM rfl (asD rfl (OL.nil (AW.sg hE rfl (ldPA ag.Auto rfl rfl (vs:=[_,_,_,_,_,_,_]) rfl (nb9 rfl) ?_)))))))
 refine mvD rfl (clv rfl vL (ReadyS h za s1 s2 hw hl) (mvT rfl (ex rfl rfl (ex rfl rfl (sto sz.Auto rfl rfl rfl rfl rfl (nb9 rfl) (cells2:=[_,_,_,_,_,_,_]) rfl (asD rfl (OL.nil ?_)))))))
 refine AW.seq (AW.sg hE rfl (mvD rfl (c_neq rfl rfl (c:=false) (by exact cne_f (by omega)) (OL.nil (cnF rfl ?_)))))
 refine AW.skip (AW.sg hE rfl (faP fd.Auto_3 rfl rfl (ldPC ce.Weights rfl rfl rfl (asD rfl (OL.nil (AW.seq (AW.sg hE rfl ?_)))))))
 refine mvD rfl (lnL sl.ints rfl rfl (mvD rfl (OL.nil (AW.block ?_))))
 refine AW.whileK (α:=Nat) [(2,_),(4,_),(5,_),(21,_),(22,_)] [(2,_)] (fun i=>[(7,.d (dWs (fwA (normOf a) (w.take i)))),(23,.d (dI i))]) (fun i=>[]) (fun i=>i≤w.length) (fun i=>w.length-i) 0 (.cons (knP rfl) (.cons (knM rfl) (.cons (knD rfl) (.cons (knD rfl) (.cons (knD rfl) .nil))))) (.cons (owB rfl) .nil) ⟨Nat.zero_le _,.rq2,.nil⟩ ?_
 rintro i h1
 have h1:i≤w.length:=h1
 refine AW.sg hE rfl (c_lss rfl rfl rfl (OL.nil (AW.seq (AW.cond rfl (fun h24=>?_) (fun h24=>?_)))))
 ·try simp only [dx9] at h24
  refine AW.skip (AW.seq (AW.block (AW.seq ?_)))
  have hx:=hw (w.getD i 0) (getD_mem (by omega) 0)
  refine AW.rg hE rfl (ixLn sl.ints 0 rfl rfl (by omega) rfl rfl (ldRC ce.int rfl (asD rfl (OL.nil (AW.rg hE rfl (ldPA ag.Auto rfl rfl (vs:=[_,_,_,_,_,_,_]) rfl (nb9 rfl) (mvD rfl ?_)))))))
  refine mvD rfl (clv rfl (.cons vR (.cons vR (.cons (VLe.int (by omega)) .nil))) (StepW (a:=(normOf a)) (v:=fwA (normOf a) (w.take i)) (s:=(w.getD i 0).toNat) hn (fwA_len hn _) (zz.st i (by omega)) s2 e4) (asD rfl (OL.nil (AW.rg hE rfl (add_i64 rfl rfl (by omega) (mvD rfl (OL.nil ?_)))))))
  exact AW.again (x:=i) (i+1) (by omega) ⟨by omega,Knows.app .rq5 (.cons (by rw [fwA_snoc (by omega)];exact VLe.refl _) .rq1),Owns.app (.cons rfl .nil) (.nil)⟩
 ·try simp only [dx9] at h24
  refine AW.exit (AW.seq ?_)
  obtain rfl:i=w.length:=by omega
  exact AW.rg hE rfl (mvD rfl (asD rfl (asD rfl (OL.nil (AW.ret (RetQ.r ⟨_,.tmp rfl (.tmp rfl .nil),_,.cons (.le (by rw [List.take_length];exact VLe.refl _)) (.cons (.le vR) .nil),rfl⟩))))))
set_option maxHeartbeats 800000 in
theorem WeightS {a:Au}(h:a.Ok)(za:a.Sz 134217728 64)(s1:a.sym≤32)(s2:a.st≤64){w:List Int}(hw:InW a.sym w)(hl:w.length≤256)(zz:FwSz (normOf a) w):FSpec P F.weigh_Weight [vAu a,.d (ints w)] (.tup [vW (serA a w),.d (dI 0)]):=by
 have hn:=norm_ok h
 have e9:dotF (fwA (normOf a) w) a.fin a.st=serA a w:=by
  have h9:=dotF_ser hn (u:=w) hw
  rw [ser_norm] at h9
  exact h9
 refine FSpec.intro fn.weigh_Weight (by rfl) (by rfl) (nb9 (by rfl)) fun E hE=>(AW.sg hE rfl (bxA rfl rfl fun b2=>(al z.Weight rfl fun b4=>(asD rfl (OL.nil (AW.sg hE rfl (ldPA ag.Auto rfl rfl (vs:=[_,_,_,_,_,_,_]) rfl (nb9 rfl) ?_)))))))
 refine mvD rfl (clv rfl vL (ForwardS h za s1 s2 hw hl zz) (mvT rfl (ex rfl rfl (ex rfl rfl (asD rfl (asD rfl (OL.nil ?_)))))))
 refine AW.seq (AW.sg hE rfl (mvD rfl (c_neq rfl rfl (c:=false) (by exact cne_f (by omega)) (OL.nil (cnF rfl ?_)))))
 refine AW.skip (AW.sg hE rfl (faP fd.Auto_0 rfl rfl (ldPA ag.Ring rfl rfl (vs:=[_,_]) rfl (nb9 rfl) (mvD rfl (faP fd.Auto_4 rfl rfl (ldPC ce.Weights rfl rfl rfl (clv rfl vL (DotW (v:=fwA (normOf a) w) (u:=a.fin) (n:=a.st) (fwA_len hn w) h.fin s2 zz.zv zz.zf zz.zd) ?_)))))))
 rw [e9]
 refine sto sz.Weight rfl rfl rfl rfl rfl (nb9 rfl) (cells2:=[_,_,_,_,_,_,_,_]) rfl (asD rfl (OL.nil ?_))
 exact AW.ret (RetQ.r ⟨_,.cellA rfl rfl ag.Weight (nb9 rfl) (.tmp rfl .nil),_,.cons (.ag (.cons (.le vR) (.cons (.le vR) (.cons (.le vR) (.cons (.le vR) (.cons (.le vR) (.cons (.le vR) (.cons (.le vR) (.cons (.le vR) .nil))))))))) (.cons (.le vR) .nil),rfl⟩)
end Go.Proofs.YteiohkpjgcioaaaGreatDoor
namespace Go.AL
open Go Go.BigFrame
section
variable {m:Mach}{B k:Nat}{V K Q:List (List Int)}{w u:List Int}{rs:List SRow}{y:KSt}{v:List Rat}{r:SRow}
def nextW (k:Nat)(K:List (List Int)):List (List Int):=[]::K.flatMap (kidsW k)
theorem nextW_snoc:nextW k (K++[w])=nextW k K++kidsW k w:=by
 unfold nextW
 rw [List.flatMap_append,List.flatMap_cons,List.flatMap_nil,List.append_nil,List.cons_append]
structure InvS (m:Mach) (B:Nat) (Q:List (List Int)) (y:KSt):Prop where
 sp:SpOK m.n B y.rs
 join:∃ V,Join m V y.ks Q y.rs∧V++Q=nextW m.k y.ks
 len:LenK y.ks Q
 lead:∀ r,r ∈ y.rs→r.p=firstP r.v
 ord:y.ks.Pairwise fun a b=>slx a b<0
theorem InvS.start (m:Mach)(B:Nat):InvS m B [[]] ⟨[],[]⟩:=⟨SpOK.nil,⟨[],Join.start m,rfl⟩,LenK.start,fun _ h=>(by cases h),List.Pairwise.nil⟩
theorem InvS.b (h:InvS m B Q y):InvB m B Q y:=⟨h.sp,have ⟨V,j,_⟩:=h.join;⟨V,j⟩,h.len⟩
theorem InvS.next (ok:m.Ok)(h1:1≤B)(hz:∀ i,sz ((vecM m w).getD i 0)≤B)(h:InvS m B (w::Q) y) :
  ((keepB m w y).1=true→InvS m B (Q++kidsW m.k w) (keepB m w y).2∧leftM m (Q++kidsW m.k w) (keepB m w y).2.rs<leftM m (w::Q) y.rs)∧((keepB m w y).1=false→InvS m B Q (keepB m w y).2∧leftM m Q (keepB m w y).2.rs<leftM m (w::Q) y.rs):=by
 obtain ⟨V,j,e⟩:=h.join
 unfold keepB
 by_cases hg:growsS y.rs (vecM m w)=true
 ·rw [if_pos hg]
  refine ⟨fun _=>⟨⟨h.sp.grow (vecM_len ok w) h1 hz hg,⟨_,j.keep ok hg,?_⟩,h.len.keep,fun r hr=>?_,?_⟩,left_keep ok j hg⟩,fun x=>by cases x⟩
  ·show V++[w]++(Q++kidsW m.k w)=nextW m.k (y.ks++[w])
   rw [nextW_snoc,← e,List.append_assoc,List.append_assoc];rfl
  ·rcases mp9 hr with hr|hr
   ·exact h.lead r hr
   ·rw [ms9 hr];rfl
  ·refine List.pairwise_append.2 ⟨h.ord,List.pairwise_singleton ..,fun u hu q hq=>?_⟩
   rw [ms9 hq]
   exact (List.pairwise_append.1 j.bfs.ord).2.2 u (j.bfs.sub u hu) w mc9
 ·rw [if_neg hg]
  have hg:growsS y.rs (vecM m w)=false:=by simpa using hg
  exact ⟨fun x=>(by cases x),fun _=>⟨⟨h.sp,⟨_,j.drop ok hg,by rw [List.append_assoc];exact e⟩,h.len.drop,h.lead,h.ord⟩,left_drop⟩⟩
end
section
variable {a:Au}{n s j k B C N:Nat}{v:List Rat}{l:List Arc9}
theorem stepF_szG (hv:∀ i,sz (v.getD i 0)≤B)(hl:∀ x,x ∈ l→x.t<n∧sz x.q≤C)(hN:l.length≤N)(h1:1≤B+C):sz ((stepF n v s l).getD j 0)≤N*(B+C+1)+1:=by
 rw [stepF_get fun x hx=>(hl x hx).1]
 have h2:=lsum_szA (f:=inF v s j) (C:=B+C) (l:=l) fun x hx=>by
  unfold inF
  split
  ·have:=sz_mul (v.getD x.f 0) x.q
   have:=hv x.f
   have:=(hl x hx).2
   omega
  ·rw [sz_zero];exact h1
 have h3:=Nat.mul_le_mul_right (B+C+1) hN
 omega
structure Au.Fw (a:Au):Prop where
 ok:a.Ok
 few:a.Few
 s4:a.sym≤4
 st1:1≤a.st
 arc:∀ x,x ∈ a.arcs→sz x.q≤5000
 num:a.arcs.length≤40
end
def coinS:HM:=⟨1,1,0,[1],[[1 / 2]],[1 / 2],[[1]],[false],[0]⟩
def oneW (n:Nat):List Int:=List.replicate n 1
theorem oneW_len (n:Nat):(oneW n).length=n:=List.length_replicate
theorem oneW_in (n:Nat):InW 1 (oneW n):=fun x hx=>by rw [(List.mem_replicate.1 hx).2];exact ⟨by decide,by decide⟩
theorem oneW_take {n k:Nat}(h:k≤n):(oneW n).take k=oneW k:=by unfold oneW;rw [List.take_replicate,Nat.min_eq_left h]
theorem half_share:Share (1 / 2):=⟨by decide +kernel,by decide +kernel⟩
theorem one_row {P:Rat→Prop}{x:Rat}(h:P x)(i:Nat):∀ q,q ∈ ([[x]]:List (List Rat)).getD i []→P q:=fun q hq=>by
 cases i with
 | zero=>rw [ms9 (show q ∈ [x] from hq)];exact h
 | succ i=>exact absurd (show q ∈ ([]:List Rat) from hq) List.not_mem_nil
theorem sz_o:sz 1≤1:=by rw [sz_one];exact Nat.le_refl _
theorem sz_z:sz 0≤1:=by rw [sz_zero];exact Nat.le_refl _
theorem lone_good {p q:Rat}(hp:Share p)(hq:Share q)(zp:sz p≤1)(zq:sz q≤1)(h:sumQ [p,q]=1):HM.GoodX 1048576 1 ⟨1,1,0,[1],[[p]],[q],[[1]],[false],[0]⟩:=by
 have i0:∀ {i:Nat},i<1→i=0:=fun h=>by omega
 refine ⟨⟨Nat.le_refl _,(by decide:1≤32),Nat.le_refl _,(by decide:1≤12),rfl,rfl,fun i hi=>?_,rfl,rfl,fun i hi=>?_,rfl,rfl,fun i hi=>?_,Nat.le_refl _,by decide,sz_z,.one sz_o,.one zq,one_row zp,one_row sz_o⟩,
  zero_share,fun x hx=>by rw [ms9 hx];exact one_share,fun x hx=>by rw [ms9 hx];exact hq,one_row hp,one_row one_share,?_,fun i hi=>?_,fun i hi=>?_,fun i j hi hj=>?_⟩
 ·rw [i0 hi];rfl
 ·rw [i0 hi];rfl
 ·rw [i0 hi];exact ⟨Int.le_refl _,(by decide:(0:Int)<((1:Nat):Int))⟩
 ·show sumQ [1,0]=1
  rw [sumQ_cons,sumQ_cons,sumQ_nil,Rat.add_zero,Rat.add_zero]
 ·rw [i0 hi];exact h
 ·rw [i0 hi]
  show sumQ [1]=1
  rw [sumQ_cons,sumQ_nil,Rat.add_zero]
 ·exact absurd hi (by change ¬ i<1;omega)
theorem coinS_good:HM.GoodX 1048576 1 coinS:=lone_good half_share half_share half_sz half_sz (by decide +kernel)
section
variable {g:HM}{b B:Nat}
theorem autoHM_ent (h:HM.GoodX b B g)(S F C:Nat):sz (entA (autoHM g).arcs S F C)≤B+B:=by
 show sz (entA (arF g (g.st+1)) S F C)≤_
 rw [entF h (Nat.le_refl _)]
 have hB:=h.form.b1
 have hr:∀ F,Small B (rowHA g F):=fun F=>by unfold rowHA;split;exact h.form.zI;exact h.form.zT _
 split
 ·have h1:=sz_mul ((rowHA g F).getD (C-1) 0) (emQ g (C-1) S)
  have h2:=(hr F).get hB (C-1)
  have h3:sz (emQ g (C-1) S)≤B:=(h.form.zM (C-1)).get hB S
  omega
 ·rw [sz_zero];omega
theorem autoHM_arc (h:HM.GoodX b B g){x:Arc9}(hx:x ∈ (autoHM g).arcs):sz x.q≤B+B:=by
 obtain ⟨f,hf,i,hi,s,hs,rfl⟩:=arF_mem hx
 have hB:=h.form.b1
 have hr:∀ F,Small B (rowHA g F):=fun F=>by unfold rowHA;split;exact h.form.zI;exact h.form.zT _
 have h1:=sz_mul ((rowHA g f).getD i 0) (emQ g i s)
 have h2:=(hr f).get hB i
 have h3:sz (emQ g i s)≤B:=(h.form.zM i).get hB s
 show sz ((rowHA g f).getD i 0*emQ g i s)≤_
 omega
theorem autoHM_ini:Small 1 (autoHM g).ini:=.cons sz_o fun q hq=>by rw [(List.mem_replicate.1 hq).2];exact sz_z
theorem autoHM_fin (h:HM.GoodX b B g):Small B (autoHM g).fin:=.cons h.form.zE h.form.zS
theorem vecH_sz {C:Nat}(h:HM.GoodX b B g)(hC:1≤C){u:List Int}(hw:InW g.sym u)(hf:∀ t j,t<u.length→sz ((fwdF g u t).getD j 0)≤C)(j:Nat):sz ((vecM (machL [autoHM g]) u).getD j 0)≤C:=by
 have hl:(vecM (machL [autoHM g]) u).length=g.st+1:=by rw [vecM_len (mach_ok1 (autoHM_ok h))];exact size_one
 cases u with
 | nil =>
  show sz (((1:Rat)::List.replicate g.st 0++[]).getD j 0)≤C
  rw [List.append_nil]
  exact Nat.le_trans ((autoHM_ini (g:=g)).get (Nat.le_refl _) j) hC
 | cons x r =>
  obtain ⟨h1,h2⟩:=vecH h (n:=r.length) (u:=x::r) rfl hw
  cases j with
  | zero=>rw [h1,sz_zero];exact hC
  | succ j =>
   rcases Nat.lt_or_ge j g.st with hj|hj
   ·rw [h2 j hj];exact hf _ _ (Nat.lt_succ_self _)
   ·rw [getD_ge (by rw [hl];omega),sz_zero];exact hC
end
theorem coinS_lik:likF coinS (oneW 3)=1 / 8:=by decide +kernel
theorem coinS_all:∀ k,k<4→∀ t,t<k→∀ q,q ∈ fwdF coinS (oneW k) t→sz q≤1:=by decide +kernel
theorem coinS_fwd {k t j:Nat}(hk:k≤3)(ht:t<(oneW k).length):sz ((fwdF coinS (oneW k) t).getD j 0)≤1:=by
 rw [oneW_len] at ht
 exact Small.get (fun q hq=>coinS_all k (by omega) t ht q hq) (Nat.le_refl _) j
end Go.AL

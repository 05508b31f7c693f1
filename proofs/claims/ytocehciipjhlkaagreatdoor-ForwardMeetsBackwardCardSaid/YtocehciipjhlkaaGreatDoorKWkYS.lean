/-
  Walks of the specification's layers 6 and 8: the weight of a word, for at most 64 arcs (printed by mk2.py).
-/
import Derived.Test.YtocehciipjhlkaaGreatDoorKWkY
import Derived.Test.YtocehciipjhlkaaGreatDoorKWkGB
set_option linter.unusedVariables false
set_option linter.unusedSimpArgs false
namespace Go.Proofs.YtocehciipjhlkaaGreatDoor
open Go Go.AL
structure Au.Ws (a:Au) (w:List Int):Prop where
 ok:a.Ok
 sz:a.Sz 134217728 64
 s2:a.sym≤32
 st:a.st≤64
 zz:FwSz a w
set_option maxRecDepth 8000 in
set_option maxHeartbeats 3200000 in
theorem r6ArcsRS {l:List Arc9}(nl:l.length≤64)(hz:∀ x,x ∈ l→sz x.q≤134217728):FSpecR P F.ref06_Arcs [vRing,.d (dArcs l)] (formA l).length T.Arc 11 ((formA l).map dArc):=by
 refine FSpecR.intro fn.ref06_Arcs (by rfl) (by rfl) (nb9 (by rfl)) 4 rfl fun E hE=>(AW.sg hE rfl (bxA rfl rfl fun b2=>(asM rfl (OL.nil (AW.sg hE rfl (asM rfl (OL.nil ?_)))))))
 refine AW.seq (AW.seq (AW.own 5 77 T.Arc 11 rfl rfl (AW.rg hE rfl (asD rfl (OL.nil (AW.block ?_))))))
 refine AW.whileK (α:=Nat × Nat × Nat) [(1,_),(2,_),(4,_)] [(2,_)] (fun (i,bq,cq)=>[(5,.osl 77 bq (outI l i).length cq),(6,.d (dI i))]) (fun (i,bq,cq)=>[(77,rowA bq cq (outI l i))]) (fun (i,bq,cq)=>i≤l.length) (fun (i,bq,cq)=>l.length-i) (0,0,0) (.cons (knD rfl) (.cons (knP rfl) (.cons (knM rfl) .nil))) (.cons (owB rfl) .nil) ⟨Nat.zero_le _,.rq2,.cons rfl .nil⟩ ?_
 rintro ⟨i,bq,cq⟩ h1
 have h1:i≤l.length:=h1
 have hlo:=outI_len l i
 have hzo:=outI_sz hz i
 refine AW.seq (AW.sg hE rfl (mvD rfl (mvD rfl (lnL sl.Arcs rfl rfl (c_lss rfl rfl rfl (OL.nil (AW.cond rfl (fun h14=>?_) (fun h14=>?_))))))))
 ·try simp only [dx9] at h14
  refine AW.skip (AW.seq (AW.block (AW.sg hE rfl (mvD rfl (mvD rfl (ixLn sl.Arcs default rfl rfl (by omega) rfl rfl (ldRA ag.Arc rfl (vs:=[_,_,_,_,_,_,_,_,_,_,_]) rfl (nb9 rfl) ?_)))))))
  refine al z.Arc rfl fun b7=>(sto sz.Arc rfl rfl rfl rfl rfl (nb9 rfl) (cells2:=[_,_,_,_,_,_,_,_,_,_,_]) rfl (OL.nil (AW.seq ?_)))
  have hxz:=hz (l.getD i default) (getD_mem (by omega) default)
  refine AW.rg hE rfl (ldPA ag.Ring rfl rfl (vs:=[_,_]) rfl (nb9 rfl) (faP fd.Arc_3 rfl rfl (ldPA ag.Weight rfl rfl (vs:=[_,_,_,_,_,_,_,_]) rfl (nb9 rfl) (clv rfl vL (r3Take (q:=(l.getD i default).q) (by omega)) (faP fd.Arc_3 rfl rfl (sto sz.Weight rfl rfl rfl rfl rfl (nb9 rfl) (cells2:=[_,_,_,_,_,_,_,_,_,_,_]) rfl (OL.nil ?_)))))))
  refine AW.sg hE rfl (asD rfl (OL.nil ?_))
  refine AW.midK (α:=Unit) [(1,_),(2,_),(4,_),(5,_),(6,_),(7,_)] [(2,_),(7,_),(77,_)] (fun _u=>[(8,.d (dI (atA (outI l i) (l.getD i default))))]) (fun _u=>[]) (fun _u=>True) (.cons (knD rfl) (.cons (knP rfl) (.cons (knM rfl) (.cons (knO rfl) (.cons (knD rfl) (.cons (knP rfl) .nil)))))) (.cons (owB rfl) (.cons (owB rfl) (.cons (owR rfl) .nil))) ?_ ?_
  ·refine AW.block ?_
   refine AW.whileK (α:=Nat) [(1,_),(2,_),(4,_),(5,_),(6,_),(7,_)] [(2,_),(7,_),(77,_)] (fun k=>[(8,.d (dI k))]) (fun k=>[]) (fun k=>k≤(outI l i).length∧∀ j,j<k→ordA ((outI l i).getD j default) (l.getD i default)<0) (fun k=>(outI l i).length-k) 0 (.cons (knD rfl) (.cons (knP rfl) (.cons (knM rfl) (.cons (knO rfl) (.cons (knD rfl) (.cons (knP rfl) .nil)))))) (.cons (owB rfl) (.cons (owB rfl) (.cons (owR rfl) .nil))) ⟨⟨Nat.zero_le _,fun j hj=>by omega⟩,.rq1,.nil⟩ ?_
   rintro k ⟨h2,h3⟩
   have h2:k≤(outI l i).length:=h2
   have h3:∀ j,j<k→ordA ((outI l i).getD j default) (l.getD i default)<0:=h3
   refine AW.seq (AW.seq (AW.dg 1 [0,1,2,3,4,5,6,7,8,9,10,11,12] order_free hE rfl (by kernel_rfl) (OI.of_OL (os:=[_,_,_,_,_,_,_,_,_,_,_,_,_]) rfl ?_)))
   refine mvD rfl (mvO rfl (lnO sl.Arcs rfl rfl (c_lss rfl rfl rfl (mvD rfl (OL.split 30 rfl (fun hk=>?_) (fun hk=>?_))))))
   ·have hk:k<(outI l i).length:=by have:=dt9 hk;omega
    refine OL.yes rfl (mvO rfl (OL.yes rfl (mvD rfl (OL.yes rfl (ixOn sl.Arcs rfl rfl (by omega) (OL.yes rfl (ldEA ag.Arc (by decide) rfl rfl (rowA_el (show k<(outI l i).length by omega)) (vs:=cellsArc ((outI l i).getD k default)) rfl (nb9 rfl) ?_)))))))
    refine OL.yes rfl (ldPA ag.Arc rfl rfl (vs:=[_,_,_,_,_,_,_,_,_,_,_]) rfl (nb9 rfl) (OL.yes rfl (clv rfl vL (r6order (x:=(outI l i).getD k default) (y:=(l.getD i default))) (OL.yes rfl (c_lss rfl rfl rfl (OL.split 37 rfl (fun ho=>?_) (fun ho=>?_)))))))
    ·have ho:ordA ((outI l i).getD k default) (l.getD i default)<0:=dt9 ho
     refine pkT rfl rfl (OL.nil (cnT rfl ?_))
     refine AW.skip (AW.block (AW.rg hE rfl (mvD rfl (add_i64 rfl rfl (by omega) (asD rfl (OL.nil ?_))))))
     exact AW.again (x:=k) (k+1) (by omega) ⟨⟨by omega,fun j hj=>by rcases Nat.lt_or_ge j k with h|h;exact h3 j h;obtain rfl:j=k:=(by omega);exact ho⟩,Knows.app .rq6 .rq1,Owns.app (.cons rfl (.cons rfl (.cons rfl .nil))) (.nil)⟩
    ·have ho:¬ ordA ((outI l i).getD k default) (l.getD i default)<0:=df9 ho
     refine pkT rfl rfl (OL.nil (cnF rfl ?_))
     refine AW.exit ?_
     exact AW.reach () ⟨trivial,Knows.app .rq6 (.cons (VLe.int (by rw [atA_eq h2 h3 (.inr ho)])) .nil),Owns.app (.cons rfl (.cons rfl (.cons rfl .nil))) (.nil)⟩
   ·have hk:(outI l i).length≤k:=by have:=df9 hk;omega
    refine OL.nd rfl (OL.nd rfl (OL.nd rfl (OL.nd rfl (OL.nd rfl (OL.nd rfl (OL.nd rfl (pkF rfl rfl ?_)))))))
    refine OL.nil (cnF rfl ?_)
    refine AW.exit ?_
    exact AW.reach () ⟨trivial,Knows.app .rq6 (.cons (VLe.int (by rw [atA_eq h2 h3 (.inl (by omega))])) .nil),Owns.app (.cons rfl (.cons rfl (.cons rfl .nil))) (.nil)⟩
  rintro ⟨⟩ -
  have hat:(atA (outI l i) (l.getD i default))≤(outI l i).length:=List.findIdx_le_length
  refine AW.seq (AW.seq (AW.dg 1 [0,1,2,3,4,5,6,7,8,9,10,11,12] order_free hE rfl (by kernel_rfl) (OI.of_OL (os:=[_,_,_,_,_,_,_,_,_,_,_,_,_]) rfl ?_)))
  refine mvD rfl (mvO rfl (lnO sl.Arcs rfl rfl (c_lss rfl rfl rfl (mvD rfl (OL.split 45 rfl (fun ha=>?_) (fun ha=>?_))))))
  ·have ha:(atA (outI l i) (l.getD i default))<(outI l i).length:=by have:=dt9 ha;omega
   refine OL.yes rfl (mvO rfl (OL.yes rfl (mvD rfl (OL.yes rfl (ixOn sl.Arcs rfl rfl (by omega) (OL.yes rfl (ldEA ag.Arc (by decide) rfl rfl (rowA_el (show (atA (outI l i) (l.getD i default))<(outI l i).length by omega)) (vs:=cellsArc ((outI l i).getD (atA (outI l i) (l.getD i default)) default)) rfl (nb9 rfl) ?_)))))))
   refine OL.yes rfl (ldPA ag.Arc rfl rfl (vs:=[_,_,_,_,_,_,_,_,_,_,_]) rfl (nb9 rfl) (OL.yes rfl (clv rfl vL (r6order (x:=((outI l i).getD (atA (outI l i) (l.getD i default)) default)) (y:=(l.getD i default))) (OL.yes rfl (c_eql rfl rfl rfl (OL.split 52 rfl (fun ho=>?_) (fun ho=>?_)))))))
   ·have ho:ordA ((outI l i).getD (atA (outI l i) (l.getD i default)) default) (l.getD i default)=0:=dt9 ho
    have hyz:=hzo ((outI l i).getD (atA (outI l i) (l.getD i default)) default) (getD_mem ha default)
    refine pkT rfl rfl (OL.nil (cnT rfl ?_))
    refine AW.seq (AW.dg 1 [0,1,2,3,4,5,6,7,8,9,10,11,12,13] order_free hE rfl (by kernel_rfl) (OI.of_OL (os:=[_,_,_,_,_,_,_,_,_,_,_,_,_,_]) rfl ?_))
    refine mvO rfl (mvD rfl (ldPA ag.Ring rfl rfl (vs:=[_,_]) rfl (nb9 rfl) (mvO rfl (mvD rfl (ixOn sl.Arcs rfl rfl (by omega) (faE fd.Arc_3 rfl rfl ?_))))))
    refine ldEA ag.Weight (by decide) rfl rfl (rowA_el ha) (vs:=[.d (dB (ofQ ((outI l i).getD (atA (outI l i) (l.getD i default)) default).q).neg),.d (u32s (ofQ ((outI l i).getD (atA (outI l i) (l.getD i default)) default).q).num),.d (u32s (ofQ ((outI l i).getD (atA (outI l i) (l.getD i default)) default).q).den),.d (dI 0),.d (dB false),.d (dU 0),.d (.sl []),.d (.sl [])]) rfl (nb9 rfl) ?_
    refine faP fd.Arc_3 rfl rfl (ldPA ag.Weight rfl rfl (vs:=[_,_,_,_,_,_,_,_]) rfl (nb9 rfl) (clv rfl vL (r3Plus (p:=((outI l i).getD (atA (outI l i) (l.getD i default)) default).q) (q:=(l.getD i default).q) (by omega) (by omega)) (ixOn sl.Arcs rfl rfl (by omega) (faE fd.Arc_3 rfl rfl ?_))))
    refine stF sz.Weight rfl (d:=dW (((outI l i).getD (atA (outI l i) (l.getD i default)) default).q+(l.getD i default).q)) vd_w rfl rfl (rowA_el ha) (by decide) (el2:=dArc { ((outI l i).getD (atA (outI l i) (l.getD i default)) default) with q:=((outI l i).getD (atA (outI l i) (l.getD i default)) default).q+(l.getD i default).q }) rfl (es2:=((outI l i).set (atA (outI l i) (l.getD i default)) { ((outI l i).getD (atA (outI l i) (l.getD i default)) default) with q:=((outI l i).getD (atA (outI l i) (l.getD i default)) default).q+(l.getD i default).q }).map dArc) (by rw [List.map_set]) ?_
    refine OL.nil (AW.exit (AW.rg hE rfl (mvD rfl (add_i64 rfl rfl (by omega) (asD rfl (OL.nil ?_))))))
    exact AW.again (x:=(i,bq,cq)) (i+1,bq,cq) (by (simp only [];omega)) ⟨by omega,Knows.app .rq3 (.cons (by rw [outI_succ (by omega),insA,if_pos ⟨ha,ho⟩,List.length_set];exact VLe.refl _) .rq1),Owns.app (.cons rfl .nil) (.cons (by rw [outI_succ (by omega),insA,if_pos ⟨ha,ho⟩];rfl) .nil)⟩
   ·have ho:¬ ordA ((outI l i).getD (atA (outI l i) (l.getD i default)) default) (l.getD i default)=0:=df9 ho
    have hin:insA (outI l i) (l.getD i default)=(outI l i).take (atA (outI l i) (l.getD i default))++(l.getD i default)::(outI l i).drop (atA (outI l i) (l.getD i default)):=if_neg (fun e=>ho e.2)
    refine pkT rfl rfl (OL.nil (cnF rfl ?_))
    refine AW.skip ?_
    have htk:((outI l i).take (atA (outI l i) (l.getD i default))).length=(atA (outI l i) (l.getD i default)):=by rw [List.length_take];omega
    have hdl:((outI l i).drop (atA (outI l i) (l.getD i default))).length=(outI l i).length-(atA (outI l i) (l.getD i default)):=List.length_drop
    refine AW.freeze 77 rfl (AW.to [(1,.d (dArcs l)),(2,.ptr 2 b2 0),(4,.mt),(5,.d (dArcs (outI l i))),(6,.d (dI i)),(7,.ptr 7 b7 0),(8,.d (dI (atA (outI l i) (l.getD i default))))] [(2,.box b2 T.Ring [.d (dI 1),.d (.sl [])]),(7,.box b7 T.Arc (cellsArc (l.getD i default)))] (.cons vR (.cons VLe.ptr (.cons vR (.cons (frz_osl (by rw [lm9]) rfl) (.cons vR (.cons VLe.ptr .rq1)))))) (.cons rfl (.cons rfl .nil)) ?_)
    refine AW.dg 2 [0,1,2,4,5,7,8,9,3,6,10,11] order_free hE rfl (by kernel_rfl) (OI.of_OL (os:=[_,_,_,_,_,_,_,_,_,_,_,_]) rfl ?_)
    refine mvD rfl (mvD rfl (slTo sl.Arcs rfl rfl (fun _=>rfl) (by omega) (l2:=(outI l i).take (atA (outI l i) (l.getD i default))) (by rw [Int.toNat_natCast]) (ldPA ag.Arc rfl rfl (vs:=[_,_,_,_,_,_,_,_,_,_,_]) rfl (nb9 rfl) (lt1 (y:=dArc (l.getD i default)) sl.Arcs vd_arc rfl (by decide) (mvD rfl (mvD rfl (slFrom sl.Arcs rfl rfl (fun _=>rfl) (by omega) (l2:=(outI l i).drop (atA (outI l i) (l.getD i default))) (by rw [Int.toNat_natCast]) ?_)))))))
    refine apM sl.Arcs rfl rfl (VC.d _) arcs_len (by rw [lm9,htk];omega) (by rw [lm9,htk];omega) rfl fun b70 c70=>?_
    refine apO sl.Arcs rfl rfl rfl (by rw [lm9]) (VC.d _) (fun y hy=>by rw [ms9 hy];rfl) (by rw [lm9,htk];simp only [ls9];omega) (by rw [lm9,htk];simp only [ls9];omega) (.inl rfl) (ys:=((outI l i).take (atA (outI l i) (l.getD i default))++[(l.getD i default)]).map dArc) (by rw [List.map_append];rfl) (n2:=(atA (outI l i) (l.getD i default))+1) (by rw [lm9,htk];rfl) fun b73 c73=>?_
    refine apO sl.Arcs rfl rfl rfl (by rw [lm9,la9,htk];rfl) (VC.d _) arcs_len (by rw [lm9,hdl];omega) (by rw [lm9,hdl];omega) (.inl rfl) (ys:=((outI l i).take (atA (outI l i) (l.getD i default))++(l.getD i default)::(outI l i).drop (atA (outI l i) (l.getD i default))).map dArc) (by rw [← List.map_append,List.append_assoc];rfl) (n2:=((outI l i).take (atA (outI l i) (l.getD i default))++(l.getD i default)::(outI l i).drop (atA (outI l i) (l.getD i default))).length) (by rw [lm9,hdl,la9,List.length_cons,htk,hdl];omega) fun b77 c77=>?_
    refine asO rfl (OL.nil (AW.rg hE rfl (mvD rfl (add_i64 rfl rfl (by omega) (asD rfl (OL.nil ?_))))))
    exact AW.again (x:=(i,bq,cq)) (i+1,b77,c77) (by (simp only [];omega)) ⟨by omega,Knows.app .rq3 (.cons (by rw [outI_succ (by omega),hin];exact VLe.refl _) .rq1),Owns.app (.cons rfl .nil) (.cons (by rw [outI_succ (by omega),hin];rfl) .nil)⟩
  ·have ha:¬ (atA (outI l i) (l.getD i default))<(outI l i).length:=by have:=df9 ha;omega
   have hin:insA (outI l i) (l.getD i default)=(outI l i).take (atA (outI l i) (l.getD i default))++(l.getD i default)::(outI l i).drop (atA (outI l i) (l.getD i default)):=if_neg (fun e=>ha e.1)
   refine OL.nd rfl (OL.nd rfl (OL.nd rfl (OL.nd rfl (OL.nd rfl (OL.nd rfl (OL.nd rfl (pkF rfl rfl ?_)))))))
   refine OL.nil (cnF rfl ?_)
   refine AW.skip ?_
   have htk:((outI l i).take (atA (outI l i) (l.getD i default))).length=(atA (outI l i) (l.getD i default)):=by rw [List.length_take];omega
   have hdl:((outI l i).drop (atA (outI l i) (l.getD i default))).length=(outI l i).length-(atA (outI l i) (l.getD i default)):=List.length_drop
   refine AW.freeze 77 rfl (AW.to [(1,.d (dArcs l)),(2,.ptr 2 b2 0),(4,.mt),(5,.d (dArcs (outI l i))),(6,.d (dI i)),(7,.ptr 7 b7 0),(8,.d (dI (atA (outI l i) (l.getD i default))))] [(2,.box b2 T.Ring [.d (dI 1),.d (.sl [])]),(7,.box b7 T.Arc (cellsArc (l.getD i default)))] (.cons vR (.cons VLe.ptr (.cons vR (.cons (frz_osl (by rw [lm9]) rfl) (.cons vR (.cons VLe.ptr .rq1)))))) (.cons rfl (.cons rfl .nil)) ?_)
   refine AW.dg 2 [0,1,2,4,5,7,8,9,3,6,10,11] order_free hE rfl (by kernel_rfl) (OI.of_OL (os:=[_,_,_,_,_,_,_,_,_,_,_,_]) rfl ?_)
   refine mvD rfl (mvD rfl (slTo sl.Arcs rfl rfl (fun _=>rfl) (by omega) (l2:=(outI l i).take (atA (outI l i) (l.getD i default))) (by rw [Int.toNat_natCast]) (ldPA ag.Arc rfl rfl (vs:=[_,_,_,_,_,_,_,_,_,_,_]) rfl (nb9 rfl) (lt1 (y:=dArc (l.getD i default)) sl.Arcs vd_arc rfl (by decide) (mvD rfl (mvD rfl (slFrom sl.Arcs rfl rfl (fun _=>rfl) (by omega) (l2:=(outI l i).drop (atA (outI l i) (l.getD i default))) (by rw [Int.toNat_natCast]) ?_)))))))
   refine apM sl.Arcs rfl rfl (VC.d _) arcs_len (by rw [lm9,htk];omega) (by rw [lm9,htk];omega) rfl fun b70 c70=>?_
   refine apO sl.Arcs rfl rfl rfl (by rw [lm9]) (VC.d _) (fun y hy=>by rw [ms9 hy];rfl) (by rw [lm9,htk];simp only [ls9];omega) (by rw [lm9,htk];simp only [ls9];omega) (.inl rfl) (ys:=((outI l i).take (atA (outI l i) (l.getD i default))++[(l.getD i default)]).map dArc) (by rw [List.map_append];rfl) (n2:=(atA (outI l i) (l.getD i default))+1) (by rw [lm9,htk];rfl) fun b73 c73=>?_
   refine apO sl.Arcs rfl rfl rfl (by rw [lm9,la9,htk];rfl) (VC.d _) arcs_len (by rw [lm9,hdl];omega) (by rw [lm9,hdl];omega) (.inl rfl) (ys:=((outI l i).take (atA (outI l i) (l.getD i default))++(l.getD i default)::(outI l i).drop (atA (outI l i) (l.getD i default))).map dArc) (by rw [← List.map_append,List.append_assoc];rfl) (n2:=((outI l i).take (atA (outI l i) (l.getD i default))++(l.getD i default)::(outI l i).drop (atA (outI l i) (l.getD i default))).length) (by rw [lm9,hdl,la9,List.length_cons,htk,hdl];omega) fun b77 c77=>?_
   refine asO rfl (OL.nil (AW.rg hE rfl (mvD rfl (add_i64 rfl rfl (by omega) (asD rfl (OL.nil ?_))))))
   exact AW.again (x:=(i,bq,cq)) (i+1,b77,c77) (by (simp only [];omega)) ⟨by omega,Knows.app .rq3 (.cons (by rw [outI_succ (by omega),hin];exact VLe.refl _) .rq1),Owns.app (.cons rfl .nil) (.cons (by rw [outI_succ (by omega),hin];rfl) .nil)⟩
 ·try simp only [dx9] at h14
  refine AW.exit (AW.seq ?_)
  obtain rfl:i=l.length:=by omega
  refine AW.freeze 77 rfl (AW.to [(2,.ptr 2 b2 0),(4,.mt),(5,.d (dArcs (outI l l.length)))] [(2,.box b2 T.Ring [.d (dI 1),.d (.sl [])])] (.cons VLe.ptr (.cons vR (.cons (frz_osl (by rw [lm9]) rfl) .nil))) (.cons rfl .nil) ?_)
  refine AW.rg hE rfl (asM rfl (OL.nil (AW.seq (AW.seq (AW.own 9 98 T.Arc 11 rfl rfl (AW.rg hE rfl (asD rfl ?_)))))))
  refine OL.nil (AW.block ?_)
  refine AW.whileK (α:=Nat × Nat × Nat) [(2,_),(4,_),(5,_)] [(2,_)] (fun (k,bk,ck)=>[(9,.osl 98 bk (nzA ((outI l l.length).take k)).length ck),(10,.d (dI k))]) (fun (k,bk,ck)=>[(98,rowA bk ck (nzA ((outI l l.length).take k)))]) (fun (k,bk,ck)=>k≤(outI l l.length).length) (fun (k,bk,ck)=>(outI l l.length).length-k) (0,0,0) (.cons (knP rfl) (.cons (knM rfl) (.cons (knD rfl) .nil))) (.cons (owB rfl) .nil) ⟨Nat.zero_le _,.rq2,.cons rfl .nil⟩ ?_
  rintro ⟨k,bk,ck⟩ h5
  have h5:k≤(outI l l.length).length:=h5
  have hnl:(nzA ((outI l l.length).take k)).length≤k:=by unfold nzA;refine Nat.le_trans (List.length_filter_le ..) ?_;rw [List.length_take];omega
  refine AW.seq (AW.sg hE rfl (mvD rfl (mvD rfl (lnL sl.Arcs rfl rfl (c_lss rfl rfl rfl (OL.nil (AW.cond rfl (fun h81=>?_) (fun h81=>?_))))))))
  ·try simp only [dx9] at h81
   refine AW.skip (AW.seq (AW.block (AW.seq ?_)))
   have hk9:k<(outI l l.length).length:=by omega
   have hyz:=outI_sz hz l.length _ (getD_mem hk9 default)
   have hyz2:sz ((outI l l.length).getD k default).q≤68719476736:=by have:=Nat.mul_le_mul_right 134217730 (show l.length+1≤65 by omega);omega
   refine AW.dg 1 [0,1,2,3,4,5,6,7] order_free hE rfl (by kernel_rfl) (OI.of_OL (os:=[_,_,_,_,_,_,_,_]) rfl ?_)
   refine ldPA ag.Ring rfl rfl (vs:=[_,_]) rfl (nb9 rfl) (mvD rfl (mvD rfl (ixLn sl.Arcs default rfl rfl hk9 rfl rfl (faR fd.Arc_3 rfl rfl (ldRA ag.Weight rfl (vs:=[_,_,_,_,_,_,_,_]) rfl (nb9 rfl) (clv rfl vL (r3IsZero (q:=((outI l l.length).getD k default).q) hyz2) (nt rfl ?_)))))))
   refine OL.nil (AW.cond rfl (fun hq=>?_) (fun hq=>?_))
   ·have hq:((outI l l.length).getD k default).q≠0:=nd_t hq
    refine AW.rg hE rfl (mvO rfl (mvD rfl (mvD rfl (ixLn sl.Arcs default rfl rfl hk9 rfl rfl (ldRA ag.Arc rfl (vs:=[_,_,_,_,_,_,_,_,_,_,_]) rfl (nb9 rfl) (lt1 (y:=dArc ((outI l l.length).getD k default)) sl.Arcs vd_arc rfl (by decide) ?_))))))
    refine apO sl.Arcs rfl rfl rfl (by rw [lm9]) (VC.d _) (fun y hy=>by rw [ms9 hy];rfl) (by simp;omega) (by simp;omega) (.inr rfl) (ys:=(nzA ((outI l l.length).take k)++[(outI l l.length).getD k default]).map dArc) (by rw [List.map_append];rfl) (n2:=(nzA ((outI l l.length).take k)++[(outI l l.length).getD k default]).length) (by rw [la9];rfl) fun b98 c98=>?_
    refine asO rfl (OL.nil (AW.rg hE rfl (mvD rfl (add_i64 rfl rfl (by omega) (asD rfl (OL.nil ?_))))))
    exact AW.again (x:=(k,bk,ck)) (k+1,b98,c98) (by (simp only [];omega)) ⟨by omega,Knows.app .rq3 (.cons (by rw [nzA_snoc hk9,if_pos hq];exact VLe.refl _) .rq1),Owns.app (.cons rfl .nil) (.cons (by rw [nzA_snoc hk9,if_pos hq];rfl) .nil)⟩
   ·have hq:((outI l l.length).getD k default).q=0:=nd_f hq
    refine AW.skip (AW.rg hE rfl (mvD rfl (add_i64 rfl rfl (by omega) (asD rfl (OL.nil ?_)))))
    exact AW.again (x:=(k,bk,ck)) (k+1,bk,ck) (by (simp only [];omega)) ⟨by omega,Knows.app .rq3 (.cons (by rw [nzA_snoc hk9,if_neg (fun e=>e hq),List.append_nil];exact VLe.refl _) .rq1),Owns.app (.cons rfl .nil) (.cons (by rw [nzA_snoc hk9,if_neg (fun e=>e hq),List.append_nil];rfl) .nil)⟩
  ·try simp only [dx9] at h81
   refine AW.exit (AW.seq ?_)
   obtain rfl:k=(outI l l.length).length:=by omega
   have e9:nzA ((outI l l.length).take (outI l l.length).length)=formA l:=by rw [← outI_all,List.take_length]
   dsimp only
   rw [e9]
   exact AW.rg hE rfl (mvO rfl (asO rfl (OL.nil (AW.ret ⟨.inr rfl,98,bk,ck,(formA l).map dArc,rfl,rfl,by rw [lm9];exact Nat.le_refl _,List.take_of_length_le (by rw [lm9];exact Nat.le_refl _)⟩))))
theorem r6ArcsS {l:List Arc9}(nl:l.length≤64)(hz:∀ x,x ∈ l→sz x.q≤134217728):FSpec P F.ref06_Arcs [vRing,.d (dArcs l)] (.d (dArcs (formA l))):=FSpecR.data (r6ArcsRS nl hz) (lm9 ..).symm
theorem r6FormS {a:Au}(h:a.Ok)(za:a.Sz 134217728 64)(s2:a.st≤64):FSpec P F.ref06_Form [vAu a] (vAu (formOf a)):=by
 have e1:=h.ini
 have e2:=h.fin
 have e3:=za.num
 refine FSpec.intro fn.ref06_Form (by rfl) (by rfl) (nb9 (by rfl)) fun E hE=>(AW.sg hE rfl (bxA rfl rfl fun b1=>(al z.Auto rfl fun b2=>(OL.nil (AW.seq (AW.dg 1 [0,1,2,3,4,5,6,7,8,9,10,11,12,13,14,15,16,17,18,19,20,21,22,23] order_free hE rfl (by kernel_rfl) (OI.of_OL (os:=[_,_,_,_,_,_,_,_,_,_,_,_,_,_,_,_,_,_,_,_,_,_,_,_]) rfl ?_)))))))
 refine faP fd.Auto_0 rfl rfl (ldPA ag.Ring rfl rfl (vs:=[_,_]) rfl (nb9 rfl) (clv rfl .rq1 (r6ring) (faP fd.Auto_1 rfl rfl (ldPC ce.int rfl rfl rfl (faP fd.Auto_2 rfl rfl (ldPC ce.int rfl rfl rfl (faP fd.Auto_0 rfl rfl ?_)))))))
 refine ldPA ag.Ring rfl rfl (vs:=[_,_]) rfl (nb9 rfl) (faP fd.Auto_3 rfl rfl (ldPC ce.Weights rfl rfl rfl (clv rfl vL (r6take (l:=a.ini) (by omega) za.ini) (faP fd.Auto_0 rfl rfl (ldPA ag.Ring rfl rfl (vs:=[_,_]) rfl (nb9 rfl) (faP fd.Auto_4 rfl rfl (ldPC ce.Weights rfl rfl rfl ?_)))))))
 refine clv rfl vL (r6take (l:=a.fin) (by omega) za.fin) (faP fd.Auto_0 rfl rfl (ldPA ag.Ring rfl rfl (vs:=[_,_]) rfl (nb9 rfl) (faP fd.Auto_5 rfl rfl (ldPC ce.Arcs rfl rfl rfl (clv rfl vL (r6ArcsS (l:=a.arcs) e3 za.arc) (bd2 (cs:=[_,_,_,_,_,_,_]) z.Auto pl.Auto (pvC (by exact evA rfl) (pvC (by exact evD rfl) (pvC (by exact evD rfl) (pvC (by exact evD rfl) (pvC (by exact evD rfl) (pvC (by exact evD rfl) (pvN))))))) (by rfl) (sto sz.Auto rfl rfl rfl rfl rfl (nb9 rfl) (cells2:=[_,_,_,_,_,_,_]) rfl ?_)))))))
 exact OL.nil (AW.ret (RetQ.r ⟨_,.cellA rfl rfl ag.Auto (nb9 rfl) .nil,.ag (.cons (.le vR) (.cons (.le vR) (.cons (.le vR) (.cons (.le vR) (.cons (.le vR) (.cons (.le vR) (.cons (.le vR) .nil)))))))⟩))
set_option maxHeartbeats 3200000 in
theorem r6ValidS {a:Au}(h:a.Ok)(za:a.Sz 134217728 64)(s1:a.sym≤32)(s2:a.st≤64):FSpec P F.ref06_Valid [vAu a] (.d (dB true)):=by
 have e1:=h.ini
 have e2:=h.fin
 have e3:=za.num
 have h0:=h.sym0
 refine FSpec.intro fn.ref06_Valid (by rfl) (by rfl) (nb9 (by rfl)) fun E hE=>(AW.sg hE rfl (bxA rfl rfl fun b1=>(asD rfl (OL.nil (AW.seq (AW.sg hE rfl (faP fd.Auto_0 rfl rfl ?_)))))))
 refine ldPA ag.Ring rfl rfl (vs:=[_,_]) rfl (nb9 rfl) (clv rfl .rq1 (r3Valid) (nt rfl (mvD rfl (OL.yes rfl (faP fd.Auto_1 rfl rfl (OL.yes rfl (ldPC ce.int rfl rfl rfl ?_)))))))
 refine OL.yes rfl (clv rfl vL (r5Alpha (s:=a.sym) (by omega)) (OL.yes rfl (nt rfl (pkF rfl rfl (mvD rfl (OL.yes rfl (faP fd.Auto_2 rfl rfl ?_)))))))
 refine OL.yes rfl (ldPC ce.int rfl rfl rfl (OL.yes rfl (clv rfl vL (r6In (v:=a.st) (lo:=0) (hi:=64) (by omega)) (OL.yes rfl (nt rfl (pkF rfl rfl (mvD rfl ?_)))))))
 refine OL.yes rfl (faP fd.Auto_0 rfl rfl (OL.yes rfl (ldPA ag.Ring rfl rfl (vs:=[_,_]) rfl (nb9 rfl) (OL.yes rfl (faP fd.Auto_3 rfl rfl (OL.yes rfl (ldPC ce.Weights rfl rfl rfl ?_)))))))
 refine OL.yes rfl (faP fd.Auto_2 rfl rfl (OL.yes rfl (ldPC ce.int rfl rfl rfl (OL.yes rfl (clv rfl (.cons vR (.cons vR (.cons (VLe.int (by omega)) .nil))) (r6Weights (l:=a.ini) (by omega) za.ini) (OL.yes rfl (nt rfl ?_)))))))
 refine pkF rfl rfl (mvD rfl (OL.yes rfl (faP fd.Auto_0 rfl rfl (OL.yes rfl (ldPA ag.Ring rfl rfl (vs:=[_,_]) rfl (nb9 rfl) (OL.yes rfl (faP fd.Auto_4 rfl rfl ?_)))))))
 refine OL.yes rfl (ldPC ce.Weights rfl rfl rfl (OL.yes rfl (faP fd.Auto_2 rfl rfl (OL.yes rfl (ldPC ce.int rfl rfl rfl (OL.yes rfl (clv rfl (.cons vR (.cons vR (.cons (VLe.int (by omega)) .nil))) (r6Weights (l:=a.fin) (by omega) za.fin) ?_)))))))
 refine OL.yes rfl (nt rfl (pkF rfl rfl (mvD rfl (OL.yes rfl (faP fd.Auto_5 rfl rfl (OL.yes rfl (ldPC ce.Arcs rfl rfl rfl ?_)))))))
 refine OL.yes rfl (lnL sl.Arcs rfl rfl (OL.yes rfl (c_gtr rfl rfl (c:=false) (by exact decide_eq_false (by omega)) (pkF rfl rfl (OL.nil (cnF rfl ?_))))))
 refine AW.skip (AW.seq (AW.sg hE rfl (asD rfl (OL.nil (AW.block (AW.whileK (α:=Nat) [(1,_)] [(1,_)] (fun i=>[(3,.d (dI i))]) (fun i=>[]) (fun i=>i≤a.arcs.length) (fun i=>a.arcs.length-i) 0 (.cons (knP rfl) .nil) (.cons (owB rfl) .nil) ⟨Nat.zero_le _,.rq1,.nil⟩ ?_))))))
 rintro i h1
 have h1:i≤a.arcs.length:=h1
 refine AW.seq (AW.sg hE rfl (mvD rfl (faP fd.Auto_5 rfl rfl (ldPC ce.Arcs rfl rfl rfl (lnL sl.Arcs rfl rfl (c_lss rfl rfl rfl (OL.nil ?_)))))))
 refine AW.cond rfl (fun h51=>?_) (fun h51=>?_)
 ·try simp only [dx9] at h51
  refine AW.skip (AW.seq (AW.block (AW.seq ?_)))
  have hm:=getD_mem (l:=a.arcs) (i:=i) (by omega) default
  have hx:=za.arc (a.arcs.getD i default) hm
  obtain ⟨hx1,hx2,hx3,hx4⟩:=h.arc (a.arcs.getD i default) hm
  refine AW.rg hE rfl (faP fd.Auto_5 rfl rfl (ldPC ce.Arcs rfl rfl rfl (mvD rfl (ixLn sl.Arcs default rfl rfl (by omega) rfl rfl (ldRA ag.Arc rfl (vs:=[_,_,_,_,_,_,_,_,_,_,_]) rfl (nb9 rfl) (al z.Arc rfl fun b4=>(sto sz.Arc rfl rfl rfl rfl rfl (nb9 rfl) (cells2:=[_,_,_,_,_,_,_,_,_,_,_]) rfl ?_)))))))
  refine OL.nil (AW.sg hE rfl (faP fd.Arc_0 rfl rfl (ldPC ce.int rfl rfl rfl (faP fd.Auto_2 rfl rfl (ldPC ce.int rfl rfl rfl (bo rfl rfl (bin_sub (c:=(a.st:Int)-1) (by omega) (wrap_i64 (by omega))) (clv rfl vL (r6In (v:=(a.arcs.getD i default).f) (lo:=0) (hi:=(a.st:Int)-1) (by omega)) ?_)))))))
  refine nt rfl (mvD rfl (OL.yes rfl (faP fd.Arc_2 rfl rfl (OL.yes rfl (ldPC ce.int rfl rfl rfl (OL.yes rfl (faP fd.Auto_2 rfl rfl ?_)))))))
  refine OL.yes rfl (ldPC ce.int rfl rfl rfl (OL.yes rfl (bo rfl rfl (bin_sub (c:=(a.st:Int)-1) (by omega) (wrap_i64 (by omega))) (OL.yes rfl (clv rfl vL (r6In (v:=(a.arcs.getD i default).t) (lo:=0) (hi:=(a.st:Int)-1) (by omega)) (OL.yes rfl (nt rfl ?_)))))))
  refine pkF rfl rfl (mvD rfl (OL.yes rfl (faP fd.Arc_1 rfl rfl (OL.yes rfl (ldPC ce.int rfl rfl rfl (OL.yes rfl (faP fd.Auto_1 rfl rfl ?_)))))))
  refine OL.yes rfl (ldPC ce.int rfl rfl rfl (OL.yes rfl (clv rfl vL (r6In (v:=(a.arcs.getD i default).l) (lo:=0) (hi:=a.sym) (by omega)) (OL.yes rfl (nt rfl (pkF rfl rfl (mvD rfl ?_)))))))
  refine OL.yes rfl (faP fd.Auto_0 rfl rfl (OL.yes rfl (ldPA ag.Ring rfl rfl (vs:=[_,_]) rfl (nb9 rfl) (OL.yes rfl (faP fd.Arc_3 rfl rfl (OL.yes rfl (ldPA ag.Weight rfl rfl (vs:=[_,_,_,_,_,_,_,_]) rfl (nb9 rfl) ?_)))))))
  refine OL.yes rfl (clv rfl vL (r3Check (q:=(a.arcs.getD i default).q) (by omega)) (OL.yes rfl (nt rfl (pkF rfl rfl (OL.nil (cnF rfl ?_))))))
  exact AW.skip (AW.rg hE rfl (mvD rfl (add_i64 rfl rfl (by omega) (asD rfl (OL.nil (AW.again (x:=i) (i+1) (by omega) ⟨by omega,Knows.app .rq1 .rq1,Owns.app (.cons rfl .nil) (.nil)⟩))))))
 ·try simp only [dx9] at h51
  exact AW.exit (AW.sg hE rfl (asD rfl (OL.nil (AW.ret (RetQ.r ⟨_,.tmp rfl .nil,.le vR⟩)))))
theorem r8PlainS {a:Au}{w:List Int}(f:Au.Ws a w):FSpec P F.ref08_Plain [vAu a] (.d (dB true)):=by
 have e3:=f.sz.num
 have e4:=formA_len a.arcs
 have hfo:∀ x,x ∈ formA a.arcs→x.f<a.st∧x.t<a.st∧1≤x.l∧x.l≤a.sym:=f.ok.form.arc
 refine FSpec.intro fn.ref08_Plain (by rfl) (by rfl) (nb9 (by rfl)) fun E hE=>(AW.sg hE rfl (bxA rfl rfl fun b1=>(asD rfl (OL.nil (AW.sg hE rfl (faP fd.Auto_0 rfl rfl (ldPA ag.Ring rfl rfl (vs:=[_,_]) rfl (nb9 rfl) ?_)))))))
 refine faP fd.Auto_5 rfl rfl (ldPC ce.Arcs rfl rfl rfl (clv rfl vL (r6ArcsS (l:=a.arcs) e3 f.sz.arc) (asD rfl (OL.nil (AW.seq (AW.sg hE rfl (asD rfl ?_)))))))
 refine OL.nil (AW.block (AW.whileK (α:=Nat) [(3,_)] [] (fun i=>[(4,.d (dI i))]) (fun i=>[]) (fun i=>i≤(formA a.arcs).length) (fun i=>(formA a.arcs).length-i) 0 (.cons (knD rfl) .nil) .nil ⟨Nat.zero_le _,.rq1,.nil⟩ ?_))
 rintro i h1
 have h1:i≤(formA a.arcs).length:=h1
 refine AW.seq (AW.sg hE rfl (mvD rfl (mvD rfl (lnL sl.Arcs rfl rfl (c_lss rfl rfl rfl (OL.nil (AW.cond rfl (fun h13=>?_) (fun h13=>?_))))))))
 ·try simp only [dx9] at h13
  refine AW.skip (AW.seq (AW.block (AW.seq ?_)))
  have hx:=(hfo ((formA a.arcs).getD i default) (getD_mem (by omega) default)).2.2.1
  refine AW.rg hE rfl (mvD rfl (mvD rfl (ixLn sl.Arcs default rfl rfl (by omega) rfl rfl (faR fd.Arc_1 rfl rfl (ldRC ce.int rfl (c_eql rfl rfl (c:=false) (by exact decide_eq_false (by omega)) (OL.nil ?_)))))))
  refine cnF rfl ?_
  exact AW.skip (AW.rg hE rfl (mvD rfl (add_i64 rfl rfl (by omega) (asD rfl (OL.nil (AW.again (x:=i) (i+1) (by omega) ⟨by omega,Knows.app .rq1 .rq1,.nil⟩))))))
 ·try simp only [dx9] at h13
  exact AW.exit (AW.sg hE rfl (asD rfl (OL.nil (AW.ret (RetQ.r ⟨_,.tmp rfl .nil,.le vR⟩)))))
theorem r8checkS {a:Au}{w:List Int}(f:Au.Ws a w)(hw:InW a.sym w)(hl:w.length≤256):FSpec P F.ref08_check [vAu a,.d (ints w)] (.d (dI 0)):=by
 have h0:=f.ok.sym0
 have s2:=f.s2
 refine FSpec.intro fn.ref08_check (by rfl) (by rfl) (nb9 (by rfl)) fun E hE=>(AW.sg hE rfl (bxA rfl rfl fun b2=>(asD rfl (OL.nil (AW.seq (AW.block (AW.sg hE rfl ?_)))))))
 refine ldPA ag.Auto rfl rfl (vs:=[_,_,_,_,_,_,_]) rfl (nb9 rfl) (clv rfl vL (r6ValidS (a:=a) f.ok f.sz f.s2 f.st) (nt rfl (asD rfl (OL.nil (cnF rfl ?_)))))
 refine AW.sg hE rfl (ldPA ag.Auto rfl rfl (vs:=[_,_,_,_,_,_,_]) rfl (nb9 rfl) (clv rfl vL (r8PlainS f) (nt rfl (asD rfl (OL.nil (cnF rfl ?_))))))
 refine AW.sg hE rfl (mvD rfl (faP fd.Auto_1 rfl rfl (ldPC ce.int rfl rfl rfl (clv rfl vL (r5Valid (w:=w) (s:=a.sym) (by omega) hw (by omega)) (nt rfl (asD rfl (OL.nil ?_)))))))
 refine cnF rfl ?_
 exact AW.skip (AW.sg hE rfl (asD rfl (OL.nil (AW.ret (RetQ.r ⟨_,.tmp rfl .nil,.le vR⟩)))))
set_option maxRecDepth 8000 in
set_option maxHeartbeats 1600000 in
theorem r8stepS {a:Au}{v:List Rat}{s:Nat}(ok:a.Ok)(hv:v.length=a.st)(zz:StSz a v s)(s2:a.st≤64)(e3:a.arcs.length≤64):FSpec P F.ref08_step [vAu a,.d (dWs v),.d (dI s)] (.d (dWs (stepF a.st v s a.arcs))):=by
 skip
 refine FSpec.intro fn.ref08_step (by rfl) (by rfl) (nb9 (by rfl)) fun E hE=>(AW.sg hE rfl (bxA rfl rfl fun b3=>(asM rfl (OL.nil (AW.sg hE rfl (faP fd.Auto_0 rfl rfl (ldPA ag.Ring rfl rfl (vs:=[_,_]) rfl (nb9 rfl) ?_)))))))
 refine faP fd.Auto_2 rfl rfl (ldPC ce.int rfl rfl rfl (clR rfl .rq2 (r3Zeros (n:=a.st) s2) rfl fun b14 c14=>(asO rfl (OL.nil (AW.seq (AW.sg hE rfl (asD rfl ?_)))))))
 refine OL.nil (AW.block ?_)
 refine AW.whileK (α:=Nat) [(1,_),(2,_),(3,_),(6,_),(7,_)] [(3,_)] (fun i=>[(8,.d (dI i))]) (fun i=>[(14,.row b14 c14 T.Weight 8 ((stepF a.st v s (a.arcs.take i)).map dW))]) (fun i=>i≤a.arcs.length) (fun i=>a.arcs.length-i) 0 (.cons (knD rfl) (.cons (knD rfl) (.cons (knP rfl) (.cons (knM rfl) (.cons (knO rfl) .nil))))) (.cons (owB rfl) .nil) ⟨Nat.zero_le _,.rq1,.cons rfl .nil⟩ ?_
 rintro i h1
 have h1:i≤a.arcs.length:=h1
 have hsl:(stepF a.st v s (a.arcs.take i)).length=a.st:=stepF_len
 refine AW.seq (AW.sg hE rfl (mvD rfl (faP fd.Auto_5 rfl rfl (ldPC ce.Arcs rfl rfl rfl (lnL sl.Arcs rfl rfl (c_lss rfl rfl rfl (OL.nil ?_)))))))
 refine AW.cond rfl (fun h19=>?_) (fun h19=>?_)
 ·try simp only [dx9] at h19
  refine AW.skip (AW.seq (AW.block (AW.seq ?_)))
  have hm:=getD_mem (l:=a.arcs) (i:=i) (by omega) default
  obtain ⟨hx1,hx2,hx3,hx4⟩:=ok.arc (a.arcs.getD i default) hm
  have hxz:=zz.zq (a.arcs.getD i default) hm
  have hz1:=zz.zv (a.arcs.getD i default).f
  have hz2:=zz.zs i (a.arcs.getD i default).t
  have hz3:=sz_mul (v.getD (a.arcs.getD i default).f 0) (a.arcs.getD i default).q
  refine AW.rg hE rfl (faP fd.Auto_5 rfl rfl (ldPC ce.Arcs rfl rfl rfl (mvD rfl (ixLn sl.Arcs default rfl rfl (by omega) rfl rfl (ldRA ag.Arc rfl (vs:=[_,_,_,_,_,_,_,_,_,_,_]) rfl (nb9 rfl) (al z.Arc rfl fun b9=>(sto sz.Arc rfl rfl rfl rfl rfl (nb9 rfl) (cells2:=[_,_,_,_,_,_,_,_,_,_,_]) rfl ?_)))))))
  refine OL.nil (AW.sg hE rfl (faP fd.Arc_1 rfl rfl (ldPC ce.int rfl rfl rfl (mvD rfl (c_eql rfl rfl rfl (OL.split 30 rfl (fun hc=>?_) (fun hc=>?_)))))))
  ·have hc:(a.arcs.getD i default).l=s:=by have:=dt9 hc;omega
   refine OL.nil (cnT rfl ?_)
   refine AW.dg 1 [0,1,2,3,4,5,6,7,8,9,10,11,12,13,14,15,16,17,18,19,20,21,22] order_free hE rfl (by kernel_rfl) (OI.of_OL (os:=[_,_,_,_,_,_,_,_,_,_,_,_,_,_,_,_,_,_,_,_,_,_,_]) rfl ?_)
   refine mvO rfl (faP fd.Arc_2 rfl rfl (ldPC ce.int rfl rfl rfl (faP fd.Auto_0 rfl rfl (ldPA ag.Ring rfl rfl (vs:=[_,_]) rfl (nb9 rfl) (mvO rfl (faP fd.Arc_2 rfl rfl (ldPC ce.int rfl rfl rfl ?_)))))))
   refine ixOn sl.Weights rfl rfl (by omega) ?_
   refine ldEA ag.Weight (by decide) rfl rfl (rowW_el (show (a.arcs.getD i default).t<(stepF a.st v s (a.arcs.take i)).length by omega)) (vs:=[.d (dB (ofQ ((stepF a.st v s (a.arcs.take i)).getD (a.arcs.getD i default).t 0)).neg),.d (u32s (ofQ ((stepF a.st v s (a.arcs.take i)).getD (a.arcs.getD i default).t 0)).num),.d (u32s (ofQ ((stepF a.st v s (a.arcs.take i)).getD (a.arcs.getD i default).t 0)).den),.d (dI 0),.d (dB false),.d (dU 0),.d (.sl []),.d (.sl [])]) rfl (nb9 rfl) ?_
   refine faP fd.Auto_0 rfl rfl (ldPA ag.Ring rfl rfl (vs:=[_,_]) rfl (nb9 rfl) (mvD rfl (faP fd.Arc_0 rfl rfl (ldPC ce.int rfl rfl rfl (ixLn sl.Weights 0 rfl rfl (by omega) rfl rfl (ldRA ag.Weight rfl (vs:=[_,_,_,_,_,_,_,_]) rfl (nb9 rfl) (faP fd.Arc_3 rfl rfl ?_)))))))
   refine ldPA ag.Weight rfl rfl (vs:=[_,_,_,_,_,_,_,_]) rfl (nb9 rfl) (clv rfl vL (r3Times (p:=v.getD (a.arcs.getD i default).f 0) (q:=(a.arcs.getD i default).q) (by omega) (by omega)) (clv rfl vL (r3Plus (p:=(stepF a.st v s (a.arcs.take i)).getD (a.arcs.getD i default).t 0) (q:=v.getD (a.arcs.getD i default).f 0*(a.arcs.getD i default).q) (by omega) (by omega)) (ixOn sl.Weights rfl rfl (by omega) ?_)))
   refine stE sz.Weight rfl (d:=dW ((stepF a.st v s (a.arcs.take i)).getD (a.arcs.getD i default).t 0+v.getD (a.arcs.getD i default).f 0*(a.arcs.getD i default).q)) vd_w rfl rfl (by rw [lm9];omega) (es2:=((stepF a.st v s (a.arcs.take i)).set (a.arcs.getD i default).t ((stepF a.st v s (a.arcs.take i)).getD (a.arcs.getD i default).t 0+v.getD (a.arcs.getD i default).f 0*(a.arcs.getD i default).q)).map dW) (by rw [List.map_set]) ?_
   refine OL.nil (AW.rg hE rfl (mvD rfl (add_i64 rfl rfl (by omega) (asD rfl (OL.nil ?_)))))
   exact AW.again (x:=i) (i+1) (by omega) ⟨by omega,Knows.app .rq5 .rq1,Owns.app (.cons rfl .nil) (.cons (by rw [stepF_snoc (by omega),addF_t hc];rfl) .nil)⟩
  ·have hc:¬ (a.arcs.getD i default).l=s:=by have:=df9 hc;omega
   refine OL.nil (cnF rfl ?_)
   refine AW.skip (AW.rg hE rfl (mvD rfl (add_i64 rfl rfl (by omega) (asD rfl (OL.nil ?_)))))
   exact AW.again (x:=i) (i+1) (by omega) ⟨by omega,Knows.app .rq5 .rq1,Owns.app (.cons rfl .nil) (.cons (by rw [stepF_snoc (by omega),addF_f hc];rfl) .nil)⟩
 ·try simp only [dx9] at h19
  refine AW.exit (AW.seq ?_)
  obtain rfl:i=a.arcs.length:=by omega
  exact AW.rg hE rfl (mvO rfl (asO rfl (OL.nil (AW.ret (RetQ.r ⟨_,.tmp rfl .nil,RO.all rfl rfl (by rw [lm9,stepF_len]) (by rw [List.take_length])⟩)))))
set_option maxHeartbeats 800000 in
theorem r8ForwardS {a:Au}{w:List Int}(f:Au.Ws a w)(hw:InW a.sym w)(hl:w.length≤256):FSpec P F.ref08_Forward [vAu a,.d (ints w)] (.tup [.d (dWs (fwA a w)),.d (dI 0)]):=by
 have h0:=f.ok.sym0
 refine FSpec.intro fn.ref08_Forward (by rfl) (by rfl) (nb9 (by rfl)) fun E hE=>(AW.sg hE rfl (bxA rfl rfl fun b2=>(asM rfl (asD rfl (OL.nil (AW.seq (AW.sg hE rfl ?_)))))))
 refine ldPA ag.Auto rfl rfl (vs:=[_,_,_,_,_,_,_]) rfl (nb9 rfl) (mvD rfl (clv rfl vL (r8checkS f hw hl) (asD rfl (OL.nil (AW.sg hE rfl (mvD rfl (c_neq rfl rfl (c:=false) (by exact cne_f (by omega)) ?_)))))))
 refine OL.nil (cnF rfl ?_)
 refine AW.skip (AW.sg hE rfl (ldPA ag.Auto rfl rfl (vs:=[_,_,_,_,_,_,_]) rfl (nb9 rfl) (clv rfl vL (r6FormS (a:=a) f.ok f.sz f.st) (fdC fc.Auto_3 rfl rfl (asD rfl (OL.nil (AW.seq ?_)))))))
 refine AW.sg hE rfl (asD rfl (OL.nil (AW.block ?_)))
 refine AW.whileK (α:=Nat) [(1,_),(2,_),(4,_),(5,_)] [(2,_)] (fun i=>[(7,.d (dWs (fwA a (w.take i)))),(8,.d (dI i))]) (fun i=>[]) (fun i=>i≤w.length) (fun i=>w.length-i) 0 (.cons (knD rfl) (.cons (knP rfl) (.cons (knM rfl) (.cons (knD rfl) .nil)))) (.cons (owB rfl) .nil) ⟨Nat.zero_le _,.rq2,.nil⟩ ?_
 rintro i h1
 have h1:i≤w.length:=h1
 refine AW.seq (AW.sg hE rfl (mvD rfl (mvD rfl (lnL sl.ints rfl rfl (c_lss rfl rfl rfl (OL.nil (AW.cond rfl (fun h21=>?_) (fun h21=>?_))))))))
 ·try simp only [dx9] at h21
  refine AW.skip (AW.seq (AW.block ?_))
  have hx:=hw (w.getD i 0) (getD_mem (by omega) 0)
  refine AW.dg 1 [0,1,2,3,4,5,6,7] order_free hE rfl (by kernel_rfl) (OI.of_OL (os:=[_,_,_,_,_,_,_,_]) rfl ?_)
  refine ldPA ag.Auto rfl rfl (vs:=[_,_,_,_,_,_,_]) rfl (nb9 rfl) (mvD rfl (mvD rfl (mvD rfl (ixLn sl.ints 0 rfl rfl (by omega) rfl rfl (ldRC ce.int rfl (clv rfl (.cons vR (.cons vR (.cons (VLe.int (by omega)) .nil))) (r8stepS (a:=a) (v:=fwA a (w.take i)) (s:=(w.getD i 0).toNat) f.ok (fwA_len f.ok _) (f.zz.st i (by omega)) f.st f.sz.num) (asD rfl ?_)))))))
  refine OL.nil (AW.rg hE rfl (mvD rfl (add_i64 rfl rfl (by omega) (asD rfl (OL.nil ?_)))))
  exact AW.again (x:=i) (i+1) (by omega) ⟨by omega,Knows.app .rq4 (.cons (by rw [fwA_snoc (by omega)];exact VLe.refl _) .rq1),Owns.app (.cons rfl .nil) (.nil)⟩
 ·try simp only [dx9] at h21
  refine AW.exit (AW.seq ?_)
  obtain rfl:i=w.length:=by omega
  exact AW.rg hE rfl (mvD rfl (asD rfl (asD rfl (OL.nil (AW.ret (RetQ.r ⟨_,.tmp rfl (.tmp rfl .nil),_,.cons (.le (by rw [List.take_length];exact VLe.refl _)) (.cons (.le vR) .nil),rfl⟩))))))
set_option maxHeartbeats 800000 in
theorem r8DotS {v u:List Rat}{n:Nat}(hv:v.length=n)(hu:u.length=n)(hn:n≤64)(zv:∀ i,sz (v.getD i 0)≤17179869184)(zu:∀ i,sz (u.getD i 0)≤17179869184)(zd:∀ i,i≤n→sz (dotF v u i)≤17179869184):FSpec P F.ref08_Dot [vRing,.d (dWs v),.d (dWs u)] (vW (dotF v u n)):=by
 refine FSpec.intro fn.ref08_Dot (by rfl) (by rfl) (nb9 (by rfl)) fun E hE=>(AW.sg hE rfl (bxA rfl rfl fun b3=>(al z.Weight rfl fun b6=>(OL.nil (AW.sg hE rfl (ldPA ag.Ring rfl rfl (vs:=[_,_]) rfl (nb9 rfl) (clv rfl vL (r3Zero) ?_)))))))
 refine al z.Weight rfl fun b7=>(sto sz.Weight rfl rfl rfl rfl rfl (nb9 rfl) (cells2:=[_,_,_,_,_,_,_,_]) rfl (OL.nil (AW.seq (AW.sg hE rfl (asD rfl (OL.nil (AW.block ?_)))))))
 refine AW.whileK (α:=Nat) [(1,_),(2,_),(3,_),(6,_),(7,_)] [(3,_),(6,_)] (fun i=>[(8,.d (dI i))]) (fun i=>[(7,.box b7 T.Weight [.d (dB (ofQ (dotF v u i)).neg),.d (u32s (ofQ (dotF v u i)).num),.d (u32s (ofQ (dotF v u i)).den),.d (dI 0),.d (dB false),.d (dU 0),.d (.sl []),.d (.sl [])])]) (fun i=>i≤n) (fun i=>n-i) 0 (.cons (knD rfl) (.cons (knD rfl) (.cons (knP rfl) (.cons (knP rfl) (.cons (knP rfl) .nil))))) (.cons (owB rfl) (.cons (owB rfl) .nil)) ⟨Nat.zero_le _,.rq1,.cons rfl .nil⟩ ?_
 rintro i h1
 have h1:i≤n:=h1
 have z1:=zv i
 have z2:=zu i
 have z3:=sz_mul (v.getD i 0) (u.getD i 0)
 have z4:=zd i h1
 refine AW.seq (AW.sg hE rfl (mvD rfl (mvD rfl (lnL sl.Weights rfl rfl (c_lss rfl rfl rfl (OL.split 14 rfl (fun ha=>?_) (fun ha=>?_)))))))
 ·have ha:i<n:=by have:=dt9 ha;simp at this;omega
  refine mvD rfl (OL.yes rfl (mvD rfl (OL.yes rfl (mvD rfl (OL.yes rfl (lnL sl.Weights rfl rfl (OL.yes rfl ?_)))))))
  refine c_lss rfl rfl (c:=true) (decide_eq_true (by omega)) (pkT rfl rfl (OL.nil (cnT rfl ?_)))
  refine AW.skip (AW.seq (AW.block (AW.dg 1 [0,1,2,3,4,5,6,7,8,9,10,11,12,13] order_free hE rfl (by kernel_rfl) (OI.of_OL (os:=[_,_,_,_,_,_,_,_,_,_,_,_,_,_]) rfl ?_))))
  refine ldPA ag.Ring rfl rfl (vs:=[_,_]) rfl (nb9 rfl) (ldPA ag.Weight rfl rfl (vs:=[_,_,_,_,_,_,_,_]) rfl (nb9 rfl) (ldPA ag.Ring rfl rfl (vs:=[_,_]) rfl (nb9 rfl) (mvD rfl (mvD rfl (ixLn sl.Weights 0 rfl rfl (by omega) rfl rfl (ldRA ag.Weight rfl (vs:=[_,_,_,_,_,_,_,_]) rfl (nb9 rfl) (mvD rfl ?_)))))))
  refine mvD rfl (ixLn sl.Weights 0 rfl rfl (by omega) rfl rfl (ldRA ag.Weight rfl (vs:=[_,_,_,_,_,_,_,_]) rfl (nb9 rfl) (clv rfl vL (r3Times (p:=v.getD i 0) (q:=u.getD i 0) (by omega) (by omega)) (clv rfl vL (r3Plus (p:=(dotF v u i)) (q:=v.getD i 0*u.getD i 0) (by omega) (by omega)) (sto sz.Weight rfl rfl rfl rfl rfl (nb9 rfl) (cells2:=[_,_,_,_,_,_,_,_]) rfl (OL.nil (AW.rg hE rfl ?_)))))))
  exact mvD rfl (add_i64 rfl rfl (by omega) (asD rfl (OL.nil (AW.again (x:=i) (i+1) (by omega) ⟨by omega,Knows.app .rq5 .rq1,Owns.app (.cons rfl (.cons rfl .nil)) (.cons rfl .nil)⟩))))
 ·have ha:¬ i<n:=by have:=df9 ha;simp at this;omega
  obtain rfl:i=n:=by omega
  refine mvD rfl (OL.nd rfl (OL.nd rfl (OL.nd rfl (OL.nd rfl (pkF rfl rfl (OL.nil (cnF rfl ?_)))))))
  refine AW.exit (AW.sg hE rfl (ldPA ag.Weight rfl rfl (vs:=[_,_,_,_,_,_,_,_]) rfl (nb9 rfl) (sto sz.Weight rfl rfl rfl rfl rfl (nb9 rfl) (cells2:=[_,_,_,_,_,_,_,_]) rfl (OL.nil ?_))))
  exact AW.ret (RetQ.r ⟨_,.cellA rfl rfl ag.Weight (nb9 rfl) .nil,.ag (.cons (.le vR) (.cons (.le vR) (.cons (.le vR) (.cons (.le vR) (.cons (.le vR) (.cons (.le vR) (.cons (.le vR) (.cons (.le vR) .nil))))))))⟩)
set_option maxHeartbeats 800000 in
theorem r8WeightS {a:Au}{w:List Int}(f:Au.Ws a w)(hw:InW a.sym w)(hl:w.length≤256):FSpec P F.ref08_Weight [vAu a,.d (ints w)] (.tup [vW (serA a w),.d (dI 0)]):=by
 skip
 refine FSpec.intro fn.ref08_Weight (by rfl) (by rfl) (nb9 (by rfl)) fun E hE=>(AW.sg hE rfl (bxA rfl rfl fun b2=>(al z.Weight rfl fun b4=>(asD rfl (OL.nil (AW.sg hE rfl (ldPA ag.Auto rfl rfl (vs:=[_,_,_,_,_,_,_]) rfl (nb9 rfl) ?_)))))))
 refine mvD rfl (clv rfl vL (r8ForwardS f hw hl) (mvT rfl (ex rfl rfl (ex rfl rfl (asD rfl (asD rfl (OL.nil ?_)))))))
 refine AW.seq (AW.sg hE rfl (mvD rfl (c_neq rfl rfl (c:=false) (by exact cne_f (by omega)) (OL.nil (cnF rfl ?_)))))
 refine AW.skip (AW.sg hE rfl (faP fd.Auto_0 rfl rfl (ldPA ag.Ring rfl rfl (vs:=[_,_]) rfl (nb9 rfl) (mvD rfl (faP fd.Auto_4 rfl rfl (ldPC ce.Weights rfl rfl rfl (clv rfl vL (r8DotS (v:=fwA a w) (u:=a.fin) (n:=a.st) (fwA_len f.ok w) f.ok.fin f.st f.zz.zv f.zz.zf f.zz.zd) ?_)))))))
 rw [dotF_ser f.ok hw]
 refine sto sz.Weight rfl rfl rfl rfl rfl (nb9 rfl) (cells2:=[_,_,_,_,_,_,_,_]) rfl (asD rfl (OL.nil ?_))
 exact AW.ret (RetQ.r ⟨_,.cellA rfl rfl ag.Weight (nb9 rfl) (.tmp rfl .nil),_,.cons (.ag (.cons (.le vR) (.cons (.le vR) (.cons (.le vR) (.cons (.le vR) (.cons (.le vR) (.cons (.le vR) (.cons (.le vR) (.cons (.le vR) .nil))))))))) (.cons (.le vR) .nil),rfl⟩)
end Go.Proofs.YtocehciipjhlkaaGreatDoor

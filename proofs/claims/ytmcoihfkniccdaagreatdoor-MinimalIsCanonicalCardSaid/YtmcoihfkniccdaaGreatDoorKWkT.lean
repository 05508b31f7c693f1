/-
  Walks of the specification of automata (printed by mk2.py).
-/
import Derived.Test.YtmcoihfkniccdaaGreatDoorKWkS
set_option linter.unusedVariables false
set_option linter.unusedSimpArgs false
namespace Go.Proofs.YtmcoihfkniccdaaGreatDoor
open Go Go.AL
theorem slx_order (x y:Arc9):slx [(x.f:Int),(x.l:Int),(x.t:Int)] [(y.f:Int),(y.l:Int),(y.t:Int)]=ordA x y:=by
 have key:∀ (a b:Nat) (u v:List Int),cmpL ((a:Int)::u) ((b:Int)::v)=if cI a b≠0 then cI a b else cmpL u v:=fun a b u v=>by
  rw [cmpL]
  unfold cI
  by_cases h1:a<b
  ·rw [if_pos (by omega),if_pos h1,if_pos (by decide)]
  ·rw [if_neg (by omega),if_neg h1]
   by_cases h2:b<a
   ·rw [if_pos (by omega),if_pos h2,if_pos (by decide)]
   ·rw [if_neg (by omega),if_neg h2,if_neg (by decide)]
 unfold slx ordA
 rw [if_neg (by simp),key,key,key]
 congr 2
 split
 ·rfl
 ·rename_i h;rw [show cmpL [] []=0 from rfl];exact (Decidable.not_not.1 h).symm
def outI (l:List Arc9)(i:Nat):List Arc9:=(l.take i).foldl insA []
theorem outI_succ {l:List Arc9}{i:Nat}(hi:i<l.length):outI l (i+1)=insA (outI l i) (l.getD i default):=by
 unfold outI
 rw [take_snoc default hi,List.foldl_append];rfl
theorem insA_len (out:List Arc9)(x:Arc9):(insA out x).length≤out.length+1:=by
 unfold insA
 split
 ·rw [List.length_set];omega
 ·rw [la9,List.length_cons,List.length_take,List.length_drop];omega
theorem insA_sz {k:Nat}{out:List Arc9}{x:Arc9}(h:SumZ k out)(hx:sz x.q≤134217728):SumZ (k+1) (insA out x):=by
 have up:∀ y,sz y≤(k+1)*134217730→sz y≤(k+1+1)*134217730:=fun y hy=>Nat.le_trans hy (Nat.mul_le_mul_right _ (Nat.le_succ _))
 intro y hy
 unfold insA at hy
 split at hy
 ·rename_i hc
  rcases List.mem_or_eq_of_mem_set hy with hy|rfl
  ·exact up _ (h y hy)
  ·have h1:=h _ (getD_mem hc.1 default)
   have h2:=sz_add (out.getD (atA out x) default).q x.q
   show sz ((out.getD (atA out x) default).q+x.q)≤_
   omega
 ·rcases mp9 hy with hy|hy
  ·exact up _ (h y (List.mem_of_mem_take hy))
  ·rcases List.mem_cons.1 hy with rfl|hy
   ·omega
   ·exact up _ (h y (List.mem_of_mem_drop hy))
theorem outI_len (l:List Arc9):∀ i,(outI l i).length≤i
 | 0=>Nat.le_refl _
 | i + 1 => by
  have ih:=outI_len l i
  rcases Nat.lt_or_ge i l.length with h|h
  ·rw [outI_succ h]
   have:=insA_len (outI l i) (l.getD i default)
   omega
  ·unfold outI at *
   rw [List.take_of_length_le h] at ih
   rw [List.take_of_length_le (by omega)];omega
theorem outI_sz {l:List Arc9}(hz:∀ x,x ∈ l→sz x.q≤134217728):∀ i,SumZ i (outI l i)
 | 0=>fun x hx=>by cases hx
 | i + 1 => by
  rcases Nat.lt_or_ge i l.length with h|h
  ·rw [outI_succ h]
   exact insA_sz (outI_sz hz i) (hz _ (getD_mem h default))
  ·have e:outI l (i+1)=outI l i:=by unfold outI;rw [List.take_of_length_le h,List.take_of_length_le (by omega)]
   rw [e]
   exact fun x hx=>Nat.le_trans (outI_sz hz i x hx) (Nat.mul_le_mul_right _ (Nat.le_succ _))
theorem outI_all (l:List Arc9):nzA (outI l l.length)=formA l:=by unfold outI formA;rw [List.take_length]
theorem atA_eq {out:List Arc9}{x:Arc9}{k:Nat}(hk:k≤out.length)(h:∀ j,j<k→ordA (out.getD j default) x<0)(h2:k=out.length ∨ ¬ ordA (out.getD k default) x<0):atA out x=k:=by
 unfold atA
 have get:∀ j,j<out.length→out[j]? = some (out.getD j default):=fun j hj=>by rw [gd9,ge9 hj];rfl
 rcases Nat.lt_or_ge k out.length with hl|hl
 ·have hn:¬ ordA (out.getD k default) x<0:=h2.resolve_left (by omega)
  refine (List.findIdx_eq hl).2 ⟨?_,fun j hj=>?_⟩
  ·have e:out[k]=out.getD k default:=by rw [gd9,ge9 hl];rfl
   rw [e];exact decide_eq_true hn
  ·have e:out[j]=out.getD j default:=by rw [gd9,ge9 (by omega)];rfl
   rw [e];exact decide_eq_false (fun k9=>k9 (h j hj))
 ·have hk9:k=out.length:=by omega
  subst hk9
  refine List.findIdx_eq_length.2 fun y hy=>?_
  obtain ⟨j,hj,rfl⟩:=List.mem_iff_getElem.1 hy
  have e:out[j]=out.getD j default:=by rw [gd9,ge9 hj];rfl
  rw [e];exact decide_eq_false (fun k9=>k9 (h j hj))
theorem nzA_snoc {l:List Arc9}{i:Nat}(hi:i<l.length):nzA (l.take (i+1))=nzA (l.take i)++(if (l.getD i default).q≠0 then [l.getD i default] else []):=by
 rw [take_snoc default hi]
 unfold nzA
 rw [List.filter_append]
 congr 1
 by_cases h:(l.getD i default).q≠0
 ·rw [if_pos h];simp only [List.filter_cons,decide_eq_true h,List.filter_nil,if_true]
 ·rw [if_neg h];simp only [List.filter_cons,decide_eq_false h,List.filter_nil];rfl
theorem ref05_CompareS {l m:List Int}(nl:l.length≤1099511627776):FSpec P F.ref05_Compare [.d (ints l),.d (ints m)] (.d (dI (slx l m))):=by
 refine FSpec.intro fn.ref05_Compare (by rfl) (by rfl) (nb9 (by rfl)) fun E hE=>(AW.sg hE rfl (asD rfl (OL.nil (AW.seq (AW.sg hE rfl (mvD rfl (lnL sl.ints rfl rfl ?_)))))))
 refine mvD rfl (lnL sl.ints rfl rfl (c_neq rfl rfl rfl (OL.nil (AW.cond rfl (fun hn=>?_) (fun hn=>?_)))))
 ·have hn:l.length≠m.length:=fun e=>nd_t hn (by rw [e])
  refine AW.seq (AW.sg hE rfl (mvD rfl (lnL sl.ints rfl rfl (mvD rfl (lnL sl.ints rfl rfl (c_lss rfl rfl rfl (OL.nil ?_)))))))
  refine AW.cond rfl (fun hlt=>?_) (fun hlt=>?_)
  ·have hlt:l.length<m.length:=by have:=dt9 hlt;omega
   exact AW.sg hE rfl (asD rfl (OL.nil (AW.ret (RetQ.r ⟨_,.tmp rfl .nil,.le (VLe.int (by unfold slx;rw [if_pos hn,if_pos hlt]))⟩))))
  ·have hlt:¬ l.length<m.length:=by have:=df9 hlt;omega
   exact AW.skip (AW.sg hE rfl (asD rfl (OL.nil (AW.ret (RetQ.r ⟨_,.tmp rfl .nil,.le (VLe.int (by unfold slx;rw [if_pos hn,if_neg hlt]))⟩)))))
 ·have hn:l.length=m.length:=by have:=nd_f hn;omega
  rw [show slx l m=cmpL l m from if_neg (by omega)]
  refine AW.skip (AW.seq (AW.sg hE rfl (asD rfl (OL.nil (AW.block ?_)))))
  refine AW.whileK (α:=Nat) [(0,_),(1,_)] [] (fun i=>[(5,.d (dI i))]) (fun i=>[]) (fun i=>i≤l.length∧cmpL l m=cmpL (l.drop i) (m.drop i)) (fun i=>l.length-i) 0 (.cons (knD rfl) (.cons (knD rfl) .nil)) .nil ⟨⟨Nat.zero_le _,rfl⟩,.rq1,.nil⟩ ?_
  rintro i ⟨h1,h3⟩
  have h1:i≤l.length:=h1
  have h3:cmpL l m=cmpL (l.drop i) (m.drop i):=h3
  refine AW.seq (AW.sg hE rfl (mvD rfl (mvD rfl (lnL sl.ints rfl rfl (c_lss rfl rfl rfl (OL.nil (AW.cond rfl (fun h19=>?_) (fun h19=>?_))))))))
  ·try simp only [dx9] at h19
   refine AW.skip (AW.seq (AW.block (AW.seq (AW.seq (AW.dg 1 [0,1,2,3,4,5,6,7,8] order_free hE rfl (by kernel_rfl) (OI.of_OL (os:=[_,_,_,_,_,_,_,_,_]) rfl ?_))))))
   refine mvD rfl (mvD rfl (ixLn sl.ints 0 rfl rfl (by omega) rfl rfl (ldRC ce.int rfl (mvD rfl (mvD rfl (ixLn sl.ints 0 rfl rfl (by omega) rfl rfl (ldRC ce.int rfl ?_)))))))
   refine c_lss rfl rfl rfl (OL.nil (AW.cond rfl (fun ha=>?_) (fun ha=>?_)))
   ·have ha:=dt9 ha
    exact AW.sg hE rfl (asD rfl (OL.nil (AW.ret (RetQ.r ⟨_,.tmp rfl .nil,.le (VLe.int (by rw [h3,cmpL_drop (by omega) (by omega),show cmpI (l.getD i 0) (m.getD i 0) = -1 from if_pos ha,if_neg (by decide)]))⟩))))
   ·have ha:=df9 ha
    refine AW.skip (AW.seq (AW.dg 1 [0,1,2,3,4,5,6,7,8] order_free hE rfl (by kernel_rfl) (OI.of_OL (os:=[_,_,_,_,_,_,_,_,_]) rfl ?_)))
    refine mvD rfl (mvD rfl (ixLn sl.ints 0 rfl rfl (by omega) rfl rfl (ldRC ce.int rfl (mvD rfl (mvD rfl (ixLn sl.ints 0 rfl rfl (by omega) rfl rfl (ldRC ce.int rfl ?_)))))))
    refine c_gtr rfl rfl rfl (OL.nil (AW.cond rfl (fun hb=>?_) (fun hb=>?_)))
    ·have hb:=dt9 hb
     exact AW.sg hE rfl (asD rfl (OL.nil (AW.ret (RetQ.r ⟨_,.tmp rfl .nil,.le (VLe.int (by rw [h3,cmpL_drop (by omega) (by omega),show cmpI (l.getD i 0) (m.getD i 0)=1 by unfold cmpI;rw [if_neg ha,if_pos hb],if_neg (by decide)]))⟩))))
    ·have hb:=df9 hb
     exact AW.skip (AW.rg hE rfl (mvD rfl (add_i64 rfl rfl (by omega) (asD rfl (OL.nil (AW.again (x:=i) (i+1) (by omega) ⟨⟨by omega,by rw [h3,cmpL_drop (by omega) (by omega),if_pos (by unfold cmpI;rw [if_neg ha,if_neg hb])]⟩,Knows.app .rq2 .rq1,.nil⟩))))))
  ·try simp only [dx9] at h19
   exact AW.exit (AW.sg hE rfl (asD rfl (OL.nil (AW.ret (RetQ.r ⟨_,.tmp rfl .nil,.le (VLe.int (by rw [h3,List.drop_eq_nil_of_le (show l.length≤i by omega),List.drop_eq_nil_of_le (show m.length≤i by omega),cmpL]))⟩)))))
theorem r6order {x y:Arc9}:FSpec P F.ref06_order [vArc x,vArc y] (.d (dI (ordA x y))):=by
 refine FSpec.intro fn.ref06_order (by rfl) (by rfl) (nb9 (by rfl)) fun E hE=>(AW.sg hE rfl (bxA rfl rfl fun b2=>(bxA rfl rfl fun b3=>(asD rfl (OL.nil (AW.sg hE rfl (faP fd.Arc_0 rfl rfl ?_)))))))
 refine ldPC ce.int rfl rfl rfl (faP fd.Arc_1 rfl rfl (ldPC ce.int rfl rfl rfl (faP fd.Arc_2 rfl rfl (ldPC ce.int rfl rfl rfl (ltN (ys:=[dI x.f,dI x.l,dI x.t]) sl.ints rfl (pdC (VC.d _).vd (pdC (VC.d _).vd (pdC (VC.d _).vd pdN))) rfl (by decide) (by decide) (fun y hy=>by simp at hy;rcases hy with rfl|rfl|rfl <;> rfl) (faP fd.Arc_0 rfl rfl (ldPC ce.int rfl rfl rfl ?_)))))))
 refine faP fd.Arc_1 rfl rfl (ldPC ce.int rfl rfl rfl (faP fd.Arc_2 rfl rfl (ldPC ce.int rfl rfl rfl (ltN (ys:=[dI y.f,dI y.l,dI y.t]) sl.ints rfl (pdC (VC.d _).vd (pdC (VC.d _).vd (pdC (VC.d _).vd pdN))) rfl (by decide) (by decide) (fun y hy=>by simp at hy;rcases hy with rfl|rfl|rfl <;> rfl) (clv rfl vL (ref05_CompareS (l:=[(x.f:Int),(x.l:Int),(x.t:Int)]) (m:=[(y.f:Int),(y.l:Int),(y.t:Int)]) (show 3≤1099511627776 by decide)) ?_)))))
 rw [slx_order]
 exact asD rfl (OL.nil (AW.ret (RetQ.r ⟨_,.tmp rfl .nil,.le vR⟩)))
theorem r6takeR {l:List Rat}(nl:l.length≤64)(hz:∀ x,x ∈ l→sz x≤134217728):FSpecR P F.ref06_take [vRing,.d (dWs l)] l.length T.Weight 8 (l.map dW):=by
 refine FSpecR.intro fn.ref06_take (by rfl) (by rfl) (nb9 (by rfl)) 4 rfl fun E hE=>(AW.sg hE rfl (bxA rfl rfl fun b2=>(asM rfl (OL.nil (AW.sg hE rfl (asM rfl (OL.nil ?_)))))))
 refine AW.seq (AW.seq (AW.own 5 21 T.Weight 8 rfl rfl (AW.rg hE rfl (asD rfl (OL.nil (AW.block ?_))))))
 refine AW.whileK (α:=Nat × Nat × Nat) [(1,_),(2,_),(4,_)] [(2,_)] (fun (i,bq,cq)=>[(5,.osl 21 bq i cq),(6,.d (dI i))]) (fun (i,bq,cq)=>[(21,.row bq cq T.Weight 8 ((l.take i).map dW))]) (fun (i,bq,cq)=>i≤l.length) (fun (i,bq,cq)=>l.length-i) (0,0,0) (.cons (knD rfl) (.cons (knP rfl) (.cons (knM rfl) .nil))) (.cons (owB rfl) .nil) ⟨Nat.zero_le _,.rq2,.cons rfl .nil⟩ ?_
 rintro ⟨i,bq,cq⟩ h1
 have h1:i≤l.length:=h1
 refine AW.seq (AW.sg hE rfl (mvD rfl (mvD rfl (lnL sl.Weights rfl rfl (c_lss rfl rfl rfl (OL.nil (AW.cond rfl (fun h10=>?_) (fun h10=>?_))))))))
 ·try simp only [dx9] at h10
  refine AW.skip (AW.seq (AW.block ?_))
  have hx:=hz (l.getD i 0) (getD_mem (by omega) 0)
  refine AW.dg 2 [0,1,2,3,4,5,6,7,8,9] order_free hE rfl (by kernel_rfl) (OI.of_OL (os:=[_,_,_,_,_,_,_,_,_,_]) rfl ?_)
  refine mvO rfl (ldPA ag.Ring rfl rfl (vs:=[_,_]) rfl (nb9 rfl) (mvD rfl (mvD rfl (ixLn sl.Weights 0 rfl rfl (by omega) rfl rfl (ldRA ag.Weight rfl (vs:=[_,_,_,_,_,_,_,_]) rfl (nb9 rfl) (clv rfl vL (r3Take (q:=(l.getD i 0)) (by omega)) (lt1 (y:=dW (l.getD i 0)) sl.Weights vd_w rfl (by decide) ?_)))))))
  refine apO sl.Weights rfl rfl rfl (by rw [lm9,List.length_take];omega) (VC.d _) (fun y hy=>by rw [ms9 hy];rfl) (by simp;omega) (by simp;omega) (.inr rfl) (ys:=(l.take (i+1)).map dW) (by rw [take_snoc 0 (show i<l.length by omega),List.map_append];rfl) (n2:=i+1) rfl fun b2 c2=>?_
  exact asO rfl (OL.nil (AW.rg hE rfl (mvD rfl (add_i64 rfl rfl (by omega) (asD rfl (OL.nil (AW.again (x:=(i,bq,cq)) (i+1,b2,c2) (by (simp only [];omega)) ⟨by omega,Knows.app .rq3 .rq2,Owns.app (.cons rfl .nil) (.cons rfl .nil)⟩)))))))
 ·try simp only [dx9] at h10
  refine AW.exit (AW.seq ?_)
  obtain rfl:i=l.length:=by omega
  have e9:l.take l.length=l:=List.take_length
  exact AW.rg hE rfl (mvO rfl (asO rfl (OL.nil (AW.ret ⟨.inr rfl,21,bq,cq,(l.take l.length).map dW,rfl,rfl,by rw [e9,lm9];exact Nat.le_refl _,by rw [e9];exact List.take_of_length_le (by rw [lm9];exact Nat.le_refl _)⟩))))
theorem r6take {l:List Rat}(nl:l.length≤64)(hz:∀ x,x ∈ l→sz x≤134217728):FSpec P F.ref06_take [vRing,.d (dWs l)] (.d (dWs l)):=FSpecR.data (r6takeR nl hz) (lm9 ..).symm
theorem r6ring  : FSpec P F.ref06_ring [vRing] (vRing):=by
 refine FSpec.intro fn.ref06_ring (by rfl) (by rfl) (nb9 (by rfl)) fun E hE=>(AW.sg hE rfl (bxA rfl rfl fun b1=>(al z.Ring rfl fun b2=>(OL.nil (AW.seq (AW.dg 2 [0,1,2,3,4,5,6] order_free hE rfl (by kernel_rfl) (OI.of_OL (os:=[_,_,_,_,_,_,_]) rfl ?_)))))))
 refine faP fd.Ring_0 rfl rfl (ldPC ce.int rfl rfl rfl (faP fd.Ring_1 rfl rfl (ldPC ce.ints rfl rfl rfl (apMD sl.ints rfl rfl (VC.d _) (fun y hy=>by cases hy) (by decide) (by decide) (bd z.Ring pl.Ring (cs:=[_,_]) rfl (sto sz.Ring rfl rfl rfl rfl rfl (nb9 rfl) (cells2:=[_,_]) rfl (OL.nil ?_)))))))
 exact AW.ret (RetQ.r ⟨_,.cellA rfl rfl ag.Ring (nb9 rfl) .nil,.ag (.cons (.le vR) (.cons (.le vR) .nil))⟩)
set_option maxRecDepth 8000 in
set_option maxHeartbeats 3200000 in
theorem r6ArcsR {l:List Arc9}(nl:l.length≤20)(hz:∀ x,x ∈ l→sz x.q≤134217728):FSpecR P F.ref06_Arcs [vRing,.d (dArcs l)] (formA l).length T.Arc 11 ((formA l).map dArc):=by
 refine FSpecR.intro fn.ref06_Arcs (by rfl) (by rfl) (nb9 (by rfl)) 4 rfl fun E hE=>(AW.sg hE rfl (bxA rfl rfl fun b2=>(asM rfl (OL.nil (AW.sg hE rfl (asM rfl (OL.nil ?_)))))))
 refine AW.seq (AW.seq (AW.own 5 77 T.Arc 11 rfl rfl (AW.rg hE rfl (asD rfl (OL.nil (AW.block ?_))))))
 refine AW.whileK (α:=Nat × Nat × Nat) [(1,_),(2,_),(4,_)] [(2,_)] (fun (i,bq,cq)=>[(5,.osl 77 bq (outI l i).length cq),(6,.d (dI i))]) (fun (i,bq,cq)=>[(77,rowA bq cq (outI l i))]) (fun (i,bq,cq)=>i≤l.length) (fun (i,bq,cq)=>l.length-i) (0,0,0) (.cons (knD rfl) (.cons (knP rfl) (.cons (knM rfl) .nil))) (.cons (owB rfl) .nil) ⟨Nat.zero_le _,.rq2,.cons rfl .nil⟩ ?_
 rintro ⟨i,bq,cq⟩ h1
 have h1:i≤l.length:=h1
 have hlo:=outI_len l i
 have hzo:=outI_sz hz i
 refine AW.seq (AW.sg hE rfl (mvD rfl (mvD rfl (lnL sl.Arcs rfl rfl (c_lss rfl rfl rfl (OL.nil (AW.cond rfl (fun h14=>?_) (fun h14=>?_))))))))
 ·try simp only [dx9] at h14
  refine AW.skip (AW.seq (AW.block (AW.sg hE rfl (mvD rfl (mvD rfl (ixLn sl.Arcs default rfl rfl (by omega) rfl rfl (ldRA ag.Arc rfl (vs:=[_,_,_,_,_,_,_,_,_,_,_]) rfl (nb9 rfl) ?_)))))))
  refine al z.Arc rfl fun b7=>(sto sz.Arc rfl rfl rfl rfl rfl (nb9 rfl) (cells2:=[_,_,_,_,_,_,_,_,_,_,_]) rfl (OL.nil (AW.seq ?_)))
  have hxz:=hz (l.getD i default) (getD_mem (by omega) default)
  refine AW.rg hE rfl (ldPA ag.Ring rfl rfl (vs:=[_,_]) rfl (nb9 rfl) (faP fd.Arc_3 rfl rfl (ldPA ag.Weight rfl rfl (vs:=[_,_,_,_,_,_,_,_]) rfl (nb9 rfl) (clv rfl vL (r3Take (q:=(l.getD i default).q) (by omega)) (faP fd.Arc_3 rfl rfl (sto sz.Weight rfl rfl rfl rfl rfl (nb9 rfl) (cells2:=[_,_,_,_,_,_,_,_,_,_,_]) rfl (OL.nil ?_)))))))
  refine AW.sg hE rfl (asD rfl (OL.nil ?_))
  refine AW.midK (α:=Unit) [(1,_),(2,_),(4,_),(5,_),(6,_),(7,_)] [(2,_),(7,_),(77,_)] (fun _u=>[(8,.d (dI (atA (outI l i) (l.getD i default))))]) (fun _u=>[]) (fun _u=>True) (.cons (knD rfl) (.cons (knP rfl) (.cons (knM rfl) (.cons (knO rfl) (.cons (knD rfl) (.cons (knP rfl) .nil)))))) (.cons (owB rfl) (.cons (owB rfl) (.cons (owR rfl) .nil))) ?_ ?_
  ·refine AW.block ?_
   refine AW.whileK (α:=Nat) [(1,_),(2,_),(4,_),(5,_),(6,_),(7,_)] [(2,_),(7,_),(77,_)] (fun k=>[(8,.d (dI k))]) (fun k=>[]) (fun k=>k≤(outI l i).length∧∀ j,j<k→ordA ((outI l i).getD j default) (l.getD i default)<0) (fun k=>(outI l i).length-k) 0 (.cons (knD rfl) (.cons (knP rfl) (.cons (knM rfl) (.cons (knO rfl) (.cons (knD rfl) (.cons (knP rfl) .nil)))))) (.cons (owB rfl) (.cons (owB rfl) (.cons (owR rfl) .nil))) ⟨⟨Nat.zero_le _,fun j hj=>by omega⟩,.rq1,.nil⟩ ?_
   rintro k ⟨h2,h3⟩
   have h2:k≤(outI l i).length:=h2
   have h3:∀ j,j<k→ordA ((outI l i).getD j default) (l.getD i default)<0:=h3
   refine AW.seq (AW.seq (AW.dg 1 [0,1,2,3,4,5,6,7,8,9,10,11,12] order_free hE rfl (by kernel_rfl) (OI.of_OL (os:=[_,_,_,_,_,_,_,_,_,_,_,_,_]) rfl ?_)))
   refine mvD rfl (mvO rfl (lnO sl.Arcs rfl rfl (c_lss rfl rfl rfl (mvD rfl (OL.split 30 rfl (fun hk=>?_) (fun hk=>?_))))))
   ·have hk:k<(outI l i).length:=by have:=dt9 hk;omega
    refine OL.yes rfl (mvO rfl (OL.yes rfl (mvD rfl (OL.yes rfl (ixOn sl.Arcs rfl rfl (by omega) (OL.yes rfl (ldEA ag.Arc (by decide) rfl rfl (rowA_el (show k<(outI l i).length by omega)) (vs:=cellsArc ((outI l i).getD k default)) rfl (nb9 rfl) ?_)))))))
    refine OL.yes rfl (ldPA ag.Arc rfl rfl (vs:=[_,_,_,_,_,_,_,_,_,_,_]) rfl (nb9 rfl) (OL.yes rfl (clv rfl vL (r6order (x:=(outI l i).getD k default) (y:=(l.getD i default))) (OL.yes rfl (c_lss rfl rfl rfl (OL.split 37 rfl (fun ho=>?_) (fun ho=>?_)))))))
    ·have ho:ordA ((outI l i).getD k default) (l.getD i default)<0:=dt9 ho
     refine pkT rfl rfl (OL.nil (cnT rfl ?_))
     refine AW.skip (AW.block (AW.rg hE rfl (mvD rfl (add_i64 rfl rfl (by omega) (asD rfl (OL.nil ?_))))))
     exact AW.again (x:=k) (k+1) (by omega) ⟨⟨by omega,fun j hj=>by rcases Nat.lt_or_ge j k with h|h;exact h3 j h;obtain rfl:j=k:=(by omega);exact ho⟩,Knows.app .rq6 .rq1,Owns.app (.cons rfl (.cons rfl (.cons rfl .nil))) (.nil)⟩
    ·have ho:¬ ordA ((outI l i).getD k default) (l.getD i default)<0:=df9 ho
     refine pkT rfl rfl (OL.nil (cnF rfl ?_))
     refine AW.exit ?_
     exact AW.reach () ⟨trivial,Knows.app .rq6 (.cons (VLe.int (by rw [atA_eq h2 h3 (.inr ho)])) .nil),Owns.app (.cons rfl (.cons rfl (.cons rfl .nil))) (.nil)⟩
   ·have hk:(outI l i).length≤k:=by have:=df9 hk;omega
    refine OL.nd rfl (OL.nd rfl (OL.nd rfl (OL.nd rfl (OL.nd rfl (OL.nd rfl (OL.nd rfl (pkF rfl rfl ?_)))))))
    refine OL.nil (cnF rfl ?_)
    refine AW.exit ?_
    exact AW.reach () ⟨trivial,Knows.app .rq6 (.cons (VLe.int (by rw [atA_eq h2 h3 (.inl (by omega))])) .nil),Owns.app (.cons rfl (.cons rfl (.cons rfl .nil))) (.nil)⟩
  rintro ⟨⟩ -
  have hat:(atA (outI l i) (l.getD i default))≤(outI l i).length:=List.findIdx_le_length
  refine AW.seq (AW.seq (AW.dg 1 [0,1,2,3,4,5,6,7,8,9,10,11,12] order_free hE rfl (by kernel_rfl) (OI.of_OL (os:=[_,_,_,_,_,_,_,_,_,_,_,_,_]) rfl ?_)))
  refine mvD rfl (mvO rfl (lnO sl.Arcs rfl rfl (c_lss rfl rfl rfl (mvD rfl (OL.split 45 rfl (fun ha=>?_) (fun ha=>?_))))))
  ·have ha:(atA (outI l i) (l.getD i default))<(outI l i).length:=by have:=dt9 ha;omega
   refine OL.yes rfl (mvO rfl (OL.yes rfl (mvD rfl (OL.yes rfl (ixOn sl.Arcs rfl rfl (by omega) (OL.yes rfl (ldEA ag.Arc (by decide) rfl rfl (rowA_el (show (atA (outI l i) (l.getD i default))<(outI l i).length by omega)) (vs:=cellsArc ((outI l i).getD (atA (outI l i) (l.getD i default)) default)) rfl (nb9 rfl) ?_)))))))
   refine OL.yes rfl (ldPA ag.Arc rfl rfl (vs:=[_,_,_,_,_,_,_,_,_,_,_]) rfl (nb9 rfl) (OL.yes rfl (clv rfl vL (r6order (x:=((outI l i).getD (atA (outI l i) (l.getD i default)) default)) (y:=(l.getD i default))) (OL.yes rfl (c_eql rfl rfl rfl (OL.split 52 rfl (fun ho=>?_) (fun ho=>?_)))))))
   ·have ho:ordA ((outI l i).getD (atA (outI l i) (l.getD i default)) default) (l.getD i default)=0:=dt9 ho
    have hyz:=hzo ((outI l i).getD (atA (outI l i) (l.getD i default)) default) (getD_mem ha default)
    refine pkT rfl rfl (OL.nil (cnT rfl ?_))
    refine AW.seq (AW.dg 1 [0,1,2,3,4,5,6,7,8,9,10,11,12,13] order_free hE rfl (by kernel_rfl) (OI.of_OL (os:=[_,_,_,_,_,_,_,_,_,_,_,_,_,_]) rfl ?_))
    refine mvO rfl (mvD rfl (ldPA ag.Ring rfl rfl (vs:=[_,_]) rfl (nb9 rfl) (mvO rfl (mvD rfl (ixOn sl.Arcs rfl rfl (by omega) (faE fd.Arc_3 rfl rfl ?_))))))
    refine ldEA ag.Weight (by decide) rfl rfl (rowA_el ha) (vs:=[.d (dB (ofQ ((outI l i).getD (atA (outI l i) (l.getD i default)) default).q).neg),.d (u32s (ofQ ((outI l i).getD (atA (outI l i) (l.getD i default)) default).q).num),.d (u32s (ofQ ((outI l i).getD (atA (outI l i) (l.getD i default)) default).q).den),.d (dI 0),.d (dB false),.d (dU 0),.d (.sl []),.d (.sl [])]) rfl (nb9 rfl) ?_
    refine faP fd.Arc_3 rfl rfl (ldPA ag.Weight rfl rfl (vs:=[_,_,_,_,_,_,_,_]) rfl (nb9 rfl) (clv rfl vL (r3Plus (p:=((outI l i).getD (atA (outI l i) (l.getD i default)) default).q) (q:=(l.getD i default).q) (by omega) (by omega)) (ixOn sl.Arcs rfl rfl (by omega) (faE fd.Arc_3 rfl rfl ?_))))
    refine stF sz.Weight rfl (d:=dW (((outI l i).getD (atA (outI l i) (l.getD i default)) default).q+(l.getD i default).q)) vd_w rfl rfl (rowA_el ha) (by decide) (el2:=dArc { ((outI l i).getD (atA (outI l i) (l.getD i default)) default) with q:=((outI l i).getD (atA (outI l i) (l.getD i default)) default).q+(l.getD i default).q }) rfl (es2:=((outI l i).set (atA (outI l i) (l.getD i default)) { ((outI l i).getD (atA (outI l i) (l.getD i default)) default) with q:=((outI l i).getD (atA (outI l i) (l.getD i default)) default).q+(l.getD i default).q }).map dArc) (by rw [List.map_set]) ?_
    refine OL.nil (AW.exit (AW.rg hE rfl (mvD rfl (add_i64 rfl rfl (by omega) (asD rfl (OL.nil ?_))))))
    exact AW.again (x:=(i,bq,cq)) (i+1,bq,cq) (by (simp only [];omega)) ⟨by omega,Knows.app .rq3 (.cons (by rw [outI_succ (by omega),insA,if_pos ⟨ha,ho⟩,List.length_set];exact VLe.refl _) .rq1),Owns.app (.cons rfl .nil) (.cons (by rw [outI_succ (by omega),insA,if_pos ⟨ha,ho⟩];rfl) .nil)⟩
   ·have ho:¬ ordA ((outI l i).getD (atA (outI l i) (l.getD i default)) default) (l.getD i default)=0:=df9 ho
    have hin:insA (outI l i) (l.getD i default)=(outI l i).take (atA (outI l i) (l.getD i default))++(l.getD i default)::(outI l i).drop (atA (outI l i) (l.getD i default)):=if_neg (fun e=>ho e.2)
    refine pkT rfl rfl (OL.nil (cnF rfl ?_))
    refine AW.skip ?_
    have htk:((outI l i).take (atA (outI l i) (l.getD i default))).length=(atA (outI l i) (l.getD i default)):=by rw [List.length_take];omega
    have hdl:((outI l i).drop (atA (outI l i) (l.getD i default))).length=(outI l i).length-(atA (outI l i) (l.getD i default)):=List.length_drop
    refine AW.freeze 77 rfl (AW.to [(1,.d (dArcs l)),(2,.ptr 2 b2 0),(4,.mt),(5,.d (dArcs (outI l i))),(6,.d (dI i)),(7,.ptr 7 b7 0),(8,.d (dI (atA (outI l i) (l.getD i default))))] [(2,.box b2 T.Ring [.d (dI 1),.d (.sl [])]),(7,.box b7 T.Arc (cellsArc (l.getD i default)))] (.cons vR (.cons VLe.ptr (.cons vR (.cons (frz_osl (by rw [lm9]) rfl) (.cons vR (.cons VLe.ptr .rq1)))))) (.cons rfl (.cons rfl .nil)) ?_)
    refine AW.dg 2 [0,1,2,4,5,7,8,9,3,6,10,11] order_free hE rfl (by kernel_rfl) (OI.of_OL (os:=[_,_,_,_,_,_,_,_,_,_,_,_]) rfl ?_)
    refine mvD rfl (mvD rfl (slTo sl.Arcs rfl rfl (fun _=>rfl) (by omega) (l2:=(outI l i).take (atA (outI l i) (l.getD i default))) (by rw [Int.toNat_natCast]) (ldPA ag.Arc rfl rfl (vs:=[_,_,_,_,_,_,_,_,_,_,_]) rfl (nb9 rfl) (lt1 (y:=dArc (l.getD i default)) sl.Arcs vd_arc rfl (by decide) (mvD rfl (mvD rfl (slFrom sl.Arcs rfl rfl (fun _=>rfl) (by omega) (l2:=(outI l i).drop (atA (outI l i) (l.getD i default))) (by rw [Int.toNat_natCast]) ?_)))))))
    refine apM sl.Arcs rfl rfl (VC.d _) arcs_len (by rw [lm9,htk];omega) (by rw [lm9,htk];omega) rfl fun b70 c70=>?_
    refine apO sl.Arcs rfl rfl rfl (by rw [lm9]) (VC.d _) (fun y hy=>by rw [ms9 hy];rfl) (by rw [lm9,htk];simp only [ls9];omega) (by rw [lm9,htk];simp only [ls9];omega) (.inl rfl) (ys:=((outI l i).take (atA (outI l i) (l.getD i default))++[(l.getD i default)]).map dArc) (by rw [List.map_append];rfl) (n2:=(atA (outI l i) (l.getD i default))+1) (by rw [lm9,htk];rfl) fun b73 c73=>?_
    refine apO sl.Arcs rfl rfl rfl (by rw [lm9,la9,htk];rfl) (VC.d _) arcs_len (by rw [lm9,hdl];omega) (by rw [lm9,hdl];omega) (.inl rfl) (ys:=((outI l i).take (atA (outI l i) (l.getD i default))++(l.getD i default)::(outI l i).drop (atA (outI l i) (l.getD i default))).map dArc) (by rw [← List.map_append,List.append_assoc];rfl) (n2:=((outI l i).take (atA (outI l i) (l.getD i default))++(l.getD i default)::(outI l i).drop (atA (outI l i) (l.getD i default))).length) (by rw [lm9,hdl,la9,List.length_cons,htk,hdl];omega) fun b77 c77=>?_
    refine asO rfl (OL.nil (AW.rg hE rfl (mvD rfl (add_i64 rfl rfl (by omega) (asD rfl (OL.nil ?_))))))
    exact AW.again (x:=(i,bq,cq)) (i+1,b77,c77) (by (simp only [];omega)) ⟨by omega,Knows.app .rq3 (.cons (by rw [outI_succ (by omega),hin];exact VLe.refl _) .rq1),Owns.app (.cons rfl .nil) (.cons (by rw [outI_succ (by omega),hin];rfl) .nil)⟩
  ·have ha:¬ (atA (outI l i) (l.getD i default))<(outI l i).length:=by have:=df9 ha;omega
   have hin:insA (outI l i) (l.getD i default)=(outI l i).take (atA (outI l i) (l.getD i default))++(l.getD i default)::(outI l i).drop (atA (outI l i) (l.getD i default)):=if_neg (fun e=>ha e.1)
   refine OL.nd rfl (OL.nd rfl (OL.nd rfl (OL.nd rfl (OL.nd rfl (OL.nd rfl (OL.nd rfl (pkF rfl rfl ?_)))))))
   refine OL.nil (cnF rfl ?_)
   refine AW.skip ?_
   have htk:((outI l i).take (atA (outI l i) (l.getD i default))).length=(atA (outI l i) (l.getD i default)):=by rw [List.length_take];omega
   have hdl:((outI l i).drop (atA (outI l i) (l.getD i default))).length=(outI l i).length-(atA (outI l i) (l.getD i default)):=List.length_drop
   refine AW.freeze 77 rfl (AW.to [(1,.d (dArcs l)),(2,.ptr 2 b2 0),(4,.mt),(5,.d (dArcs (outI l i))),(6,.d (dI i)),(7,.ptr 7 b7 0),(8,.d (dI (atA (outI l i) (l.getD i default))))] [(2,.box b2 T.Ring [.d (dI 1),.d (.sl [])]),(7,.box b7 T.Arc (cellsArc (l.getD i default)))] (.cons vR (.cons VLe.ptr (.cons vR (.cons (frz_osl (by rw [lm9]) rfl) (.cons vR (.cons VLe.ptr .rq1)))))) (.cons rfl (.cons rfl .nil)) ?_)
   refine AW.dg 2 [0,1,2,4,5,7,8,9,3,6,10,11] order_free hE rfl (by kernel_rfl) (OI.of_OL (os:=[_,_,_,_,_,_,_,_,_,_,_,_]) rfl ?_)
   refine mvD rfl (mvD rfl (slTo sl.Arcs rfl rfl (fun _=>rfl) (by omega) (l2:=(outI l i).take (atA (outI l i) (l.getD i default))) (by rw [Int.toNat_natCast]) (ldPA ag.Arc rfl rfl (vs:=[_,_,_,_,_,_,_,_,_,_,_]) rfl (nb9 rfl) (lt1 (y:=dArc (l.getD i default)) sl.Arcs vd_arc rfl (by decide) (mvD rfl (mvD rfl (slFrom sl.Arcs rfl rfl (fun _=>rfl) (by omega) (l2:=(outI l i).drop (atA (outI l i) (l.getD i default))) (by rw [Int.toNat_natCast]) ?_)))))))
   refine apM sl.Arcs rfl rfl (VC.d _) arcs_len (by rw [lm9,htk];omega) (by rw [lm9,htk];omega) rfl fun b70 c70=>?_
   refine apO sl.Arcs rfl rfl rfl (by rw [lm9]) (VC.d _) (fun y hy=>by rw [ms9 hy];rfl) (by rw [lm9,htk];simp only [ls9];omega) (by rw [lm9,htk];simp only [ls9];omega) (.inl rfl) (ys:=((outI l i).take (atA (outI l i) (l.getD i default))++[(l.getD i default)]).map dArc) (by rw [List.map_append];rfl) (n2:=(atA (outI l i) (l.getD i default))+1) (by rw [lm9,htk];rfl) fun b73 c73=>?_
   refine apO sl.Arcs rfl rfl rfl (by rw [lm9,la9,htk];rfl) (VC.d _) arcs_len (by rw [lm9,hdl];omega) (by rw [lm9,hdl];omega) (.inl rfl) (ys:=((outI l i).take (atA (outI l i) (l.getD i default))++(l.getD i default)::(outI l i).drop (atA (outI l i) (l.getD i default))).map dArc) (by rw [← List.map_append,List.append_assoc];rfl) (n2:=((outI l i).take (atA (outI l i) (l.getD i default))++(l.getD i default)::(outI l i).drop (atA (outI l i) (l.getD i default))).length) (by rw [lm9,hdl,la9,List.length_cons,htk,hdl];omega) fun b77 c77=>?_
   refine asO rfl (OL.nil (AW.rg hE rfl (mvD rfl (add_i64 rfl rfl (by omega) (asD rfl (OL.nil ?_))))))
   exact AW.again (x:=(i,bq,cq)) (i+1,b77,c77) (by (simp only [];omega)) ⟨by omega,Knows.app .rq3 (.cons (by rw [outI_succ (by omega),hin];exact VLe.refl _) .rq1),Owns.app (.cons rfl .nil) (.cons (by rw [outI_succ (by omega),hin];rfl) .nil)⟩
 ·try simp only [dx9] at h14
  refine AW.exit (AW.seq ?_)
  obtain rfl:i=l.length:=by omega
  refine AW.freeze 77 rfl (AW.to [(2,.ptr 2 b2 0),(4,.mt),(5,.d (dArcs (outI l l.length)))] [(2,.box b2 T.Ring [.d (dI 1),.d (.sl [])])] (.cons VLe.ptr (.cons vR (.cons (frz_osl (by rw [lm9]) rfl) .nil))) (.cons rfl .nil) ?_)
  refine AW.rg hE rfl (asM rfl (OL.nil (AW.seq (AW.seq (AW.own 9 98 T.Arc 11 rfl rfl (AW.rg hE rfl (asD rfl ?_)))))))
  refine OL.nil (AW.block ?_)
  refine AW.whileK (α:=Nat × Nat × Nat) [(2,_),(4,_),(5,_)] [(2,_)] (fun (k,bk,ck)=>[(9,.osl 98 bk (nzA ((outI l l.length).take k)).length ck),(10,.d (dI k))]) (fun (k,bk,ck)=>[(98,rowA bk ck (nzA ((outI l l.length).take k)))]) (fun (k,bk,ck)=>k≤(outI l l.length).length) (fun (k,bk,ck)=>(outI l l.length).length-k) (0,0,0) (.cons (knP rfl) (.cons (knM rfl) (.cons (knD rfl) .nil))) (.cons (owB rfl) .nil) ⟨Nat.zero_le _,.rq2,.cons rfl .nil⟩ ?_
  rintro ⟨k,bk,ck⟩ h5
  have h5:k≤(outI l l.length).length:=h5
  have hnl:(nzA ((outI l l.length).take k)).length≤k:=by unfold nzA;refine Nat.le_trans (List.length_filter_le ..) ?_;rw [List.length_take];omega
  refine AW.seq (AW.sg hE rfl (mvD rfl (mvD rfl (lnL sl.Arcs rfl rfl (c_lss rfl rfl rfl (OL.nil (AW.cond rfl (fun h81=>?_) (fun h81=>?_))))))))
  ·try simp only [dx9] at h81
   refine AW.skip (AW.seq (AW.block (AW.seq ?_)))
   have hk9:k<(outI l l.length).length:=by omega
   have hyz:=outI_sz hz l.length _ (getD_mem hk9 default)
   have hyz2:sz ((outI l l.length).getD k default).q≤68719476736:=by have:=Nat.mul_le_mul_right 134217730 (show l.length+1≤21 by omega);omega
   refine AW.dg 1 [0,1,2,3,4,5,6,7] order_free hE rfl (by kernel_rfl) (OI.of_OL (os:=[_,_,_,_,_,_,_,_]) rfl ?_)
   refine ldPA ag.Ring rfl rfl (vs:=[_,_]) rfl (nb9 rfl) (mvD rfl (mvD rfl (ixLn sl.Arcs default rfl rfl hk9 rfl rfl (faR fd.Arc_3 rfl rfl (ldRA ag.Weight rfl (vs:=[_,_,_,_,_,_,_,_]) rfl (nb9 rfl) (clv rfl vL (r3IsZero (q:=((outI l l.length).getD k default).q) hyz2) (nt rfl ?_)))))))
   refine OL.nil (AW.cond rfl (fun hq=>?_) (fun hq=>?_))
   ·have hq:((outI l l.length).getD k default).q≠0:=nd_t hq
    refine AW.rg hE rfl (mvO rfl (mvD rfl (mvD rfl (ixLn sl.Arcs default rfl rfl hk9 rfl rfl (ldRA ag.Arc rfl (vs:=[_,_,_,_,_,_,_,_,_,_,_]) rfl (nb9 rfl) (lt1 (y:=dArc ((outI l l.length).getD k default)) sl.Arcs vd_arc rfl (by decide) ?_))))))
    refine apO sl.Arcs rfl rfl rfl (by rw [lm9]) (VC.d _) (fun y hy=>by rw [ms9 hy];rfl) (by simp;omega) (by simp;omega) (.inr rfl) (ys:=(nzA ((outI l l.length).take k)++[(outI l l.length).getD k default]).map dArc) (by rw [List.map_append];rfl) (n2:=(nzA ((outI l l.length).take k)++[(outI l l.length).getD k default]).length) (by rw [la9];rfl) fun b98 c98=>?_
    refine asO rfl (OL.nil (AW.rg hE rfl (mvD rfl (add_i64 rfl rfl (by omega) (asD rfl (OL.nil ?_))))))
    exact AW.again (x:=(k,bk,ck)) (k+1,b98,c98) (by (simp only [];omega)) ⟨by omega,Knows.app .rq3 (.cons (by rw [nzA_snoc hk9,if_pos hq];exact VLe.refl _) .rq1),Owns.app (.cons rfl .nil) (.cons (by rw [nzA_snoc hk9,if_pos hq];rfl) .nil)⟩
   ·have hq:((outI l l.length).getD k default).q=0:=nd_f hq
    refine AW.skip (AW.rg hE rfl (mvD rfl (add_i64 rfl rfl (by omega) (asD rfl (OL.nil ?_)))))
    exact AW.again (x:=(k,bk,ck)) (k+1,bk,ck) (by (simp only [];omega)) ⟨by omega,Knows.app .rq3 (.cons (by rw [nzA_snoc hk9,if_neg (fun e=>e hq),List.append_nil];exact VLe.refl _) .rq1),Owns.app (.cons rfl .nil) (.cons (by rw [nzA_snoc hk9,if_neg (fun e=>e hq),List.append_nil];rfl) .nil)⟩
  ·try simp only [dx9] at h81
   refine AW.exit (AW.seq ?_)
   obtain rfl:k=(outI l l.length).length:=by omega
   have e9:nzA ((outI l l.length).take (outI l l.length).length)=formA l:=by rw [← outI_all,List.take_length]
   dsimp only
   rw [e9]
   exact AW.rg hE rfl (mvO rfl (asO rfl (OL.nil (AW.ret ⟨.inr rfl,98,bk,ck,(formA l).map dArc,rfl,rfl,by rw [lm9];exact Nat.le_refl _,List.take_of_length_le (by rw [lm9];exact Nat.le_refl _)⟩))))
theorem r6Arcs {l:List Arc9}(nl:l.length≤20)(hz:∀ x,x ∈ l→sz x.q≤134217728):FSpec P F.ref06_Arcs [vRing,.d (dArcs l)] (.d (dArcs (formA l))):=FSpecR.data (r6ArcsR nl hz) (lm9 ..).symm
theorem r6Form {a:Au}(h:a.Ok)(za:a.Sz 134217728 20)(s2:a.st≤64):FSpec P F.ref06_Form [vAu a] (vAu (formOf a)):=by
 have e1:=h.ini
 have e2:=h.fin
 have e3:=za.num
 refine FSpec.intro fn.ref06_Form (by rfl) (by rfl) (nb9 (by rfl)) fun E hE=>(AW.sg hE rfl (bxA rfl rfl fun b1=>(al z.Auto rfl fun b2=>(OL.nil (AW.seq (AW.dg 1 [0,1,2,3,4,5,6,7,8,9,10,11,12,13,14,15,16,17,18,19,20,21,22,23] order_free hE rfl (by kernel_rfl) (OI.of_OL (os:=[_,_,_,_,_,_,_,_,_,_,_,_,_,_,_,_,_,_,_,_,_,_,_,_]) rfl ?_)))))))
 refine faP fd.Auto_0 rfl rfl (ldPA ag.Ring rfl rfl (vs:=[_,_]) rfl (nb9 rfl) (clv rfl .rq1 (r6ring) (faP fd.Auto_1 rfl rfl (ldPC ce.int rfl rfl rfl (faP fd.Auto_2 rfl rfl (ldPC ce.int rfl rfl rfl (faP fd.Auto_0 rfl rfl ?_)))))))
 refine ldPA ag.Ring rfl rfl (vs:=[_,_]) rfl (nb9 rfl) (faP fd.Auto_3 rfl rfl (ldPC ce.Weights rfl rfl rfl (clv rfl vL (r6take (l:=a.ini) (by omega) za.ini) (faP fd.Auto_0 rfl rfl (ldPA ag.Ring rfl rfl (vs:=[_,_]) rfl (nb9 rfl) (faP fd.Auto_4 rfl rfl (ldPC ce.Weights rfl rfl rfl ?_)))))))
 refine clv rfl vL (r6take (l:=a.fin) (by omega) za.fin) (faP fd.Auto_0 rfl rfl (ldPA ag.Ring rfl rfl (vs:=[_,_]) rfl (nb9 rfl) (faP fd.Auto_5 rfl rfl (ldPC ce.Arcs rfl rfl rfl (clv rfl vL (r6Arcs (l:=a.arcs) e3 za.arc) (bd2 (cs:=[_,_,_,_,_,_,_]) z.Auto pl.Auto (pvC (by exact evA rfl) (pvC (by exact evD rfl) (pvC (by exact evD rfl) (pvC (by exact evD rfl) (pvC (by exact evD rfl) (pvC (by exact evD rfl) (pvN))))))) (by rfl) (sto sz.Auto rfl rfl rfl rfl rfl (nb9 rfl) (cells2:=[_,_,_,_,_,_,_]) rfl ?_)))))))
 exact OL.nil (AW.ret (RetQ.r ⟨_,.cellA rfl rfl ag.Auto (nb9 rfl) .nil,.ag (.cons (.le vR) (.cons (.le vR) (.cons (.le vR) (.cons (.le vR) (.cons (.le vR) (.cons (.le vR) (.cons (.le vR) .nil)))))))⟩))
end Go.Proofs.YtmcoihfkniccdaaGreatDoor

/-
  Walks of layers 5 and 8 of the specification: words, weights of words (printed by mk2.py).
-/
import Derived.Test.YtocehciipjhlkaaGreatDoorKWkS
import Derived.Test.YtocehciipjhlkaaGreatDoorKWkGB
import Derived.Test.YtocehciipjhlkaaGreatDoorKHxA
set_option linter.unusedVariables false
set_option linter.unusedSimpArgs false
namespace Go.Proofs.YtocehciipjhlkaaGreatDoor
open Go Go.AL
theorem slx_order (x y:Arc9):slx [(x.f:Int),(x.l:Int),(x.t:Int)] [(y.f:Int),(y.l:Int),(y.t:Int)]=ordA x y:=by
 have key:∀ (a b:Nat) (u v:List Int),cmpL ((a:Int)::u) ((b:Int)::v)=if cI a b≠0 then cI a b else cmpL u v:=fun a b u v=>by
  rw [cmpL]
  unfold cI
  by_cases h1:a<b
  ·rw [if_pos (by omega),if_pos h1,if_pos (by decide)]
  ·rw [if_neg (by omega),if_neg h1]
   by_cases h2:b<a
   ·rw [if_pos (by omega),if_pos h2,if_pos (by decide)]
   ·rw [if_neg (by omega),if_neg h2,if_neg (by decide)]
 unfold slx ordA
 rw [if_neg (by simp),key,key,key]
 congr 2
 split
 ·rfl
 ·rename_i h;rw [show cmpL [] []=0 from rfl];exact (Decidable.not_not.1 h).symm
def outI (l:List Arc9)(i:Nat):List Arc9:=(l.take i).foldl insA []
theorem outI_succ {l:List Arc9}{i:Nat}(hi:i<l.length):outI l (i+1)=insA (outI l i) (l.getD i default):=by
 unfold outI
 rw [take_snoc default hi,List.foldl_append];rfl
theorem insA_len (out:List Arc9)(x:Arc9):(insA out x).length≤out.length+1:=by
 unfold insA
 split
 ·rw [List.length_set];omega
 ·rw [la9,List.length_cons,List.length_take,List.length_drop];omega
theorem insA_sz {k:Nat}{out:List Arc9}{x:Arc9}(h:SumZ k out)(hx:sz x.q≤134217728):SumZ (k+1) (insA out x):=by
 have up:∀ y,sz y≤(k+1)*134217730→sz y≤(k+1+1)*134217730:=fun y hy=>Nat.le_trans hy (Nat.mul_le_mul_right _ (Nat.le_succ _))
 intro y hy
 unfold insA at hy
 split at hy
 ·rename_i hc
  rcases List.mem_or_eq_of_mem_set hy with hy|rfl
  ·exact up _ (h y hy)
  ·have h1:=h _ (getD_mem hc.1 default)
   have h2:=sz_add (out.getD (atA out x) default).q x.q
   show sz ((out.getD (atA out x) default).q+x.q)≤_
   omega
 ·rcases mp9 hy with hy|hy
  ·exact up _ (h y (List.mem_of_mem_take hy))
  ·rcases List.mem_cons.1 hy with rfl|hy
   ·omega
   ·exact up _ (h y (List.mem_of_mem_drop hy))
theorem outI_len (l:List Arc9):∀ i,(outI l i).length≤i
 | 0=>Nat.le_refl _
 | i + 1 => by
  have ih:=outI_len l i
  rcases Nat.lt_or_ge i l.length with h|h
  ·rw [outI_succ h]
   have:=insA_len (outI l i) (l.getD i default)
   omega
  ·unfold outI at *
   rw [List.take_of_length_le h] at ih
   rw [List.take_of_length_le (by omega)];omega
theorem outI_sz {l:List Arc9}(hz:∀ x,x ∈ l→sz x.q≤134217728):∀ i,SumZ i (outI l i)
 | 0=>fun x hx=>by cases hx
 | i + 1 => by
  rcases Nat.lt_or_ge i l.length with h|h
  ·rw [outI_succ h]
   exact insA_sz (outI_sz hz i) (hz _ (getD_mem h default))
  ·have e:outI l (i+1)=outI l i:=by unfold outI;rw [List.take_of_length_le h,List.take_of_length_le (by omega)]
   rw [e]
   exact fun x hx=>Nat.le_trans (outI_sz hz i x hx) (Nat.mul_le_mul_right _ (Nat.le_succ _))
theorem outI_all (l:List Arc9):nzA (outI l l.length)=formA l:=by unfold outI formA;rw [List.take_length]
theorem atA_eq {out:List Arc9}{x:Arc9}{k:Nat}(hk:k≤out.length)(h:∀ j,j<k→ordA (out.getD j default) x<0)(h2:k=out.length ∨ ¬ ordA (out.getD k default) x<0):atA out x=k:=by
 unfold atA
 have get:∀ j,j<out.length→out[j]? = some (out.getD j default):=fun j hj=>by rw [gd9,ge9 hj];rfl
 rcases Nat.lt_or_ge k out.length with hl|hl
 ·have hn:¬ ordA (out.getD k default) x<0:=h2.resolve_left (by omega)
  refine (List.findIdx_eq hl).2 ⟨?_,fun j hj=>?_⟩
  ·have e:out[k]=out.getD k default:=by rw [gd9,ge9 hl];rfl
   rw [e];exact decide_eq_true hn
  ·have e:out[j]=out.getD j default:=by rw [gd9,ge9 (by omega)];rfl
   rw [e];exact decide_eq_false (fun k9=>k9 (h j hj))
 ·have hk9:k=out.length:=by omega
  subst hk9
  refine List.findIdx_eq_length.2 fun y hy=>?_
  obtain ⟨j,hj,rfl⟩:=List.mem_iff_getElem.1 hy
  have e:out[j]=out.getD j default:=by rw [gd9,ge9 hj];rfl
  rw [e];exact decide_eq_false (fun k9=>k9 (h j hj))
theorem nzA_snoc {l:List Arc9}{i:Nat}(hi:i<l.length):nzA (l.take (i+1))=nzA (l.take i)++(if (l.getD i default).q≠0 then [l.getD i default] else []):=by
 rw [take_snoc default hi]
 unfold nzA
 rw [List.filter_append]
 congr 1
 by_cases h:(l.getD i default).q≠0
 ·rw [if_pos h];simp only [List.filter_cons,decide_eq_true h,List.filter_nil,if_true]
 ·rw [if_neg h];simp only [List.filter_cons,decide_eq_false h,List.filter_nil];rfl
theorem ref05_CompareS {l m:List Int}(nl:l.length≤1099511627776):FSpec P F.ref05_Compare [.d (ints l),.d (ints m)] (.d (dI (slx l m))):=by
 refine FSpec.intro fn.ref05_Compare (by rfl) (by rfl) (nb9 (by rfl)) fun E hE=>(AW.sg hE rfl (asD rfl (OL.nil (AW.seq (AW.sg hE rfl (mvD rfl (lnL sl.ints rfl rfl ?_)))))))
 refine mvD rfl (lnL sl.ints rfl rfl (c_neq rfl rfl rfl (OL.nil (AW.cond rfl (fun hn=>?_) (fun hn=>?_)))))
 ·have hn:l.length≠m.length:=fun e=>nd_t hn (by rw [e])
  refine AW.seq (AW.sg hE rfl (mvD rfl (lnL sl.ints rfl rfl (mvD rfl (lnL sl.ints rfl rfl (c_lss rfl rfl rfl (OL.nil ?_)))))))
  refine AW.cond rfl (fun hlt=>?_) (fun hlt=>?_)
  ·have hlt:l.length<m.length:=by have:=dt9 hlt;omega
   exact AW.sg hE rfl (asD rfl (OL.nil (AW.ret (RetQ.r ⟨_,.tmp rfl .nil,.le (VLe.int (by unfold slx;rw [if_pos hn,if_pos hlt]))⟩))))
  ·have hlt:¬ l.length<m.length:=by have:=df9 hlt;omega
   exact AW.skip (AW.sg hE rfl (asD rfl (OL.nil (AW.ret (RetQ.r ⟨_,.tmp rfl .nil,.le (VLe.int (by unfold slx;rw [if_pos hn,if_neg hlt]))⟩)))))
 ·have hn:l.length=m.length:=by have:=nd_f hn;omega
  rw [show slx l m=cmpL l m from if_neg (by omega)]
  refine AW.skip (AW.seq (AW.sg hE rfl (asD rfl (OL.nil (AW.block ?_)))))
  refine AW.whileK (α:=Nat) [(0,_),(1,_)] [] (fun i=>[(5,.d (dI i))]) (fun i=>[]) (fun i=>i≤l.length∧cmpL l m=cmpL (l.drop i) (m.drop i)) (fun i=>l.length-i) 0 (.cons (knD rfl) (.cons (knD rfl) .nil)) .nil ⟨⟨Nat.zero_le _,rfl⟩,.rq1,.nil⟩ ?_
  rintro i ⟨h1,h3⟩
  have h1:i≤l.length:=h1
  have h3:cmpL l m=cmpL (l.drop i) (m.drop i):=h3
  refine AW.seq (AW.sg hE rfl (mvD rfl (mvD rfl (lnL sl.ints rfl rfl (c_lss rfl rfl rfl (OL.nil (AW.cond rfl (fun h19=>?_) (fun h19=>?_))))))))
  ·try simp only [dx9] at h19
   refine AW.skip (AW.seq (AW.block (AW.seq (AW.seq (AW.dg 1 [0,1,2,3,4,5,6,7,8] order_free hE rfl (by kernel_rfl) (OI.of_OL (os:=[_,_,_,_,_,_,_,_,_]) rfl ?_))))))
   refine mvD rfl (mvD rfl (ixLn sl.ints 0 rfl rfl (by omega) rfl rfl (ldRC ce.int rfl (mvD rfl (mvD rfl (ixLn sl.ints 0 rfl rfl (by omega) rfl rfl (ldRC ce.int rfl ?_)))))))
   refine c_lss rfl rfl rfl (OL.nil (AW.cond rfl (fun ha=>?_) (fun ha=>?_)))
   ·have ha:=dt9 ha
    exact AW.sg hE rfl (asD rfl (OL.nil (AW.ret (RetQ.r ⟨_,.tmp rfl .nil,.le (VLe.int (by rw [h3,cmpL_drop (by omega) (by omega),show cmpI (l.getD i 0) (m.getD i 0) = -1 from if_pos ha,if_neg (by decide)]))⟩))))
   ·have ha:=df9 ha
    refine AW.skip (AW.seq (AW.dg 1 [0,1,2,3,4,5,6,7,8] order_free hE rfl (by kernel_rfl) (OI.of_OL (os:=[_,_,_,_,_,_,_,_,_]) rfl ?_)))
    refine mvD rfl (mvD rfl (ixLn sl.ints 0 rfl rfl (by omega) rfl rfl (ldRC ce.int rfl (mvD rfl (mvD rfl (ixLn sl.ints 0 rfl rfl (by omega) rfl rfl (ldRC ce.int rfl ?_)))))))
    refine c_gtr rfl rfl rfl (OL.nil (AW.cond rfl (fun hb=>?_) (fun hb=>?_)))
    ·have hb:=dt9 hb
     exact AW.sg hE rfl (asD rfl (OL.nil (AW.ret (RetQ.r ⟨_,.tmp rfl .nil,.le (VLe.int (by rw [h3,cmpL_drop (by omega) (by omega),show cmpI (l.getD i 0) (m.getD i 0)=1 by unfold cmpI;rw [if_neg ha,if_pos hb],if_neg (by decide)]))⟩))))
    ·have hb:=df9 hb
     exact AW.skip (AW.rg hE rfl (mvD rfl (add_i64 rfl rfl (by omega) (asD rfl (OL.nil (AW.again (x:=i) (i+1) (by omega) ⟨⟨by omega,by rw [h3,cmpL_drop (by omega) (by omega),if_pos (by unfold cmpI;rw [if_neg ha,if_neg hb])]⟩,Knows.app .rq2 .rq1,.nil⟩))))))
  ·try simp only [dx9] at h19
   exact AW.exit (AW.sg hE rfl (asD rfl (OL.nil (AW.ret (RetQ.r ⟨_,.tmp rfl .nil,.le (VLe.int (by rw [h3,List.drop_eq_nil_of_le (show l.length≤i by omega),List.drop_eq_nil_of_le (show m.length≤i by omega),cmpL]))⟩)))))
theorem r6order {x y:Arc9}:FSpec P F.ref06_order [vArc x,vArc y] (.d (dI (ordA x y))):=by
 refine FSpec.intro fn.ref06_order (by rfl) (by rfl) (nb9 (by rfl)) fun E hE=>(AW.sg hE rfl (bxA rfl rfl fun b2=>(bxA rfl rfl fun b3=>(asD rfl (OL.nil (AW.sg hE rfl (faP fd.Arc_0 rfl rfl ?_)))))))
 refine ldPC ce.int rfl rfl rfl (faP fd.Arc_1 rfl rfl (ldPC ce.int rfl rfl rfl (faP fd.Arc_2 rfl rfl (ldPC ce.int rfl rfl rfl (ltN (ys:=[dI x.f,dI x.l,dI x.t]) sl.ints rfl (pdC (VC.d _).vd (pdC (VC.d _).vd (pdC (VC.d _).vd pdN))) rfl (by decide) (by decide) (fun y hy=>by simp at hy;rcases hy with rfl|rfl|rfl <;> rfl) (faP fd.Arc_0 rfl rfl (ldPC ce.int rfl rfl rfl ?_)))))))
 refine faP fd.Arc_1 rfl rfl (ldPC ce.int rfl rfl rfl (faP fd.Arc_2 rfl rfl (ldPC ce.int rfl rfl rfl (ltN (ys:=[dI y.f,dI y.l,dI y.t]) sl.ints rfl (pdC (VC.d _).vd (pdC (VC.d _).vd (pdC (VC.d _).vd pdN))) rfl (by decide) (by decide) (fun y hy=>by simp at hy;rcases hy with rfl|rfl|rfl <;> rfl) (clv rfl vL (ref05_CompareS (l:=[(x.f:Int),(x.l:Int),(x.t:Int)]) (m:=[(y.f:Int),(y.l:Int),(y.t:Int)]) (show 3≤1099511627776 by decide)) ?_)))))
 rw [slx_order]
 exact asD rfl (OL.nil (AW.ret (RetQ.r ⟨_,.tmp rfl .nil,.le vR⟩)))
theorem r6takeR {l:List Rat}(nl:l.length≤64)(hz:∀ x,x ∈ l→sz x≤134217728):FSpecR P F.ref06_take [vRing,.d (dWs l)] l.length T.Weight 8 (l.map dW):=by
 refine FSpecR.intro fn.ref06_take (by rfl) (by rfl) (nb9 (by rfl)) 4 rfl fun E hE=>(AW.sg hE rfl (bxA rfl rfl fun b2=>(asM rfl (OL.nil (AW.sg hE rfl (asM rfl (OL.nil ?_)))))))
 refine AW.seq (AW.seq (AW.own 5 21 T.Weight 8 rfl rfl (AW.rg hE rfl (asD rfl (OL.nil (AW.block ?_))))))
 refine AW.whileK (α:=Nat × Nat × Nat) [(1,_),(2,_),(4,_)] [(2,_)] (fun (i,bq,cq)=>[(5,.osl 21 bq i cq),(6,.d (dI i))]) (fun (i,bq,cq)=>[(21,.row bq cq T.Weight 8 ((l.take i).map dW))]) (fun (i,bq,cq)=>i≤l.length) (fun (i,bq,cq)=>l.length-i) (0,0,0) (.cons (knD rfl) (.cons (knP rfl) (.cons (knM rfl) .nil))) (.cons (owB rfl) .nil) ⟨Nat.zero_le _,.rq2,.cons rfl .nil⟩ ?_
 rintro ⟨i,bq,cq⟩ h1
 have h1:i≤l.length:=h1
 refine AW.seq (AW.sg hE rfl (mvD rfl (mvD rfl (lnL sl.Weights rfl rfl (c_lss rfl rfl rfl (OL.nil (AW.cond rfl (fun h10=>?_) (fun h10=>?_))))))))
 ·try simp only [dx9] at h10
  refine AW.skip (AW.seq (AW.block ?_))
  have hx:=hz (l.getD i 0) (getD_mem (by omega) 0)
  refine AW.dg 2 [0,1,2,3,4,5,6,7,8,9] order_free hE rfl (by kernel_rfl) (OI.of_OL (os:=[_,_,_,_,_,_,_,_,_,_]) rfl ?_)
  refine mvO rfl (ldPA ag.Ring rfl rfl (vs:=[_,_]) rfl (nb9 rfl) (mvD rfl (mvD rfl (ixLn sl.Weights 0 rfl rfl (by omega) rfl rfl (ldRA ag.Weight rfl (vs:=[_,_,_,_,_,_,_,_]) rfl (nb9 rfl) (clv rfl vL (r3Take (q:=(l.getD i 0)) (by omega)) (lt1 (y:=dW (l.getD i 0)) sl.Weights vd_w rfl (by decide) ?_)))))))
  refine apO sl.Weights rfl rfl rfl (by rw [lm9,List.length_take];omega) (VC.d _) (fun y hy=>by rw [ms9 hy];rfl) (by simp;omega) (by simp;omega) (.inr rfl) (ys:=(l.take (i+1)).map dW) (by rw [take_snoc 0 (show i<l.length by omega),List.map_append];rfl) (n2:=i+1) rfl fun b2 c2=>?_
  exact asO rfl (OL.nil (AW.rg hE rfl (mvD rfl (add_i64 rfl rfl (by omega) (asD rfl (OL.nil (AW.again (x:=(i,bq,cq)) (i+1,b2,c2) (by (simp only [];omega)) ⟨by omega,Knows.app .rq3 .rq2,Owns.app (.cons rfl .nil) (.cons rfl .nil)⟩)))))))
 ·try simp only [dx9] at h10
  refine AW.exit (AW.seq ?_)
  obtain rfl:i=l.length:=by omega
  have e9:l.take l.length=l:=List.take_length
  exact AW.rg hE rfl (mvO rfl (asO rfl (OL.nil (AW.ret ⟨.inr rfl,21,bq,cq,(l.take l.length).map dW,rfl,rfl,by rw [e9,lm9];exact Nat.le_refl _,by rw [e9];exact List.take_of_length_le (by rw [lm9];exact Nat.le_refl _)⟩))))
theorem r6take {l:List Rat}(nl:l.length≤64)(hz:∀ x,x ∈ l→sz x≤134217728):FSpec P F.ref06_take [vRing,.d (dWs l)] (.d (dWs l)):=FSpecR.data (r6takeR nl hz) (lm9 ..).symm
theorem r6ring  : FSpec P F.ref06_ring [vRing] (vRing):=by
 refine FSpec.intro fn.ref06_ring (by rfl) (by rfl) (nb9 (by rfl)) fun E hE=>(AW.sg hE rfl (bxA rfl rfl fun b1=>(al z.Ring rfl fun b2=>(OL.nil (AW.seq (AW.dg 2 [0,1,2,3,4,5,6] order_free hE rfl (by kernel_rfl) (OI.of_OL (os:=[_,_,_,_,_,_,_]) rfl ?_)))))))
 refine faP fd.Ring_0 rfl rfl (ldPC ce.int rfl rfl rfl (faP fd.Ring_1 rfl rfl (ldPC ce.ints rfl rfl rfl (apMD sl.ints rfl rfl (VC.d _) (fun y hy=>by cases hy) (by decide) (by decide) (bd z.Ring pl.Ring (cs:=[_,_]) rfl (sto sz.Ring rfl rfl rfl rfl rfl (nb9 rfl) (cells2:=[_,_]) rfl (OL.nil ?_)))))))
 exact AW.ret (RetQ.r ⟨_,.cellA rfl rfl ag.Ring (nb9 rfl) .nil,.ag (.cons (.le vR) (.cons (.le vR) .nil))⟩)
theorem r5Alpha {s:Nat}(hs:1≤s∧s≤32):FSpec P F.ref05_Alphabet [.d (dI s)] (.d (dB true)):=by
 refine FSpec.intro fn.ref05_Alphabet (by rfl) (by rfl) (nb9 (by rfl)) fun E hE=>(AW.sg hE rfl (asD rfl (OL.nil (AW.sg hE rfl (mvD rfl (c_geq rfl rfl (c:=true) (by exact decide_eq_true (by omega)) (mvD rfl ?_)))))))
 exact OL.yes rfl (mvD rfl (OL.yes rfl (c_leq rfl rfl (c:=true) (by exact decide_eq_true (by omega)) (pkT rfl rfl (asD rfl (OL.nil (AW.ret (RetQ.r ⟨_,.tmp rfl .nil,.le vR⟩))))))))
theorem r6In {v lo hi:Int}(h:lo≤v∧v≤hi):FSpec P F.ref06_In [.d (dI v),.d (dI lo),.d (dI hi)] (.d (dB true)):=by
 refine FSpec.intro fn.ref06_In (by rfl) (by rfl) (nb9 (by rfl)) fun E hE=>(AW.sg hE rfl (asD rfl (OL.nil (AW.sg hE rfl (mvD rfl (mvD rfl (c_geq rfl rfl (c:=true) (by exact decide_eq_true (by omega)) ?_)))))))
 refine mvD rfl (OL.yes rfl (mvD rfl (OL.yes rfl (mvD rfl (OL.yes rfl (c_leq rfl rfl (c:=true) (by exact decide_eq_true (by omega)) (pkT rfl rfl ?_)))))))
 exact asD rfl (OL.nil (AW.ret (RetQ.r ⟨_,.tmp rfl .nil,.le vR⟩)))
theorem rowW_el {l:List Rat}{i:Nat}(hi:i<l.length):(l.map dW)[i]? = some (dW (l.getD i 0)):=by rw [List.getElem?_map,gd9,ge9 hi];rfl
theorem r3Times {p q:Rat}(hp:sz p≤68719476736)(hq:sz q≤68719476736):FSpec P F.ref03_Times [vRing,vW p,vW q] (vW (p*q)):=by
 refine FSpec.intro fn.ref03_Times (by rfl) (by rfl) (nb9 (by rfl)) fun E hE=>(AW.sg hE rfl (bxA rfl rfl fun b3=>(bxA rfl rfl fun b4=>(bxA rfl rfl fun b5=>(al z.Weight rfl fun b6=>(OL.nil (AW.seq ?_)))))))
 refine AW.sg hE rfl (ldPA ag.Ring rfl rfl (vs:=[_,_]) rfl (nb9 rfl) (clv rfl .rq1 (r3Valid) (nt rfl (OL.nil (cnF rfl ?_)))))
 refine AW.skip (AW.seq (AW.dg 1 [0,1,2,3,4,5,6,7] order_free hE rfl (by kernel_rfl) (OI.of_OL (os:=[_,_,_,_,_,_,_,_]) rfl ?_)))
 refine ldPA ag.Ring rfl rfl (vs:=[_,_]) rfl (nb9 rfl) (ldPA ag.Weight rfl rfl (vs:=[_,_,_,_,_,_,_,_]) rfl (nb9 rfl) (clv rfl vL (r3Take hp) (ldPA ag.Ring rfl rfl (vs:=[_,_]) rfl (nb9 rfl) (ldPA ag.Weight rfl rfl (vs:=[_,_,_,_,_,_,_,_]) rfl (nb9 rfl) (clv rfl vL (r3Take hq) (sto sz.Weight rfl rfl rfl rfl rfl (nb9 rfl) (cells2:=[_,_,_,_,_,_,_,_]) rfl (sto sz.Weight rfl rfl rfl rfl rfl (nb9 rfl) (cells2:=[_,_,_,_,_,_,_,_]) rfl ?_)))))))
 refine OL.nil (AW.seq (AW.sg hE rfl (faP fd.Ring_0 rfl rfl (ldPC ce.int rfl rfl rfl (OL.nil (AW.block (AW.seq ?_)))))))
 refine AW.sg hE rfl (c_eql rfl rfl (c:=true) (by exact decide_eq_true (by omega)) (asD rfl (OL.nil (cnT rfl ?_))))
 refine AW.skip (cnT rfl ?_)
 refine AW.sg hE rfl (faP fd.Weight_0 rfl rfl (ldPA ag.Rat rfl rfl (vs:=[_,_,_]) rfl (nb9 rfl) (faP fd.Weight_0 rfl rfl (ldPA ag.Rat rfl rfl (vs:=[_,_,_]) rfl (nb9 rfl) (clv rfl vL (ref_MulQ (x:=p) (y:=q) hp hq) (bd z.Weight pl.Weight (cs:=[_,_,_,_,_,_,_,_]) rfl (sto sz.Weight rfl rfl rfl rfl rfl (nb9 rfl) (cells2:=[_,_,_,_,_,_,_,_]) rfl ?_)))))))
 exact OL.nil (AW.ret (RetQ.r ⟨_,.cellA rfl rfl ag.Weight (nb9 rfl) .nil,.le vle_wq⟩))
theorem r6Weights {l:List Rat}(nl:l.length≤64)(hz:∀ x,x ∈ l→sz x≤134217728):FSpec P F.ref06_Weights [vRing,.d (dWs l),.d (dI l.length)] (.d (dB true)):=by
 refine FSpec.intro fn.ref06_Weights (by rfl) (by rfl) (nb9 (by rfl)) fun E hE=>(AW.sg hE rfl (bxA rfl rfl fun b3=>(asD rfl (OL.nil (AW.seq (AW.sg hE rfl (mvD rfl ?_)))))))
 refine lnL sl.Weights rfl rfl (mvD rfl (c_neq rfl rfl (c:=false) (cne_f rfl) (OL.nil (cnF rfl ?_))))
 refine AW.skip (AW.seq (AW.sg hE rfl (asD rfl (OL.nil (AW.block ?_)))))
 refine AW.whileK (α:=Nat) [(1,_),(2,_),(3,_)] [(3,_)] (fun i=>[(7,.d (dI i))]) (fun i=>[]) (fun i=>i≤l.length) (fun i=>l.length-i) 0 (.cons (knD rfl) (.cons (knD rfl) (.cons (knP rfl) .nil))) (.cons (owB rfl) .nil) ⟨Nat.zero_le _,.rq1,.nil⟩ ?_
 rintro i h1
 have h1:i≤l.length:=h1
 refine AW.seq (AW.sg hE rfl (mvD rfl (mvD rfl (c_lss rfl rfl rfl (OL.nil (AW.cond rfl (fun h14=>?_) (fun h14=>?_)))))))
 ·try simp only [dx9] at h14
  refine AW.skip (AW.seq (AW.block (AW.seq ?_)))
  have hx:=hz (l.getD i 0) (getD_mem (by omega) 0)
  refine AW.dg 1 [0,1,2,3,4,5,6] order_free hE rfl (by kernel_rfl) (OI.of_OL (os:=[_,_,_,_,_,_,_]) rfl ?_)
  refine ldPA ag.Ring rfl rfl (vs:=[_,_]) rfl (nb9 rfl) (mvD rfl (mvD rfl (ixLn sl.Weights 0 rfl rfl (by omega) rfl rfl (ldRA ag.Weight rfl (vs:=[_,_,_,_,_,_,_,_]) rfl (nb9 rfl) (clv rfl vL (r3Check (q:=(l.getD i 0)) (by omega)) (nt rfl (OL.nil ?_)))))))
  refine cnF rfl ?_
  exact AW.skip (AW.rg hE rfl (mvD rfl (add_i64 rfl rfl (by omega) (asD rfl (OL.nil (AW.again (x:=i) (i+1) (by omega) ⟨by omega,Knows.app .rq3 .rq1,Owns.app (.cons rfl .nil) (.nil)⟩))))))
 ·try simp only [dx9] at h14
  exact AW.exit (AW.sg hE rfl (asD rfl (OL.nil (AW.ret (RetQ.r ⟨_,.tmp rfl .nil,.le vR⟩)))))
theorem zeros_snoc {n i:Nat}(h:i<n):(List.replicate n (0:Rat)).take (i+1)=(List.replicate n (0:Rat)).take i++[0]:=by
 rw [List.take_replicate,List.take_replicate,Nat.min_eq_left h,Nat.min_eq_left (Nat.le_of_lt h),List.replicate_succ']
structure Au.Wt (a:Au):Prop where
 ok:a.Ok
 sz:a.Sz 6 20
 s2:a.sym≤32
 st:a.st≤64
theorem Au.Wt.wide {a:Au}(f:Au.Wt a):a.Sz 134217728 20:=f.sz.up (by decide) (Nat.le_refl _)
theorem step_sz {a:Au}(f:Au.Wt a){v:List Rat}{B s i j:Nat}(hv:∀ i,sz (v.getD i 0)≤B):sz ((stepF a.st v s (a.arcs.take i)).getD j 0)≤20*(B+7)+1:=by
 have h2:(a.arcs.take i).length≤a.arcs.length:=by rw [List.length_take];exact Nat.min_le_right ..
 exact stepF_sz hv (fun x hx=>⟨(f.ok.arc x (List.mem_of_mem_take hx)).2.1,f.sz.arc x (List.mem_of_mem_take hx)⟩) (Nat.le_trans h2 f.sz.num)
theorem addF_t {v out:List Rat}{s:Nat}{x:Arc9}(h:x.l=s):addF v s out x=out.set x.t (out.getD x.t 0+v.getD x.f 0*x.q):=if_pos h
theorem addF_f {v out:List Rat}{s:Nat}{x:Arc9}(h:¬ x.l=s):addF v s out x=out:=if_neg h
theorem r5Valid {w:List Int}{s:Nat}(hs:1≤s∧s≤32)(hw:InW s w)(hl:w.length≤256):FSpec P F.ref05_Valid [.d (ints w),.d (dI s)] (.d (dB true)):=by
 refine FSpec.intro fn.ref05_Valid (by rfl) (by rfl) (nb9 (by rfl)) fun E hE=>(AW.sg hE rfl (asD rfl (OL.nil (AW.seq (AW.sg hE rfl (mvD rfl (clv rfl vL (r5Alpha (s:=s) hs) ?_)))))))
 refine nt rfl (mvD rfl (OL.yes rfl (mvD rfl (OL.yes rfl (lnL sl.ints rfl rfl (OL.yes rfl (c_gtr rfl rfl (c:=false) (by exact decide_eq_false (by omega)) ?_)))))))
 refine pkF rfl rfl (OL.nil (cnF rfl ?_))
 refine AW.skip (AW.seq (AW.sg hE rfl (asD rfl (OL.nil (AW.block (AW.whileK (α:=Nat) [(0,_),(1,_)] [] (fun i=>[(5,.d (dI i))]) (fun i=>[]) (fun i=>i≤w.length) (fun i=>w.length-i) 0 (.cons (knD rfl) (.cons (knD rfl) .nil)) .nil ⟨Nat.zero_le _,.rq1,.nil⟩ ?_))))))
 rintro i h1
 have h1:i≤w.length:=h1
 refine AW.seq (AW.sg hE rfl (mvD rfl (mvD rfl (lnL sl.ints rfl rfl (c_lss rfl rfl rfl (OL.nil (AW.cond rfl (fun h17=>?_) (fun h17=>?_))))))))
 ·try simp only [dx9] at h17
  refine AW.skip (AW.seq (AW.block (AW.seq ?_)))
  have hx:=hw (w.getD i 0) (getD_mem (by omega) 0)
  refine AW.rg hE rfl (mvD rfl (mvD rfl (ixLn sl.ints 0 rfl rfl (by omega) rfl rfl (ldRC ce.int rfl (c_lss rfl rfl (c:=false) (by exact decide_eq_false (by omega)) (mvD rfl (OL.yes rfl ?_)))))))
  refine mvD rfl (OL.yes rfl (mvD rfl (OL.yes rfl (ixLn sl.ints 0 rfl rfl (by omega) rfl rfl (OL.yes rfl (ldRC ce.int rfl (OL.yes rfl ?_)))))))
  refine mvD rfl (OL.yes rfl (c_gtr rfl rfl (c:=false) (by exact decide_eq_false (by omega)) (pkF rfl rfl (OL.nil (cnF rfl ?_)))))
  exact AW.skip (AW.rg hE rfl (mvD rfl (add_i64 rfl rfl (by omega) (asD rfl (OL.nil (AW.again (x:=i) (i+1) (by omega) ⟨by omega,Knows.app .rq2 .rq1,.nil⟩))))))
 ·try simp only [dx9] at h17
  exact AW.exit (AW.sg hE rfl (asD rfl (OL.nil (AW.ret (RetQ.r ⟨_,.tmp rfl .nil,.le vR⟩)))))
theorem r3Zeros {n:Nat}(hn:n≤64):FSpecR P F.ref03_Zeros [vRing,.d (dI n)] n T.Weight 8 ((List.replicate n (0:Rat)).map dW):=by
 have hzl:(List.replicate n (0:Rat)).length=n:=List.length_replicate
 refine FSpecR.intro fn.ref03_Zeros (by rfl) (by rfl) (nb9 (by rfl)) 4 rfl fun E hE=>(AW.sg hE rfl (bxA rfl rfl fun b2=>(asM rfl (OL.nil (AW.sg hE rfl (asM rfl (OL.nil ?_)))))))
 refine AW.seq (AW.seq (AW.own 5 16 T.Weight 8 rfl rfl (AW.rg hE rfl (asD rfl (OL.nil (AW.block ?_))))))
 refine AW.whileK (α:=Nat × Nat × Nat) [(1,_),(2,_),(4,_)] [(2,_)] (fun (i,bq,cq)=>[(5,.osl 16 bq i cq),(6,.d (dI i))]) (fun (i,bq,cq)=>[(16,.row bq cq T.Weight 8 (((List.replicate n (0:Rat)).take i).map dW))]) (fun (i,bq,cq)=>i≤n) (fun (i,bq,cq)=>n-i) (0,0,0) (.cons (knD rfl) (.cons (knP rfl) (.cons (knM rfl) .nil))) (.cons (owB rfl) .nil) ⟨Nat.zero_le _,.rq2,.cons rfl .nil⟩ ?_
 rintro ⟨i,bq,cq⟩ h1
 have h1:i≤n:=h1
 refine AW.seq (AW.sg hE rfl (mvD rfl (mvD rfl (c_lss rfl rfl rfl (OL.nil (AW.cond rfl (fun h9=>?_) (fun h9=>?_)))))))
 ·try simp only [dx9] at h9
  refine AW.skip (AW.seq (AW.block (AW.rg hE rfl (mvO rfl (ldPA ag.Ring rfl rfl (vs:=[_,_]) rfl (nb9 rfl) (clv rfl vL (r3Zero) (lt1 (y:=dW 0) sl.Weights vd_w rfl (by decide) ?_)))))))
  refine apO sl.Weights rfl rfl rfl (by rw [lm9,List.length_take];omega) (VC.d _) (fun y hy=>by rw [ms9 hy];rfl) (by simp only [ls9];omega) (by simp only [ls9];omega) (.inr rfl) (ys:=((List.replicate n (0:Rat)).take (i+1)).map dW) (by rw [zeros_snoc (by omega),List.map_append];rfl) (n2:=i+1) rfl fun b16 c16=>?_
  exact asO rfl (OL.nil (AW.rg hE rfl (mvD rfl (add_i64 rfl rfl (by omega) (asD rfl (OL.nil (AW.again (x:=(i,bq,cq)) (i+1,b16,c16) (by (simp only [];omega)) ⟨by omega,Knows.app .rq3 .rq2,Owns.app (.cons rfl .nil) (.cons rfl .nil)⟩)))))))
 ·try simp only [dx9] at h9
  refine AW.exit (AW.seq ?_)
  obtain rfl:i=n:=by omega
  have e9:(List.replicate i (0:Rat)).take i=List.replicate i 0:=List.take_of_length_le (by omega)
  exact AW.rg hE rfl (mvO rfl (asO rfl (OL.nil (AW.ret ⟨.inr rfl,16,bq,cq,((List.replicate i (0:Rat)).take i).map dW,rfl,rfl,by rw [e9,lm9];omega,by rw [e9];exact List.take_of_length_le (by rw [lm9];omega)⟩))))
end Go.Proofs.YtocehciipjhlkaaGreatDoor

/-
  Walks of packages automaton and weigh for at most 64 arcs: Tidy, Valid, Normal (printed by mk2.py).
-/
import Derived.Test.YtocehciipjhlkaaGreatDoorKWkI
import Derived.Test.YtocehciipjhlkaaGreatDoorKMod34
import Derived.Test.YtocehciipjhlkaaGreatDoorKHxA
import Derived.Test.YtocehciipjhlkaaGreatDoorKWkSA
set_option linter.unusedVariables false
set_option linter.unusedSimpArgs false
namespace Go.AL
open Go Go.BigFrame
section
variable {r:SRow}{w t:List Rat}{rs:List SRow}{k n:Nat}
theorem SzR.last (z:SzR 16777215 rs)(hl:rs.length≤6)(zv:∀ i,sz (w.getD i 0)≤16777215):(∀ i,sz ((redV rs w).getD i 0)≤68719476735)∧∀ i,sz ((takenS rs w).getD i 0)≤68719476735:=by
 have h4:4 ^ rs.length*(16777215+1)≤68719476736:=by
  have:=Nat.pow_le_pow_right (n:=4) (by decide) hl
  have:=Nat.mul_le_mul_right (16777215+1) this
  omega
 have h1:=fun i=>z.red zv i
 have h2:=fun i=>z.redC (by decide) zv rs.length i
 refine ⟨fun i=>?_,fun i=>?_⟩
 ·have:=h1 i;omega
 ·have:=h2 i
  unfold takenS;omega
end
section
variable {a b:Au}{B k:Nat}{l out:List Arc9}{x:Arc9}
theorem insA_szB (h:∀ y,y ∈ out→sz y.q≤(k+1)*(B+2))(hx:sz x.q≤B):∀ y,y ∈ insA out x→sz y.q≤(k+2)*(B+2):=by
 have up:∀ n,n≤(k+1)*(B+2)→n≤(k+2)*(B+2):=fun n hn=>Nat.le_trans hn (Nat.mul_le_mul_right _ (by omega))
 intro y hy
 have h2:(k+2)*(B+2)=(k+1)*(B+2)+(B+2):=Nat.succ_mul _ _
 unfold insA at hy
 split at hy
 ·rename_i hc
  rcases List.mem_or_eq_of_mem_set hy with hy|rfl
  ·exact up _ (h y hy)
  ·have h1:=h _ (getD_mem hc.1 default)
   have h3:=sz_add (out.getD (atA out x) default).q x.q
   show sz ((out.getD (atA out x) default).q+x.q)≤_
   omega
 ·rcases mp9 hy with hy|hy
  ·exact up _ (h y (List.mem_of_mem_take hy))
  ·rcases List.mem_cons.1 hy with rfl|hy
   ·omega
   ·exact up _ (h y (List.mem_of_mem_drop hy))
theorem foldI_sz:∀ (l out:List Arc9) (k:Nat),(∀ x,x ∈ l→sz x.q≤B)→(∀ y,y ∈ out→sz y.q≤(k+1)*(B+2))→∀ y,y ∈ l.foldl insA out→sz y.q≤(k+l.length+1)*(B+2)
 | [],out,k,_,h=>h
 | x::l,out,k,hz,h=>by
  rw [List.foldl_cons,List.length_cons,show k+(l.length+1)+1=(k+1)+l.length+1 by omega]
  exact foldI_sz l _ (k+1) (fun y hy=>hz y (List.mem_cons_of_mem _ hy)) (insA_szB h (hz x mc9))
theorem insA_len9 (out:List Arc9)(x:Arc9):(insA out x).length≤out.length+1:=by
 unfold insA
 split
 ·rw [List.length_set];omega
 ·rw [la9,List.length_cons,List.length_take,List.length_drop];omega
theorem foldI_len:∀ (l out:List Arc9),(l.foldl insA out).length≤out.length+l.length
 | [],out=>Nat.le_refl _
 | x::l,out=>by
  rw [List.foldl_cons,List.length_cons]
  have:=foldI_len l (insA out x)
  have:=insA_len9 out x
  omega
theorem formA_len (l:List Arc9):(formA l).length≤l.length:=by
 unfold formA nzA
 refine Nat.le_trans (List.length_filter_le ..) ?_
 have:=foldI_len l []
 rw [List.length_nil,Nat.zero_add] at this
 exact this
theorem formA_sz (hz:∀ x,x ∈ l→sz x.q≤B):∀ y,y ∈ formA l→sz y.q≤(l.length+1)*(B+2):=fun y hy=>by
 have:=foldI_sz l [] 0 hz (fun y hy=>by cases hy) y (List.mem_filter.1 hy).1
 rwa [Nat.zero_add] at this
theorem Au.Sz.wide (h:a.Sz 1 10):a.Sz 134217728 20 :=
 ⟨fun q hq=>Nat.le_trans (h.ini q hq) (by decide),fun q hq=>Nat.le_trans (h.fin q hq) (by decide),fun x hx=>Nat.le_trans (h.arc x hx) (by decide),Nat.le_trans h.num (by decide)⟩
theorem Au.Sz.form (h:a.Sz 1 10):(formOf a).Sz 134217728 20:=by
 refine ⟨h.wide.ini,h.wide.fin,fun x hx=>?_,Nat.le_trans (formA_len a.arcs) (Nat.le_trans h.num (by decide))⟩
 have h1:=formA_sz h.arc x hx
 have h2:=Nat.mul_le_mul_right (1+2) (show a.arcs.length+1≤11 by have:=h.num;omega)
 omega
theorem Au.Few.form (h:a.Few):(formOf a).Few:=⟨h.st,h.ini,h.fin,fun s i j=>by rw [show entA (formOf a).arcs s i j=entA a.arcs s i j from entA_form];exact h.ent s i j⟩
end
section
variable {a b:Au}{B N K:Nat}{q:Rat}{s i j:Nat}
theorem Au.Sz.up {B2 N2:Nat}(h:a.Sz B N)(hb:B≤B2)(hn:N≤N2):a.Sz B2 N2 :=
 ⟨fun q hq=>Nat.le_trans (h.ini q hq) hb,fun q hq=>Nat.le_trans (h.fin q hq) hb,fun x hx=>Nat.le_trans (h.arc x hx) hb,Nat.le_trans h.num hn⟩
end
section
variable {a b:Au}{n s i j k:Nat}{v w out:List Rat}{l:List Arc9}{x:Arc9}
theorem take_snoc9 {α:Type}(d:α){l:List α}{i:Nat}(h:i<l.length):l.take (i+1)=l.take i++[l.getD i d]:=by
 rw [List.take_succ_eq_append_getElem h,gd9,ge9 h];rfl
def addF (v:List Rat)(s:Nat)(out:List Rat)(x:Arc9):List Rat:=if x.l=s then out.set x.t (out.getD x.t 0+v.getD x.f 0*x.q) else out
def stepF (n:Nat)(v:List Rat)(s:Nat)(l:List Arc9):List Rat:=l.foldl (addF v s) (List.replicate n 0)
theorem addF_len:(addF v s out x).length=out.length:=by unfold addF;split <;> simp
theorem stepF_len:(stepF n v s l).length=n:=by
 have:∀ (l:List Arc9) (out:List Rat),(l.foldl (addF v s) out).length=out.length:=fun l=>by
  induction l with
  | nil=>exact fun _=>rfl
  | cons x l ih=>exact fun out=>by rw [List.foldl_cons,ih,addF_len]
 unfold stepF
 rw [this,List.length_replicate]
theorem stepF_snoc (h:i<l.length):stepF n v s (l.take (i+1))=addF v s (stepF n v s (l.take i)) (l.getD i default):=by
 unfold stepF
 rw [take_snoc9 default h,List.foldl_append];rfl
theorem getD_set9 {l:List Rat}{y:Rat}(hi:i<l.length):(l.set i y).getD j 0=if i=j then y else l.getD j 0:=by
 rw [gd9,List.getElem?_set,gd9]
 by_cases h:i=j
 ·subst h;rw [if_pos rfl,if_pos hi,if_pos rfl];rfl
 ·rw [if_neg h,if_neg h]
def inF (v:List Rat)(s j:Nat)(x:Arc9):Rat:=if x.l=s∧x.t=j then v.getD x.f 0*x.q else 0
theorem foldF_get:∀ (l:List Arc9) (out:List Rat),(∀ x,x ∈ l→x.t<out.length)→(l.foldl (addF v s) out).getD j 0=out.getD j 0+lsum (inF v s j) l
 | [],out,_=>by rw [List.foldl_nil,lsum,Rat.add_zero]
 | x :: l, out, h => by
  have hx:=h x mc9
  rw [List.foldl_cons,foldF_get l _ (fun y hy=>by rw [addF_len];exact h y (List.mem_cons_of_mem _ hy)),lsum,← Rat.add_assoc]
  congr 1
  unfold addF inF
  by_cases hl:x.l=s
  ·rw [if_pos hl,getD_set9 hx]
   by_cases ht:x.t=j
   ·rw [if_pos ht,if_pos ⟨hl,ht⟩,ht]
   ·rw [if_neg ht,if_neg (fun e=>ht e.2),Rat.add_zero]
  ·rw [if_neg hl,if_neg (fun e=>hl e.1),Rat.add_zero]
theorem rep_get:(List.replicate n (0:Rat)).getD j 0=0:=by
 rw [gd9,List.getElem?_replicate]
 split <;> rfl
theorem stepF_get (h:∀ x,x ∈ l→x.t<n):(stepF n v s l).getD j 0=lsum (inF v s j) l:=by
 unfold stepF
 rw [foldF_get l _ (fun x hx=>by rw [List.length_replicate];exact h x hx),rep_get,Rat.zero_add]
theorem sum_ent (l:List Arc9)(hf:∀ x,x ∈ l→x.f<n):sumN (fun i=>v.getD i 0*entA l k i j) n=lsum (inF v (k+1) j) l:=by
 induction l with
 | nil=>rw [lsum];exact sumN_zero fun i _=>by rw [entA_nil,Rat.mul_zero]
 | cons x l ih =>
  rw [lsum,← ih fun y hy=>hf y (List.mem_cons_of_mem _ hy)]
  have e:(fun i=>v.getD i 0*entA (x::l) k i j)=fun i=>v.getD i 0*pickA k i j x+v.getD i 0*entA l k i j:=by
   funext i
   rw [entA_cons,Rat.mul_add]
  rw [e,sumN_add]
  congr 1
  unfold inF
  by_cases hc:x.l=k+1∧x.t=j
  ·rw [if_pos hc]
   have e2:(fun i=>v.getD i 0*pickA k i j x)=fun i=>if x.f=i then v.getD i 0*x.q else 0:=by
    funext i
    unfold pickA
    by_cases hi:x.f=i
    ·rw [if_pos ⟨hi,hc.1,hc.2⟩,if_pos hi]
    ·rw [if_neg (fun e=>hi e.1),if_neg hi,Rat.mul_zero]
   rw [e2,sumN_pick (v:=fun i=>v.getD i 0*x.q) (hf x mc9)]
  ·rw [if_neg hc]
   exact sumN_zero fun i _=>by
    unfold pickA
    rw [if_neg (fun e=>hc ⟨e.2.1,e.2.2⟩),Rat.mul_zero]
theorem stepF_step (ha:a.Ok)(s1:1≤s)(s2:s≤a.sym):stepF a.st v s a.arcs=stepM (machL [a]) v (s-1):=by
 have hn:(machL [a]).n=a.st:=size_one
 refine List.ext_getElem (by rw [stepF_len,stepM_len,hn]) fun j h1 h2=>?_
 rw [stepF_len] at h1
 have e1:(stepF a.st v s a.arcs)[j]=(stepF a.st v s a.arcs).getD j 0:=by rw [gd9,ge9];rfl
 have e2:(stepM (machL [a]) v (s-1))[j]=(stepM (machL [a]) v (s-1)).getD j 0:=by rw [gd9,ge9];rfl
 rw [e1,e2,stepF_get fun x hx=>(ha.arc x hx).2.1]
 unfold stepM
 rw [hn,map_getD_range _ _ h1]
 have e3:s-1+1=s:=by omega
 rw [show lsum (inF v s j) a.arcs=lsum (inF v (s-1+1) j) a.arcs by rw [e3],← sum_ent (n:=a.st) a.arcs fun x hx=>(ha.arc x hx).1]
 refine sumN_congr fun i hi=>?_
 rw [machL_ent (l:=[a]) (by show s-1<a.sym;omega) (by rw [size_one];exact hi) (by rw [size_one];exact h1)]
 show _=_*(if i<a.st then (if j<a.st then entA a.arcs (s-1) i j else 0) else _)
 rw [if_pos hi,if_pos h1]
def fwA (a:Au)(u:List Int):List Rat:=u.foldl (fun v x=>stepF a.st v x.toNat a.arcs) a.ini
theorem fwA_snoc {u:List Int}(h:i<u.length):fwA a (u.take (i+1))=stepF a.st (fwA a (u.take i)) (u.getD i 0).toNat a.arcs:=by
 unfold fwA
 rw [take_snoc9 0 h,List.foldl_append];rfl
theorem fwA_len (ha:a.Ok)(u:List Int):(fwA a u).length=a.st:=by
 have:∀ (u:List Int) (v:List Rat),v.length=a.st→(u.foldl (fun v x=>stepF a.st v x.toNat a.arcs) v).length=a.st:=fun u=>by
  induction u with
  | nil=>exact fun _ h=>h
  | cons x u ih=>exact fun v _=>ih _ stepF_len
 exact this u a.ini ha.ini
theorem fwA_vec (ha:a.Ok){u:List Int}(hu:InW a.sym u):fwA a u=vecM (machL [a]) u:=by
 have:∀ (u:List Int) (v:List Rat),InW a.sym u→u.foldl (fun v x=>stepF a.st v x.toNat a.arcs) v=u.foldl (fun v x=>stepM (machL [a]) v (x.toNat-1)) v:=fun u=>by
  induction u with
  | nil=>exact fun _ _=>rfl
  | cons x u ih =>
   intro v hx
   have h1:=hx x mc9
   rw [List.foldl_cons,List.foldl_cons,stepF_step ha (by omega) (by omega)]
   exact ih _ fun y hy=>hx y (List.mem_cons_of_mem _ hy)
 unfold fwA vecM
 rw [this u a.ini hu,show (machL [a]).ini=a.ini from List.append_nil _]
def dotF (v w:List Rat)(i:Nat):Rat:=sumN (fun i=>v.getD i 0*w.getD i 0) i
theorem dotF_ser (ha:a.Ok){u:List Int}(hu:InW a.sym u):dotF (fwA a u) a.fin a.st=serA a u:=by
 rw [fwA_vec ha hu]
 unfold dotF serA wtM dotM
 rw [show (machL [a]).n=a.st from size_one,show (machL [a]).fin=a.fin from List.append_nil _]
theorem stepF_sz {B:Nat}(hv:∀ i,sz (v.getD i 0)≤B)(hl:∀ x,x ∈ l→x.t<n∧sz x.q≤6)(h10:l.length≤20):sz ((stepF n v s l).getD j 0)≤20*(B+7)+1:=by
 rw [stepF_get fun x hx=>(hl x hx).1]
 have h1:=lsum_szA (f:=inF v s j) (C:=B+6) (l:=l) fun x hx=>by
  unfold inF
  split
  ·have:=sz_mul (v.getD x.f 0) x.q
   have:=hv x.f
   have:=(hl x hx).2
   omega
  ·rw [sz_zero];omega
 have h2:=Nat.mul_le_mul_right (B+6+1) h10
 omega
end
end Go.AL
namespace Go.Proofs.YtocehciipjhlkaaGreatDoor
open Go Go.AL
theorem fc.Auto_3:FieldC P T.Auto 3 4:=⟨by kernel_rfl⟩
theorem norm_same (a:Au):SameA (normOf a) a:=⟨rfl,rfl,rfl,rfl,fun _ _ _=>entA_tidy⟩
theorem ser_norm (a:Au):serA (normOf a)=serA a:=(norm_same a).ser
theorem norm_ok {a:Au}(h:a.Ok):(normOf a).Ok:=⟨h.sym0,h.ini,h.fin,PlaceA.tidy (p:=fun f l t=>f<a.st∧t<a.st∧1≤l∧l≤a.sym) h.arc⟩
structure StSz (a:Au) (v:List Rat) (s:Nat):Prop where
 zv:∀ j,sz (v.getD j 0)≤17179869184
 zq:∀ x,x ∈ a.arcs→sz x.q≤17179869184
 zs:∀ i j,sz ((stepF a.st v s (a.arcs.take i)).getD j 0)≤17179869184
structure FwSz (a:Au) (w:List Int):Prop where
 st:∀ k,k<w.length→StSz a (fwA a (w.take k)) (w.getD k 0).toNat
 zv:∀ j,sz ((fwA a w).getD j 0)≤17179869184
 zf:∀ j,sz (a.fin.getD j 0)≤17179869184
 zd:∀ i,i≤a.st→sz (dotF (fwA a w) a.fin i)≤17179869184
set_option maxRecDepth 4000 in
set_option maxHeartbeats 1600000 in
theorem TidyS {l:List Arc9}(nl:l.length≤64)(hl1:∀ x,x ∈ l→1≤x.l)(hz:∀ x,x ∈ l→sz x.q≤134217728):FSpec P F.automaton_Tidy [vRing,.d (dArcs l)] (.d (dArcs (tidyA l))):=by
 have hS:(stabA l).length=l.length:=stabA_len l
 have hzS:∀ x,x ∈ stabA l→sz x.q≤134217728:=fun x hx=>hz x ((stabA_perm l).mem_iff.1 hx)
 refine FSpec.intro fn.automaton_Tidy (by rfl) (by rfl) (nb9 (by rfl)) fun E hE=>(AW.sg hE rfl (bxA rfl rfl fun b2=>(asM rfl (OL.nil (AW.seq (AW.freezeBox 2 [dI 1,.sl []] rfl (VCs.map_d [dI 1,.sl []]) (AW.to [(1,.d (dArcs l)),(2,rRing),(4,.mt)] [] (.cons vR (.cons (vle_of_eq (show V.frb 2 b2 [dI 1,.sl []] (.ptr 2 b2 0)=rRing from frb_self)) .rq1)) .nil ?_)))))))
 refine AW.rg hE rfl (mvD rfl (clR rfl .rq1 (cloneAR (by omega)) rfl fun b11 c11=>(asO rfl (OL.nil (AW.seq (AW.rename 11 1000 rfl (AW.to [(2,rRing),(4,.mt),(5,.osl 1000 b11 l.length c11)] [(1000,rowA b11 c11 l)] (.cons vR (.cons vR (.cons VLe.osl .nil))) (.cons rfl .nil) ?_)))))))
 refine AW.rg hE rfl (mvO rfl (OL.callM (v:=.tup []) (.mk (args':=[.osl 1000 b11 l.length c11,.fn F.automaton_order []]) rfl (.cons vR (.cons vR (.nil))) (mem1_keep (id:=1000) (blk:=rowA b11 c11 l) rfl) mem1_sub (sortStabA rfl (by omega))) (OL.nil (AW.sg hE rfl (asM rfl (OL.nil (AW.seq ?_)))))))
 refine AW.seq (AW.own 6 59 T.Arc 11 rfl rfl (AW.rg hE rfl (mvO rfl (lnO sl.Arcs rfl rfl (mvD rfl (OL.nil (AW.block ?_)))))))
 refine AW.whileK (α:=Nat × Nat × Nat) [(2,_),(4,_),(14,_),(15,_)] [(1000,_)] (fun (i,bq,cq)=>[(6,.osl 59 bq (outA (stabA l) i).length cq),(16,.d (dI i))]) (fun (i,bq,cq)=>[(59,rowA bq cq (outA (stabA l) i))]) (fun (i,bq,cq)=>i≤l.length) (fun (i,bq,cq)=>l.length-i) (0,0,0) (.cons (knR rfl) (.cons (knM rfl) (.cons (knO rfl) (.cons (knD rfl) .nil)))) (.cons (owR rfl) .nil) ⟨Nat.zero_le _,.rq2,.cons rfl .nil⟩ ?_
 rintro ⟨i,bq,cq⟩ h1
 have h1:i≤l.length:=h1
 have hlo:=outA_len (stabA l) i
 have hzo:=outA_sz hzS i
 refine AW.sg hE rfl (c_lss rfl rfl rfl (OL.nil (AW.seq (AW.cond rfl (fun h17=>?_) (fun h17=>?_)))))
 ·try simp only [dx9] at h17
  refine AW.skip (AW.seq (AW.block (AW.sg hE rfl (ixOn sl.Arcs rfl rfl (by omega) (ldEA ag.Arc (by decide) rfl rfl (rowA_el (show i<(stabA l).length by omega)) (vs:=cellsArc ((stabA l).getD i default)) rfl (nb9 rfl) (al z.Arc rfl fun b8=>(sto sz.Arc rfl rfl rfl rfl rfl (nb9 rfl) (cells2:=[_,_,_,_,_,_,_,_,_,_,_]) rfl ?_)))))))
  refine OL.nil (AW.seq (AW.sg hE rfl (mvO rfl (lnO sl.Arcs rfl rfl (asD rfl (OL.nil (AW.seq ?_)))))))
  have hxz:=hzS ((stabA l).getD i default) (getD_mem (by omega) default)
  refine AW.dg 1 [0,1,2,3,4,5,6,7,8,9,10,11] order_free hE rfl (by kernel_rfl) (OI.of_OL (os:=[_,_,_,_,_,_,_,_,_,_,_,_]) rfl ?_)
  refine mvD rfl (c_gtr rfl rfl rfl (mvD rfl (OL.split 24 rfl (fun hn=>?_) (fun hn=>?_))))
  ·have hn:0<(outA (stabA l) i).length:=by have:=dt9 hn;omega
   have hyz:=hzo ((outA (stabA l) i).getD ((outA (stabA l) i).length-1) default) (getD_mem (by omega) default)
   refine OL.yes rfl (mvO rfl (OL.yes rfl (mvD rfl (OL.yes rfl (bo rfl rfl (bin_sub (c:=(((outA (stabA l) i).length-1:Nat):Int)) (by omega) (wrap_i64 (by omega))) (OL.yes rfl (ixOn sl.Arcs rfl rfl (by omega) ?_)))))))
   refine OL.yes rfl (ldEA ag.Arc (by decide) rfl rfl (rowA_el (show (outA (stabA l) i).length-1<(outA (stabA l) i).length by omega)) (vs:=cellsArc ((outA (stabA l) i).getD ((outA (stabA l) i).length-1) default)) rfl (nb9 rfl) (OL.yes rfl (ldPA ag.Arc rfl rfl (vs:=[_,_,_,_,_,_,_,_,_,_,_]) rfl (nb9 rfl) (OL.yes rfl (clv rfl vL (orderA (x:=((outA (stabA l) i).getD ((outA (stabA l) i).length-1) default)) (y:=((stabA l).getD i default))) (OL.yes rfl (c_eql rfl rfl rfl ?_)))))))
   refine pkT rfl rfl (OL.nil (AW.cond rfl (fun hc=>?_) (fun hc=>?_)))
   ·have hc:ordA ((outA (stabA l) i).getD ((outA (stabA l) i).length-1) default) ((stabA l).getD i default)=0:=dt9 hc
    refine AW.seq (AW.dg 1 [0,1,2,3,4,5,6,7,8,9,10,11,12,13,14,15] order_free hE rfl (by kernel_rfl) (OI.of_OL (os:=[_,_,_,_,_,_,_,_,_,_,_,_,_,_,_,_]) rfl ?_))
    refine mvO rfl (mvD rfl (bo rfl rfl (bin_sub (c:=(((outA (stabA l) i).length-1:Nat):Int)) (by omega) (wrap_i64 (by omega))) (ldRA ag.Ring rfl (vs:=[_,_]) rfl (nb9 rfl) (mvO rfl (mvD rfl (bo rfl rfl (bin_sub (c:=(((outA (stabA l) i).length-1:Nat):Int)) (by omega) (wrap_i64 (by omega))) (ixOn sl.Arcs rfl rfl (by omega) ?_)))))))
    refine faE fd.Arc_3 rfl rfl ?_
    refine ldEA ag.Weight (by decide) rfl rfl (rowA_el (show (outA (stabA l) i).length-1<(outA (stabA l) i).length by omega)) (vs:=[.d (dB (ofQ ((outA (stabA l) i).getD ((outA (stabA l) i).length-1) default).q).neg),.d (u32s (ofQ ((outA (stabA l) i).getD ((outA (stabA l) i).length-1) default).q).num),.d (u32s (ofQ ((outA (stabA l) i).getD ((outA (stabA l) i).length-1) default).q).den),.d (dI 0),.d (dB false),.d (dU 0),.d (.sl []),.d (.sl [])]) rfl (nb9 rfl) ?_
    refine faP fd.Arc_3 rfl rfl (ldPA ag.Weight rfl rfl (vs:=[_,_,_,_,_,_,_,_]) rfl (nb9 rfl) (clv rfl vL (PlusR (p:=((outA (stabA l) i).getD ((outA (stabA l) i).length-1) default).q) (q:=((stabA l).getD i default).q) (by omega) (by omega)) (ixOn sl.Arcs rfl rfl (by omega) (faE fd.Arc_3 rfl rfl ?_))))
    refine stF sz.Weight rfl (d:=dW (((outA (stabA l) i).getD ((outA (stabA l) i).length-1) default).q+((stabA l).getD i default).q)) vd_w rfl rfl (rowA_el (show (outA (stabA l) i).length-1<(outA (stabA l) i).length by omega)) (by decide) (el2:=dArc { ((outA (stabA l) i).getD ((outA (stabA l) i).length-1) default) with q:=((outA (stabA l) i).getD ((outA (stabA l) i).length-1) default).q+((stabA l).getD i default).q }) rfl (es2:=((outA (stabA l) i).set ((outA (stabA l) i).length-1) { ((outA (stabA l) i).getD ((outA (stabA l) i).length-1) default) with q:=((outA (stabA l) i).getD ((outA (stabA l) i).length-1) default).q+((stabA l).getD i default).q }).map dArc) (by rw [List.map_set]) ?_
    refine OL.nil (AW.exit (AW.rg hE rfl (add_i64 rfl rfl (by omega) (mvD rfl (OL.nil ?_)))))
    exact AW.again (x:=(i,bq,cq)) (i+1,bq,cq) (by (simp only [];omega)) ⟨by omega,Knows.app .rq4 (.cons (by rw [outA_succ (by omega),mergeA,if_pos ⟨hn,hc⟩,List.length_set];exact VLe.refl _) .rq1),Owns.app (.cons rfl .nil) (.cons (by rw [outA_succ (by omega),mergeA,if_pos ⟨hn,hc⟩];rfl) .nil)⟩
   ·have hc:¬ ordA ((outA (stabA l) i).getD ((outA (stabA l) i).length-1) default) ((stabA l).getD i default)=0:=df9 hc
    refine AW.skip (AW.seq (AW.dg 1 [0,1,2,3,4,5,6,7] order_free hE rfl (by kernel_rfl) (OI.of_OL (os:=[_,_,_,_,_,_,_,_]) rfl ?_)))
    refine ldRA ag.Ring rfl (vs:=[_,_]) rfl (nb9 rfl) (faP fd.Arc_3 rfl rfl (ldPA ag.Weight rfl rfl (vs:=[_,_,_,_,_,_,_,_]) rfl (nb9 rfl) (ldRA ag.Ring rfl (vs:=[_,_]) rfl (nb9 rfl) (clv rfl vL (ZeroR) (clv rfl vL (PlusR (p:=((stabA l).getD i default).q) (q:=0) (by omega) z0K) ?_)))))
    rw [Rat.add_zero]
    refine faP fd.Arc_3 rfl rfl (sto sz.Weight rfl rfl rfl rfl rfl (nb9 rfl) (cells2:=[_,_,_,_,_,_,_,_,_,_,_]) rfl (OL.nil (AW.rg hE rfl (mvO rfl (ldPA ag.Arc rfl rfl (vs:=[_,_,_,_,_,_,_,_,_,_,_]) rfl (nb9 rfl) (lt1 (y:=dArc ((stabA l).getD i default)) sl.Arcs vd_arc rfl (by decide) ?_))))))
    refine apO sl.Arcs rfl rfl rfl (by rw [lm9]) (VC.d _) (fun y hy=>by rw [ms9 hy];rfl) (by simp;omega) (by simp;omega) (.inr rfl) (ys:=((outA (stabA l) i)++[((stabA l).getD i default)]).map dArc) (by rw [List.map_append];rfl) (n2:=(outA (stabA l) i).length+1) rfl fun b2 c2=>?_
    refine asO rfl (OL.nil (AW.rg hE rfl (add_i64 rfl rfl (by omega) (mvD rfl (OL.nil ?_)))))
    exact AW.again (x:=(i,bq,cq)) (i+1,b2,c2) (by (simp only [];omega)) ⟨by omega,Knows.app .rq4 (.cons (by rw [outA_succ (by omega),mergeA,if_neg (fun e=>hc e.2),la9];exact VLe.refl _) .rq1),Owns.app (.cons rfl .nil) (.cons (by rw [outA_succ (by omega),mergeA,if_neg (fun e=>hc e.2)];rfl) .nil)⟩
  ·have hn:¬ 0<(outA (stabA l) i).length:=fun e=>df9 hn (by omega)
   refine OL.nd rfl (OL.nd rfl (OL.nd rfl (OL.nd rfl (OL.nd rfl (OL.nd rfl (OL.nd rfl (OL.nd rfl ?_)))))))
   refine pkF rfl rfl (OL.nil (cnF rfl ?_))
   refine AW.skip (AW.seq (AW.dg 1 [0,1,2,3,4,5,6,7] order_free hE rfl (by kernel_rfl) (OI.of_OL (os:=[_,_,_,_,_,_,_,_]) rfl ?_)))
   refine ldRA ag.Ring rfl (vs:=[_,_]) rfl (nb9 rfl) (faP fd.Arc_3 rfl rfl (ldPA ag.Weight rfl rfl (vs:=[_,_,_,_,_,_,_,_]) rfl (nb9 rfl) (ldRA ag.Ring rfl (vs:=[_,_]) rfl (nb9 rfl) (clv rfl vL (ZeroR) (clv rfl vL (PlusR (p:=((stabA l).getD i default).q) (q:=0) (by omega) z0K) ?_)))))
   rw [Rat.add_zero]
   refine faP fd.Arc_3 rfl rfl (sto sz.Weight rfl rfl rfl rfl rfl (nb9 rfl) (cells2:=[_,_,_,_,_,_,_,_,_,_,_]) rfl (OL.nil (AW.rg hE rfl (mvO rfl (ldPA ag.Arc rfl rfl (vs:=[_,_,_,_,_,_,_,_,_,_,_]) rfl (nb9 rfl) (lt1 (y:=dArc ((stabA l).getD i default)) sl.Arcs vd_arc rfl (by decide) ?_))))))
   refine apO sl.Arcs rfl rfl rfl (by rw [lm9]) (VC.d _) (fun y hy=>by rw [ms9 hy];rfl) (by simp;omega) (by simp;omega) (.inr rfl) (ys:=((outA (stabA l) i)++[((stabA l).getD i default)]).map dArc) (by rw [List.map_append];rfl) (n2:=(outA (stabA l) i).length+1) rfl fun b2 c2=>?_
   refine asO rfl (OL.nil (AW.rg hE rfl (add_i64 rfl rfl (by omega) (mvD rfl (OL.nil ?_)))))
   exact AW.again (x:=(i,bq,cq)) (i+1,b2,c2) (by (simp only [];omega)) ⟨by omega,Knows.app .rq4 (.cons (by rw [outA_succ (by omega),mergeA,if_neg (fun e=>hn e.1),la9];exact VLe.refl _) .rq1),Owns.app (.cons rfl .nil) (.cons (by rw [outA_succ (by omega),mergeA,if_neg (fun e=>hn e.1)];rfl) .nil)⟩
 ·try simp only [dx9] at h17
  refine AW.exit (AW.seq ?_)
  obtain rfl:i=l.length:=by omega
  have ho:(outA (stabA l) l.length).filter (fun x=>!decide (x.q=0))=tidyA l:=by
   rw [← tidyB_eq hl1]
   unfold tidyB nzA
   rw [outA_all (by rw [stabA_len];omega)]
   congr 1
   funext x
   by_cases hx:x.q=0 <;> simp [hx]
  refine AW.regionS (by rw [hE];rfl) (SL.ofOL (mvO rfl (OL.nil ?_)))
  refine SL.ofOL (mkF (vs:=[_]) rfl (OL.nil ?_))
  refine SL.ofSO rfl (SO.callO (id:=59) (b:=bq) (n:=(outA (stabA l) l.length).length) (c:=cq) (es:=(outA (stabA l) l.length).map dArc) (argsF:=fun s=>[s,.fn F.automaton_Tidy_1 [rRing]]) (show 63<E.n by rw [hE];exact Nat.le_of_ble_eq_true (by rfl)) rfl rfl (.cons VLe.osl .rq1) (deleteA (l:=(outA (stabA l) l.length)) (p:=fun x=>decide (x.q=0)) (fun x hx=>tidy_1 (Nat.le_trans (hzo x hx) (by omega))) rfl (by omega)) fun b63 c63=>?_)
  refine SL.ofOL (asO rfl (OL.nil ?_))
  rw [ho]
  refine AW.freeze 59 rfl (AW.to [(4,.d (dArcs (tidyA l)))] [] (.cons (frz_osl (by rw [lm9]) (by rfl)) .nil) .nil ?_)
  exact AW.ret (RetQ.r ⟨_,.tmp rfl .nil,.le vR⟩)
theorem ValidS {a:Au}(h:a.Ok)(za:a.Sz 134217728 64)(s1:a.sym≤32)(s2:a.st≤64):FSpec P F.automaton_Valid [vAu a] (.d (dB true)):=by
 have e0:=h.sym0
 have e1:=h.ini
 have e2:=h.fin
 have e3:=za.num
 refine FSpec.intro fn.automaton_Valid (by rfl) (by rfl) (nb9 (by rfl)) fun E hE=>(AW.sg hE rfl (bxA rfl rfl fun b1=>(asD rfl (OL.nil (AW.seq (AW.sg hE rfl (faP fd.Auto_0 rfl rfl ?_)))))))
 refine ldPA ag.Ring rfl rfl (vs:=[_,_]) rfl (nb9 rfl) (clv rfl .rq1 (validR) (nt rfl (mvD rfl (OL.yes rfl (faP fd.Auto_1 rfl rfl (OL.yes rfl (ldPC ce.int rfl rfl rfl ?_)))))))
 refine OL.yes rfl (c_lss rfl rfl (c:=false) (by exact decide_eq_false (by omega)) (pkF rfl rfl (mvD rfl (OL.yes rfl (faP fd.Auto_1 rfl rfl (OL.yes rfl (ldPC ce.int rfl rfl rfl ?_)))))))
 refine OL.yes rfl (c_gtr rfl rfl (c:=false) (by exact decide_eq_false (by omega)) (pkF rfl rfl (mvD rfl (OL.yes rfl (faP fd.Auto_2 rfl rfl (OL.yes rfl (ldPC ce.int rfl rfl rfl ?_)))))))
 refine OL.yes rfl (c_lss rfl rfl (c:=false) (by exact decide_eq_false (by omega)) (pkF rfl rfl (mvD rfl (OL.yes rfl (faP fd.Auto_2 rfl rfl (OL.yes rfl (ldPC ce.int rfl rfl rfl ?_)))))))
 refine OL.yes rfl (c_gtr rfl rfl (c:=false) (by exact decide_eq_false (by omega)) (pkF rfl rfl (mvD rfl (OL.yes rfl (faP fd.Auto_3 rfl rfl (OL.yes rfl (ldPC ce.Weights rfl rfl rfl ?_)))))))
 refine OL.yes rfl (lnL sl.Weights rfl rfl (OL.yes rfl (faP fd.Auto_2 rfl rfl (OL.yes rfl (ldPC ce.int rfl rfl rfl (OL.yes rfl (c_neq rfl rfl (c:=false) (by exact cne_f (by omega)) ?_)))))))
 refine pkF rfl rfl (mvD rfl (OL.yes rfl (faP fd.Auto_4 rfl rfl (OL.yes rfl (ldPC ce.Weights rfl rfl rfl (OL.yes rfl (lnL sl.Weights rfl rfl ?_)))))))
 refine OL.yes rfl (faP fd.Auto_2 rfl rfl (OL.yes rfl (ldPC ce.int rfl rfl rfl (OL.yes rfl (c_neq rfl rfl (c:=false) (by exact cne_f (by omega)) (pkF rfl rfl (mvD rfl ?_)))))))
 refine OL.yes rfl (faP fd.Auto_5 rfl rfl (OL.yes rfl (ldPC ce.Arcs rfl rfl rfl (OL.yes rfl (lnL sl.Arcs rfl rfl (OL.yes rfl (c_gtr rfl rfl (c:=false) (by exact decide_eq_false (by omega)) ?_)))))))
 refine pkF rfl rfl (OL.nil (cnF rfl ?_))
 refine AW.skip (AW.seq (AW.seq (AW.freezeBox 1 [dI 1,.sl [],dI a.sym,dI a.st,dWs a.ini,dWs a.fin,dArcs a.arcs] rfl (VCs.map_d [dI 1,.sl [],dI a.sym,dI a.st,dWs a.ini,dWs a.fin,dArcs a.arcs]) (AW.to [(1,rAu a),(2,.d (dB false))] [] (.cons (vle_of_eq (show V.frb 1 b1 [dI 1,.sl [],dI a.sym,dI a.st,dWs a.ini,dWs a.fin,dArcs a.arcs] (.ptr 1 b1 0)=rAu a from frb_self)) .rq1) .nil (AW.rg hE rfl (faR fd.Auto_5 rfl rfl (ldRC ce.Arcs rfl ?_)))))))
 refine mkF (vs:=[_]) rfl (clv rfl vL (containsAc (l:=a.arcs) (f:=F.automaton_Valid_1) (caps:=[rAu a]) (p:=fun _=>false) (fun x hx=>Valid_1 (h.arc x hx) (Nat.le_trans (za.arc x hx) (by decide))) (by omega)) ?_)
 rw [any_false fun x _=>rfl]
 refine OL.nil (cnF rfl ?_)
 refine AW.skip (AW.sg hE rfl (faR fd.Auto_0 rfl rfl (ldRA ag.Ring rfl (vs:=[_,_]) rfl (nb9 rfl) (faR fd.Auto_3 rfl rfl (ldRC ce.Weights rfl (clv rfl vL (weightsA (l:=a.ini) (fun x hx=>Nat.le_trans (za.ini x hx) (by decide)) (by omega)) (mvD rfl ?_)))))))
 refine OL.yes rfl (faR fd.Auto_0 rfl rfl (OL.yes rfl (ldRA ag.Ring rfl (vs:=[_,_]) rfl (nb9 rfl) (OL.yes rfl (faR fd.Auto_4 rfl rfl (OL.yes rfl (ldRC ce.Weights rfl ?_)))))))
 exact OL.yes rfl (clv rfl vL (weightsA (l:=a.fin) (fun x hx=>Nat.le_trans (za.fin x hx) (by decide)) (by omega)) (pkT rfl rfl (asD rfl (OL.nil (AW.ret (RetQ.r ⟨_,.tmp rfl .nil,.le vR⟩))))))
theorem NormalS {a:Au}(h:a.Ok)(za:a.Sz 134217728 64)(s1:a.sym≤32)(s2:a.st≤64):FSpec P F.automaton_Normal [vAu a] (.tup [vAu (normOf a),.d (dI 0)]):=by
 have e0:=h.sym0
 have e1:=h.ini
 have e2:=h.fin
 have e3:=za.num
 refine FSpec.intro fn.automaton_Normal (by rfl) (by rfl) (nb9 (by rfl)) fun E hE=>(AW.sg hE rfl (bxA rfl rfl fun b1=>(al z.Auto rfl fun b2=>(asD rfl (OL.nil (AW.seq (AW.sg hE rfl ?_)))))))
 refine ldPA ag.Auto rfl rfl (vs:=[_,_,_,_,_,_,_]) rfl (nb9 rfl) (clv rfl .rq1 (ValidS h za s1 s2) (nt rfl (OL.nil (cnF rfl ?_))))
 refine AW.skip (AW.seq (AW.dg 1 [0,1,2,3,4,5,6,7,8,9,10,11,12,13,14,15,16,17,18,19,20,21,22,23,24] order_free hE rfl (by kernel_rfl) (OI.of_OL (os:=[_,_,_,_,_,_,_,_,_,_,_,_,_,_,_,_,_,_,_,_,_,_,_,_,_]) rfl ?_)))
 refine faP fd.Auto_0 rfl rfl (ldPA ag.Ring rfl rfl (vs:=[_,_]) rfl (nb9 rfl) (clv rfl .rq1 (ringR) (faP fd.Auto_1 rfl rfl (ldPC ce.int rfl rfl rfl (faP fd.Auto_2 rfl rfl (ldPC ce.int rfl rfl rfl (faP fd.Auto_0 rfl rfl ?_)))))))
 refine ldPA ag.Ring rfl rfl (vs:=[_,_]) rfl (nb9 rfl) (faP fd.Auto_3 rfl rfl (ldPC ce.Weights rfl rfl rfl (clv rfl vL (CopyR (l:=a.ini) (by omega) za.ini) (faP fd.Auto_0 rfl rfl (ldPA ag.Ring rfl rfl (vs:=[_,_]) rfl (nb9 rfl) (faP fd.Auto_4 rfl rfl (ldPC ce.Weights rfl rfl rfl ?_)))))))
 refine clv rfl vL (CopyR (l:=a.fin) (by omega) za.fin) (faP fd.Auto_0 rfl rfl (ldPA ag.Ring rfl rfl (vs:=[_,_]) rfl (nb9 rfl) (faP fd.Auto_5 rfl rfl (ldPC ce.Arcs rfl rfl rfl (clv rfl vL (TidyS (l:=a.arcs) e3 (fun x hx=>(h.arc x hx).2.2.1) za.arc) (bd2 (cs:=[_,_,_,_,_,_,_]) z.Auto pl.Auto (pvC (by exact evA rfl) (pvC (by exact evD rfl) (pvC (by exact evD rfl) (pvC (by exact evD rfl) (pvC (by exact evD rfl) (pvC (by exact evD rfl) (pvN))))))) (by rfl) (sto sz.Auto rfl rfl rfl rfl rfl (nb9 rfl) (cells2:=[_,_,_,_,_,_,_]) rfl ?_)))))))
 refine asD rfl (OL.nil ?_)
 exact AW.ret (RetQ.r ⟨_,.cellA rfl rfl ag.Auto (nb9 rfl) (.tmp rfl .nil),_,.cons (.ag (.cons (.le vR) (.cons (.le vR) (.cons (.le vR) (.cons (.le vR) (.cons (.le vR) (.cons (.le vR) (.cons (.le vR) .nil)))))))) (.cons (.le vR) .nil),rfl⟩)
end Go.Proofs.YtocehciipjhlkaaGreatDoor

/-
  Walks of package weigh: the weight of a word (printed by mk2.py).
-/
import Derived.Test.YteiohkpjgcioaaaGreatDoorKWkI
import Derived.Test.YteiohkpjgcioaaaGreatDoorKMod70
import Derived.Test.YteiohkpjgcioaaaGreatDoorKHxA
set_option linter.unusedVariables false
set_option linter.unusedSimpArgs false
namespace Go.AL
open Go Go.BigFrame
section
variable {r:SRow}{w t:List Rat}{rs:List SRow}{k n:Nat}
theorem SzR.last (z:SzR 16777215 rs)(hl:rs.length≤6)(zv:∀ i,sz (w.getD i 0)≤16777215):(∀ i,sz ((redV rs w).getD i 0)≤68719476735)∧∀ i,sz ((takenS rs w).getD i 0)≤68719476735:=by
 have h4:4 ^ rs.length*(16777215+1)≤68719476736:=by
  have:=Nat.pow_le_pow_right (n:=4) (by decide) hl
  have:=Nat.mul_le_mul_right (16777215+1) this
  omega
 have h1:=fun i=>z.red zv i
 have h2:=fun i=>z.redC (by decide) zv rs.length i
 refine ⟨fun i=>?_,fun i=>?_⟩
 ·have:=h1 i;omega
 ·have:=h2 i
  unfold takenS;omega
end
section
variable {a b:Au}{B k:Nat}{l out:List Arc9}{x:Arc9}
theorem insA_szB (h:∀ y,y ∈ out→sz y.q≤(k+1)*(B+2))(hx:sz x.q≤B):∀ y,y ∈ insA out x→sz y.q≤(k+2)*(B+2):=by
 have up:∀ n,n≤(k+1)*(B+2)→n≤(k+2)*(B+2):=fun n hn=>Nat.le_trans hn (Nat.mul_le_mul_right _ (by omega))
 intro y hy
 have h2:(k+2)*(B+2)=(k+1)*(B+2)+(B+2):=Nat.succ_mul _ _
 unfold insA at hy
 split at hy
 ·rename_i hc
  rcases List.mem_or_eq_of_mem_set hy with hy|rfl
  ·exact up _ (h y hy)
  ·have h1:=h _ (getD_mem hc.1 default)
   have h3:=sz_add (out.getD (atA out x) default).q x.q
   show sz ((out.getD (atA out x) default).q+x.q)≤_
   omega
 ·rcases mp9 hy with hy|hy
  ·exact up _ (h y (List.mem_of_mem_take hy))
  ·rcases List.mem_cons.1 hy with rfl|hy
   ·omega
   ·exact up _ (h y (List.mem_of_mem_drop hy))
theorem foldI_sz:∀ (l out:List Arc9) (k:Nat),(∀ x,x ∈ l→sz x.q≤B)→(∀ y,y ∈ out→sz y.q≤(k+1)*(B+2))→∀ y,y ∈ l.foldl insA out→sz y.q≤(k+l.length+1)*(B+2)
 | [],out,k,_,h=>h
 | x::l,out,k,hz,h=>by
  rw [List.foldl_cons,List.length_cons,show k+(l.length+1)+1=(k+1)+l.length+1 by omega]
  exact foldI_sz l _ (k+1) (fun y hy=>hz y (List.mem_cons_of_mem _ hy)) (insA_szB h (hz x mc9))
theorem insA_len9 (out:List Arc9)(x:Arc9):(insA out x).length≤out.length+1:=by
 unfold insA
 split
 ·rw [List.length_set];omega
 ·rw [la9,List.length_cons,List.length_take,List.length_drop];omega
theorem foldI_len:∀ (l out:List Arc9),(l.foldl insA out).length≤out.length+l.length
 | [],out=>Nat.le_refl _
 | x::l,out=>by
  rw [List.foldl_cons,List.length_cons]
  have:=foldI_len l (insA out x)
  have:=insA_len9 out x
  omega
theorem formA_len (l:List Arc9):(formA l).length≤l.length:=by
 unfold formA nzA
 refine Nat.le_trans (List.length_filter_le ..) ?_
 have:=foldI_len l []
 rw [List.length_nil,Nat.zero_add] at this
 exact this
theorem formA_sz (hz:∀ x,x ∈ l→sz x.q≤B):∀ y,y ∈ formA l→sz y.q≤(l.length+1)*(B+2):=fun y hy=>by
 have:=foldI_sz l [] 0 hz (fun y hy=>by cases hy) y (List.mem_filter.1 hy).1
 rwa [Nat.zero_add] at this
theorem Au.Sz.wide (h:a.Sz 1 10):a.Sz 134217728 20 :=
 ⟨fun q hq=>Nat.le_trans (h.ini q hq) (by decide),fun q hq=>Nat.le_trans (h.fin q hq) (by decide),fun x hx=>Nat.le_trans (h.arc x hx) (by decide),Nat.le_trans h.num (by decide)⟩
theorem Au.Sz.form (h:a.Sz 1 10):(formOf a).Sz 134217728 20:=by
 refine ⟨h.wide.ini,h.wide.fin,fun x hx=>?_,Nat.le_trans (formA_len a.arcs) (Nat.le_trans h.num (by decide))⟩
 have h1:=formA_sz h.arc x hx
 have h2:=Nat.mul_le_mul_right (1+2) (show a.arcs.length+1≤11 by have:=h.num;omega)
 omega
theorem Au.Few.form (h:a.Few):(formOf a).Few:=⟨h.st,h.ini,h.fin,fun s i j=>by rw [show entA (formOf a).arcs s i j=entA a.arcs s i j from entA_form];exact h.ent s i j⟩
end
section
variable {a b:Au}{B N K:Nat}{q:Rat}{s i j:Nat}
theorem Au.Sz.up {B2 N2:Nat}(h:a.Sz B N)(hb:B≤B2)(hn:N≤N2):a.Sz B2 N2 :=
 ⟨fun q hq=>Nat.le_trans (h.ini q hq) hb,fun q hq=>Nat.le_trans (h.fin q hq) hb,fun x hx=>Nat.le_trans (h.arc x hx) hb,Nat.le_trans h.num hn⟩
end
section
variable {a b:Au}{n s i j k:Nat}{v w out:List Rat}{l:List Arc9}{x:Arc9}
theorem take_snoc9 {α:Type}(d:α){l:List α}{i:Nat}(h:i<l.length):l.take (i+1)=l.take i++[l.getD i d]:=by
 rw [List.take_succ_eq_append_getElem h,gd9,ge9 h];rfl
def addF (v:List Rat)(s:Nat)(out:List Rat)(x:Arc9):List Rat:=if x.l=s then out.set x.t (out.getD x.t 0+v.getD x.f 0*x.q) else out
def stepF (n:Nat)(v:List Rat)(s:Nat)(l:List Arc9):List Rat:=l.foldl (addF v s) (List.replicate n 0)
theorem addF_len:(addF v s out x).length=out.length:=by unfold addF;split <;> simp
theorem stepF_len:(stepF n v s l).length=n:=by
 have:∀ (l:List Arc9) (out:List Rat),(l.foldl (addF v s) out).length=out.length:=fun l=>by
  induction l with
  | nil=>exact fun _=>rfl
  | cons x l ih=>exact fun out=>by rw [List.foldl_cons,ih,addF_len]
 unfold stepF
 rw [this,List.length_replicate]
theorem stepF_snoc (h:i<l.length):stepF n v s (l.take (i+1))=addF v s (stepF n v s (l.take i)) (l.getD i default):=by
 unfold stepF
 rw [take_snoc9 default h,List.foldl_append];rfl
theorem getD_set9 {l:List Rat}{y:Rat}(hi:i<l.length):(l.set i y).getD j 0=if i=j then y else l.getD j 0:=by
 rw [gd9,List.getElem?_set,gd9]
 by_cases h:i=j
 ·subst h;rw [if_pos rfl,if_pos hi,if_pos rfl];rfl
 ·rw [if_neg h,if_neg h]
def inF (v:List Rat)(s j:Nat)(x:Arc9):Rat:=if x.l=s∧x.t=j then v.getD x.f 0*x.q else 0
theorem foldF_get:∀ (l:List Arc9) (out:List Rat),(∀ x,x ∈ l→x.t<out.length)→(l.foldl (addF v s) out).getD j 0=out.getD j 0+lsum (inF v s j) l
 | [],out,_=>by rw [List.foldl_nil,lsum,Rat.add_zero]
 | x :: l, out, h => by
  have hx:=h x mc9
  rw [List.foldl_cons,foldF_get l _ (fun y hy=>by rw [addF_len];exact h y (List.mem_cons_of_mem _ hy)),lsum,← Rat.add_assoc]
  congr 1
  unfold addF inF
  by_cases hl:x.l=s
  ·rw [if_pos hl,getD_set9 hx]
   by_cases ht:x.t=j
   ·rw [if_pos ht,if_pos ⟨hl,ht⟩,ht]
   ·rw [if_neg ht,if_neg (fun e=>ht e.2),Rat.add_zero]
  ·rw [if_neg hl,if_neg (fun e=>hl e.1),Rat.add_zero]
theorem rep_get:(List.replicate n (0:Rat)).getD j 0=0:=by
 rw [gd9,List.getElem?_replicate]
 split <;> rfl
theorem stepF_get (h:∀ x,x ∈ l→x.t<n):(stepF n v s l).getD j 0=lsum (inF v s j) l:=by
 unfold stepF
 rw [foldF_get l _ (fun x hx=>by rw [List.length_replicate];exact h x hx),rep_get,Rat.zero_add]
theorem sum_ent (l:List Arc9)(hf:∀ x,x ∈ l→x.f<n):sumN (fun i=>v.getD i 0*entA l k i j) n=lsum (inF v (k+1) j) l:=by
 induction l with
 | nil=>rw [lsum];exact sumN_zero fun i _=>by rw [entA_nil,Rat.mul_zero]
 | cons x l ih =>
  rw [lsum,← ih fun y hy=>hf y (List.mem_cons_of_mem _ hy)]
  have e:(fun i=>v.getD i 0*entA (x::l) k i j)=fun i=>v.getD i 0*pickA k i j x+v.getD i 0*entA l k i j:=by
   funext i
   rw [entA_cons,Rat.mul_add]
  rw [e,sumN_add]
  congr 1
  unfold inF
  by_cases hc:x.l=k+1∧x.t=j
  ·rw [if_pos hc]
   have e2:(fun i=>v.getD i 0*pickA k i j x)=fun i=>if x.f=i then v.getD i 0*x.q else 0:=by
    funext i
    unfold pickA
    by_cases hi:x.f=i
    ·rw [if_pos ⟨hi,hc.1,hc.2⟩,if_pos hi]
    ·rw [if_neg (fun e=>hi e.1),if_neg hi,Rat.mul_zero]
   rw [e2,sumN_pick (v:=fun i=>v.getD i 0*x.q) (hf x mc9)]
  ·rw [if_neg hc]
   exact sumN_zero fun i _=>by
    unfold pickA
    rw [if_neg (fun e=>hc ⟨e.2.1,e.2.2⟩),Rat.mul_zero]
theorem stepF_step (ha:a.Ok)(s1:1≤s)(s2:s≤a.sym):stepF a.st v s a.arcs=stepM (machL [a]) v (s-1):=by
 have hn:(machL [a]).n=a.st:=size_one
 refine List.ext_getElem (by rw [stepF_len,stepM_len,hn]) fun j h1 h2=>?_
 rw [stepF_len] at h1
 have e1:(stepF a.st v s a.arcs)[j]=(stepF a.st v s a.arcs).getD j 0:=by rw [gd9,ge9];rfl
 have e2:(stepM (machL [a]) v (s-1))[j]=(stepM (machL [a]) v (s-1)).getD j 0:=by rw [gd9,ge9];rfl
 rw [e1,e2,stepF_get fun x hx=>(ha.arc x hx).2.1]
 unfold stepM
 rw [hn,map_getD_range _ _ h1]
 have e3:s-1+1=s:=by omega
 rw [show lsum (inF v s j) a.arcs=lsum (inF v (s-1+1) j) a.arcs by rw [e3],← sum_ent (n:=a.st) a.arcs fun x hx=>(ha.arc x hx).1]
 refine sumN_congr fun i hi=>?_
 rw [machL_ent (l:=[a]) (by show s-1<a.sym;omega) (by rw [size_one];exact hi) (by rw [size_one];exact h1)]
 show _=_*(if i<a.st then (if j<a.st then entA a.arcs (s-1) i j else 0) else _)
 rw [if_pos hi,if_pos h1]
def fwA (a:Au)(u:List Int):List Rat:=u.foldl (fun v x=>stepF a.st v x.toNat a.arcs) a.ini
theorem fwA_snoc {u:List Int}(h:i<u.length):fwA a (u.take (i+1))=stepF a.st (fwA a (u.take i)) (u.getD i 0).toNat a.arcs:=by
 unfold fwA
 rw [take_snoc9 0 h,List.foldl_append];rfl
theorem fwA_len (ha:a.Ok)(u:List Int):(fwA a u).length=a.st:=by
 have:∀ (u:List Int) (v:List Rat),v.length=a.st→(u.foldl (fun v x=>stepF a.st v x.toNat a.arcs) v).length=a.st:=fun u=>by
  induction u with
  | nil=>exact fun _ h=>h
  | cons x u ih=>exact fun v _=>ih _ stepF_len
 exact this u a.ini ha.ini
theorem fwA_vec (ha:a.Ok){u:List Int}(hu:InW a.sym u):fwA a u=vecM (machL [a]) u:=by
 have:∀ (u:List Int) (v:List Rat),InW a.sym u→u.foldl (fun v x=>stepF a.st v x.toNat a.arcs) v=u.foldl (fun v x=>stepM (machL [a]) v (x.toNat-1)) v:=fun u=>by
  induction u with
  | nil=>exact fun _ _=>rfl
  | cons x u ih =>
   intro v hx
   have h1:=hx x mc9
   rw [List.foldl_cons,List.foldl_cons,stepF_step ha (by omega) (by omega)]
   exact ih _ fun y hy=>hx y (List.mem_cons_of_mem _ hy)
 unfold fwA vecM
 rw [this u a.ini hu,show (machL [a]).ini=a.ini from List.append_nil _]
def dotF (v w:List Rat)(i:Nat):Rat:=sumN (fun i=>v.getD i 0*w.getD i 0) i
theorem dotF_ser (ha:a.Ok){u:List Int}(hu:InW a.sym u):dotF (fwA a u) a.fin a.st=serA a u:=by
 rw [fwA_vec ha hu]
 unfold dotF serA wtM dotM
 rw [show (machL [a]).n=a.st from size_one,show (machL [a]).fin=a.fin from List.append_nil _]
end
end Go.AL
namespace Go.Proofs.YteiohkpjgcioaaaGreatDoor
open Go Go.AL
theorem fc.Auto_3:FieldC P T.Auto 3 4:=⟨by kernel_rfl⟩
theorem zeros_snocW {n i:Nat}(h:i<n):(List.replicate n (0:Rat)).take (i+1)=(List.replicate n (0:Rat)).take i++[0]:=by
 rw [List.take_replicate,List.take_replicate,Nat.min_eq_left h,Nat.min_eq_left (Nat.le_of_lt h),List.replicate_succ']
theorem rowW_elW {l:List Rat}{i:Nat}(hi:i<l.length):(l.map dW)[i]? = some (dW (l.getD i 0)):=by rw [List.getElem?_map,gd9,ge9 hi];rfl
theorem addF_tW {v out:List Rat}{s:Nat}{x:Arc9}(h:x.l=s):addF v s out x=out.set x.t (out.getD x.t 0+v.getD x.f 0*x.q):=if_pos h
theorem addF_fW {v out:List Rat}{s:Nat}{x:Arc9}(h:¬ x.l=s):addF v s out x=out:=if_neg h
theorem words_ValidW {s:Nat}{w:List Int}(hw:InW s w)(hl:w.length≤256)(hs:1≤s∧s≤32):FSpec P F.words_Valid [.d (ints w),.d (dI s)] (.d (dB true)) :=
 words_Valid (h:=⟨s,0,0,[],[],[],[],[],[]⟩) ⟨hl,hw⟩ hs
theorem norm_same (a:Au):SameA (normOf a) a:=⟨rfl,rfl,rfl,rfl,fun _ _ _=>entA_tidy⟩
theorem ser_norm (a:Au):serA (normOf a)=serA a:=(norm_same a).ser
theorem norm_ok {a:Au}(h:a.Ok):(normOf a).Ok:=⟨h.sym0,h.ini,h.fin,PlaceA.tidy (p:=fun f l t=>f<a.st∧t<a.st∧1≤l∧l≤a.sym) h.arc⟩
structure StSz (a:Au) (v:List Rat) (s:Nat):Prop where
 zv:∀ j,sz (v.getD j 0)≤17179869184
 zq:∀ x,x ∈ a.arcs→sz x.q≤17179869184
 zs:∀ i j,sz ((stepF a.st v s (a.arcs.take i)).getD j 0)≤17179869184
structure FwSz (a:Au) (w:List Int):Prop where
 st:∀ k,k<w.length→StSz a (fwA a (w.take k)) (w.getD k 0).toNat
 zv:∀ j,sz ((fwA a w).getD j 0)≤17179869184
 zf:∀ j,sz (a.fin.getD j 0)≤17179869184
 zd:∀ i,i≤a.st→sz (dotF (fwA a w) a.fin i)≤17179869184
theorem zerosW {a:Au}(hn:a.st≤64):FSpecR P F.weigh_zeros [vAu a] a.st T.Weight 8 ((List.replicate a.st (0:Rat)).map dW):=by
 have hzl:(List.replicate a.st (0:Rat)).length=a.st:=List.length_replicate
 refine FSpecR.intro fn.weigh_zeros (by rfl) (by rfl) (nb9 (by rfl)) 2 rfl fun E hE=>(AW.sg hE rfl (bxA rfl rfl fun b1=>(asM rfl (OL.nil (AW.sg hE rfl (asM rfl (OL.nil ?_)))))))
 refine AW.seq (AW.seq (AW.own 3 13 T.Weight 8 rfl rfl (AW.rg hE rfl (faP fd.Auto_2 rfl rfl (ldPC ce.int rfl rfl rfl (mvD rfl (OL.nil ?_)))))))
 refine AW.block ?_
 refine AW.whileK (α:=Nat × Nat × Nat) [(1,_),(2,_),(5,_)] [(1,_)] (fun (i,bq,cq)=>[(3,.osl 13 bq i cq),(6,.d (dI i))]) (fun (i,bq,cq)=>[(13,.row bq cq T.Weight 8 (((List.replicate a.st (0:Rat)).take i).map dW))]) (fun (i,bq,cq)=>i≤a.st) (fun (i,bq,cq)=>a.st-i) (0,0,0) (.cons (knP rfl) (.cons (knM rfl) (.cons (knD rfl) .nil))) (.cons (owB rfl) .nil) ⟨Nat.zero_le _,.rq2,.cons rfl .nil⟩ ?_
 rintro ⟨i,bq,cq⟩ h1
 have h1:i≤a.st:=h1
 refine AW.sg hE rfl (c_lss rfl rfl rfl (OL.nil (AW.seq (AW.cond rfl (fun h7=>?_) (fun h7=>?_)))))
 ·try simp only [dx9] at h7
  refine AW.skip (AW.seq (AW.block (AW.rg hE rfl (mvO rfl (faP fd.Auto_0 rfl rfl (ldPA ag.Ring rfl rfl (vs:=[_,_]) rfl (nb9 rfl) (clv rfl vL (ZeroR) ?_)))))))
  refine lt1 (y:=dW 0) sl.Weights vd_w rfl (by decide) ?_
  refine apO sl.Weights rfl rfl rfl (by rw [lm9,List.length_take];omega) (VC.d _) (fun y hy=>by rw [ms9 hy];rfl) (by simp only [ls9];omega) (by simp only [ls9];omega) (.inr rfl) (ys:=((List.replicate a.st (0:Rat)).take (i+1)).map dW) (by rw [zeros_snocW (by omega),List.map_append];rfl) (n2:=i+1) rfl fun b13 c13=>?_
  exact asO rfl (OL.nil (AW.rg hE rfl (add_i64 rfl rfl (by omega) (mvD rfl (OL.nil (AW.again (x:=(i,bq,cq)) (i+1,b13,c13) (by (simp only [];omega)) ⟨by omega,Knows.app .rq3 .rq2,Owns.app (.cons rfl .nil) (.cons rfl .nil)⟩))))))
 ·try simp only [dx9] at h7
  refine AW.exit (AW.seq ?_)
  obtain rfl:i=a.st:=by omega
  have e9:(List.replicate a.st (0:Rat)).take a.st=(List.replicate a.st (0:Rat)):=List.take_of_length_le (by omega)
  exact AW.rg hE rfl (mvO rfl (asO rfl (OL.nil (AW.ret ⟨.inr rfl,13,bq,cq,((List.replicate a.st (0:Rat)).take a.st).map dW,rfl,rfl,by rw [e9,lm9];omega,by rw [e9];exact List.take_of_length_le (by rw [lm9];omega)⟩))))
set_option maxRecDepth 8000 in
set_option maxHeartbeats 1600000 in
theorem StepW {a:Au}{v:List Rat}{s:Nat}(h:a.Ok)(hv:v.length=a.st)(zz:StSz a v s)(s2:a.st≤64)(e3:a.arcs.length≤2048):FSpec P F.weigh_Step [vAu a,.d (dWs v),.d (dI s)] (.d (dWs (stepF a.st v s a.arcs))):=by
 refine FSpec.intro fn.weigh_Step (by rfl) (by rfl) (nb9 (by rfl)) fun E hE=>(AW.sg hE rfl (bxA rfl rfl fun b3=>(asM rfl (OL.nil (AW.sg hE rfl (ldPA ag.Auto rfl rfl (vs:=[_,_,_,_,_,_,_]) rfl (nb9 rfl) (clR rfl .rq1 (zerosW (a:=a) s2) rfl fun b11 c11=>?_)))))))
 refine asO rfl (OL.nil (AW.seq (AW.sg hE rfl (faP fd.Auto_5 rfl rfl (ldPC ce.Arcs rfl rfl rfl (lnL sl.Arcs rfl rfl (mvD rfl ?_)))))))
 refine OL.nil (AW.block ?_)
 refine AW.whileK (α:=Nat) [(1,_),(2,_),(3,_),(6,_),(7,_),(13,_),(14,_)] [(3,_)] (fun i=>[(15,.d (dI i))]) (fun i=>[(11,.row b11 c11 T.Weight 8 ((stepF a.st v s (a.arcs.take i)).map dW))]) (fun i=>i≤a.arcs.length) (fun i=>a.arcs.length-i) 0 (.cons (knD rfl) (.cons (knD rfl) (.cons (knP rfl) (.cons (knM rfl) (.cons (knO rfl) (.cons (knD rfl) (.cons (knD rfl) .nil))))))) (.cons (owB rfl) .nil) ⟨Nat.zero_le _,.rq1,.cons rfl .nil⟩ ?_
 rintro i h1
 have h1:i≤a.arcs.length:=h1
 have hsl:(stepF a.st v s (a.arcs.take i)).length=a.st:=stepF_len
 refine AW.sg hE rfl (c_lss rfl rfl rfl (OL.nil (AW.seq (AW.cond rfl (fun h16=>?_) (fun h16=>?_)))))
 ·try simp only [dx9] at h16
  refine AW.skip (AW.seq (AW.block (AW.seq ?_)))
  have hm:=getD_mem (l:=a.arcs) (i:=i) (by omega) default
  obtain ⟨hx1,hx2,hx3,hx4⟩:=h.arc (a.arcs.getD i default) hm
  have hxz:=zz.zq (a.arcs.getD i default) hm
  have hz1:=zz.zv (a.arcs.getD i default).f
  have hz2:=zz.zs i (a.arcs.getD i default).t
  have hz3:=sz_mul (v.getD (a.arcs.getD i default).f 0) (a.arcs.getD i default).q
  refine AW.rg hE rfl (ixLn sl.Arcs default rfl rfl (by omega) rfl rfl (ldRA ag.Arc rfl (vs:=[_,_,_,_,_,_,_,_,_,_,_]) rfl (nb9 rfl) (al z.Arc rfl fun b9=>(sto sz.Arc rfl rfl rfl rfl rfl (nb9 rfl) (cells2:=[_,_,_,_,_,_,_,_,_,_,_]) rfl (OL.nil (AW.sg hE rfl (faP fd.Arc_1 rfl rfl ?_)))))))
  refine ldPC ce.int rfl rfl rfl (mvD rfl (c_eql rfl rfl rfl (OL.nil (AW.cond rfl (fun hc=>?_) (fun hc=>?_)))))
  ·have hc:(a.arcs.getD i default).l=s:=by have:=dt9 hc;omega
   refine AW.dg 1 [0,1,2,3,4,5,6,7,8,9,10,11,12,13,14,15,16,17,18,19,20,21,22] order_free hE rfl (by kernel_rfl) (OI.of_OL (os:=[_,_,_,_,_,_,_,_,_,_,_,_,_,_,_,_,_,_,_,_,_,_,_]) rfl ?_)
   refine mvO rfl (faP fd.Arc_2 rfl rfl (ldPC ce.int rfl rfl rfl (faP fd.Auto_0 rfl rfl (ldPA ag.Ring rfl rfl (vs:=[_,_]) rfl (nb9 rfl) (mvO rfl (faP fd.Arc_2 rfl rfl (ldPC ce.int rfl rfl rfl ?_)))))))
   refine ixOn sl.Weights rfl rfl (by omega) ?_
   refine ldEA ag.Weight (by decide) rfl rfl (rowW_elW (show (a.arcs.getD i default).t<(stepF a.st v s (a.arcs.take i)).length by omega)) (vs:=[.d (dB (ofQ ((stepF a.st v s (a.arcs.take i)).getD (a.arcs.getD i default).t 0)).neg),.d (u32s (ofQ ((stepF a.st v s (a.arcs.take i)).getD (a.arcs.getD i default).t 0)).num),.d (u32s (ofQ ((stepF a.st v s (a.arcs.take i)).getD (a.arcs.getD i default).t 0)).den),.d (dI 0),.d (dB false),.d (dU 0),.d (.sl []),.d (.sl [])]) rfl (nb9 rfl) ?_
   refine faP fd.Auto_0 rfl rfl (ldPA ag.Ring rfl rfl (vs:=[_,_]) rfl (nb9 rfl) (mvD rfl (faP fd.Arc_0 rfl rfl (ldPC ce.int rfl rfl rfl (ixLn sl.Weights 0 rfl rfl (by omega) rfl rfl (ldRA ag.Weight rfl (vs:=[_,_,_,_,_,_,_,_]) rfl (nb9 rfl) (faP fd.Arc_3 rfl rfl ?_)))))))
   refine ldPA ag.Weight rfl rfl (vs:=[_,_,_,_,_,_,_,_]) rfl (nb9 rfl) (clv rfl vL (TimesR (p:=v.getD (a.arcs.getD i default).f 0) (q:=(a.arcs.getD i default).q) (by omega) (by omega)) (clv rfl vL (PlusR (p:=(stepF a.st v s (a.arcs.take i)).getD (a.arcs.getD i default).t 0) (q:=v.getD (a.arcs.getD i default).f 0*(a.arcs.getD i default).q) (by omega) (by omega)) (ixOn sl.Weights rfl rfl (by omega) ?_)))
   refine stE sz.Weight rfl (d:=dW ((stepF a.st v s (a.arcs.take i)).getD (a.arcs.getD i default).t 0+v.getD (a.arcs.getD i default).f 0*(a.arcs.getD i default).q)) vd_w rfl rfl (by rw [lm9];omega) (es2:=((stepF a.st v s (a.arcs.take i)).set (a.arcs.getD i default).t ((stepF a.st v s (a.arcs.take i)).getD (a.arcs.getD i default).t 0+v.getD (a.arcs.getD i default).f 0*(a.arcs.getD i default).q)).map dW) (by rw [List.map_set]) ?_
   refine OL.nil (AW.rg hE rfl (add_i64 rfl rfl (by omega) (mvD rfl (OL.nil ?_))))
   exact AW.again (x:=i) (i+1) (by omega) ⟨by omega,Knows.app .rq7 .rq1,Owns.app (.cons rfl .nil) (.cons (by rw [stepF_snoc (by omega),addF_tW hc];rfl) .nil)⟩
  ·have hc:¬ (a.arcs.getD i default).l=s:=by have:=df9 hc;omega
   refine AW.skip (AW.rg hE rfl (add_i64 rfl rfl (by omega) (mvD rfl (OL.nil ?_))))
   exact AW.again (x:=i) (i+1) (by omega) ⟨by omega,Knows.app .rq7 .rq1,Owns.app (.cons rfl .nil) (.cons (by rw [stepF_snoc (by omega),addF_fW hc];rfl) .nil)⟩
 ·try simp only [dx9] at h16
  refine AW.exit (AW.seq ?_)
  obtain rfl:i=a.arcs.length:=by omega
  exact AW.rg hE rfl (mvO rfl (asO rfl (OL.nil (AW.ret (RetQ.r ⟨_,.tmp rfl .nil,RO.all rfl rfl (by rw [lm9,stepF_len]) (by rw [List.take_length])⟩)))))
set_option maxHeartbeats 800000 in
theorem DotW {v u:List Rat}{n:Nat}(hv:v.length=n)(hu:u.length=n)(hn:n≤64)(zv:∀ i,sz (v.getD i 0)≤17179869184)(zu:∀ i,sz (u.getD i 0)≤17179869184)(zd:∀ i,i≤n→sz (dotF v u i)≤17179869184):FSpec P F.weigh_Dot [vRing,.d (dWs v),.d (dWs u)] (vW (dotF v u n)):=by
 refine FSpec.intro fn.weigh_Dot (by rfl) (by rfl) (nb9 (by rfl)) fun E hE=>(AW.sg hE rfl (bxA rfl rfl fun b3=>(al z.Weight rfl fun b6=>(OL.nil (AW.sg hE rfl (ldPA ag.Ring rfl rfl (vs:=[_,_]) rfl (nb9 rfl) (clv rfl vL (ZeroR) ?_)))))))
 refine al z.Weight rfl fun b7=>(sto sz.Weight rfl rfl rfl rfl rfl (nb9 rfl) (cells2:=[_,_,_,_,_,_,_,_]) rfl (OL.nil (AW.seq (AW.sg hE rfl (mvD rfl (lnL sl.Weights rfl rfl (mvD rfl ?_)))))))
 refine OL.nil (AW.block ?_)
 refine AW.whileK (α:=Nat) [(1,_),(2,_),(3,_),(6,_),(7,_),(12,_)] [(3,_),(6,_)] (fun i=>[(13,.d (dI i))]) (fun i=>[(7,.box b7 T.Weight [.d (dB (ofQ (dotF v u i)).neg),.d (u32s (ofQ (dotF v u i)).num),.d (u32s (ofQ (dotF v u i)).den),.d (dI 0),.d (dB false),.d (dU 0),.d (.sl []),.d (.sl [])])]) (fun i=>i≤n) (fun i=>n-i) 0 (.cons (knD rfl) (.cons (knD rfl) (.cons (knP rfl) (.cons (knP rfl) (.cons (knP rfl) (.cons (knD rfl) .nil)))))) (.cons (owB rfl) (.cons (owB rfl) .nil)) ⟨Nat.zero_le _,.rq1,.cons rfl .nil⟩ ?_
 rintro i h1
 have h1:i≤n:=h1
 have z1:=zv i
 have z2:=zu i
 have z3:=sz_mul (v.getD i 0) (u.getD i 0)
 have z4:=zd i h1
 refine AW.sg hE rfl (c_lss rfl rfl rfl (OL.nil (AW.seq (AW.cond rfl (fun h14=>?_) (fun h14=>?_)))))
 ·try simp only [dx9] at h14
  refine AW.skip (AW.seq (AW.block (AW.sg hE rfl (mvD rfl (asD rfl (OL.nil (AW.dg 1 [0,1,2,3,4,5,6,7,8,9,10,11,12,13] order_free hE rfl (by kernel_rfl) (OI.of_OL (os:=[_,_,_,_,_,_,_,_,_,_,_,_,_,_]) rfl ?_))))))))
  refine ldPA ag.Ring rfl rfl (vs:=[_,_]) rfl (nb9 rfl) (ldPA ag.Weight rfl rfl (vs:=[_,_,_,_,_,_,_,_]) rfl (nb9 rfl) (ldPA ag.Ring rfl rfl (vs:=[_,_]) rfl (nb9 rfl) (mvD rfl (mvD rfl (ixLn sl.Weights 0 rfl rfl (by omega) rfl rfl (ldRA ag.Weight rfl (vs:=[_,_,_,_,_,_,_,_]) rfl (nb9 rfl) (mvD rfl ?_)))))))
  refine mvD rfl (ixLn sl.Weights 0 rfl rfl (by omega) rfl rfl (ldRA ag.Weight rfl (vs:=[_,_,_,_,_,_,_,_]) rfl (nb9 rfl) (clv rfl vL (TimesR (p:=v.getD i 0) (q:=u.getD i 0) (by omega) (by omega)) (clv rfl vL (PlusR (p:=(dotF v u i)) (q:=v.getD i 0*u.getD i 0) (by omega) (by omega)) (sto sz.Weight rfl rfl rfl rfl rfl (nb9 rfl) (cells2:=[_,_,_,_,_,_,_,_]) rfl (OL.nil (AW.rg hE rfl ?_)))))))
  refine add_i64 rfl rfl (by omega) (mvD rfl (OL.nil ?_))
  exact AW.again (x:=i) (i+1) (by omega) ⟨by omega,Knows.app .rq6 .rq1,Owns.app (.cons rfl (.cons rfl .nil)) (.cons rfl .nil)⟩
 ·try simp only [dx9] at h14
  refine AW.exit (AW.seq ?_)
  obtain rfl:i=n:=by omega
  refine AW.rg hE rfl (ldPA ag.Weight rfl rfl (vs:=[_,_,_,_,_,_,_,_]) rfl (nb9 rfl) (sto sz.Weight rfl rfl rfl rfl rfl (nb9 rfl) (cells2:=[_,_,_,_,_,_,_,_]) rfl (OL.nil ?_)))
  exact AW.ret (RetQ.r ⟨_,.cellA rfl rfl ag.Weight (nb9 rfl) .nil,.ag (.cons (.le vR) (.cons (.le vR) (.cons (.le vR) (.cons (.le vR) (.cons (.le vR) (.cons (.le vR) (.cons (.le vR) (.cons (.le vR) .nil))))))))⟩)
end Go.Proofs.YteiohkpjgcioaaaGreatDoor

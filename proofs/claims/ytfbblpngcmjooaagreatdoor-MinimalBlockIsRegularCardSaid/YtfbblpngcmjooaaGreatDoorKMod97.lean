/-
  M, chapter 24: the machine of the views: its vectors are the rows of the table of the series.
-/
import Derived.Test.YtfbblpngcmjooaaGreatDoorKMod87
set_option linter.unusedVariables false
set_option linter.unusedSimpArgs false
namespace Go.AL
open Go Go.BigFrame
def iniT (l:List Au)(k:Nat):List Rat:=(l.take k).flatMap (·.ini)
def finT (l:List Au)(k:Nat):List Rat:=finL (l.take k)
def entB (o:Nat)(a:Au)(s i j:Nat):Rat:=if o≤i∧o≤j then (if i-o<a.st∧j-o<a.st then entA a.arcs s (i-o) (j-o) else 0) else 0
def cO (l:List Au)(k:Nat)(U:List Arc9)(s i j:Nat):Rat:=entL (l.take k) s i j+(if sizeL (l.take k)≤i∧sizeL (l.take k)≤j then entA U s (i-sizeL (l.take k)) (j-sizeL (l.take k)) else 0)
section
variable {a b x:Au}{l r:List Au}{s i j k o:Nat}
theorem takeA (hk:k<l.length):l.take (k+1)=l.take k++[l.getD k default]:=by
 rw [List.take_succ_eq_append_getElem hk,gd9,ge9 hk];rfl
theorem sizeL_app:sizeL (l++r)=sizeL l+sizeL r:=by simp [sizeL]
theorem sizeL_snoc (hk:k<l.length):sizeL (l.take (k+1))=sizeL (l.take k)+(l.getD k default).st:=by rw [takeA hk,sizeL_app];simp [sizeL]
theorem iniT_snoc (hk:k<l.length):iniT l (k+1)=iniT l k++(l.getD k default).ini:=by unfold iniT;rw [takeA hk,List.flatMap_append];simp
theorem finL_app:∀ (l:List Au),l≠[]→finL (l++[a])=finL l++a.fin.map fun x=>-x
 | [],h=>absurd rfl h
 | b::r,_=>by
  show b.fin++(r++[a]).flatMap (fun b=>b.fin.map fun x=>-x)=(b.fin++r.flatMap fun b=>b.fin.map fun x=>-x)++_
  rw [List.flatMap_append,List.append_assoc];simp
theorem finT_snoc (hk:k<l.length)(hp:0<k):finT l (k+1)=finT l k++(l.getD k default).fin.map fun x=>-x:=by
 unfold finT
 rw [takeA hk,finL_app _ (fun h=>by have:=congrArg List.length h;rw [List.length_take,List.length_nil] at this;omega)]
theorem finT_one (hk:0<l.length):finT l 1=(l.getD 0 default).fin:=by
 unfold finT
 rw [takeA hk]
 simp [finL]
theorem iniT_len (h:∀ a,a ∈ l→a.Ok):∀ k,(iniT l k).length=sizeL (l.take k)
 | 0=>by simp [iniT,sizeL]
 | k + 1 => by
  rcases Nat.lt_or_ge k l.length with hk|hk
  ·rw [iniT_snoc hk,la9,iniT_len h k,sizeL_snoc hk,(h _ (getD_mem hk default)).ini]
  ·have:=iniT_len h k
   unfold iniT at *
   rw [List.take_of_length_le hk] at this
   rw [List.take_of_length_le (by omega)];exact this
theorem finT_len (h:∀ a,a ∈ l→a.Ok):∀ k,(finT l k).length=sizeL (l.take k)
 | 0=>by simp [finT,finL,sizeL]
 | k + 1 => by
  rcases Nat.lt_or_ge k l.length with hk|hk
  ·have hf:=(h _ (getD_mem hk default)).fin
   rcases Nat.eq_zero_or_pos k with h0|h0
   ·subst h0
    rw [finT_one hk,sizeL_snoc hk,hf];simp [sizeL]
   ·rw [finT_snoc hk h0,la9,lm9,finT_len h k,sizeL_snoc hk,hf]
  ·have:=finT_len h k
   unfold finT at *
   rw [List.take_of_length_le hk] at this
   rw [List.take_of_length_le (by omega)];exact this
theorem entL_snoc:∀ (l:List Au) (s i j:Nat),entL (l++[a]) s i j=entL l s i j+entB (sizeL l) a s i j
 | [], s, i, j => by
  show (if i<a.st then (if j<a.st then entA a.arcs s i j else 0) else (if j<a.st then 0 else 0))=0+(if 0≤i∧0≤j then (if i-0<a.st∧j-0<a.st then entA a.arcs s (i-0) (j-0) else 0) else 0)
  rw [Rat.zero_add,if_pos (show 0≤i∧0≤j from ⟨Nat.zero_le _,Nat.zero_le _⟩),Nat.sub_zero,Nat.sub_zero]
  by_cases h1:i<a.st
  ·by_cases h2:j<a.st
   ·rw [if_pos h1,if_pos h2,if_pos ⟨h1,h2⟩]
   ·rw [if_pos h1,if_neg h2,if_neg (fun e=>h2 e.2)]
  ·rw [if_neg h1,if_neg (show ¬(i<a.st∧j<a.st) from fun e=>h1 e.1)];split <;> rfl
 | b :: r, s, i, j => by
  have hs:sizeL (b::r)=b.st+sizeL r:=by simp [sizeL]
  rw [List.cons_append,entL,entL,hs]
  by_cases h1:i<b.st
  ·have hb:entB (b.st+sizeL r) a s i j=0:=if_neg (by omega)
   rw [if_pos h1,if_pos h1,hb,Rat.add_zero]
  ·by_cases h2:j<b.st
   ·have hb:entB (b.st+sizeL r) a s i j=0:=if_neg (by omega)
    rw [if_neg h1,if_neg h1,if_pos h2,if_pos h2,hb,Rat.add_zero]
   ·rw [if_neg h1,if_neg h1,if_neg h2,if_neg h2,entL_snoc r]
    congr 1
    unfold entB
    rw [show i-b.st-sizeL r=i-(b.st+sizeL r) by omega,show j-b.st-sizeL r=j-(b.st+sizeL r) by omega]
    by_cases h3:sizeL r≤i-b.st∧sizeL r≤j-b.st
    ·rw [if_pos h3,if_pos (show b.st+sizeL r≤i∧b.st+sizeL r≤j by omega)]
    ·rw [if_neg h3,if_neg (show ¬(b.st+sizeL r≤i∧b.st+sizeL r≤j) by omega)]
theorem entL_out:∀ (l:List Au) (s i j:Nat),sizeL l≤i ∨ sizeL l≤j→entL l s i j=0
 | [],_,_,_,_=>rfl
 | b :: r, s, i, j, h => by
  have hs:sizeL (b::r)=b.st+sizeL r:=by simp [sizeL]
  rw [hs] at h
  rw [entL]
  by_cases h1:i<b.st
  ·rw [if_pos h1,if_neg (by omega)]
  ·rw [if_neg h1]
   split
   ·rfl
   ·exact entL_out r s _ _ (by omega)
theorem cO_start:cO l k [] s i j=entL (l.take k) s i j:=by
 unfold cO
 split
 ·rw [entA_nil,Rat.add_zero]
 ·rw [Rat.add_zero]
theorem cO_done (hk:k<l.length)(h:(l.getD k default).Ok):cO l k (tidyA (l.getD k default).arcs) s i j=entL (l.take (k+1)) s i j:=by
 rw [takeA hk,entL_snoc]
 unfold cO entB
 congr 1
 by_cases h1:sizeL (l.take k)≤i∧sizeL (l.take k)≤j
 ·rw [if_pos h1,if_pos h1,entA_tidy]
  by_cases h2:i-sizeL (l.take k)<(l.getD k default).st∧j-sizeL (l.take k)<(l.getD k default).st
  ·rw [if_pos h2]
  ·rw [if_neg h2]
   exact entA_out (n:=(l.getD k default).st) (fun x hx=>⟨(h.arc x hx).1,(h.arc x hx).2.1⟩) (by omega)
 ·rw [if_neg h1,if_neg h1]
theorem entA_new {T:List Arc9}(ha:T.Pairwise fun a b=>ordA a b<0){p:Nat}(hp:p<T.length)(h1:1≤(T.getD p default).l):entA (T.take p) ((T.getD p default).l-1) (T.getD p default).f (T.getD p default).t=0:=by
 refine lsumZ fun y hy=>if_neg fun e=>?_
 have hs:T=T.take p++T.getD p default::T.drop (p+1):=by
  rw [gd9,ge9 hp]
  exact (List.take_append_drop p T).symm.trans (by rw [List.drop_eq_getElem_cons hp];rfl)
 rw [hs] at ha
 have:=(List.pairwise_append.1 ha).2.2 y hy _ (List.mem_cons_self ..)
 rw [ordA_lt] at this
 omega
theorem cO_step {T:List Arc9}(ha:T.Pairwise fun a b=>ordA a b<0){p:Nat}(hp:p<T.length)(h1:1≤(T.getD p default).l) :
  cO l k (T.take (p+1)) s i j=if s=(T.getD p default).l-1∧i=sizeL (l.take k)+(T.getD p default).f∧j=sizeL (l.take k)+(T.getD p default).t then (T.getD p default).q else cO l k (T.take p) s i j:=by
 have ht:T.take (p+1)=T.take p++[T.getD p default]:=by
  rw [List.take_succ_eq_append_getElem hp,gd9,ge9 hp];rfl
 have hn:=entA_new ha hp h1
 generalize T.getD p default=x at *
 unfold cO
 rw [ht]
 by_cases hc:s=x.l-1∧i=sizeL (l.take k)+x.f∧j=sizeL (l.take k)+x.t
 ·rw [if_pos hc]
  obtain ⟨rfl,rfl,rfl⟩:=hc
  rw [entL_out _ _ _ _ (.inl (Nat.le_add_right _ _)),if_pos ⟨Nat.le_add_right _ _,Nat.le_add_right _ _⟩,Nat.add_sub_cancel_left,Nat.add_sub_cancel_left,entA_app,hn,entA_cons,entA_nil,show pickA (x.l-1) x.f x.t x=x.q from if_pos ⟨rfl,by omega,rfl⟩,Rat.zero_add,Rat.zero_add,Rat.add_zero]
 ·rw [if_neg hc]
  congr 1
  by_cases h2:sizeL (l.take k)≤i∧sizeL (l.take k)≤j
  ·rw [if_pos h2,if_pos h2,entA_app,entA_cons,entA_nil,Rat.add_zero,show pickA s (i-sizeL (l.take k)) (j-sizeL (l.take k)) x=0 from if_neg (by omega),Rat.add_zero]
  ·rw [if_neg h2,if_neg h2]
end
section
variable {a b:Au}{B k:Nat}{l out:List Arc9}{x:Arc9}
theorem insA_szB (h:∀ y,y ∈ out→sz y.q≤(k+1)*(B+2))(hx:sz x.q≤B):∀ y,y ∈ insA out x→sz y.q≤(k+2)*(B+2):=by
 have up:∀ n,n≤(k+1)*(B+2)→n≤(k+2)*(B+2):=fun n hn=>Nat.le_trans hn (Nat.mul_le_mul_right _ (by omega))
 intro y hy
 have h2:(k+2)*(B+2)=(k+1)*(B+2)+(B+2):=Nat.succ_mul _ _
 unfold insA at hy
 split at hy
 ·rename_i hc
  rcases List.mem_or_eq_of_mem_set hy with hy|rfl
  ·exact up _ (h y hy)
  ·have h1:=h _ (getD_mem hc.1 default)
   have h3:=sz_add (out.getD (atA out x) default).q x.q
   show sz ((out.getD (atA out x) default).q+x.q)≤_
   omega
 ·rcases List.mem_append.1 hy with hy|hy
  ·exact up _ (h y (List.mem_of_mem_take hy))
  ·rcases List.mem_cons.1 hy with rfl|hy
   ·omega
   ·exact up _ (h y (List.mem_of_mem_drop hy))
theorem foldI_sz:∀ (l out:List Arc9) (k:Nat),(∀ x,x ∈ l→sz x.q≤B)→(∀ y,y ∈ out→sz y.q≤(k+1)*(B+2))→∀ y,y ∈ l.foldl insA out→sz y.q≤(k+l.length+1)*(B+2)
 | [],out,k,_,h=>h
 | x::l,out,k,hz,h=>by
  rw [List.foldl_cons,List.length_cons,show k+(l.length+1)+1=(k+1)+l.length+1 by omega]
  exact foldI_sz l _ (k+1) (fun y hy=>hz y (List.mem_cons_of_mem _ hy)) (insA_szB h (hz x (List.mem_cons_self ..)))
theorem insA_len9 (out:List Arc9)(x:Arc9):(insA out x).length≤out.length+1:=by
 unfold insA
 split
 ·rw [List.length_set];omega
 ·rw [la9,List.length_cons,List.length_take,List.length_drop];omega
theorem foldI_len:∀ (l out:List Arc9),(l.foldl insA out).length≤out.length+l.length
 | [],out=>Nat.le_refl _
 | x::l,out=>by
  rw [List.foldl_cons,List.length_cons]
  have:=foldI_len l (insA out x)
  have:=insA_len9 out x
  omega
theorem formA_len (l:List Arc9):(formA l).length≤l.length:=by
 unfold formA nzA
 refine Nat.le_trans (List.length_filter_le ..) ?_
 have:=foldI_len l []
 rw [List.length_nil,Nat.zero_add] at this
 exact this
theorem formA_sz (hz:∀ x,x ∈ l→sz x.q≤B):∀ y,y ∈ formA l→sz y.q≤(l.length+1)*(B+2):=fun y hy=>by
 have:=foldI_sz l [] 0 hz (fun y hy=>by cases hy) y (List.mem_filter.1 hy).1
 rwa [Nat.zero_add] at this
theorem Au.Sz.wide (h:a.Sz 1 10):a.Sz 134217728 20 :=
 ⟨fun q hq=>Nat.le_trans (h.ini q hq) (by decide),fun q hq=>Nat.le_trans (h.fin q hq) (by decide),fun x hx=>Nat.le_trans (h.arc x hx) (by decide),Nat.le_trans h.num (by decide)⟩
theorem Au.Sz.form (h:a.Sz 1 10):(formOf a).Sz 134217728 20:=by
 refine ⟨h.wide.ini,h.wide.fin,fun x hx=>?_,Nat.le_trans (formA_len a.arcs) (Nat.le_trans h.num (by decide))⟩
 have h1:=formA_sz h.arc x hx
 have h2:=Nat.mul_le_mul_right (1+2) (show a.arcs.length+1≤11 by have:=h.num;omega)
 omega
theorem Au.Few.form (h:a.Few):(formOf a).Few:=⟨h.st,h.ini,h.fin,fun s i j=>by rw [show entA (formOf a).arcs s i j=entA a.arcs s i j from entA_form];exact h.ent s i j⟩
end
section
variable {a b:Au}{B N K:Nat}{q:Rat}{s i j:Nat}
theorem Au.Sz.rev (h:a.Sz 1 10):(revOf a).Sz 40 10:=by
 have hl:(a.arcs.map fun x=>(⟨x.t,x.l,x.f,x.q⟩:Arc9)).length=a.arcs.length:=lm9 ..
 refine ⟨fun y hy=>Nat.le_trans (h.fin y hy) (by decide),fun y hy=>Nat.le_trans (h.ini y hy) (by decide),fun x hx=>?_,Nat.le_trans (formA_len _) (by rw [hl];exact h.num)⟩
 have hy9:∀ y,y ∈ (a.arcs.map fun x=>(⟨x.t,x.l,x.f,x.q⟩:Arc9))→sz y.q≤1:=fun y hy=>by
  obtain ⟨x,hx,rfl⟩:=List.mem_map.1 hy
  exact h.arc x hx
 have h1:sz x.q≤_:=formA_sz hy9 x hx
 have h2:=Nat.mul_le_mul_right (1+2) (show (a.arcs.map fun x=>(⟨x.t,x.l,x.f,x.q⟩:Arc9)).length+1≤11 by rw [hl];have:=h.num;omega)
 omega
theorem Au.Sz.up {B2 N2:Nat}(h:a.Sz B N)(hb:B≤B2)(hn:N≤N2):a.Sz B2 N2 :=
 ⟨fun q hq=>Nat.le_trans (h.ini q hq) hb,fun q hq=>Nat.le_trans (h.fin q hq) hb,fun x hx=>Nat.le_trans (h.arc x hx) hb,Nat.le_trans h.num hn⟩
theorem entA_swap {l:List Arc9}:entA (l.map fun x=>(⟨x.t,x.l,x.f,x.q⟩:Arc9)) s i j=entA l s j i:=by
 unfold entA
 rw [lsum_map]
 refine lsum_congr fun x _=>?_
 show (if x.t=i∧x.l=s+1∧x.f=j then x.q else 0)=if x.f=j∧x.l=s+1∧x.t=i then x.q else 0
 by_cases hc:x.f=j∧x.l=s+1∧x.t=i
 ·rw [if_pos hc,if_pos ⟨hc.2.2,hc.2.1,hc.1⟩]
 ·rw [if_neg hc,if_neg fun hd=>hc ⟨hd.2.2,hd.2.1,hd.1⟩]
theorem Au.Few.rev (h:a.Few):(revOf a).Few:=⟨h.st,h.fin,h.ini,fun s i j=>by
 show sz (entA (formA _) s i j)≤24
 rw [entA_form,entA_swap];exact h.ent ..⟩
end
section
variable {a b:Au}{n s i j k:Nat}{v w out:List Rat}{l:List Arc9}{x:Arc9}
theorem take_snoc9 {α:Type}(d:α){l:List α}{i:Nat}(h:i<l.length):l.take (i+1)=l.take i++[l.getD i d]:=by
 rw [List.take_succ_eq_append_getElem h,gd9,ge9 h];rfl
def addF (v:List Rat)(s:Nat)(out:List Rat)(x:Arc9):List Rat:=if x.l=s then out.set x.t (out.getD x.t 0+v.getD x.f 0*x.q) else out
def stepF (n:Nat)(v:List Rat)(s:Nat)(l:List Arc9):List Rat:=l.foldl (addF v s) (List.replicate n 0)
theorem addF_len:(addF v s out x).length=out.length:=by unfold addF;split <;> simp
theorem stepF_len:(stepF n v s l).length=n:=by
 have:∀ (l:List Arc9) (out:List Rat),(l.foldl (addF v s) out).length=out.length:=fun l=>by
  induction l with
  | nil=>exact fun _=>rfl
  | cons x l ih=>exact fun out=>by rw [List.foldl_cons,ih,addF_len]
 unfold stepF
 rw [this,List.length_replicate]
theorem stepF_snoc (h:i<l.length):stepF n v s (l.take (i+1))=addF v s (stepF n v s (l.take i)) (l.getD i default):=by
 unfold stepF
 rw [take_snoc9 default h,List.foldl_append];rfl
theorem getD_set9 {l:List Rat}{y:Rat}(hi:i<l.length):(l.set i y).getD j 0=if i=j then y else l.getD j 0:=by
 rw [gd9,List.getElem?_set,gd9]
 by_cases h:i=j
 ·subst h;rw [if_pos rfl,if_pos hi,if_pos rfl];rfl
 ·rw [if_neg h,if_neg h]
def inF (v:List Rat)(s j:Nat)(x:Arc9):Rat:=if x.l=s∧x.t=j then v.getD x.f 0*x.q else 0
theorem foldF_get:∀ (l:List Arc9) (out:List Rat),(∀ x,x ∈ l→x.t<out.length)→(l.foldl (addF v s) out).getD j 0=out.getD j 0+lsum (inF v s j) l
 | [],out,_=>by rw [List.foldl_nil,lsum,Rat.add_zero]
 | x :: l, out, h => by
  have hx:=h x (List.mem_cons_self ..)
  rw [List.foldl_cons,foldF_get l _ (fun y hy=>by rw [addF_len];exact h y (List.mem_cons_of_mem _ hy)),lsum,← Rat.add_assoc]
  congr 1
  unfold addF inF
  by_cases hl:x.l=s
  ·rw [if_pos hl,getD_set9 hx]
   by_cases ht:x.t=j
   ·rw [if_pos ht,if_pos ⟨hl,ht⟩,ht]
   ·rw [if_neg ht,if_neg (fun e=>ht e.2),Rat.add_zero]
  ·rw [if_neg hl,if_neg (fun e=>hl e.1),Rat.add_zero]
theorem rep_get:(List.replicate n (0:Rat)).getD j 0=0:=by
 rw [gd9,List.getElem?_replicate]
 split <;> rfl
theorem stepF_get (h:∀ x,x ∈ l→x.t<n):(stepF n v s l).getD j 0=lsum (inF v s j) l:=by
 unfold stepF
 rw [foldF_get l _ (fun x hx=>by rw [List.length_replicate];exact h x hx),rep_get,Rat.zero_add]
theorem sum_ent (l:List Arc9)(hf:∀ x,x ∈ l→x.f<n):sumN (fun i=>v.getD i 0*entA l k i j) n=lsum (inF v (k+1) j) l:=by
 induction l with
 | nil=>rw [lsum];exact sumN_zero fun i _=>by rw [entA_nil,Rat.mul_zero]
 | cons x l ih =>
  rw [lsum,← ih fun y hy=>hf y (List.mem_cons_of_mem _ hy)]
  have e:(fun i=>v.getD i 0*entA (x::l) k i j)=fun i=>v.getD i 0*pickA k i j x+v.getD i 0*entA l k i j:=by
   funext i
   rw [entA_cons,Rat.mul_add]
  rw [e,sumN_add]
  congr 1
  unfold inF
  by_cases hc:x.l=k+1∧x.t=j
  ·rw [if_pos hc]
   have e2:(fun i=>v.getD i 0*pickA k i j x)=fun i=>if x.f=i then v.getD i 0*x.q else 0:=by
    funext i
    unfold pickA
    by_cases hi:x.f=i
    ·rw [if_pos ⟨hi,hc.1,hc.2⟩,if_pos hi]
    ·rw [if_neg (fun e=>hi e.1),if_neg hi,Rat.mul_zero]
   rw [e2,sumN_pick (v:=fun i=>v.getD i 0*x.q) (hf x (List.mem_cons_self ..))]
  ·rw [if_neg hc]
   exact sumN_zero fun i _=>by
    unfold pickA
    rw [if_neg (fun e=>hc ⟨e.2.1,e.2.2⟩),Rat.mul_zero]
theorem stepF_step (ha:a.Ok)(s1:1≤s)(s2:s≤a.sym):stepF a.st v s a.arcs=stepM (machL [a]) v (s-1):=by
 have hn:(machL [a]).n=a.st:=size_one
 refine List.ext_getElem (by rw [stepF_len,stepM_len,hn]) fun j h1 h2=>?_
 rw [stepF_len] at h1
 have e1:(stepF a.st v s a.arcs)[j]=(stepF a.st v s a.arcs).getD j 0:=by rw [gd9,ge9];rfl
 have e2:(stepM (machL [a]) v (s-1))[j]=(stepM (machL [a]) v (s-1)).getD j 0:=by rw [gd9,ge9];rfl
 rw [e1,e2,stepF_get fun x hx=>(ha.arc x hx).2.1]
 unfold stepM
 rw [hn,map_getD_range _ _ h1]
 have e3:s-1+1=s:=by omega
 rw [show lsum (inF v s j) a.arcs=lsum (inF v (s-1+1) j) a.arcs by rw [e3],← sum_ent (n:=a.st) a.arcs fun x hx=>(ha.arc x hx).1]
 refine sumN_congr fun i hi=>?_
 rw [machL_ent (l:=[a]) (by show s-1<a.sym;omega) (by rw [size_one];exact hi) (by rw [size_one];exact h1)]
 show _=_*(if i<a.st then (if j<a.st then entA a.arcs (s-1) i j else 0) else _)
 rw [if_pos hi,if_pos h1]
def fwA (a:Au)(u:List Int):List Rat:=u.foldl (fun v x=>stepF a.st v x.toNat a.arcs) a.ini
theorem fwA_snoc {u:List Int}(h:i<u.length):fwA a (u.take (i+1))=stepF a.st (fwA a (u.take i)) (u.getD i 0).toNat a.arcs:=by
 unfold fwA
 rw [take_snoc9 0 h,List.foldl_append];rfl
theorem fwA_len (ha:a.Ok)(u:List Int):(fwA a u).length=a.st:=by
 have:∀ (u:List Int) (v:List Rat),v.length=a.st→(u.foldl (fun v x=>stepF a.st v x.toNat a.arcs) v).length=a.st:=fun u=>by
  induction u with
  | nil=>exact fun _ h=>h
  | cons x u ih=>exact fun v _=>ih _ stepF_len
 exact this u a.ini ha.ini
theorem fwA_vec (ha:a.Ok){u:List Int}(hu:InW a.sym u):fwA a u=vecM (machL [a]) u:=by
 have:∀ (u:List Int) (v:List Rat),InW a.sym u→u.foldl (fun v x=>stepF a.st v x.toNat a.arcs) v=u.foldl (fun v x=>stepM (machL [a]) v (x.toNat-1)) v:=fun u=>by
  induction u with
  | nil=>exact fun _ _=>rfl
  | cons x u ih =>
   intro v hx
   have h1:=hx x (List.mem_cons_self ..)
   rw [List.foldl_cons,List.foldl_cons,stepF_step ha (by omega) (by omega)]
   exact ih _ fun y hy=>hx y (List.mem_cons_of_mem _ hy)
 unfold fwA vecM
 rw [this u a.ini hu,show (machL [a]).ini=a.ini from List.append_nil _]
def dotF (v w:List Rat)(i:Nat):Rat:=sumN (fun i=>v.getD i 0*w.getD i 0) i
theorem dotF_ser (ha:a.Ok){u:List Int}(hu:InW a.sym u):dotF (fwA a u) a.fin a.st=serA a u:=by
 rw [fwA_vec ha hu]
 unfold dotF serA wtM dotM
 rw [show (machL [a]).n=a.st from size_one,show (machL [a]).fin=a.fin from List.append_nil _]
theorem stepF_sz {B:Nat}(hv:∀ i,sz (v.getD i 0)≤B)(hl:∀ x,x ∈ l→x.t<n∧sz x.q≤1)(h10:l.length≤10):sz ((stepF n v s l).getD j 0)≤10*(B+2)+1:=by
 rw [stepF_get fun x hx=>(hl x hx).1]
 have h1:=lsum_szA (f:=inF v s j) (C:=B+1) (l:=l) fun x hx=>by
  unfold inF
  split
  ·have:=sz_mul (v.getD x.f 0) x.q
   have:=hv x.f
   have:=(hl x hx).2
   omega
  ·rw [sz_zero];omega
 have h2:=Nat.mul_le_mul_right (B+1+1) h10
 omega
def fB:Nat→Nat
 | 0=>1
 | k+1=>10*(fB k+2)+1
theorem small_get {B:Nat}{v:List Rat}(h:Small B v)(h1:1≤B)(i:Nat):sz (v.getD i 0)≤B:=by
 rw [gd9]
 cases hg:v[i]? with
 | none=>show sz 0≤B;rw [sz_zero];exact h1
 | some q=>exact h q (List.mem_of_getElem? hg)
theorem fwA_sz (ha:a.Ok)(hz:a.Sz 1 10)(u:List Int):∀ k,k≤u.length→∀ j,sz ((fwA a (u.take k)).getD j 0)≤fB k
 | 0,_,j=>by
  rw [List.take_zero]
  exact small_get hz.ini (Nat.le_refl _) j
 | k+1,hk,j=>by
  rw [fwA_snoc (by omega)]
  exact stepF_sz (fwA_sz ha hz u k (by omega)) (fun x hx=>⟨(ha.arc x hx).2.1,hz.arc x hx⟩) hz.num
theorem fB_le (hk:k≤4):fB k≤33331:=by
 have:k=0 ∨ k=1 ∨ k=2 ∨ k=3 ∨ k=4:=by omega
 rcases this with rfl|rfl|rfl|rfl|rfl <;> decide
end
section
variable {m:Mach}{B k:Nat}{V K Q:List (List Int)}{w u:List Int}{rs:List SRow}{y:KSt}{v:List Rat}{r:SRow}
def nextW (k:Nat)(K:List (List Int)):List (List Int):=[]::K.flatMap (kidsW k)
theorem nextW_snoc:nextW k (K++[w])=nextW k K++kidsW k w:=by
 unfold nextW
 rw [List.flatMap_append,List.flatMap_cons,List.flatMap_nil,List.append_nil,List.cons_append]
structure InvS (m:Mach) (B:Nat) (Q:List (List Int)) (y:KSt):Prop where
 sp:SpOK m.n B y.rs
 join:∃ V,Join m V y.ks Q y.rs∧V++Q=nextW m.k y.ks
 len:LenK y.ks Q
 lead:∀ r,r ∈ y.rs→r.p=firstP r.v
 ord:y.ks.Pairwise fun a b=>slx a b<0
theorem InvS.start (m:Mach)(B:Nat):InvS m B [[]] ⟨[],[]⟩:=⟨SpOK.nil,⟨[],Join.start m,rfl⟩,LenK.start,fun _ h=>(by cases h),List.Pairwise.nil⟩
theorem InvS.b (h:InvS m B Q y):InvB m B Q y:=⟨h.sp,have ⟨V,j,_⟩:=h.join;⟨V,j⟩,h.len⟩
theorem InvS.next (ok:m.Ok)(h1:1≤B)(hz:∀ i,sz ((vecM m w).getD i 0)≤B)(h:InvS m B (w::Q) y) :
  ((keepB m w y).1=true→InvS m B (Q++kidsW m.k w) (keepB m w y).2∧leftM m (Q++kidsW m.k w) (keepB m w y).2.rs<leftM m (w::Q) y.rs)∧((keepB m w y).1=false→InvS m B Q (keepB m w y).2∧leftM m Q (keepB m w y).2.rs<leftM m (w::Q) y.rs):=by
 obtain ⟨V,j,e⟩:=h.join
 unfold keepB
 by_cases hg:growsS y.rs (vecM m w)=true
 ·rw [if_pos hg]
  refine ⟨fun _=>⟨⟨h.sp.grow (vecM_len ok w) h1 hz hg,⟨_,j.keep ok hg,?_⟩,h.len.keep,fun r hr=>?_,?_⟩,left_keep ok j hg⟩,fun x=>by cases x⟩
  ·show V++[w]++(Q++kidsW m.k w)=nextW m.k (y.ks++[w])
   rw [nextW_snoc,← e,List.append_assoc,List.append_assoc];rfl
  ·rcases List.mem_append.1 hr with hr|hr
   ·exact h.lead r hr
   ·rw [List.mem_singleton.1 hr];rfl
  ·refine List.pairwise_append.2 ⟨h.ord,List.pairwise_singleton ..,fun u hu q hq=>?_⟩
   rw [List.mem_singleton.1 hq]
   exact (List.pairwise_append.1 j.bfs.ord).2.2 u (j.bfs.sub u hu) w (List.mem_cons_self ..)
 ·rw [if_neg hg]
  have hg:growsS y.rs (vecM m w)=false:=by simpa using hg
  exact ⟨fun x=>(by cases x),fun _=>⟨⟨h.sp,⟨_,j.drop ok hg,by rw [List.append_assoc];exact e⟩,h.len.drop,h.lead,h.ord⟩,left_drop⟩⟩
theorem firstP_eq {l:List Rat}{p:Nat}(hp:p<l.length)(h0:l.getD p 0≠0)(hb:∀ i,i<p→l.getD i 0=0):firstP l=p:=by
 rcases Nat.lt_trichotomy (firstP l) p with g|g|g
 ·exact absurd (hb _ g) (firstP_nz (Nat.lt_trans g hp))
 ·exact g
 ·exact absurd (firstP_before g) h0
theorem growsS_lead:growsS rs v=true ↔ firstP (redV rs v)<(redV rs v).length:=by unfold growsS;exact decide_eq_true_iff
theorem next_inW (hs:∀ u,u ∈ K→u ∈ nextW k K):∀ (n:Nat) (u:List Int),u.length=n→u ∈ K→InW k u
 | n, u, hn, hu => by
  rcases List.mem_cons.1 (hs u hu) with rfl|h
  ·exact fun x hx=>by cases hx
  ·obtain ⟨z,hz,h⟩:=List.mem_flatMap.1 h
   obtain ⟨s,hs2,rfl⟩:=List.mem_map.1 h
   rw [la9,ls9] at hn
   have ih:=next_inW hs z.length z rfl hz
   have:=List.mem_range.1 hs2
   intro x hx
   rcases List.mem_append.1 hx with hx|hx
   ·exact ih x hx
   ·rw [List.mem_singleton.1 hx];omega
termination_by n=>n
end
section
variable {a:Au}{n s j k B C N:Nat}{v:List Rat}{l:List Arc9}
structure Au.Fw (a:Au):Prop where
 ok:a.Ok
 few:a.Few
 s4:a.sym≤4
 st1:1≤a.st
 arc:∀ x,x ∈ a.arcs→sz x.q≤500
 num:a.arcs.length≤20
theorem Au.Fw.mach (f:a.Fw):(machL [a]).Ok∧(machL [a]).Full∧(machL [a]).Sz 24∧(machL [a]).n=a.st :=
 ⟨mach_ok1 f.ok,machL_full _,machL_sz (fun x hx=>by rw [List.mem_singleton.1 hx];exact f.few) (by rw [size_one];exact f.few.st) f.s4,size_one⟩
end
section
variable {m:Mach}{rs:List SRow}{r:SRow}{v w:List Rat}{L K:List (List Int)}{a:Au}
def lessQ (v w:List Rat)(c:Rat):List Rat:=(List.range v.length).map fun i=>v.getD i 0-w.getD i 0*c
theorem lessQ_len {c:Rat}:(lessQ v w c).length=v.length:=by simp [lessQ]
theorem lessQ_step:lessQ v r.v (qotR v r)=redStep v r:=by
 unfold lessQ redStep
 exact List.map_congr_left fun i _=>by rw [Rat.mul_comm]
theorem lead_add (h:∀ r,r ∈ rs→r.p=firstP r.v):∀ r,r ∈ addS rs w→r.p=firstP r.v:=fun r hr=>by
 unfold addS at hr
 split at hr
 ·rcases List.mem_append.1 hr with hr|hr
  ·exact h r hr
  ·rw [List.mem_singleton.1 hr];rfl
 ·exact h r hr
end
section
variable {n:Nat}{rs:List SRow}{r:SRow}{v w:List Rat}
def leadI (v:List Rat):Int:=if firstP v<v.length then (firstP v:Int) else -1
theorem leadI_some (h:firstP v<v.length):leadI v=(firstP v:Int):=if_pos h
theorem leadI_none (h:¬ firstP v<v.length):leadI v = -1:=if_neg h
theorem leadI_at {i:Nat}(hi:i<v.length)(h0:v.getD i 0≠0)(hb:∀ j,j<i→v.getD j 0=0):leadI v=(i:Int):=by
 rw [leadI_some (by rw [firstP_eq hi h0 hb];exact hi),firstP_eq hi h0 hb]
theorem leadI_end (h:∀ i,i<v.length→v.getD i 0=0):leadI v = -1:=leadI_none fun hlt=>firstP_nz hlt (h _ hlt)
end
section
variable {m:Mach}{L V:List (List Int)}{rs:List SRow}{w u:List Int}
theorem turn_span (ok:m.Ok)(j:Join (turnM m) V L [] rs)(hw:InW m.k w):∃ c:Nat→Rat,∀ i,i<m.n→(vecM (turnM m) w).getD i 0=sumN (fun l=>c l*(vecM (turnM m) (L.getD l [])).getD i 0) L.length:=by
 have h:=j.bfs.reach w (by rw [turn_k];exact hw) fun q hq=>by cases hq
 have h2:SpanV (turnM m).n (vecs (turnM m) L) (vf (vecM (turnM m) w)):=h.mono fun b hb=>by
  obtain ⟨u,hu,rfl⟩:=List.mem_map.1 hb
  exact List.mem_map.2 ⟨u,(upTo_mem.1 hu).1,rfl⟩
 obtain ⟨c,hc⟩:=h2.coef
 refine ⟨c,fun i hi=>?_⟩
 have hv:(vecs (turnM m) L).length=L.length:=lm9 ..
 have e:=hc i hi
 rw [hv] at e
 refine e.trans (sumN_congr fun l hl=>?_)
 have ev:(vecs (turnM m) L).getD l []=vecM (turnM m) (L.getD l []):=by
  unfold vecs
  simp [gd9,ge9 hl]
 rw [ev]
theorem dot_sum {n N:Nat}{x:Nat→Rat}{y:Nat→Rat}{c:Nat→Rat}{b:Nat→Nat→Rat}(h:∀ i,i<n→y i=sumN (fun l=>c l*b l i) N):dotM n x y=sumN (fun l=>dotM n x (b l)*c l) N:=by
 unfold dotM
 have e1:sumN (fun i=>x i*y i) n=sumN (fun i=>sumN (fun l=>x i*(c l*b l i)) N) n:=sumN_congr fun i hi=>by rw [h i hi,← sumN_mulL]
 have e2:sumN (fun l=>sumN (fun i=>x i*b l i) n*c l) N=sumN (fun l=>sumN (fun i=>x i*(c l*b l i)) n) N:=sumN_congr fun l _=>by
  rw [← sumN_mulR]
  exact sumN_congr fun i _=>by rw [Rat.mul_comm (c l),Rat.mul_assoc]
 rw [e1,e2,sumN_swap]
theorem view_mach (ok:m.Ok)(j:Join (turnM m) V L [] rs)(hL:∀ l,l ∈ L→InW m.k l):∃ mv:Mach,mv.n=L.length∧mv.k=m.k∧mv.Ok∧(∀ w,InW m.k w→vecM mv w=viewM m L w)∧∀ w,InW m.k w→wtM mv w=wtM m w:=by
 have inL:∀ l,l<L.length→∀ s,s<m.k→InW m.k (L.getD l [])→InW m.k (L.getD l []++[((s+1:Nat):Int)]):=fun l _ s hs h x hx=>by
  rcases List.mem_append.1 hx with hx|hx
  ·exact h x hx
  ·rw [List.mem_singleton.1 hx];omega
 have ex:∀ (s l:Nat),∃ c:Nat→Rat,InW m.k (L.getD l []++[((s+1:Nat):Int)])→∀ i,i<m.n→(vecM (turnM m) (L.getD l []++[((s+1:Nat):Int)])).getD i 0=sumN (fun q=>c q*(vecM (turnM m) (L.getD q [])).getD i 0) L.length:=fun s l=>by
  by_cases hw:InW m.k (L.getD l []++[((s+1:Nat):Int)])
  ·obtain ⟨c,hc⟩:=turn_span ok j hw
   exact ⟨c,fun _=>hc⟩
  ·exact ⟨fun _=>0,fun h=>absurd h hw⟩
 obtain ⟨d,hd⟩:=turn_span (w:=[]) ok j fun x hx=>by cases hx
 have hC:∃ C:Nat→Nat→Nat→Rat,∀ s l,InW m.k (L.getD l []++[((s+1:Nat):Int)])→∀ i,i<m.n→(vecM (turnM m) (L.getD l []++[((s+1:Nat):Int)])).getD i 0=sumN (fun q=>C s l q*(vecM (turnM m) (L.getD q [])).getD i 0) L.length :=
  ⟨fun s l=>(ex s l).choose,fun s l=>(ex s l).choose_spec⟩
 obtain ⟨C,hC⟩:=hC
 have hin:∀ l,l<L.length→InW m.k (L.getD l []):=fun l hl=>by
  have hmem:L.getD l [] ∈ L:=getD_mem hl []
  exact hL _ hmem
 let mv:Mach:=⟨L.length,viewM m L [],(List.range L.length).map d,(List.range m.k).map fun s=>mtx L.length fun i q=>C s q i⟩
 have hk:mv.k=m.k:=by show ((List.range m.k).map _).length=m.k;simp
 have hent:∀ s i q,s<m.k→i<L.length→q<L.length→entM mv s i q=C s q i:=fun s i q hs hi hq=>by
  show ((((List.range m.k).map fun s=>mtx L.length fun i q=>C s q i).getD s []).getD i []).getD q 0=_
  rw [map_getD_range _ _ hs,mtx_get hi hq]
 have hvec:∀ (n:Nat) (w:List Int),w.length=n→InW m.k w→vecM mv w=viewM m L w:=by
  intro n
  induction n with
  | zero=>intro w hn _;rw [List.eq_nil_of_length_eq_zero hn];rfl
  | succ n ih =>
   intro w hn hw
   have hne:w≠[]:=fun e=>by rw [e] at hn;cases hn
   obtain ⟨z,x,rfl⟩:∃ z x,w=z++[x]:=⟨w.dropLast,w.getLast hne,(List.dropLast_concat_getLast hne).symm⟩
   have hx:=hw x (by simp)
   obtain ⟨s,hs,rfl⟩:∃ s:Nat,s<m.k∧x=((s+1:Nat):Int):=⟨x.toNat-1,by omega,by omega⟩
   have hz:InW m.k z:=fun q hq=>hw q (List.mem_append.2 (.inl hq))
   rw [vecM_snoc,ih z (by rw [la9,ls9] at hn;omega) hz]
   refine List.ext_getElem (by rw [stepM_len,view_len]) fun q h1 h2=>?_
   rw [view_len] at h2
   have g1:∀ (l:List Rat) (h:q<l.length),l[q]=l.getD q 0:=fun l h=>by rw [gd9,ge9 h];rfl
   rw [g1,g1]
   have e1:(viewM m L (z++[((s+1:Nat):Int)])).getD q 0=hankM m (z++[((s+1:Nat):Int)]) (L.getD q []):=map_getD_range _ _ h2
   have es:(((s+1:Nat):Int)).toNat-1=s:=by omega
   rw [e1,es]
   unfold stepM
   rw [show mv.n=L.length from rfl,map_getD_range _ _ h2]
   unfold hankM
   rw [vecM_snoc,es,dot_step hs]
   have e2:stepM (turnM m) (vecM (turnM m) (L.getD q [])) s=vecM (turnM m) (L.getD q []++[((s+1:Nat):Int)]):=by rw [vecM_snoc,es]
   rw [e2,dot_sum (y:=vf (vecM (turnM m) (L.getD q []++[((s+1:Nat):Int)]))) (b:=fun l=>vf (vecM (turnM m) (L.getD l []))) (fun i hi=>hC s q (inL q h2 s hs (hin q h2)) i hi)]
   refine sumN_congr fun l hl=>?_
   rw [hent s l q hs hl h2,show (viewM m L z).getD l 0=hankM m z (L.getD l []) from map_getD_range _ _ hl]
   rfl
 refine ⟨mv,rfl,hk,⟨view_len,by show ((List.range L.length).map d).length=L.length;simp⟩,fun w hw=>hvec w.length w rfl hw,fun w hw=>?_⟩
 unfold wtM
 rw [hvec w.length w rfl hw,dot_sum (n:=m.n) (y:=vf m.fin) (b:=fun l=>vf (vecM (turnM m) (L.getD l []))) hd]
 unfold dotM
 rw [show mv.n=L.length from rfl]
 refine sumN_congr fun l hl=>?_
 rw [show vf (viewM m L w) l=hankM m w (L.getD l []) from map_getD_range _ _ hl,show vf mv.fin l=d l from map_getD_range _ _ hl]
 rfl
end
end Go.AL

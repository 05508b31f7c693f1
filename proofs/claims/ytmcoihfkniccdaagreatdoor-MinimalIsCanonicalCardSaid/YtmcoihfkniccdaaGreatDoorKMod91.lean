/-
  M, chapter 23: weights of words by the arcs, and all words of at most three symbols of two.
-/
import Derived.Test.YtmcoihfkniccdaaGreatDoorKMod87
set_option linter.unusedVariables false
set_option linter.unusedSimpArgs false
namespace Go.AL
open Go Go.BigFrame
def iniT (l:List Au)(k:Nat):List Rat:=(l.take k).flatMap (·.ini)
def finT (l:List Au)(k:Nat):List Rat:=finL (l.take k)
def entB (o:Nat)(a:Au)(s i j:Nat):Rat:=if o≤i∧o≤j then (if i-o<a.st∧j-o<a.st then entA a.arcs s (i-o) (j-o) else 0) else 0
def cO (l:List Au)(k:Nat)(U:List Arc9)(s i j:Nat):Rat:=entL (l.take k) s i j+(if sizeL (l.take k)≤i∧sizeL (l.take k)≤j then entA U s (i-sizeL (l.take k)) (j-sizeL (l.take k)) else 0)
section
variable {a b x:Au}{l r:List Au}{s i j k o:Nat}
theorem takeA (hk:k<l.length):l.take (k+1)=l.take k++[l.getD k default]:=by
 rw [List.take_succ_eq_append_getElem hk,gd9,ge9 hk];rfl
theorem sizeL_app:sizeL (l++r)=sizeL l+sizeL r:=by simp [sizeL]
theorem sizeL_snoc (hk:k<l.length):sizeL (l.take (k+1))=sizeL (l.take k)+(l.getD k default).st:=by rw [takeA hk,sizeL_app];simp [sizeL]
theorem iniT_snoc (hk:k<l.length):iniT l (k+1)=iniT l k++(l.getD k default).ini:=by unfold iniT;rw [takeA hk,List.flatMap_append];simp
theorem finL_app:∀ (l:List Au),l≠[]→finL (l++[a])=finL l++a.fin.map fun x=>-x
 | [],h=>absurd rfl h
 | b::r,_=>by
  show b.fin++(r++[a]).flatMap (fun b=>b.fin.map fun x=>-x)=(b.fin++r.flatMap fun b=>b.fin.map fun x=>-x)++_
  rw [List.flatMap_append,List.append_assoc];simp
theorem finT_snoc (hk:k<l.length)(hp:0<k):finT l (k+1)=finT l k++(l.getD k default).fin.map fun x=>-x:=by
 unfold finT
 rw [takeA hk,finL_app _ (fun h=>by have:=congrArg List.length h;rw [List.length_take,List.length_nil] at this;omega)]
theorem finT_one (hk:0<l.length):finT l 1=(l.getD 0 default).fin:=by
 unfold finT
 rw [takeA hk]
 simp [finL]
theorem iniT_len (h:∀ a,a ∈ l→a.Ok):∀ k,(iniT l k).length=sizeL (l.take k)
 | 0=>by simp [iniT,sizeL]
 | k + 1 => by
  rcases Nat.lt_or_ge k l.length with hk|hk
  ·rw [iniT_snoc hk,la9,iniT_len h k,sizeL_snoc hk,(h _ (getD_mem hk default)).ini]
  ·have:=iniT_len h k
   unfold iniT at *
   rw [List.take_of_length_le hk] at this
   rw [List.take_of_length_le (by omega)];exact this
theorem finT_len (h:∀ a,a ∈ l→a.Ok):∀ k,(finT l k).length=sizeL (l.take k)
 | 0=>by simp [finT,finL,sizeL]
 | k + 1 => by
  rcases Nat.lt_or_ge k l.length with hk|hk
  ·have hf:=(h _ (getD_mem hk default)).fin
   rcases Nat.eq_zero_or_pos k with h0|h0
   ·subst h0
    rw [finT_one hk,sizeL_snoc hk,hf];simp [sizeL]
   ·rw [finT_snoc hk h0,la9,lm9,finT_len h k,sizeL_snoc hk,hf]
  ·have:=finT_len h k
   unfold finT at *
   rw [List.take_of_length_le hk] at this
   rw [List.take_of_length_le (by omega)];exact this
theorem entL_snoc:∀ (l:List Au) (s i j:Nat),entL (l++[a]) s i j=entL l s i j+entB (sizeL l) a s i j
 | [], s, i, j => by
  show (if i<a.st then (if j<a.st then entA a.arcs s i j else 0) else (if j<a.st then 0 else 0))=0+(if 0≤i∧0≤j then (if i-0<a.st∧j-0<a.st then entA a.arcs s (i-0) (j-0) else 0) else 0)
  rw [Rat.zero_add,if_pos (show 0≤i∧0≤j from ⟨Nat.zero_le _,Nat.zero_le _⟩),Nat.sub_zero,Nat.sub_zero]
  by_cases h1:i<a.st
  ·by_cases h2:j<a.st
   ·rw [if_pos h1,if_pos h2,if_pos ⟨h1,h2⟩]
   ·rw [if_pos h1,if_neg h2,if_neg (fun e=>h2 e.2)]
  ·rw [if_neg h1,if_neg (show ¬(i<a.st∧j<a.st) from fun e=>h1 e.1)];split <;> rfl
 | b :: r, s, i, j => by
  have hs:sizeL (b::r)=b.st+sizeL r:=by simp [sizeL]
  rw [List.cons_append,entL,entL,hs]
  by_cases h1:i<b.st
  ·have hb:entB (b.st+sizeL r) a s i j=0:=if_neg (by omega)
   rw [if_pos h1,if_pos h1,hb,Rat.add_zero]
  ·by_cases h2:j<b.st
   ·have hb:entB (b.st+sizeL r) a s i j=0:=if_neg (by omega)
    rw [if_neg h1,if_neg h1,if_pos h2,if_pos h2,hb,Rat.add_zero]
   ·rw [if_neg h1,if_neg h1,if_neg h2,if_neg h2,entL_snoc r]
    congr 1
    unfold entB
    rw [show i-b.st-sizeL r=i-(b.st+sizeL r) by omega,show j-b.st-sizeL r=j-(b.st+sizeL r) by omega]
    by_cases h3:sizeL r≤i-b.st∧sizeL r≤j-b.st
    ·rw [if_pos h3,if_pos (show b.st+sizeL r≤i∧b.st+sizeL r≤j by omega)]
    ·rw [if_neg h3,if_neg (show ¬(b.st+sizeL r≤i∧b.st+sizeL r≤j) by omega)]
theorem entL_out:∀ (l:List Au) (s i j:Nat),sizeL l≤i ∨ sizeL l≤j→entL l s i j=0
 | [],_,_,_,_=>rfl
 | b :: r, s, i, j, h => by
  have hs:sizeL (b::r)=b.st+sizeL r:=by simp [sizeL]
  rw [hs] at h
  rw [entL]
  by_cases h1:i<b.st
  ·rw [if_pos h1,if_neg (by omega)]
  ·rw [if_neg h1]
   split
   ·rfl
   ·exact entL_out r s _ _ (by omega)
theorem cO_start:cO l k [] s i j=entL (l.take k) s i j:=by
 unfold cO
 split
 ·rw [entA_nil,Rat.add_zero]
 ·rw [Rat.add_zero]
theorem cO_done (hk:k<l.length)(h:(l.getD k default).Ok):cO l k (tidyA (l.getD k default).arcs) s i j=entL (l.take (k+1)) s i j:=by
 rw [takeA hk,entL_snoc]
 unfold cO entB
 congr 1
 by_cases h1:sizeL (l.take k)≤i∧sizeL (l.take k)≤j
 ·rw [if_pos h1,if_pos h1,entA_tidy]
  by_cases h2:i-sizeL (l.take k)<(l.getD k default).st∧j-sizeL (l.take k)<(l.getD k default).st
  ·rw [if_pos h2]
  ·rw [if_neg h2]
   exact entA_out (n:=(l.getD k default).st) (fun x hx=>⟨(h.arc x hx).1,(h.arc x hx).2.1⟩) (by omega)
 ·rw [if_neg h1,if_neg h1]
theorem entA_new {T:List Arc9}(ha:T.Pairwise fun a b=>ordA a b<0){p:Nat}(hp:p<T.length)(h1:1≤(T.getD p default).l):entA (T.take p) ((T.getD p default).l-1) (T.getD p default).f (T.getD p default).t=0:=by
 refine lsumZ fun y hy=>if_neg fun e=>?_
 have hs:T=T.take p++T.getD p default::T.drop (p+1):=by
  rw [gd9,ge9 hp]
  exact (List.take_append_drop p T).symm.trans (by rw [List.drop_eq_getElem_cons hp];rfl)
 rw [hs] at ha
 have:=(List.pairwise_append.1 ha).2.2 y hy _ mc9
 rw [ordA_lt] at this
 omega
theorem cO_step {T:List Arc9}(ha:T.Pairwise fun a b=>ordA a b<0){p:Nat}(hp:p<T.length)(h1:1≤(T.getD p default).l) :
  cO l k (T.take (p+1)) s i j=if s=(T.getD p default).l-1∧i=sizeL (l.take k)+(T.getD p default).f∧j=sizeL (l.take k)+(T.getD p default).t then (T.getD p default).q else cO l k (T.take p) s i j:=by
 have ht:T.take (p+1)=T.take p++[T.getD p default]:=by
  rw [List.take_succ_eq_append_getElem hp,gd9,ge9 hp];rfl
 have hn:=entA_new ha hp h1
 generalize T.getD p default=x at *
 unfold cO
 rw [ht]
 by_cases hc:s=x.l-1∧i=sizeL (l.take k)+x.f∧j=sizeL (l.take k)+x.t
 ·rw [if_pos hc]
  obtain ⟨rfl,rfl,rfl⟩:=hc
  rw [entL_out _ _ _ _ (.inl (Nat.le_add_right _ _)),if_pos ⟨Nat.le_add_right _ _,Nat.le_add_right _ _⟩,Nat.add_sub_cancel_left,Nat.add_sub_cancel_left,entA_app,hn,entA_cons,entA_nil,show pickA (x.l-1) x.f x.t x=x.q from if_pos ⟨rfl,by omega,rfl⟩,Rat.zero_add,Rat.zero_add,Rat.add_zero]
 ·rw [if_neg hc]
  congr 1
  by_cases h2:sizeL (l.take k)≤i∧sizeL (l.take k)≤j
  ·rw [if_pos h2,if_pos h2,entA_app,entA_cons,entA_nil,Rat.add_zero,show pickA s (i-sizeL (l.take k)) (j-sizeL (l.take k)) x=0 from if_neg (by omega),Rat.add_zero]
  ·rw [if_neg h2,if_neg h2]
end
section
variable {a b:Au}{B k:Nat}{l out:List Arc9}{x:Arc9}
theorem insA_szB (h:∀ y,y ∈ out→sz y.q≤(k+1)*(B+2))(hx:sz x.q≤B):∀ y,y ∈ insA out x→sz y.q≤(k+2)*(B+2):=by
 have up:∀ n,n≤(k+1)*(B+2)→n≤(k+2)*(B+2):=fun n hn=>Nat.le_trans hn (Nat.mul_le_mul_right _ (by omega))
 intro y hy
 have h2:(k+2)*(B+2)=(k+1)*(B+2)+(B+2):=Nat.succ_mul _ _
 unfold insA at hy
 split at hy
 ·rename_i hc
  rcases List.mem_or_eq_of_mem_set hy with hy|rfl
  ·exact up _ (h y hy)
  ·have h1:=h _ (getD_mem hc.1 default)
   have h3:=sz_add (out.getD (atA out x) default).q x.q
   show sz ((out.getD (atA out x) default).q+x.q)≤_
   omega
 ·rcases mp9 hy with hy|hy
  ·exact up _ (h y (List.mem_of_mem_take hy))
  ·rcases List.mem_cons.1 hy with rfl|hy
   ·omega
   ·exact up _ (h y (List.mem_of_mem_drop hy))
theorem foldI_sz:∀ (l out:List Arc9) (k:Nat),(∀ x,x ∈ l→sz x.q≤B)→(∀ y,y ∈ out→sz y.q≤(k+1)*(B+2))→∀ y,y ∈ l.foldl insA out→sz y.q≤(k+l.length+1)*(B+2)
 | [],out,k,_,h=>h
 | x::l,out,k,hz,h=>by
  rw [List.foldl_cons,List.length_cons,show k+(l.length+1)+1=(k+1)+l.length+1 by omega]
  exact foldI_sz l _ (k+1) (fun y hy=>hz y (List.mem_cons_of_mem _ hy)) (insA_szB h (hz x mc9))
theorem insA_len9 (out:List Arc9)(x:Arc9):(insA out x).length≤out.length+1:=by
 unfold insA
 split
 ·rw [List.length_set];omega
 ·rw [la9,List.length_cons,List.length_take,List.length_drop];omega
theorem foldI_len:∀ (l out:List Arc9),(l.foldl insA out).length≤out.length+l.length
 | [],out=>Nat.le_refl _
 | x::l,out=>by
  rw [List.foldl_cons,List.length_cons]
  have:=foldI_len l (insA out x)
  have:=insA_len9 out x
  omega
theorem formA_len (l:List Arc9):(formA l).length≤l.length:=by
 unfold formA nzA
 refine Nat.le_trans (List.length_filter_le ..) ?_
 have:=foldI_len l []
 rw [List.length_nil,Nat.zero_add] at this
 exact this
theorem formA_sz (hz:∀ x,x ∈ l→sz x.q≤B):∀ y,y ∈ formA l→sz y.q≤(l.length+1)*(B+2):=fun y hy=>by
 have:=foldI_sz l [] 0 hz (fun y hy=>by cases hy) y (List.mem_filter.1 hy).1
 rwa [Nat.zero_add] at this
theorem Au.Sz.wide (h:a.Sz 1 10):a.Sz 134217728 20 :=
 ⟨fun q hq=>Nat.le_trans (h.ini q hq) (by decide),fun q hq=>Nat.le_trans (h.fin q hq) (by decide),fun x hx=>Nat.le_trans (h.arc x hx) (by decide),Nat.le_trans h.num (by decide)⟩
theorem Au.Sz.form (h:a.Sz 1 10):(formOf a).Sz 134217728 20:=by
 refine ⟨h.wide.ini,h.wide.fin,fun x hx=>?_,Nat.le_trans (formA_len a.arcs) (Nat.le_trans h.num (by decide))⟩
 have h1:=formA_sz h.arc x hx
 have h2:=Nat.mul_le_mul_right (1+2) (show a.arcs.length+1≤11 by have:=h.num;omega)
 omega
theorem Au.Few.form (h:a.Few):(formOf a).Few:=⟨h.st,h.ini,h.fin,fun s i j=>by rw [show entA (formOf a).arcs s i j=entA a.arcs s i j from entA_form];exact h.ent s i j⟩
end
theorem half_szL:sz (1 / 2)≤1:=by decide +kernel
theorem half_q:((1:Int):Rat) / ((2:Int):Rat)=1 / 2:=by decide +kernel
section
variable {a b:Au}{B N K:Nat}{q:Rat}{s i j:Nat}
theorem moved_len (l:List Arc9)(n:Nat):(moved l n).length=l.length:=lm9 ..
theorem moved_sz {l:List Arc9}(n:Nat)(h:∀ x,x ∈ l→sz x.q≤B):∀ x,x ∈ moved l n→sz x.q≤B:=fun y hy=>by
 obtain ⟨x,hx,rfl⟩:=mm9 hy
 exact h x hx
theorem Au.Sz.union (h:a.Sz B N)(k:b.Sz B K)(hn:N+K≤20)(hB:B≤1000):(unionOf a b).Sz 134217728 20:=by
 have hl:(moved a.arcs 0++moved b.arcs a.st).length≤20:=by
  rw [la9,moved_len,moved_len]
  have:=h.num;have:=k.num;omega
 refine ⟨fun q hq=>?_,fun q hq=>?_,fun x hx=>?_,Nat.le_trans (formA_len _) hl⟩
 ·rcases mp9 hq with hq|hq
  ·have:=h.ini q hq;omega
  ·have:=k.ini q hq;omega
 ·rcases mp9 hq with hq|hq
  ·have:=h.fin q hq;omega
  ·have:=k.fin q hq;omega
 ·have h1:=formA_sz (B:=B) (l:=moved a.arcs 0++moved b.arcs a.st) (fun y hy=>by
   rcases mp9 hy with hy|hy
   ·exact moved_sz 0 h.arc y hy
   ·exact moved_sz a.st k.arc y hy) x hx
  have h2:=Nat.mul_le_mul (show (moved a.arcs 0++moved b.arcs a.st).length+1≤21 by omega) (show B+2≤1002 by omega)
  omega
theorem Au.Sz.scale (h:a.Sz 1 10)(hq:sz q≤1):(scaleOf a q).Sz 40 10:=by
 refine ⟨fun y hy=>?_,fun y hy=>Nat.le_trans (h.fin y hy) (by decide),fun x hx=>?_,Nat.le_trans (formA_len a.arcs) h.num⟩
 ·obtain ⟨x,hx,rfl⟩:=mm9 hy
  have h1:=sz_mul x q
  have h2:=h.ini x hx
  show sz (x*q)≤40
  omega
 ·have h1:=formA_sz h.arc x hx
  have h2:=Nat.mul_le_mul_right (1+2) (show a.arcs.length+1≤11 by have:=h.num;omega)
  omega
theorem Au.Sz.rev (h:a.Sz 1 10):(revOf a).Sz 40 10:=by
 have hl:(a.arcs.map fun x=>(⟨x.t,x.l,x.f,x.q⟩:Arc9)).length=a.arcs.length:=lm9 ..
 refine ⟨fun y hy=>Nat.le_trans (h.fin y hy) (by decide),fun y hy=>Nat.le_trans (h.ini y hy) (by decide),fun x hx=>?_,Nat.le_trans (formA_len _) (by rw [hl];exact h.num)⟩
 have hy9:∀ y,y ∈ (a.arcs.map fun x=>(⟨x.t,x.l,x.f,x.q⟩:Arc9))→sz y.q≤1:=fun y hy=>by
  obtain ⟨x,hx,rfl⟩:=mm9 hy
  exact h.arc x hx
 have h1:sz x.q≤_:=formA_sz hy9 x hx
 have h2:=Nat.mul_le_mul_right (1+2) (show (a.arcs.map fun x=>(⟨x.t,x.l,x.f,x.q⟩:Arc9)).length+1≤11 by rw [hl];have:=h.num;omega)
 omega
theorem Au.Sz.up {B2 N2:Nat}(h:a.Sz B N)(hb:B≤B2)(hn:N≤N2):a.Sz B2 N2 :=
 ⟨fun q hq=>Nat.le_trans (h.ini q hq) hb,fun q hq=>Nat.le_trans (h.fin q hq) hb,fun x hx=>Nat.le_trans (h.arc x hx) hb,Nat.le_trans h.num hn⟩
theorem Au.Few.union (h:a.Few)(k:b.Few)(ha:a.Ok)(hn:a.st+b.st≤6):(unionOf a b).Few:=by
 refine ⟨hn,fun q hq=>?_,fun q hq=>?_,fun s i j=>?_⟩
 ·rcases mp9 hq with hq|hq
  ·exact h.ini q hq
  ·exact k.ini q hq
 ·rcases mp9 hq with hq|hq
  ·exact h.fin q hq
  ·exact k.fin q hq
 ·show sz (entA (formA _) s i j)≤24
  rw [entA_form,entA_app,entA_moved,entA_moved,if_pos ⟨Nat.zero_le _,Nat.zero_le _⟩,Nat.sub_zero,Nat.sub_zero]
  by_cases hc:a.st≤i∧a.st≤j
  ·rw [if_pos hc,entA_out (l:=a.arcs) (n:=a.st) (fun x hx=>⟨(ha.arc x hx).1,(ha.arc x hx).2.1⟩) (.inl hc.1),Rat.zero_add]
   exact k.ent ..
  ·rw [if_neg hc,Rat.add_zero]
   exact h.ent ..
theorem Au.Few.scale (h:a.Few)(hi:Small 20 a.ini)(hq:sz q≤1):(scaleOf a q).Few:=by
 refine ⟨h.st,fun y hy=>?_,h.fin,fun s i j=>?_⟩
 ·obtain ⟨x,hx,rfl⟩:=mm9 hy
  have h1:=sz_mul x q
  have h2:=hi x hx
  show sz (x*q)≤24
  omega
 ·show sz (entA (formA _) s i j)≤24
  rw [entA_form];exact h.ent ..
theorem entA_swap {l:List Arc9}:entA (l.map fun x=>(⟨x.t,x.l,x.f,x.q⟩:Arc9)) s i j=entA l s j i:=by
 unfold entA
 rw [lsum_map]
 refine lsum_congr fun x _=>?_
 show (if x.t=i∧x.l=s+1∧x.f=j then x.q else 0)=if x.f=j∧x.l=s+1∧x.t=i then x.q else 0
 by_cases hc:x.f=j∧x.l=s+1∧x.t=i
 ·rw [if_pos hc,if_pos ⟨hc.2.2,hc.2.1,hc.1⟩]
 ·rw [if_neg hc,if_neg fun hd=>hc ⟨hd.2.2,hd.2.1,hd.1⟩]
theorem Au.Few.rev (h:a.Few):(revOf a).Few:=⟨h.st,h.fin,h.ini,fun s i j=>by
 show sz (entA (formA _) s i j)≤24
 rw [entA_form,entA_swap];exact h.ent ..⟩
end
section
variable {a b:Au}{n s i j k:Nat}{v w out:List Rat}{l:List Arc9}{x:Arc9}
theorem take_snoc9 {α:Type}(d:α){l:List α}{i:Nat}(h:i<l.length):l.take (i+1)=l.take i++[l.getD i d]:=by
 rw [List.take_succ_eq_append_getElem h,gd9,ge9 h];rfl
def addF (v:List Rat)(s:Nat)(out:List Rat)(x:Arc9):List Rat:=if x.l=s then out.set x.t (out.getD x.t 0+v.getD x.f 0*x.q) else out
def stepF (n:Nat)(v:List Rat)(s:Nat)(l:List Arc9):List Rat:=l.foldl (addF v s) (List.replicate n 0)
theorem addF_len:(addF v s out x).length=out.length:=by unfold addF;split <;> simp
theorem stepF_len:(stepF n v s l).length=n:=by
 have:∀ (l:List Arc9) (out:List Rat),(l.foldl (addF v s) out).length=out.length:=fun l=>by
  induction l with
  | nil=>exact fun _=>rfl
  | cons x l ih=>exact fun out=>by rw [List.foldl_cons,ih,addF_len]
 unfold stepF
 rw [this,List.length_replicate]
theorem stepF_snoc (h:i<l.length):stepF n v s (l.take (i+1))=addF v s (stepF n v s (l.take i)) (l.getD i default):=by
 unfold stepF
 rw [take_snoc9 default h,List.foldl_append];rfl
theorem getD_set9 {l:List Rat}{y:Rat}(hi:i<l.length):(l.set i y).getD j 0=if i=j then y else l.getD j 0:=by
 rw [gd9,List.getElem?_set,gd9]
 by_cases h:i=j
 ·subst h;rw [if_pos rfl,if_pos hi,if_pos rfl];rfl
 ·rw [if_neg h,if_neg h]
def inF (v:List Rat)(s j:Nat)(x:Arc9):Rat:=if x.l=s∧x.t=j then v.getD x.f 0*x.q else 0
theorem foldF_get:∀ (l:List Arc9) (out:List Rat),(∀ x,x ∈ l→x.t<out.length)→(l.foldl (addF v s) out).getD j 0=out.getD j 0+lsum (inF v s j) l
 | [],out,_=>by rw [List.foldl_nil,lsum,Rat.add_zero]
 | x :: l, out, h => by
  have hx:=h x mc9
  rw [List.foldl_cons,foldF_get l _ (fun y hy=>by rw [addF_len];exact h y (List.mem_cons_of_mem _ hy)),lsum,← Rat.add_assoc]
  congr 1
  unfold addF inF
  by_cases hl:x.l=s
  ·rw [if_pos hl,getD_set9 hx]
   by_cases ht:x.t=j
   ·rw [if_pos ht,if_pos ⟨hl,ht⟩,ht]
   ·rw [if_neg ht,if_neg (fun e=>ht e.2),Rat.add_zero]
  ·rw [if_neg hl,if_neg (fun e=>hl e.1),Rat.add_zero]
theorem rep_get:(List.replicate n (0:Rat)).getD j 0=0:=by
 rw [gd9,List.getElem?_replicate]
 split <;> rfl
theorem stepF_get (h:∀ x,x ∈ l→x.t<n):(stepF n v s l).getD j 0=lsum (inF v s j) l:=by
 unfold stepF
 rw [foldF_get l _ (fun x hx=>by rw [List.length_replicate];exact h x hx),rep_get,Rat.zero_add]
theorem sum_ent (l:List Arc9)(hf:∀ x,x ∈ l→x.f<n):sumN (fun i=>v.getD i 0*entA l k i j) n=lsum (inF v (k+1) j) l:=by
 induction l with
 | nil=>rw [lsum];exact sumN_zero fun i _=>by rw [entA_nil,Rat.mul_zero]
 | cons x l ih =>
  rw [lsum,← ih fun y hy=>hf y (List.mem_cons_of_mem _ hy)]
  have e:(fun i=>v.getD i 0*entA (x::l) k i j)=fun i=>v.getD i 0*pickA k i j x+v.getD i 0*entA l k i j:=by
   funext i
   rw [entA_cons,Rat.mul_add]
  rw [e,sumN_add]
  congr 1
  unfold inF
  by_cases hc:x.l=k+1∧x.t=j
  ·rw [if_pos hc]
   have e2:(fun i=>v.getD i 0*pickA k i j x)=fun i=>if x.f=i then v.getD i 0*x.q else 0:=by
    funext i
    unfold pickA
    by_cases hi:x.f=i
    ·rw [if_pos ⟨hi,hc.1,hc.2⟩,if_pos hi]
    ·rw [if_neg (fun e=>hi e.1),if_neg hi,Rat.mul_zero]
   rw [e2,sumN_pick (v:=fun i=>v.getD i 0*x.q) (hf x mc9)]
  ·rw [if_neg hc]
   exact sumN_zero fun i _=>by
    unfold pickA
    rw [if_neg (fun e=>hc ⟨e.2.1,e.2.2⟩),Rat.mul_zero]
theorem stepF_step (ha:a.Ok)(s1:1≤s)(s2:s≤a.sym):stepF a.st v s a.arcs=stepM (machL [a]) v (s-1):=by
 have hn:(machL [a]).n=a.st:=size_one
 refine List.ext_getElem (by rw [stepF_len,stepM_len,hn]) fun j h1 h2=>?_
 rw [stepF_len] at h1
 have e1:(stepF a.st v s a.arcs)[j]=(stepF a.st v s a.arcs).getD j 0:=by rw [gd9,ge9];rfl
 have e2:(stepM (machL [a]) v (s-1))[j]=(stepM (machL [a]) v (s-1)).getD j 0:=by rw [gd9,ge9];rfl
 rw [e1,e2,stepF_get fun x hx=>(ha.arc x hx).2.1]
 unfold stepM
 rw [hn,map_getD_range _ _ h1]
 have e3:s-1+1=s:=by omega
 rw [show lsum (inF v s j) a.arcs=lsum (inF v (s-1+1) j) a.arcs by rw [e3],← sum_ent (n:=a.st) a.arcs fun x hx=>(ha.arc x hx).1]
 refine sumN_congr fun i hi=>?_
 rw [machL_ent (l:=[a]) (by show s-1<a.sym;omega) (by rw [size_one];exact hi) (by rw [size_one];exact h1)]
 show _=_*(if i<a.st then (if j<a.st then entA a.arcs (s-1) i j else 0) else _)
 rw [if_pos hi,if_pos h1]
def fwA (a:Au)(u:List Int):List Rat:=u.foldl (fun v x=>stepF a.st v x.toNat a.arcs) a.ini
theorem fwA_snoc {u:List Int}(h:i<u.length):fwA a (u.take (i+1))=stepF a.st (fwA a (u.take i)) (u.getD i 0).toNat a.arcs:=by
 unfold fwA
 rw [take_snoc9 0 h,List.foldl_append];rfl
theorem fwA_len (ha:a.Ok)(u:List Int):(fwA a u).length=a.st:=by
 have:∀ (u:List Int) (v:List Rat),v.length=a.st→(u.foldl (fun v x=>stepF a.st v x.toNat a.arcs) v).length=a.st:=fun u=>by
  induction u with
  | nil=>exact fun _ h=>h
  | cons x u ih=>exact fun v _=>ih _ stepF_len
 exact this u a.ini ha.ini
theorem fwA_vec (ha:a.Ok){u:List Int}(hu:InW a.sym u):fwA a u=vecM (machL [a]) u:=by
 have:∀ (u:List Int) (v:List Rat),InW a.sym u→u.foldl (fun v x=>stepF a.st v x.toNat a.arcs) v=u.foldl (fun v x=>stepM (machL [a]) v (x.toNat-1)) v:=fun u=>by
  induction u with
  | nil=>exact fun _ _=>rfl
  | cons x u ih =>
   intro v hx
   have h1:=hx x mc9
   rw [List.foldl_cons,List.foldl_cons,stepF_step ha (by omega) (by omega)]
   exact ih _ fun y hy=>hx y (List.mem_cons_of_mem _ hy)
 unfold fwA vecM
 rw [this u a.ini hu,show (machL [a]).ini=a.ini from List.append_nil _]
def dotF (v w:List Rat)(i:Nat):Rat:=sumN (fun i=>v.getD i 0*w.getD i 0) i
theorem dotF_ser (ha:a.Ok){u:List Int}(hu:InW a.sym u):dotF (fwA a u) a.fin a.st=serA a u:=by
 rw [fwA_vec ha hu]
 unfold dotF serA wtM dotM
 rw [show (machL [a]).n=a.st from size_one,show (machL [a]).fin=a.fin from List.append_nil _]
theorem stepF_sz {B:Nat}(hv:∀ i,sz (v.getD i 0)≤B)(hl:∀ x,x ∈ l→x.t<n∧sz x.q≤1)(h10:l.length≤10):sz ((stepF n v s l).getD j 0)≤10*(B+2)+1:=by
 rw [stepF_get fun x hx=>(hl x hx).1]
 have h1:=lsum_szA (f:=inF v s j) (C:=B+1) (l:=l) fun x hx=>by
  unfold inF
  split
  ·have:=sz_mul (v.getD x.f 0) x.q
   have:=hv x.f
   have:=(hl x hx).2
   omega
  ·rw [sz_zero];omega
 have h2:=Nat.mul_le_mul_right (B+1+1) h10
 omega
theorem small_get {B:Nat}{v:List Rat}(h:Small B v)(h1:1≤B)(i:Nat):sz (v.getD i 0)≤B:=by
 rw [gd9]
 cases hg:v[i]? with
 | none=>show sz 0≤B;rw [sz_zero];exact h1
 | some q=>exact h q (List.mem_of_getElem? hg)
end
end Go.AL

/-
  M, chapter 23: what the specification's search finds (layer 23 of the specification): the same words, the same first word.
-/
import Derived.Test.YtanlenlmihoiiaaGreatDoorKMod87
set_option linter.unusedVariables false
set_option linter.unusedSimpArgs false
namespace Go.AL
open Go Go.BigFrame
def Eu (l:List Au)(k:Nat):List Rat:=(l.take k).flatMap (·.ini)
def Af (l:List Au)(k:Nat):List Rat:=Qc (l.take k)
def aB3 (o:Nat)(a:Au)(s i j:Nat):Rat:=if o<=i/\o<=j then (if i-o<a.st/\j-o<a.st then iH a.aB s (i-o) (j-o) else 0) else 0
def cO (l:List Au)(k:Nat)(U:List bM)(s i j:Nat):Rat:=mW (l.take k) s i j+(if aK (l.take k)<=i/\aK (l.take k)<=j then iH U s (i-aK (l.take k)) (j-aK (l.take k)) else 0)
section
variable {a b x:Au}{l r:List Au}{s i j k o:Nat}
theorem takeA (hk:k<l.length):l.take (k+1)=l.take k++[l.getD k default]:=by
 rw[List.take_succ_eq_append_getElem hk,iO,lF hk];rfl
theorem Ru:aK (l++r)=aK l+aK r:=by simp[aK]
theorem uZ (hk:k<l.length):aK (l.take (k+1))=aK (l.take k)+(l.getD k default).st:=by rw[takeA hk,Ru];simp[aK]
theorem KL (hk:k<l.length):Eu l (k+1)=Eu l k++(l.getD k default).ini:=by unfold Eu;rw[takeA hk,List.flatMap_append];simp
theorem aB4:∀ (l:List Au),l≠[]->Qc (l++[a])=Qc l++a.fin.map λx=>-x
 | [],h=>absurd rfl h
 | b::r,_=>by
  show b.fin++(r++[a]).flatMap (λb=>b.fin.map λx=>-x)=(b.fin++r.flatMap λb=>b.fin.map λx=>-x)++_
  rw[List.flatMap_append,List.append_assoc];simp
theorem Rw (hk:k<l.length)(hp:0<k):Af l (k+1)=Af l k++(l.getD k default).fin.map λx=>-x:=by
 unfold Af;rw[takeA hk,aB4 _ (λh=>by have:=congrArg List.length h;rw[List.length_take,List.length_nil] at this;omega)]
theorem Wn (hk:0<l.length):Af l 1=(l.getD 0 default).fin:=by
 unfold Af;rw[takeA hk];simp[Qc]
theorem CW (h:∀ a,a ∈ l->a.Ok):∀ k,(Eu l k).length=aK (l.take k)
 | 0=>by simp[Eu,aK]
 | k + 1 => by
  rcases Nat.lt_or_ge k l.length with hk|hk
  .rw[KL hk,jd,CW h k,uZ hk,(h _ (getD_mem hk default)).ini]
  .have:=CW h k;unfold Eu at *;rw[List.take_of_length_le hk] at this;rw[List.take_of_length_le (by omega)];exact this
theorem CX (h:∀ a,a ∈ l->a.Ok):∀ k,(Af l k).length=aK (l.take k)
 | 0=>by simp[Af,Qc,aK]
 | k + 1 => by
  rcases Nat.lt_or_ge k l.length with hk|hk
  .have hf:=(h _ (getD_mem hk default)).fin;rcases Nat.eq_zero_or_pos k with h0|h0
   .subst h0;rw[Wn hk,uZ hk,hf];simp[aK]
   .rw[Rw hk h0,jd,dL,CX h k,uZ hk,hf]
  .have:=CX h k;unfold Af at *;rw[List.take_of_length_le hk] at this;rw[List.take_of_length_le (by omega)];exact this
theorem Rx:∀ (l:List Au) (s i j:Nat),mW (l++[a]) s i j=mW l s i j+aB3 (aK l) a s i j
 | [], s, i, j => by
  show (if i<a.st then (if j<a.st then iH a.aB s i j else 0) else (if j<a.st then 0 else 0))=0+(if 0<=i/\0<=j then (if i-0<a.st/\j-0<a.st then iH a.aB s (i-0) (j-0) else 0) else 0)
  rw[Rat.zero_add,if_pos (show 0<=i/\0<=j from ⟨Nat.zero_le _,Nat.zero_le _⟩),Nat.sub_zero,Nat.sub_zero]
  by_cases h1:i<a.st
  .by_cases h2:j<a.st
   .rw[if_pos h1,if_pos h2,if_pos ⟨h1,h2⟩]
   .rw[if_pos h1,if_neg h2,if_neg (λe=>h2 e.2)]
  .rw[if_neg h1,if_neg (show ¬(i<a.st/\j<a.st) from λe=>h1 e.1)];split <;> rfl
 | b :: r, s, i, j => by
  have hs:aK (b::r)=b.st+aK r:=by simp[aK]
  rw[List.cons_append,mW,mW,hs];by_cases h1:i<b.st
  .have hb:aB3 (b.st+aK r) a s i j=0:=if_neg (by omega)
   rw[if_pos h1,if_pos h1,hb,Rat.add_zero]
  .by_cases h2:j<b.st
   .have hb:aB3 (b.st+aK r) a s i j=0:=if_neg (by omega)
    rw[if_neg h1,if_neg h1,if_pos h2,if_pos h2,hb,Rat.add_zero]
   .rw[if_neg h1,if_neg h1,if_neg h2,if_neg h2,Rx r];congr 1;unfold aB3;rw[show i-b.st-aK r=i-(b.st+aK r) by omega,show j-b.st-aK r=j-(b.st+aK r) by omega]
    by_cases h3:aK r<=i-b.st/\aK r<=j-b.st
    .rw[if_pos h3,if_pos (show b.st+aK r<=i/\b.st+aK r<=j by omega)]
    .rw[if_neg h3,if_neg (show ¬(b.st+aK r<=i/\b.st+aK r<=j) by omega)]
theorem Wp:∀ (l:List Au) (s i j:Nat),aK l<=i \/ aK l<=j->mW l s i j=0
 | [],_,_,_,_=>rfl
 | b :: r, s, i, j, h => by
  have hs:aK (b::r)=b.st+aK r:=by simp[aK]
  rw[hs] at h;rw[mW];by_cases h1:i<b.st
  .rw[if_pos h1,if_neg (by omega)]
  .rw[if_neg h1]
   split
   .rfl
   .exact Wp r s _ _ (by omega)
theorem O8:cO l k [] s i j=mW (l.take k) s i j:=by
 unfold cO
 split
 .rw[uz,Rat.add_zero]
 .rw[Rat.add_zero]
theorem aS0 (hk:k<l.length)(h:(l.getD k default).Ok):cO l k (dF (l.getD k default).aB) s i j=mW (l.take (k+1)) s i j:=by
 rw[takeA hk,Rx];unfold cO aB3;congr 1;by_cases h1:aK (l.take k)<=i/\aK (l.take k)<=j
 .rw[if_pos h1,if_pos h1,vK];by_cases h2:i-aK (l.take k)<(l.getD k default).st/\j-aK (l.take k)<(l.getD k default).st
  .rw[if_pos h2]
  .rw[if_neg h2];exact OQ (n:=(l.getD k default).st) (λx hx=>⟨(h.arc x hx).1,(h.arc x hx).2.1⟩) (by omega)
 .rw[if_neg h1,if_neg h1]
theorem aB5 {T:List bM}(ha:T.Pairwise λa b=>oH a b<0){p:Nat}(hp:p<T.length)(h1:1<=(T.getD p default).l):iH (T.take p) ((T.getD p default).l-1) (T.getD p default).f (T.getD p default).t=0:=by
 refine LW λy hy=>if_neg λe=>?_;have hs:T=T.take p++T.getD p default::T.drop (p+1):=by
  rw[iO,lF hp];exact (List.take_append_drop p T).symm.trans (by rw[List.drop_eq_getElem_cons hp];rfl)
 rw[hs] at ha;have:=(List.pairwise_append.1 ha).2.2 y hy _ rY;rw[Es] at this;omega
theorem aS1 {T:List bM}(ha:T.Pairwise λa b=>oH a b<0){p:Nat}(hp:p<T.length)(h1:1<=(T.getD p default).l) :
  cO l k (T.take (p+1)) s i j=if s=(T.getD p default).l-1/\i=aK (l.take k)+(T.getD p default).f/\j=aK (l.take k)+(T.getD p default).t then (T.getD p default).q else cO l k (T.take p) s i j:=by
 have ht:T.take (p+1)=T.take p++[T.getD p default]:=by
  rw[List.take_succ_eq_append_getElem hp,iO,lF hp];rfl
 have hn:=aB5 ha hp h1;generalize T.getD p default=x at *;unfold cO;rw[ht];by_cases hc:s=x.l-1/\i=aK (l.take k)+x.f/\j=aK (l.take k)+x.t
 .rw[if_pos hc];obtain⟨rfl,rfl,rfl⟩:=hc;rw[Wp _ _ _ _ (.inl (Nat.le_add_right _ _)),if_pos ⟨Nat.le_add_right _ _,Nat.le_add_right _ _⟩,Nat.add_sub_cancel_left,Nat.add_sub_cancel_left,qH,hn,pO,uz,show wM (x.l-1) x.f x.t x=x.q from if_pos ⟨rfl,by omega,rfl⟩,Rat.zero_add,Rat.zero_add,Rat.add_zero]
 .rw[if_neg hc];congr 1;by_cases h2:aK (l.take k)<=i/\aK (l.take k)<=j
  .rw[if_pos h2,if_pos h2,qH,pO,uz,Rat.add_zero,show wM s (i-aK (l.take k)) (j-aK (l.take k)) x=0 from if_neg (by omega),Rat.add_zero]
  .rw[if_neg h2,if_neg h2]
end
section
variable {a b:Au}{B k:Nat}{l out:List bM}{x:bM}
theorem aB6 (h:∀ y,y ∈ out->sz y.q<=(k+1)*(B+2))(hx:sz x.q<=B):∀ y,y ∈ Ap out x->sz y.q<=(k+2)*(B+2):=by
 have up:∀ n,n<=(k+1)*(B+2)->n<=(k+2)*(B+2):=λn hn=>Nat.le_trans hn (Nat.mul_le_mul_right _ (by omega))
 intro y hy;have h2:(k+2)*(B+2)=(k+1)*(B+2)+(B+2):=Nat.succ_mul _ _;unfold Ap at hy
 split at hy
 .rename_i hc;rcases List.mem_or_eq_of_mem_set hy with hy|rfl
  .exact up _ (h y hy)
  .have h1:=h _ (getD_mem hc.1 default);have h3:=zQ (out.getD (uO out x) default).q x.q;show sz ((out.getD (uO out x) default).q+x.q)<=_
   omega
 .rcases ru hy with hy|hy
  .exact up _ (h y (List.mem_of_mem_take hy))
  .rcases List.mem_cons.1 hy with rfl|hy
   .omega
   .exact up _ (h y (List.mem_of_mem_drop hy))
theorem Wq:∀ (l out:List bM) (k:Nat),(∀ x,x ∈ l->sz x.q<=B)->(∀ y,y ∈ out->sz y.q<=(k+1)*(B+2))->∀ y,y ∈ l.foldl Ap out->sz y.q<=(k+l.length+1)*(B+2)
 | [],out,k,_,h=>h
 | x::l,out,k,hz,h=>by
  rw[List.foldl_cons,List.length_cons,show k+(l.length+1)+1=(k+1)+l.length+1 by omega]
  exact Wq l _ (k+1) (λy hy=>hz y (List.mem_cons_of_mem _ hy)) (aB6 h (hz x rY))
theorem aj8 (out:List bM)(x:bM):(Ap out x).length<=out.length+1:=by
 unfold Ap
 split
 .rw[List.length_set];omega
 .rw[jd,List.length_cons,List.length_take,List.length_drop];omega
theorem Ry:∀ (l out:List bM),(l.foldl Ap out).length<=out.length+l.length
 | [],out=>Nat.le_refl _
 | x::l,out=>by
  rw[List.foldl_cons,List.length_cons];have:=Ry l (Ap out x);have:=aj8 out x;omega
theorem jJ (l:List bM):(bU l).length<=l.length:=by
 unfold bU UF;refine Nat.le_trans (List.length_filter_le ..) ?_;have:=Ry l [];rw[List.length_nil,Nat.zero_add] at this;exact this
theorem uF (hz:∀ x,x ∈ l->sz x.q<=B):∀ y,y ∈ bU l->sz y.q<=(l.length+1)*(B+2):=λy hy=>by
 have:=Wq l [] 0 hz (λy hy=>by cases hy) y (List.mem_filter.1 hy).1
 rwa [Nat.zero_add] at this
theorem Au.Sz.wide (h:a.Sz 1 10):a.Sz 134217728 20 :=
 ⟨λq hq=>Nat.le_trans (h.ini q hq) (by decide),λq hq=>Nat.le_trans (h.fin q hq) (by decide),λx hx=>Nat.le_trans (h.arc x hx) (by decide),Nat.le_trans h.num (by decide)⟩
theorem Au.Sz.form (h:a.Sz 1 10):(qR a).Sz 134217728 20:=by
 refine⟨h.wide.ini,h.wide.fin,λx hx=>?_,Nat.le_trans (jJ a.aB) (Nat.le_trans h.num (by decide))⟩
 have h1:=uF h.arc x hx;have h2:=Nat.mul_le_mul_right (1+2) (show a.aB.length+1<=11 by have:=h.num;omega)
 omega
theorem Au.QR.form (h:a.QR):(qR a).QR:=⟨h.st,h.ini,h.fin,λs i j=>by rw[show iH (qR a).aB s i j=iH a.aB s i j from qQ];exact h.ent s i j⟩
end
section
variable {a b:Au}{B N K:Nat}{q:Rat}{s i j:Nat}
theorem CY (l:List bM)(n:Nat):(moved l n).length=l.length:=dL ..
theorem Ws {l:List bM}(n:Nat)(h:∀ x,x ∈ l->sz x.q<=B):∀ x,x ∈ moved l n->sz x.q<=B:=λy hy=>by
 obtain⟨x,hx,rfl⟩:=jH hy;exact h x hx
theorem Au.Sz.union (h:a.Sz B N)(k:b.Sz B K)(hn:N+K<=20)(hB:B<=1000):(kV a b).Sz 134217728 20:=by
 have hl:(moved a.aB 0++moved b.aB a.st).length<=20:=by
  rw[jd,CY,CY];have:=h.num;have:=k.num;omega
 refine⟨λq hq=>?_,λq hq=>?_,λx hx=>?_,Nat.le_trans (jJ _) hl⟩
 .rcases ru hq with hq|hq
  .have:=h.ini q hq;omega
  .have:=k.ini q hq;omega
 .rcases ru hq with hq|hq
  .have:=h.fin q hq;omega
  .have:=k.fin q hq;omega
 .have h1:=uF (B:=B) (l:=moved a.aB 0++moved b.aB a.st) (λy hy=>by
   rcases ru hy with hy|hy
   .exact Ws 0 h.arc y hy
   .exact Ws a.st k.arc y hy) x hx
  have h2:=Nat.mul_le_mul (show (moved a.aB 0++moved b.aB a.st).length+1<=21 by omega) (show B+2<=1002 by omega)
  omega
theorem Au.Sz.scale (h:a.Sz 1 10)(hq:sz q<=1):(oq a q).Sz 40 10:=by
 refine⟨λy hy=>?_,λy hy=>Nat.le_trans (h.fin y hy) (by decide),λx hx=>?_,Nat.le_trans (jJ a.aB) h.num⟩
 .obtain⟨x,hx,rfl⟩:=jH hy;have h1:=jS x q;have h2:=h.ini x hx;show sz (x*q)<=40
  omega
 .have h1:=uF h.arc x hx;have h2:=Nat.mul_le_mul_right (1+2) (show a.aB.length+1<=11 by have:=h.num;omega)
  omega
theorem Au.Sz.rev (h:a.Sz 1 10):(wS a).Sz 40 10:=by
 have hl:(a.aB.map λx=>(⟨x.t,x.l,x.f,x.q⟩:bM)).length=a.aB.length:=dL ..;refine⟨λy hy=>Nat.le_trans (h.fin y hy) (by decide),λy hy=>Nat.le_trans (h.ini y hy) (by decide),λx hx=>?_,Nat.le_trans (jJ _) (by rw[hl];exact h.num)⟩
 have hy9:∀ y,y ∈ (a.aB.map λx=>(⟨x.t,x.l,x.f,x.q⟩:bM))->sz y.q<=1:=λy hy=>by
  obtain⟨x,hx,rfl⟩:=jH hy;exact h.arc x hx
 have h1:sz x.q<=_:=uF hy9 x hx;have h2:=Nat.mul_le_mul_right (1+2) (show (a.aB.map λx=>(⟨x.t,x.l,x.f,x.q⟩:bM)).length+1<=11 by rw[hl];have:=h.num;omega)
 omega
theorem Au.Sz.up {B2 N2:Nat}(h:a.Sz B N)(hb:B<=B2)(hn:N<=N2):a.Sz B2 N2 :=
 ⟨λq hq=>Nat.le_trans (h.ini q hq) hb,λq hq=>Nat.le_trans (h.fin q hq) hb,λx hx=>Nat.le_trans (h.arc x hx) hb,Nat.le_trans h.num hn⟩
theorem Au.QR.union (h:a.QR)(k:b.QR)(ha:a.Ok)(hn:a.st+b.st<=6):(kV a b).QR:=by
 refine⟨hn,λq hq=>?_,λq hq=>?_,λs i j=>?_⟩
 .rcases ru hq with hq|hq
  .exact h.ini q hq
  .exact k.ini q hq
 .rcases ru hq with hq|hq
  .exact h.fin q hq
  .exact k.fin q hq
 .show sz (iH (bU _) s i j)<=24
  rw[qQ,qH,uX,uX,if_pos ⟨Nat.zero_le _,Nat.zero_le _⟩,Nat.sub_zero,Nat.sub_zero];by_cases hc:a.st<=i/\a.st<=j
  .rw[if_pos hc,OQ (l:=a.aB) (n:=a.st) (λx hx=>⟨(ha.arc x hx).1,(ha.arc x hx).2.1⟩) (.inl hc.1),Rat.zero_add];exact k.ent ..
  .rw[if_neg hc,Rat.add_zero];exact h.ent ..
theorem Au.QR.scale (h:a.QR)(hi:Small 20 a.ini)(hq:sz q<=1):(oq a q).QR:=by
 refine⟨h.st,λy hy=>?_,h.fin,λs i j=>?_⟩
 .obtain⟨x,hx,rfl⟩:=jH hy;have h1:=jS x q;have h2:=hi x hx;show sz (x*q)<=24
  omega
 .show sz (iH (bU _) s i j)<=24
  rw[qQ];exact h.ent ..
theorem Rz {l:List bM}:iH (l.map λx=>(⟨x.t,x.l,x.f,x.q⟩:bM)) s i j=iH l s j i:=by
 unfold iH;rw[Ox];refine Ih λx _=>?_;show (if x.t=i/\x.l=s+1/\x.f=j then x.q else 0)=if x.f=j/\x.l=s+1/\x.t=i then x.q else 0
 by_cases hc:x.f=j/\x.l=s+1/\x.t=i
 .rw[if_pos hc,if_pos ⟨hc.2.2,hc.2.1,hc.1⟩]
 .rw[if_neg hc,if_neg λhd=>hc ⟨hd.2.2,hd.2.1,hd.1⟩]
theorem Au.QR.rev (h:a.QR):(wS a).QR:=⟨h.st,h.fin,h.ini,λs i j=>by
 show sz (iH (bU _) s i j)<=24
 rw[qQ,Rz];exact h.ent ..⟩
end
section
variable {a b:Au}{n s i j k:Nat}{v w out:List Rat}{l:List bM}{x:bM}
theorem iV {α:Type}(d:α){l:List α}{i:Nat}(h:i<l.length):l.take (i+1)=l.take i++[l.getD i d]:=by
 rw[List.take_succ_eq_append_getElem h,iO,lF h];rfl
def Ue (v:List Rat)(s:Nat)(out:List Rat)(x:bM):List Rat:=if x.l=s then out.set x.t (out.getD x.t 0+v.getD x.f 0*x.q) else out
def kL (n:Nat)(v:List Rat)(s:Nat)(l:List bM):List Rat:=l.foldl (Ue v s) (List.replicate n 0)
theorem Wu:(Ue v s out x).length=out.length:=by unfold Ue;split <;> simp
theorem xB:(kL n v s l).length=n:=by
 have:∀ (l:List bM) (out:List Rat),(l.foldl (Ue v s) out).length=out.length:=λl=>by
  induction l with
  | nil=>exact λ_=>rfl
  | cons x l ih=>exact λout=>by rw[List.foldl_cons,ih,Wu]
 unfold kL;rw[this,List.length_replicate]
theorem Ew (h:i<l.length):kL n v s (l.take (i+1))=Ue v s (kL n v s (l.take i)) (l.getD i default):=by
 unfold kL;rw[iV default h,List.foldl_append];rfl
theorem aj9 {l:List Rat}{y:Rat}(hi:i<l.length):(l.set i y).getD j 0=if i=j then y else l.getD j 0:=by
 rw[iO,List.getElem?_set,iO];by_cases h:i=j
 .subst h;rw[if_pos rfl,if_pos hi,if_pos rfl];rfl
 .rw[if_neg h,if_neg h]
def inF (v:List Rat)(s j:Nat)(x:bM):Rat:=if x.l=s/\x.t=j then v.getD x.f 0*x.q else 0
theorem RD:∀ (l:List bM) (out:List Rat),(∀ x,x ∈ l->x.t<out.length)->(l.foldl (Ue v s) out).getD j 0=out.getD j 0+mF (inF v s j) l
 | [],out,_=>by rw[List.foldl_nil,mF,Rat.add_zero]
 | x :: l, out, h => by
  have hx:=h x rY;rw[List.foldl_cons,RD l _ (λy hy=>by rw[Wu];exact h y (List.mem_cons_of_mem _ hy)),mF,<- Rat.add_assoc]
  congr 1;unfold Ue inF;by_cases hl:x.l=s
  .rw[if_pos hl,aj9 hx];by_cases ht:x.t=j
   .rw[if_pos ht,if_pos ⟨hl,ht⟩,ht]
   .rw[if_neg ht,if_neg (λe=>ht e.2),Rat.add_zero]
  .rw[if_neg hl,if_neg (λe=>hl e.1),Rat.add_zero]
theorem aS2:(List.replicate n (0:Rat)).getD j 0=0:=by
 rw[iO,List.getElem?_replicate]
 split <;> rfl
theorem KN (h:∀ x,x ∈ l->x.t<n):(kL n v s l).getD j 0=mF (inF v s j) l:=by
 unfold kL;rw[RD l _ (λx hx=>by rw[List.length_replicate];exact h x hx),aS2,Rat.zero_add]
theorem aS3 (l:List bM)(hf:∀ x,x ∈ l->x.f<n):aW (λi=>v.getD i 0*iH l k i j) n=mF (inF v (k+1) j) l:=by
 induction l with
 | nil=>rw[mF];exact jk λi _=>by rw[uz,Rat.mul_zero]
 | cons x l ih =>
  rw[mF,<- ih λy hy=>hf y (List.mem_cons_of_mem _ hy)];have e:(λi=>v.getD i 0*iH (x::l) k i j)=λi=>v.getD i 0*wM k i j x+v.getD i 0*iH l k i j:=by
   funext i;rw[pO,Rat.mul_add]
  rw[e,pF];congr 1;unfold inF;by_cases hc:x.l=k+1/\x.t=j
  .rw[if_pos hc];have e2:(λi=>v.getD i 0*wM k i j x)=λi=>if x.f=i then v.getD i 0*x.q else 0:=by
    funext i;unfold wM;by_cases hi:x.f=i
    .rw[if_pos ⟨hi,hc.1,hc.2⟩,if_pos hi]
    .rw[if_neg (λe=>hi e.1),if_neg hi,Rat.mul_zero]
   rw[e2,xh (v:=λi=>v.getD i 0*x.q) (hf x rY)]
  .rw[if_neg hc];exact jk λi _=>by
    unfold wM;rw[if_neg (λe=>hc ⟨e.2.1,e.2.2⟩),Rat.mul_zero]
theorem Yu (ha:a.Ok)(s1:1<=s)(s2:s<=a.sym):kL a.st v s a.aB=stepM (ah [a]) v (s-1):=by
 have hn:(ah [a]).n=a.st:=dN;refine List.ext_getElem (by rw[xB,CJ,hn]) λj h1 h2=>?_
 rw[xB] at h1;have e1:(kL a.st v s a.aB)[j]=(kL a.st v s a.aB).getD j 0:=by rw[iO,lF];rfl
 have e2:(stepM (ah [a]) v (s-1))[j]=(stepM (ah [a]) v (s-1)).getD j 0:=by rw[iO,lF];rfl
 rw[e1,e2,KN λx hx=>(ha.arc x hx).2.1];unfold stepM;rw[hn,aO _ _ h1];have e3:s-1+1=s:=by omega
 rw[show mF (inF v s j) a.aB=mF (inF v (s-1+1) j) a.aB by rw[e3],<- aS3 (n:=a.st) a.aB λx hx=>(ha.arc x hx).1]
 refine aF λi hi=>?_;rw[xq (l:=[a]) (by show s-1<a.sym;omega) (by rw[dN];exact hi) (by rw[dN];exact h1)]
 show _=_*(if i<a.st then (if j<a.st then iH a.aB (s-1) i j else 0) else _)
 rw[if_pos hi,if_pos h1]
def ve (a:Au)(u:List Int):List Rat:=u.foldl (λv x=>kL a.st v x.toNat a.aB) a.ini
theorem O9 {u:List Int}(h:i<u.length):ve a (u.take (i+1))=kL a.st (ve a (u.take i)) (u.getD i 0).toNat a.aB:=by
 unfold ve;rw[iV 0 h,List.foldl_append];rfl
theorem JI (ha:a.Ok)(u:List Int):(ve a u).length=a.st:=by
 have:∀ (u:List Int) (v:List Rat),v.length=a.st->(u.foldl (λv x=>kL a.st v x.toNat a.aB) v).length=a.st:=λu=>by
  induction u with
  | nil=>exact λ_ h=>h
  | cons x u ih=>exact λv _=>ih _ xB
 exact this u a.ini ha.ini
theorem Ey (ha:a.Ok){u:List Int}(hu:iy a.sym u):ve a u=aZ (ah [a]) u:=by
 have:∀ (u:List Int) (v:List Rat),iy a.sym u->u.foldl (λv x=>kL a.st v x.toNat a.aB) v=u.foldl (λv x=>stepM (ah [a]) v (x.toNat-1)) v:=λu=>by
  induction u with
  | nil=>exact λ_ _=>rfl
  | cons x u ih =>
   intro v hx;have h1:=hx x rY;rw[List.foldl_cons,List.foldl_cons,Yu ha (by omega) (by omega)]
   exact ih _ λy hy=>hx y (List.mem_cons_of_mem _ hy)
 unfold ve aZ;rw[this u a.ini hu,show (ah [a]).ini=a.ini from List.append_nil _]
def He (v w:List Rat)(i:Nat):Rat:=aW (λi=>v.getD i 0*w.getD i 0) i
theorem Wv (ha:a.Ok){u:List Int}(hu:iy a.sym u):He (ve a u) a.fin a.st=kQ a u:=by
 rw[Ey ha hu];unfold He kQ kU mZ;rw[show (ah [a]).n=a.st from dN,show (ah [a]).fin=a.fin from List.append_nil _]
theorem Wx {B:Nat}(hv:∀ i,sz (v.getD i 0)<=B)(hl:∀ x,x ∈ l->x.t<n/\sz x.q<=6)(h10:l.length<=20):sz ((kL n v s l).getD j 0)<=20*(B+7)+1:=by
 rw[KN λx hx=>(hl x hx).1];have h1:=JB (f:=inF v s j) (C:=B+6) (l:=l) λx hx=>by
  unfold inF
  split
  .have:=jS (v.getD x.f 0) x.q;have:=hv x.f;have:=(hl x hx).2;omega
  .rw[fH];omega
 have h2:=Nat.mul_le_mul_right (B+6+1) h10;omega
def fB:Nat->Nat
 | 0=>6
 | k+1=>20*(fB k+7)+1
theorem GH {B:Nat}{v:List Rat}(h:Small B v)(h1:1<=B)(i:Nat):sz (v.getD i 0)<=B:=by
 rw[iO];cases hg:v[i]? with
 | none=>show sz 0<=B;rw[fH];exact h1
 | some q=>exact h q (List.mem_of_getElem? hg)
theorem Yv (ha:a.Ok)(hz:a.Sz 6 20)(u:List Int):∀ k,k<=u.length->∀ j,sz ((ve a (u.take k)).getD j 0)<=fB k
 | 0,_,j=>by
  rw[List.take_zero];exact GH hz.ini (by decide) j
 | k+1,hk,j=>by
  rw[O9 (by omega)]
  exact Wx (Yv ha hz u k (by omega)) (λx hx=>⟨(ha.arc x hx).2.1,hz.arc x hx⟩) hz.num
theorem aZ7 (hk:k<=4):fB k<=2147361:=by
 have:k=0 \/ k=1 \/ k=2 \/ k=3 \/ k=4:=by omega
 rcases this with rfl|rfl|rfl|rfl|rfl <;> decide
end
section
variable {m:bQ}{B k:Nat}{V K Q:List (List Int)}{w u:List Int}{rs:List dh}{y:BK}{v:List Rat}{r:dh}
def iE (k:Nat)(K:List (List Int)):List (List Int):=[]::K.flatMap (dD k)
theorem Iq:iE k (K++[w])=iE k K++dD k w:=by
 unfold iE;rw[List.flatMap_append,List.flatMap_cons,List.flatMap_nil,List.append_nil,List.cons_append]
structure iw (m:bQ) (B:Nat) (Q:List (List Int)) (y:BK):Prop where
 sp:qU m.n B y.rs
 join:∃ V,Join m V y.ks Q y.rs/\V++Q=iE m.k y.ks
 len:BI y.ks Q
 lead:∀ r,r ∈ y.rs->r.p=eU r.v
 ord:y.ks.Pairwise λa b=>qN a b<0
theorem iw.start (m:bQ)(B:Nat):iw m B [[]] ⟨[],[]⟩:=⟨qU.nil,⟨[],Join.start m,rfl⟩,BI.start,λ_ h=>(by cases h),List.Pairwise.nil⟩
theorem iw.b (h:iw m B Q y):KJ m B Q y:=⟨h.sp,have ⟨V,j,_⟩:=h.join;⟨V,j⟩,h.len⟩
theorem iw.next (ok:m.Ok)(h1:1<=B)(hz:∀ i,sz ((aZ m w).getD i 0)<=B)(h:iw m B (w::Q) y) :
  ((oL m w y).1=true->iw m B (Q++dD m.k w) (oL m w y).2/\jM m (Q++dD m.k w) (oL m w y).2.rs<jM m (w::Q) y.rs)/\((oL m w y).1=false->iw m B Q (oL m w y).2/\jM m Q (oL m w y).2.rs<jM m (w::Q) y.rs):=by
 obtain⟨V,j,e⟩:=h.join;unfold oL;by_cases hg:bW y.rs (aZ m w)=true
 .rw[if_pos hg];refine⟨λ_=>⟨⟨h.sp.grow (lu ok w) h1 hz hg,⟨_,j.keep ok hg,?_⟩,h.len.keep,λr hr=>?_,?_⟩,CP ok j hg⟩,λx=>by cases x⟩
  .show V++[w]++(Q++dD m.k w)=iE m.k (y.ks++[w])
   rw[Iq,<- e,List.append_assoc,List.append_assoc];rfl
  .rcases ru hr with hr|hr
   .exact h.lead r hr
   .rw[lV hr];rfl
  .refine List.pairwise_append.2 ⟨h.ord,List.pairwise_singleton ..,λu hu q hq=>?_⟩;rw[lV hq];exact (List.pairwise_append.1 j.EO.ord).2.2 u (j.EO.sub u hu) w rY
 .rw[if_neg hg];have hg:bW y.rs (aZ m w)=false:=by simpa using hg
  exact⟨λx=>(by cases x),λ_=>⟨⟨h.sp,⟨_,j.drop ok hg,by rw[List.append_assoc];exact e⟩,h.len.drop,h.lead,h.ord⟩,vI⟩⟩
def iM (r:dh):List Rat:=r.v.map λx=>x / r.v.getD r.p 0
theorem zA:(iM r).length=r.v.length:=dL ..
theorem CZ (i:Nat):(iM r).getD i 0=r.v.getD i 0 / r.v.getD r.p 0:=by
 unfold iM;rw[iO,List.getElem?_map,iO (l:=r.v) (i:=i)];cases r.v[i]? with
 | none=>show (0:Rat)=0 / _;rw[Rat.div_def,Rat.zero_mul]
 | some x=>rfl
theorem KO {l:List Rat}{p:Nat}(hp:p<l.length)(h0:l.getD p 0≠0)(hb:∀ i,i<p->l.getD i 0=0):eU l=p:=by
 rcases Nat.lt_trichotomy (eU l) p with g|g|g
 .exact absurd (hb _ g) (vH (Nat.lt_trans g hp))
 .exact g
 .exact absurd (uy g) h0
theorem LZ (hl:r.p=eU r.v)(hp:r.p<r.v.length)(h0:r.v.getD r.p 0≠0):eU (iM r)=r.p:=by
 refine KO (by rw[zA];exact hp) ?_ λi hi=>?_
 .rw[CZ,Rat.div_def,Rat.mul_inv_cancel _ h0];decide
 .rw[CZ,uy (by rw[<- hl];exact hi),Rat.div_def,Rat.zero_mul]
def aB8 (f:Rat)(u v:List Rat):List Rat:=(List.range v.length).map λi=>v.getD i 0-f*u.getD i 0
theorem Yw (h0:r.v.getD r.p 0≠0):aB8 (v.getD r.p 0) (iM r) v=jr v r:=by
 unfold aB8 jr;refine List.map_congr_left λi _=>?_;rw[CZ];unfold kz;rw[Rat.div_def,Rat.div_def,Rat.mul_assoc,Rat.mul_comm (r.v.getD i 0)]
def EL (rs:List dh)(v:List Rat):List Rat:=if bW rs v=true then iM (newR rs v) else bC rs v
theorem BA:bW rs v=true ↔ eU (bC rs v)<(bC rs v).length:=by unfold bW;exact decide_eq_true_iff
theorem Yx (ok:m.Ok)(h:iw m B [] y)(hz:∀ w,w ∈ iE m.k y.ks->kU m w=0):tu m=none:=by
 refine (Ep ok).2 λw hw=>?_;obtain⟨V,j,e⟩:=h.join;rw[List.append_nil] at e;exact j.EO.zero (λu hu=>hz u (e ▸ j.EO.sub u hu)) hw λq hq=>by cases hq
theorem ak0 {u:Nat->Rat}{C:List (List Rat)}{s:Nat}(h:cZ m.n C u)(hk:∀ c,c ∈ C->mZ m.n (λj=>aW (λi=>c.getD i 0*iU m s i j) m.n) (vf m.fin)=0):mZ m.n (λj=>aW (λi=>u i*iU m s i j) m.n) (vf m.fin)=0:=by
 induction h with
 | @zero u h =>
  unfold mZ;refine jk λj _=>?_;have e0:aW (λi=>u i*iU m s i j) m.n=0:=jk λi hi=>by rw[h i hi,Rat.zero_mul]
  show aW (λi=>u i*iU m s i j) m.n*_=0
  rw[e0,Rat.zero_mul]
 | @add u u' b c hb hu h ih =>
  have e:mZ m.n (λj=>aW (λi=>u' i*iU m s i j) m.n) (vf m.fin)=mZ m.n (λj=>aW (λi=>u i*iU m s i j) m.n) (vf m.fin)+c*mZ m.n (λj=>aW (λi=>b.getD i 0*iU m s i j) m.n) (vf m.fin):=by
   unfold mZ;rw[<- ig,<- pF];refine aF λj _=>?_;show aW (λi=>u' i*iU m s i j) m.n*_=aW (λi=>u i*iU m s i j) m.n*_+c*(aW (λi=>b.getD i 0*iU m s i j) m.n*_)
   rw[show aW (λi=>u' i*iU m s i j) m.n=aW (λi=>u i*iU m s i j) m.n+c*aW (λi=>b.getD i 0*iU m s i j) m.n from ?_]
   .rw[Rat.add_mul,Rat.mul_assoc]
   .rw[<- ig,<- pF];refine aF λi hi=>?_;rw[h i hi,Rat.add_mul,Rat.mul_assoc]
  rw[e,ih,hk b hb,Rat.mul_zero,Rat.add_zero]
theorem ab4 {s:Nat}:kU m (w++[((s+1:Nat):Int)])=mZ m.n (λj=>aW (λi=>(aZ m w).getD i 0*iU m s i j) m.n) (vf m.fin):=by
 unfold kU mZ;refine aF λj hj=>?_;rw[iq];show (stepM m (aZ m w) _).getD j 0*_=_
 unfold stepM;rw[aO _ _ hj];rfl
theorem JJ (hs:∀ u,u ∈ K->u ∈ iE k K):∀ (n:Nat) (u:List Int),u.length=n->u ∈ K->iy k u
 | n, u, hn, hu => by
  rcases List.mem_cons.1 (hs u hu) with rfl|h
  .exact λx hx=>by cases hx
  .obtain⟨z,hz,h⟩:=List.mem_flatMap.1 h;obtain⟨s,hs2,rfl⟩:=jH h;rw[jd,kC] at hn;have ih:=JJ hs z.length z rfl hz;have:=List.mem_range.1 hs2;intro x hx;rcases ru hx with hx|hx
   .exact ih x hx
   .rw[lV hx];omega
termination_by n=>n
theorem aB9 (ok:m.Ok)(h:iw m B [] y)(hw:yZ m w):w ∈ iE m.k y.ks:=by
 obtain⟨V,j,e⟩:=h.join;by_cases hne:w=[]
 .rw[hne];exact List.mem_cons_self ..
 obtain⟨z,x,rfl⟩:∃ z x,w=z++[x]:=⟨w.dropLast,w.getLast hne,(List.dropLast_concat_getLast hne).symm⟩;have hx:=hw.uN x (by simp)
 obtain⟨s,hs,rfl⟩:∃ s:Nat,s<m.k/\x=((s+1:Nat):Int):=⟨x.toNat-1,by omega,by omega⟩
 have hz:iy m.k z:=λq hq=>hw.uN q (List.mem_append.2 (.inl hq));by_cases hk:z ∈ y.ks
 .refine List.mem_cons_of_mem _ (List.mem_flatMap.2 ⟨z,hk,List.mem_map.2 ⟨s,List.mem_range.2 hs,rfl⟩⟩)
 .refine absurd ?_ hw.nz;rw[ab4];refine ak0 (j.EO.reach z hz λq hq=>by cases hq) λc hc=>?_
  obtain⟨u,hu,rfl⟩:=jH hc;rw[<- ab4];obtain⟨hu1,hu2⟩:=eY.1 hu;have hlt:qN u z<0:=by
   rcases Int.lt_or_le (qN u z) 0 with g|g
   .exact g
   .exact absurd (Jq (Int.le_antisymm hu2 g) ▸ hu1) hk
  refine hw.before _ (λq hq=>?_) (LV hlt);rcases ru hq with hq|hq
  .exact JJ (λu hu=>by rw[<- e,List.append_nil];exact j.EO.sub u hu) u.length u rfl hu1 q hq
  .rw[lV hq];omega
theorem Wy (ok:m.Ok)(h:iw m B [] y){i:Nat}(hi:i<(iE m.k y.ks).length)(h0:kU m ((iE m.k y.ks).getD i [])≠0)(hb:∀ l,l<i->kU m ((iE m.k y.ks).getD l [])=0):tu m=some ((iE m.k y.ks).getD i []):=by
 obtain⟨V,j,e⟩:=h.join;rw[List.append_nil] at e;have ord:=j.EO.ord;rw[List.append_nil,e] at ord;have get:∀ l (hl:l<(iE m.k y.ks).length),(iE m.k y.ks).getD l []=(iE m.k y.ks)[l]:=λl hl=>by rw[iO,lF hl];rfl
 have inw:∀ l,l<(iE m.k y.ks).length->iy m.k ((iE m.k y.ks).getD l []):=λl hl=>by
  rw[get l hl];rcases List.mem_cons.1 (List.getElem_mem hl) with g|g
  .rw[g];exact λx hx=>by cases hx
  .obtain⟨z,hz,g⟩:=List.mem_flatMap.1 g;obtain⟨s,hs2,g⟩:=jH g;rw[<- g];have ih:=JJ (k:=m.k) (K:=y.ks) (λu hu=>by rw[<- e];exact j.EO.sub u hu) z.length z rfl hz
   have:=List.mem_range.1 hs2;intro x hx;rcases ru hx with hx|hx
   .exact ih x hx
   .rw[lV hx];omega
 cases hf:tu m with
 | none=>exact absurd ((Ep ok).1 hf _ (inw i hi)) h0
 | some w =>
  have ha:=FC ok;rw[hf] at ha;have hw:yZ m w:=ha;obtain⟨l,hl,g⟩:=List.mem_iff_getElem.1 (aB9 ok h hw);rw[<- get l hl] at g;rcases Nat.lt_trichotomy i l with q|q|q
  .have hlt:qN ((iE m.k y.ks).getD i []) w<0:=by
    rw[<- g,get i hi,get l hl];exact List.pairwise_iff_getElem.1 ord i l hi hl q
   exact absurd (hw.before _ (inw i hi) hlt) h0
  .rw[q,g]
  .exact absurd (by rw[<- g];exact hb l q) hw.nz

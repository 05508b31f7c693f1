/-
  M, chapter 23: leads, rests, and the sizes of rows with 1 at their leads.
-/
import Derived.Test.YtanlenlmihoiiaaGreatDoorKMod87
set_option linter.unusedVariables false
set_option linter.unusedSimpArgs false
namespace Go.AL
open Go Go.BigFrame
def JP (l:List Au)(k:Nat):List Rat:=(l.take k).flatMap (·.ini)
def Fz (l:List Au)(k:Nat):List Rat:=UH (l.take k)
def aD1 (o:Nat)(a:Au)(s i j:Nat):Rat:=if o<=i/\o<=j then (if i-o<a.st/\j-o<a.st then jf a.aN s (i-o) (j-o) else 0) else 0
def cO (l:List Au)(k:Nat)(U:List bU)(s i j:Nat):Rat:=uM (l.take k) s i j+(if aS (l.take k)<=i/\aS (l.take k)<=j then jf U s (i-aS (l.take k)) (j-aS (l.take k)) else 0)
section
variable {a b x:Au}{l r:List Au}{s i j k o:Nat}
theorem takeA (hk:k<l.length):l.take (k+1)=l.take k++[l.getD k default]:=by
 rw[List.take_succ_eq_append_getElem hk,jh,lQ hk];rfl
theorem SY:aS (l++r)=aS l+aS r:=by simp[aS]
theorem Bz (hk:k<l.length):aS (l.take (k+1))=aS (l.take k)+(l.getD k default).st:=by rw[takeA hk,SY];simp[aS]
theorem S9 (hk:k<l.length):JP l (k+1)=JP l k++(l.getD k default).ini:=by unfold JP;rw[takeA hk,List.flatMap_append];simp
theorem aD2:∀ (l:List Au),l≠[]->UH (l++[a])=UH l++a.fin.map λx=>-x
 | [],h=>absurd rfl h
 | b::r,_=>by
  show b.fin++(r++[a]).flatMap (λb=>b.fin.map λx=>-x)=(b.fin++r.flatMap λb=>b.fin.map λx=>-x)++_
  rw[List.flatMap_append,List.append_assoc];simp
theorem Tc (hk:k<l.length)(hp:0<k):Fz l (k+1)=Fz l k++(l.getD k default).fin.map λx=>-x:=by
 unfold Fz;rw[takeA hk,aD2 _ (λh=>by have:=congrArg List.length h;rw[List.length_take,List.length_nil] at this;omega)]
theorem Xe (hk:0<l.length):Fz l 1=(l.getD 0 default).fin:=by
 unfold Fz;rw[takeA hk];simp[UH]
theorem JQ (h:∀ a,a ∈ l->a.Ok):∀ k,(JP l k).length=aS (l.take k)
 | 0=>by simp[JP,aS]
 | k + 1 => by
  rcases Nat.lt_or_ge k l.length with hk|hk
  .rw[S9 hk,jd,JQ h k,Bz hk,(h _ (getD_mem hk default)).ini]
  .have:=JQ h k;unfold JP at *;rw[List.take_of_length_le hk] at this;rw[List.take_of_length_le (by omega)];exact this
theorem JR (h:∀ a,a ∈ l->a.Ok):∀ k,(Fz l k).length=aS (l.take k)
 | 0=>by simp[Fz,UH,aS]
 | k + 1 => by
  rcases Nat.lt_or_ge k l.length with hk|hk
  .have hf:=(h _ (getD_mem hk default)).fin;rcases Nat.eq_zero_or_pos k with h0|h0
   .subst h0;rw[Xe hk,Bz hk,hf];simp[aS]
   .rw[Tc hk h0,jd,dA,JR h k,Bz hk,hf]
  .have:=JR h k;unfold Fz at *;rw[List.take_of_length_le hk] at this;rw[List.take_of_length_le (by omega)];exact this
theorem Td:∀ (l:List Au) (s i j:Nat),uM (l++[a]) s i j=uM l s i j+aD1 (aS l) a s i j
 | [], s, i, j => by
  show (if i<a.st then (if j<a.st then jf a.aN s i j else 0) else (if j<a.st then 0 else 0))=0+(if 0<=i/\0<=j then (if i-0<a.st/\j-0<a.st then jf a.aN s (i-0) (j-0) else 0) else 0)
  rw[Rat.zero_add,if_pos (show 0<=i/\0<=j from ⟨Nat.zero_le _,Nat.zero_le _⟩),Nat.sub_zero,Nat.sub_zero]
  by_cases h1:i<a.st
  .by_cases h2:j<a.st
   .rw[if_pos h1,if_pos h2,if_pos ⟨h1,h2⟩]
   .rw[if_pos h1,if_neg h2,if_neg (λe=>h2 e.2)]
  .rw[if_neg h1,if_neg (show ¬(i<a.st/\j<a.st) from λe=>h1 e.1)];split <;> rfl
 | b :: r, s, i, j => by
  have hs:aS (b::r)=b.st+aS r:=by simp[aS]
  rw[List.cons_append,uM,uM,hs];by_cases h1:i<b.st
  .have hb:aD1 (b.st+aS r) a s i j=0:=if_neg (by omega)
   rw[if_pos h1,if_pos h1,hb,Rat.add_zero]
  .by_cases h2:j<b.st
   .have hb:aD1 (b.st+aS r) a s i j=0:=if_neg (by omega)
    rw[if_neg h1,if_neg h1,if_pos h2,if_pos h2,hb,Rat.add_zero]
   .rw[if_neg h1,if_neg h1,if_neg h2,if_neg h2,Td r];congr 1;unfold aD1;rw[show i-b.st-aS r=i-(b.st+aS r) by omega,show j-b.st-aS r=j-(b.st+aS r) by omega]
    by_cases h3:aS r<=i-b.st/\aS r<=j-b.st
    .rw[if_pos h3,if_pos (show b.st+aS r<=i/\b.st+aS r<=j by omega)]
    .rw[if_neg h3,if_neg (show ¬(b.st+aS r<=i/\b.st+aS r<=j) by omega)]
theorem Xf:∀ (l:List Au) (s i j:Nat),aS l<=i \/ aS l<=j->uM l s i j=0
 | [],_,_,_,_=>rfl
 | b :: r, s, i, j, h => by
  have hs:aS (b::r)=b.st+aS r:=by simp[aS]
  rw[hs] at h;rw[uM];by_cases h1:i<b.st
  .rw[if_pos h1,if_neg (by omega)]
  .rw[if_neg h1]
   split
   .rfl
   .exact Xf r s _ _ (by omega)
theorem Qb:cO l k [] s i j=uM (l.take k) s i j:=by
 unfold cO
 split
 .rw[uN,Rat.add_zero]
 .rw[Rat.add_zero]
theorem aS6 (hk:k<l.length)(h:(l.getD k default).Ok):cO l k (dK (l.getD k default).aN) s i j=uM (l.take (k+1)) s i j:=by
 rw[takeA hk,Td];unfold cO aD1;congr 1;by_cases h1:aS (l.take k)<=i/\aS (l.take k)<=j
 .rw[if_pos h1,if_pos h1,Af];by_cases h2:i-aS (l.take k)<(l.getD k default).st/\j-aS (l.take k)<(l.getD k default).st
  .rw[if_pos h2]
  .rw[if_neg h2];exact aA0 (n:=(l.getD k default).st) (λx hx=>⟨(h.arc x hx).1,(h.arc x hx).2.1⟩) (by omega)
 .rw[if_neg h1,if_neg h1]
theorem aD3 {T:List bU}(ha:T.Pairwise λa b=>iT a b<0){p:Nat}(hp:p<T.length)(h1:1<=(T.getD p default).l):jf (T.take p) ((T.getD p default).l-1) (T.getD p default).f (T.getD p default).t=0:=by
 refine PK λy hy=>if_neg λe=>?_;have hs:T=T.take p++T.getD p default::T.drop (p+1):=by
  rw[jh,lQ hp];exact (List.take_append_drop p T).symm.trans (by rw[List.drop_eq_getElem_cons hp];rfl)
 rw[hs] at ha;have:=(List.pairwise_append.1 ha).2.2 y hy _ pU;rw[yI] at this;omega
theorem aS7 {T:List bU}(ha:T.Pairwise λa b=>iT a b<0){p:Nat}(hp:p<T.length)(h1:1<=(T.getD p default).l) :
  cO l k (T.take (p+1)) s i j=if s=(T.getD p default).l-1/\i=aS (l.take k)+(T.getD p default).f/\j=aS (l.take k)+(T.getD p default).t then (T.getD p default).q else cO l k (T.take p) s i j:=by
 have ht:T.take (p+1)=T.take p++[T.getD p default]:=by
  rw[List.take_succ_eq_append_getElem hp,jh,lQ hp];rfl
 have hn:=aD3 ha hp h1;generalize T.getD p default=x at *;unfold cO;rw[ht];by_cases hc:s=x.l-1/\i=aS (l.take k)+x.f/\j=aS (l.take k)+x.t
 .rw[if_pos hc];obtain⟨rfl,rfl,rfl⟩:=hc;rw[Xf _ _ _ _ (.inl (Nat.le_add_right _ _)),if_pos ⟨Nat.le_add_right _ _,Nat.le_add_right _ _⟩,Nat.add_sub_cancel_left,Nat.add_sub_cancel_left,yT,hn,pF,uN,show wY (x.l-1) x.f x.t x=x.q from if_pos ⟨rfl,by omega,rfl⟩,Rat.zero_add,Rat.zero_add,Rat.add_zero]
 .rw[if_neg hc];congr 1;by_cases h2:aS (l.take k)<=i/\aS (l.take k)<=j
  .rw[if_pos h2,if_pos h2,yT,pF,uN,Rat.add_zero,show wY s (i-aS (l.take k)) (j-aS (l.take k)) x=0 from if_neg (by omega),Rat.add_zero]
  .rw[if_neg h2,if_neg h2]
end
section
variable {a b:Au}{B k:Nat}{l out:List bU}{x:bU}
theorem aD4 (h:∀ y,y ∈ out->sz y.q<=(k+1)*(B+2))(hx:sz x.q<=B):∀ y,y ∈ wX out x->sz y.q<=(k+2)*(B+2):=by
 have up:∀ n,n<=(k+1)*(B+2)->n<=(k+2)*(B+2):=λn hn=>Nat.le_trans hn (Nat.mul_le_mul_right _ (by omega))
 intro y hy;have h2:(k+2)*(B+2)=(k+1)*(B+2)+(B+2):=Nat.succ_mul _ _;unfold wX at hy
 split at hy
 .rename_i hc;rcases List.mem_or_eq_of_mem_set hy with hy|rfl
  .exact up _ (h y hy)
  .have h1:=h _ (getD_mem hc.1 default);have h3:=AX (out.getD (rG out x) default).q x.q;show sz ((out.getD (rG out x) default).q+x.q)<=_
   omega
 .rcases uy hy with hy|hy
  .exact up _ (h y (List.mem_of_mem_take hy))
  .rcases List.mem_cons.1 hy with rfl|hy
   .omega
   .exact up _ (h y (List.mem_of_mem_drop hy))
theorem Xg:∀ (l out:List bU) (k:Nat),(∀ x,x ∈ l->sz x.q<=B)->(∀ y,y ∈ out->sz y.q<=(k+1)*(B+2))->∀ y,y ∈ l.foldl wX out->sz y.q<=(k+l.length+1)*(B+2)
 | [],out,k,_,h=>h
 | x::l,out,k,hz,h=>by
  rw[List.foldl_cons,List.length_cons,show k+(l.length+1)+1=(k+1)+l.length+1 by omega]
  exact Xg l _ (k+1) (λy hy=>hz y (List.mem_cons_of_mem _ hy)) (aD4 h (hz x pU))
theorem am6 (out:List bU)(x:bU):(wX out x).length<=out.length+1:=by
 unfold wX
 split
 .rw[List.length_set];omega
 .rw[jd,List.length_cons,List.length_take,List.length_drop];omega
theorem Tf:∀ (l out:List bU),(l.foldl wX out).length<=out.length+l.length
 | [],out=>Nat.le_refl _
 | x::l,out=>by
  rw[List.foldl_cons,List.length_cons];have:=Tf l (wX out x);have:=am6 out x;omega
theorem tZ (l:List bU):(pX l).length<=l.length:=by
 unfold pX UK;refine Nat.le_trans (List.length_filter_le ..) ?_;have:=Tf l [];rw[List.length_nil,Nat.zero_add] at this;exact this
theorem JS (hz:∀ x,x ∈ l->sz x.q<=B):∀ y,y ∈ pX l->sz y.q<=(l.length+1)*(B+2):=λy hy=>by
 have:=Xg l [] 0 hz (λy hy=>by cases hy) y (List.mem_filter.1 hy).1
 rwa [Nat.zero_add] at this
theorem Au.Sz.wide (h:a.Sz 1 10):a.Sz 134217728 20 :=
 ⟨λq hq=>Nat.le_trans (h.ini q hq) (by decide),λq hq=>Nat.le_trans (h.fin q hq) (by decide),λx hx=>Nat.le_trans (h.arc x hx) (by decide),Nat.le_trans h.num (by decide)⟩
theorem Au.Sz.form (h:a.Sz 1 10):(lF a).Sz 134217728 20:=by
 refine⟨h.wide.ini,h.wide.fin,λx hx=>?_,Nat.le_trans (tZ a.aN) (Nat.le_trans h.num (by decide))⟩
 have h1:=JS h.arc x hx;have h2:=Nat.mul_le_mul_right (1+2) (show a.aN.length+1<=11 by have:=h.num;omega)
 omega
theorem Au.Few.form (h:a.Few):(lF a).Few:=⟨h.st,h.ini,h.fin,λs i j=>by rw[show jf (lF a).aN s i j=jf a.aN s i j from DY];exact h.ent s i j⟩
end
section
variable {a b:Au}{B N K:Nat}{q:Rat}{s i j:Nat}
theorem Au.Sz.rev (h:a.Sz 1 10):(pJ a).Sz 40 10:=by
 have hl:(a.aN.map λx=>(⟨x.t,x.l,x.f,x.q⟩:bU)).length=a.aN.length:=dA ..;refine⟨λy hy=>Nat.le_trans (h.fin y hy) (by decide),λy hy=>Nat.le_trans (h.ini y hy) (by decide),λx hx=>?_,Nat.le_trans (tZ _) (by rw[hl];exact h.num)⟩
 have hy9:∀ y,y ∈ (a.aN.map λx=>(⟨x.t,x.l,x.f,x.q⟩:bU))->sz y.q<=1:=λy hy=>by
  obtain⟨x,hx,rfl⟩:=kK hy;exact h.arc x hx
 have h1:sz x.q<=_:=JS hy9 x hx;have h2:=Nat.mul_le_mul_right (1+2) (show (a.aN.map λx=>(⟨x.t,x.l,x.f,x.q⟩:bU)).length+1<=11 by rw[hl];have:=h.num;omega)
 omega
theorem Au.Sz.up {B2 N2:Nat}(h:a.Sz B N)(hb:B<=B2)(hn:N<=N2):a.Sz B2 N2 :=
 ⟨λq hq=>Nat.le_trans (h.ini q hq) hb,λq hq=>Nat.le_trans (h.fin q hq) hb,λx hx=>Nat.le_trans (h.arc x hx) hb,Nat.le_trans h.num hn⟩
theorem Ti {l:List bU}:jf (l.map λx=>(⟨x.t,x.l,x.f,x.q⟩:bU)) s i j=jf l s j i:=by
 unfold jf;rw[Wl];refine O8 λx _=>?_;show (if x.t=i/\x.l=s+1/\x.f=j then x.q else 0)=if x.f=j/\x.l=s+1/\x.t=i then x.q else 0
 by_cases hc:x.f=j/\x.l=s+1/\x.t=i
 .rw[if_pos hc,if_pos ⟨hc.2.2,hc.2.1,hc.1⟩]
 .rw[if_neg hc,if_neg λhd=>hc ⟨hd.2.2,hd.2.1,hd.1⟩]
theorem Au.Few.rev (h:a.Few):(pJ a).Few:=⟨h.st,h.fin,h.ini,λs i j=>by
 show sz (jf (pX _) s i j)<=24
 rw[DY,Ti];exact h.ent ..⟩
end
section
variable {a b:Au}{n s i j k:Nat}{v w out:List Rat}{l:List bU}{x:bU}
theorem iL {α:Type}(d:α){l:List α}{i:Nat}(h:i<l.length):l.take (i+1)=l.take i++[l.getD i d]:=by
 rw[List.take_succ_eq_append_getElem h,jh,lQ h];rfl
def UZ (v:List Rat)(s:Nat)(out:List Rat)(x:bU):List Rat:=if x.l=s then out.set x.t (out.getD x.t 0+v.getD x.f 0*x.q) else out
def kJ (n:Nat)(v:List Rat)(s:Nat)(l:List bU):List Rat:=l.foldl (UZ v s) (List.replicate n 0)
theorem Xh:(UZ v s out x).length=out.length:=by unfold UZ;split <;> simp
theorem xW:(kJ n v s l).length=n:=by
 have:∀ (l:List bU) (out:List Rat),(l.foldl (UZ v s) out).length=out.length:=λl=>by
  induction l with
  | nil=>exact λ_=>rfl
  | cons x l ih=>exact λout=>by rw[List.foldl_cons,ih,Xh]
 unfold kJ;rw[this,List.length_replicate]
theorem Fa (h:i<l.length):kJ n v s (l.take (i+1))=UZ v s (kJ n v s (l.take i)) (l.getD i default):=by
 unfold kJ;rw[iL default h,List.foldl_append];rfl
theorem Tj {l:List Rat}{y:Rat}(hi:i<l.length):(l.set i y).getD j 0=if i=j then y else l.getD j 0:=by
 rw[jh,List.getElem?_set,jh];by_cases h:i=j
 .subst h;rw[if_pos rfl,if_pos hi,if_pos rfl];rfl
 .rw[if_neg h,if_neg h]
def inF (v:List Rat)(s j:Nat)(x:bU):Rat:=if x.l=s/\x.t=j then v.getD x.f 0*x.q else 0
theorem Tm:∀ (l:List bU) (out:List Rat),(∀ x,x ∈ l->x.t<out.length)->(l.foldl (UZ v s) out).getD j 0=out.getD j 0+oD (inF v s j) l
 | [],out,_=>by rw[List.foldl_nil,oD,Rat.add_zero]
 | x :: l, out, h => by
  have hx:=h x pU;rw[List.foldl_cons,Tm l _ (λy hy=>by rw[Xh];exact h y (List.mem_cons_of_mem _ hy)),oD,<- Rat.add_assoc]
  congr 1;unfold UZ inF;by_cases hl:x.l=s
  .rw[if_pos hl,Tj hx];by_cases ht:x.t=j
   .rw[if_pos ht,if_pos ⟨hl,ht⟩,ht]
   .rw[if_neg ht,if_neg (λe=>ht e.2),Rat.add_zero]
  .rw[if_neg hl,if_neg (λe=>hl e.1),Rat.add_zero]
theorem aS8:(List.replicate n (0:Rat)).getD j 0=0:=by
 rw[jh,List.getElem?_replicate]
 split <;> rfl
theorem Lc (h:∀ x,x ∈ l->x.t<n):(kJ n v s l).getD j 0=oD (inF v s j) l:=by
 unfold kJ;rw[Tm l _ (λx hx=>by rw[List.length_replicate];exact h x hx),aS8,Rat.zero_add]
theorem aS9 (l:List bU)(hf:∀ x,x ∈ l->x.f<n):bD (λi=>v.getD i 0*jf l k i j) n=oD (inF v (k+1) j) l:=by
 induction l with
 | nil=>rw[oD];exact kR λi _=>by rw[uN,Rat.mul_zero]
 | cons x l ih =>
  rw[oD,<- ih λy hy=>hf y (List.mem_cons_of_mem _ hy)];have e:(λi=>v.getD i 0*jf (x::l) k i j)=λi=>v.getD i 0*wY k i j x+v.getD i 0*jf l k i j:=by
   funext i;rw[pF,Rat.mul_add]
  rw[e,pq];congr 1;unfold inF;by_cases hc:x.l=k+1/\x.t=j
  .rw[if_pos hc];have e2:(λi=>v.getD i 0*wY k i j x)=λi=>if x.f=i then v.getD i 0*x.q else 0:=by
    funext i;unfold wY;by_cases hi:x.f=i
    .rw[if_pos ⟨hi,hc.1,hc.2⟩,if_pos hi]
    .rw[if_neg (λe=>hi e.1),if_neg hi,Rat.mul_zero]
   rw[e2,vO (v:=λi=>v.getD i 0*x.q) (hf x pU)]
  .rw[if_neg hc];exact kR λi _=>by
    unfold wY;rw[if_neg (λe=>hc ⟨e.2.1,e.2.2⟩),Rat.mul_zero]
theorem Y8 (ha:a.Ok)(s1:1<=s)(s2:s<=a.sym):kJ a.st v s a.aN=stepM (ah [a]) v (s-1):=by
 have hn:(ah [a]).n=a.st:=kG;refine List.ext_getElem (by rw[xW,DT,hn]) λj h1 h2=>?_
 rw[xW] at h1;have e1:(kJ a.st v s a.aN)[j]=(kJ a.st v s a.aN).getD j 0:=by rw[jh,lQ];rfl
 have e2:(stepM (ah [a]) v (s-1))[j]=(stepM (ah [a]) v (s-1)).getD j 0:=by rw[jh,lQ];rfl
 rw[e1,e2,Lc λx hx=>(ha.arc x hx).2.1];unfold stepM;rw[hn,aT _ _ h1];have e3:s-1+1=s:=by omega
 rw[show oD (inF v s j) a.aN=oD (inF v (s-1+1) j) a.aN by rw[e3],<- aS9 (n:=a.st) a.aN λx hx=>(ha.arc x hx).1]
 refine aJ λi hi=>?_;rw[RV (l:=[a]) (by show s-1<a.sym;omega) (by rw[kG];exact hi) (by rw[kG];exact h1)]
 show _=_*(if i<a.st then (if j<a.st then jf a.aN (s-1) i j else 0) else _)
 rw[if_pos hi,if_pos h1]
def vY (a:Au)(u:List Int):List Rat:=u.foldl (λv x=>kJ a.st v x.toNat a.aN) a.ini
theorem Qc {u:List Int}(h:i<u.length):vY a (u.take (i+1))=kJ a.st (vY a (u.take i)) (u.getD i 0).toNat a.aN:=by
 unfold vY;rw[iL 0 h,List.foldl_append];rfl
theorem NQ (ha:a.Ok)(u:List Int):(vY a u).length=a.st:=by
 have:∀ (u:List Int) (v:List Rat),v.length=a.st->(u.foldl (λv x=>kJ a.st v x.toNat a.aN) v).length=a.st:=λu=>by
  induction u with
  | nil=>exact λ_ h=>h
  | cons x u ih=>exact λv _=>ih _ xW
 exact this u a.ini ha.ini
theorem CS (ha:a.Ok){u:List Int}(hu:iV a.sym u):vY a u=bF (ah [a]) u:=by
 have:∀ (u:List Int) (v:List Rat),iV a.sym u->u.foldl (λv x=>kJ a.st v x.toNat a.aN) v=u.foldl (λv x=>stepM (ah [a]) v (x.toNat-1)) v:=λu=>by
  induction u with
  | nil=>exact λ_ _=>rfl
  | cons x u ih =>
   intro v hx;have h1:=hx x pU;rw[List.foldl_cons,List.foldl_cons,Y8 ha (by omega) (by omega)]
   exact ih _ λy hy=>hx y (List.mem_cons_of_mem _ hy)
 unfold vY bF;rw[this u a.ini hu,show (ah [a]).ini=a.ini from List.append_nil _]
def Ld (v w:List Rat)(i:Nat):Rat:=bD (λi=>v.getD i 0*w.getD i 0) i
theorem aD6 (ha:a.Ok){u:List Int}(hu:iV a.sym u):Ld (vY a u) a.fin a.st=xA a u:=by
 rw[CS ha hu];unfold Ld xA yH vX;rw[show (ah [a]).n=a.st from kG,show (ah [a]).fin=a.fin from List.append_nil _]
theorem Xi {B:Nat}(hv:∀ i,sz (v.getD i 0)<=B)(hl:∀ x,x ∈ l->x.t<n/\sz x.q<=1)(h10:l.length<=10):sz ((kJ n v s l).getD j 0)<=10*(B+2)+1:=by
 rw[Lc λx hx=>(hl x hx).1];have h1:=JI (f:=inF v s j) (C:=B+1) (l:=l) λx hx=>by
  unfold inF
  split
  .have:=lu (v.getD x.f 0) x.q;have:=hv x.f;have:=(hl x hx).2;omega
  .rw[fH];omega
 have h2:=Nat.mul_le_mul_right (B+1+1) h10;omega
def fB:Nat->Nat
 | 0=>1
 | k+1=>10*(fB k+2)+1
theorem Tn {B:Nat}{v:List Rat}(h:Small B v)(h1:1<=B)(i:Nat):sz (v.getD i 0)<=B:=by
 rw[jh];cases hg:v[i]? with
 | none=>show sz 0<=B;rw[fH];exact h1
 | some q=>exact h q (List.mem_of_getElem? hg)
theorem Y9 (ha:a.Ok)(hz:a.Sz 1 10)(u:List Int):∀ k,k<=u.length->∀ j,sz ((vY a (u.take k)).getD j 0)<=fB k
 | 0,_,j=>by
  rw[List.take_zero];exact Tn hz.ini (Nat.le_refl _) j
 | k+1,hk,j=>by
  rw[Qc (by omega)]
  exact Xi (Y9 ha hz u k (by omega)) (λx hx=>⟨(ha.arc x hx).2.1,hz.arc x hx⟩) hz.num
theorem aZ5 (hk:k<=4):fB k<=33331:=by
 have:k=0 \/ k=1 \/ k=2 \/ k=3 \/ k=4:=by omega
 rcases this with rfl|rfl|rfl|rfl|rfl <;> decide
end
section
variable {m:bV}{B k:Nat}{V K Q:List (List Int)}{w u:List Int}{rs:List bZ}{y:y7}{v:List Rat}{r:bZ}
def Qd (k:Nat)(K:List (List Int)):List (List Int):=[]::K.flatMap (cu k)
theorem Za:Qd k (K++[w])=Qd k K++cu k w:=by
 unfold Qd;rw[List.flatMap_append,List.flatMap_cons,List.flatMap_nil,List.append_nil,List.cons_append]
structure gu (m:bV) (B:Nat) (Q:List (List Int)) (y:y7):Prop where
 sp:uO m.n B y.rs
 join:∃ V,Join m V y.ks Q y.rs/\V++Q=Qd m.k y.ks
 len:E9 y.ks Q
 lead:∀ r,r ∈ y.rs->r.p=dX r.v
 ord:y.ks.Pairwise λa b=>mG a b<0
theorem gu.start (m:bV)(B:Nat):gu m B [[]] ⟨[],[]⟩:=⟨uO.nil,⟨[],Join.start m,rfl⟩,E9.start,λ_ h=>(by cases h),List.Pairwise.nil⟩
theorem gu.b (h:gu m B Q y):KZ m B Q y:=⟨h.sp,have ⟨V,j,_⟩:=h.join;⟨V,j⟩,h.len⟩
theorem gu.next (ok:m.Ok)(h1:1<=B)(hz:∀ i,sz ((bF m w).getD i 0)<=B)(h:gu m B (w::Q) y) :
  ((oJ m w y).1=true->gu m B (Q++cu m.k w) (oJ m w y).2/\iP m (Q++cu m.k w) (oJ m w y).2.rs<iP m (w::Q) y.rs)/\((oJ m w y).1=false->gu m B Q (oJ m w y).2/\iP m Q (oJ m w y).2.rs<iP m (w::Q) y.rs):=by
 obtain⟨V,j,e⟩:=h.join;unfold oJ;by_cases hg:bM y.rs (bF m w)=true
 .rw[if_pos hg];refine⟨λ_=>⟨⟨h.sp.grow (jl ok w) h1 hz hg,⟨_,j.keep ok hg,?_⟩,h.len.keep,λr hr=>?_,?_⟩,GU ok j hg⟩,λx=>by cases x⟩
  .show V++[w]++(Q++cu m.k w)=Qd m.k (y.ks++[w])
   rw[Za,<- e,List.append_assoc,List.append_assoc];rfl
  .rcases uy hr with hr|hr
   .exact h.lead r hr
   .rw[jJ hr];rfl
  .refine List.pairwise_append.2 ⟨h.ord,List.pairwise_singleton ..,λu hu q hq=>?_⟩;rw[jJ hq];exact (List.pairwise_append.1 j.Kz.ord).2.2 u (j.Kz.sub u hu) w pU
 .rw[if_neg hg];have hg:bM y.rs (bF m w)=false:=by simpa using hg
  exact⟨λx=>(by cases x),λ_=>⟨⟨h.sp,⟨_,j.drop ok hg,by rw[List.append_assoc];exact e⟩,h.len.drop,h.lead,h.ord⟩,xO⟩⟩
def iM (r:bZ):List Rat:=r.v.map λx=>x / r.v.getD r.p 0
theorem Ak:(iM r).length=r.v.length:=dA ..
theorem D7 (i:Nat):(iM r).getD i 0=r.v.getD i 0 / r.v.getD r.p 0:=by
 unfold iM;rw[jh,List.getElem?_map,jh (l:=r.v) (i:=i)];cases r.v[i]? with
 | none=>show (0:Rat)=0 / _;rw[Rat.div_def,Rat.zero_mul]
 | some x=>rfl
theorem Le {l:List Rat}{p:Nat}(hp:p<l.length)(h0:l.getD p 0≠0)(hb:∀ i,i<p->l.getD i 0=0):dX l=p:=by
 rcases Nat.lt_trichotomy (dX l) p with g|g|g
 .exact absurd (hb _ g) (tY (Nat.lt_trans g hp))
 .exact g
 .exact absurd (qV g) h0
theorem MO (hl:r.p=dX r.v)(hp:r.p<r.v.length)(h0:r.v.getD r.p 0≠0):dX (iM r)=r.p:=by
 refine Le (by rw[Ak];exact hp) ?_ λi hi=>?_
 .rw[D7,Rat.div_def,Rat.mul_inv_cancel _ h0];decide
 .rw[D7,qV (by rw[<- hl];exact hi),Rat.div_def,Rat.zero_mul]
def aD7 (f:Rat)(u v:List Rat):List Rat:=(List.range v.length).map λi=>v.getD i 0-f*u.getD i 0
theorem Zb (h0:r.v.getD r.p 0≠0):aD7 (v.getD r.p 0) (iM r) v=jg v r:=by
 unfold aD7 jg;refine List.map_congr_left λi _=>?_;rw[D7];unfold fJ;rw[Rat.div_def,Rat.div_def,Rat.mul_assoc,Rat.mul_comm (r.v.getD i 0)]
def Fq (rs:List bZ)(v:List Rat):List Rat:=if bM rs v=true then iM (newR rs v) else aO rs v
theorem vT:bM rs v=true ↔ dX (aO rs v)<(aO rs v).length:=by unfold bM;exact decide_eq_true_iff
theorem Xj (hs:∀ u,u ∈ K->u ∈ Qd k K):∀ (n:Nat) (u:List Int),u.length=n->u ∈ K->iV k u
 | n, u, hn, hu => by
  rcases List.mem_cons.1 (hs u hu) with rfl|h
  .exact λx hx=>by cases hx
  .obtain⟨z,hz,h⟩:=List.mem_flatMap.1 h;obtain⟨s,hs2,rfl⟩:=kK h;rw[jd,iY] at hn;have ih:=Xj hs z.length z rfl hz;have:=List.mem_range.1 hs2;intro x hx;rcases uy hx with hx|hx
   .exact ih x hx
   .rw[jJ hx];omega
termination_by n=>n
end
section
variable {a b:Au}
theorem Xk {s i j:Nat}(hi:i<a.st)(hj:j<a.st):uM [a] s i j=jf a.aN s i j:=by
 show (if i<a.st then (if j<a.st then jf a.aN s i j else 0) else _)=_
 rw[if_pos hi,if_pos hj]
theorem D8:ah [pJ a]=aA (ah [a]):=by
 have em:(ah [pJ a]).jb=(aA (ah [a])).jb:=by
  show (List.range a.sym).map _=((List.range a.sym).map _).map _
  rw[List.map_map];refine List.map_congr_left λs _=>?_;show Ig (aS [pJ a]) (uM [pJ a] s)=Ig (aS [a]) λi j=>((Ig (aS [a]) (uM [a] s)).getD j []).getD i 0
  rw[show aS [pJ a]=a.st from kG,show aS [a]=a.st from kG]
  refine Sl λi j hi hj=>?_;rw[NK hj hi,Xk (a:=pJ a) hi hj,Xk hj hi];show jf (pX _) s i j=_
  rw[DY,Ti]
 have e:∀ m m2:bV,m.n=m2.n->m.ini=m2.ini->m.fin=m2.fin->m.jb=m2.jb->m=m2:=λm m2 h1 h2 h3 h4=>by
  cases m;cases m2;simp only at h1 h2 h3 h4;subst h1 h2 h3 h4;rfl
 exact e _ _ rfl rfl rfl em
end
section
variable {a:Au}{n s j k B C N:Nat}{v:List Rat}{l:List bU}
theorem am7 (hv:∀ i,sz (v.getD i 0)<=B)(hl:∀ x,x ∈ l->x.t<n/\sz x.q<=C)(hN:l.length<=N)(h1:1<=B+C):sz ((kJ n v s l).getD j 0)<=N*(B+C+1)+1:=by
 rw[Lc λx hx=>(hl x hx).1];have h2:=JI (f:=inF v s j) (C:=B+C) (l:=l) λx hx=>by
  unfold inF
  split
  .have:=lu (v.getD x.f 0) x.q;have:=hv x.f;have:=(hl x hx).2;omega
  .rw[fH];exact h1
 have h3:=Nat.mul_le_mul_right (B+C+1) hN;omega
structure Au.Fw (a:Au):Prop where
 ok:a.Ok
 few:a.Few
 s4:a.sym<=4
 st1:1<=a.st
 arc:∀ x,x ∈ a.aN->sz x.q<=500
 num:a.aN.length<=20
theorem Au.Fw.Qe (f:a.Fw):(ah [a]).Ok/\(ah [a]).Full/\(ah [a]).Sz 24/\(ah [a]).n=a.st :=
 ⟨Wu f.ok,IE _,WT (λx hx=>by rw[jJ hx];exact f.few) (by rw[kG];exact f.few.st) f.s4,kG⟩
theorem U0 (f:a.Fw){u:List Int}(hu:iV a.sym u)(hl:u.length<=6)(k j:Nat):sz ((vY a (u.take k)).getD j 0)<=16777215:=by
 have hk:(u.take k).length<=6:=by rw[List.length_take];omega
 rw[CS f.ok λx hx=>hu x (List.mem_of_mem_take hx)];exact Nat.le_trans (jY f.Qe.2.2.1 hk j) (by decide)
theorem aT0 (f:a.Fw){u:List Int}(hu:iV a.sym u)(hl:u.length<=6)(k i j:Nat):sz ((kJ a.st (vY a (u.take k)) s (a.aN.take i)).getD j 0)<=335554321:=by
 have h:=am7 (v:=vY a (u.take k)) (n:=a.st) (s:=s) (j:=j) (l:=a.aN.take i) (B:=16777215) (C:=500) (N:=20) (λj=>U0 f hu hl k j)
  (λx hx=>⟨(f.ok.arc x (List.mem_of_mem_take hx)).2.1,f.arc x (List.mem_of_mem_take hx)⟩) (by rw[List.length_take];have:=f.num;omega) (by decide)
 omega
theorem aT1 (h:a.Ok)(z:a.Sz 1 10)(s4:a.sym<=4)(s1:1<=a.st)(s6:a.st<=6):(lF a).Fw :=
 ⟨h.form,(z.few s6).form,s4,s1,λx hx=>by
  have h1:=JS z.arc x hx;have h2:=Nat.mul_le_mul_right (1+2) (show a.aN.length+1<=11 by have:=z.num;omega)
  omega,Nat.le_trans (tZ a.aN) (Nat.le_trans z.num (by decide))⟩
theorem be8 (h:a.Ok)(z:a.Sz 1 10)(s4:a.sym<=4)(s1:1<=a.st)(s6:a.st<=6):(lF (pJ a)).Fw :=
 ⟨h.rev.form,(z.few s6).rev.form,s4,s1,λx hx=>by
  have h1:=JS z.rev.arc x hx;have h2:=Nat.mul_le_mul_right (40+2) (show (pJ a).aN.length+1<=11 by have:=z.rev.num;omega)
  omega,Nat.le_trans (tZ _) (Nat.le_trans z.rev.num (by decide))⟩
theorem Xl (h:a.Ok){u:List Int}(hu:iV a.sym u):vY (lF a) u=vY a u:=by
 rw[CS h.form hu,CS h hu,(Sr a).JD]
end
section
variable {m:bV}{rs:List bZ}{r:bZ}{v w:List Rat}{L K:List (List Int)}{a:Au}
def nY (v w:List Rat)(c:Rat):List Rat:=(List.range v.length).map λi=>v.getD i 0-w.getD i 0*c
theorem Am {c:Rat}:(nY v w c).length=v.length:=by simp[nY]
theorem Qg:nY v r.v (fJ v r)=jg v r:=by
 unfold nY jg;exact List.map_congr_left λi _=>by rw[Rat.mul_comm]
theorem aD8 (h:∀ r,r ∈ rs->r.p=dX r.v):∀ r,r ∈ uK rs w->r.p=dX r.v:=λr hr=>by
 unfold uK at hr
 split at hr
 .rcases uy hr with hr|hr
  .exact h r hr
  .rw[jJ hr];rfl
 .exact h r hr
theorem Xm {u:List Int}{j:Nat}(hj:j<L.length):(aZ m L u).getD j 0=Ld (bF m u) (bF (aA m) (L.getD j [])) m.n:=aT _ _ hj
end
section
variable {n:Nat}{rs:List bZ}{r:bZ}{v w:List Rat}
def CU (v:List Rat):Int:=if dX v<v.length then (dX v:Int) else -1
theorem BA (h:dX v<v.length):CU v=(dX v:Int):=if_pos h
theorem Qh (h:¬ dX v<v.length):CU v = -1:=if_neg h
theorem Xn {i:Nat}(hi:i<v.length)(h0:v.getD i 0≠0)(hb:∀ j,j<i->v.getD j 0=0):CU v=(i:Int):=by
 rw[BA (by rw[Le hi h0 hb];exact hi),Le hi h0 hb]
theorem Tq (h:∀ i,i<v.length->v.getD i 0=0):CU v = -1:=Qh λhlt=>tY hlt (h _ hlt)
theorem Qi (hl:r.p=dX r.v)(hp:r.p<r.v.length)(h0:r.v.getD r.p 0≠0):CU (iM r)=(r.p:Int):=by
 rw[BA (by rw[MO hl hp h0,Ak];exact hp),MO hl hp h0]
theorem am8:(Fq rs v).length=v.length:=by
 unfold Fq
 split
 .rw[Ak];exact jk rs v
 .exact jk rs v
theorem Qj:CU (Fq rs v)<0 ↔ bM rs v=false:=by
 unfold Fq;by_cases hg:bM rs v=true
 .have hp:dX (aO rs v)<(aO rs v).length:=vT.1 hg;rw[if_pos hg,Qi (r:=newR rs v) rfl hp (tY hp),hg];constructor
  .intro h;omega
  .intro h;cases h
 .rw[if_neg hg,Qh (λh=>hg (vT.2 h))];exact⟨λ_=>by simpa using hg,λ_=>by decide⟩
theorem Tt (hg:bM rs v=true):Fq rs v=iM (newR rs v):=if_pos hg
theorem Zc:(rs++[newR rs v]).map iM=rs.map iM++[iM (newR rs v)]:=by rw[List.map_append];rfl
theorem Xo {B:Nat}(h:∀ i,sz (r.v.getD i 0)<=B)(i:Nat):sz ((iM r).getD i 0)<=B+B:=by
 rw[D7];have:=O1 (r.v.getD i 0) (r.v.getD r.p 0);have:=h i;have:=h r.p;omega

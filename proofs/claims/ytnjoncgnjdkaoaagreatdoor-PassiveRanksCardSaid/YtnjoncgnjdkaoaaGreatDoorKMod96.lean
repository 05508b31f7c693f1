/-
  M, chapter 23: leads, rests, and the sizes of rows with 1 at their leads.
-/
import Derived.Test.YtnjoncgnjdkaoaaGreatDoorKAlg45
set_option linter.unusedVariables false
set_option linter.unusedSimpArgs false
namespace Go.AL
open Go Go.BigFrame
section
variable {a b:Au}{B k:Nat}{l out:List bD}{x:bD}
theorem ak1 (h:∀ y,y ∈ out->sz y.q<=(k+1)*(B+2))(hx:sz x.q<=B):∀ y,y ∈ zF out x->sz y.q<=(k+2)*(B+2):=by
 have up:∀ n,n<=(k+1)*(B+2)->n<=(k+2)*(B+2):=λn hn=>Nat.le_trans hn (Nat.mul_le_mul_right _ (by omega))
 intro y hy;have h2:(k+2)*(B+2)=(k+1)*(B+2)+(B+2):=Nat.succ_mul _ _;unfold zF at hy
 split at hy
 .rename_i hc;rcases List.mem_or_eq_of_mem_set hy with hy|rfl
  .exact up _ (h y hy)
  .have h1:=h _ (getD_mem hc.1 default);have h3:=AB (out.getD (tC out x) default).q x.q;show sz ((out.getD (tC out x) default).q+x.q)<=_
   omega
 .rcases rD hy with hy|hy
  .exact up _ (h y (List.mem_of_mem_take hy))
  .rcases List.mem_cons.1 hy with rfl|hy
   .omega
   .exact up _ (h y (List.mem_of_mem_drop hy))
theorem Ur:∀ (l out:List bD) (k:Nat),(∀ x,x ∈ l->sz x.q<=B)->(∀ y,y ∈ out->sz y.q<=(k+1)*(B+2))->∀ y,y ∈ l.foldl zF out->sz y.q<=(k+l.length+1)*(B+2)
 | [],out,k,_,h=>h
 | x::l,out,k,hz,h=>by
  rw[List.foldl_cons,List.length_cons,show k+(l.length+1)+1=(k+1)+l.length+1 by omega]
  exact Ur l _ (k+1) (λy hy=>hz y (List.mem_cons_of_mem _ hy)) (ak1 h (hz x vC))
theorem Zm (out:List bD)(x:bD):(zF out x).length<=out.length+1:=by
 unfold zF
 split
 .rw[List.length_set];omega
 .rw[iU,List.length_cons,List.length_take,List.length_drop];omega
theorem PO:∀ (l out:List bD),(l.foldl zF out).length<=out.length+l.length
 | [],out=>Nat.le_refl _
 | x::l,out=>by
  rw[List.foldl_cons,List.length_cons];have:=PO l (zF out x);have:=Zm out x;omega
theorem yB (l:List bD):(qH l).length<=l.length:=by
 unfold qH RN;refine Nat.le_trans (List.length_filter_le ..) ?_;have:=PO l [];rw[List.length_nil,Nat.zero_add] at this;exact this
theorem H7 (hz:∀ x,x ∈ l->sz x.q<=B):∀ y,y ∈ qH l->sz y.q<=(l.length+1)*(B+2):=λy hy=>by
 have:=Ur l [] 0 hz (λy hy=>by cases hy) y (List.mem_filter.1 hy).1
 rwa [Nat.zero_add] at this
theorem Au.Sz.wide (h:a.Sz 1 10):a.Sz 134217728 20 :=
 ⟨λq hq=>Nat.le_trans (h.ini q hq) (by decide),λq hq=>Nat.le_trans (h.fin q hq) (by decide),λx hx=>Nat.le_trans (h.arc x hx) (by decide),Nat.le_trans h.num (by decide)⟩
theorem Au.Sz.form (h:a.Sz 1 10):(rQ a).Sz 134217728 20:=by
 refine⟨h.wide.ini,h.wide.fin,λx hx=>?_,Nat.le_trans (yB a.aP) (Nat.le_trans h.num (by decide))⟩
 have h1:=H7 h.arc x hx;have h2:=Nat.mul_le_mul_right (1+2) (show a.aP.length+1<=11 by have:=h.num;omega)
 omega
theorem Au.Oi.form (h:a.Oi):(rQ a).Oi:=⟨h.st,h.ini,h.fin,λs i j=>by rw[show jd (rQ a).aP s i j=jd a.aP s i j from Fe];exact h.ent s i j⟩
end
section
variable {a b:Au}{B N K:Nat}{q:Rat}{s i j:Nat}
theorem Au.Sz.rev (h:a.Sz 1 10):(sJ a).Sz 40 10:=by
 have hl:(a.aP.map λx=>(⟨x.t,x.l,x.f,x.q⟩:bD)).length=a.aP.length:=dD ..;refine⟨λy hy=>Nat.le_trans (h.fin y hy) (by decide),λy hy=>Nat.le_trans (h.ini y hy) (by decide),λx hx=>?_,Nat.le_trans (yB _) (by rw[hl];exact h.num)⟩
 have hy9:∀ y,y ∈ (a.aP.map λx=>(⟨x.t,x.l,x.f,x.q⟩:bD))->sz y.q<=1:=λy hy=>by
  obtain⟨x,hx,rfl⟩:=jY hy;exact h.arc x hx
 have h1:sz x.q<=_:=H7 hy9 x hx;have h2:=Nat.mul_le_mul_right (1+2) (show (a.aP.map λx=>(⟨x.t,x.l,x.f,x.q⟩:bD)).length+1<=11 by rw[hl];have:=h.num;omega)
 omega
theorem Au.Sz.up {B2 N2:Nat}(h:a.Sz B N)(hb:B<=B2)(hn:N<=N2):a.Sz B2 N2 :=
 ⟨λq hq=>Nat.le_trans (h.ini q hq) hb,λq hq=>Nat.le_trans (h.fin q hq) hb,λx hx=>Nat.le_trans (h.arc x hx) hb,Nat.le_trans h.num hn⟩
theorem PS {l:List bD}:jd (l.map λx=>(⟨x.t,x.l,x.f,x.q⟩:bD)) s i j=jd l s j i:=by
 unfold jd;rw[TL];refine L9 λx _=>?_;show (if x.t=i/\x.l=s+1/\x.f=j then x.q else 0)=if x.f=j/\x.l=s+1/\x.t=i then x.q else 0
 by_cases hc:x.f=j/\x.l=s+1/\x.t=i
 .rw[if_pos hc,if_pos ⟨hc.2.2,hc.2.1,hc.1⟩]
 .rw[if_neg hc,if_neg λhd=>hc ⟨hd.2.2,hd.2.1,hd.1⟩]
theorem Au.Oi.rev (h:a.Oi):(sJ a).Oi:=⟨h.st,h.fin,h.ini,λs i j=>by
 show sz (jd (qH _) s i j)<=24
 rw[Fe,PS];exact h.ent ..⟩
end
section
variable {a b:Au}{n s i j k:Nat}{v w out:List Rat}{l:List bD}{x:bD}
theorem oW {α:Type}(d:α){l:List α}{i:Nat}(h:i<l.length):l.take (i+1)=l.take i++[l.getD i d]:=by
 rw[List.take_succ_eq_append_getElem h,gI,kL h];rfl
def Nh (v:List Rat)(s:Nat)(out:List Rat)(x:bD):List Rat:=if x.l=s then out.set x.t (out.getD x.t 0+v.getD x.f 0*x.q) else out
def gQ (n:Nat)(v:List Rat)(s:Nat)(l:List bD):List Rat:=l.foldl (Nh v s) (List.replicate n 0)
theorem Us:(Nh v s out x).length=out.length:=by unfold Nh;split <;> simp
theorem ru:(gQ n v s l).length=n:=by
 have:∀ (l:List bD) (out:List Rat),(l.foldl (Nh v s) out).length=out.length:=λl=>by
  induction l with
  | nil=>exact λ_=>rfl
  | cons x l ih=>exact λout=>by rw[List.foldl_cons,ih,Us]
 unfold gQ;rw[this,List.length_replicate]
theorem wo (h:i<l.length):gQ n v s (l.take (i+1))=Nh v s (gQ n v s (l.take i)) (l.getD i default):=by
 unfold gQ;rw[oW default h,List.foldl_append];rfl
theorem Zn {l:List Rat}{y:Rat}(hi:i<l.length):(l.set i y).getD j 0=if i=j then y else l.getD j 0:=by
 rw[gI,List.getElem?_set,gI];by_cases h:i=j
 .subst h;rw[if_pos rfl,if_pos hi,if_pos rfl];rfl
 .rw[if_neg h,if_neg h]
def inF (v:List Rat)(s j:Nat)(x:bD):Rat:=if x.l=s/\x.t=j then v.getD x.f 0*x.q else 0
theorem PU:∀ (l:List bD) (out:List Rat),(∀ x,x ∈ l->x.t<out.length)->(l.foldl (Nh v s) out).getD j 0=out.getD j 0+jD (inF v s j) l
 | [],out,_=>by rw[List.foldl_nil,jD,Rat.add_zero]
 | x :: l, out, h => by
  have hx:=h x vC;rw[List.foldl_cons,PU l _ (λy hy=>by rw[Us];exact h y (List.mem_cons_of_mem _ hy)),jD,<- Rat.add_assoc]
  congr 1;unfold Nh inF;by_cases hl:x.l=s
  .rw[if_pos hl,Zn hx];by_cases ht:x.t=j
   .rw[if_pos ht,if_pos ⟨hl,ht⟩,ht]
   .rw[if_neg ht,if_neg (λe=>ht e.2),Rat.add_zero]
  .rw[if_neg hl,if_neg (λe=>hl e.1),Rat.add_zero]
theorem aB1:(List.replicate n (0:Rat)).getD j 0=0:=by
 rw[gI,List.getElem?_replicate]
 split <;> rfl
theorem I5 (h:∀ x,x ∈ l->x.t<n):(gQ n v s l).getD j 0=jD (inF v s j) l:=by
 unfold gQ;rw[PU l _ (λx hx=>by rw[List.length_replicate];exact h x hx),aB1,Rat.zero_add]
theorem aB2 (l:List bD)(hf:∀ x,x ∈ l->x.f<n):aW (λi=>v.getD i 0*jd l k i j) n=jD (inF v (k+1) j) l:=by
 induction l with
 | nil=>rw[jD];exact lV λi _=>by rw[Ee,Rat.mul_zero]
 | cons x l ih =>
  rw[jD,<- ih λy hy=>hf y (List.mem_cons_of_mem _ hy)];have e:(λi=>v.getD i 0*jd (x::l) k i j)=λi=>v.getD i 0*xE k i j x+v.getD i 0*jd l k i j:=by
   funext i;rw[vZ,Rat.mul_add]
  rw[e,qG];congr 1;unfold inF;by_cases hc:x.l=k+1/\x.t=j
  .rw[if_pos hc];have e2:(λi=>v.getD i 0*xE k i j x)=λi=>if x.f=i then v.getD i 0*x.q else 0:=by
    funext i;unfold xE;by_cases hi:x.f=i
    .rw[if_pos ⟨hi,hc.1,hc.2⟩,if_pos hi]
    .rw[if_neg (λe=>hi e.1),if_neg hi,Rat.mul_zero]
   rw[e2,vU (v:=λi=>v.getD i 0*x.q) (hf x vC)]
  .rw[if_neg hc];exact lV λi _=>by
    unfold xE;rw[if_neg (λe=>hc ⟨e.2.1,e.2.2⟩),Rat.mul_zero]
theorem Wx (ha:a.Ok)(s1:1<=s)(s2:s<=a.sym):gQ a.st v s a.aP=stepM (aY [a]) v (s-1):=by
 have hn:(aY [a]).n=a.st:=gG;refine List.ext_getElem (by rw[ru,EW,hn]) λj h1 h2=>?_
 rw[ru] at h1;have e1:(gQ a.st v s a.aP)[j]=(gQ a.st v s a.aP).getD j 0:=by rw[gI,kL];rfl
 have e2:(stepM (aY [a]) v (s-1))[j]=(stepM (aY [a]) v (s-1)).getD j 0:=by rw[gI,kL];rfl
 rw[e1,e2,I5 λx hx=>(ha.arc x hx).2.1];unfold stepM;rw[hn,aK _ _ h1];have e3:s-1+1=s:=by omega
 rw[show jD (inF v s j) a.aP=jD (inF v (s-1+1) j) a.aP by rw[e3],<- aB2 (n:=a.st) a.aP λx hx=>(ha.arc x hx).1]
 refine aJ λi hi=>?_;rw[IK (l:=[a]) (by show s-1<a.sym;omega) (by rw[gG];exact hi) (by rw[gG];exact h1)]
 show _=_*(if i<a.st then (if j<a.st then jd a.aP (s-1) i j else 0) else _)
 rw[if_pos hi,if_pos h1]
def pX (a:Au)(u:List Int):List Rat:=u.foldl (λv x=>gQ a.st v x.toNat a.aP) a.ini
theorem En {u:List Int}(h:i<u.length):pX a (u.take (i+1))=gQ a.st (pX a (u.take i)) (u.getD i 0).toNat a.aP:=by
 unfold pX;rw[oW 0 h,List.foldl_append];rfl
theorem Fg (ha:a.Ok)(u:List Int):(pX a u).length=a.st:=by
 have:∀ (u:List Int) (v:List Rat),v.length=a.st->(u.foldl (λv x=>gQ a.st v x.toNat a.aP) v).length=a.st:=λu=>by
  induction u with
  | nil=>exact λ_ h=>h
  | cons x u ih=>exact λv _=>ih _ ru
 exact this u a.ini ha.ini
theorem Dq (ha:a.Ok){u:List Int}(hu:iV a.sym u):pX a u=bQ (aY [a]) u:=by
 have:∀ (u:List Int) (v:List Rat),iV a.sym u->u.foldl (λv x=>gQ a.st v x.toNat a.aP) v=u.foldl (λv x=>stepM (aY [a]) v (x.toNat-1)) v:=λu=>by
  induction u with
  | nil=>exact λ_ _=>rfl
  | cons x u ih =>
   intro v hx;have h1:=hx x vC;rw[List.foldl_cons,List.foldl_cons,Wx ha (by omega) (by omega)]
   exact ih _ λy hy=>hx y (List.mem_cons_of_mem _ hy)
 unfold pX bQ;rw[this u a.ini hu,show (aY [a]).ini=a.ini from List.append_nil _]
def zH (v w:List Rat)(i:Nat):Rat:=aW (λi=>v.getD i 0*w.getD i 0) i
theorem Ut (ha:a.Ok){u:List Int}(hu:iV a.sym u):zH (pX a u) a.fin a.st=jm a u:=by
 rw[Dq ha hu];unfold zH jm wW Bl;rw[show (aY [a]).n=a.st from gG,show (aY [a]).fin=a.fin from List.append_nil _]
theorem Uu {B:Nat}(hv:∀ i,sz (v.getD i 0)<=B)(hl:∀ x,x ∈ l->x.t<n/\sz x.q<=6)(h10:l.length<=20):sz ((gQ n v s l).getD j 0)<=20*(B+7)+1:=by
 rw[I5 λx hx=>(hl x hx).1];have h1:=H6 (f:=inF v s j) (C:=B+6) (l:=l) λx hx=>by
  unfold inF
  split
  .have:=lU (v.getD x.f 0) x.q;have:=hv x.f;have:=(hl x hx).2;omega
  .rw[fK];omega
 have h2:=Nat.mul_le_mul_right (B+6+1) h10;omega
def fB:Nat->Nat
 | 0=>6
 | k+1=>20*(fB k+7)+1
theorem PW {B:Nat}{v:List Rat}(h:Small B v)(h1:1<=B)(i:Nat):sz (v.getD i 0)<=B:=by
 rw[gI];cases hg:v[i]? with
 | none=>show sz 0<=B;rw[fK];exact h1
 | some q=>exact h q (List.mem_of_getElem? hg)
theorem Wy (ha:a.Ok)(hz:a.Sz 6 20)(u:List Int):∀ k,k<=u.length->∀ j,sz ((pX a (u.take k)).getD j 0)<=fB k
 | 0,_,j=>by
  rw[List.take_zero];exact PW hz.ini (by decide) j
 | k+1,hk,j=>by
  rw[En (by omega)]
  exact Uu (Wy ha hz u k (by omega)) (λx hx=>⟨(ha.arc x hx).2.1,hz.arc x hx⟩) hz.num
theorem aH9 (hk:k<=4):fB k<=2147361:=by
 have:k=0 \/ k=1 \/ k=2 \/ k=3 \/ k=4:=by omega
 rcases this with rfl|rfl|rfl|rfl|rfl <;> decide
end
section
variable {m:dZ}{B k:Nat}{V K Q:List (List Int)}{w u:List Int}{rs:List bJ}{y:MZ}{v:List Rat}{r:bJ}
def vI (k:Nat)(K:List (List Int)):List (List Int):=[]::K.flatMap (dh k)
theorem Nj:vI k (K++[w])=vI k K++dh k w:=by
 unfold vI;rw[List.flatMap_append,List.flatMap_cons,List.flatMap_nil,List.append_nil,List.cons_append]
structure kH (m:dZ) (B:Nat) (Q:List (List Int)) (y:MZ):Prop where
 sp:pK m.n B y.rs
 join:∃ V,Join m V y.ks Q y.rs/\V++Q=vI m.k y.ks
 len:Dp y.ks Q
 lead:∀ r,r ∈ y.rs->r.p=dV r.v
 ord:y.ks.Pairwise λa b=>mY a b<0
theorem kH.start (m:dZ)(B:Nat):kH m B [[]] ⟨[],[]⟩:=⟨pK.nil,⟨[],Join.start m,rfl⟩,Dp.start,λ_ h=>(by cases h),List.Pairwise.nil⟩
theorem kH.b (h:kH m B Q y):IZ m B Q y:=⟨h.sp,have ⟨V,j,_⟩:=h.join;⟨V,j⟩,h.len⟩
theorem kH.next (ok:m.Ok)(h1:1<=B)(hz:∀ i,sz ((bQ m w).getD i 0)<=B)(h:kH m B (w::Q) y) :
  ((xF m w y).1=true->kH m B (Q++dh m.k w) (xF m w y).2/\kG m (Q++dh m.k w) (xF m w y).2.rs<kG m (w::Q) y.rs)/\((xF m w y).1=false->kH m B Q (xF m w y).2/\kG m Q (xF m w y).2.rs<kG m (w::Q) y.rs):=by
 obtain⟨V,j,e⟩:=h.join;unfold xF;by_cases hg:bg y.rs (bQ m w)=true
 .rw[if_pos hg];refine⟨λ_=>⟨⟨h.sp.grow (xw ok w) h1 hz hg,⟨_,j.keep ok hg,?_⟩,h.len.keep,λr hr=>?_,?_⟩,E5 ok j hg⟩,λx=>by cases x⟩
  .show V++[w]++(Q++dh m.k w)=vI m.k (y.ks++[w])
   rw[Nj,<- e,List.append_assoc,List.append_assoc];rfl
  .rcases rD hr with hr|hr
   .exact h.lead r hr
   .rw[kJ hr];rfl
  .refine List.pairwise_append.2 ⟨h.ord,List.pairwise_singleton ..,λu hu q hq=>?_⟩;rw[kJ hq];exact (List.pairwise_append.1 j.MF.ord).2.2 u (j.MF.sub u hu) w vC
 .rw[if_neg hg];have hg:bg y.rs (bQ m w)=false:=by simpa using hg
  exact⟨λx=>(by cases x),λ_=>⟨⟨h.sp,⟨_,j.drop ok hg,by rw[List.append_assoc];exact e⟩,h.len.drop,h.lead,h.ord⟩,yA⟩⟩
def dK (r:bJ):List Rat:=r.v.map λx=>x / r.v.getD r.p 0
theorem pq:(dK r).length=r.v.length:=dD ..
theorem yC (i:Nat):(dK r).getD i 0=r.v.getD i 0 / r.v.getD r.p 0:=by
 unfold dK;rw[gI,List.getElem?_map,gI (l:=r.v) (i:=i)];cases r.v[i]? with
 | none=>show (0:Rat)=0 / _;rw[Rat.div_def,Rat.zero_mul]
 | some x=>rfl
theorem BH {l:List Rat}{p:Nat}(hp:p<l.length)(h0:l.getD p 0≠0)(hb:∀ i,i<p->l.getD i 0=0):dV l=p:=by
 rcases Nat.lt_trichotomy (dV l) p with g|g|g
 .exact absurd (hb _ g) (ul (Nat.lt_trans g hp))
 .exact g
 .exact absurd (sH g) h0
theorem JJ (hl:r.p=dV r.v)(hp:r.p<r.v.length)(h0:r.v.getD r.p 0≠0):dV (dK r)=r.p:=by
 refine BH (by rw[pq];exact hp) ?_ λi hi=>?_
 .rw[yC,Rat.div_def,Rat.mul_inv_cancel _ h0];decide
 .rw[yC,sH (by rw[<- hl];exact hi),Rat.div_def,Rat.zero_mul]
def ak3 (f:Rat)(u v:List Rat):List Rat:=(List.range v.length).map λi=>v.getD i 0-f*u.getD i 0
theorem Nk (h0:r.v.getD r.p 0≠0):ak3 (v.getD r.p 0) (dK r) v=iQ v r:=by
 unfold ak3 iQ;refine List.map_congr_left λi _=>?_;rw[yC];unfold ou;rw[Rat.div_def,Rat.div_def,Rat.mul_assoc,Rat.mul_comm (r.v.getD i 0)]
def Dz (rs:List bJ)(v:List Rat):List Rat:=if bg rs v=true then dK (newR rs v) else aQ rs v
theorem uw:bg rs v=true ↔ dV (aQ rs v)<(aQ rs v).length:=by unfold bg;exact decide_eq_true_iff
theorem Uw (hs:∀ u,u ∈ K->u ∈ vI k K):∀ (n:Nat) (u:List Int),u.length=n->u ∈ K->iV k u
 | n, u, hn, hu => by
  rcases List.mem_cons.1 (hs u hu) with rfl|h
  .exact λx hx=>by cases hx
  .obtain⟨z,hz,h⟩:=List.mem_flatMap.1 h;obtain⟨s,hs2,rfl⟩:=jY h;rw[iU,jL] at hn;have ih:=Uw hs z.length z rfl hz;have:=List.mem_range.1 hs2;intro x hx;rcases rD hx with hx|hx
   .exact ih x hx
   .rw[kJ hx];omega
termination_by n=>n
end
section
variable {a b:Au}
theorem Ux {s i j:Nat}(hi:i<a.st)(hj:j<a.st):AP [a] s i j=jd a.aP s i j:=by
 show (if i<a.st then (if j<a.st then jd a.aP s i j else 0) else _)=_
 rw[if_pos hi,if_pos hj]
theorem PX:aY [sJ a]=bI (aY [a]):=by
 have em:(aY [sJ a]).Bj=(bI (aY [a])).Bj:=by
  show (List.range a.sym).map _=((List.range a.sym).map _).map _
  rw[List.map_map];refine List.map_congr_left λs _=>?_;show Gf (um [sJ a]) (AP [sJ a] s)=Gf (um [a]) λi j=>((Gf (um [a]) (AP [a] s)).getD j []).getD i 0
  rw[show um [sJ a]=a.st from gG,show um [a]=a.st from gG]
  refine Pq λi j hi hj=>?_;rw[J9 hj hi,Ux (a:=sJ a) hi hj,Ux hj hi];show jd (qH _) s i j=_
  rw[Fe,PS]
 have e:∀ m m2:dZ,m.n=m2.n->m.ini=m2.ini->m.fin=m2.fin->m.Bj=m2.Bj->m=m2:=λm m2 h1 h2 h3 h4=>by
  cases m;cases m2;simp only at h1 h2 h3 h4;subst h1 h2 h3 h4;rfl
 exact e _ _ rfl rfl rfl em
end
section
variable {a:Au}{n s j k B C N:Nat}{v:List Rat}{l:List bD}
theorem I7 (hv:∀ i,sz (v.getD i 0)<=B)(hl:∀ x,x ∈ l->x.t<n/\sz x.q<=C)(hN:l.length<=N)(h1:1<=B+C):sz ((gQ n v s l).getD j 0)<=N*(B+C+1)+1:=by
 rw[I5 λx hx=>(hl x hx).1];have h2:=H6 (f:=inF v s j) (C:=B+C) (l:=l) λx hx=>by
  unfold inF
  split
  .have:=lU (v.getD x.f 0) x.q;have:=hv x.f;have:=(hl x hx).2;omega
  .rw[fK];exact h1
 have h3:=Nat.mul_le_mul_right (B+C+1) hN;omega
structure Au.Fw (a:Au):Prop where
 ok:a.Ok
 few:a.Oi
 s4:a.sym<=4
 st1:1<=a.st
 arc:∀ x,x ∈ a.aP->sz x.q<=5000
 num:a.aP.length<=40
theorem Au.Fw.Uy (f:a.Fw):(aY [a]).Ok/\(aY [a]).Full/\(aY [a]).Sz 24/\(aY [a]).n=a.st :=
 ⟨MG f.ok,Gi _,Eh (λx hx=>by rw[kJ hx];exact f.few) (by rw[gG];exact f.few.st) f.s4,gG⟩
theorem Rj (f:a.Fw){u:List Int}(hu:iV a.sym u)(hl:u.length<=6)(k j:Nat):sz ((pX a (u.take k)).getD j 0)<=16777215:=by
 have hk:(u.take k).length<=6:=by rw[List.length_take];omega
 rw[Dq f.ok λx hx=>hu x (List.mem_of_mem_take hx)];exact Nat.le_trans (Hz f.Uy.2.2.1 hk j) (by decide)
theorem aB3 (f:a.Fw){u:List Int}(hu:iV a.sym u)(hl:u.length<=6)(k i j:Nat):sz ((gQ a.st (pX a (u.take k)) s (a.aP.take i)).getD j 0)<=671288641:=by
 have h:=I7 (v:=pX a (u.take k)) (n:=a.st) (s:=s) (j:=j) (l:=a.aP.take i) (B:=16777215) (C:=5000) (N:=40) (λj=>Rj f hu hl k j)
  (λx hx=>⟨(f.ok.arc x (List.mem_of_mem_take hx)).2.1,f.arc x (List.mem_of_mem_take hx)⟩) (by rw[List.length_take];have:=f.num;omega) (by decide)
 omega
theorem ak4 (h:a.Ok){u:List Int}(hu:iV a.sym u):pX (rQ a) u=pX a u:=by
 rw[Dq h.form hu,Dq h hu,(IW a).Ue]
end
section
variable {m:dZ}{rs:List bJ}{r:bJ}{v w:List Rat}{L K:List (List Int)}{a:Au}
def BI (v w:List Rat)(c:Rat):List Rat:=(List.range v.length).map λi=>v.getD i 0-w.getD i 0*c
theorem I8 {c:Rat}:(BI v w c).length=v.length:=by simp[BI]
theorem WA:BI v r.v (ou v r)=iQ v r:=by
 unfold BI iQ;exact List.map_congr_left λi _=>by rw[Rat.mul_comm]
theorem Uz (h:∀ r,r ∈ rs->r.p=dV r.v):∀ r,r ∈ vw rs w->r.p=dV r.v:=λr hr=>by
 unfold vw at hr
 split at hr
 .rcases rD hr with hr|hr
  .exact h r hr
  .rw[kJ hr];rfl
 .exact h r hr
theorem aB4 (m:dZ)(K:List (List Int)):spR m [] K=[]:=by
 have h:∀ rs:List bJ,rs=[]->∀ u,vw rs (dJ m [] u)=[]:=λrs e u=>by
  subst e;unfold vw;rw[if_neg];unfold bg;rw[decide_eq_true_eq];exact Nat.not_lt_zero _
 unfold spR
 induction K with
 | nil=>rfl
 | cons u K ih=>rw[List.foldl_cons,h [] rfl];exact ih
theorem ak5 {u:List Int}{j:Nat}(hj:j<L.length):(dJ m L u).getD j 0=zH (bQ m u) (bQ (bI m) (L.getD j [])) m.n:=aK _ _ hj
theorem Zo (h:a.Fw){B:Nat}(h1:1<=B){y z:MZ}(hz:∀ u,u ∈ y.ks->∀ i,sz ((dJ (aY [a]) z.ks u).getD i 0)<=B)(hy:kH (aY [a]) B [] y)(hl:kH (bI (aY [a])) B [] z):(spR (aY [a]) z.ks y.ks).length=Wj a:=by
 obtain⟨V,j,_⟩:=hy.join;obtain⟨V2,j2,_⟩:=hl.join;have hr:=Un h.Uy.1 h1 hz j j2;rw[hr];unfold Wj;rw[show (aY [a]).k=a.sym from E8]
 rfl
end
section
variable {n:Nat}{rs:List bJ}{r:bJ}{v w:List Rat}
def BJ (v:List Rat):Int:=if dV v<v.length then (dV v:Int) else -1
theorem Dt (h:dV v<v.length):BJ v=(dV v:Int):=if_pos h
theorem Nl (h:¬ dV v<v.length):BJ v = -1:=if_neg h
theorem UA {i:Nat}(hi:i<v.length)(h0:v.getD i 0≠0)(hb:∀ j,j<i->v.getD j 0=0):BJ v=(i:Int):=by
 rw[Dt (by rw[BH hi h0 hb];exact hi),BH hi h0 hb]
theorem PY (h:∀ i,i<v.length->v.getD i 0=0):BJ v = -1:=Nl λhlt=>ul hlt (h _ hlt)
theorem Np (hl:r.p=dV r.v)(hp:r.p<r.v.length)(h0:r.v.getD r.p 0≠0):BJ (dK r)=(r.p:Int):=by
 rw[Dt (by rw[JJ hl hp h0,pq];exact hp),JJ hl hp h0]
theorem Zp:(Dz rs v).length=v.length:=by
 unfold Dz
 split
 .rw[pq];exact kE rs v
 .exact kE rs v
theorem Nq:BJ (Dz rs v)<0 ↔ bg rs v=false:=by
 unfold Dz;by_cases hg:bg rs v=true
 .have hp:dV (aQ rs v)<(aQ rs v).length:=uw.1 hg;rw[if_pos hg,Np (r:=newR rs v) rfl hp (ul hp),hg];constructor
  .intro h;omega
  .intro h;cases h
 .rw[if_neg hg,Nl (λh=>hg (uw.2 h))];exact⟨λ_=>by simpa using hg,λ_=>by decide⟩
theorem PZ (hg:bg rs v=true):Dz rs v=dK (newR rs v):=if_pos hg
theorem WB:(rs++[newR rs v]).map dK=rs.map dK++[dK (newR rs v)]:=by rw[List.map_append];rfl
theorem Nr {B:Nat}(h:∀ i,sz (r.v.getD i 0)<=B)(i:Nat):sz ((dK r).getD i 0)<=B+B:=by
 rw[yC];have:=LW (r.v.getD i 0) (r.v.getD r.p 0);have:=h i;have:=h r.p;omega

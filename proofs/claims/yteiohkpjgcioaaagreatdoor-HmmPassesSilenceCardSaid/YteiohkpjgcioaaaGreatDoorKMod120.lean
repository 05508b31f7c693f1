/-
  M, chapter 33: a state that stays as long as a list of shares says gives the word of k + 1 symbols the share k; the numbers on the way are small.
-/
import Derived.Test.YteiohkpjgcioaaaGreatDoorKWgA
set_option linter.unusedVariables false
set_option linter.unusedSimpArgs false
namespace Go.AL
open Go Go.BigFrame
section
variable {g:HM}{p:Rat}{f i k s c:Nat}{e w:List Rat}
def eY (g:HM)(f:Nat):List Rat:=if f=0 then g.ini else g.trans.getD (f-1) []
def XV (p:Rat)(f i:Nat)(e:List Rat)(k:Nat):List aT:=(List.range k).flatMap λs=>if 0<p*e.getD s 0 then [⟨f,s+1,i+1,p*e.getD s 0⟩] else []
def Ue (g:HM)(f k:Nat):List aT:=(List.range k).flatMap λi=>XV ((eY g f).getD i 0) f i (g.emit.getD i []) (g.emit.getD i []).length
def Md (g:HM)(k:Nat):List aT:=(List.range k).flatMap λf=>Ue g f (eY g f).length
def bT (g:HM):Au:=⟨g.sym,g.st+1,1::List.replicate g.st 0,g.empty::g.stop,Md g (g.st+1)⟩
theorem CU:XV p f i e (k+1)=XV p f i e k++if 0<p*e.getD k 0 then [⟨f,k+1,i+1,p*e.getD k 0⟩] else []:=by
 unfold XV;rw[List.range_succ,List.flatMap_append];simp
theorem JF:Ue g f (k+1)=Ue g f k++XV ((eY g f).getD k 0) f k (g.emit.getD k []) (g.emit.getD k []).length:=by
 unfold Ue;rw[List.range_succ,List.flatMap_append];simp
theorem JG:Md g (k+1)=Md g k++Ue g k (eY g k).length:=by
 unfold Md;rw[List.range_succ,List.flatMap_append];simp
theorem aG6 {x:aT}(h:x ∈ XV p f i e k):∃ s,s<k/\x=⟨f,s+1,i+1,p*e.getD s 0⟩ /\ 0<p*e.getD s 0:=by
 obtain⟨s,hs,hx⟩:=List.mem_flatMap.1 h
 split at hx
 .exact⟨s,List.mem_range.1 hs,qm hx,by assumption⟩
 .cases hx
theorem aG7 {x:aT}(h:x ∈ Ue g f k):∃ i,i<k/\∃ s,s<(g.emit.getD i []).length/\x=⟨f,s+1,i+1,(eY g f).getD i 0*EN g i s⟩:=by
 obtain⟨i,hi,hx⟩:=List.mem_flatMap.1 h;obtain⟨s,hs,e,_⟩:=aG6 hx;exact⟨i,List.mem_range.1 hi,s,hs,e⟩
theorem Zl {x:aT}(h:x ∈ Md g k):∃ f,f<k/\∃ i,i<(eY g f).length/\∃ s,s<(g.emit.getD i []).length/\x=⟨f,s+1,i+1,(eY g f).getD i 0*EN g i s⟩:=by
 obtain⟨f,hf,hx⟩:=List.mem_flatMap.1 h;obtain⟨i,hi,s,hs,e⟩:=aG7 hx;exact⟨f,List.mem_range.1 hf,i,hi,s,hs,e⟩
theorem Zm:(XV p f i e k).length<=k:=by
 induction k with
 | zero=>exact Nat.le_refl _
 | succ k ih =>
  rw[CU,jT];have:(if 0<p*e.getD k 0 then [(⟨f,k+1,i+1,p*e.getD k 0⟩:aT)] else []).length<=1:=by split <;> simp
  omega
theorem Zn {m:Nat}(hm:∀ i,i<k->(g.emit.getD i []).length<=m):(Ue g f k).length<=k*m:=by
 induction k with
 | zero=>simp[Ue]
 | succ k ih =>
  rw[JF,jT,Nat.succ_mul];have h1:=ih λi hi=>hm i (by omega)
  have h2:=Zm (p:=(eY g f).getD k 0) (f:=f) (i:=k) (e:=g.emit.getD k []) (k:=(g.emit.getD k []).length);have h3:=hm k (Nat.lt_succ_self k);omega
theorem Zo {m n:Nat}(hn:∀ f,f<k->(eY g f).length<=n)(hm:∀ i,(g.emit.getD i []).length<=m):(Md g k).length<=k*(n*m):=by
 induction k with
 | zero=>simp[Md]
 | succ k ih =>
  rw[JG,jT,Nat.succ_mul];have h1:=ih λi hi=>hn i (by omega)
  have h2:=Zn (g:=g) (f:=k) (k:=(eY g k).length) (m:=m) λi _=>hm i;have h3:=Nat.mul_le_mul_right m (hn k (Nat.lt_succ_self k));omega
theorem bk5 (hp:0<=p)(he:∀ s,0<=e.getD s 0){F C S:Nat}:gV (XV p f i e k) S F C=if f=F/\i+1=C/\S<k then p*e.getD S 0 else 0:=by
 induction k with
 | zero=>rw[if_neg (by omega)];rfl
 | succ k ih =>
  rw[CU,qx,ih];have h1:gV (if 0<p*e.getD k 0 then [(⟨f,k+1,i+1,p*e.getD k 0⟩:aT)] else []) S F C=if f=F/\k=S/\i+1=C then p*e.getD k 0 else 0:=by
   by_cases h:0<p*e.getD k 0
   .rw[if_pos h];show (if f=F/\k+1=S+1/\i+1=C then p*e.getD k 0 else 0)+0=_
    rw[Rat.add_zero];by_cases h2:f=F/\k=S/\i+1=C
    .rw[if_pos h2,if_pos ⟨h2.1,by omega,h2.2.2⟩]
    .rw[if_neg h2,if_neg (λq=>h2 ⟨q.1,by omega,q.2.2⟩)]
   .rw[if_neg h];have h0:p*e.getD k 0=0:=Rat.le_antisymm (Rat.not_lt.1 h) (Rat.mul_nonneg hp (he k));rw[h0]
    split <;> rfl
  rw[h1];by_cases h2:f=F/\i+1=C
  .by_cases h3:k=S
   .rw[if_neg (by omega),if_pos ⟨h2.1,h3,h2.2⟩,if_pos ⟨h2.1,h2.2,by omega⟩,h3,Rat.zero_add]
   .by_cases h4:S<k
    .rw[if_pos ⟨h2.1,h2.2,h4⟩,if_neg (by omega),if_pos ⟨h2.1,h2.2,by omega⟩,Rat.add_zero]
    .rw[if_neg (by omega),if_neg (by omega),if_neg (by omega),Rat.add_zero]
  .rw[if_neg (λq=>h2 ⟨q.1,q.2.1⟩),if_neg (λq=>h2 ⟨q.1,q.2.2⟩),if_neg (λq=>h2 ⟨q.1,q.2.1⟩),Rat.add_zero]
theorem VJ {b B:Nat}(h:HM.jK b B g)(f:Nat):iY (eY g f):=by
 unfold eY
 split
 .exact h.pI
 .exact h.pT _
theorem CV {b B:Nat}(h:HM.yK b B g)(hf:f<=g.st):(eY g f).length=g.st:=by
 unfold eY
 split
 .exact h.ini
 .exact h.x9 _ (by omega)
theorem bk6 {b B:Nat}(h:HM.jK b B g){F C S:Nat}(hk:k<=g.st):gV (Ue g f k) S F C=if f=F/\1<=C/\C<=k/\S<g.sym then (eY g f).getD (C-1) 0*EN g (C-1) S else 0:=by
 induction k with
 | zero=>rw[if_neg (by omega)];rfl
 | succ k ih =>
  rw[JF,qx,ih (by omega),bk5 ((VJ h f).get k).1 λs=>((h.pM k).get s).1,h.form.AQ k (by omega)]
  by_cases h1:f=F/\S<g.sym
  .by_cases h2:k+1=C
   .subst h2;rw[if_neg (by omega),if_pos ⟨h1.1,rfl,h1.2⟩,if_pos ⟨h1.1,by omega,by omega,h1.2⟩,Rat.zero_add,Nat.add_sub_cancel];rfl
   .by_cases h3:1<=C/\C<=k
    .rw[if_pos ⟨h1.1,h3.1,h3.2,h1.2⟩,if_neg (by omega),if_pos ⟨h1.1,h3.1,by omega,h1.2⟩,Rat.add_zero]
    .rw[if_neg (by omega),if_neg (by omega),if_neg (by omega),Rat.add_zero]
  .rw[if_neg (λq=>h1 ⟨q.1,q.2.2.2⟩),if_neg (λq=>h1 ⟨q.1,q.2.2⟩),if_neg (λq=>h1 ⟨q.1,q.2.2.2⟩),Rat.add_zero]
theorem aS6 {b B:Nat}(h:HM.jK b B g){F C S:Nat}(hk:k<=g.st+1):gV (Md g k) S F C=if F<k/\1<=C/\C<=g.st/\S<g.sym then (eY g F).getD (C-1) 0*EN g (C-1) S else 0:=by
 induction k with
 | zero=>rw[if_neg (by omega)];rfl
 | succ k ih =>
  rw[JG,qx,ih (by omega),CV h.form (by omega),bk6 h (Nat.le_refl _)]
  by_cases h1:1<=C/\C<=g.st/\S<g.sym
  .by_cases h2:k=F
   .subst h2;rw[if_neg (by omega),if_pos ⟨rfl,h1⟩,if_pos ⟨by omega,h1⟩,Rat.zero_add]
   .by_cases h3:F<k
    .rw[if_pos ⟨h3,h1⟩,if_neg (by omega),if_pos ⟨by omega,h1⟩,Rat.add_zero]
    .rw[if_neg (by omega),if_neg (by omega),if_neg (by omega),Rat.add_zero]
  .rw[if_neg (λq=>h1 q.2),if_neg (λq=>h1 q.2),if_neg (λq=>h1 q.2),Rat.add_zero]
theorem GH {b B:Nat}(h:HM.jK b B g):(bT g).Ok :=
 ⟨h.form.qR,by simp[bT],by simp[bT,h.form.stop],λx hx=>by
  obtain⟨f,hf,i,hi,s,hs,rfl⟩:=Zl hx;have h1:=CV h.form (show f<=g.st by omega)
  rw[h.form.AQ i (by omega)] at hs
  exact⟨hf,by show i+1<g.st+1;omega,by show 1<=s+1;omega,hs⟩⟩
theorem aS7 {b B:Nat}(h:HM.jK b B g){S F C:Nat}(hS:S<g.sym)(hF:F<=g.st)(hC:C<=g.st):SI (iR [bT g]) S F C=if C=0 then 0 else (eY g F).getD (C-1) 0*EN g (C-1) S:=by
 rw[KD hS (by rw[kG];show F<g.st+1;omega) (by rw[kG];show C<g.st+1;omega)]
 show (if F<g.st+1 then if C<g.st+1 then gV (Md g (g.st+1)) S F C else 0 else _)=_
 rw[if_pos (by omega),if_pos (by omega),aS6 h (Nat.le_refl _)]
 by_cases e:C=0
 .rw[if_pos e,if_neg (by omega)]
 .rw[if_neg e,if_pos ⟨by omega,by omega,hC,hS⟩]
theorem Zp {u v:List Int}:∀ {t:Nat},t<u.length->yw g (u++v) t=yw g u t
 | 0,h=>by
  unfold yw BI;rw[show (u++v).getD 0 0=u.getD 0 0 by rw[iZ,List.getElem?_append_left h,<- iZ]]
 | t + 1, h => by
  unfold yw;rw[Zp (t:=t) (by omega)]
  have:BI (u++v) (t+1)=BI u (t+1):=by
   unfold BI;rw[iZ,List.getElem?_append_left h,<- iZ]
  unfold ab7;rw[this]
theorem aS8 {b B:Nat}(h:HM.jK b B g):∀ {n:Nat} {u:List Int},u.length=n+1->G6 g.sym u->(iq (iR [bT g]) u).getD 0 0=0/\∀ j,j<g.st->(iq (iR [bT g]) u).getD (j+1) 0=(yw g u n).getD j 0
 | 0, u, hu, hw => by
  obtain⟨x,rfl⟩:=List.length_eq_one_iff.1 hu;have hx:=hw x (by simp)
  have hN:(iR [bT g]).n=g.st+1:=kG;have hv:iq (iR [bT g]) [x]=stepM (iR [bT g]) (bT g).ini (x.toNat-1):=by
   show stepM _ (iR [bT g]).ini _=_
   rw[show (iR [bT g]).ini=(bT g).ini by show (bT g).ini++[]=_;rw[List.append_nil]]
  have key:∀ c,c<=g.st->(iq (iR [bT g]) [x]).getD c 0=if c=0 then 0 else (eY g 0).getD (c-1) 0*EN g (c-1) (x.toNat-1):=λc hc=>by
   rw[hv,Fp (by rw[hN];omega),hN,<- Ea]
   rw[aS7 h (by omega) (by omega) hc,oU,Rat.add_zero]
   .show (1:Rat)*_=_
    rw[Rat.one_mul]
   .intro i hi;show ((1:Rat)::List.replicate g.st 0).getD (i+1) 0*_=0
    rw[List.getD_cons_succ,iZ,List.getElem?_replicate]
    split <;> exact Rat.zero_mul _
  refine⟨by rw[key 0 (by omega),if_pos rfl],λj hj=>?_⟩
  rw[key (j+1) hj,if_neg (by omega),Nat.add_sub_cancel,yw,dM _ _ hj]
  rfl
 | n + 1, u, hu, hw => by
  have hne:u≠[]:=λe=>by subst e;cases hu
  obtain⟨y,x,rfl⟩:∃ y x,u=y++[x]:=⟨u.dropLast,u.getLast hne,(List.dropLast_concat_getLast hne).symm⟩;have hx:=hw x (by simp)
  have hy:y.length=n+1:=by rw[jT,nN] at hu;omega
  obtain⟨h1,h2⟩:=aS8 h hy λz hz=>hw z (List.mem_append.2 (.inl hz));have hN:(iR [bT g]).n=g.st+1:=kG;have key:∀ c,c<=g.st->(iq (iR [bT g]) (y++[x])).getD c 0=if c=0 then 0 else dw (λi=>(yw g y n).getD i 0*Hw g i (c-1)) g.st*EN g (c-1) (x.toNat-1):=λc hc=>by
   rw[CJ,Fp (by rw[hN];omega),hN,<- Ea,h1,Rat.zero_mul,Rat.zero_add]
   by_cases e:c=0
   .rw[if_pos e];refine oU λi hi=>?_;rw[aS7 h (by omega) (by omega) hc,if_pos e,Rat.mul_zero]
   .rw[if_neg e,<- Kq];refine dZ λi hi=>?_;rw[aS7 h (by omega) (by omega) hc,if_neg e,h2 i hi,<- Rat.mul_assoc]
    unfold eY;rw[if_neg (by omega),Nat.add_sub_cancel];rfl
  refine⟨by rw[key 0 (by omega),if_pos rfl],λj hj=>?_⟩
  rw[key (j+1) hj,if_neg (by omega),Nat.add_sub_cancel,yw,dM _ _ hj]
  unfold ab7;rw[Zp (by omega)]
  congr 2;unfold BI;rw[iZ,<- hy,List.getElem?_append_right (Nat.le_refl _),Nat.sub_self];rfl
theorem JH {b B:Nat}(h:HM.jK b B g){u:List Int}(hw:G6 g.sym u):G7 (bT g) u=BJ g u:=by
 have hN:(iR [bT g]).n=g.st+1:=kG;have hfin:∀ i,vf (iR [bT g]).fin i=(g.empty::g.stop).getD i 0:=λi=>by
  show ((bT g).fin++[]).getD i 0=_
  rw[List.append_nil];rfl
 unfold G7 U8 XF BJ;rw[hN,<- Ea];cases u with
 | nil =>
  rw[if_pos (show ([]:List Int).length=0 from rfl),oU,Rat.add_zero,hfin]
  .show ((bT g).ini++[]).getD 0 0*g.empty=_
   show (1:Rat)*g.empty=_
   exact Rat.one_mul _
  .intro i hi;have:(vf (iq (iR [bT g]) [])) (i+1)=0:=by
    show (((1:Rat)::List.replicate g.st 0)++[]).getD (i+1) 0=0
    rw[List.append_nil,List.getD_cons_succ,iZ,List.getElem?_replicate]
    split <;> rfl
   rw[this,Rat.zero_mul]
 | cons x r =>
  obtain⟨h1,h2⟩:=aS8 h (n:=r.length) (u:=x::r) rfl hw;rw[if_neg (by simp),show vf (iq (iR [bT g]) (x::r)) 0=0 from h1,Rat.zero_mul,Rat.zero_add]
  unfold ao4;refine dZ λi hi=>?_;rw[show vf (iq (iR [bT g]) (x::r)) (i+1)=_ from h2 i hi,hfin]
  rfl
end
section
variable {m:pz}{B k:Nat}{V K Q:List (List Int)}{w u:List Int}{rs:List kV}{y:KSt}{v:List Rat}{r:kV}
def VK (k:Nat)(K:List (List Int)):List (List Int):=[]::K.flatMap (oV k)
theorem XW:VK k (K++[w])=VK k K++oV k w:=by
 unfold VK;rw[List.flatMap_append,List.flatMap_cons,List.flatMap_nil,List.append_nil,List.cons_append]
structure VL (m:pz) (B:Nat) (Q:List (List Int)) (y:KSt):Prop where
 sp:FM m.n B y.rs
 join:∃ V,Join m V y.ks Q y.rs/\V++Q=VK m.k y.ks
 len:Ed y.ks Q
 lead:∀ r,r ∈ y.rs->r.p=Am r.v
 ord:y.ks.Pairwise λa b=>Bv a b<0
theorem VL.start (m:pz)(B:Nat):VL m B [[]] ⟨[],[]⟩:=⟨FM.nil,⟨[],Join.start m,rfl⟩,Ed.start,λ_ h=>(by cases h),List.Pairwise.nil⟩
theorem VL.b (h:VL m B Q y):OD m B Q y:=⟨h.sp,have ⟨V,j,_⟩:=h.join;⟨V,j⟩,h.len⟩
theorem VL.next (ok:m.Ok)(h1:1<=B)(hz:∀ i,sz ((iq m w).getD i 0)<=B)(h:VL m B (w::Q) y) :
  ((BD m w y).1=true->VL m B (Q++oV m.k w) (BD m w y).2/\tY m (Q++oV m.k w) (BD m w y).2.rs<tY m (w::Q) y.rs)/\((BD m w y).1=false->VL m B Q (BD m w y).2/\tY m Q (BD m w y).2.rs<tY m (w::Q) y.rs):=by
 obtain⟨V,j,e⟩:=h.join;unfold BD;by_cases hg:qE y.rs (iq m w)=true
 .rw[if_pos hg];refine⟨λ_=>⟨⟨h.sp.grow (Ak ok w) h1 hz hg,⟨_,j.keep ok hg,?_⟩,h.len.keep,λr hr=>?_,?_⟩,KA ok j hg⟩,λx=>by cases x⟩
  .show V++[w]++(Q++oV m.k w)=VK m.k (y.ks++[w])
   rw[XW,<- e,List.append_assoc,List.append_assoc];rfl
  .rcases BO hr with hr|hr
   .exact h.lead r hr
   .rw[qm hr];rfl
  .refine List.pairwise_append.2 ⟨h.ord,List.pairwise_singleton ..,λu hu q hq=>?_⟩;rw[qm hq];exact (List.pairwise_append.1 j.bfs.ord).2.2 u (j.bfs.sub u hu) w yD
 .rw[if_neg hg];have hg:qE y.rs (iq m w)=false:=by simpa using hg
  exact⟨λx=>(by cases x),λ_=>⟨⟨h.sp,⟨_,j.drop ok hg,by rw[List.append_assoc];exact e⟩,h.len.drop,h.lead,h.ord⟩,KC⟩⟩
end
section
variable {a:Au}{n s j k B C N:Nat}{v:List Rat}{l:List aT}
theorem QT (hv:∀ i,sz (v.getD i 0)<=B)(hl:∀ x,x ∈ l->x.t<n/\sz x.q<=C)(hN:l.length<=N)(h1:1<=B+C):sz ((jo n v s l).getD j 0)<=N*(B+C+1)+1:=by
 rw[KN λx hx=>(hl x hx).1];have h2:=JD (f:=inF v s j) (C:=B+C) (l:=l) λx hx=>by
  unfold inF
  split
  .have:=jZ (v.getD x.f 0) x.q;have:=hv x.f;have:=(hl x hx).2;omega
  .rw[gJ];exact h1
 have h3:=Nat.mul_le_mul_right (B+C+1) hN;omega
structure Au.Fw (a:Au):Prop where
 ok:a.Ok
 few:a.Few
 s4:a.sym<=4
 st1:1<=a.st
 arc:∀ x,x ∈ a.aX->sz x.q<=5000
 num:a.aX.length<=40
end
def FN:HM:=⟨1,1,0,[1],[[1 / 2]],[1 / 2],[[1]],[false],[0]⟩
def PX (n:Nat):List Int:=List.replicate n 1
theorem OM (n:Nat):(PX n).length=n:=List.length_replicate
theorem aG8 (n:Nat):G6 1 (PX n):=λx hx=>by rw[(List.mem_replicate.1 hx).2];exact⟨by decide,by decide⟩
theorem ae2 {n k:Nat}(h:k<=n):(PX n).take k=PX k:=by unfold PX;rw[List.take_replicate,Nat.min_eq_left h]
theorem OO:sN (1 / 2):=⟨by decide +kernel,by decide +kernel⟩
theorem one_row {P:Rat->Prop}{x:Rat}(h:P x)(i:Nat):∀ q,q ∈ ([[x]]:List (List Rat)).getD i []->P q:=λq hq=>by
 cases i with
 | zero=>rw[qm (show q ∈ [x] from hq)];exact h
 | succ i=>exact absurd (show q ∈ ([]:List Rat) from hq) List.not_mem_nil
theorem aS9:sz 1<=1:=by rw[Ig];exact Nat.le_refl _
theorem ba4:sz 0<=1:=by rw[gJ];exact Nat.le_refl _
theorem ae3 {p q:Rat}(hp:sN p)(hq:sN q)(zp:sz p<=1)(zq:sz q<=1)(h:iG [p,q]=1):HM.jK 1048576 1 ⟨1,1,0,[1],[[p]],[q],[[1]],[false],[0]⟩:=by
 have i0:∀ {i:Nat},i<1->i=0:=λh=>by omega
 refine⟨⟨Nat.le_refl _,(by decide:1<=32),Nat.le_refl _,(by decide:1<=12),rfl,rfl,λi hi=>?_,rfl,rfl,λi hi=>?_,rfl,rfl,λi hi=>?_,Nat.le_refl _,by decide,ba4,.one aS9,.one zq,one_row zp,one_row aS9⟩,
  XK,λx hx=>by rw[qm hx];exact QH,λx hx=>by rw[qm hx];exact hq,one_row hp,one_row QH,?_,λi hi=>?_,λi hi=>?_,λi j hi hj=>?_⟩
 .rw[i0 hi];rfl
 .rw[i0 hi];rfl
 .rw[i0 hi];exact⟨Int.le_refl _,(by decide:(0:Int)<((1:Nat):Int))⟩
 .show iG [1,0]=1
  rw[rP,rP,yc,Rat.add_zero,Rat.add_zero]
 .rw[i0 hi];exact h
 .rw[i0 hi];show iG [1]=1
  rw[rP,yc,Rat.add_zero]
 .exact absurd hi (by change ¬ i<1;omega)
theorem jQ:HM.jK 1048576 1 FN:=ae3 OO OO SE SE (by decide +kernel)
section
variable {g:HM}{b B:Nat}
theorem Ir (h:HM.jK b B g)(S F C:Nat):sz (gV (bT g).aX S F C)<=B+B:=by
 show sz (gV (Md g (g.st+1)) S F C)<=_
 rw[aS6 h (Nat.le_refl _)];have hB:=h.form.b1;have hr:∀ F,Small B (eY g F):=λF=>by unfold eY;split;exact h.form.zI;exact h.form.zT _
 split
 .have h1:=jZ ((eY g F).getD (C-1) 0) (EN g (C-1) S);have h2:=(hr F).get hB (C-1);have h3:sz (EN g (C-1) S)<=B:=(h.form.zM (C-1)).get hB S;omega
 .rw[gJ];omega
theorem XY (h:HM.jK b B g){x:aT}(hx:x ∈ (bT g).aX):sz x.q<=B+B:=by
 obtain⟨f,hf,i,hi,s,hs,rfl⟩:=Zl hx;have hB:=h.form.b1;have hr:∀ F,Small B (eY g F):=λF=>by unfold eY;split;exact h.form.zI;exact h.form.zT _
 have h1:=jZ ((eY g f).getD i 0) (EN g i s);have h2:=(hr f).get hB i;have h3:sz (EN g i s)<=B:=(h.form.zM i).get hB s;show sz ((eY g f).getD i 0*EN g i s)<=_
 omega
theorem OQ:Small 1 (bT g).ini:=.cons aS9 λq hq=>by rw[(List.mem_replicate.1 hq).2];exact ba4
theorem Ej (h:HM.jK b B g):Small B (bT g).fin:=.cons h.form.zE h.form.zS
theorem Tn {C:Nat}(h:HM.jK b B g)(hC:1<=C){u:List Int}(hw:G6 g.sym u)(hf:∀ t j,t<u.length->sz ((yw g u t).getD j 0)<=C)(j:Nat):sz ((iq (iR [bT g]) u).getD j 0)<=C:=by
 have hl:(iq (iR [bT g]) u).length=g.st+1:=by rw[Ak (ap0 (GH h))];exact kG
 cases u with
 | nil =>
  show sz (((1:Rat)::List.replicate g.st 0++[]).getD j 0)<=C
  rw[List.append_nil];exact Nat.le_trans ((OQ (g:=g)).get (Nat.le_refl _) j) hC
 | cons x r =>
  obtain⟨h1,h2⟩:=aS8 h (n:=r.length) (u:=x::r) rfl hw;cases j with
  | zero=>rw[h1,gJ];exact hC
  | succ j =>
   rcases Nat.lt_or_ge j g.st with hj|hj
   .rw[h2 j hj];exact hf _ _ (Nat.lt_succ_self _)
   .rw[vF (by rw[hl];omega),gJ];exact hC
end
theorem ae4:BJ FN (PX 3)=1 / 8:=by decide +kernel
theorem ae5:∀ k,k<4->∀ t,t<k->∀ q,q ∈ yw FN (PX k) t->sz q<=1:=by decide +kernel
theorem ae6 {k t j:Nat}(hk:k<=3)(ht:t<(PX k).length):sz ((yw FN (PX k) t).getD j 0)<=1:=by
 rw[OM] at ht;exact Small.get (λq hq=>ae5 k (by omega) t ht q hq) (Nat.le_refl _) j

/-
  M, chapter 24: first bases of the rows of a table, by the table alone.
-/
import Derived.Test.YtnjoncgnjdkaoaaGreatDoorKMod99
set_option linter.unusedVariables false
set_option linter.unusedSimpArgs false
namespace Go.AL
open Go Go.BigFrame
section
variable {n:Nat}{rs:List bJ}{C:List (List Rat)}{w t:List Rat}
structure Ns (n:Nat) (rs:List bJ) (C:List (List Rat)):Prop where
 len:rs.length=C.length
 cl:∀ r,r ∈ rs->r.c.length<=C.length
 eq:∀ r,r ∈ rs->∀ i,i<n->r.v.getD i 0=aW (λj=>r.c.getD j 0*(C.getD j []).getD i 0) C.length
theorem Ns.nil:Ns n [] []:=⟨rfl,λ_ h=>(by cases h),λ_ h=>(by cases h)⟩
theorem ak7 {f:Rat}{c:List Rat}{j:Nat}(hj:j<t.length):(F9 t f c).getD j 0=t.getD j 0+f*c.getD j 0:=aK _ _ hj
theorem P5 (N:Nat)(i:Nat)(b:Nat->Rat):∀ (rs:List bJ) (w t:List Rat),i<w.length->t.length=N->(∀ r,r ∈ rs->r.v.getD i 0=aW (λj=>r.c.getD j 0*b j) N) ->
  (aQ rs w).getD i 0+aW (λj=>(tX rs w t).getD j 0*b j) N=w.getD i 0+aW (λj=>t.getD j 0*b j) N
 | [],w,t,_,_,_=>rfl
 | r :: rs, w, t, hi, ht, h => by
  show (aQ rs (iQ w r)).getD i 0+aW (λj=>(tX rs (iQ w r) (F9 t (ou w r) r.c)).getD j 0*b j) N=_
  rw[P5 N i b rs (iQ w r) (F9 t (ou w r) r.c) (by rw[oG];exact hi) (by rw[TR];exact ht) λr hr=>h r (List.mem_cons_of_mem _ hr),xu hi]
  have e:aW (λj=>(F9 t (ou w r) r.c).getD j 0*b j) N=aW (λj=>t.getD j 0*b j) N+ou w r*aW (λj=>r.c.getD j 0*b j) N:=by
   rw[<- jf,<- qG];refine aJ λj hj=>?_;rw[ak7 (by rw[ht];exact hj),Rat.add_mul,Rat.mul_assoc]
  rw[e,<- h r vC,Rat.sub_eq_add_neg,Rat.add_assoc,Rat.add_comm (aW (λj=>t.getD j 0*b j) N),<- Rat.add_assoc (-(ou w r*r.v.getD i 0)),Rat.neg_add_cancel,Rat.zero_add]
theorem Ns.taken (h:Ns n rs C)(hw:w.length=n){i:Nat}(hi:i<n):w.getD i 0=(aQ rs w).getD i 0+aW (λj=>(bZ rs w).getD j 0*(C.getD j []).getD i 0) C.length:=by
 have e:=P5 C.length i (λj=>(C.getD j []).getD i 0) rs w (List.replicate rs.length 0) (by rw[hw];exact hi) (by rw[List.length_replicate];exact h.len) λr hr=>h.eq r hr i hi
 have z:aW (λj=>(List.replicate rs.length (0:Rat)).getD j 0*(C.getD j []).getD i 0) C.length=0:=lV λj _=>by rw[MJ,Rat.zero_mul]
 rw[z,Rat.add_zero] at e;exact e.symm
theorem Ns.find (h:Ns n rs C)(hw:w.length=n)(hg:bg rs w=false){i:Nat}(hi:i<n):w.getD i 0=aW (λj=>(bZ rs w).getD j 0*(C.getD j []).getD i 0) C.length:=by
 have e:=h.taken hw hi;have hz:(aQ rs w).getD i 0=0:=by
  have h1:¬ dV (aQ rs w)<(aQ rs w).length:=λhl=>by
   rw[uw.2 hl] at hg;cases hg
  have h2:=kE rs w;exact sH (by omega)
 rw[hz,Rat.zero_add] at e;exact e
theorem Ns.grow (h:Ns n rs C)(hw:w.length=n):Ns n (rs++[newR rs w]) (C++[w]):=by
 have hl:=h.len;refine⟨by rw[iU,iU,h.len];rfl,λr hr=>?_,λr hr i hi=>?_⟩
 .rw[iU,jL];rcases rD hr with hr|hr
  .have:=h.cl r hr;omega
  .rw[kJ hr];show (TQ rs w).length<=_
   rw[Q5];omega
 .rw[iU, jL];have low:∀ j,j<C.length->(C++[w]).getD j []=C.getD j []:=λj hj=>by
   rw[gI,List.getElem?_append_left hj,gI]
  have top:(C++[w]).getD C.length []=w:=by
   rw[gI,List.getElem?_append_right (Nat.le_refl _),Nat.sub_self];rfl
  show r.v.getD i 0=aW (λj=>r.c.getD j 0*((C++[w]).getD j []).getD i 0) C.length+r.c.getD C.length 0*((C++[w]).getD C.length []).getD i 0
  rw[top,aJ (g:=λj=>r.c.getD j 0*(C.getD j []).getD i 0) λj hj=>by rw[low j hj]]
  rcases rD hr with hr|hr
  .have hc:=h.cl r hr;rw[<- h.eq r hr i hi,show r.c.getD C.length 0=0 by rw[gI,List.getElem?_eq_none hc];rfl,Rat.zero_mul,Rat.add_zero]
  .rw[kJ hr];show (aQ rs w).getD i 0=aW (λj=>(TQ rs w).getD j 0*(C.getD j []).getD i 0) C.length+(TQ rs w).getD C.length 0*w.getD i 0
   rw[<- hl,Uo,Rat.one_mul,aJ (g:=λj=>-((bZ rs w).getD j 0)*(C.getD j []).getD i 0) λj hj=>by rw[X4 hj]]
   have e:=h.taken hw hi;rw[<- hl] at e;have en:aW (λj=>-((bZ rs w).getD j 0)*(C.getD j []).getD i 0) rs.length = -(aW (λj=>(bZ rs w).getD j 0*(C.getD j []).getD i 0) rs.length):=by
    have:aW (λj=>-((bZ rs w).getD j 0)*(C.getD j []).getD i 0) rs.length=(-1)*aW (λj=>(bZ rs w).getD j 0*(C.getD j []).getD i 0) rs.length:=by
     rw[<- jf];exact aJ λj _=>by rw[Rat.neg_mul,Rat.neg_mul,Rat.one_mul]
    rw[this,Rat.neg_mul,Rat.one_mul]
   rw[en,e,Rat.add_comm ((aQ rs w).getD i 0),<- Rat.add_assoc,Rat.neg_add_cancel,Rat.zero_add]
end
section
variable {m:dZ}{B B':Nat}{y y':MZ}{u w:List Int}
theorem P6 (h:mY u w<=0)(hne:u≠w):mY u w<0:=by
 rcases Int.lt_or_le (mY u w) 0 with g|g
 .exact g
 .exact absurd (MB (Int.le_antisymm h g)) hne
theorem kH.mem_of (h:kH m B [] y)(h':kH m B' [] y')(hu:u ∈ y.ks):u ∈ y'.ks:=by
 refine Decidable.byContradiction λhn=>?_;obtain⟨V,j,_⟩:=h.join;obtain⟨V',j',_⟩:=h'.join;have s1:=j'.MF.reach u (h.xB u hu) λq hq=>by cases hq
 have s2:bK m.n ((y.ks.filter λk=>decide (k≠u)).map (bQ m)) (vf (bQ m u)):=s1.trans λb hb=>by
  obtain⟨k,hk,rfl⟩:=jY hb;obtain⟨hk1,hk2⟩:=eY.1 hk;have hlt:mY k u<0:=P6 hk2 λe=>hn (e ▸ hk1);refine (j.MF.reach k (h'.xB k hk1) λq hq=>by cases hq).mono λb hb=>?_
  obtain⟨z,hz,rfl⟩:=jY hb;obtain⟨hz1,hz2⟩:=eY.1 hz;refine List.mem_map.2 ⟨z,List.mem_filter.2 ⟨hz1,decide_eq_true λe=>?_⟩,rfl⟩;rw[e] at hz2;have:=EX k u;omega
 have s3:∀ r,r ∈ y.rs->bK m.n ((y.ks.filter λk=>decide (k≠u)).map (bQ m)) (vf r.v):=λr hr=>(j.rows r hr).trans λb hb=>by
  obtain⟨k,hk,rfl⟩:=jY hb;by_cases e:k=u
  .rw[e];exact s2
  .exact .mem (List.mem_map.2 ⟨k,List.mem_filter.2 ⟨hk,decide_eq_true e⟩,rfl⟩)
 have l:=y7 _ y.rs j.ech s3;rw[dD] at l;have l2:(y.ks.filter λk=>decide (k≠u)).length<y.ks.length:=List.length_filter_lt_length_iff_exists.2 ⟨u,hu,by simp⟩
 have:=j.len;omega
theorem Ja:∀ {a b:List (List Int)},a.Pairwise (λa b=>mY a b<0)->b.Pairwise (λa b=>mY a b<0)->(∀ u,u ∈ a ↔ u ∈ b)->a=b
 | [],[],_,_,_=>rfl
 | [],x::b,_,_,h=>absurd ((h x).2 vC) (by simp)
 | x::a,[],_,_,h=>absurd ((h x).1 vC) (by simp)
 | x :: a, y :: b, ha, hb, h => by
  obtain⟨a1,a2⟩:=List.pairwise_cons.1 ha;obtain⟨b1,b2⟩:=List.pairwise_cons.1 hb;have e:x=y:=by
   refine Decidable.byContradiction λhne=>?_;have h1:=(List.mem_cons.1 ((h x).1 vC)).resolve_left hne;have h2:=(List.mem_cons.1 ((h y).2 vC)).resolve_left λe=>hne e.symm;have:=a1 y h2;have:=b1 x h1;have:=EX x y;omega
  subst e;rw[Ja a2 b2 λu=>⟨λhu=>?_,λhu=>?_⟩]
  .rcases List.mem_cons.1 ((h u).1 (List.mem_cons_of_mem _ hu)) with e|g
   .have:=a1 u hu;rw[e,xA] at this;exact absurd this (by decide)
   .exact g
  .rcases List.mem_cons.1 ((h u).2 (List.mem_cons_of_mem _ hu)) with e|g
   .have:=b1 u hu;rw[e,xA] at this;exact absurd this (by decide)
   .exact g
theorem kH.unique (h:kH m B [] y)(h':kH m B' [] y'):y.ks=y'.ks:=Ja h.ord h'.ord λu=>⟨h.mem_of h',h'.mem_of h⟩
open Classical in
noncomputable def y9 (m:dZ):List (List Int):=if h:∃ (y:MZ) (B:Nat),kH m B [] y then h.choose.ks else []
theorem kH.bas (h:kH m B [] y):y.ks=y9 m:=by
 have hex:∃ (y:MZ) (B:Nat),kH m B [] y:=⟨y,B,h⟩;unfold y9;rw[dif_pos hex];obtain⟨B',h'⟩:=hex.choose_spec;exact h.unique h'
theorem Ep (ok:m.Ok)(n6:m.n<=6)(h1:1<=B)(hz:∀ w,iV m.k w->w.length<=6->∀ i,sz ((bQ m w).getD i 0)<=B):∀ (N:Nat) (Q:List (List Int)) (y:MZ),kH m B Q y->kG m Q y.rs<=N->∃ y,kH m B [] y
 | N,[],y,h,_=>⟨y,h⟩
 | 0,w::Q,y,h,hN=>by
  have:=yA (m:=m) (w:=w) (Q:=Q) (rs:=y.rs);omega
 | N + 1, w :: Q, y, h, hN => by
  have hw:iV m.k w:=by
   obtain⟨V,j,_⟩:=h.join;exact j.MF.xB w (.inr vC)
  have h6:=h.b.six n6 w vC;obtain⟨ht,hf⟩:=h.next ok h1 (hz w hw h6)
  cases hk:(xF m w y).1 with
  | true=>exact Ep ok n6 h1 hz N _ _ (ht hk).1 (by have:=(ht hk).2;omega)
  | false=>exact Ep ok n6 h1 hz N _ _ (hf hk).1 (by have:=(hf hk).2;omega)
theorem X6 (ok:m.Ok)(n6:m.n<=6)(h1:1<=B)(hz:∀ w,iV m.k w->w.length<=6->∀ i,sz ((bQ m w).getD i 0)<=B):∃ y,kH m B [] y/\y.ks=y9 m:=by
 obtain⟨y,h⟩:=Ep ok n6 h1 hz _ _ _ (kH.start m B) (Nat.le_refl _);exact⟨y,h,h.bas⟩
end
section
variable {a:Au}
theorem Au.Fw.inv (f:a.Fw):∃ y,kH (aY [a]) 16777215 [] y/\y.ks=y9 (aY [a]) :=
 X6 f.Uy.1 (by have:=f.few.st;have:=f.Uy.2.2.2;omega) (by decide) λw _ h6 i=>Nat.le_trans (Hz f.Uy.2.2.1 h6 i) (by decide)
end
end Go.AL
namespace Go.AL
open Go Go.BigFrame
def zJ (h:List Int->List Int->Rat)(K:List (List Int))(c:Nat->Rat)(l:List Int):Rat:=aW (λi=>c i*h (K.getD i []) l) K.length
structure nI (k:Nat) (h:List Int->List Int->Rat) (K:List (List Int)):Prop where
 ord:K.Pairwise λa b=>mY a b<0
 xB:∀ u,u ∈ K->iV k u
 reach:∀ w,iV k w->∃ c:Nat->Rat,(∀ i,i<K.length->0<mY (K.getD i []) w->c i=0)/\∀ l,iV k l->h w l=zJ h K c l
 ind:∀ c:Nat->Rat,(∀ l,iV k l->zJ h K c l=0)->∀ i,i<K.length->c i=0
section
variable {k:Nat}{h g:List Int->List Int->Rat}{K K':List (List Int)}{c:Nat->Rat}{u w:List Int}
theorem ak8 {d:Nat->Rat}{l:List Int}:zJ h K (λi=>c i-d i) l=zJ h K c l-zJ h K d l:=by
 unfold zJ;rw[aJ (g:=λi=>c i*h (K.getD i []) l + -1*(d i*h (K.getD i []) l)) λi _=>by show (c i-d i)*_=_;rw[Rat.sub_eq_add_neg,Rat.add_mul,Rat.neg_mul,Rat.neg_mul,Rat.one_mul],qG,jf,Rat.neg_mul,Rat.one_mul,Rat.sub_eq_add_neg]
theorem ak9 {i:Nat}(hi:i<K.length)(l:List Int):zJ h K (λj=>if i=j then 1 else 0) l=h (K.getD i []) l:=by
 unfold zJ;rw[aJ (g:=λj=>if i=j then h (K.getD j []) l else 0) λj _=>by
  show (if i=j then (1:Rat) else 0)*_=_
  split
  .rw[Rat.one_mul]
  .rw[Rat.zero_mul]]
 exact vU (v:=λj=>h (K.getD j []) l) hi
theorem Jb {i:Nat}(hi:i<K.length):K.getD i [] ∈ K:=getD_mem hi []
theorem nI.only (f:nI k h K){d:Nat->Rat}(e:∀ l,iV k l->zJ h K c l=zJ h K d l){i:Nat}(hi:i<K.length):c i=d i:=by
 have:=f.ind (λi=>c i-d i) (λl hl=>by rw[ak8,e l hl,Rat.sub_self]) i hi
 exact az4 this
theorem Zr {d:Nat->Nat->Rat}{l:List Int}(e:∀ j,j<K'.length->h (K'.getD j []) l=zJ h K (d j) l):zJ h K' c l=zJ h K (λi=>aW (λj=>c j*d j i) K'.length) l:=by
 have e1:zJ h K' c l=aW (λj=>c j*aW (λi=>d j i*h (K.getD i []) l) K.length) K'.length:=aJ λj hj=>by rw[e j hj];rfl
 rw[e1];unfold zJ;exact (Eo c (λj i=>d j i) (λi=>h (K.getD i []) l)).symm
theorem nI.mem_of (f:nI k h K)(f':nI k h K')(hu:u ∈ K):u ∈ K':=by
 refine Decidable.byContradiction λhn=>?_;obtain⟨i,hi,e⟩:=List.mem_iff_getElem.1 hu;have eg:K.getD i []=u:=by rw[gI,kL hi,Option.getD_some,e]
 obtain⟨c,c0,hc⟩:=f'.reach u (f.xB u hu);have ex:∀ j:Nat,∃ d:Nat->Rat,j<K'.length->(∀ i,i<K.length->0<mY (K.getD i []) (K'.getD j [])->d i=0)/\∀ l,iV k l->h (K'.getD j []) l=zJ h K d l:=λj=>by
  by_cases hj:j<K'.length
  .obtain⟨d,hd⟩:=f.reach _ (f'.xB _ (Jb hj));exact⟨d,λ_=>hd⟩
  .exact⟨λ_=>0,λx=>absurd x hj⟩
 obtain⟨d,hd⟩:=Classical.axiomOfChoice ex;have h1:∀ l,iV k l->zJ h K (λj=>if i=j then 1 else 0) l=zJ h K (λi=>aW (λj=>c j*d j i) K'.length) l:=λl hl=>by
  rw[ak9 hi,eg,hc l hl];exact Zr λj hj=>(hd j hj).2 l hl
 have h2:=f.only h1 hi;rw[if_pos rfl] at h2;have h3:aW (λj=>c j*d j i) K'.length=0:=lV λj hj=>by
  by_cases hp:0<mY (K'.getD j []) u
  .rw[c0 j hj hp,Rat.zero_mul]
  .have hne:K'.getD j []≠u:=λe=>hn (e ▸ Jb hj);have hlt:mY (K'.getD j []) u<0:=P6 (by omega) hne
   have hgt:0<mY (K.getD i []) (K'.getD j []):=by
    rw[eg];have:=EX (K'.getD j []) u;omega
   rw[(hd j hj).1 i hi hgt,Rat.mul_zero]
 rw[h3] at h2;exact absurd h2 (by decide)
theorem nI.unique (f:nI k h K)(f':nI k h K'):K=K':=Ja f.ord f'.ord λ_=>⟨f.mem_of f',f'.mem_of f⟩
theorem nI.congr (f:nI k h K)(e:∀ u l,iV k u->iV k l->g u l=h u l):nI k g K:=by
 have el:∀ (c:Nat->Rat) l,iV k l->zJ g K c l=zJ h K c l:=λc l hl=>aJ λi hi=>by rw[e _ l (f.xB _ (Jb hi)) hl]
 refine⟨f.ord,f.xB,λw hw=>?_,λc hc=>f.ind c λl hl=>by rw[<- el c l hl];exact hc l hl⟩
 obtain⟨c,c0,hc⟩:=f.reach w hw;exact⟨c,c0,λl hl=>by rw[e w l hw hl,hc l hl,el c l hl]⟩
theorem Aw (h:iV k w):iV k w.reverse:=λx hx=>h x (List.mem_reverse.1 hx)
theorem nI.rev (f:nI k h K):nI k (λu l=>h u l.reverse) K :=
 ⟨f.ord,f.xB,λw hw=>by
  obtain⟨c,c0,hc⟩:=f.reach w hw;exact⟨c,c0,λl hl=>hc _ (Aw hl)⟩,λc hc=>f.ind c λl hl=>by
  have:=hc l.reverse (Aw hl);unfold zJ at this ⊢
  dsimp only at this
  rw[List.reverse_reverse] at this;exact this⟩
end
section
variable {n k:Nat}{K:List (List Int)}{f:List Int->List Rat}{u:Nat->Rat}{rs:List bJ}
theorem WC {p:List Int->Bool}(h:bK n ((K.filter p).map f) u):∃ c:Nat->Rat,(∀ i,i<K.length->p (K.getD i [])=false->c i=0)/\∀ j,j<n->u j=aW (λi=>c i*(f (K.getD i [])).getD j 0) K.length:=by
 induction h with
 | zero h=>exact⟨λ_=>0,λ_ _ _=>rfl,λj hj=>by rw[h j hj];exact (lV λi _=>Rat.zero_mul _).symm⟩
 | @add u u' b a hb _ h ih =>
  obtain⟨c,c0,hc⟩:=ih;obtain⟨z,hz,rfl⟩:=jY hb;obtain⟨hz1,hz2⟩:=List.mem_filter.1 hz;obtain⟨i0,hi0,e⟩:=List.mem_iff_getElem.1 hz1;have eg:K.getD i0 []=z:=by rw[gI,kL hi0,Option.getD_some,e]
  refine⟨λi=>c i+if i0=i then a else 0,λi hi hp=>?_,λj hj=>?_⟩
  .have hne:i0≠i:=λx=>by rw[<- x,eg,hz2] at hp;cases hp
   show c i+(if i0=i then a else 0)=0
   rw[c0 i hi hp,if_neg hne,Rat.add_zero]
  .rw[h j hj,hc j hj];rw[aJ (f:=λi=>(c i+if i0=i then a else 0)*(f (K.getD i [])).getD j 0) (g:=λi=>c i*(f (K.getD i [])).getD j 0+if i0=i then a*(f (K.getD i [])).getD j 0 else 0) λi _=>by
    rw[Rat.add_mul];congr 1
    split
    .rfl
    .rw[Rat.zero_mul],qG,vU (v:=λi=>a*(f (K.getD i [])).getD j 0) hi0,eg]
theorem WE {c:Nat->Rat}{i0:Nat}(h0:c i0=0)(e:∀ j,j<n->u j=aW (λi=>c i*(f (K.getD i [])).getD j 0) K.length):bK n ((K.eraseIdx i0).map f) u:=by
 have key:∀ t,t<=K.length->bK n ((K.eraseIdx i0).map f) λj=>aW (λi=>c i*(f (K.getD i [])).getD j 0) t:=by
  intro t
  induction t with
  | zero=>intro _;exact .zero λ_ _=>rfl
  | succ t ih =>
   intro ht;by_cases hti:t=i0
   .refine (ih (by omega)).congr λj _=>?_
    rw[aW,hti,h0,Rat.zero_mul,Rat.add_zero]
   .refine .add (b:=f (K.getD t [])) (c t) (List.mem_map.2 ⟨K.getD t [],?_,rfl⟩) (ih (by omega)) λj _=>by rw[aW]
    refine List.mem_eraseIdx_iff_getElem.2 ⟨t,by omega,hti,?_⟩
    rw[gI,kL (by omega)];rfl
 exact (key K.length (Nat.le_refl _)).congr e
theorem aB5 (e:Ip n rs)(hl:rs.length=K.length)(hr:∀ r,r ∈ rs->bK n (K.map f) (vf r.v)){c:Nat->Rat}(h:∀ j,j<n->aW (λi=>c i*(f (K.getD i [])).getD j 0) K.length=0):∀ i,i<K.length->c i=0:=by
 intro i0 hi0;refine Decidable.byContradiction λhne=>?_;have h1:bK n ((K.eraseIdx i0).map f) (vf (f (K.getD i0 []))):=by
  refine WE (c:=λi=>if i0=i then 0 else -(1 / c i0)*c i) (if_pos rfl) λj hj=>?_
  have e1:aW (λi=>(if i0=i then 0 else -(1 / c i0)*c i)*(f (K.getD i [])).getD j 0) K.length = -(1 / c i0)*aW (λi=>c i*(f (K.getD i [])).getD j 0) K.length+aW (λi=>if i0=i then (1 / c i0)*c i*(f (K.getD i [])).getD j 0 else 0) K.length:=by
   rw[<- jf,<- qG];refine aJ λi _=>?_
   split
   .rw[Rat.zero_mul,Rat.neg_mul,<- Rat.mul_assoc,Rat.neg_add_cancel]
   .rw[Rat.add_zero,Rat.mul_assoc]
  rw[e1,h j hj,Rat.mul_zero,Rat.zero_add,vU (v:=λi=>(1 / c i0)*c i*(f (K.getD i [])).getD j 0) hi0,Rat.div_mul_cancel hne,Rat.one_mul]
 have h2:∀ r,r ∈ rs->bK n ((K.eraseIdx i0).map f) (vf r.v):=λr hr'=>(hr r hr').trans λb hb=>by
  obtain⟨z,hz,rfl⟩:=jY hb;by_cases hzm:z ∈ K.eraseIdx i0
  .exact .mem (List.mem_map.2 ⟨z,hzm,rfl⟩)
  .obtain⟨t,ht,rfl⟩:=List.mem_iff_getElem.1 hz;have hti:t=i0:=Decidable.byContradiction λhx=>hzm (List.mem_eraseIdx_iff_getElem.2 ⟨t,ht,hx,rfl⟩);subst hti;have eg:K[t]=K.getD t []:=by rw[gI,kL ht];rfl
   rw[eg];exact h1
 have h3:=y7 _ rs e h2;rw[dD,List.length_eraseIdx,if_pos hi0] at h3;omega

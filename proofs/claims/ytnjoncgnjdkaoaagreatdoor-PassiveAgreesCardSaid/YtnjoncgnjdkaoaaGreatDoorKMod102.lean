/-
  M, chapter 24: first bases of the rows of a table, by the table alone.
-/
import Derived.Test.YtnjoncgnjdkaoaaGreatDoorKMod97
set_option linter.unusedVariables false
set_option linter.unusedSimpArgs false
namespace Go.AL
open Go Go.BigFrame
section
variable {m mv:dP}{B:Nat}{L V K Q:List (List Int)}{rs:List bW}{y:Ye}{u w:List Int}
theorem am7 {k:Nat}(h:kC k w):∀ q,q ∈ cu k w->kC k q:=λq hq x hx=>by
 obtain⟨s,hs,rfl⟩:=mM hq;have:=List.mem_range.1 hs;rcases ul hx with hx|hx
 .exact h x hx
 .rw[lW hx];omega
theorem DJ (ok:m.Ok):∀ (N:Nat) (V K Q:List (List Int)) (rs:List bW),Join m V K Q rs->(∀ u,u ∈ K->kC m.k u)->(∀ q,q ∈ Q->kC m.k q)->qV m Q rs<=N->∃ V K rs,Join m V K [] rs/\∀ u,u ∈ K->kC m.k u
 | N,V,K,[],rs,j,hK,_,_=>⟨V,K,rs,j,hK⟩
 | 0,V,K,w::Q,rs,j,_,_,h=>by
  have:=yP (m:=m) (w:=w) (Q:=Q) (rs:=rs);omega
 | N + 1, V, K, w :: Q, rs, j, hK, hQ, h => by
  have hw:=hQ w uZ;have hQ2:∀ q,q ∈ Q->kC m.k q:=λq hq=>hQ q (List.mem_cons_of_mem _ hq);cases hg:bM rs (bP m w) with
  | true =>
   have:=Fb ok j hg;exact DJ ok N _ _ _ _ (j.keep ok hg) (λu hu=>(ul hu).elim (hK u) λhu=>by rw[lW hu];exact hw) (λq hq=>(ul hq).elim (hQ2 q) (am7 hw q)) (by omega)
  | false =>
   have:=yP (m:=m) (w:=w) (Q:=Q) (rs:=rs);exact DJ ok N _ _ _ _ (j.drop ok hg) hK hQ2 (by omega)
theorem UH (ok:m.Ok):∃ V K rs,Join m V K [] rs/\∀ u,u ∈ K->kC m.k u :=
 DJ ok _ _ _ _ _ (Join.start m) (λ_ h=>by cases h) (λq hq=>by rw[lW hq];exact λx hx=>by cases hx) (Nat.le_refl _)
theorem pK.zZ (h:pK m B [] y):∀ u,u ∈ y.ks->kC m.k u:=λu hu=>by
 obtain⟨V,j,e⟩:=h.join;rw[List.append_nil] at e;exact UG (λu hu=>by rw[<- e];exact j.Ou.sub u hu) u.length u rfl hu
theorem pK.closed (h:pK m B [] y)(hu:u ∈ y.ks)(hne:u≠[]):u.dropLast ∈ y.ks:=by
 obtain⟨V,j,e⟩:=h.join;rw[List.append_nil] at e;have hn:u ∈ wH m.k y.ks:=by rw[<- e];exact j.Ou.sub u hu
 rcases List.mem_cons.1 hn with rfl|hn
 .exact absurd rfl hne
 .obtain⟨z,hz,hn⟩:=List.mem_flatMap.1 hn;obtain⟨s,_,rfl⟩:=mM hn;rw[List.dropLast_concat];exact hz
theorem pK.count (h:pK m B [] y):y.ks.length=y.rs.length:=by
 obtain⟨V,j,_⟩:=h.join;exact j.len.symm
theorem UI (ok:m.Ok){V2:List (List Int)}{r2:List bW}(j2:Join (dA m) V2 L [] r2)(hn:mv.n=L.length)(hk:mv.k=m.k)(hv:∀ w,kC m.k w->bP mv w=oH m L w)(h:pK mv B [] y):y.ks.length=H8 m.k (wV m):=by
 obtain⟨V,K,r1,j,hK⟩:=UH ok;obtain⟨V3,j3,e3⟩:=h.join;rw[List.append_nil] at e3;have inw:∀ u,u ∈ y.ks->kC m.k u:=λu hu=>by rw[<- hk];exact h.zZ u hu
 have ech:JL L.length y.rs:=by rw[<- hn];exact j3.ech
 have hr:=Na ok j j2 ech (λr hr=>by
   have h1:=j3.rows r hr;rw[hn] at h1;refine h1.trans λb hb=>?_;obtain⟨u,hu,rfl⟩:=mM hb;rw[hv u (inw u hu)];have h2:=j.Ou.reach u (inw u hu) λq hq=>by cases hq
   have h3:=h2.map (C:=K.map (oH m L)) (MZ m L) λb hb=>by
    obtain⟨z,hz,rfl⟩:=mM hb;refine (bU.mem (List.mem_map.2 ⟨z,(fD.1 hz).1,rfl⟩)).congr λi hi=>?_;have e:(oH m L z).getD i 0=lZ m z (L.getD i []):=aT _ _ hi;exact e.symm
   exact h3.congr λi hi=>aT _ _ hi) λu hu=>by
  have hw:kC m.k u:=hK u hu;have h2:=j3.Ou.reach u (by rw[hk];exact hw) λq hq=>by cases hq
  rw[hv u hw,hn] at h2;refine h2.trans λb hb=>?_;obtain⟨z,hz,rfl⟩:=mM hb;have:=j3.kept z (fD.1 hz).1;rw[hn] at this;exact this
 rw[h.count];refine (Nj ?_).symm;have e:FP m.k (wV m)=λ(u l:Wd m.k)=>lZ m u.1 l.1:=by
  funext u l;exact (Ff l.1 u.1 l.2).symm
 rw[e];exact hr
end
section
variable {mv mm:dP}{K:List (List Int)}{w:List Int}
theorem EK {n N:Nat}(a:Nat->Rat)(b:Nat->Nat->Rat)(c:Nat->Rat):aX (λp=>aX (λj=>a j*b j p) N*c p) n=aX (λj=>a j*aX (λp=>b j p*c p) n) N:=by
 have e1:aX (λp=>aX (λj=>a j*b j p) N*c p) n=aX (λp=>aX (λj=>a j*(b j p*c p)) N) n:=aN λp _=>by
  rw[<- uU];exact aN λj _=>Rat.mul_assoc ..
 have e2:aX (λj=>a j*aX (λp=>b j p*c p) n) N=aX (λj=>aX (λp=>a j*(b j p*c p)) n) N:=aN λj _=>(jo ..).symm;rw[e1,e2,sG]
structure Yj (mv mm:dP) (K:List (List Int)):Prop where
 n:mm.n=K.length
 k:mm.k=mv.k
 root:0<K.length/\K.getD 0 []=[]
 ini:∀ j,j<K.length->mm.ini.getD j 0=if 0=j then 1 else 0
 fin:∀ j,j<K.length->mm.fin.getD j 0=wV mv (K.getD j [])
 ent:∀ s,s<mv.k->∀ i,i<K.length->∀ q,q<mv.n->(bP mv (K.getD i []++[((s+1:Nat):Int)])).getD q 0=aX (λj=>oq mm s i j*(bP mv (K.getD j [])).getD q 0) K.length
theorem Yj.vec (h:Yj mv mm K):∀ (n:Nat) (w:List Int),w.length=n->kC mv.k w->∀ q,q<mv.n->(bP mv w).getD q 0=aX (λj=>(bP mm w).getD j 0*(bP mv (K.getD j [])).getD q 0) K.length:=by
 intro n
 induction n with
 | zero =>
  intro w hn _ q _;rw[IK hn];have e:aX (λj=>(bP mm []).getD j 0*(bP mv (K.getD j [])).getD q 0) K.length=aX (λj=>if 0=j then (bP mv (K.getD j [])).getD q 0 else 0) K.length:=aN λj hj=>by
   show mm.ini.getD j 0*_=_
   rw[h.ini j hj]
   split
   .rw[Rat.one_mul]
   .rw[Rat.zero_mul]
  rw[e,wU (v:=λj=>(bP mv (K.getD j [])).getD q 0) h.root.1,h.root.2]
 | succ n ih =>
  intro w hn hw q hq;have hne:w≠[]:=λe=>by rw[e] at hn;cases hn
  obtain⟨z,x,rfl⟩:∃ z x,w=z++[x]:=⟨w.dropLast,w.getLast hne,(List.dropLast_concat_getLast hne).symm⟩;have hx:=hw x (by simp)
  obtain⟨s,hs,rfl⟩:∃ s:Nat,s<mv.k/\x=((s+1:Nat):Int):=⟨x.toNat-1,by omega,by omega⟩
  have hz:kC mv.k z:=λq hq=>hw q (List.mem_append.2 (.inl hq));have es:(((s+1:Nat):Int)).toNat-1=s:=by omega
  have ihz:=ih z (by rw[jG,oU] at hn;omega) hz
  have step:∀ (m:dP) (u:List Int) (q:Nat),q<m.n->(bP m (u++[((s+1:Nat):Int)])).getD q 0=aX (λi=>(bP m u).getD i 0*oq m s i q) m.n:=λm u q hq=>by
   rw[lm,es];unfold stepM;rw[aT _ _ hq]
  have e1:(bP mv (z++[((s+1:Nat):Int)])).getD q 0=aX (λp=>aX (λj=>(bP mm z).getD j 0*(bP mv (K.getD j [])).getD p 0) K.length*oq mv s p q) mv.n:=by
   rw[step mv z q hq];exact aN λp hp=>by rw[ihz p hp]
  have e2:aX (λl=>(bP mm (z++[((s+1:Nat):Int)])).getD l 0*(bP mv (K.getD l [])).getD q 0) K.length=aX (λl=>aX (λj=>(bP mm z).getD j 0*oq mm s j l) K.length*(bP mv (K.getD l [])).getD q 0) K.length :=
   aN λl hl=>by rw[step mm z l (by rw[h.n];exact hl),h.n]
  rw[e1,EK,e2,EK];refine aN λj hj=>?_;congr 1;rw[<- h.ent s hs j hj q hq,step mv _ q hq]
theorem Yj.wt (h:Yj mv mm K)(hw:kC mv.k w):wV mm w=wV mv w:=by
 unfold wV vZ;have e1:aX (λq=>vf (bP mv w) q*vf mv.fin q) mv.n=aX (λq=>aX (λj=>(bP mm w).getD j 0*(bP mv (K.getD j [])).getD q 0) K.length*mv.fin.getD q 0) mv.n :=
  aN λq hq=>by rw[<- h.vec w.length w rfl hw q hq]
 rw[e1,EK,h.n];refine aN λj hj=>?_;show (bP mm w).getD j 0*mm.fin.getD j 0=_
 rw[h.fin j hj];rfl
end
section
variable {n:Nat}{rs:List bW}{C:List (List Rat)}{w t:List Rat}
structure NQ (n:Nat) (rs:List bW) (C:List (List Rat)):Prop where
 len:rs.length=C.length
 cl:∀ r,r ∈ rs->r.c.length<=C.length
 eq:∀ r,r ∈ rs->∀ i,i<n->r.v.getD i 0=aX (λj=>r.c.getD j 0*(C.getD j []).getD i 0) C.length
theorem NQ.nil:NQ n [] []:=⟨rfl,λ_ h=>(by cases h),λ_ h=>(by cases h)⟩
theorem am8 {f:Rat}{c:List Rat}{j:Nat}(hj:j<t.length):(FO t f c).getD j 0=t.getD j 0+f*c.getD j 0:=aT _ _ hj
theorem Qg (N:Nat)(i:Nat)(b:Nat->Rat):∀ (rs:List bW) (w t:List Rat),i<w.length->t.length=N->(∀ r,r ∈ rs->r.v.getD i 0=aX (λj=>r.c.getD j 0*b j) N) ->
  (bg rs w).getD i 0+aX (λj=>(ou rs w t).getD j 0*b j) N=w.getD i 0+aX (λj=>t.getD j 0*b j) N
 | [],w,t,_,_,_=>rfl
 | r :: rs, w, t, hi, ht, h => by
  show (bg rs (jl w r)).getD i 0+aX (λj=>(ou rs (jl w r) (FO t (jZ w r) r.c)).getD j 0*b j) N=_
  rw[Qg N i b rs (jl w r) (FO t (jZ w r) r.c) (by rw[pV];exact hi) (by rw[Ua];exact ht) λr hr=>h r (List.mem_cons_of_mem _ hr),xX hi]
  have e:aX (λj=>(FO t (jZ w r) r.c).getD j 0*b j) N=aX (λj=>t.getD j 0*b j) N+jZ w r*aX (λj=>r.c.getD j 0*b j) N:=by
   rw[<- jo,<- rG];refine aN λj hj=>?_;rw[am8 (by rw[ht];exact hj),Rat.add_mul,Rat.mul_assoc]
  rw[e,<- h r uZ,Rat.sub_eq_add_neg,Rat.add_assoc,Rat.add_comm (aX (λj=>t.getD j 0*b j) N),<- Rat.add_assoc (-(jZ w r*r.v.getD i 0)),Rat.neg_add_cancel,Rat.zero_add]
theorem NQ.taken (h:NQ n rs C)(hw:w.length=n){i:Nat}(hi:i<n):w.getD i 0=(bg rs w).getD i 0+aX (λj=>(bY rs w).getD j 0*(C.getD j []).getD i 0) C.length:=by
 have e:=Qg C.length i (λj=>(C.getD j []).getD i 0) rs w (List.replicate rs.length 0) (by rw[hw];exact hi) (by rw[List.length_replicate];exact h.len) λr hr=>h.eq r hr i hi
 have z:aX (λj=>(List.replicate rs.length (0:Rat)).getD j 0*(C.getD j []).getD i 0) C.length=0:=mJ λj _=>by rw[Nc,Rat.zero_mul]
 rw[z,Rat.add_zero] at e;exact e.symm
theorem NQ.find (h:NQ n rs C)(hw:w.length=n)(hg:bM rs w=false){i:Nat}(hi:i<n):w.getD i 0=aX (λj=>(bY rs w).getD j 0*(C.getD j []).getD i 0) C.length:=by
 have e:=h.taken hw hi;have hz:(bg rs w).getD i 0=0:=by
  have h1:¬ iP (bg rs w)<(bg rs w).length:=λhl=>by
   rw[EJ.2 hl] at hg;cases hg
  have h2:=pz rs w;exact ug (by omega)
 rw[hz,Rat.zero_add] at e;exact e
theorem NQ.grow (h:NQ n rs C)(hw:w.length=n):NQ n (rs++[newR rs w]) (C++[w]):=by
 have hl:=h.len;refine⟨by rw[jG,jG,h.len];rfl,λr hr=>?_,λr hr i hi=>?_⟩
 .rw[jG,oU];rcases ul hr with hr|hr
  .have:=h.cl r hr;omega
  .rw[lW hr];show (JQ rs w).length<=_
   rw[KI];omega
 .rw[jG, oU];have low:∀ j,j<C.length->(C++[w]).getD j []=C.getD j []:=λj hj=>by
   rw[ig,List.getElem?_append_left hj,ig]
  have top:(C++[w]).getD C.length []=w:=by
   rw[ig,List.getElem?_append_right (Nat.le_refl _),Nat.sub_self];rfl
  show r.v.getD i 0=aX (λj=>r.c.getD j 0*((C++[w]).getD j []).getD i 0) C.length+r.c.getD C.length 0*((C++[w]).getD C.length []).getD i 0
  rw[top,aN (g:=λj=>r.c.getD j 0*(C.getD j []).getD i 0) λj hj=>by rw[low j hj]]
  rcases ul hr with hr|hr
  .have hc:=h.cl r hr;rw[<- h.eq r hr i hi,show r.c.getD C.length 0=0 by rw[ig,List.getElem?_eq_none hc];rfl,Rat.zero_mul,Rat.add_zero]
  .rw[lW hr];show (bg rs w).getD i 0=aX (λj=>(JQ rs w).getD j 0*(C.getD j []).getD i 0) C.length+(JQ rs w).getD C.length 0*w.getD i 0
   rw[<- hl,NI,Rat.one_mul,aN (g:=λj=>-((bY rs w).getD j 0)*(C.getD j []).getD i 0) λj hj=>by rw[Rz hj]]
   have e:=h.taken hw hi;rw[<- hl] at e;have en:aX (λj=>-((bY rs w).getD j 0)*(C.getD j []).getD i 0) rs.length = -(aX (λj=>(bY rs w).getD j 0*(C.getD j []).getD i 0) rs.length):=by
    have:aX (λj=>-((bY rs w).getD j 0)*(C.getD j []).getD i 0) rs.length=(-1)*aX (λj=>(bY rs w).getD j 0*(C.getD j []).getD i 0) rs.length:=by
     rw[<- jo];exact aN λj _=>by rw[Rat.neg_mul,Rat.neg_mul,Rat.one_mul]
    rw[this,Rat.neg_mul,Rat.one_mul]
   rw[en,e,Rat.add_comm ((bg rs w).getD i 0),<- Rat.add_assoc,Rat.neg_add_cancel,Rat.zero_add]
end
section
variable {m:dP}{B B':Nat}{y y':Ye}{u w:List Int}
theorem Qh (h:nO u w<=0)(hne:u≠w):nO u w<0:=by
 rcases Int.lt_or_le (nO u w) 0 with g|g
 .exact g
 .exact absurd (MR (Int.le_antisymm h g)) hne
theorem pK.mem_of (h:pK m B [] y)(h':pK m B' [] y')(hu:u ∈ y.ks):u ∈ y'.ks:=by
 refine Decidable.byContradiction λhn=>?_;obtain⟨V,j,_⟩:=h.join;obtain⟨V',j',_⟩:=h'.join;have s1:=j'.Ou.reach u (h.zZ u hu) λq hq=>by cases hq
 have s2:bU m.n ((y.ks.filter λk=>decide (k≠u)).map (bP m)) (vf (bP m u)):=s1.trans λb hb=>by
  obtain⟨k,hk,rfl⟩:=mM hb;obtain⟨hk1,hk2⟩:=fD.1 hk;have hlt:nO k u<0:=Qh hk2 λe=>hn (e ▸ hk1);refine (j.Ou.reach k (h'.zZ k hk1) λq hq=>by cases hq).mono λb hb=>?_
  obtain⟨z,hz,rfl⟩:=mM hb;obtain⟨hz1,hz2⟩:=fD.1 hz;refine List.mem_map.2 ⟨z,List.mem_filter.2 ⟨hz1,decide_eq_true λe=>?_⟩,rfl⟩;rw[e] at hz2;have:=E8 k u;omega
 have s3:∀ r,r ∈ y.rs->bU m.n ((y.ks.filter λk=>decide (k≠u)).map (bP m)) (vf r.v):=λr hr=>(j.rows r hr).trans λb hb=>by
  obtain⟨k,hk,rfl⟩:=mM hb;by_cases e:k=u
  .rw[e];exact s2
  .exact .mem (List.mem_map.2 ⟨k,List.mem_filter.2 ⟨hk,decide_eq_true e⟩,rfl⟩)
 have l:=Es _ y.rs j.ech s3;rw[dJ] at l;have l2:(y.ks.filter λk=>decide (k≠u)).length<y.ks.length:=List.length_filter_lt_length_iff_exists.2 ⟨u,hu,by simp⟩
 have:=j.len;omega
theorem Jl:∀ {a b:List (List Int)},a.Pairwise (λa b=>nO a b<0)->b.Pairwise (λa b=>nO a b<0)->(∀ u,u ∈ a ↔ u ∈ b)->a=b
 | [],[],_,_,_=>rfl
 | [],x::b,_,_,h=>absurd ((h x).2 uZ) (by simp)
 | x::a,[],_,_,h=>absurd ((h x).1 uZ) (by simp)
 | x :: a, y :: b, ha, hb, h => by
  obtain⟨a1,a2⟩:=List.pairwise_cons.1 ha;obtain⟨b1,b2⟩:=List.pairwise_cons.1 hb;have e:x=y:=by
   refine Decidable.byContradiction λhne=>?_;have h1:=(List.mem_cons.1 ((h x).1 uZ)).resolve_left hne;have h2:=(List.mem_cons.1 ((h y).2 uZ)).resolve_left λe=>hne e.symm;have:=a1 y h2;have:=b1 x h1;have:=E8 x y;omega
  subst e;rw[Jl a2 b2 λu=>⟨λhu=>?_,λhu=>?_⟩]
  .rcases List.mem_cons.1 ((h u).1 (List.mem_cons_of_mem _ hu)) with e|g
   .have:=a1 u hu;rw[e,xY] at this;exact absurd this (by decide)
   .exact g
  .rcases List.mem_cons.1 ((h u).2 (List.mem_cons_of_mem _ hu)) with e|g
   .have:=b1 u hu;rw[e,xY] at this;exact absurd this (by decide)
   .exact g
theorem pK.unique (h:pK m B [] y)(h':pK m B' [] y'):y.ks=y'.ks:=Jl h.ord h'.ord λu=>⟨h.mem_of h',h'.mem_of h⟩
open Classical in
noncomputable def NR (m:dP):List (List Int):=if h:∃ (y:Ye) (B:Nat),pK m B [] y then h.choose.ks else []
theorem pK.bas (h:pK m B [] y):y.ks=NR m:=by
 have hex:∃ (y:Ye) (B:Nat),pK m B [] y:=⟨y,B,h⟩;unfold NR;rw[dif_pos hex];obtain⟨B',h'⟩:=hex.choose_spec;exact h.unique h'
theorem EL (ok:m.Ok)(n6:m.n<=6)(h1:1<=B)(hz:∀ w,kC m.k w->w.length<=6->∀ i,sz ((bP m w).getD i 0)<=B):∀ (N:Nat) (Q:List (List Int)) (y:Ye),pK m B Q y->qV m Q y.rs<=N->∃ y,pK m B [] y
 | N,[],y,h,_=>⟨y,h⟩
 | 0,w::Q,y,h,hN=>by
  have:=yP (m:=m) (w:=w) (Q:=Q) (rs:=y.rs);omega
 | N + 1, w :: Q, y, h, hN => by
  have hw:kC m.k w:=by
   obtain⟨V,j,_⟩:=h.join;exact j.Ou.zZ w (.inr uZ)
  have h6:=h.b.six n6 w uZ;obtain⟨ht,hf⟩:=h.next ok h1 (hz w hw h6)
  cases hk:(zN m w y).1 with
  | true=>exact EL ok n6 h1 hz N _ _ (ht hk).1 (by have:=(ht hk).2;omega)
  | false=>exact EL ok n6 h1 hz N _ _ (hf hk).1 (by have:=(hf hk).2;omega)
theorem aE4 (ok:m.Ok)(n6:m.n<=6)(h1:1<=B)(hz:∀ w,kC m.k w->w.length<=6->∀ i,sz ((bP m w).getD i 0)<=B):∃ y,pK m B [] y/\y.ks=NR m:=by
 obtain⟨y,h⟩:=EL ok n6 h1 hz _ _ _ (pK.start m B) (Nat.le_refl _);exact⟨y,h,h.bas⟩
end
section
variable {a:Au}
theorem Au.Fw.inv (f:a.Fw):∃ y,pK (cZ [a]) 16777215 [] y/\y.ks=NR (cZ [a]) :=
 aE4 f.aS0.1 (by have:=f.few.st;have:=f.aS0.2.2.2;omega) (by decide) λw _ h6 i=>Nat.le_trans (Fp f.aS0.2.2.1 h6 i) (by decide)
end
end Go.AL
namespace Go.AL
open Go Go.BigFrame
def Ad (h:List Int->List Int->Rat)(K:List (List Int))(c:Nat->Rat)(l:List Int):Rat:=aX (λi=>c i*h (K.getD i []) l) K.length
structure oz (k:Nat) (h:List Int->List Int->Rat) (K:List (List Int)):Prop where
 ord:K.Pairwise λa b=>nO a b<0
 zZ:∀ u,u ∈ K->kC k u
 reach:∀ w,kC k w->∃ c:Nat->Rat,(∀ i,i<K.length->0<nO (K.getD i []) w->c i=0)/\∀ l,kC k l->h w l=Ad h K c l
 ind:∀ c:Nat->Rat,(∀ l,kC k l->Ad h K c l=0)->∀ i,i<K.length->c i=0
section
variable {k:Nat}{h g:List Int->List Int->Rat}{K K':List (List Int)}{c:Nat->Rat}{u w:List Int}
theorem am9 {d:Nat->Rat}{l:List Int}:Ad h K (λi=>c i-d i) l=Ad h K c l-Ad h K d l:=by
 unfold Ad;rw[aN (g:=λi=>c i*h (K.getD i []) l + -1*(d i*h (K.getD i []) l)) λi _=>by show (c i-d i)*_=_;rw[Rat.sub_eq_add_neg,Rat.add_mul,Rat.neg_mul,Rat.neg_mul,Rat.one_mul],rG,jo,Rat.neg_mul,Rat.one_mul,Rat.sub_eq_add_neg]
theorem an0 {i:Nat}(hi:i<K.length)(l:List Int):Ad h K (λj=>if i=j then 1 else 0) l=h (K.getD i []) l:=by
 unfold Ad;rw[aN (g:=λj=>if i=j then h (K.getD j []) l else 0) λj _=>by
  show (if i=j then (1:Rat) else 0)*_=_
  split
  .rw[Rat.one_mul]
  .rw[Rat.zero_mul]]
 exact wU (v:=λj=>h (K.getD j []) l) hi
theorem Jm {i:Nat}(hi:i<K.length):K.getD i [] ∈ K:=getD_mem hi []
theorem oz.only (f:oz k h K){d:Nat->Rat}(e:∀ l,kC k l->Ad h K c l=Ad h K d l){i:Nat}(hi:i<K.length):c i=d i:=by
 have:=f.ind (λi=>c i-d i) (λl hl=>by rw[am9,e l hl,Rat.sub_self]) i hi
 exact aB3 this
theorem ZK {d:Nat->Nat->Rat}{l:List Int}(e:∀ j,j<K'.length->h (K'.getD j []) l=Ad h K (d j) l):Ad h K' c l=Ad h K (λi=>aX (λj=>c j*d j i) K'.length) l:=by
 have e1:Ad h K' c l=aX (λj=>c j*aX (λi=>d j i*h (K.getD i []) l) K.length) K'.length:=aN λj hj=>by rw[e j hj];rfl
 rw[e1];unfold Ad;exact (EK c (λj i=>d j i) (λi=>h (K.getD i []) l)).symm
theorem oz.mem_of (f:oz k h K)(f':oz k h K')(hu:u ∈ K):u ∈ K':=by
 refine Decidable.byContradiction λhn=>?_;obtain⟨i,hi,e⟩:=List.mem_iff_getElem.1 hu;have eg:K.getD i []=u:=by rw[ig,lu hi,Option.getD_some,e]
 obtain⟨c,c0,hc⟩:=f'.reach u (f.zZ u hu);have ex:∀ j:Nat,∃ d:Nat->Rat,j<K'.length->(∀ i,i<K.length->0<nO (K.getD i []) (K'.getD j [])->d i=0)/\∀ l,kC k l->h (K'.getD j []) l=Ad h K d l:=λj=>by
  by_cases hj:j<K'.length
  .obtain⟨d,hd⟩:=f.reach _ (f'.zZ _ (Jm hj));exact⟨d,λ_=>hd⟩
  .exact⟨λ_=>0,λx=>absurd x hj⟩
 obtain⟨d,hd⟩:=Classical.axiomOfChoice ex;have h1:∀ l,kC k l->Ad h K (λj=>if i=j then 1 else 0) l=Ad h K (λi=>aX (λj=>c j*d j i) K'.length) l:=λl hl=>by
  rw[an0 hi,eg,hc l hl];exact ZK λj hj=>(hd j hj).2 l hl
 have h2:=f.only h1 hi;rw[if_pos rfl] at h2;have h3:aX (λj=>c j*d j i) K'.length=0:=mJ λj hj=>by
  by_cases hp:0<nO (K'.getD j []) u
  .rw[c0 j hj hp,Rat.zero_mul]
  .have hne:K'.getD j []≠u:=λe=>hn (e ▸ Jm hj);have hlt:nO (K'.getD j []) u<0:=Qh (by omega) hne
   have hgt:0<nO (K.getD i []) (K'.getD j []):=by
    rw[eg];have:=E8 (K'.getD j []) u;omega
   rw[(hd j hj).1 i hi hgt,Rat.mul_zero]
 rw[h3] at h2;exact absurd h2 (by decide)
theorem oz.unique (f:oz k h K)(f':oz k h K'):K=K':=Jl f.ord f'.ord λ_=>⟨f.mem_of f',f'.mem_of f⟩
theorem oz.congr (f:oz k h K)(e:∀ u l,kC k u->kC k l->g u l=h u l):oz k g K:=by
 have el:∀ (c:Nat->Rat) l,kC k l->Ad g K c l=Ad h K c l:=λc l hl=>aN λi hi=>by rw[e _ l (f.zZ _ (Jm hi)) hl]
 refine⟨f.ord,f.zZ,λw hw=>?_,λc hc=>f.ind c λl hl=>by rw[<- el c l hl];exact hc l hl⟩
 obtain⟨c,c0,hc⟩:=f.reach w hw;exact⟨c,c0,λl hl=>by rw[e w l hw hl,hc l hl,el c l hl]⟩
theorem FC (h:kC k w):kC k w.reverse:=λx hx=>h x (List.mem_reverse.1 hx)
theorem oz.rev (f:oz k h K):oz k (λu l=>h u l.reverse) K :=
 ⟨f.ord,f.zZ,λw hw=>by
  obtain⟨c,c0,hc⟩:=f.reach w hw;exact⟨c,c0,λl hl=>hc _ (FC hl)⟩,λc hc=>f.ind c λl hl=>by
  have:=hc l.reverse (FC hl);unfold Ad at this ⊢
  dsimp only at this
  rw[List.reverse_reverse] at this;exact this⟩
end
section
variable {n k:Nat}{K:List (List Int)}{f:List Int->List Rat}{u:Nat->Rat}{rs:List bW}
theorem WS {p:List Int->Bool}(h:bU n ((K.filter p).map f) u):∃ c:Nat->Rat,(∀ i,i<K.length->p (K.getD i [])=false->c i=0)/\∀ j,j<n->u j=aX (λi=>c i*(f (K.getD i [])).getD j 0) K.length:=by
 induction h with
 | zero h=>exact⟨λ_=>0,λ_ _ _=>rfl,λj hj=>by rw[h j hj];exact (mJ λi _=>Rat.zero_mul _).symm⟩
 | @add u u' b a hb _ h ih =>
  obtain⟨c,c0,hc⟩:=ih;obtain⟨z,hz,rfl⟩:=mM hb;obtain⟨hz1,hz2⟩:=List.mem_filter.1 hz;obtain⟨i0,hi0,e⟩:=List.mem_iff_getElem.1 hz1;have eg:K.getD i0 []=z:=by rw[ig,lu hi0,Option.getD_some,e]
  refine⟨λi=>c i+if i0=i then a else 0,λi hi hp=>?_,λj hj=>?_⟩
  .have hne:i0≠i:=λx=>by rw[<- x,eg,hz2] at hp;cases hp
   show c i+(if i0=i then a else 0)=0
   rw[c0 i hi hp,if_neg hne,Rat.add_zero]
  .rw[h j hj,hc j hj];rw[aN (f:=λi=>(c i+if i0=i then a else 0)*(f (K.getD i [])).getD j 0) (g:=λi=>c i*(f (K.getD i [])).getD j 0+if i0=i then a*(f (K.getD i [])).getD j 0 else 0) λi _=>by
    rw[Rat.add_mul];congr 1
    split
    .rfl
    .rw[Rat.zero_mul],rG,wU (v:=λi=>a*(f (K.getD i [])).getD j 0) hi0,eg]
theorem WT {c:Nat->Rat}{i0:Nat}(h0:c i0=0)(e:∀ j,j<n->u j=aX (λi=>c i*(f (K.getD i [])).getD j 0) K.length):bU n ((K.eraseIdx i0).map f) u:=by
 have key:∀ t,t<=K.length->bU n ((K.eraseIdx i0).map f) λj=>aX (λi=>c i*(f (K.getD i [])).getD j 0) t:=by
  intro t
  induction t with
  | zero=>intro _;exact .zero λ_ _=>rfl
  | succ t ih =>
   intro ht;by_cases hti:t=i0
   .refine (ih (by omega)).congr λj _=>?_
    rw[aX,hti,h0,Rat.zero_mul,Rat.add_zero]
   .refine .add (b:=f (K.getD t [])) (c t) (List.mem_map.2 ⟨K.getD t [],?_,rfl⟩) (ih (by omega)) λj _=>by rw[aX]
    refine List.mem_eraseIdx_iff_getElem.2 ⟨t,by omega,hti,?_⟩
    rw[ig,lu (by omega)];rfl
 exact (key K.length (Nat.le_refl _)).congr e
theorem aE5 (e:JL n rs)(hl:rs.length=K.length)(hr:∀ r,r ∈ rs->bU n (K.map f) (vf r.v)){c:Nat->Rat}(h:∀ j,j<n->aX (λi=>c i*(f (K.getD i [])).getD j 0) K.length=0):∀ i,i<K.length->c i=0:=by
 intro i0 hi0;refine Decidable.byContradiction λhne=>?_;have h1:bU n ((K.eraseIdx i0).map f) (vf (f (K.getD i0 []))):=by
  refine WT (c:=λi=>if i0=i then 0 else -(1 / c i0)*c i) (if_pos rfl) λj hj=>?_
  have e1:aX (λi=>(if i0=i then 0 else -(1 / c i0)*c i)*(f (K.getD i [])).getD j 0) K.length = -(1 / c i0)*aX (λi=>c i*(f (K.getD i [])).getD j 0) K.length+aX (λi=>if i0=i then (1 / c i0)*c i*(f (K.getD i [])).getD j 0 else 0) K.length:=by
   rw[<- jo,<- rG];refine aN λi _=>?_
   split
   .rw[Rat.zero_mul,Rat.neg_mul,<- Rat.mul_assoc,Rat.neg_add_cancel]
   .rw[Rat.add_zero,Rat.mul_assoc]
  rw[e1,h j hj,Rat.mul_zero,Rat.zero_add,wU (v:=λi=>(1 / c i0)*c i*(f (K.getD i [])).getD j 0) hi0,Rat.div_mul_cancel hne,Rat.one_mul]
 have h2:∀ r,r ∈ rs->bU n ((K.eraseIdx i0).map f) (vf r.v):=λr hr'=>(hr r hr').trans λb hb=>by
  obtain⟨z,hz,rfl⟩:=mM hb;by_cases hzm:z ∈ K.eraseIdx i0
  .exact .mem (List.mem_map.2 ⟨z,hzm,rfl⟩)
  .obtain⟨t,ht,rfl⟩:=List.mem_iff_getElem.1 hz;have hti:t=i0:=Decidable.byContradiction λhx=>hzm (List.mem_eraseIdx_iff_getElem.2 ⟨t,ht,hx,rfl⟩);subst hti;have eg:K[t]=K.getD t []:=by rw[ig,lu ht];rfl
   rw[eg];exact h1
 have h3:=Es _ rs e h2;rw[dJ,List.length_eraseIdx,if_pos hi0] at h3;omega

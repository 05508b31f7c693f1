/-
  Walks of package rows, part 4: a basis of the vectors of words (printed by mk2.py).
-/
import Derived.Test.YtanlenlmihoiiaaGreatDoorKMod97
import Derived.Test.YtanlenlmihoiiaaGreatDoorKWkN
set_option maxRecDepth 8000
set_option maxHeartbeats 3200000
set_option linter.unusedVariables false
set_option linter.unusedSimpArgs false
namespace Go.AL
open Go Go.BigFrame
section
variable {m mv:bQ}{B:Nat}{L V K Q:List (List Int)}{rs:List dh}{y:BK}{u w:List Int}
theorem WG {k:Nat}(h:iy k w):∀ q,q ∈ dD k w->iy k q:=λq hq x hx=>by
 obtain⟨s,hs,rfl⟩:=jH hq;have:=List.mem_range.1 hs;rcases ru hx with hx|hx
 .exact h x hx
 .rw[lV hx];omega
theorem EC (ok:m.Ok):∀ (N:Nat) (V K Q:List (List Int)) (rs:List dh),Join m V K Q rs->(∀ u,u ∈ K->iy m.k u)->(∀ q,q ∈ Q->iy m.k q)->jM m Q rs<=N->∃ V K rs,Join m V K [] rs/\∀ u,u ∈ K->iy m.k u
 | N,V,K,[],rs,j,hK,_,_=>⟨V,K,rs,j,hK⟩
 | 0,V,K,w::Q,rs,j,_,_,h=>by
  have:=vI (m:=m) (w:=w) (Q:=Q) (rs:=rs);omega
 | N + 1, V, K, w :: Q, rs, j, hK, hQ, h => by
  have hw:=hQ w rY;have hQ2:∀ q,q ∈ Q->iy m.k q:=λq hq=>hQ q (List.mem_cons_of_mem _ hq);cases hg:bW rs (aZ m w) with
  | true =>
   have:=CP ok j hg;exact EC ok N _ _ _ _ (j.keep ok hg) (λu hu=>(ru hu).elim (hK u) λhu=>by rw[lV hu];exact hw) (λq hq=>(ru hq).elim (hQ2 q) (WG hw q)) (by omega)
  | false =>
   have:=vI (m:=m) (w:=w) (Q:=Q) (rs:=rs);exact EC ok N _ _ _ _ (j.drop ok hg) hK hQ2 (by omega)
theorem WH (ok:m.Ok):∃ V K rs,Join m V K [] rs/\∀ u,u ∈ K->iy m.k u :=
 EC ok _ _ _ _ _ (Join.start m) (λ_ h=>by cases h) (λq hq=>by rw[lV hq];exact λx hx=>by cases hx) (Nat.le_refl _)
theorem iw.uN (h:iw m B [] y):∀ u,u ∈ y.ks->iy m.k u:=λu hu=>by
 obtain⟨V,j,e⟩:=h.join;rw[List.append_nil] at e;exact JJ (λu hu=>by rw[<- e];exact j.EO.sub u hu) u.length u rfl hu
theorem iw.closed (h:iw m B [] y)(hu:u ∈ y.ks)(hne:u≠[]):u.dropLast ∈ y.ks:=by
 obtain⟨V,j,e⟩:=h.join;rw[List.append_nil] at e;have hn:u ∈ iE m.k y.ks:=by rw[<- e];exact j.EO.sub u hu
 rcases List.mem_cons.1 hn with rfl|hn
 .exact absurd rfl hne
 .obtain⟨z,hz,hn⟩:=List.mem_flatMap.1 hn;obtain⟨s,_,rfl⟩:=jH hn;rw[List.dropLast_concat];exact hz
theorem iw.count (h:iw m B [] y):y.ks.length=y.rs.length:=by
 obtain⟨V,j,_⟩:=h.join;exact j.len.symm
theorem WI (ok:m.Ok){V2:List (List Int)}{r2:List dh}(j2:Join (aU m) V2 L [] r2)(hn:mv.n=L.length)(hk:mv.k=m.k)(hv:∀ w,iy m.k w->aZ mv w=bG m L w)(h:iw mv B [] y):y.ks.length=EI m.k (kU m):=by
 obtain⟨V,K,r1,j,hK⟩:=WH ok;obtain⟨V3,j3,e3⟩:=h.join;rw[List.append_nil] at e3;have inw:∀ u,u ∈ y.ks->iy m.k u:=λu hu=>by rw[<- hk];exact h.uN u hu
 have ech:MI L.length y.rs:=by rw[<- hn];exact j3.ech
 have hr:=Ij ok j j2 ech (λr hr=>by
   have h1:=j3.rows r hr;rw[hn] at h1;refine h1.trans λb hb=>?_;obtain⟨u,hu,rfl⟩:=jH hb;rw[hv u (inw u hu)];have h2:=j.EO.reach u (inw u hu) λq hq=>by cases hq
   have h3:=h2.map (C:=K.map (bG m L)) (OE m L) λb hb=>by
    obtain⟨z,hz,rfl⟩:=jH hb;refine (cZ.mem (List.mem_map.2 ⟨z,(eY.1 hz).1,rfl⟩)).congr λi hi=>?_;have e:(bG m L z).getD i 0=jW m z (L.getD i []):=aO _ _ hi;exact e.symm
   exact h3.congr λi hi=>aO _ _ hi) λu hu=>by
  have hw:iy m.k u:=hK u hu;have h2:=j3.EO.reach u (by rw[hk];exact hw) λq hq=>by cases hq
  rw[hv u hw,hn] at h2;refine h2.trans λb hb=>?_;obtain⟨z,hz,rfl⟩:=jH hb;have:=j3.kept z (eY.1 hz).1;rw[hn] at this;exact this
 rw[h.count];refine (Jt ?_).symm;have e:FD m.k (kU m)=λ(u l:Wd m.k)=>jW m u.1 l.1:=by
  funext u l;exact (Bv l.1 u.1 l.2).symm
 rw[e];exact hr
end
section
variable {mv mm:bQ}{K:List (List Int)}{w:List Int}
theorem Df {n N:Nat}(a:Nat->Rat)(b:Nat->Nat->Rat)(c:Nat->Rat):aW (λp=>aW (λj=>a j*b j p) N*c p) n=aW (λj=>a j*aW (λp=>b j p*c p) n) N:=by
 have e1:aW (λp=>aW (λj=>a j*b j p) N*c p) n=aW (λp=>aW (λj=>a j*(b j p*c p)) N) n:=aF λp _=>by
  rw[<- nG];exact aF λj _=>Rat.mul_assoc ..
 have e2:aW (λj=>a j*aW (λp=>b j p*c p) n) N=aW (λj=>aW (λp=>a j*(b j p*c p)) n) N:=aF λj _=>(ig ..).symm;rw[e1,e2,pJ]
structure ab5 (mv mm:bQ) (K:List (List Int)):Prop where
 n:mm.n=K.length
 k:mm.k=mv.k
 root:0<K.length/\K.getD 0 []=[]
 ini:∀ j,j<K.length->mm.ini.getD j 0=if 0=j then 1 else 0
 fin:∀ j,j<K.length->mm.fin.getD j 0=kU mv (K.getD j [])
 ent:∀ s,s<mv.k->∀ i,i<K.length->∀ q,q<mv.n->(aZ mv (K.getD i []++[((s+1:Nat):Int)])).getD q 0=aW (λj=>iU mm s i j*(aZ mv (K.getD j [])).getD q 0) K.length
theorem ab5.vec (h:ab5 mv mm K):∀ (n:Nat) (w:List Int),w.length=n->iy mv.k w->∀ q,q<mv.n->(aZ mv w).getD q 0=aW (λj=>(aZ mm w).getD j 0*(aZ mv (K.getD j [])).getD q 0) K.length:=by
 intro n
 induction n with
 | zero =>
  intro w hn _ q _;rw[EQ hn];have e:aW (λj=>(aZ mm []).getD j 0*(aZ mv (K.getD j [])).getD q 0) K.length=aW (λj=>if 0=j then (aZ mv (K.getD j [])).getD q 0 else 0) K.length:=aF λj hj=>by
   show mm.ini.getD j 0*_=_
   rw[h.ini j hj]
   split
   .rw[Rat.one_mul]
   .rw[Rat.zero_mul]
  rw[e,xh (v:=λj=>(aZ mv (K.getD j [])).getD q 0) h.root.1,h.root.2]
 | succ n ih =>
  intro w hn hw q hq;have hne:w≠[]:=λe=>by rw[e] at hn;cases hn
  obtain⟨z,x,rfl⟩:∃ z x,w=z++[x]:=⟨w.dropLast,w.getLast hne,(List.dropLast_concat_getLast hne).symm⟩;have hx:=hw x (by simp)
  obtain⟨s,hs,rfl⟩:∃ s:Nat,s<mv.k/\x=((s+1:Nat):Int):=⟨x.toNat-1,by omega,by omega⟩
  have hz:iy mv.k z:=λq hq=>hw q (List.mem_append.2 (.inl hq));have es:(((s+1:Nat):Int)).toNat-1=s:=by omega
  have ihz:=ih z (by rw[jd,kC] at hn;omega) hz
  have step:∀ (m:bQ) (u:List Int) (q:Nat),q<m.n->(aZ m (u++[((s+1:Nat):Int)])).getD q 0=aW (λi=>(aZ m u).getD i 0*iU m s i q) m.n:=λm u q hq=>by
   rw[iq,es];unfold stepM;rw[aO _ _ hq]
  have e1:(aZ mv (z++[((s+1:Nat):Int)])).getD q 0=aW (λp=>aW (λj=>(aZ mm z).getD j 0*(aZ mv (K.getD j [])).getD p 0) K.length*iU mv s p q) mv.n:=by
   rw[step mv z q hq];exact aF λp hp=>by rw[ihz p hp]
  have e2:aW (λl=>(aZ mm (z++[((s+1:Nat):Int)])).getD l 0*(aZ mv (K.getD l [])).getD q 0) K.length=aW (λl=>aW (λj=>(aZ mm z).getD j 0*iU mm s j l) K.length*(aZ mv (K.getD l [])).getD q 0) K.length :=
   aF λl hl=>by rw[step mm z l (by rw[h.n];exact hl),h.n]
  rw[e1,Df,e2,Df];refine aF λj hj=>?_;congr 1;rw[<- h.ent s hs j hj q hq,step mv _ q hq]
theorem ab5.wt (h:ab5 mv mm K)(hw:iy mv.k w):kU mm w=kU mv w:=by
 unfold kU mZ;have e1:aW (λq=>vf (aZ mv w) q*vf mv.fin q) mv.n=aW (λq=>aW (λj=>(aZ mm w).getD j 0*(aZ mv (K.getD j [])).getD q 0) K.length*mv.fin.getD q 0) mv.n :=
  aF λq hq=>by rw[<- h.vec w.length w rfl hw q hq]
 rw[e1,Df,h.n];refine aF λj hj=>?_;show (aZ mm w).getD j 0*mm.fin.getD j 0=_
 rw[h.fin j hj];rfl
end
section
variable {n:Nat}{rs:List dh}{C:List (List Rat)}{w t:List Rat}
structure Pm (n:Nat) (rs:List dh) (C:List (List Rat)):Prop where
 len:rs.length=C.length
 cl:∀ r,r ∈ rs->r.c.length<=C.length
 eq:∀ r,r ∈ rs->∀ i,i<n->r.v.getD i 0=aW (λj=>r.c.getD j 0*(C.getD j []).getD i 0) C.length
theorem Pm.nil:Pm n [] []:=⟨rfl,λ_ h=>(by cases h),λ_ h=>(by cases h)⟩
theorem aC3 {f:Rat}{c:List Rat}{j:Nat}(hj:j<t.length):(Ii t f c).getD j 0=t.getD j 0+f*c.getD j 0:=aO _ _ hj
theorem RJ (N:Nat)(i:Nat)(b:Nat->Rat):∀ (rs:List dh) (w t:List Rat),i<w.length->t.length=N->(∀ r,r ∈ rs->r.v.getD i 0=aW (λj=>r.c.getD j 0*b j) N) ->
  (bC rs w).getD i 0+aW (λj=>(sZ rs w t).getD j 0*b j) N=w.getD i 0+aW (λj=>t.getD j 0*b j) N
 | [],w,t,_,_,_=>rfl
 | r :: rs, w, t, hi, ht, h => by
  show (bC rs (jr w r)).getD i 0+aW (λj=>(sZ rs (jr w r) (Ii t (kz w r) r.c)).getD j 0*b j) N=_
  rw[RJ N i b rs (jr w r) (Ii t (kz w r) r.c) (by rw[pY];exact hi) (by rw[Vy];exact ht) λr hr=>h r (List.mem_cons_of_mem _ hr),yx hi]
  have e:aW (λj=>(Ii t (kz w r) r.c).getD j 0*b j) N=aW (λj=>t.getD j 0*b j) N+kz w r*aW (λj=>r.c.getD j 0*b j) N:=by
   rw[<- ig,<- pF];refine aF λj hj=>?_;rw[aC3 (by rw[ht];exact hj),Rat.add_mul,Rat.mul_assoc]
  rw[e,<- h r rY,Rat.sub_eq_add_neg,Rat.add_assoc,Rat.add_comm (aW (λj=>t.getD j 0*b j) N),<- Rat.add_assoc (-(kz w r*r.v.getD i 0)),Rat.neg_add_cancel,Rat.zero_add]
theorem Pm.taken (h:Pm n rs C)(hw:w.length=n){i:Nat}(hi:i<n):w.getD i 0=(bC rs w).getD i 0+aW (λj=>(jU rs w).getD j 0*(C.getD j []).getD i 0) C.length:=by
 have e:=RJ C.length i (λj=>(C.getD j []).getD i 0) rs w (List.replicate rs.length 0) (by rw[hw];exact hi) (by rw[List.length_replicate];exact h.len) λr hr=>h.eq r hr i hi
 have z:aW (λj=>(List.replicate rs.length (0:Rat)).getD j 0*(C.getD j []).getD i 0) C.length=0:=jk λj _=>by rw[OH,Rat.zero_mul]
 rw[z,Rat.add_zero] at e;exact e.symm
theorem Pm.find (h:Pm n rs C)(hw:w.length=n)(hg:bW rs w=false){i:Nat}(hi:i<n):w.getD i 0=aW (λj=>(jU rs w).getD j 0*(C.getD j []).getD i 0) C.length:=by
 have e:=h.taken hw hi;have hz:(bC rs w).getD i 0=0:=by
  have h1:¬ eU (bC rs w)<(bC rs w).length:=λhl=>by
   rw[BA.2 hl] at hg;cases hg
  have h2:=mD rs w;exact uy (by omega)
 rw[hz,Rat.zero_add] at e;exact e
theorem Pm.grow (h:Pm n rs C)(hw:w.length=n):Pm n (rs++[newR rs w]) (C++[w]):=by
 have hl:=h.len;refine⟨by rw[jd,jd,h.len];rfl,λr hr=>?_,λr hr i hi=>?_⟩
 .rw[jd,kC];rcases ru hr with hr|hr
  .have:=h.cl r hr;omega
  .rw[lV hr];show (Nh rs w).length<=_
   rw[TP];omega
 .rw[jd, kC];have low:∀ j,j<C.length->(C++[w]).getD j []=C.getD j []:=λj hj=>by
   rw[iO,List.getElem?_append_left hj,iO]
  have top:(C++[w]).getD C.length []=w:=by
   rw[iO,List.getElem?_append_right (Nat.le_refl _),Nat.sub_self];rfl
  show r.v.getD i 0=aW (λj=>r.c.getD j 0*((C++[w]).getD j []).getD i 0) C.length+r.c.getD C.length 0*((C++[w]).getD C.length []).getD i 0
  rw[top,aF (g:=λj=>r.c.getD j 0*(C.getD j []).getD i 0) λj hj=>by rw[low j hj]]
  rcases ru hr with hr|hr
  .have hc:=h.cl r hr;rw[<- h.eq r hr i hi,show r.c.getD C.length 0=0 by rw[iO,List.getElem?_eq_none hc];rfl,Rat.zero_mul,Rat.add_zero]
  .rw[lV hr];show (bC rs w).getD i 0=aW (λj=>(Nh rs w).getD j 0*(C.getD j []).getD i 0) C.length+(Nh rs w).getD C.length 0*w.getD i 0
   rw[<- hl,V7,Rat.one_mul,aF (g:=λj=>-((jU rs w).getD j 0)*(C.getD j []).getD i 0) λj hj=>by rw[aa8 hj]]
   have e:=h.taken hw hi;rw[<- hl] at e;have en:aW (λj=>-((jU rs w).getD j 0)*(C.getD j []).getD i 0) rs.length = -(aW (λj=>(jU rs w).getD j 0*(C.getD j []).getD i 0) rs.length):=by
    have:aW (λj=>-((jU rs w).getD j 0)*(C.getD j []).getD i 0) rs.length=(-1)*aW (λj=>(jU rs w).getD j 0*(C.getD j []).getD i 0) rs.length:=by
     rw[<- ig];exact aF λj _=>by rw[Rat.neg_mul,Rat.neg_mul,Rat.one_mul]
    rw[this,Rat.neg_mul,Rat.one_mul]
   rw[en,e,Rat.add_comm ((bC rs w).getD i 0),<- Rat.add_assoc,Rat.neg_add_cancel,Rat.zero_add]
end
section
variable {m:bQ}{B B':Nat}{y y':BK}{u w:List Int}
theorem RN (h:qN u w<=0)(hne:u≠w):qN u w<0:=by
 rcases Int.lt_or_le (qN u w) 0 with g|g
 .exact g
 .exact absurd (Jq (Int.le_antisymm h g)) hne
theorem iw.mem_of (h:iw m B [] y)(h':iw m B' [] y')(hu:u ∈ y.ks):u ∈ y'.ks:=by
 refine Decidable.byContradiction λhn=>?_;obtain⟨V,j,_⟩:=h.join;obtain⟨V',j',_⟩:=h'.join;have s1:=j'.EO.reach u (h.uN u hu) λq hq=>by cases hq
 have s2:cZ m.n ((y.ks.filter λk=>decide (k≠u)).map (aZ m)) (vf (aZ m u)):=s1.trans λb hb=>by
  obtain⟨k,hk,rfl⟩:=jH hb;obtain⟨hk1,hk2⟩:=eY.1 hk;have hlt:qN k u<0:=RN hk2 λe=>hn (e ▸ hk1);refine (j.EO.reach k (h'.uN k hk1) λq hq=>by cases hq).mono λb hb=>?_
  obtain⟨z,hz,rfl⟩:=jH hb;obtain⟨hz1,hz2⟩:=eY.1 hz;refine List.mem_map.2 ⟨z,List.mem_filter.2 ⟨hz1,decide_eq_true λe=>?_⟩,rfl⟩;rw[e] at hz2;have:=Gt k u;omega
 have s3:∀ r,r ∈ y.rs->cZ m.n ((y.ks.filter λk=>decide (k≠u)).map (aZ m)) (vf r.v):=λr hr=>(j.rows r hr).trans λb hb=>by
  obtain⟨k,hk,rfl⟩:=jH hb;by_cases e:k=u
  .rw[e];exact s2
  .exact .mem (List.mem_map.2 ⟨k,List.mem_filter.2 ⟨hk,decide_eq_true e⟩,rfl⟩)
 have l:=FB _ y.rs j.ech s3;rw[dL] at l;have l2:(y.ks.filter λk=>decide (k≠u)).length<y.ks.length:=List.length_filter_lt_length_iff_exists.2 ⟨u,hu,by simp⟩
 have:=j.len;omega
theorem KR:∀ {a b:List (List Int)},a.Pairwise (λa b=>qN a b<0)->b.Pairwise (λa b=>qN a b<0)->(∀ u,u ∈ a ↔ u ∈ b)->a=b
 | [],[],_,_,_=>rfl
 | [],x::b,_,_,h=>absurd ((h x).2 rY) (by simp)
 | x::a,[],_,_,h=>absurd ((h x).1 rY) (by simp)
 | x :: a, y :: b, ha, hb, h => by
  obtain⟨a1,a2⟩:=List.pairwise_cons.1 ha;obtain⟨b1,b2⟩:=List.pairwise_cons.1 hb;have e:x=y:=by
   refine Decidable.byContradiction λhne=>?_;have h1:=(List.mem_cons.1 ((h x).1 rY)).resolve_left hne;have h2:=(List.mem_cons.1 ((h y).2 rY)).resolve_left λe=>hne e.symm;have:=a1 y h2;have:=b1 x h1;have:=Gt x y;omega
  subst e;rw[KR a2 b2 λu=>⟨λhu=>?_,λhu=>?_⟩]
  .rcases List.mem_cons.1 ((h u).1 (List.mem_cons_of_mem _ hu)) with e|g
   .have:=a1 u hu;rw[e,Fv] at this;exact absurd this (by decide)
   .exact g
  .rcases List.mem_cons.1 ((h u).2 (List.mem_cons_of_mem _ hu)) with e|g
   .have:=b1 u hu;rw[e,Fv] at this;exact absurd this (by decide)
   .exact g
theorem iw.unique (h:iw m B [] y)(h':iw m B' [] y'):y.ks=y'.ks:=KR h.ord h'.ord λu=>⟨h.mem_of h',h'.mem_of h⟩
open Classical in
noncomputable def jw (m:bQ):List (List Int):=if h:∃ (y:BK) (B:Nat),iw m B [] y then h.choose.ks else []
theorem iw.bas (h:iw m B [] y):y.ks=jw m:=by
 have hex:∃ (y:BK) (B:Nat),iw m B [] y:=⟨y,B,h⟩;unfold jw;rw[dif_pos hex];obtain⟨B',h'⟩:=hex.choose_spec;exact h.unique h'
theorem FT (ok:m.Ok)(n6:m.n<=6)(h1:1<=B)(hz:∀ w,iy m.k w->w.length<=6->∀ i,sz ((aZ m w).getD i 0)<=B):∀ (N:Nat) (Q:List (List Int)) (y:BK),iw m B Q y->jM m Q y.rs<=N->∃ y,iw m B [] y
 | N,[],y,h,_=>⟨y,h⟩
 | 0,w::Q,y,h,hN=>by
  have:=vI (m:=m) (w:=w) (Q:=Q) (rs:=y.rs);omega
 | N + 1, w :: Q, y, h, hN => by
  have hw:iy m.k w:=by
   obtain⟨V,j,_⟩:=h.join;exact j.EO.uN w (.inr rY)
  have h6:=h.b.six n6 w rY;obtain⟨ht,hf⟩:=h.next ok h1 (hz w hw h6)
  cases hk:(oL m w y).1 with
  | true=>exact FT ok n6 h1 hz N _ _ (ht hk).1 (by have:=(ht hk).2;omega)
  | false=>exact FT ok n6 h1 hz N _ _ (hf hk).1 (by have:=(hf hk).2;omega)
theorem Nl (ok:m.Ok)(n6:m.n<=6)(h1:1<=B)(hz:∀ w,iy m.k w->w.length<=6->∀ i,sz ((aZ m w).getD i 0)<=B):∃ y,iw m B [] y/\y.ks=jw m:=by
 obtain⟨y,h⟩:=FT ok n6 h1 hz _ _ _ (iw.start m B) (Nat.le_refl _);exact⟨y,h,h.bas⟩
end
section
variable {a:Au}
theorem Au.Fw.inv (f:a.Fw):∃ y,iw (ah [a]) 16777215 [] y/\y.ks=jw (ah [a]) :=
 Nl f.Uf.1 (by have:=f.few.st;have:=f.Uf.2.2.2;omega) (by decide) λw _ h6 i=>Nat.le_trans (mV f.Uf.2.2.1 h6 i) (by decide)
end
end Go.AL
namespace Go.Proofs.YtanlenlmihoiiaaGreatDoor
open Go Go.AL
theorem L6 {α:Type}{P:Program}{f:Nat}{args:List V}{M:Mem}{res:α->V}{M':α->Mem}{φ ψ:α->Prop}(h:jD P f args M res M' φ)(hi:∀ x,φ x->ψ x):jD P f args M res M' ψ :=
 ⟨h.1,λF w vals hS hv=>(h.2 F w vals hS hv).mono λe w' ⟨x,hx,r⟩=>⟨x,hi x hx,r⟩⟩
abbrev BSt:=BK × P7 × Nat × Nat
def kB (m:bQ)(b bs bx:Nat):KM BSt:=⟨λy=>boxS b y.2.1 y.1.rs,λy=>Yn y.2.1 y.1.rs,λy=>BL y.2.1 y.1.rs,λy=>rowP y.2.1 y.1.rs,λ_=>.box bs T.uU [.ptr 1000 b 0],λy=>.box bx T.Rows [.bK 1006 y.2.2.1 y.1.ks.length y.2.2.2],λy=>.row y.2.2.1 y.2.2.2 T.Row 2 (y.1.ks.map (yH m)),λ_=>.row 0 0 T.bF 1 []⟩
theorem Np {m:bQ}{w:List Int}{y:BK}(h:bW y.rs (aZ m w)=true):oL m w y=(true,⟨y.ks++[w],y.rs++[newR y.rs (aZ m w)]⟩):=if_pos h
theorem Nq {m:bQ}{w:List Int}{y:BK}(h:bW y.rs (aZ m w)=false):oL m w y=(false,y):=if_neg (by rw[h];exact Bool.false_ne_true)
theorem aT0 {m:bQ}{e b bs bx:Nat}{w:List Int}{y:BK}{B:P7}{bo co:Nat}(ok:m.Ok)(z6:m.Sz e)(sp:qU m.n 16777215 y.rs)(hw:w.length<=6)(hk:y.ks.length<=64):jD P F.kE [ah8 m w,.ptr 1004 bs 0,.ptr 1005 bx 0] (kmM (kB m b bs bx) (y,B,bo,co)) (λz:Bool × BSt=>.d (dB z.1)) (λz=>kmM (kB m b bs bx) z.2) (λz=>z.1=(oL m w y).1/\z.2.1=(oL m w y).2):=by
 obtain⟨ks,rs⟩:=y;have sp:qU m.n 16777215 rs:=sp;have hk:ks.length<=64:=hk;refine jD.intro fn.kE (by rfl) (by rfl) (au (by rfl)) λE hE=>(AW.sg hE rfl (iG rfl rfl λb3=>(aG rfl (OL.nil (AW.seq (AW.seq (AW.yP (by rw[hE];rfl) ?_)))))))
 refine SK.jK (aA ce.uU rfl rfl (v:=.ptr 1000 b 0) rfl (OL.nil ?_));refine SK.jK (aV fd.QJ rfl rfl (OL.nil ?_));refine SK.jK (aA ce.bF rfl rfl (v:=.d (gm (aZ m w))) rfl (OL.nil ?_));refine SK.G6 (SO.Og (args':=[.ptr 1000 b 0,.d (gm (aZ m w))]) (show 8<E.n by rw[hE];exact Nat.le_of_ble_eq_true (by rfl)) rfl vL (Mc:=spM b B rs) (λid blk hk=>oz (l:=Yo b B rs) (.cons rfl (.cons rfl (.cons rfl (.cons rfl trivial)))) id blk hk) (bp7 (b:=b) (B:=B) sp (lu ok w) z6.n6 (λi=>Nat.le_trans (mV z6 hw i) (by decide))) (λx _ id hk=>V8 id hk) ?_)
 rintro B2 -
 refine SK.jK (nt rfl (OL.nil ?_));refine SK.nil (AW.cond rfl (λhg=>?_) (λhg=>?_))
 .have hg:bW rs (aZ m w)=false:=by simpa using hg
  rw[show tq rs (aZ m w)=rs from if_neg (by rw[hg];exact Bool.false_ne_true)]
  refine AW.sg hE rfl (aG rfl (OL.nil ?_));exact AW.ret ⟨(false,(⟨ks,rs⟩,B2,bo,co)),⟨(congrArg Prod.fst (Nq (y:=⟨ks,rs⟩) hg)).symm,(congrArg Prod.snd (Nq (y:=⟨ks,rs⟩) hg)).symm⟩,⟨_,.tmp rfl .nil,.le vR⟩,λid blk hk=>oz (l:=kmL (kB m b bs bx) (⟨ks,rs⟩,B2,bo,co)) (.cons rfl (.cons rfl (.cons rfl (.cons rfl (.cons rfl (.cons rfl (.cons rfl (.cons rfl trivial)))))))) id blk hk⟩
 .have hg:bW rs (aZ m w)=true:=by simpa using hg
  rw[show tq rs (aZ m w)=rs++[newR rs (aZ m w)] from if_pos hg]
  refine AW.skip (AW.sg hE rfl (aA ce.Rows rfl rfl (v:=.bK 1006 bo ks.length co) rfl (aQ ag.Row rfl rfl (vs:=[_,_]) rfl (au rfl) (xG (y:=yH m w) sl.Rows aB2 rfl (by decide) ?_))))
  refine Am sl.Rows rfl rfl rfl (by rw[dL]) (VC.d _) (λy hy=>by rw[lV hy];rfl) (by simp;omega) (by simp;omega) (.inl rfl) (ys:=(ks++[w]).map (yH m)) (by rw[List.map_append];rfl) (n2:=ks.length+1) rfl λb13 c13=>?_
  refine eG sz.Rows rfl rfl rfl rfl rfl (au rfl) rfl (OL.nil (AW.seq ?_));have hln:(ks++[w]).length=ks.length+1:=jd;refine AW.to [] [(1000,boxS b B2 (rs++[newR rs (aZ m w)])),(1001,Yn B2 (rs++[newR rs (aZ m w)])),(1002,BL B2 (rs++[newR rs (aZ m w)])),(1003,rowP B2 (rs++[newR rs (aZ m w)])),(1004,.box bs T.uU [.ptr 1000 b 0]),(1005,.box bx T.Rows [.bK 13 b13 (ks.length+1) c13]),(13,.row b13 c13 T.Row 2 ((ks++[w]).map (yH m))),(1007,.row 0 0 T.bF 1 [])] .nil (.cons rfl (.cons rfl (.cons rfl (.cons rfl (.cons rfl (.cons rfl (.cons rfl (.cons rfl (.nil))))))))) ?_;refine AW.rename 13 1006 rfl (AW.pV 1005 [.bK 1006 b13 (ks.length+1) c13] rfl (.cons bV.bK .nil) ?_);refine AW.rg hE rfl (aG rfl (OL.nil ?_));exact AW.ret ⟨(true,(⟨ks++[w],rs++[newR rs (aZ m w)]⟩,B2,b13,c13)),⟨(congrArg Prod.fst (Np (y:=⟨ks,rs⟩) hg)).symm,(congrArg Prod.snd (Np (y:=⟨ks,rs⟩) hg)).symm⟩,⟨_,.tmp rfl .nil,.le vR⟩,λid blk hk=>oz (l:=kmL (kB m b bs bx) (⟨ks++[w],rs++[newR rs (aZ m w)]⟩,B2,b13,c13)) (.cons rfl (.cons rfl (.cons rfl (.cons rfl (.cons rfl (.cons (by show _=some (iI.box bx T.Rows [.bK 1006 b13 (ks++[w]).length c13]);rw[hln];rfl) (.cons rfl (.cons rfl trivial)))))))) id blk hk⟩
theorem be8 {m:bQ}{e:Nat}(ok:m.Ok)(fl:m.Full)(z6:m.Sz e):jD P F.ql [uD m] jA (λy:BK=>.d (JC m y.ks)) (λ_=>jA) (λy=>iw m 16777215 [] y):=by
 have n6:=z6.n6;have k4:=z6.k2;refine jD.intro fn.ql (by rfl) (by rfl) (au (by rfl)) λE hE=>(AW.sg hE rfl (iG rfl rfl λb1=>(nI rfl (OL.nil (AW.sg hE rfl (al z.Rows rfl λb3=>(OL.nil ?_)))))))
 refine AW.sg hE rfl (bd z.Space pl.Space (cs:=[_,_,_]) rfl (iG rfl rfl λb6=>(al z.uU rfl λb4=>(eG sz.uU rfl rfl rfl rfl rfl (au rfl) (cells2:=[_]) rfl (OL.nil (AW.seq (AW.rename 6 1000 rfl ?_)))))));refine AW.vz 1001 T.bF 1 rfl (AW.vz 1002 T.bF 1 rfl (AW.vz 1003 T.int 1 rfl (AW.pV 1000 [.bK 1001 0 0 0,.bK 1002 0 0 0,.bK 1003 0 0 0] rfl (.cons lK (.cons lK (.cons lK .nil))) (AW.rename 4 1004 rfl (AW.pV 1004 [.ptr 1000 b6 0] rfl (.cons bV.ptr .nil) (AW.rename 3 1005 rfl (AW.vz 1006 T.Row 2 rfl ?_)))))));refine AW.vz 1007 T.bF 1 rfl (AW.pV 1005 [.bK 1006 0 0 0] rfl (.cons lK .nil) ?_);refine AW.to [(1,.ptr 1 b1 0),(2,.mt),(3,.ptr 1005 b3 0),(4,.ptr 1004 b4 0)] ((1,.box b1 T.Machine [.d (gm m.ini),.d (gm m.fin),.d (.sl (m.gV.map kN))])::kmL (kB m b6 b4 b3) ((⟨[],[]⟩,(default:P7),0,0):BSt)) (.cons bV.ptr (.cons vR (.cons bV.ptr (.cons bV.ptr .nil)))) (.cons rfl (.cons rfl (.cons rfl (.cons rfl (.cons rfl (.cons rfl (.cons rfl (.cons rfl (.cons rfl (.nil)))))))))) ?_;refine AW.yP (by rw[hE];rfl) (SK.jK (aQ ag.Machine rfl rfl (vs:=[_,_,_]) rfl (au rfl) (OL.nil ?_)))
 refine SK.jK (mkF (vs:=[_,_]) rfl (OL.nil ?_));refine SK.G6 (SO.Og (args':=[uD m,.fn F.kE [.ptr 1004 b4 0,.ptr 1005 b3 0]]) (show 9<E.n by rw[hE];exact Nat.le_of_ble_eq_true (by rfl)) rfl vL (Mc:=kmM (kB m b6 b4 b3) ((⟨[],[]⟩,(default:P7),0,0):BSt)) (λid blk hk=>oz (l:=kmL (kB m b6 b4 b3) ((⟨[],[]⟩,(default:P7),0,0):BSt)) (.cons rfl (.cons rfl (.cons rfl (.cons rfl (.cons rfl (.cons rfl (.cons rfl (.cons rfl trivial)))))))) id blk hk)
  (Wl (m:=m) (k:=kB m b6 b4 b3) (I:=λQ y=>iw m 16777215 Q y.1) (μ:=λQ y=>jM m Q y.1.rs) ok fl z6 (λQ y hI=>⟨hI.b.six n6,Nat.le_add_right _ _⟩)
   (λw Q y hI=>L6 (aT0 (y:=y.1) (B:=y.2.1) (bo:=y.2.2.1) (co:=y.2.2.2) ok z6 hI.sp (hI.b.six n6 w rY) (by have:=hI.b.few;omega)) λz hz=>by
    have h9:=hI.next ok (by decide) (λi=>Nat.le_trans (mV z6 (hI.b.six n6 w rY) i) (by decide))
    rw[<- hz.1,<- hz.2] at h9;exact h9) (iw.start m 16777215) (by
     show [([]:List Int)].length+(m.k+1)*(m.n-0)<=1000
     have h9:=Nat.mul_le_mul (show m.k+1<=5 by omega) (show m.n-0<=6 by omega)
     rw[kC];omega)) (λx _ id hk=>O7 id hk) ?_)
 rintro⟨y,B,bo,co⟩ hI
 have hI:iw m 16777215 [] y:=hI;refine SK.nil (AW.sg hE rfl (aA ce.Rows rfl rfl (v:=.bK 1006 bo y.ks.length co) rfl (uf rfl (OL.nil ?_))));exact AW.ret ⟨y,hI,⟨_,.tmp rfl .nil,RO.row rfl (by rw[dL]) rfl⟩,λ_ _ h=>by cases h⟩
theorem be9 {m:bQ}{e:Nat}(ok:m.Ok)(fl:m.Full)(z6:m.Sz e):jD P F.qh [uD m] jA (λy:BK=>.fn F.ji [.ref [JC (aU m) y.ks]]) (λ_=>jA) (λy=>iw (aU m) 16777215 [] y):=by
 have n6:=z6.n6;have k4:=z6.k2;refine jD.intro fn.qh (by rfl) (by rfl) (au (by rfl)) λE hE=>(AW.sg hE rfl (iG rfl rfl λb1=>(aG rfl (OL.nil (AW.seq (AW.yP (by rw[hE];rfl) (SK.jK (aQ ag.Machine rfl rfl (vs:=[_,_,_]) rfl (au rfl) (OL.nil ?_)))))))))
 refine SK.jK (bP rfl .dw (aR9 fl (by omega) (by omega)) (OL.nil ?_))
 refine SK.G6 (SO.Og (args':=[uD (aU m)]) (show 6<E.n by rw[hE];exact Nat.le_of_ble_eq_true (by rfl)) rfl vL (Mc:=jA) (λ_ _ h=>by cases h) (be8 (qC ok) (KI m) z6.turn) (λ_ _ _ h=>h) ?_)
 rintro y hI
 refine SK.jK (al z.Rows rfl λb3=>OL.nil ?_);refine SK.jK (eG sz.Rows rfl rfl rfl rfl rfl (au rfl) (cells2:=[_]) rfl (OL.nil ?_));refine SK.nil (AW.seq (AW.BP 3 [JC (aU m) y.ks] rfl (VCs.UH [JC (aU m) y.ks]) (AW.to [(3,.ref [JC (aU m) y.ks])] [] (.cons (aC (show V.Xq 3 b3 [JC (aU m) y.ks] (.ptr 3 b3 0)=.ref [JC (aU m) y.ks] from E8)) .nil) .nil ?_)))
 refine AW.rg hE rfl (mkF (vs:=[_]) rfl (asF rfl (OL.nil ?_)));exact AW.ret ⟨y,hI,⟨_,.tmp rfl .nil,.le vR⟩,λ_ _ h=>by cases h⟩

/-
  Walks of package rows, part 4: a basis of the vectors of words (printed by mk2.py).
-/
import Derived.Test.YtanlenlmihoiiaaGreatDoorKMod96
import Derived.Test.YtanlenlmihoiiaaGreatDoorKWkN
set_option maxRecDepth 8000
set_option maxHeartbeats 3200000
set_option linter.unusedVariables false
set_option linter.unusedSimpArgs false
namespace Go.AL
open Go Go.BigFrame
section
variable {m:bV}{L V:List (List Int)}{rs:List bZ}{w u:List Int}
theorem Lh (ok:m.Ok)(j:Join (aA m) V L [] rs)(hw:iV m.k w):∃ c:Nat->Rat,∀ i,i<m.n->(bF (aA m) w).getD i 0=bD (λl=>c l*(bF (aA m) (L.getD l [])).getD i 0) L.length:=by
 have h:=j.Kz.reach w (by rw[kX];exact hw) λq hq=>by cases hq
 have h2:dh (aA m).n (tV (aA m) L) (vf (bF (aA m) w)):=h.mono λb hb=>by
  obtain⟨u,hu,rfl⟩:=kK hb;exact List.mem_map.2 ⟨u,(dV.1 hu).1,rfl⟩
 obtain⟨c,hc⟩:=h2.bd1;refine⟨c,λi hi=>?_⟩;have hv:(tV (aA m) L).length=L.length:=dA ..;have e:=hc i hi;rw[hv] at e;refine e.trans (aJ λl hl=>?_);have ev:(tV (aA m) L).getD l []=bF (aA m) (L.getD l []):=by
  unfold tV;simp[jh,lQ hl]
 rw[ev]
theorem U1 {n N:Nat}{x:Nat->Rat}{y:Nat->Rat}{c:Nat->Rat}{b:Nat->Nat->Rat}(h:∀ i,i<n->y i=bD (λl=>c l*b l i) N):vX n x y=bD (λl=>vX n x (b l)*c l) N:=by
 unfold vX;have e1:bD (λi=>x i*y i) n=bD (λi=>bD (λl=>x i*(c l*b l i)) N) n:=aJ λi hi=>by rw[h i hi,<- iq]
 have e2:bD (λl=>bD (λi=>x i*b l i) n*c l) N=bD (λl=>bD (λi=>x i*(c l*b l i)) n) N:=aJ λl _=>by
  rw[<- tN];exact aJ λi _=>by rw[Rat.mul_comm (c l),Rat.mul_assoc]
 rw[e1,e2,pz]
theorem am9 (ok:m.Ok)(j:Join (aA m) V L [] rs)(hL:∀ l,l ∈ L->iV m.k l):∃ mv:bV,mv.n=L.length/\mv.k=m.k/\mv.Ok/\(∀ w,iV m.k w->bF mv w=aZ m L w)/\∀ w,iV m.k w->yH mv w=yH m w:=by
 have inL:∀ l,l<L.length->∀ s,s<m.k->iV m.k (L.getD l [])->iV m.k (L.getD l []++[((s+1:Nat):Int)]):=λl _ s hs h x hx=>by
  rcases uy hx with hx|hx
  .exact h x hx
  .rw[jJ hx];omega
 have ex:∀ (s l:Nat),∃ c:Nat->Rat,iV m.k (L.getD l []++[((s+1:Nat):Int)])->∀ i,i<m.n->(bF (aA m) (L.getD l []++[((s+1:Nat):Int)])).getD i 0=bD (λq=>c q*(bF (aA m) (L.getD q [])).getD i 0) L.length:=λs l=>by
  by_cases hw:iV m.k (L.getD l []++[((s+1:Nat):Int)])
  .obtain⟨c,hc⟩:=Lh ok j hw;exact⟨c,λ_=>hc⟩
  .exact⟨λ_=>0,λh=>absurd h hw⟩
 obtain⟨d,hd⟩:=Lh (w:=[]) ok j λx hx=>by cases hx
 have hC:∃ C:Nat->Nat->Nat->Rat,∀ s l,iV m.k (L.getD l []++[((s+1:Nat):Int)])->∀ i,i<m.n->(bF (aA m) (L.getD l []++[((s+1:Nat):Int)])).getD i 0=bD (λq=>C s l q*(bF (aA m) (L.getD q [])).getD i 0) L.length :=
  ⟨λs l=>(ex s l).choose,λs l=>(ex s l).choose_spec⟩
 obtain⟨C,hC⟩:=hC;have hin:∀ l,l<L.length->iV m.k (L.getD l []):=λl hl=>by
  have hmem:L.getD l [] ∈ L:=getD_mem hl [];exact hL _ hmem
 let mv:bV:=⟨L.length,aZ m L [],(List.range L.length).map d,(List.range m.k).map λs=>Ig L.length λi q=>C s q i⟩
 have hk:mv.k=m.k:=by show ((List.range m.k).map _).length=m.k;simp
 have hent:∀ s i q,s<m.k->i<L.length->q<L.length->qJ mv s i q=C s q i:=λs i q hs hi hq=>by
  show ((((List.range m.k).map λs=>Ig L.length λi q=>C s q i).getD s []).getD i []).getD q 0=_
  rw[aT _ _ hs,NK hi hq]
 have bq5:∀ (n:Nat) (w:List Int),w.length=n->iV m.k w->bF mv w=aZ m L w:=by
  intro n
  induction n with
  | zero=>intro w hn _;rw[Hl hn];rfl
  | succ n ih =>
   intro w hn hw;have hne:w≠[]:=λe=>by rw[e] at hn;cases hn
   obtain⟨z,x,rfl⟩:∃ z x,w=z++[x]:=⟨w.dropLast,w.getLast hne,(List.dropLast_concat_getLast hne).symm⟩;have hx:=hw x (by simp)
   obtain⟨s,hs,rfl⟩:∃ s:Nat,s<m.k/\x=((s+1:Nat):Int):=⟨x.toNat-1,by omega,by omega⟩
   have hz:iV m.k z:=λq hq=>hw q (List.mem_append.2 (.inl hq));rw[mY,ih z (by rw[jd,iY] at hn;omega) hz]
   refine List.ext_getElem (by rw[DT,fU]) λq h1 h2=>?_
   rw[fU] at h2;have g1:∀ (l:List Rat) (h:q<l.length),l[q]=l.getD q 0:=λl h=>by rw[jh,lQ h];rfl
   rw[g1,g1];have e1:(aZ m L (z++[((s+1:Nat):Int)])).getD q 0=jP m (z++[((s+1:Nat):Int)]) (L.getD q []):=aT _ _ h2;have es:(((s+1:Nat):Int)).toNat-1=s:=by omega
   rw[e1,es];unfold stepM;rw[show mv.n=L.length from rfl,aT _ _ h2]
   unfold jP;rw[mY,es,WA hs];have e2:stepM (aA m) (bF (aA m) (L.getD q [])) s=bF (aA m) (L.getD q []++[((s+1:Nat):Int)]):=by rw[mY,es]
   rw[e2,U1 (y:=vf (bF (aA m) (L.getD q []++[((s+1:Nat):Int)]))) (b:=λl=>vf (bF (aA m) (L.getD l []))) (λi hi=>hC s q (inL q h2 s hs (hin q h2)) i hi)];refine aJ λl hl=>?_;rw[hent s l q hs hl h2,show (aZ m L z).getD l 0=jP m z (L.getD l []) from aT _ _ hl]
   rfl
 refine⟨mv,rfl,hk,⟨fU,by show ((List.range L.length).map d).length=L.length;simp⟩,λw hw=>bq5 w.length w rfl hw,λw hw=>?_⟩
 unfold yH;rw[bq5 w.length w rfl hw,U1 (n:=m.n) (y:=vf m.fin) (b:=λl=>vf (bF (aA m) (L.getD l []))) hd];unfold vX;rw[show mv.n=L.length from rfl]
 refine aJ λl hl=>?_;rw[show vf (aZ m L w) l=jP m w (L.getD l []) from aT _ _ hl,show vf mv.fin l=d l from aT _ _ hl]
 rfl
end
section
variable {m mv:bV}{B:Nat}{L V K Q:List (List Int)}{rs:List bZ}{y:y7}{u w:List Int}
theorem aD9 {k:Nat}(h:iV k w):∀ q,q ∈ cu k w->iV k q:=λq hq x hx=>by
 obtain⟨s,hs,rfl⟩:=kK hq;have:=List.mem_range.1 hs;rcases uy hx with hx|hx
 .exact h x hx
 .rw[jJ hx];omega
theorem Fb (ok:m.Ok):∀ (N:Nat) (V K Q:List (List Int)) (rs:List bZ),Join m V K Q rs->(∀ u,u ∈ K->iV m.k u)->(∀ q,q ∈ Q->iV m.k q)->iP m Q rs<=N->∃ V K rs,Join m V K [] rs/\∀ u,u ∈ K->iV m.k u
 | N,V,K,[],rs,j,hK,_,_=>⟨V,K,rs,j,hK⟩
 | 0,V,K,w::Q,rs,j,_,_,h=>by
  have:=xO (m:=m) (w:=w) (Q:=Q) (rs:=rs);omega
 | N + 1, V, K, w :: Q, rs, j, hK, hQ, h => by
  have hw:=hQ w pU;have hQ2:∀ q,q ∈ Q->iV m.k q:=λq hq=>hQ q (List.mem_cons_of_mem _ hq);cases hg:bM rs (bF m w) with
  | true =>
   have:=GU ok j hg;exact Fb ok N _ _ _ _ (j.keep ok hg) (λu hu=>(uy hu).elim (hK u) λhu=>by rw[jJ hu];exact hw) (λq hq=>(uy hq).elim (hQ2 q) (aD9 hw q)) (by omega)
  | false =>
   have:=xO (m:=m) (w:=w) (Q:=Q) (rs:=rs);exact Fb ok N _ _ _ _ (j.drop ok hg) hK hQ2 (by omega)
theorem Xp (ok:m.Ok):∃ V K rs,Join m V K [] rs/\∀ u,u ∈ K->iV m.k u :=
 Fb ok _ _ _ _ _ (Join.start m) (λ_ h=>by cases h) (λq hq=>by rw[jJ hq];exact λx hx=>by cases hx) (Nat.le_refl _)
theorem gu.vF (h:gu m B [] y):∀ u,u ∈ y.ks->iV m.k u:=λu hu=>by
 obtain⟨V,j,e⟩:=h.join;rw[List.append_nil] at e;exact Xj (λu hu=>by rw[<- e];exact j.Kz.sub u hu) u.length u rfl hu
theorem gu.closed (h:gu m B [] y)(hu:u ∈ y.ks)(hne:u≠[]):u.dropLast ∈ y.ks:=by
 obtain⟨V,j,e⟩:=h.join;rw[List.append_nil] at e;have hn:u ∈ Qd m.k y.ks:=by rw[<- e];exact j.Kz.sub u hu
 rcases List.mem_cons.1 hn with rfl|hn
 .exact absurd rfl hne
 .obtain⟨z,hz,hn⟩:=List.mem_flatMap.1 hn;obtain⟨s,_,rfl⟩:=kK hn;rw[List.dropLast_concat];exact hz
theorem gu.count (h:gu m B [] y):y.ks.length=y.rs.length:=by
 obtain⟨V,j,_⟩:=h.join;exact j.len.symm
theorem Xq (ok:m.Ok){V2:List (List Int)}{r2:List bZ}(j2:Join (aA m) V2 L [] r2)(hn:mv.n=L.length)(hk:mv.k=m.k)(hv:∀ w,iV m.k w->bF mv w=aZ m L w)(h:gu mv B [] y):y.ks.length=Ih m.k (yH m):=by
 obtain⟨V,K,r1,j,hK⟩:=Xp ok;obtain⟨V3,j3,e3⟩:=h.join;rw[List.append_nil] at e3;have inw:∀ u,u ∈ y.ks->iV m.k u:=λu hu=>by rw[<- hk];exact h.vF u hu
 have ech:Np L.length y.rs:=by rw[<- hn];exact j3.ech
 have hr:=Pq ok j j2 ech (λr hr=>by
   have h1:=j3.rows r hr;rw[hn] at h1;refine h1.trans λb hb=>?_;obtain⟨u,hu,rfl⟩:=kK hb;rw[hv u (inw u hu)];have h2:=j.Kz.reach u (inw u hu) λq hq=>by cases hq
   have h3:=h2.map (C:=K.map (aZ m L)) (Po m L) λb hb=>by
    obtain⟨z,hz,rfl⟩:=kK hb;refine (dh.mem (List.mem_map.2 ⟨z,(dV.1 hz).1,rfl⟩)).congr λi hi=>?_;have e:(aZ m L z).getD i 0=jP m z (L.getD i []):=aT _ _ hi;exact e.symm
   exact h3.congr λi hi=>aT _ _ hi) λu hu=>by
  have hw:iV m.k u:=hK u hu;have h2:=j3.Kz.reach u (by rw[hk];exact hw) λq hq=>by cases hq
  rw[hv u hw,hn] at h2;refine h2.trans λb hb=>?_;obtain⟨z,hz,rfl⟩:=kK hb;have:=j3.kept z (dV.1 hz).1;rw[hn] at this;exact this
 rw[h.count];refine (Py ?_).symm;have e:Hy m.k (yH m)=λ(u l:Wd m.k)=>jP m u.1 l.1:=by
  funext u l;exact (CQ l.1 u.1 l.2).symm
 rw[e];exact hr
end
section
variable {mv mm:bV}{K:List (List Int)}{w:List Int}
theorem Gl {n N:Nat}(a:Nat->Rat)(b:Nat->Nat->Rat)(c:Nat->Rat):bD (λp=>bD (λj=>a j*b j p) N*c p) n=bD (λj=>a j*bD (λp=>b j p*c p) n) N:=by
 have e1:bD (λp=>bD (λj=>a j*b j p) N*c p) n=bD (λp=>bD (λj=>a j*(b j p*c p)) N) n:=aJ λp _=>by
  rw[<- tN];exact aJ λj _=>Rat.mul_assoc ..
 have e2:bD (λj=>a j*bD (λp=>b j p*c p) n) N=bD (λj=>bD (λp=>a j*(b j p*c p)) n) N:=aJ λj _=>(iq ..).symm;rw[e1,e2,pz]
structure ae5 (mv mm:bV) (K:List (List Int)):Prop where
 n:mm.n=K.length
 k:mm.k=mv.k
 root:0<K.length/\K.getD 0 []=[]
 ini:∀ j,j<K.length->mm.ini.getD j 0=if 0=j then 1 else 0
 fin:∀ j,j<K.length->mm.fin.getD j 0=yH mv (K.getD j [])
 ent:∀ s,s<mv.k->∀ i,i<K.length->∀ q,q<mv.n->(bF mv (K.getD i []++[((s+1:Nat):Int)])).getD q 0=bD (λj=>qJ mm s i j*(bF mv (K.getD j [])).getD q 0) K.length
theorem ae5.vec (h:ae5 mv mm K):∀ (n:Nat) (w:List Int),w.length=n->iV mv.k w->∀ q,q<mv.n->(bF mv w).getD q 0=bD (λj=>(bF mm w).getD j 0*(bF mv (K.getD j [])).getD q 0) K.length:=by
 intro n
 induction n with
 | zero =>
  intro w hn _ q _;rw[Hl hn];have e:bD (λj=>(bF mm []).getD j 0*(bF mv (K.getD j [])).getD q 0) K.length=bD (λj=>if 0=j then (bF mv (K.getD j [])).getD q 0 else 0) K.length:=aJ λj hj=>by
   show mm.ini.getD j 0*_=_
   rw[h.ini j hj]
   split
   .rw[Rat.one_mul]
   .rw[Rat.zero_mul]
  rw[e,vO (v:=λj=>(bF mv (K.getD j [])).getD q 0) h.root.1,h.root.2]
 | succ n ih =>
  intro w hn hw q hq;have hne:w≠[]:=λe=>by rw[e] at hn;cases hn
  obtain⟨z,x,rfl⟩:∃ z x,w=z++[x]:=⟨w.dropLast,w.getLast hne,(List.dropLast_concat_getLast hne).symm⟩;have hx:=hw x (by simp)
  obtain⟨s,hs,rfl⟩:∃ s:Nat,s<mv.k/\x=((s+1:Nat):Int):=⟨x.toNat-1,by omega,by omega⟩
  have hz:iV mv.k z:=λq hq=>hw q (List.mem_append.2 (.inl hq));have es:(((s+1:Nat):Int)).toNat-1=s:=by omega
  have ihz:=ih z (by rw[jd,iY] at hn;omega) hz
  have step:∀ (m:bV) (u:List Int) (q:Nat),q<m.n->(bF m (u++[((s+1:Nat):Int)])).getD q 0=bD (λi=>(bF m u).getD i 0*qJ m s i q) m.n:=λm u q hq=>by
   rw[mY,es];unfold stepM;rw[aT _ _ hq]
  have e1:(bF mv (z++[((s+1:Nat):Int)])).getD q 0=bD (λp=>bD (λj=>(bF mm z).getD j 0*(bF mv (K.getD j [])).getD p 0) K.length*qJ mv s p q) mv.n:=by
   rw[step mv z q hq];exact aJ λp hp=>by rw[ihz p hp]
  have e2:bD (λl=>(bF mm (z++[((s+1:Nat):Int)])).getD l 0*(bF mv (K.getD l [])).getD q 0) K.length=bD (λl=>bD (λj=>(bF mm z).getD j 0*qJ mm s j l) K.length*(bF mv (K.getD l [])).getD q 0) K.length :=
   aJ λl hl=>by rw[step mm z l (by rw[h.n];exact hl),h.n]
  rw[e1,Gl,e2,Gl];refine aJ λj hj=>?_;congr 1;rw[<- h.ent s hs j hj q hq,step mv _ q hq]
theorem ae5.wt (h:ae5 mv mm K)(hw:iV mv.k w):yH mm w=yH mv w:=by
 unfold yH vX;have e1:bD (λq=>vf (bF mv w) q*vf mv.fin q) mv.n=bD (λq=>bD (λj=>(bF mm w).getD j 0*(bF mv (K.getD j [])).getD q 0) K.length*mv.fin.getD q 0) mv.n :=
  aJ λq hq=>by rw[<- h.vec w.length w rfl hw q hq]
 rw[e1,Gl,h.n];refine aJ λj hj=>?_;show (bF mm w).getD j 0*mm.fin.getD j 0=_
 rw[h.fin j hj];rfl
end
section
variable {n:Nat}{rs:List bZ}{C:List (List Rat)}{w t:List Rat}
structure Qk (n:Nat) (rs:List bZ) (C:List (List Rat)):Prop where
 len:rs.length=C.length
 cl:∀ r,r ∈ rs->r.c.length<=C.length
 eq:∀ r,r ∈ rs->∀ i,i<n->r.v.getD i 0=bD (λj=>r.c.getD j 0*(C.getD j []).getD i 0) C.length
theorem Qk.nil:Qk n [] []:=⟨rfl,λ_ h=>(by cases h),λ_ h=>(by cases h)⟩
theorem aE0 {f:Rat}{c:List Rat}{j:Nat}(hj:j<t.length):(IA t f c).getD j 0=t.getD j 0+f*c.getD j 0:=aT _ _ hj
theorem Tv (N:Nat)(i:Nat)(b:Nat->Rat):∀ (rs:List bZ) (w t:List Rat),i<w.length->t.length=N->(∀ r,r ∈ rs->r.v.getD i 0=bD (λj=>r.c.getD j 0*b j) N) ->
  (aO rs w).getD i 0+bD (λj=>(tX rs w t).getD j 0*b j) N=w.getD i 0+bD (λj=>t.getD j 0*b j) N
 | [],w,t,_,_,_=>rfl
 | r :: rs, w, t, hi, ht, h => by
  show (aO rs (jg w r)).getD i 0+bD (λj=>(tX rs (jg w r) (IA t (fJ w r) r.c)).getD j 0*b j) N=_
  rw[Tv N i b rs (jg w r) (IA t (fJ w r) r.c) (by rw[nX];exact hi) (by rw[Ws];exact ht) λr hr=>h r (List.mem_cons_of_mem _ hr),vN hi]
  have e:bD (λj=>(IA t (fJ w r) r.c).getD j 0*b j) N=bD (λj=>t.getD j 0*b j) N+fJ w r*bD (λj=>r.c.getD j 0*b j) N:=by
   rw[<- iq,<- pq];refine aJ λj hj=>?_;rw[aE0 (by rw[ht];exact hj),Rat.add_mul,Rat.mul_assoc]
  rw[e,<- h r pU,Rat.sub_eq_add_neg,Rat.add_assoc,Rat.add_comm (bD (λj=>t.getD j 0*b j) N),<- Rat.add_assoc (-(fJ w r*r.v.getD i 0)),Rat.neg_add_cancel,Rat.zero_add]
theorem Qk.taken (h:Qk n rs C)(hw:w.length=n){i:Nat}(hi:i<n):w.getD i 0=(aO rs w).getD i 0+bD (λj=>(jS rs w).getD j 0*(C.getD j []).getD i 0) C.length:=by
 have e:=Tv C.length i (λj=>(C.getD j []).getD i 0) rs w (List.replicate rs.length 0) (by rw[hw];exact hi) (by rw[List.length_replicate];exact h.len) λr hr=>h.eq r hr i hi
 have z:bD (λj=>(List.replicate rs.length (0:Rat)).getD j 0*(C.getD j []).getD i 0) C.length=0:=kR λj _=>by rw[wW,Rat.zero_mul]
 rw[z,Rat.add_zero] at e;exact e.symm
theorem Qk.find (h:Qk n rs C)(hw:w.length=n)(hg:bM rs w=false){i:Nat}(hi:i<n):w.getD i 0=bD (λj=>(jS rs w).getD j 0*(C.getD j []).getD i 0) C.length:=by
 have e:=h.taken hw hi;have hz:(aO rs w).getD i 0=0:=by
  have h1:¬ dX (aO rs w)<(aO rs w).length:=λhl=>by
   rw[vT.2 hl] at hg;cases hg
  have h2:=jk rs w;exact qV (by omega)
 rw[hz,Rat.zero_add] at e;exact e
theorem Qk.grow (h:Qk n rs C)(hw:w.length=n):Qk n (rs++[newR rs w]) (C++[w]):=by
 have hl:=h.len;refine⟨by rw[jd,jd,h.len];rfl,λr hr=>?_,λr hr i hi=>?_⟩
 .rw[jd,iY];rcases uy hr with hr|hr
  .have:=h.cl r hr;omega
  .rw[jJ hr];show (NJ rs w).length<=_
   rw[UG];omega
 .rw[jd, iY];have low:∀ j,j<C.length->(C++[w]).getD j []=C.getD j []:=λj hj=>by
   rw[jh,List.getElem?_append_left hj,jh]
  have top:(C++[w]).getD C.length []=w:=by
   rw[jh,List.getElem?_append_right (Nat.le_refl _),Nat.sub_self];rfl
  show r.v.getD i 0=bD (λj=>r.c.getD j 0*((C++[w]).getD j []).getD i 0) C.length+r.c.getD C.length 0*((C++[w]).getD C.length []).getD i 0
  rw[top,aJ (g:=λj=>r.c.getD j 0*(C.getD j []).getD i 0) λj hj=>by rw[low j hj]]
  rcases uy hr with hr|hr
  .have hc:=h.cl r hr;rw[<- h.eq r hr i hi,show r.c.getD C.length 0=0 by rw[jh,List.getElem?_eq_none hc];rfl,Rat.zero_mul,Rat.add_zero]
  .rw[jJ hr];show (aO rs w).getD i 0=bD (λj=>(NJ rs w).getD j 0*(C.getD j []).getD i 0) C.length+(NJ rs w).getD C.length 0*w.getD i 0
   rw[<- hl,WY,Rat.one_mul,aJ (g:=λj=>-((jS rs w).getD j 0)*(C.getD j []).getD i 0) λj hj=>by rw[ad8 hj]]
   have e:=h.taken hw hi;rw[<- hl] at e;have en:bD (λj=>-((jS rs w).getD j 0)*(C.getD j []).getD i 0) rs.length = -(bD (λj=>(jS rs w).getD j 0*(C.getD j []).getD i 0) rs.length):=by
    have:bD (λj=>-((jS rs w).getD j 0)*(C.getD j []).getD i 0) rs.length=(-1)*bD (λj=>(jS rs w).getD j 0*(C.getD j []).getD i 0) rs.length:=by
     rw[<- iq];exact aJ λj _=>by rw[Rat.neg_mul,Rat.neg_mul,Rat.one_mul]
    rw[this,Rat.neg_mul,Rat.one_mul]
   rw[en,e,Rat.add_comm ((aO rs w).getD i 0),<- Rat.add_assoc,Rat.neg_add_cancel,Rat.zero_add]
end
section
variable {m:bV}{B B':Nat}{y y':y7}{u w:List Int}
theorem Tz (h:mG u w<=0)(hne:u≠w):mG u w<0:=by
 rcases Int.lt_or_le (mG u w) 0 with g|g
 .exact g
 .exact absurd (F7 (Int.le_antisymm h g)) hne
theorem gu.mem_of (h:gu m B [] y)(h':gu m B' [] y')(hu:u ∈ y.ks):u ∈ y'.ks:=by
 refine Decidable.byContradiction λhn=>?_;obtain⟨V,j,_⟩:=h.join;obtain⟨V',j',_⟩:=h'.join;have s1:=j'.Kz.reach u (h.vF u hu) λq hq=>by cases hq
 have s2:dh m.n ((y.ks.filter λk=>decide (k≠u)).map (bF m)) (vf (bF m u)):=s1.trans λb hb=>by
  obtain⟨k,hk,rfl⟩:=kK hb;obtain⟨hk1,hk2⟩:=dV.1 hk;have hlt:mG k u<0:=Tz hk2 λe=>hn (e ▸ hk1);refine (j.Kz.reach k (h'.vF k hk1) λq hq=>by cases hq).mono λb hb=>?_
  obtain⟨z,hz,rfl⟩:=kK hb;obtain⟨hz1,hz2⟩:=dV.1 hz;refine List.mem_map.2 ⟨z,List.mem_filter.2 ⟨hz1,decide_eq_true λe=>?_⟩,rfl⟩;rw[e] at hz2;have:=E5 k u;omega
 have s3:∀ r,r ∈ y.rs->dh m.n ((y.ks.filter λk=>decide (k≠u)).map (bF m)) (vf r.v):=λr hr=>(j.rows r hr).trans λb hb=>by
  obtain⟨k,hk,rfl⟩:=kK hb;by_cases e:k=u
  .rw[e];exact s2
  .exact .mem (List.mem_map.2 ⟨k,List.mem_filter.2 ⟨hk,decide_eq_true e⟩,rfl⟩)
 have l:=F8 _ y.rs j.ech s3;rw[dA] at l;have l2:(y.ks.filter λk=>decide (k≠u)).length<y.ks.length:=List.length_filter_lt_length_iff_exists.2 ⟨u,hu,by simp⟩
 have:=j.len;omega
theorem Lj:∀ {a b:List (List Int)},a.Pairwise (λa b=>mG a b<0)->b.Pairwise (λa b=>mG a b<0)->(∀ u,u ∈ a ↔ u ∈ b)->a=b
 | [],[],_,_,_=>rfl
 | [],x::b,_,_,h=>absurd ((h x).2 pU) (by simp)
 | x::a,[],_,_,h=>absurd ((h x).1 pU) (by simp)
 | x :: a, y :: b, ha, hb, h => by
  obtain⟨a1,a2⟩:=List.pairwise_cons.1 ha;obtain⟨b1,b2⟩:=List.pairwise_cons.1 hb;have e:x=y:=by
   refine Decidable.byContradiction λhne=>?_;have h1:=(List.mem_cons.1 ((h x).1 pU)).resolve_left hne;have h2:=(List.mem_cons.1 ((h y).2 pU)).resolve_left λe=>hne e.symm;have:=a1 y h2;have:=b1 x h1;have:=E5 x y;omega
  subst e;rw[Lj a2 b2 λu=>⟨λhu=>?_,λhu=>?_⟩]
  .rcases List.mem_cons.1 ((h u).1 (List.mem_cons_of_mem _ hu)) with e|g
   .have:=a1 u hu;rw[e,Bo] at this;exact absurd this (by decide)
   .exact g
  .rcases List.mem_cons.1 ((h u).2 (List.mem_cons_of_mem _ hu)) with e|g
   .have:=b1 u hu;rw[e,Bo] at this;exact absurd this (by decide)
   .exact g
theorem gu.unique (h:gu m B [] y)(h':gu m B' [] y'):y.ks=y'.ks:=Lj h.ord h'.ord λu=>⟨h.mem_of h',h'.mem_of h⟩
open Classical in
noncomputable def jU (m:bV):List (List Int):=if h:∃ (y:y7) (B:Nat),gu m B [] y then h.choose.ks else []
theorem gu.bas (h:gu m B [] y):y.ks=jU m:=by
 have hex:∃ (y:y7) (B:Nat),gu m B [] y:=⟨y,B,h⟩;unfold jU;rw[dif_pos hex];obtain⟨B',h'⟩:=hex.choose_spec;exact h.unique h'
theorem Gm (ok:m.Ok)(n6:m.n<=6)(h1:1<=B)(hz:∀ w,iV m.k w->w.length<=6->∀ i,sz ((bF m w).getD i 0)<=B):∀ (N:Nat) (Q:List (List Int)) (y:y7),gu m B Q y->iP m Q y.rs<=N->∃ y,gu m B [] y
 | N,[],y,h,_=>⟨y,h⟩
 | 0,w::Q,y,h,hN=>by
  have:=xO (m:=m) (w:=w) (Q:=Q) (rs:=y.rs);omega
 | N + 1, w :: Q, y, h, hN => by
  have hw:iV m.k w:=by
   obtain⟨V,j,_⟩:=h.join;exact j.Kz.vF w (.inr pU)
  have h6:=h.b.six n6 w pU;obtain⟨ht,hf⟩:=h.next ok h1 (hz w hw h6)
  cases hk:(oJ m w y).1 with
  | true=>exact Gm ok n6 h1 hz N _ _ (ht hk).1 (by have:=(ht hk).2;omega)
  | false=>exact Gm ok n6 h1 hz N _ _ (hf hk).1 (by have:=(hf hk).2;omega)
theorem NR (ok:m.Ok)(n6:m.n<=6)(h1:1<=B)(hz:∀ w,iV m.k w->w.length<=6->∀ i,sz ((bF m w).getD i 0)<=B):∃ y,gu m B [] y/\y.ks=jU m:=by
 obtain⟨y,h⟩:=Gm ok n6 h1 hz _ _ _ (gu.start m B) (Nat.le_refl _);exact⟨y,h,h.bas⟩
end
section
variable {a:Au}
theorem Au.Fw.inv (f:a.Fw):∃ y,gu (ah [a]) 16777215 [] y/\y.ks=jU (ah [a]) :=
 NR f.Qe.1 (by have:=f.few.st;have:=f.Qe.2.2.2;omega) (by decide) λw _ h6 i=>Nat.le_trans (jY f.Qe.2.2.1 h6 i) (by decide)
end
end Go.AL
namespace Go.Proofs.YtanlenlmihoiiaaGreatDoor
open Go Go.AL
theorem MP {α:Type}{P:Program}{f:Nat}{args:List V}{M:Mem}{res:α->V}{M':α->Mem}{φ ψ:α->Prop}(h:jA P f args M res M' φ)(hi:∀ x,φ x->ψ x):jA P f args M res M' ψ :=
 ⟨h.1,λF w vals hS hv=>(h.2 F w vals hS hv).mono λe w' ⟨x,hx,r⟩=>⟨x,hi x hx,r⟩⟩
abbrev BSt:=y7 × NP × Nat × Nat
def kB (m:bV)(b bs bx:Nat):KM BSt:=⟨λy=>boxS b y.2.1 y.1.rs,λy=>P6 y.2.1 y.1.rs,λy=>zh y.2.1 y.1.rs,λy=>rowP y.2.1 y.1.rs,λ_=>.box bs T.vz [.ptr 1000 b 0],λy=>.box bx T.Rows [.bI 1006 y.2.2.1 y.1.ks.length y.2.2.2],λy=>.row y.2.2.1 y.2.2.2 T.Row 2 (y.1.ks.map (y5 m)),λ_=>.row 0 0 T.bg 1 []⟩
theorem GZ {m:bV}{w:List Int}{y:y7}(h:bM y.rs (bF m w)=true):oJ m w y=(true,⟨y.ks++[w],y.rs++[newR y.rs (bF m w)]⟩):=if_pos h
theorem CV {m:bV}{w:List Int}{y:y7}(h:bM y.rs (bF m w)=false):oJ m w y=(false,y):=if_neg (by rw[h];exact Bool.false_ne_true)
theorem aT2 {m:bV}{e b bs bx:Nat}{w:List Int}{y:y7}{B:NP}{bo co:Nat}(ok:m.Ok)(z6:m.Sz e)(sp:uO m.n 16777215 y.rs)(hw:w.length<=6)(hk:y.ks.length<=64):jA P F.kz [ak9 m w,.ptr 1004 bs 0,.ptr 1005 bx 0] (kmM (kB m b bs bx) (y,B,bo,co)) (λz:Bool × BSt=>.d (dB z.1)) (λz=>kmM (kB m b bs bx) z.2) (λz=>z.1=(oJ m w y).1/\z.2.1=(oJ m w y).2):=by
 obtain⟨ks,rs⟩:=y;have sp:uO m.n 16777215 rs:=sp;have hk:ks.length<=64:=hk;refine jA.intro fn.kz (by rfl) (by rfl) (ay (by rfl)) λE hE=>(AW.sg hE rfl (iO rfl rfl λb3=>(aF rfl (OL.nil (AW.seq (AW.seq (AW.sO (by rw[hE];rfl) ?_)))))))
 refine SK.gV (aG ce.vz rfl rfl (v:=.ptr 1000 b 0) rfl (OL.nil ?_));refine SK.gV (bC fd.Me rfl rfl (OL.nil ?_));refine SK.gV (aG ce.bg rfl rfl (v:=.d (dJ (bF m w))) rfl (OL.nil ?_));refine SK.Hu (SO.Jo (args':=[.ptr 1000 b 0,.d (dJ (bF m w))]) (show 8<E.n by rw[hE];exact Nat.le_of_ble_eq_true (by rfl)) rfl vL (Mc:=spM b B rs) (λid blk hk=>oh (l:=X7 b B rs) (.cons rfl (.cons rfl (.cons rfl (.cons rfl trivial)))) id blk hk) (be6 (b:=b) (B:=B) sp (jl ok w) z6.n6 (λi=>Nat.le_trans (jY z6 hw i) (by decide))) (λx _ id hk=>P7 id hk) ?_)
 rintro B2 -
 refine SK.gV (nt rfl (OL.nil ?_));refine SK.nil (AW.cond rfl (λhg=>?_) (λhg=>?_))
 .have hg:bM rs (bF m w)=false:=by simpa using hg
  rw[show uK rs (bF m w)=rs from if_neg (by rw[hg];exact Bool.false_ne_true)]
  refine AW.sg hE rfl (aF rfl (OL.nil ?_));exact AW.ret ⟨(false,(⟨ks,rs⟩,B2,bo,co)),⟨(congrArg Prod.fst (CV (y:=⟨ks,rs⟩) hg)).symm,(congrArg Prod.snd (CV (y:=⟨ks,rs⟩) hg)).symm⟩,⟨_,.tmp rfl .nil,.le vR⟩,λid blk hk=>oh (l:=kmL (kB m b bs bx) (⟨ks,rs⟩,B2,bo,co)) (.cons rfl (.cons rfl (.cons rfl (.cons rfl (.cons rfl (.cons rfl (.cons rfl (.cons rfl trivial)))))))) id blk hk⟩
 .have hg:bM rs (bF m w)=true:=by simpa using hg
  rw[show uK rs (bF m w)=rs++[newR rs (bF m w)] from if_pos hg]
  refine AW.skip (AW.sg hE rfl (aG ce.Rows rfl rfl (v:=.bI 1006 bo ks.length co) rfl (aQ ag.Row rfl rfl (vs:=[_,_]) rfl (ay rfl) (rF (y:=y5 m w) sl.Rows aC9 rfl (by decide) ?_))))
  refine xZ sl.Rows rfl rfl rfl (by rw[dA]) (VC.d _) (λy hy=>by rw[jJ hy];rfl) (by simp;omega) (by simp;omega) (.inl rfl) (ys:=(ks++[w]).map (y5 m)) (by rw[List.map_append];rfl) (n2:=ks.length+1) rfl λb13 c13=>?_
  refine fA sz.Rows rfl rfl rfl rfl rfl (ay rfl) rfl (OL.nil (AW.seq ?_));have hln:(ks++[w]).length=ks.length+1:=jd;refine AW.to [] [(1000,boxS b B2 (rs++[newR rs (bF m w)])),(1001,P6 B2 (rs++[newR rs (bF m w)])),(1002,zh B2 (rs++[newR rs (bF m w)])),(1003,rowP B2 (rs++[newR rs (bF m w)])),(1004,.box bs T.vz [.ptr 1000 b 0]),(1005,.box bx T.Rows [.bI 13 b13 (ks.length+1) c13]),(13,.row b13 c13 T.Row 2 ((ks++[w]).map (y5 m))),(1007,.row 0 0 T.bg 1 [])] .nil (.cons rfl (.cons rfl (.cons rfl (.cons rfl (.cons rfl (.cons rfl (.cons rfl (.cons rfl (.nil))))))))) ?_;refine AW.rename 13 1006 rfl (AW.oZ 1005 [.bI 1006 b13 (ks.length+1) c13] rfl (.cons bW.bI .nil) ?_);refine AW.rg hE rfl (aF rfl (OL.nil ?_));exact AW.ret ⟨(true,(⟨ks++[w],rs++[newR rs (bF m w)]⟩,B2,b13,c13)),⟨(congrArg Prod.fst (GZ (y:=⟨ks,rs⟩) hg)).symm,(congrArg Prod.snd (GZ (y:=⟨ks,rs⟩) hg)).symm⟩,⟨_,.tmp rfl .nil,.le vR⟩,λid blk hk=>oh (l:=kmL (kB m b bs bx) (⟨ks++[w],rs++[newR rs (bF m w)]⟩,B2,b13,c13)) (.cons rfl (.cons rfl (.cons rfl (.cons rfl (.cons rfl (.cons (by show _=some (iF.box bx T.Rows [.bI 1006 b13 (ks++[w]).length c13]);rw[hln];rfl) (.cons rfl (.cons rfl trivial)))))))) id blk hk⟩
theorem be9 {m:bV}{e:Nat}(ok:m.Ok)(fl:m.Full)(z6:m.Sz e):jA P F.qm [wZ m] jH (λy:y7=>.d (Gj m y.ks)) (λ_=>jH) (λy=>gu m 16777215 [] y):=by
 have n6:=z6.n6;have k4:=z6.k2;refine jA.intro fn.qm (by rfl) (by rfl) (ay (by rfl)) λE hE=>(AW.sg hE rfl (iO rfl rfl λb1=>(jK rfl (OL.nil (AW.sg hE rfl (al z.Rows rfl λb3=>(OL.nil ?_)))))))
 refine AW.sg hE rfl (bd z.Space pl.Space (cs:=[_,_,_]) rfl (iO rfl rfl λb6=>(al z.vz rfl λb4=>(fA sz.vz rfl rfl rfl rfl rfl (ay rfl) (cells2:=[_]) rfl (OL.nil (AW.seq (AW.rename 6 1000 rfl ?_)))))));refine AW.rf 1001 T.bg 1 rfl (AW.rf 1002 T.bg 1 rfl (AW.rf 1003 T.int 1 rfl (AW.oZ 1000 [.bI 1001 0 0 0,.bI 1002 0 0 0,.bI 1003 0 0 0] rfl (.cons jB (.cons jB (.cons jB .nil))) (AW.rename 4 1004 rfl (AW.oZ 1004 [.ptr 1000 b6 0] rfl (.cons bW.ptr .nil) (AW.rename 3 1005 rfl (AW.rf 1006 T.Row 2 rfl ?_)))))));refine AW.rf 1007 T.bg 1 rfl (AW.oZ 1005 [.bI 1006 0 0 0] rfl (.cons jB .nil) ?_);refine AW.to [(1,.ptr 1 b1 0),(2,.mt),(3,.ptr 1005 b3 0),(4,.ptr 1004 b4 0)] ((1,.box b1 T.Machine [.d (dJ m.ini),.d (dJ m.fin),.d (.sl (m.jb.map qg))])::kmL (kB m b6 b4 b3) ((⟨[],[]⟩,(default:NP),0,0):BSt)) (.cons bW.ptr (.cons vR (.cons bW.ptr (.cons bW.ptr .nil)))) (.cons rfl (.cons rfl (.cons rfl (.cons rfl (.cons rfl (.cons rfl (.cons rfl (.cons rfl (.cons rfl (.nil)))))))))) ?_;refine AW.sO (by rw[hE];rfl) (SK.gV (aQ ag.Machine rfl rfl (vs:=[_,_,_]) rfl (ay rfl) (OL.nil ?_)))
 refine SK.gV (mkF (vs:=[_,_]) rfl (OL.nil ?_));refine SK.Hu (SO.Jo (args':=[wZ m,.fn F.kz [.ptr 1004 b4 0,.ptr 1005 b3 0]]) (show 9<E.n by rw[hE];exact Nat.le_of_ble_eq_true (by rfl)) rfl vL (Mc:=kmM (kB m b6 b4 b3) ((⟨[],[]⟩,(default:NP),0,0):BSt)) (λid blk hk=>oh (l:=kmL (kB m b6 b4 b3) ((⟨[],[]⟩,(default:NP),0,0):BSt)) (.cons rfl (.cons rfl (.cons rfl (.cons rfl (.cons rfl (.cons rfl (.cons rfl (.cons rfl trivial)))))))) id blk hk)
  (Xd (m:=m) (k:=kB m b6 b4 b3) (I:=λQ y=>gu m 16777215 Q y.1) (μ:=λQ y=>iP m Q y.1.rs) ok fl z6 (λQ y hI=>⟨hI.b.six n6,Nat.le_add_right _ _⟩)
   (λw Q y hI=>MP (aT2 (y:=y.1) (B:=y.2.1) (bo:=y.2.2.1) (co:=y.2.2.2) ok z6 hI.sp (hI.b.six n6 w pU) (by have:=hI.b.few;omega)) λz hz=>by
    have h9:=hI.next ok (by decide) (λi=>Nat.le_trans (jY z6 (hI.b.six n6 w pU) i) (by decide))
    rw[<- hz.1,<- hz.2] at h9;exact h9) (gu.start m 16777215) (by
     show [([]:List Int)].length+(m.k+1)*(m.n-0)<=1000
     have h9:=Nat.mul_le_mul (show m.k+1<=5 by omega) (show m.n-0<=6 by omega)
     rw[iY];omega)) (λx _ id hk=>P9 id hk) ?_)
 rintro⟨y,B,bo,co⟩ hI
 have hI:gu m 16777215 [] y:=hI;refine SK.nil (AW.sg hE rfl (aG ce.Rows rfl rfl (v:=.bI 1006 bo y.ks.length co) rfl (pV rfl (OL.nil ?_))));exact AW.ret ⟨y,hI,⟨_,.tmp rfl .nil,RO.row rfl (by rw[dA]) rfl⟩,λ_ _ h=>by cases h⟩
theorem aE1 {m:bV}{e:Nat}(ok:m.Ok)(fl:m.Full)(z6:m.Sz e)(n1:1<=m.n):jA P F.qh [wZ m] jH (λy:y7=>.fn F.gy [.ref [Gj (aA m) y.ks]]) (λ_=>jH) (λy=>gu (aA m) 16777215 [] y):=by
 have n6:=z6.n6;have k4:=z6.k2;refine jA.intro fn.qh (by rfl) (by rfl) (ay (by rfl)) λE hE=>(AW.sg hE rfl (iO rfl rfl λb1=>(aF rfl (OL.nil (AW.seq (AW.sO (by rw[hE];rfl) (SK.gV (aQ ag.Machine rfl rfl (vs:=[_,_,_]) rfl (ay rfl) (OL.nil ?_)))))))))
 refine SK.gV (bH rfl .dD (ae3 fl n1 (by omega) (by omega)) (OL.nil ?_))
 refine SK.Hu (SO.Jo (args':=[wZ (aA m)]) (show 6<E.n by rw[hE];exact Nat.le_of_ble_eq_true (by rfl)) rfl vL (Mc:=jH) (λ_ _ h=>by cases h) (be9 (iH ok) (DZ m) z6.turn) (λ_ _ _ h=>h) ?_)
 rintro y hI
 refine SK.gV (al z.Rows rfl λb3=>OL.nil ?_);refine SK.gV (fA sz.Rows rfl rfl rfl rfl rfl (ay rfl) (cells2:=[_]) rfl (OL.nil ?_));refine SK.nil (AW.seq (AW.Dq 3 [Gj (aA m) y.ks] rfl (VCs.Vt [Gj (aA m) y.ks]) (AW.to [(3,.ref [Gj (aA m) y.ks])] [] (.cons (au (show V.X6 3 b3 [Gj (aA m) y.ks] (.ptr 3 b3 0)=.ref [Gj (aA m) y.ks] from FP)) .nil) .nil ?_)))
 refine AW.rg hE rfl (mkF (vs:=[_]) rfl (asF rfl (OL.nil ?_)));exact AW.ret ⟨y,hI,⟨_,.tmp rfl .nil,.le vR⟩,λ_ _ h=>by cases h⟩

/-
  M, chapter 24: a machine on words whose rows are new has the series.
-/
import Derived.Test.YtnjoncgnjdkaoaaGreatDoorKMod96
set_option linter.unusedVariables false
set_option linter.unusedSimpArgs false
namespace Go.AL
open Go Go.BigFrame
section
variable {m:dZ}{L V:List (List Int)}{rs:List bJ}{w u:List Int}
theorem I9 (ok:m.Ok)(j:Join (bI m) V L [] rs)(hw:iV m.k w):∃ c:Nat->Rat,∀ i,i<m.n->(bQ (bI m) w).getD i 0=aW (λl=>c l*(bQ (bI m) (L.getD l [])).getD i 0) L.length:=by
 have h:=j.MF.reach w (by rw[oU];exact hw) λq hq=>by cases hq
 have h2:bK (bI m).n (vV (bI m) L) (vf (bQ (bI m) w)):=h.mono λb hb=>by
  obtain⟨u,hu,rfl⟩:=jY hb;exact List.mem_map.2 ⟨u,(eY.1 hu).1,rfl⟩
 obtain⟨c,hc⟩:=h2.aM6;refine⟨c,λi hi=>?_⟩;have hv:(vV (bI m) L).length=L.length:=dD ..;have e:=hc i hi;rw[hv] at e;refine e.trans (aJ λl hl=>?_);have ev:(vV (bI m) L).getD l []=bQ (bI m) (L.getD l []):=by
  unfold vV;simp[gI,kL hl]
 rw[ev]
theorem Rl {n N:Nat}{x:Nat->Rat}{y:Nat->Rat}{c:Nat->Rat}{b:Nat->Nat->Rat}(h:∀ i,i<n->y i=aW (λl=>c l*b l i) N):Bl n x y=aW (λl=>Bl n x (b l)*c l) N:=by
 unfold Bl;have e1:aW (λi=>x i*y i) n=aW (λi=>aW (λl=>x i*(c l*b l i)) N) n:=aJ λi hi=>by rw[h i hi,<- jf]
 have e2:aW (λl=>aW (λi=>x i*b l i) n*c l) N=aW (λl=>aW (λi=>x i*(c l*b l i)) n) N:=aJ λl _=>by
  rw[<- uj];exact aJ λi _=>by rw[Rat.mul_comm (c l),Rat.mul_assoc]
 rw[e1,e2,qZ]
theorem Zq (ok:m.Ok)(j:Join (bI m) V L [] rs)(hL:∀ l,l ∈ L->iV m.k l):∃ mv:dZ,mv.n=L.length/\mv.k=m.k/\mv.Ok/\(∀ w,iV m.k w->bQ mv w=dJ m L w)/\∀ w,iV m.k w->wW mv w=wW m w:=by
 have inL:∀ l,l<L.length->∀ s,s<m.k->iV m.k (L.getD l [])->iV m.k (L.getD l []++[((s+1:Nat):Int)]):=λl _ s hs h x hx=>by
  rcases rD hx with hx|hx
  .exact h x hx
  .rw[kJ hx];omega
 have ex:∀ (s l:Nat),∃ c:Nat->Rat,iV m.k (L.getD l []++[((s+1:Nat):Int)])->∀ i,i<m.n->(bQ (bI m) (L.getD l []++[((s+1:Nat):Int)])).getD i 0=aW (λq=>c q*(bQ (bI m) (L.getD q [])).getD i 0) L.length:=λs l=>by
  by_cases hw:iV m.k (L.getD l []++[((s+1:Nat):Int)])
  .obtain⟨c,hc⟩:=I9 ok j hw;exact⟨c,λ_=>hc⟩
  .exact⟨λ_=>0,λh=>absurd h hw⟩
 obtain⟨d,hd⟩:=I9 (w:=[]) ok j λx hx=>by cases hx
 have hC:∃ C:Nat->Nat->Nat->Rat,∀ s l,iV m.k (L.getD l []++[((s+1:Nat):Int)])->∀ i,i<m.n->(bQ (bI m) (L.getD l []++[((s+1:Nat):Int)])).getD i 0=aW (λq=>C s l q*(bQ (bI m) (L.getD q [])).getD i 0) L.length :=
  ⟨λs l=>(ex s l).choose,λs l=>(ex s l).choose_spec⟩
 obtain⟨C,hC⟩:=hC;have hin:∀ l,l<L.length->iV m.k (L.getD l []):=λl hl=>by
  have hmem:L.getD l [] ∈ L:=getD_mem hl [];exact hL _ hmem
 let mv:dZ:=⟨L.length,dJ m L [],(List.range L.length).map d,(List.range m.k).map λs=>Gf L.length λi q=>C s q i⟩
 have hk:mv.k=m.k:=by show ((List.range m.k).map _).length=m.k;simp
 have hent:∀ s i q,s<m.k->i<L.length->q<L.length->sG mv s i q=C s q i:=λs i q hs hi hq=>by
  show ((((List.range m.k).map λs=>Gf L.length λi q=>C s q i).getD s []).getD i []).getD q 0=_
  rw[aK _ _ hs,J9 hi hq]
 have aY2:∀ (n:Nat) (w:List Int),w.length=n->iV m.k w->bQ mv w=dJ m L w:=by
  intro n
  induction n with
  | zero=>intro w hn _;rw[Gt hn];rfl
  | succ n ih =>
   intro w hn hw;have hne:w≠[]:=λe=>by rw[e] at hn;cases hn
   obtain⟨z,x,rfl⟩:∃ z x,w=z++[x]:=⟨w.dropLast,w.getLast hne,(List.dropLast_concat_getLast hne).symm⟩;have hx:=hw x (by simp)
   obtain⟨s,hs,rfl⟩:∃ s:Nat,s<m.k/\x=((s+1:Nat):Int):=⟨x.toNat-1,by omega,by omega⟩
   have hz:iV m.k z:=λq hq=>hw q (List.mem_append.2 (.inl hq));rw[lW,ih z (by rw[iU,jL] at hn;omega) hz]
   refine List.ext_getElem (by rw[EW,sK]) λq h1 h2=>?_
   rw[sK] at h2;have g1:∀ (l:List Rat) (h:q<l.length),l[q]=l.getD q 0:=λl h=>by rw[gI,kL h];rfl
   rw[g1,g1];have e1:(dJ m L (z++[((s+1:Nat):Int)])).getD q 0=jP m (z++[((s+1:Nat):Int)]) (L.getD q []):=aK _ _ h2;have es:(((s+1:Nat):Int)).toNat-1=s:=by omega
   rw[e1,es];unfold stepM;rw[show mv.n=L.length from rfl,aK _ _ h2]
   unfold jP;rw[lW,es,TV hs];have e2:stepM (bI m) (bQ (bI m) (L.getD q [])) s=bQ (bI m) (L.getD q []++[((s+1:Nat):Int)]):=by rw[lW,es]
   rw[e2,Rl (y:=vf (bQ (bI m) (L.getD q []++[((s+1:Nat):Int)]))) (b:=λl=>vf (bQ (bI m) (L.getD l []))) (λi hi=>hC s q (inL q h2 s hs (hin q h2)) i hi)];refine aJ λl hl=>?_;rw[hent s l q hs hl h2,show (dJ m L z).getD l 0=jP m z (L.getD l []) from aK _ _ hl]
   rfl
 refine⟨mv,rfl,hk,⟨sK,by show ((List.range L.length).map d).length=L.length;simp⟩,λw hw=>aY2 w.length w rfl hw,λw hw=>?_⟩
 unfold wW;rw[aY2 w.length w rfl hw,Rl (n:=m.n) (y:=vf m.fin) (b:=λl=>vf (bQ (bI m) (L.getD l []))) hd];unfold Bl;rw[show mv.n=L.length from rfl]
 refine aJ λl hl=>?_;rw[show vf (dJ m L w) l=jP m w (L.getD l []) from aK _ _ hl,show vf mv.fin l=d l from aK _ _ hl]
 rfl
end
section
variable {m mv:dZ}{B:Nat}{L V K Q:List (List Int)}{rs:List bJ}{y:MZ}{u w:List Int}
theorem ak6 {k:Nat}(h:iV k w):∀ q,q ∈ dh k w->iV k q:=λq hq x hx=>by
 obtain⟨s,hs,rfl⟩:=jY hq;have:=List.mem_range.1 hs;rcases rD hx with hx|hx
 .exact h x hx
 .rw[kJ hx];omega
theorem Du (ok:m.Ok):∀ (N:Nat) (V K Q:List (List Int)) (rs:List bJ),Join m V K Q rs->(∀ u,u ∈ K->iV m.k u)->(∀ q,q ∈ Q->iV m.k q)->kG m Q rs<=N->∃ V K rs,Join m V K [] rs/\∀ u,u ∈ K->iV m.k u
 | N,V,K,[],rs,j,hK,_,_=>⟨V,K,rs,j,hK⟩
 | 0,V,K,w::Q,rs,j,_,_,h=>by
  have:=yA (m:=m) (w:=w) (Q:=Q) (rs:=rs);omega
 | N + 1, V, K, w :: Q, rs, j, hK, hQ, h => by
  have hw:=hQ w vC;have hQ2:∀ q,q ∈ Q->iV m.k q:=λq hq=>hQ q (List.mem_cons_of_mem _ hq);cases hg:bg rs (bQ m w) with
  | true =>
   have:=E5 ok j hg;exact Du ok N _ _ _ _ (j.keep ok hg) (λu hu=>(rD hu).elim (hK u) λhu=>by rw[kJ hu];exact hw) (λq hq=>(rD hq).elim (hQ2 q) (ak6 hw q)) (by omega)
  | false =>
   have:=yA (m:=m) (w:=w) (Q:=Q) (rs:=rs);exact Du ok N _ _ _ _ (j.drop ok hg) hK hQ2 (by omega)
theorem UB (ok:m.Ok):∃ V K rs,Join m V K [] rs/\∀ u,u ∈ K->iV m.k u :=
 Du ok _ _ _ _ _ (Join.start m) (λ_ h=>by cases h) (λq hq=>by rw[kJ hq];exact λx hx=>by cases hx) (Nat.le_refl _)
theorem kH.xB (h:kH m B [] y):∀ u,u ∈ y.ks->iV m.k u:=λu hu=>by
 obtain⟨V,j,e⟩:=h.join;rw[List.append_nil] at e;exact Uw (λu hu=>by rw[<- e];exact j.MF.sub u hu) u.length u rfl hu
theorem kH.closed (h:kH m B [] y)(hu:u ∈ y.ks)(hne:u≠[]):u.dropLast ∈ y.ks:=by
 obtain⟨V,j,e⟩:=h.join;rw[List.append_nil] at e;have hn:u ∈ vI m.k y.ks:=by rw[<- e];exact j.MF.sub u hu
 rcases List.mem_cons.1 hn with rfl|hn
 .exact absurd rfl hne
 .obtain⟨z,hz,hn⟩:=List.mem_flatMap.1 hn;obtain⟨s,_,rfl⟩:=jY hn;rw[List.dropLast_concat];exact hz
theorem kH.count (h:kH m B [] y):y.ks.length=y.rs.length:=by
 obtain⟨V,j,_⟩:=h.join;exact j.len.symm
theorem UC (ok:m.Ok){V2:List (List Int)}{r2:List bJ}(j2:Join (bI m) V2 L [] r2)(hn:mv.n=L.length)(hk:mv.k=m.k)(hv:∀ w,iV m.k w->bQ mv w=dJ m L w)(h:kH mv B [] y):y.ks.length=Bz m.k (wW m):=by
 obtain⟨V,K,r1,j,hK⟩:=UB ok;obtain⟨V3,j3,e3⟩:=h.join;rw[List.append_nil] at e3;have inw:∀ u,u ∈ y.ks->iV m.k u:=λu hu=>by rw[<- hk];exact h.xB u hu
 have ech:Ip L.length y.rs:=by rw[<- hn];exact j3.ech
 have hr:=Gg ok j j2 ech (λr hr=>by
   have h1:=j3.rows r hr;rw[hn] at h1;refine h1.trans λb hb=>?_;obtain⟨u,hu,rfl⟩:=jY hb;rw[hv u (inw u hu)];have h2:=j.MF.reach u (inw u hu) λq hq=>by cases hq
   have h3:=h2.map (C:=K.map (dJ m L)) (MI m L) λb hb=>by
    obtain⟨z,hz,rfl⟩:=jY hb;refine (bK.mem (List.mem_map.2 ⟨z,(eY.1 hz).1,rfl⟩)).congr λi hi=>?_;have e:(dJ m L z).getD i 0=jP m z (L.getD i []):=aK _ _ hi;exact e.symm
   exact h3.congr λi hi=>aK _ _ hi) λu hu=>by
  have hw:iV m.k u:=hK u hu;have h2:=j3.MF.reach u (by rw[hk];exact hw) λq hq=>by cases hq
  rw[hv u hw,hn] at h2;refine h2.trans λb hb=>?_;obtain⟨z,hz,rfl⟩:=jY hb;have:=j3.kept z (eY.1 hz).1;rw[hn] at this;exact this
 rw[h.count];refine (Hr ?_).symm;have e:zD m.k (wW m)=λ(u l:Wd m.k)=>jP m u.1 l.1:=by
  funext u l;exact (yg l.1 u.1 l.2).symm
 rw[e];exact hr
end
section
variable {mv mm:dZ}{K:List (List Int)}{w:List Int}
theorem Eo {n N:Nat}(a:Nat->Rat)(b:Nat->Nat->Rat)(c:Nat->Rat):aW (λp=>aW (λj=>a j*b j p) N*c p) n=aW (λj=>a j*aW (λp=>b j p*c p) n) N:=by
 have e1:aW (λp=>aW (λj=>a j*b j p) N*c p) n=aW (λp=>aW (λj=>a j*(b j p*c p)) N) n:=aJ λp _=>by
  rw[<- uj];exact aJ λj _=>Rat.mul_assoc ..
 have e2:aW (λj=>a j*aW (λp=>b j p*c p) n) N=aW (λj=>aW (λp=>a j*(b j p*c p)) n) N:=aJ λj _=>(jf ..).symm;rw[e1,e2,qZ]
structure X5 (mv mm:dZ) (K:List (List Int)):Prop where
 n:mm.n=K.length
 k:mm.k=mv.k
 root:0<K.length/\K.getD 0 []=[]
 ini:∀ j,j<K.length->mm.ini.getD j 0=if 0=j then 1 else 0
 fin:∀ j,j<K.length->mm.fin.getD j 0=wW mv (K.getD j [])
 ent:∀ s,s<mv.k->∀ i,i<K.length->∀ q,q<mv.n->(bQ mv (K.getD i []++[((s+1:Nat):Int)])).getD q 0=aW (λj=>sG mm s i j*(bQ mv (K.getD j [])).getD q 0) K.length
theorem X5.vec (h:X5 mv mm K):∀ (n:Nat) (w:List Int),w.length=n->iV mv.k w->∀ q,q<mv.n->(bQ mv w).getD q 0=aW (λj=>(bQ mm w).getD j 0*(bQ mv (K.getD j [])).getD q 0) K.length:=by
 intro n
 induction n with
 | zero =>
  intro w hn _ q _;rw[Gt hn];have e:aW (λj=>(bQ mm []).getD j 0*(bQ mv (K.getD j [])).getD q 0) K.length=aW (λj=>if 0=j then (bQ mv (K.getD j [])).getD q 0 else 0) K.length:=aJ λj hj=>by
   show mm.ini.getD j 0*_=_
   rw[h.ini j hj]
   split
   .rw[Rat.one_mul]
   .rw[Rat.zero_mul]
  rw[e,vU (v:=λj=>(bQ mv (K.getD j [])).getD q 0) h.root.1,h.root.2]
 | succ n ih =>
  intro w hn hw q hq;have hne:w≠[]:=λe=>by rw[e] at hn;cases hn
  obtain⟨z,x,rfl⟩:∃ z x,w=z++[x]:=⟨w.dropLast,w.getLast hne,(List.dropLast_concat_getLast hne).symm⟩;have hx:=hw x (by simp)
  obtain⟨s,hs,rfl⟩:∃ s:Nat,s<mv.k/\x=((s+1:Nat):Int):=⟨x.toNat-1,by omega,by omega⟩
  have hz:iV mv.k z:=λq hq=>hw q (List.mem_append.2 (.inl hq));have es:(((s+1:Nat):Int)).toNat-1=s:=by omega
  have ihz:=ih z (by rw[iU,jL] at hn;omega) hz
  have step:∀ (m:dZ) (u:List Int) (q:Nat),q<m.n->(bQ m (u++[((s+1:Nat):Int)])).getD q 0=aW (λi=>(bQ m u).getD i 0*sG m s i q) m.n:=λm u q hq=>by
   rw[lW,es];unfold stepM;rw[aK _ _ hq]
  have e1:(bQ mv (z++[((s+1:Nat):Int)])).getD q 0=aW (λp=>aW (λj=>(bQ mm z).getD j 0*(bQ mv (K.getD j [])).getD p 0) K.length*sG mv s p q) mv.n:=by
   rw[step mv z q hq];exact aJ λp hp=>by rw[ihz p hp]
  have e2:aW (λl=>(bQ mm (z++[((s+1:Nat):Int)])).getD l 0*(bQ mv (K.getD l [])).getD q 0) K.length=aW (λl=>aW (λj=>(bQ mm z).getD j 0*sG mm s j l) K.length*(bQ mv (K.getD l [])).getD q 0) K.length :=
   aJ λl hl=>by rw[step mm z l (by rw[h.n];exact hl),h.n]
  rw[e1,Eo,e2,Eo];refine aJ λj hj=>?_;congr 1;rw[<- h.ent s hs j hj q hq,step mv _ q hq]
theorem X5.wt (h:X5 mv mm K)(hw:iV mv.k w):wW mm w=wW mv w:=by
 unfold wW Bl;have e1:aW (λq=>vf (bQ mv w) q*vf mv.fin q) mv.n=aW (λq=>aW (λj=>(bQ mm w).getD j 0*(bQ mv (K.getD j [])).getD q 0) K.length*mv.fin.getD q 0) mv.n :=
  aJ λq hq=>by rw[<- h.vec w.length w rfl hw q hq]
 rw[e1,Eo,h.n];refine aJ λj hj=>?_;show (bQ mm w).getD j 0*mm.fin.getD j 0=_
 rw[h.fin j hj];rfl
